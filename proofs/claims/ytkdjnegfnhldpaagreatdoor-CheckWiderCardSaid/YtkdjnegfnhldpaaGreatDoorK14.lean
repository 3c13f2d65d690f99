/- Part 14. -/
import Derived.Test.YtkdjnegfnhldpaaGreatDoorK13
set_option linter.unusedVariables false
set_option maxRecDepth 100000
set_option linter.unusedSimpArgs false
set_option maxHeartbeats 40000000
namespace Go.Proofs.YtkdjnegfnhldpaaGreatDoor
open Go.Proofs.Tryz Go.RowKit
structure VT(w W:World)(g:Nat)(a:AH)(b0 b1 b2 b3 b4:Bool):Prop where
 box:CW W w.heap.size a
 f:W.heap[g]?=some (.cells #[.bool b0,.bool b1,.bool b2,.bool b3,.bool b4] 137 (0,0))
 below:Below w.heap.size w W
theorem VT.drop{w W W':World}{g:Nat}{a:AH}{b0 b1 b2 b3 b4:Bool}(h:VT w W g a b0 b1 b2 b3 b4)(hb:Below W.heap.size W W'):VT w W' g a b0 b1 b2 b3 b4:=⟨h.box.below hb,by rw [hb.block g (Array.getElem?_eq_some_iff.1 h.f).1];exact h.f,h.below.trans (hb.mono h.below.size)⟩
theorem VT.cells{w W:World}{g:Nat}{a:AH}{b0 b1 b2 b3 b4:Bool}(h:VT w W g a b0 b1 b2 b3 b4):(W.cell? ⟨g,0,none⟩=some (.bool b0)∧W.cell? ⟨g,1,none⟩=some (.bool b1)∧W.cell? ⟨g,2,none⟩=some (.bool b2)∧W.cell? ⟨g,3,none⟩=some (.bool b3)∧W.cell? ⟨g,4,none⟩=some (.bool b4))∧W.cell? ⟨w.heap.size,0,none⟩=some (.int .u8 a.kind)∧W.cell? ⟨w.heap.size,8,none⟩=some (.slice a.rp a.rn a.rc)∧W.cell? ⟨w.heap.size,9,none⟩=some (.slice a.ep a.en a.ec)∧W.cell? ⟨w.heap.size,10,none⟩=some (.int .u8 a.ty.head.kind)∧W.cell? ⟨w.heap.size,11,none⟩=some (.int .i64 a.ty.head.rho)∧W.cell? ⟨w.heap.size,12,none⟩=some (.slice a.ty.head.ep a.ty.head.en a.ty.head.ec)∧W.cell? ⟨w.heap.size,13,none⟩=some (.slice a.ty.head.kp a.ty.head.kn a.ty.head.kc)∧W.cell? ⟨w.heap.size,14,none⟩=some (.int .u8 a.res.head.kind)∧W.cell? ⟨w.heap.size,15,none⟩=some (.int .i64 a.res.head.rho)∧W.cell? ⟨w.heap.size,16,none⟩=some (.slice a.res.head.ep a.res.head.en a.res.head.ec)∧W.cell? ⟨w.heap.size,17,none⟩=some (.slice a.res.head.kp a.res.head.kn a.res.head.kc):=by have hf:=h.f;refine⟨⟨?_,?_,?_,?_,?_⟩,h.box.c 0 _ rfl,h.box.c 8 _ rfl,h.box.c 9 _ rfl,h.box.c 10 _ rfl,h.box.c 11 _ rfl,h.box.c 12 _ rfl,h.box.c 13 _ rfl,h.box.c 14 _ rfl,h.box.c 15 _ rfl,h.box.c 16 _ rfl,h.box.c 17 _ rfl⟩<;>simp [World.cell?,hf]
theorem JZ{t:PT}{w:World}{n:Nat}(hl:LR.lies w t)(hs:DX t.er n)(hn:n≤1000000):t.head.en≤1000000∧t.head.kn≤1000000:=by have hN:=UY hl;obtain⟨a,l⟩:=t;rw [PT.er_node] at hs;have h1:=hs.kids;have h2:=Cp hs.eff;have h3:=hN.own.eff.len;have h4:=hN.kids.len;simp only [List.length_map] at h1;have h5:a.eff.length≤200:=h2;have h6:a.eff.length=a.en:=h3;have h7:l.length=a.kn:=h4;show a.en≤1000000∧a.kn≤1000000;omega
theorem KD(a:AH){w:World}(ho:AH.Own w a)(hs:CB a)(hk:a.kn≤1000000)(hv:Vr w):Calls prog 60 #[An a] w (RB w (.bool (Cs a))):=by
 have cD:=Cp hs.eff;have gS:a.en≤1000000:=by have:=ho.eff.len;omega
 obtain⟨nZ,na⟩:=JZ ho.ty hs.ty (by omega);obtain⟨eN,dL⟩:=JZ ho.res hs.res (by omega)
 have HM:Hd (Cs a=(Da a.hd a.kn&&Js a (Ee [3,6,11,13,17,18] a.kind) ((a.kind==13)||(a.kind==18))&&(!(a.kind==13)||GW a.rhos)&&(!(Ee [11,13,18] a.kind)||DM a.eff)&&(Ee [11,13,18] a.kind||!decide (0<a.en)) &&
  (G2 (Ee [11,13,15] a.kind) a.ty&&G2 (a.kind==13) a.res))):=(TA a ho.rhos.len ho.eff.len).symm
 have m9:=ho.eff.max;have CH:∀W,Below w.heap.size w W→Calls prog 90 #[An a] W fun e w'=>e=.returned (.bool (Da a.hd a.kn))∧Below W.heap.size W w':=fun W hb=>Im a ho.k0 ho.k1 hk (hv.below hb);have CR:∀W,Below w.heap.size w W→Calls prog 91 #[An a,Vi a.kind] W fun e w'=>e=.returned (.bool (Js a (Ee [3,6,11,13,17,18] a.kind) ((a.kind==13)||(a.kind==18))))∧Below W.heap.size W w':=fun W hb=>OW a _ _ _ _ _ (ho.rhos.below hb);have CO:∀W,Below w.heap.size w W→Calls prog 92 #[.slice a.rp a.rn a.rc] W fun e w'=>e=.returned (.bool (GW a.rhos))∧Below W.heap.size W w':=fun W hb=>TD (ho.rhos.below hb) (by have:=hs.rhos;omega);have CM:∀W,Below w.heap.size w W→Calls prog 93 #[.slice a.ep a.en a.ec] W fun e w'=>e=.returned (.bool (DM a.eff))∧Below W.heap.size W w':=fun W hb=>FY rfl (ho.eff.below hb);have CF1:∀W,Below w.heap.size w W→Calls prog 94 #[.bool (Ee [11,13,15] a.kind),C9 a.ty.head] W fun e w'=>e=.returned (.bool (G2 (Ee [11,13,15] a.kind) a.ty))∧Below W.heap.size W w':=fun W hb=>GE _ _ (LR.lies_below hb _ ho.ty) nZ na;have CF2:∀W,Below w.heap.size w W→Calls prog 94 #[.bool (a.kind==13),C9 a.res.head] W fun e w'=>e=.returned (.bool (G2 (a.kind==13) a.res))∧Below W.heap.size W w':=fun W hb=>GE _ _ (LR.lies_below hb _ ho.res) eN dL;have COf:=AA (VH a.kind (w.alloc (AO a)));have dU:=AA ((Below.refl w.heap.size w).alloc (Nat.le_refl _) (AO a));have cR:=AA (Ah w a);unfold Vi at COf CR;clear ho hs hk hv cD nZ na eN dL;generalize Da a.hd a.kn=H at *
 generalize Js a (Ee [3,6,11,13,17,18] a.kind) ((a.kind==13)||(a.kind==18))=R at *
 generalize GW a.rhos=O at *
 generalize DM a.eff=M at *
 generalize G2 (Ee [11,13,15] a.kind) a.ty=F1 at *
 generalize G2 (a.kind==13) a.res=F2 at *
 generalize Ee [3,6,11,13,17,18] a.kind=I1 at *
 generalize ((a.kind==13)||(a.kind==18))=FH at *
 generalize Ee [11,13,18] a.kind=I2 at *
 generalize Ee [11,13,15] a.kind=I3 at *
 generalize bn:(a.kind==13)=K13 at *
 have fY:=AA CH;have kz:=AA CR;have eQ:=AA CO;have eP:=AA CM;have cK:=AA CF1;have cL:=AA CF2;clear CH CR CO CM CF1 CF2;have c0:=cR.o.c 0 _ rfl;go_enter func60,ntmps60;go_upto_region 2 with(go_at_call 89;refine COf.out.mono ?_;rintro e w2 ⟨rfl,hb⟩;have aI:=AA hb;clear hb)
 have HN:Hd (VT w (w2.alloc (.cells #[.bool I1,.bool FH,.bool I2,.bool I3,.bool K13] 137)) w2.heap.size a I1 FH I2 I3 K13):=AA ⟨(cR.o.below aI.o).below bA,heap_alloc_new w2 _,(dU.o.trans (aI.o.mono dU.o.size)).alloc (dU.o.trans (aI.o.mono dU.o.size)).size _⟩;generalize w2.alloc (.cells #[.bool I1,.bool FH,.bool I2,.bool I3,.bool K13] 137)=W at *
 clear c0 COf dU cR;generalize w2.heap.size=g at *
 clear aI;obtain⟨⟨f0,f1,f2,f3,f4⟩,c0,c8,c9,c10,c11,c12,c13,c14,c15,c16,c17⟩:=HN.o.cells;cases H with
 |false=>
  go_wp2_with (first
   |(refine lw HN.o.box.blk underlying31 ?_)
   |(go_at_call 90;refine(fY.o _ HN.o.below).mono ?_;rintro e w8 ⟨rfl,hb⟩;have HN:=AA (HN.o.drop hb);clear hb f0 f1 f2 f3 f4 c0 c8 c9 c10 c11 c12 c13 c14 c15 c16 c17;obtain⟨⟨f0,f1,f2,f3,f4⟩,c0,c8,c9,c10,c11,c12,c13,c14,c15,c16,c17⟩:=HN.o.cells))
  go_ret;exact⟨AE (by rw [HM.o];rfl),HN.o.below⟩
 |true=>
  rw [Bool.true_and] at HM;cases R with
  |false=>
   go_wp2_with (first
    |(refine lw HN.o.box.blk underlying31 ?_)
    |(go_at_call 90;refine(fY.o _ HN.o.below).mono ?_;rintro e w8 ⟨rfl,hb⟩;have HN:=AA (HN.o.drop hb);clear hb f0 f1 f2 f3 f4 c0 c8 c9 c10 c11 c12 c13 c14 c15 c16 c17;obtain⟨⟨f0,f1,f2,f3,f4⟩,c0,c8,c9,c10,c11,c12,c13,c14,c15,c16,c17⟩:=HN.o.cells)
    |(go_at_call 91;refine(kz.o _ HN.o.below).mono ?_;rintro e w8 ⟨rfl,hb⟩;have HN:=AA (HN.o.drop hb);clear hb f0 f1 f2 f3 f4 c0 c8 c9 c10 c11 c12 c13 c14 c15 c16 c17;obtain⟨⟨f0,f1,f2,f3,f4⟩,c0,c8,c9,c10,c11,c12,c13,c14,c15,c16,c17⟩:=HN.o.cells))
   go_ret;exact⟨AE (by rw [HM.o];rfl),HN.o.below⟩
  |true=>
   rw [Bool.true_and] at HM
   go_upto_region 4 with(first
    |(refine lw HN.o.box.blk underlying31 ?_)
    |(go_at_call 90;refine(fY.o _ HN.o.below).mono ?_;rintro e w8 ⟨rfl,hb⟩;have HN:=AA (HN.o.drop hb);clear hb f0 f1 f2 f3 f4 c0 c8 c9 c10 c11 c12 c13 c14 c15 c16 c17;obtain⟨⟨f0,f1,f2,f3,f4⟩,c0,c8,c9,c10,c11,c12,c13,c14,c15,c16,c17⟩:=HN.o.cells)
    |(go_at_call 91;refine(kz.o _ HN.o.below).mono ?_;rintro e w8 ⟨rfl,hb⟩;have HN:=AA (HN.o.drop hb);clear hb f0 f1 f2 f3 f4 c0 c8 c9 c10 c11 c12 c13 c14 c15 c16 c17;obtain⟨⟨f0,f1,f2,f3,f4⟩,c0,c8,c9,c10,c11,c12,c13,c14,c15,c16,c17⟩:=HN.o.cells))
   clear fY kz;cases K13 with
   |true=>
    cases O with
    |false=>
     have aU:=cK
     go_wp2_with (first
      |(go_at_call 92;refine(eQ.o _ HN.o.below).mono ?_;rintro e w8 ⟨rfl,hb⟩;have HN:=AA (HN.o.drop hb);clear hb f0 f1 f2 f3 f4 c0 c8 c9 c10 c11 c12 c13 c14 c15 c16 c17;obtain⟨⟨f0,f1,f2,f3,f4⟩,c0,c8,c9,c10,c11,c12,c13,c14,c15,c16,c17⟩:=HN.o.cells)
      |(go_at_call 93;refine(eP.o _ HN.o.below).mono ?_;rintro e w8 ⟨rfl,hb⟩;have HN:=AA (HN.o.drop hb);clear hb f0 f1 f2 f3 f4 c0 c8 c9 c10 c11 c12 c13 c14 c15 c16 c17;obtain⟨⟨f0,f1,f2,f3,f4⟩,c0,c8,c9,c10,c11,c12,c13,c14,c15,c16,c17⟩:=HN.o.cells)
      |(go_at_call 94;refine(aU.o _ HN.o.below).mono ?_;rintro e w8 ⟨rfl,hb⟩;clear aU;have aU:=cL;have HN:=AA (HN.o.drop hb);clear hb f0 f1 f2 f3 f4 c0 c8 c9 c10 c11 c12 c13 c14 c15 c16 c17;obtain⟨⟨f0,f1,f2,f3,f4⟩,c0,c8,c9,c10,c11,c12,c13,c14,c15,c16,c17⟩:=HN.o.cells))
     go_ret;exact⟨AE (by rw [HM.o];rfl),HN.o.below⟩
    |true=>
     cases I2 with
     |true=>
      cases M with
      |false=>
       have aU:=cK
       go_wp2_with (first
        |(go_at_call 92;refine(eQ.o _ HN.o.below).mono ?_;rintro e w8 ⟨rfl,hb⟩;have HN:=AA (HN.o.drop hb);clear hb f0 f1 f2 f3 f4 c0 c8 c9 c10 c11 c12 c13 c14 c15 c16 c17;obtain⟨⟨f0,f1,f2,f3,f4⟩,c0,c8,c9,c10,c11,c12,c13,c14,c15,c16,c17⟩:=HN.o.cells)
        |(go_at_call 93;refine(eP.o _ HN.o.below).mono ?_;rintro e w8 ⟨rfl,hb⟩;have HN:=AA (HN.o.drop hb);clear hb f0 f1 f2 f3 f4 c0 c8 c9 c10 c11 c12 c13 c14 c15 c16 c17;obtain⟨⟨f0,f1,f2,f3,f4⟩,c0,c8,c9,c10,c11,c12,c13,c14,c15,c16,c17⟩:=HN.o.cells)
        |(go_at_call 94;refine(aU.o _ HN.o.below).mono ?_;rintro e w8 ⟨rfl,hb⟩;clear aU;have aU:=cL;have HN:=AA (HN.o.drop hb);clear hb f0 f1 f2 f3 f4 c0 c8 c9 c10 c11 c12 c13 c14 c15 c16 c17;obtain⟨⟨f0,f1,f2,f3,f4⟩,c0,c8,c9,c10,c11,c12,c13,c14,c15,c16,c17⟩:=HN.o.cells))
       go_ret;exact⟨AE (by rw [HM.o];rfl),HN.o.below⟩
      |true=>
       cases F1 with
       |false=>
        have aU:=cK
        go_wp2_with (first
         |(go_at_call 92;refine(eQ.o _ HN.o.below).mono ?_;rintro e w8 ⟨rfl,hb⟩;have HN:=AA (HN.o.drop hb);clear hb f0 f1 f2 f3 f4 c0 c8 c9 c10 c11 c12 c13 c14 c15 c16 c17;obtain⟨⟨f0,f1,f2,f3,f4⟩,c0,c8,c9,c10,c11,c12,c13,c14,c15,c16,c17⟩:=HN.o.cells)
         |(go_at_call 93;refine(eP.o _ HN.o.below).mono ?_;rintro e w8 ⟨rfl,hb⟩;have HN:=AA (HN.o.drop hb);clear hb f0 f1 f2 f3 f4 c0 c8 c9 c10 c11 c12 c13 c14 c15 c16 c17;obtain⟨⟨f0,f1,f2,f3,f4⟩,c0,c8,c9,c10,c11,c12,c13,c14,c15,c16,c17⟩:=HN.o.cells)
         |(go_at_call 94;refine(aU.o _ HN.o.below).mono ?_;rintro e w8 ⟨rfl,hb⟩;clear aU;have aU:=cL;have HN:=AA (HN.o.drop hb);clear hb f0 f1 f2 f3 f4 c0 c8 c9 c10 c11 c12 c13 c14 c15 c16 c17;obtain⟨⟨f0,f1,f2,f3,f4⟩,c0,c8,c9,c10,c11,c12,c13,c14,c15,c16,c17⟩:=HN.o.cells))
        go_ret;exact⟨AE (by rw [HM.o];rfl),HN.o.below⟩
       |true=>
        rw [Bool.true_and] at HM;have aU:=cK
        go_wp2_with (first
         |(go_at_call 92;refine(eQ.o _ HN.o.below).mono ?_;rintro e w8 ⟨rfl,hb⟩;have HN:=AA (HN.o.drop hb);clear hb f0 f1 f2 f3 f4 c0 c8 c9 c10 c11 c12 c13 c14 c15 c16 c17;obtain⟨⟨f0,f1,f2,f3,f4⟩,c0,c8,c9,c10,c11,c12,c13,c14,c15,c16,c17⟩:=HN.o.cells)
         |(go_at_call 93;refine(eP.o _ HN.o.below).mono ?_;rintro e w8 ⟨rfl,hb⟩;have HN:=AA (HN.o.drop hb);clear hb f0 f1 f2 f3 f4 c0 c8 c9 c10 c11 c12 c13 c14 c15 c16 c17;obtain⟨⟨f0,f1,f2,f3,f4⟩,c0,c8,c9,c10,c11,c12,c13,c14,c15,c16,c17⟩:=HN.o.cells)
         |(go_at_call 94;refine(aU.o _ HN.o.below).mono ?_;rintro e w8 ⟨rfl,hb⟩;clear aU;have aU:=cL;have HN:=AA (HN.o.drop hb);clear hb f0 f1 f2 f3 f4 c0 c8 c9 c10 c11 c12 c13 c14 c15 c16 c17;obtain⟨⟨f0,f1,f2,f3,f4⟩,c0,c8,c9,c10,c11,c12,c13,c14,c15,c16,c17⟩:=HN.o.cells))
        go_ret;exact⟨AE (by rw [HM.o];rfl),HN.o.below⟩
     |false=>
      by_cases hE:0<a.en
      ·rw [decide_eq_true hE] at HM;have aU:=cK
       go_wp2_with (first
        |(go_at_call 92;refine(eQ.o _ HN.o.below).mono ?_;rintro e w8 ⟨rfl,hb⟩;have HN:=AA (HN.o.drop hb);clear hb f0 f1 f2 f3 f4 c0 c8 c9 c10 c11 c12 c13 c14 c15 c16 c17;obtain⟨⟨f0,f1,f2,f3,f4⟩,c0,c8,c9,c10,c11,c12,c13,c14,c15,c16,c17⟩:=HN.o.cells)
        |(go_at_call 93;refine(eP.o _ HN.o.below).mono ?_;rintro e w8 ⟨rfl,hb⟩;have HN:=AA (HN.o.drop hb);clear hb f0 f1 f2 f3 f4 c0 c8 c9 c10 c11 c12 c13 c14 c15 c16 c17;obtain⟨⟨f0,f1,f2,f3,f4⟩,c0,c8,c9,c10,c11,c12,c13,c14,c15,c16,c17⟩:=HN.o.cells)
        |(go_at_call 94;refine(aU.o _ HN.o.below).mono ?_;rintro e w8 ⟨rfl,hb⟩;clear aU;have aU:=cL;have HN:=AA (HN.o.drop hb);clear hb f0 f1 f2 f3 f4 c0 c8 c9 c10 c11 c12 c13 c14 c15 c16 c17;obtain⟨⟨f0,f1,f2,f3,f4⟩,c0,c8,c9,c10,c11,c12,c13,c14,c15,c16,c17⟩:=HN.o.cells))
       go_ret;exact⟨AE (by rw [HM.o];rfl),HN.o.below⟩
      ·rw [decide_eq_false hE] at HM;cases F1 with
       |false=>
        have aU:=cK
        go_wp2_with (first
         |(go_at_call 92;refine(eQ.o _ HN.o.below).mono ?_;rintro e w8 ⟨rfl,hb⟩;have HN:=AA (HN.o.drop hb);clear hb f0 f1 f2 f3 f4 c0 c8 c9 c10 c11 c12 c13 c14 c15 c16 c17;obtain⟨⟨f0,f1,f2,f3,f4⟩,c0,c8,c9,c10,c11,c12,c13,c14,c15,c16,c17⟩:=HN.o.cells)
         |(go_at_call 93;refine(eP.o _ HN.o.below).mono ?_;rintro e w8 ⟨rfl,hb⟩;have HN:=AA (HN.o.drop hb);clear hb f0 f1 f2 f3 f4 c0 c8 c9 c10 c11 c12 c13 c14 c15 c16 c17;obtain⟨⟨f0,f1,f2,f3,f4⟩,c0,c8,c9,c10,c11,c12,c13,c14,c15,c16,c17⟩:=HN.o.cells)
         |(go_at_call 94;refine(aU.o _ HN.o.below).mono ?_;rintro e w8 ⟨rfl,hb⟩;clear aU;have aU:=cL;have HN:=AA (HN.o.drop hb);clear hb f0 f1 f2 f3 f4 c0 c8 c9 c10 c11 c12 c13 c14 c15 c16 c17;obtain⟨⟨f0,f1,f2,f3,f4⟩,c0,c8,c9,c10,c11,c12,c13,c14,c15,c16,c17⟩:=HN.o.cells))
        go_ret;exact⟨AE (by rw [HM.o];rfl),HN.o.below⟩
       |true=>
        rw [Bool.true_and] at HM;have aU:=cK
        go_wp2_with (first
         |(go_at_call 92;refine(eQ.o _ HN.o.below).mono ?_;rintro e w8 ⟨rfl,hb⟩;have HN:=AA (HN.o.drop hb);clear hb f0 f1 f2 f3 f4 c0 c8 c9 c10 c11 c12 c13 c14 c15 c16 c17;obtain⟨⟨f0,f1,f2,f3,f4⟩,c0,c8,c9,c10,c11,c12,c13,c14,c15,c16,c17⟩:=HN.o.cells)
         |(go_at_call 93;refine(eP.o _ HN.o.below).mono ?_;rintro e w8 ⟨rfl,hb⟩;have HN:=AA (HN.o.drop hb);clear hb f0 f1 f2 f3 f4 c0 c8 c9 c10 c11 c12 c13 c14 c15 c16 c17;obtain⟨⟨f0,f1,f2,f3,f4⟩,c0,c8,c9,c10,c11,c12,c13,c14,c15,c16,c17⟩:=HN.o.cells)
         |(go_at_call 94;refine(aU.o _ HN.o.below).mono ?_;rintro e w8 ⟨rfl,hb⟩;clear aU;have aU:=cL;have HN:=AA (HN.o.drop hb);clear hb f0 f1 f2 f3 f4 c0 c8 c9 c10 c11 c12 c13 c14 c15 c16 c17;obtain⟨⟨f0,f1,f2,f3,f4⟩,c0,c8,c9,c10,c11,c12,c13,c14,c15,c16,c17⟩:=HN.o.cells))
        go_ret;exact⟨AE (by rw [HM.o];rfl),HN.o.below⟩
   |false=>
    cases I2 with
    |true=>
     cases M with
     |false=>
      have aU:=cK
      go_wp2_with (first
       |(go_at_call 92;refine(eQ.o _ HN.o.below).mono ?_;rintro e w8 ⟨rfl,hb⟩;have HN:=AA (HN.o.drop hb);clear hb f0 f1 f2 f3 f4 c0 c8 c9 c10 c11 c12 c13 c14 c15 c16 c17;obtain⟨⟨f0,f1,f2,f3,f4⟩,c0,c8,c9,c10,c11,c12,c13,c14,c15,c16,c17⟩:=HN.o.cells)
       |(go_at_call 93;refine(eP.o _ HN.o.below).mono ?_;rintro e w8 ⟨rfl,hb⟩;have HN:=AA (HN.o.drop hb);clear hb f0 f1 f2 f3 f4 c0 c8 c9 c10 c11 c12 c13 c14 c15 c16 c17;obtain⟨⟨f0,f1,f2,f3,f4⟩,c0,c8,c9,c10,c11,c12,c13,c14,c15,c16,c17⟩:=HN.o.cells)
       |(go_at_call 94;refine(aU.o _ HN.o.below).mono ?_;rintro e w8 ⟨rfl,hb⟩;clear aU;have aU:=cL;have HN:=AA (HN.o.drop hb);clear hb f0 f1 f2 f3 f4 c0 c8 c9 c10 c11 c12 c13 c14 c15 c16 c17;obtain⟨⟨f0,f1,f2,f3,f4⟩,c0,c8,c9,c10,c11,c12,c13,c14,c15,c16,c17⟩:=HN.o.cells))
      go_ret;exact⟨AE (by rw [HM.o];rfl),HN.o.below⟩
     |true=>
      cases F1 with
      |false=>
       have aU:=cK
       go_wp2_with (first
        |(go_at_call 92;refine(eQ.o _ HN.o.below).mono ?_;rintro e w8 ⟨rfl,hb⟩;have HN:=AA (HN.o.drop hb);clear hb f0 f1 f2 f3 f4 c0 c8 c9 c10 c11 c12 c13 c14 c15 c16 c17;obtain⟨⟨f0,f1,f2,f3,f4⟩,c0,c8,c9,c10,c11,c12,c13,c14,c15,c16,c17⟩:=HN.o.cells)
        |(go_at_call 93;refine(eP.o _ HN.o.below).mono ?_;rintro e w8 ⟨rfl,hb⟩;have HN:=AA (HN.o.drop hb);clear hb f0 f1 f2 f3 f4 c0 c8 c9 c10 c11 c12 c13 c14 c15 c16 c17;obtain⟨⟨f0,f1,f2,f3,f4⟩,c0,c8,c9,c10,c11,c12,c13,c14,c15,c16,c17⟩:=HN.o.cells)
        |(go_at_call 94;refine(aU.o _ HN.o.below).mono ?_;rintro e w8 ⟨rfl,hb⟩;clear aU;have aU:=cL;have HN:=AA (HN.o.drop hb);clear hb f0 f1 f2 f3 f4 c0 c8 c9 c10 c11 c12 c13 c14 c15 c16 c17;obtain⟨⟨f0,f1,f2,f3,f4⟩,c0,c8,c9,c10,c11,c12,c13,c14,c15,c16,c17⟩:=HN.o.cells))
       go_ret;exact⟨AE (by rw [HM.o];rfl),HN.o.below⟩
      |true=>
       rw [Bool.true_and] at HM;have aU:=cK
       go_wp2_with (first
        |(go_at_call 92;refine(eQ.o _ HN.o.below).mono ?_;rintro e w8 ⟨rfl,hb⟩;have HN:=AA (HN.o.drop hb);clear hb f0 f1 f2 f3 f4 c0 c8 c9 c10 c11 c12 c13 c14 c15 c16 c17;obtain⟨⟨f0,f1,f2,f3,f4⟩,c0,c8,c9,c10,c11,c12,c13,c14,c15,c16,c17⟩:=HN.o.cells)
        |(go_at_call 93;refine(eP.o _ HN.o.below).mono ?_;rintro e w8 ⟨rfl,hb⟩;have HN:=AA (HN.o.drop hb);clear hb f0 f1 f2 f3 f4 c0 c8 c9 c10 c11 c12 c13 c14 c15 c16 c17;obtain⟨⟨f0,f1,f2,f3,f4⟩,c0,c8,c9,c10,c11,c12,c13,c14,c15,c16,c17⟩:=HN.o.cells)
        |(go_at_call 94;refine(aU.o _ HN.o.below).mono ?_;rintro e w8 ⟨rfl,hb⟩;clear aU;have aU:=cL;have HN:=AA (HN.o.drop hb);clear hb f0 f1 f2 f3 f4 c0 c8 c9 c10 c11 c12 c13 c14 c15 c16 c17;obtain⟨⟨f0,f1,f2,f3,f4⟩,c0,c8,c9,c10,c11,c12,c13,c14,c15,c16,c17⟩:=HN.o.cells))
       go_ret;exact⟨AE (by rw [HM.o];rfl),HN.o.below⟩
    |false=>
     by_cases hE:0<a.en
     ·rw [decide_eq_true hE] at HM;have aU:=cK
      go_wp2_with (first
       |(go_at_call 92;refine(eQ.o _ HN.o.below).mono ?_;rintro e w8 ⟨rfl,hb⟩;have HN:=AA (HN.o.drop hb);clear hb f0 f1 f2 f3 f4 c0 c8 c9 c10 c11 c12 c13 c14 c15 c16 c17;obtain⟨⟨f0,f1,f2,f3,f4⟩,c0,c8,c9,c10,c11,c12,c13,c14,c15,c16,c17⟩:=HN.o.cells)
       |(go_at_call 93;refine(eP.o _ HN.o.below).mono ?_;rintro e w8 ⟨rfl,hb⟩;have HN:=AA (HN.o.drop hb);clear hb f0 f1 f2 f3 f4 c0 c8 c9 c10 c11 c12 c13 c14 c15 c16 c17;obtain⟨⟨f0,f1,f2,f3,f4⟩,c0,c8,c9,c10,c11,c12,c13,c14,c15,c16,c17⟩:=HN.o.cells)
       |(go_at_call 94;refine(aU.o _ HN.o.below).mono ?_;rintro e w8 ⟨rfl,hb⟩;clear aU;have aU:=cL;have HN:=AA (HN.o.drop hb);clear hb f0 f1 f2 f3 f4 c0 c8 c9 c10 c11 c12 c13 c14 c15 c16 c17;obtain⟨⟨f0,f1,f2,f3,f4⟩,c0,c8,c9,c10,c11,c12,c13,c14,c15,c16,c17⟩:=HN.o.cells))
      go_ret;exact⟨AE (by rw [HM.o];rfl),HN.o.below⟩
     ·rw [decide_eq_false hE] at HM;cases F1 with
      |false=>
       have aU:=cK
       go_wp2_with (first
        |(go_at_call 92;refine(eQ.o _ HN.o.below).mono ?_;rintro e w8 ⟨rfl,hb⟩;have HN:=AA (HN.o.drop hb);clear hb f0 f1 f2 f3 f4 c0 c8 c9 c10 c11 c12 c13 c14 c15 c16 c17;obtain⟨⟨f0,f1,f2,f3,f4⟩,c0,c8,c9,c10,c11,c12,c13,c14,c15,c16,c17⟩:=HN.o.cells)
        |(go_at_call 93;refine(eP.o _ HN.o.below).mono ?_;rintro e w8 ⟨rfl,hb⟩;have HN:=AA (HN.o.drop hb);clear hb f0 f1 f2 f3 f4 c0 c8 c9 c10 c11 c12 c13 c14 c15 c16 c17;obtain⟨⟨f0,f1,f2,f3,f4⟩,c0,c8,c9,c10,c11,c12,c13,c14,c15,c16,c17⟩:=HN.o.cells)
        |(go_at_call 94;refine(aU.o _ HN.o.below).mono ?_;rintro e w8 ⟨rfl,hb⟩;clear aU;have aU:=cL;have HN:=AA (HN.o.drop hb);clear hb f0 f1 f2 f3 f4 c0 c8 c9 c10 c11 c12 c13 c14 c15 c16 c17;obtain⟨⟨f0,f1,f2,f3,f4⟩,c0,c8,c9,c10,c11,c12,c13,c14,c15,c16,c17⟩:=HN.o.cells))
       go_ret;exact⟨AE (by rw [HM.o];rfl),HN.o.below⟩
      |true=>
       rw [Bool.true_and] at HM;have aU:=cK
       go_wp2_with (first
        |(go_at_call 92;refine(eQ.o _ HN.o.below).mono ?_;rintro e w8 ⟨rfl,hb⟩;have HN:=AA (HN.o.drop hb);clear hb f0 f1 f2 f3 f4 c0 c8 c9 c10 c11 c12 c13 c14 c15 c16 c17;obtain⟨⟨f0,f1,f2,f3,f4⟩,c0,c8,c9,c10,c11,c12,c13,c14,c15,c16,c17⟩:=HN.o.cells)
        |(go_at_call 93;refine(eP.o _ HN.o.below).mono ?_;rintro e w8 ⟨rfl,hb⟩;have HN:=AA (HN.o.drop hb);clear hb f0 f1 f2 f3 f4 c0 c8 c9 c10 c11 c12 c13 c14 c15 c16 c17;obtain⟨⟨f0,f1,f2,f3,f4⟩,c0,c8,c9,c10,c11,c12,c13,c14,c15,c16,c17⟩:=HN.o.cells)
        |(go_at_call 94;refine(aU.o _ HN.o.below).mono ?_;rintro e w8 ⟨rfl,hb⟩;clear aU;have aU:=cL;have HN:=AA (HN.o.drop hb);clear hb f0 f1 f2 f3 f4 c0 c8 c9 c10 c11 c12 c13 c14 c15 c16 c17;obtain⟨⟨f0,f1,f2,f3,f4⟩,c0,c8,c9,c10,c11,c12,c13,c14,c15,c16,c17⟩:=HN.o.cells))
       go_ret;exact⟨AE (by rw [HM.o];rfl),HN.o.below⟩
theorem Jg(a:AH)(b:Nat)(z:Int)(W:World)(h:B6 b z W):Calls prog 88 #[An a,.pointer (some ⟨b,0,none⟩)] W fun e w'=>e=.returned (.bool (Fr a z).1)∧B6 b (Fr a z).2 w'∧W.grownBy w' (some b):=by have HA:=AA (h.below ((Below.refl _ _).alloc (Nat.le_refl _) (AO a)));obtain⟨q0,qf⟩:=HA.o.cells;obtain⟨Z,hZ⟩:∃Z,IntKind.i64.wrap (z+1)=Z:=⟨_,rfl⟩;have HZ:Hd ((Fr a z).2=Z):=hZ;clear h;go_enter func88,ntmps88;go_wp2_with fail;go_ret;refine⟨rfl,?_⟩;rw [HZ.o];exact⟨HA.o.set Z,(World.grownBy_alloc W _ _).trans (AG _ _ _ _)⟩
theorem Sr{w0:World}{b:Nat}(hb:w0.heap.size≤b):Vu w0 (some b) 88 #[.pointer (some ⟨b,0,none⟩)] (B6 b) (fun _=>True) Fr where
 eg:=fun args w=>rfl
 hb:=fun b' h=>by injection h with h;omega
 lt:=fun b' h s W hi=>by injection h with h;rw [←h];exact hi.lt
 inv:=fun s W W' hi al=>hi.below al
 call:=fun a s W _ _ hi=>Jg a b s W hi
theorem KC{w:World}{p:Option Addr}{n c:Nat}{l:List PA}(hr:C7 w p n c l){m:Nat}(hm:(AX l).length=m)(h3:m≤1000000):Calls prog 58 #[.slice p n c] w (RB w (.int .i64 m)):=by
 have HE:=AA (GD (Sr (w0:=w) (b:=w.heap.size) (Nat.le_refl _)) l p n c hr (fun _ _=>trivial));have HP:Hd (AN Fr (AX l) 0=(true,(m:Int))):=by show _=_;rw [JA (AX l) 0 (by omega) (by omega),hm];congr 1;omega
 have HI:Hd (B6 w.heap.size 0 (w.alloc (.cells #[.int .i64 0] 3))):=heap_alloc_new w _;have HB:=AA ((Below.refl w.heap.size w).alloc (Nat.le_refl _) (.cells #[.int .i64 0] 3));have HG:=AA (World.grownBy_alloc w (.cells #[.int .i64 0] 3) (some w.heap.size));clear hr hm;go_enter func58,ntmps58;go_wp2_with (go_at_call 59;refine(HE.o 0 _ HB.o HI.o).mono ?_;rw [HP.o];rintro e w2 ⟨rfl,bU,ai⟩;obtain⟨q0,qf⟩:=bU.cells;have cz:=AA (HG.o.trans ai);clear bU ai);go_ret;exact⟨rfl,Ds cz.o (Nat.le_refl _) (fun b hb=>by injection hb with hb;omega)⟩
theorem H4{w:World}{t:PA}(hl:LA.lies w t)(e:TypeId)(gs:Nat)(bF:w.heap.size=gs):C7 (w.alloc (.cells #[.int .u8 t.head.kind,.int .u8 t.head.op,.int .i64 t.head.at_,.int .i64 t.head.n,.string t.head.name,.string t.head.arg,.string t.head.exn,.int .i64 t.head.rho,.slice t.head.rp t.head.rn t.head.rc,.slice t.head.ep t.head.en t.head.ec,.int .u8 t.head.ty.head.kind,.int .i64 t.head.ty.head.rho,.slice t.head.ty.head.ep t.head.ty.head.en t.head.ty.head.ec,.slice t.head.ty.head.kp t.head.ty.head.kn t.head.ty.head.kc,.int .u8 t.head.res.head.kind,.int .i64 t.head.res.head.rho,.slice t.head.res.head.ep t.head.res.head.en t.head.res.head.ec,.slice t.head.res.head.kp t.head.res.head.kn t.head.res.head.kc,.slice t.head.kp t.head.kn t.head.kc] e)) (some ⟨gs,0,none⟩) 1 1 [t]:=by
 subst bF;refine⟨AW Et (by omega) w e [t] 1 _ ?_ rfl (by decide),fun x hx=>?_⟩
 ·simp [F7.encT,LA,Bg]
 ·have:x=t:=by simpa using hx
  subst this;exact LA.lies_below ((Below.refl _ w).alloc (Nat.le_refl _) _) x hl
theorem Rn{w:World}(t:PA):LA.lies w t→∀a∈AD.nodes t,AH.Own w a∧a.kn≤t.size:=by
 refine AD.ind (P:=fun(t:PA)=>LA.lies w t→∀a∈AD.nodes t,AH.Own w a∧a.kn≤t.size) (fun a l ih hl x hx=>?_) t;have hN:=Cb hl;rw [AD.nodes_node,List.mem_cons] at hx;rw [AD.size_node];rcases hx with rfl|hx
 ·refine⟨hN.own,?_⟩;have h1:=OA l;have h2:=hN.kids.len;omega
 ·rw [List.mem_flatten] at hx;obtain⟨m,hm,hx⟩:=hx;obtain⟨y,hy,rfl⟩:=List.mem_map.1 hm;obtain⟨h1,h2⟩:=ih y hy (hN.each y hy) x hx;have h3:y.size≤(l.map AD.size).sum:=Ay (List.mem_map_of_mem hy);exact⟨h1,by omega⟩
def Qn(a:AH)(_:Unit):Bool×Unit:=(Cs a,())
theorem Hc:∀l:List AH,(AN Qn l ()).1=l.all Cs
 |[]=>rfl
 |a::l=>by
  show (if(Cs a)=true then AN Qn l () else(false,())).1=_;rw [List.all_cons];cases h:Cs a
  ·rfl
  ·rw [if_pos rfl,Hc l];rfl
theorem Ss{w0:World}(hv:Vr w0):Vu w0 none 60 #[] (fun(_:Unit) _=>True) (fun a=>AH.Own w0 a∧CB a∧a.kn≤1000000) Qn where
 eg:=fun args w=>rfl
 hb:=fun b' h=>by cases h
 lt:=fun b' h=>by cases h
 inv:=fun _ _ _ _ _=>trivial
 call:=fun a s W ok hb _=>by refine(KD a (LA.below ok.1 hb) ok.2.1 ok.2.2 (hv.below hb)).mono ?_;rintro e w' ⟨rfl,bB⟩;exact⟨rfl,trivial,bB.os,bB.tape,bB.output,bB.size,fun k hk _=>bB.block k hk⟩
def Ep(t:PA):Bool:=(AD.nodes t).all Cs
theorem Dx(t:PA){w:World}(hl:LA.lies w t)(hs:A5 t)(hz:t.size≤1000)(hv:Vr w):Calls prog 35 #[An t.head] w (RB w (.bool (Ep t))):=by
 have HB:=AA ((Below.refl w.heap.size w).alloc (Nat.le_refl _) (AO t.head));have aM:=AA (Ah w t.head);have HV:=AA hv;have aa:=AA (fun(W:World) (hb:Below w.heap.size w W) (e:TypeId) (gs:Nat) (h:W.heap.size=gs)=>H4 (LA.lies_below hb t hl) e gs h);have aJ:(AX [t]).length=t.size:=by simp [AX,Df]
 have dv:Hd ((AN Qn (AX [t]) ()).1=Ep t):=by show _=_;rw [Hc];simp [AX,Ep]
 have cu:=AA (fun(W:World) (hb:Below w.heap.size w W) (a:AH) (ha:a∈AX [t])=>(show AH.Own W a∧CB a∧a.kn≤1000000 by
  have ig:a∈AD.nodes t:=by simpa [AX] using ha
  obtain⟨h1,h2⟩:=Rn t hl a ig;exact⟨LA.below h1 hb,hs a ig,by omega⟩))
 have dC:decide ((t.size:Int)≤40000)=true:=by simp;omega
 have eT:=AA aJ;clear hl hs hv aJ;go_enter func35,ntmps35
 go_wp2_with (first
  |(refine lw aM.o.blk underlying31 ?_)
  |(refine Pr [.int .u8 t.head.kind,.int .u8 t.head.op,.int .i64 t.head.at_,.int .i64 t.head.n,.string t.head.name,.string t.head.arg,.string t.head.exn,.int .i64 t.head.rho,.slice t.head.rp t.head.rn t.head.rc,.slice t.head.ep t.head.en t.head.ec,.int .u8 t.head.ty.head.kind,.int .i64 t.head.ty.head.rho,.slice t.head.ty.head.ep t.head.ty.head.en t.head.ty.head.ec,.slice t.head.ty.head.kp t.head.ty.head.kn t.head.ty.head.kc,.int .u8 t.head.res.head.kind,.int .i64 t.head.res.head.rho,.slice t.head.res.head.ep t.head.res.head.en t.head.res.head.ec,.slice t.head.res.head.kp t.head.res.head.kn t.head.res.head.kc,.slice t.head.kp t.head.kn t.head.kc] aM.o.range underlying31 ?_)
  |(go_at_call 58;refine(KC (aa.o _ HB.o _ _ (by simp)) eT.o (by omega)).mono ?_;rintro e w2 ⟨rfl,hb⟩;have aI:=AA ((HB.o.alloc HB.o.size _).trans (hb.mono (HB.o.alloc HB.o.size _).size));have aM:=AA ((aM.o.below bA).below hb);clear hb)
  |(go_at_call 59;refine(GD (Ss (HV.o.below (aI.o.alloc aI.o.size _))) [t] _ _ _ (aa.o _ aI.o _ _ (by simp)) (fun a ha=>cu.o _ (aI.o.alloc aI.o.size _) a ha) () _ (Below.refl _ _) trivial).mono ?_;rw [dv.o];rintro e w3 ⟨rfl,_,aP⟩;have aT:=AA (Ds aP (Nat.le_refl _) (fun b h=>by cases h));clear aP))
 go_ret;exact⟨rfl,aI.o.trans (((Below.refl _ w2).alloc (Nat.le_refl _) _ |>.trans (aT.o.mono (by simp))).mono aI.o.size)⟩
structure EA where
 name:ByteArray
 ty:RT
 fn:Option CL
abbrev TE:=RT×List AB
abbrev EY:=Except (Int×Int) TE
def CC(r:Int):AB:=⟨1,r,⟨#[]⟩⟩
def Bu(r:Int):AB:=⟨2,r,⟨#[]⟩⟩
def E3(x:ByteArray):AB:=⟨3,0,x⟩
def A8:RT:=.node ⟨0,0,[]⟩ []
def Fi:RT:=.node ⟨1,0,[]⟩ []
def Bf:TE:=(A8,[])
def A1(l:List TE)(more:List AB):List AB:=BE (more++l.flatMap (·.2))
def DF(x y:RT):Bool:=AD.same Ez x y
def Jn(a:CL)(no:Int):EY:=.error (a.at_,no)
def A6(b:Bool)(a:CL)(no:Int)(r:EY):EY:=if b then r else Jn a no
def Br(rhos l:List Int):Bool:=l.all (FA rhos)
def Bh(a:CL)(rhos:List Int):Bool:=
 (decide (a.kind=17)||FA rhos a.rho)&&(!decide (a.kind=18)||Br rhos a.rhos) &&
  (Br (if a.kind=13 then rhos++a.rhos else rhos) (BN a.eff)&&Br (if a.kind=13 then rhos++a.rhos else rhos) (BU (B2 a.ty++B2 a.res)))
def EL(env:List EA)(x:ByteArray):Option EA:=env.reverse.find? (fun b=>decide (b.name=x))
def H8(k rho:Int)(eff:List AB)(l:List RT):RT:=.node ⟨k,rho,BE eff⟩ l
def Ii(env:List EA)(a:CL):EY:=
 match EL env a.name with
 |none=>Jn a 4
 |some b=>A6 b.fn.isNone a 5 (.ok (b.ty,[]))
def C8(env:List EA)(a:CL):EY:=
 match EL env a.name with
 |none=>Jn a 4
 |some b=>
  match b.fn with
  |none=>Jn a 5
  |some f=>A6 (decide (f.rhos.length=a.rhos.length)) a 5 (A6 (Ag (Ig f.rhos a.rhos f.eff) a.eff) a 6
   (.ok (H8 4 a.rho a.eff [BQ f.rhos a.rhos f.ty,BQ f.rhos a.rhos f.res],BE [CC f.rho,Bu a.rho])))
def I0(k:Int)(x:TE):Bool:=x.1.head.kind==k
def Bv(a:CL)(l:List TE):EY:=
 let x:=l.getD 0 Bf
 let y:=l.getD 1 Bf
 if a.kind=11 then A6 (Ag x.2 a.eff) a 6 (.ok (H8 4 a.rho a.eff [a.ty,x.1],BE [Bu a.rho]))
 else if a.kind=13 then A6 (DF x.1 a.res) a 5 (A6 (Ag x.2 a.eff) a 6 (.ok (y.1,A1 (l.drop 1) [Bu a.rho])))
 else if a.kind=16 then A6 (DF x.1 y.1) a 5 (.ok (x.1,BE (CZ x.2 [a.exn]++y.2)))
 else if a.kind=17 then A6 (!FA (BU (B2 x.1)) a.rho) a 6 (.ok (x.1,Cw x.2 [a.rho]))
 else .ok (y.1,A1 l [])
def A3(a:CL)(l:List TE):EY:=
 let x:=l.getD 0 Bf
 let y:=l.getD 1 Bf
 let z:=l.getD 2 Bf
 if a.kind=3 then .ok (H8 2 a.rho [] [x.1,y.1],A1 l [Bu a.rho])
 else if a.kind=4∨a.kind=5 then A6 (I0 2 x) a 5 (.ok (x.1.kids.getD (a.kind-4).toNat A8,A1 l [CC x.1.head.rho]))
 else if a.kind=6 then .ok (H8 3 a.rho [] [x.1],A1 l [Bu a.rho])
 else if a.kind=7 then A6 (I0 3 x) a 5 (.ok (x.1.kids.getD 0 A8,A1 l [CC x.1.head.rho]))
 else if a.kind=8 then A6 (I0 3 x&&DF (x.1.kids.getD 0 A8) y.1) a 5 (.ok (Fi,A1 l [Bu x.1.head.rho]))
 else if a.kind=10 then A6 (I0 4 x&&DF (x.1.kids.getD 0 A8) y.1) a 5 (.ok (x.1.kids.getD 1 A8,BE (A1 l [CC x.1.head.rho]++x.1.head.eff)))
 else if a.kind=9 then A6 (l.all (I0 1)) a 5 (.ok (Fi,A1 l []))
 else if a.kind=14 then A6 (I0 1 x&&DF y.1 z.1) a 5 (.ok (y.1,A1 l []))
 else if a.kind=15 then A6 (l.all (I0 1)) a 5 (.ok (a.ty,A1 l [E3 a.exn]))
 else if a.kind=1 then .ok (Fi,A1 l [])
 else Bv a l
def Ai(env:List EA)(a:CL)(i:Nat)(acc:List TE):List EA:=
 if a.kind=11 then env++[⟨a.arg,a.ty,none⟩]
 else if a.kind=12∧i=1 then env++[⟨a.name,(acc.getD 0 Bf).1,none⟩]
 else if a.kind=13∧i=0 then env++[⟨a.name,A8,some a⟩,⟨a.arg,a.ty,none⟩]
 else if a.kind=13 then env++[⟨a.name,A8,some a⟩]
 else if a.kind=16∧i=1 then env++[⟨a.arg,Fi,none⟩]
 else env
def Aq(rhos:List Int)(a:CL)(i:Nat):List Int:=if a.kind=13∧i=0 then rhos++a.rhos else if a.kind=17 then rhos++[a.rho] else rhos
def K2(a:CL)(r:EY):EY:=
 match r with
 |.ok x=>A6 (decide (x.1.size≤500)) a 3 (.ok x)
 |.error e=>.error e
mutual
def chk(env:List EA)(rhos:List Int):AT→EY
 |.node a l=>
  K2 a (A6 (Bh a rhos) a 4 (
   if a.kind=2 then Ii env a
   else if a.kind=18 then C8 env a
   else match FE env rhos a 0 [] l with
    |.error e=>.error e
    |.ok ks=>A3 a ks))
def FE(env:List EA)(rhos:List Int)(a:CL)(i:Nat)(acc:List TE):List AT→Except (Int×Int) (List TE)
 |[]=>.ok acc
 |t::l=>
  match chk (Ai env a i acc) (Aq rhos a i) t with
  |.error e=>.error e
  |.ok r=>FE env rhos a (i+1) (acc++[r]) l
end
def Bw(env:List EA)(rhos:List Int)(a:CL)(l:List AT):EY:=
 A6 (Bh a rhos) a 4 (
  if a.kind=2 then Ii env a
  else if a.kind=18 then C8 env a
  else match FE env rhos a 0 [] l with
   |.error e=>.error e
   |.ok ks=>A3 a ks)
theorem KK(env:List EA)(rhos:List Int)(a:CL)(l:List AT):chk env rhos (.node a l)=K2 a (Bw env rhos a l):=by rw [chk];rfl
theorem GJ(env:List EA)(rhos:List Int)(a:CL)(i:Nat)(acc:List TE):FE env rhos a i acc []=.ok acc:=by rw [FE]
theorem EW(env:List EA)(rhos:List Int)(a:CL)(i:Nat)(acc:List TE)(t:AT)(l:List AT):FE env rhos a i acc (t::l)=match chk (Ai env a i acc) (Aq rhos a i) t with
 |.error e=>.error e
 |.ok r=>FE env rhos a (i+1) (acc++[r]) l:=by rw [FE]
def Bm(a:CL):List Int:=if a.kind=17 then [a.rho] else if a.kind=13 then a.rhos else []
theorem As{b:Bool}{a:CL}{no:Int}{r:EY}{x:TE}:A6 b a no r=.ok x↔b=true∧r=.ok x:=by unfold A6 Jn;cases b<;>simp
theorem Tk{a:CL}{r:EY}{x:TE}:K2 a r=.ok x↔r=.ok x∧x.1.size≤500:=by
 unfold K2;cases r with
 |error e=>simp
 |ok y=>
  simp only [As,decide_eq_true_eq,Except.ok.injEq];constructor
  ·rintro⟨h,rfl⟩;exact⟨rfl,h⟩
  ·rintro⟨rfl,h⟩;exact⟨h,rfl⟩
theorem Me{env:List EA}{rhos:List Int}{a:CL}:∀(l:List AT) (i:Nat) (acc ks:List TE),FE env rhos a i acc l=.ok ks→∃rs,ks=acc++rs∧rs.length=l.length∧∀j t,l[j]?=some t→∃r,rs[j]?=some r∧chk (Ai env a (i+j) (acc++rs.take j)) (Aq rhos a (i+j)) t=.ok r
 |[],i,acc,ks,h=>by rw [GJ] at h;cases h;exact⟨[],by simp,rfl,fun j t h=>by simp at h⟩
 |t::l,i,acc,ks,h=>by
  rw [EW] at h;cases hr:chk (Ai env a i acc) (Aq rhos a i) t with
  |error e=>rw [hr] at h;cases h
  |ok r=>
   rw [hr] at h;obtain⟨rs,rfl,hl,hj⟩:=Me l (i+1) (acc++[r]) ks h;refine⟨r::rs,by simp,by simp [hl],fun j u hu=>?_⟩;cases j with
   |zero=>simp at hu;subst hu;exact⟨r,rfl,by simpa using hr⟩
   |succ j=>
    obtain⟨r',h1,h2⟩:=hj j u (by simpa using hu);refine⟨r',by simpa using h1,?_⟩;have e1:i+(j+1)=i+1+j:=by omega
    rw [e1];simpa using h2
theorem FL{env:List EA}{rhos:List Int}{a:CL}{l:List AT}{x:TE}:Bw env rhos a l=.ok x↔Bh a rhos=true∧((a.kind=2∧Ii env a=.ok x)∨(a.kind=18∧C8 env a=.ok x)∨(a.kind≠2∧a.kind≠18∧∃ks,FE env rhos a 0 [] l=.ok ks∧A3 a ks=.ok x)):=by
 unfold Bw;rw [As];refine and_congr_right (fun _=>?_);by_cases h2:a.kind=2
 ·simp [h2]
 ·by_cases bL:a.kind=18
  ·simp [bL]
  ·rw [if_neg h2,if_neg bL];simp only [h2,bL,false_and,false_or,not_false_eq_true,true_and,ne_eq];cases h:FE env rhos a 0 [] l with
   |error e=>simp
   |ok ks=>simp
theorem Ir{env:List EA}{rhos:List Int}{a:CL}{l:List AT}{x:TE}:chk env rhos (.node a l)=.ok x↔Bw env rhos a l=.ok x∧x.1.size≤500:=by rw [KK,Tk]
theorem Og(rhos l:List Int):Br rhos l=true↔∀z∈l,z∈rhos:=by unfold Br;rw [List.all_eq_true];exact forall_congr' (fun z=>forall_congr' (fun _=>D5 rhos z))
theorem M5(a:CL)(rhos:List Int):Bh a rhos=true↔(a.kind=17∨a.rho∈rhos)∧(a.kind=18→∀z∈a.rhos,z∈rhos)∧(∀z∈BN a.eff,z∈rhos∨a.kind=13∧z∈a.rhos)∧(∀z,z∈B2 a.ty∨z∈B2 a.res→z∈rhos∨a.kind=13∧z∈a.rhos):=by
 unfold Bh;simp only [Bool.and_eq_true,Bool.or_eq_true,decide_eq_true_eq,Bool.not_eq_true',decide_eq_false_iff_not,Og,D5];have e:∀z,(z∈(if a.kind=13 then rhos++a.rhos else rhos))↔(z∈rhos∨a.kind=13∧z∈a.rhos):=fun z=>by split<;>rename_i h<;>simp [h]
 simp only [e,DT,List.mem_append];constructor
 ·rintro⟨⟨h1,h2⟩,h3,h4⟩;exact⟨h1,fun hk=>h2.resolve_left (fun h=>h hk),h3,h4⟩
 ·rintro⟨h1,h2,h3,h4⟩;refine⟨⟨h1,?_⟩,h3,h4⟩;by_cases hk:a.kind=18
  ·exact .inr (h2 hk)
  ·exact .inl hk
inductive B8 (a:CL) (l:List TE):TE→Prop where
 |pair (h:a.kind=3):B8 a l (H8 2 a.rho [] [(l.getD 0 Bf).1,(l.getD 1 Bf).1],A1 l [Bu a.rho])
 |proj (h:a.kind=4∨a.kind=5) (ht:I0 2 (l.getD 0 Bf)=true):B8 a l ((l.getD 0 Bf).1.kids.getD (a.kind-4).toNat A8,A1 l [CC (l.getD 0 Bf).1.head.rho])
 |ref (h:a.kind=6):B8 a l (H8 3 a.rho [] [(l.getD 0 Bf).1],A1 l [Bu a.rho])
 |get (h:a.kind=7) (ht:I0 3 (l.getD 0 Bf)=true):B8 a l ((l.getD 0 Bf).1.kids.getD 0 A8,A1 l [CC (l.getD 0 Bf).1.head.rho])
 |set (h:a.kind=8) (ht:I0 3 (l.getD 0 Bf)=true) (hs:DF ((l.getD 0 Bf).1.kids.getD 0 A8) (l.getD 1 Bf).1=true):B8 a l (Fi,A1 l [Bu (l.getD 0 Bf).1.head.rho])
 |app (h:a.kind=10) (ht:I0 4 (l.getD 0 Bf)=true) (hs:DF ((l.getD 0 Bf).1.kids.getD 0 A8) (l.getD 1 Bf).1=true) :
  B8 a l ((l.getD 0 Bf).1.kids.getD 1 A8,BE (A1 l [CC (l.getD 0 Bf).1.head.rho]++(l.getD 0 Bf).1.head.eff))
 |op (h:a.kind=9) (ht:l.all (I0 1)=true):B8 a l (Fi,A1 l [])
 |ite (h:a.kind=14) (ht:I0 1 (l.getD 0 Bf)=true) (hs:DF (l.getD 1 Bf).1 (l.getD 2 Bf).1=true):B8 a l ((l.getD 1 Bf).1,A1 l [])
 |raise (h:a.kind=15) (ht:l.all (I0 1)=true):B8 a l (a.ty,A1 l [E3 a.exn])
 |num (h:a.kind=1):B8 a l (Fi,A1 l [])
 |fn (h:a.kind=11) (hw:Ag (l.getD 0 Bf).2 a.eff=true):B8 a l (H8 4 a.rho a.eff [a.ty,(l.getD 0 Bf).1],BE [Bu a.rho])
 |letrec (h:a.kind=13) (hs:DF (l.getD 0 Bf).1 a.res=true) (hw:Ag (l.getD 0 Bf).2 a.eff=true):B8 a l ((l.getD 1 Bf).1,A1 (l.drop 1) [Bu a.rho])
 |handle (h:a.kind=16) (hs:DF (l.getD 0 Bf).1 (l.getD 1 Bf).1=true):B8 a l ((l.getD 0 Bf).1,BE (CZ (l.getD 0 Bf).2 [a.exn]++(l.getD 1 Bf).2))
 |region (h:a.kind=17) (hn:FA (BU (B2 (l.getD 0 Bf).1)) a.rho=false):B8 a l ((l.getD 0 Bf).1,Cw (l.getD 0 Bf).2 [a.rho])
 |other (h:a.kind∉[(1:Int),3,4,5,6,7,8,9,10,11,13,14,15,16,17]):B8 a l ((l.getD 1 Bf).1,A1 l [])
theorem Ib{a:CL}{l:List TE}{x:TE}:A3 a l=.ok x↔B8 a l x:=by
 constructor
 ·intro h;unfold A3 Bv at h;dsimp only at h;by_cases k:a.kind=3
  ·rw [if_pos k] at h;cases h;exact .pair k
  rw [if_neg k] at h;have k3:=k;clear k;by_cases k:a.kind=4∨a.kind=5
  ·rw [if_pos k] at h;rw [As] at h;obtain⟨h1,h2⟩:=h;cases h2;exact .proj k h1
  rw [if_neg k] at h;have k45:=k;clear k;by_cases k:a.kind=6
  ·rw [if_pos k] at h;cases h;exact .ref k
  rw [if_neg k] at h;have k6:=k;clear k;by_cases k:a.kind=7
  ·rw [if_pos k] at h;rw [As] at h;obtain⟨h1,h2⟩:=h;cases h2;exact .get k h1
  rw [if_neg k] at h;have k7:=k;clear k;by_cases k:a.kind=8
  ·rw [if_pos k] at h;rw [As,Bool.and_eq_true] at h;obtain⟨⟨h1,h3⟩,h2⟩:=h;cases h2;exact .set k h1 h3
  rw [if_neg k] at h;have k8:=k;clear k;by_cases k:a.kind=10
  ·rw [if_pos k] at h;rw [As,Bool.and_eq_true] at h;obtain⟨⟨h1,h3⟩,h2⟩:=h;cases h2;exact .app k h1 h3
  rw [if_neg k] at h;have k10:=k;clear k;by_cases k:a.kind=9
  ·rw [if_pos k] at h;rw [As] at h;obtain⟨h1,h2⟩:=h;cases h2;exact .op k h1
  rw [if_neg k] at h;have k9:=k;clear k;by_cases k:a.kind=14
  ·rw [if_pos k] at h;rw [As,Bool.and_eq_true] at h;obtain⟨⟨h1,h3⟩,h2⟩:=h;cases h2;exact .ite k h1 h3
  rw [if_neg k] at h;have k14:=k;clear k;by_cases k:a.kind=15
  ·rw [if_pos k] at h;rw [As] at h;obtain⟨h1,h2⟩:=h;cases h2;exact .raise k h1
  rw [if_neg k] at h;have k15:=k;clear k;by_cases k:a.kind=1
  ·rw [if_pos k] at h;cases h;exact .num k
  rw [if_neg k] at h;have k1:=k;clear k;by_cases k:a.kind=11
  ·rw [if_pos k] at h;rw [As] at h;obtain⟨h1,h2⟩:=h;cases h2;exact .fn k h1
  rw [if_neg k] at h;have k11:=k;clear k;by_cases k:a.kind=13
  ·rw [if_pos k] at h;rw [As,As] at h;obtain⟨h1,h3,h2⟩:=h;cases h2;exact .letrec k h1 h3
  rw [if_neg k] at h;have k13:=k;clear k;by_cases k:a.kind=16
  ·rw [if_pos k] at h;rw [As] at h;obtain⟨h1,h2⟩:=h;cases h2;exact .handle k h1
  rw [if_neg k] at h;have k16:=k;clear k;by_cases k:a.kind=17
  ·rw [if_pos k] at h;rw [As] at h;obtain⟨h1,h2⟩:=h;cases h2;exact .region k (by simpa using h1)
  rw [if_neg k] at h;have k17:=k;clear k;cases h;refine .other ?_;simp only [List.mem_cons,List.not_mem_nil,or_false,not_or];refine⟨?_,?_,?_,?_,?_,?_,?_,?_,?_,?_,?_,?_,?_,?_,?_⟩<;>first|assumption|omega
 ·intro h;unfold A3 Bv;cases h with
  |proj k ht=>
   have h3:a.kind≠3:=by omega
   rw [if_neg h3,if_pos k,As];exact⟨ht,rfl⟩
  |other k=>
   simp only [List.mem_cons,List.not_mem_nil,or_false,not_or] at k;obtain⟨k1,k3,k4,k5,k6,k7,k8,k9,k10,k11,k13,k14,k15,k16,k17⟩:=k;simp [k1,k3,k4,k5,k6,k7,k8,k9,k10,k11,k13,k14,k15,k16,k17]
  |_=>simp_all [As]
theorem Ar(l:List AB)(x:AB):x∈BE l↔x∈l∧AM x=true:=by rw [By,List.mem_filter]
structure V4(rhos:List Int)(x:TE):Prop where
 ty:∀z∈B2 x.1,z∈rhos
 eff:∀z∈BN x.2,z∈rhos
theorem Pc:B2 A8=[0]:=rfl
theorem V4.zero{rhos:List Int}(h0:(0:Int)∈rhos):V4 rhos Bf:=⟨fun z hz=>by
 have:z=0:=by simpa [Bf,Pc] using hz
 subst this;exact h0,fun z hz=>by simp [Bf,BN,BU,E0] at hz⟩
theorem Qm{f t:List Int}{l:List AB}{x:AB}(h:x∈Ig f t l):∃y∈l,AM y=true∧x=Fw f t y∧AM x=true:=by unfold Ig at h;rw [By,List.mem_filter,List.mem_map] at h;obtain⟨⟨y,hy,rfl⟩,h2⟩:=h;rw [By,List.mem_filter] at hy;exact⟨y,hy.1,hy.2,rfl,h2⟩
structure Vy(rhos:List Int)(b:EA):Prop where
 ty:∀z∈B2 b.ty,z∈rhos
 fn:∀f,b.fn=some f→f.rho∈rhos∧(∀z∈BN f.eff,z∈rhos∨z∈f.rhos)∧∀z,z∈B2 f.ty∨z∈B2 f.res→z∈rhos∨z∈f.rhos
theorem Vy.mono{rhos rhos':List Int}{b:EA}(h:Vy rhos b)(hr:∀z∈rhos,z∈rhos'):Vy rhos' b:=⟨fun z hz=>hr z (h.ty z hz),fun f hf=>⟨hr _ (h.fn f hf).1,fun z hz=>((h.fn f hf).2.1 z hz).imp (hr z) id,fun z hz=>((h.fn f hf).2.2 z hz).imp (hr z) id⟩⟩
theorem Gl{env:List EA}{x:ByteArray}{b:EA}(h:EL env x=some b):b∈env∧b.name=x:=by unfold EL at h;exact⟨List.mem_reverse.1 (List.mem_of_find?_eq_some h),by simpa using List.find?_some h⟩
end Go.Proofs.YtkdjnegfnhldpaaGreatDoor
