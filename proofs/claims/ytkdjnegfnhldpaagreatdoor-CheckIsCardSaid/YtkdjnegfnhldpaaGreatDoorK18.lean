/- Part 18. -/
import Derived.Test.YtkdjnegfnhldpaaGreatDoorK17
set_option linter.unusedVariables false
set_option maxRecDepth 100000
set_option linter.unusedSimpArgs false
set_option maxHeartbeats 40000000
namespace Go.Proofs.YtkdjnegfnhldpaaGreatDoor
open Go.Proofs.Tryz Go.RowKit
structure XF(w W:World)(g:Nat)(a:AH)(b0 b1 b2 b3 b4:Bool):Prop where
 box:Fq W w.heap.size a
 f:W.heap[g]?=some (.cells #[.bool b0,.bool b1,.bool b2,.bool b3,.bool b4] 137 (0,0))
 below:Below w.heap.size w W
theorem XF.drop{w W W':World}{g:Nat}{a:AH}{b0 b1 b2 b3 b4:Bool}(h:XF w W g a b0 b1 b2 b3 b4)(hb:Below W.heap.size W W'):XF w W' g a b0 b1 b2 b3 b4:=⟨h.box.below hb,by rw [hb.block g (Array.getElem?_eq_some_iff.1 h.f).1];exact h.f,h.below.trans (hb.mono h.below.size)⟩
theorem XF.cells{w W:World}{g:Nat}{a:AH}{b0 b1 b2 b3 b4:Bool}(h:XF w W g a b0 b1 b2 b3 b4):(W.cell? ⟨g,0,none⟩=some (.bool b0)∧W.cell? ⟨g,1,none⟩=some (.bool b1)∧W.cell? ⟨g,2,none⟩=some (.bool b2)∧W.cell? ⟨g,3,none⟩=some (.bool b3)∧W.cell? ⟨g,4,none⟩=some (.bool b4))∧W.cell? ⟨w.heap.size,0,none⟩=some (.int .u8 a.kind)∧W.cell? ⟨w.heap.size,8,none⟩=some (.slice a.rp a.rn a.rc)∧W.cell? ⟨w.heap.size,9,none⟩=some (.slice a.ep a.en a.ec)∧W.cell? ⟨w.heap.size,10,none⟩=some (.int .u8 a.ty.head.kind)∧W.cell? ⟨w.heap.size,11,none⟩=some (.int .i64 a.ty.head.rho)∧W.cell? ⟨w.heap.size,12,none⟩=some (.slice a.ty.head.ep a.ty.head.en a.ty.head.ec)∧W.cell? ⟨w.heap.size,13,none⟩=some (.slice a.ty.head.kp a.ty.head.kn a.ty.head.kc)∧W.cell? ⟨w.heap.size,14,none⟩=some (.int .u8 a.res.head.kind)∧W.cell? ⟨w.heap.size,15,none⟩=some (.int .i64 a.res.head.rho)∧W.cell? ⟨w.heap.size,16,none⟩=some (.slice a.res.head.ep a.res.head.en a.res.head.ec)∧W.cell? ⟨w.heap.size,17,none⟩=some (.slice a.res.head.kp a.res.head.kn a.res.head.kc):=by have hf:=h.f;refine⟨⟨?_,?_,?_,?_,?_⟩,h.box.c 0 _ rfl,h.box.c 8 _ rfl,h.box.c 9 _ rfl,h.box.c 10 _ rfl,h.box.c 11 _ rfl,h.box.c 12 _ rfl,h.box.c 13 _ rfl,h.box.c 14 _ rfl,h.box.c 15 _ rfl,h.box.c 16 _ rfl,h.box.c 17 _ rfl⟩<;>simp [World.cell?,hf]
theorem LZ{t:PT}{w:World}{n:Nat}(hl:LR.lies w t)(hs:EU t.er n)(hn:n≤1000000):t.head.en≤1000000∧t.head.kn≤1000000:=by have hN:=PF hl;obtain⟨a,l⟩:=t;rw [PT.er_node] at hs;have h1:=hs.kids;have h2:=Dg hs.eff;have h3:=hN.own.eff.len;have h4:=hN.kids.len;simp only [List.length_map] at h1;have h5:a.eff.length≤100:=h2;have h6:a.eff.length=a.en:=h3;have h7:l.length=a.kn:=h4;show a.en≤1000000∧a.kn≤1000000;omega
theorem MM(a:AH){w:World}(ho:AH.Own w a)(hs:Bl a)(hk:a.kn≤1000000)(hv:Vr w):Calls prog 60 #[Aj a] w (RB w (.bool (C7 a))):=by
 have kw:=Dg hs.eff;have dy:a.en≤1000000:=by have:=ho.eff.len;omega
 obtain⟨di,iD⟩:=LZ ho.ty hs.ty (by omega);obtain⟨d7,eI⟩:=LZ ho.res hs.res (by omega)
 have HM:Hd (C7 a=(Cl a.hd a.kn&&Lx a (ED [3,6,11,13,17,18] a.kind) ((a.kind==13)||(a.kind==18))&&(!(a.kind==13)||IV a.rhos)&&(!(ED [11,13,18] a.kind)||DD a.eff)&&(ED [11,13,18] a.kind||!decide (0<a.en)) &&
  (JB (ED [11,13,15] a.kind) a.ty&&JB (a.kind==13) a.res))):=(U6 a ho.rhos.len ho.eff.len).symm
 have qU:=ho.eff.max;have CH:∀W,Below w.heap.size w W→Calls prog 90 #[Aj a] W fun e w'=>e=.returned (.bool (Cl a.hd a.kn))∧Below W.heap.size W w':=fun W hb=>Ke a ho.k0 ho.k1 hk (hv.below hb);have CR:∀W,Below w.heap.size w W→Calls prog 91 #[Aj a,XT a.kind] W fun e w'=>e=.returned (.bool (Lx a (ED [3,6,11,13,17,18] a.kind) ((a.kind==13)||(a.kind==18))))∧Below W.heap.size W w':=fun W hb=>Qp a _ _ _ _ _ (ho.rhos.below hb);have CO:∀W,Below w.heap.size w W→Calls prog 92 #[.slice a.rp a.rn a.rc] W fun e w'=>e=.returned (.bool (IV a.rhos))∧Below W.heap.size W w':=fun W hb=>U7 (ho.rhos.below hb) (by have:=hs.rhos;omega);have CM:∀W,Below w.heap.size w W→Calls prog 93 #[.slice a.ep a.en a.ec] W fun e w'=>e=.returned (.bool (DD a.eff))∧Below W.heap.size W w':=fun W hb=>Gt rfl (ho.eff.below hb);have CF1:∀W,Below w.heap.size w W→Calls prog 94 #[.bool (ED [11,13,15] a.kind),Ci a.ty.head] W fun e w'=>e=.returned (.bool (JB (ED [11,13,15] a.kind) a.ty))∧Below W.heap.size W w':=fun W hb=>H7 _ _ (LR.lies_below hb _ ho.ty) di iD;have CF2:∀W,Below w.heap.size w W→Calls prog 94 #[.bool (a.kind==13),Ci a.res.head] W fun e w'=>e=.returned (.bool (JB (a.kind==13) a.res))∧Below W.heap.size W w':=fun W hb=>H7 _ _ (LR.lies_below hb _ ho.res) d7 eI;have COf:=AA (Wy a.kind (w.alloc (AO a)));have cx:=AA ((Below.refl w.heap.size w).alloc (Nat.le_refl _) (AO a));have dj:=AA (Aa w a);unfold XT at COf CR;clear ho hs hk hv kw di iD d7 eI;generalize Cl a.hd a.kn=H at *
 generalize Lx a (ED [3,6,11,13,17,18] a.kind) ((a.kind==13)||(a.kind==18))=R at *
 generalize IV a.rhos=O at *
 generalize DD a.eff=M at *
 generalize JB (ED [11,13,15] a.kind) a.ty=F1 at *
 generalize JB (a.kind==13) a.res=F2 at *
 generalize ED [3,6,11,13,17,18] a.kind=I1 at *
 generalize ((a.kind==13)||(a.kind==18))=FH at *
 generalize ED [11,13,18] a.kind=I2 at *
 generalize ED [11,13,15] a.kind=I3 at *
 generalize cI:(a.kind==13)=K13 at *
 have eR:=AA CH;have oH:=AA CR;have gX:=AA CO;have gW:=AA CM;have dR:=AA CF1;have dS:=AA CF2;clear CH CR CO CM CF1 CF2;have c0:=dj.o.c 0 _ rfl;go_enter func60,ntmps60;go_upto_region 2 with(go_at_call 89;refine COf.out.mono ?_;rintro e w2 ⟨rfl,hb⟩;have aK:=AA hb;clear hb)
 have HN:Hd (XF w (w2.alloc (.cells #[.bool I1,.bool FH,.bool I2,.bool I3,.bool K13] 137)) w2.heap.size a I1 FH I2 I3 K13):=AA ⟨(dj.o.below aK.o).below bA,heap_alloc_new w2 _,(cx.o.trans (aK.o.mono cx.o.size)).alloc (cx.o.trans (aK.o.mono cx.o.size)).size _⟩;generalize w2.alloc (.cells #[.bool I1,.bool FH,.bool I2,.bool I3,.bool K13] 137)=W at *
 clear c0 COf cx dj;generalize w2.heap.size=g at *
 clear aK;obtain⟨⟨f0,f1,f2,f3,f4⟩,c0,c8,c9,c10,c11,c12,c13,c14,c15,c16,c17⟩:=HN.o.cells;cases H with
 |false=>
  go_wp2_with (first
   |(refine lw HN.o.box.blk underlying31 ?_)
   |(go_at_call 90;refine(eR.o _ HN.o.below).mono ?_;rintro e w8 ⟨rfl,hb⟩;have HN:=AA (HN.o.drop hb);clear hb f0 f1 f2 f3 f4 c0 c8 c9 c10 c11 c12 c13 c14 c15 c16 c17;obtain⟨⟨f0,f1,f2,f3,f4⟩,c0,c8,c9,c10,c11,c12,c13,c14,c15,c16,c17⟩:=HN.o.cells))
  go_ret;exact⟨AB (by rw [HM.o];rfl),HN.o.below⟩
 |true=>
  rw [Bool.true_and] at HM;cases R with
  |false=>
   go_wp2_with (first
    |(refine lw HN.o.box.blk underlying31 ?_)
    |(go_at_call 90;refine(eR.o _ HN.o.below).mono ?_;rintro e w8 ⟨rfl,hb⟩;have HN:=AA (HN.o.drop hb);clear hb f0 f1 f2 f3 f4 c0 c8 c9 c10 c11 c12 c13 c14 c15 c16 c17;obtain⟨⟨f0,f1,f2,f3,f4⟩,c0,c8,c9,c10,c11,c12,c13,c14,c15,c16,c17⟩:=HN.o.cells)
    |(go_at_call 91;refine(oH.o _ HN.o.below).mono ?_;rintro e w8 ⟨rfl,hb⟩;have HN:=AA (HN.o.drop hb);clear hb f0 f1 f2 f3 f4 c0 c8 c9 c10 c11 c12 c13 c14 c15 c16 c17;obtain⟨⟨f0,f1,f2,f3,f4⟩,c0,c8,c9,c10,c11,c12,c13,c14,c15,c16,c17⟩:=HN.o.cells))
   go_ret;exact⟨AB (by rw [HM.o];rfl),HN.o.below⟩
  |true=>
   rw [Bool.true_and] at HM
   go_upto_region 4 with(first
    |(refine lw HN.o.box.blk underlying31 ?_)
    |(go_at_call 90;refine(eR.o _ HN.o.below).mono ?_;rintro e w8 ⟨rfl,hb⟩;have HN:=AA (HN.o.drop hb);clear hb f0 f1 f2 f3 f4 c0 c8 c9 c10 c11 c12 c13 c14 c15 c16 c17;obtain⟨⟨f0,f1,f2,f3,f4⟩,c0,c8,c9,c10,c11,c12,c13,c14,c15,c16,c17⟩:=HN.o.cells)
    |(go_at_call 91;refine(oH.o _ HN.o.below).mono ?_;rintro e w8 ⟨rfl,hb⟩;have HN:=AA (HN.o.drop hb);clear hb f0 f1 f2 f3 f4 c0 c8 c9 c10 c11 c12 c13 c14 c15 c16 c17;obtain⟨⟨f0,f1,f2,f3,f4⟩,c0,c8,c9,c10,c11,c12,c13,c14,c15,c16,c17⟩:=HN.o.cells))
   clear eR oH;cases K13 with
   |true=>
    cases O with
    |false=>
     have ai:=dR
     go_wp2_with (first
      |(go_at_call 92;refine(gX.o _ HN.o.below).mono ?_;rintro e w8 ⟨rfl,hb⟩;have HN:=AA (HN.o.drop hb);clear hb f0 f1 f2 f3 f4 c0 c8 c9 c10 c11 c12 c13 c14 c15 c16 c17;obtain⟨⟨f0,f1,f2,f3,f4⟩,c0,c8,c9,c10,c11,c12,c13,c14,c15,c16,c17⟩:=HN.o.cells)
      |(go_at_call 93;refine(gW.o _ HN.o.below).mono ?_;rintro e w8 ⟨rfl,hb⟩;have HN:=AA (HN.o.drop hb);clear hb f0 f1 f2 f3 f4 c0 c8 c9 c10 c11 c12 c13 c14 c15 c16 c17;obtain⟨⟨f0,f1,f2,f3,f4⟩,c0,c8,c9,c10,c11,c12,c13,c14,c15,c16,c17⟩:=HN.o.cells)
      |(go_at_call 94;refine(ai.o _ HN.o.below).mono ?_;rintro e w8 ⟨rfl,hb⟩;clear ai;have ai:=dS;have HN:=AA (HN.o.drop hb);clear hb f0 f1 f2 f3 f4 c0 c8 c9 c10 c11 c12 c13 c14 c15 c16 c17;obtain⟨⟨f0,f1,f2,f3,f4⟩,c0,c8,c9,c10,c11,c12,c13,c14,c15,c16,c17⟩:=HN.o.cells))
     go_ret;exact⟨AB (by rw [HM.o];rfl),HN.o.below⟩
    |true=>
     cases I2 with
     |true=>
      cases M with
      |false=>
       have ai:=dR
       go_wp2_with (first
        |(go_at_call 92;refine(gX.o _ HN.o.below).mono ?_;rintro e w8 ⟨rfl,hb⟩;have HN:=AA (HN.o.drop hb);clear hb f0 f1 f2 f3 f4 c0 c8 c9 c10 c11 c12 c13 c14 c15 c16 c17;obtain⟨⟨f0,f1,f2,f3,f4⟩,c0,c8,c9,c10,c11,c12,c13,c14,c15,c16,c17⟩:=HN.o.cells)
        |(go_at_call 93;refine(gW.o _ HN.o.below).mono ?_;rintro e w8 ⟨rfl,hb⟩;have HN:=AA (HN.o.drop hb);clear hb f0 f1 f2 f3 f4 c0 c8 c9 c10 c11 c12 c13 c14 c15 c16 c17;obtain⟨⟨f0,f1,f2,f3,f4⟩,c0,c8,c9,c10,c11,c12,c13,c14,c15,c16,c17⟩:=HN.o.cells)
        |(go_at_call 94;refine(ai.o _ HN.o.below).mono ?_;rintro e w8 ⟨rfl,hb⟩;clear ai;have ai:=dS;have HN:=AA (HN.o.drop hb);clear hb f0 f1 f2 f3 f4 c0 c8 c9 c10 c11 c12 c13 c14 c15 c16 c17;obtain⟨⟨f0,f1,f2,f3,f4⟩,c0,c8,c9,c10,c11,c12,c13,c14,c15,c16,c17⟩:=HN.o.cells))
       go_ret;exact⟨AB (by rw [HM.o];rfl),HN.o.below⟩
      |true=>
       cases F1 with
       |false=>
        have ai:=dR
        go_wp2_with (first
         |(go_at_call 92;refine(gX.o _ HN.o.below).mono ?_;rintro e w8 ⟨rfl,hb⟩;have HN:=AA (HN.o.drop hb);clear hb f0 f1 f2 f3 f4 c0 c8 c9 c10 c11 c12 c13 c14 c15 c16 c17;obtain⟨⟨f0,f1,f2,f3,f4⟩,c0,c8,c9,c10,c11,c12,c13,c14,c15,c16,c17⟩:=HN.o.cells)
         |(go_at_call 93;refine(gW.o _ HN.o.below).mono ?_;rintro e w8 ⟨rfl,hb⟩;have HN:=AA (HN.o.drop hb);clear hb f0 f1 f2 f3 f4 c0 c8 c9 c10 c11 c12 c13 c14 c15 c16 c17;obtain⟨⟨f0,f1,f2,f3,f4⟩,c0,c8,c9,c10,c11,c12,c13,c14,c15,c16,c17⟩:=HN.o.cells)
         |(go_at_call 94;refine(ai.o _ HN.o.below).mono ?_;rintro e w8 ⟨rfl,hb⟩;clear ai;have ai:=dS;have HN:=AA (HN.o.drop hb);clear hb f0 f1 f2 f3 f4 c0 c8 c9 c10 c11 c12 c13 c14 c15 c16 c17;obtain⟨⟨f0,f1,f2,f3,f4⟩,c0,c8,c9,c10,c11,c12,c13,c14,c15,c16,c17⟩:=HN.o.cells))
        go_ret;exact⟨AB (by rw [HM.o];rfl),HN.o.below⟩
       |true=>
        rw [Bool.true_and] at HM;have ai:=dR
        go_wp2_with (first
         |(go_at_call 92;refine(gX.o _ HN.o.below).mono ?_;rintro e w8 ⟨rfl,hb⟩;have HN:=AA (HN.o.drop hb);clear hb f0 f1 f2 f3 f4 c0 c8 c9 c10 c11 c12 c13 c14 c15 c16 c17;obtain⟨⟨f0,f1,f2,f3,f4⟩,c0,c8,c9,c10,c11,c12,c13,c14,c15,c16,c17⟩:=HN.o.cells)
         |(go_at_call 93;refine(gW.o _ HN.o.below).mono ?_;rintro e w8 ⟨rfl,hb⟩;have HN:=AA (HN.o.drop hb);clear hb f0 f1 f2 f3 f4 c0 c8 c9 c10 c11 c12 c13 c14 c15 c16 c17;obtain⟨⟨f0,f1,f2,f3,f4⟩,c0,c8,c9,c10,c11,c12,c13,c14,c15,c16,c17⟩:=HN.o.cells)
         |(go_at_call 94;refine(ai.o _ HN.o.below).mono ?_;rintro e w8 ⟨rfl,hb⟩;clear ai;have ai:=dS;have HN:=AA (HN.o.drop hb);clear hb f0 f1 f2 f3 f4 c0 c8 c9 c10 c11 c12 c13 c14 c15 c16 c17;obtain⟨⟨f0,f1,f2,f3,f4⟩,c0,c8,c9,c10,c11,c12,c13,c14,c15,c16,c17⟩:=HN.o.cells))
        go_ret;exact⟨AB (by rw [HM.o];rfl),HN.o.below⟩
     |false=>
      by_cases hE:0<a.en
      ·rw [decide_eq_true hE] at HM;have ai:=dR
       go_wp2_with (first
        |(go_at_call 92;refine(gX.o _ HN.o.below).mono ?_;rintro e w8 ⟨rfl,hb⟩;have HN:=AA (HN.o.drop hb);clear hb f0 f1 f2 f3 f4 c0 c8 c9 c10 c11 c12 c13 c14 c15 c16 c17;obtain⟨⟨f0,f1,f2,f3,f4⟩,c0,c8,c9,c10,c11,c12,c13,c14,c15,c16,c17⟩:=HN.o.cells)
        |(go_at_call 93;refine(gW.o _ HN.o.below).mono ?_;rintro e w8 ⟨rfl,hb⟩;have HN:=AA (HN.o.drop hb);clear hb f0 f1 f2 f3 f4 c0 c8 c9 c10 c11 c12 c13 c14 c15 c16 c17;obtain⟨⟨f0,f1,f2,f3,f4⟩,c0,c8,c9,c10,c11,c12,c13,c14,c15,c16,c17⟩:=HN.o.cells)
        |(go_at_call 94;refine(ai.o _ HN.o.below).mono ?_;rintro e w8 ⟨rfl,hb⟩;clear ai;have ai:=dS;have HN:=AA (HN.o.drop hb);clear hb f0 f1 f2 f3 f4 c0 c8 c9 c10 c11 c12 c13 c14 c15 c16 c17;obtain⟨⟨f0,f1,f2,f3,f4⟩,c0,c8,c9,c10,c11,c12,c13,c14,c15,c16,c17⟩:=HN.o.cells))
       go_ret;exact⟨AB (by rw [HM.o];rfl),HN.o.below⟩
      ·rw [decide_eq_false hE] at HM;cases F1 with
       |false=>
        have ai:=dR
        go_wp2_with (first
         |(go_at_call 92;refine(gX.o _ HN.o.below).mono ?_;rintro e w8 ⟨rfl,hb⟩;have HN:=AA (HN.o.drop hb);clear hb f0 f1 f2 f3 f4 c0 c8 c9 c10 c11 c12 c13 c14 c15 c16 c17;obtain⟨⟨f0,f1,f2,f3,f4⟩,c0,c8,c9,c10,c11,c12,c13,c14,c15,c16,c17⟩:=HN.o.cells)
         |(go_at_call 93;refine(gW.o _ HN.o.below).mono ?_;rintro e w8 ⟨rfl,hb⟩;have HN:=AA (HN.o.drop hb);clear hb f0 f1 f2 f3 f4 c0 c8 c9 c10 c11 c12 c13 c14 c15 c16 c17;obtain⟨⟨f0,f1,f2,f3,f4⟩,c0,c8,c9,c10,c11,c12,c13,c14,c15,c16,c17⟩:=HN.o.cells)
         |(go_at_call 94;refine(ai.o _ HN.o.below).mono ?_;rintro e w8 ⟨rfl,hb⟩;clear ai;have ai:=dS;have HN:=AA (HN.o.drop hb);clear hb f0 f1 f2 f3 f4 c0 c8 c9 c10 c11 c12 c13 c14 c15 c16 c17;obtain⟨⟨f0,f1,f2,f3,f4⟩,c0,c8,c9,c10,c11,c12,c13,c14,c15,c16,c17⟩:=HN.o.cells))
        go_ret;exact⟨AB (by rw [HM.o];rfl),HN.o.below⟩
       |true=>
        rw [Bool.true_and] at HM;have ai:=dR
        go_wp2_with (first
         |(go_at_call 92;refine(gX.o _ HN.o.below).mono ?_;rintro e w8 ⟨rfl,hb⟩;have HN:=AA (HN.o.drop hb);clear hb f0 f1 f2 f3 f4 c0 c8 c9 c10 c11 c12 c13 c14 c15 c16 c17;obtain⟨⟨f0,f1,f2,f3,f4⟩,c0,c8,c9,c10,c11,c12,c13,c14,c15,c16,c17⟩:=HN.o.cells)
         |(go_at_call 93;refine(gW.o _ HN.o.below).mono ?_;rintro e w8 ⟨rfl,hb⟩;have HN:=AA (HN.o.drop hb);clear hb f0 f1 f2 f3 f4 c0 c8 c9 c10 c11 c12 c13 c14 c15 c16 c17;obtain⟨⟨f0,f1,f2,f3,f4⟩,c0,c8,c9,c10,c11,c12,c13,c14,c15,c16,c17⟩:=HN.o.cells)
         |(go_at_call 94;refine(ai.o _ HN.o.below).mono ?_;rintro e w8 ⟨rfl,hb⟩;clear ai;have ai:=dS;have HN:=AA (HN.o.drop hb);clear hb f0 f1 f2 f3 f4 c0 c8 c9 c10 c11 c12 c13 c14 c15 c16 c17;obtain⟨⟨f0,f1,f2,f3,f4⟩,c0,c8,c9,c10,c11,c12,c13,c14,c15,c16,c17⟩:=HN.o.cells))
        go_ret;exact⟨AB (by rw [HM.o];rfl),HN.o.below⟩
   |false=>
    cases I2 with
    |true=>
     cases M with
     |false=>
      have ai:=dR
      go_wp2_with (first
       |(go_at_call 92;refine(gX.o _ HN.o.below).mono ?_;rintro e w8 ⟨rfl,hb⟩;have HN:=AA (HN.o.drop hb);clear hb f0 f1 f2 f3 f4 c0 c8 c9 c10 c11 c12 c13 c14 c15 c16 c17;obtain⟨⟨f0,f1,f2,f3,f4⟩,c0,c8,c9,c10,c11,c12,c13,c14,c15,c16,c17⟩:=HN.o.cells)
       |(go_at_call 93;refine(gW.o _ HN.o.below).mono ?_;rintro e w8 ⟨rfl,hb⟩;have HN:=AA (HN.o.drop hb);clear hb f0 f1 f2 f3 f4 c0 c8 c9 c10 c11 c12 c13 c14 c15 c16 c17;obtain⟨⟨f0,f1,f2,f3,f4⟩,c0,c8,c9,c10,c11,c12,c13,c14,c15,c16,c17⟩:=HN.o.cells)
       |(go_at_call 94;refine(ai.o _ HN.o.below).mono ?_;rintro e w8 ⟨rfl,hb⟩;clear ai;have ai:=dS;have HN:=AA (HN.o.drop hb);clear hb f0 f1 f2 f3 f4 c0 c8 c9 c10 c11 c12 c13 c14 c15 c16 c17;obtain⟨⟨f0,f1,f2,f3,f4⟩,c0,c8,c9,c10,c11,c12,c13,c14,c15,c16,c17⟩:=HN.o.cells))
      go_ret;exact⟨AB (by rw [HM.o];rfl),HN.o.below⟩
     |true=>
      cases F1 with
      |false=>
       have ai:=dR
       go_wp2_with (first
        |(go_at_call 92;refine(gX.o _ HN.o.below).mono ?_;rintro e w8 ⟨rfl,hb⟩;have HN:=AA (HN.o.drop hb);clear hb f0 f1 f2 f3 f4 c0 c8 c9 c10 c11 c12 c13 c14 c15 c16 c17;obtain⟨⟨f0,f1,f2,f3,f4⟩,c0,c8,c9,c10,c11,c12,c13,c14,c15,c16,c17⟩:=HN.o.cells)
        |(go_at_call 93;refine(gW.o _ HN.o.below).mono ?_;rintro e w8 ⟨rfl,hb⟩;have HN:=AA (HN.o.drop hb);clear hb f0 f1 f2 f3 f4 c0 c8 c9 c10 c11 c12 c13 c14 c15 c16 c17;obtain⟨⟨f0,f1,f2,f3,f4⟩,c0,c8,c9,c10,c11,c12,c13,c14,c15,c16,c17⟩:=HN.o.cells)
        |(go_at_call 94;refine(ai.o _ HN.o.below).mono ?_;rintro e w8 ⟨rfl,hb⟩;clear ai;have ai:=dS;have HN:=AA (HN.o.drop hb);clear hb f0 f1 f2 f3 f4 c0 c8 c9 c10 c11 c12 c13 c14 c15 c16 c17;obtain⟨⟨f0,f1,f2,f3,f4⟩,c0,c8,c9,c10,c11,c12,c13,c14,c15,c16,c17⟩:=HN.o.cells))
       go_ret;exact⟨AB (by rw [HM.o];rfl),HN.o.below⟩
      |true=>
       rw [Bool.true_and] at HM;have ai:=dR
       go_wp2_with (first
        |(go_at_call 92;refine(gX.o _ HN.o.below).mono ?_;rintro e w8 ⟨rfl,hb⟩;have HN:=AA (HN.o.drop hb);clear hb f0 f1 f2 f3 f4 c0 c8 c9 c10 c11 c12 c13 c14 c15 c16 c17;obtain⟨⟨f0,f1,f2,f3,f4⟩,c0,c8,c9,c10,c11,c12,c13,c14,c15,c16,c17⟩:=HN.o.cells)
        |(go_at_call 93;refine(gW.o _ HN.o.below).mono ?_;rintro e w8 ⟨rfl,hb⟩;have HN:=AA (HN.o.drop hb);clear hb f0 f1 f2 f3 f4 c0 c8 c9 c10 c11 c12 c13 c14 c15 c16 c17;obtain⟨⟨f0,f1,f2,f3,f4⟩,c0,c8,c9,c10,c11,c12,c13,c14,c15,c16,c17⟩:=HN.o.cells)
        |(go_at_call 94;refine(ai.o _ HN.o.below).mono ?_;rintro e w8 ⟨rfl,hb⟩;clear ai;have ai:=dS;have HN:=AA (HN.o.drop hb);clear hb f0 f1 f2 f3 f4 c0 c8 c9 c10 c11 c12 c13 c14 c15 c16 c17;obtain⟨⟨f0,f1,f2,f3,f4⟩,c0,c8,c9,c10,c11,c12,c13,c14,c15,c16,c17⟩:=HN.o.cells))
       go_ret;exact⟨AB (by rw [HM.o];rfl),HN.o.below⟩
    |false=>
     by_cases hE:0<a.en
     ·rw [decide_eq_true hE] at HM;have ai:=dR
      go_wp2_with (first
       |(go_at_call 92;refine(gX.o _ HN.o.below).mono ?_;rintro e w8 ⟨rfl,hb⟩;have HN:=AA (HN.o.drop hb);clear hb f0 f1 f2 f3 f4 c0 c8 c9 c10 c11 c12 c13 c14 c15 c16 c17;obtain⟨⟨f0,f1,f2,f3,f4⟩,c0,c8,c9,c10,c11,c12,c13,c14,c15,c16,c17⟩:=HN.o.cells)
       |(go_at_call 93;refine(gW.o _ HN.o.below).mono ?_;rintro e w8 ⟨rfl,hb⟩;have HN:=AA (HN.o.drop hb);clear hb f0 f1 f2 f3 f4 c0 c8 c9 c10 c11 c12 c13 c14 c15 c16 c17;obtain⟨⟨f0,f1,f2,f3,f4⟩,c0,c8,c9,c10,c11,c12,c13,c14,c15,c16,c17⟩:=HN.o.cells)
       |(go_at_call 94;refine(ai.o _ HN.o.below).mono ?_;rintro e w8 ⟨rfl,hb⟩;clear ai;have ai:=dS;have HN:=AA (HN.o.drop hb);clear hb f0 f1 f2 f3 f4 c0 c8 c9 c10 c11 c12 c13 c14 c15 c16 c17;obtain⟨⟨f0,f1,f2,f3,f4⟩,c0,c8,c9,c10,c11,c12,c13,c14,c15,c16,c17⟩:=HN.o.cells))
      go_ret;exact⟨AB (by rw [HM.o];rfl),HN.o.below⟩
     ·rw [decide_eq_false hE] at HM;cases F1 with
      |false=>
       have ai:=dR
       go_wp2_with (first
        |(go_at_call 92;refine(gX.o _ HN.o.below).mono ?_;rintro e w8 ⟨rfl,hb⟩;have HN:=AA (HN.o.drop hb);clear hb f0 f1 f2 f3 f4 c0 c8 c9 c10 c11 c12 c13 c14 c15 c16 c17;obtain⟨⟨f0,f1,f2,f3,f4⟩,c0,c8,c9,c10,c11,c12,c13,c14,c15,c16,c17⟩:=HN.o.cells)
        |(go_at_call 93;refine(gW.o _ HN.o.below).mono ?_;rintro e w8 ⟨rfl,hb⟩;have HN:=AA (HN.o.drop hb);clear hb f0 f1 f2 f3 f4 c0 c8 c9 c10 c11 c12 c13 c14 c15 c16 c17;obtain⟨⟨f0,f1,f2,f3,f4⟩,c0,c8,c9,c10,c11,c12,c13,c14,c15,c16,c17⟩:=HN.o.cells)
        |(go_at_call 94;refine(ai.o _ HN.o.below).mono ?_;rintro e w8 ⟨rfl,hb⟩;clear ai;have ai:=dS;have HN:=AA (HN.o.drop hb);clear hb f0 f1 f2 f3 f4 c0 c8 c9 c10 c11 c12 c13 c14 c15 c16 c17;obtain⟨⟨f0,f1,f2,f3,f4⟩,c0,c8,c9,c10,c11,c12,c13,c14,c15,c16,c17⟩:=HN.o.cells))
       go_ret;exact⟨AB (by rw [HM.o];rfl),HN.o.below⟩
      |true=>
       rw [Bool.true_and] at HM;have ai:=dR
       go_wp2_with (first
        |(go_at_call 92;refine(gX.o _ HN.o.below).mono ?_;rintro e w8 ⟨rfl,hb⟩;have HN:=AA (HN.o.drop hb);clear hb f0 f1 f2 f3 f4 c0 c8 c9 c10 c11 c12 c13 c14 c15 c16 c17;obtain⟨⟨f0,f1,f2,f3,f4⟩,c0,c8,c9,c10,c11,c12,c13,c14,c15,c16,c17⟩:=HN.o.cells)
        |(go_at_call 93;refine(gW.o _ HN.o.below).mono ?_;rintro e w8 ⟨rfl,hb⟩;have HN:=AA (HN.o.drop hb);clear hb f0 f1 f2 f3 f4 c0 c8 c9 c10 c11 c12 c13 c14 c15 c16 c17;obtain⟨⟨f0,f1,f2,f3,f4⟩,c0,c8,c9,c10,c11,c12,c13,c14,c15,c16,c17⟩:=HN.o.cells)
        |(go_at_call 94;refine(ai.o _ HN.o.below).mono ?_;rintro e w8 ⟨rfl,hb⟩;clear ai;have ai:=dS;have HN:=AA (HN.o.drop hb);clear hb f0 f1 f2 f3 f4 c0 c8 c9 c10 c11 c12 c13 c14 c15 c16 c17;obtain⟨⟨f0,f1,f2,f3,f4⟩,c0,c8,c9,c10,c11,c12,c13,c14,c15,c16,c17⟩:=HN.o.cells))
       go_ret;exact⟨AB (by rw [HM.o];rfl),HN.o.below⟩
theorem Ld(a:AH)(b:Nat)(z:Int)(W:World)(h:Cw b z W):Calls prog 88 #[Aj a,.pointer (some ⟨b,0,none⟩)] W fun e w'=>e=.returned (.bool (Hk a z).1)∧Cw b (Hk a z).2 w'∧W.grownBy w' (some b):=by have HA:=AA (h.below ((Below.refl _ _).alloc (Nat.le_refl _) (AO a)));obtain⟨q0,qf⟩:=HA.o.cells;obtain⟨Z,hZ⟩:∃Z,IntKind.i64.wrap (z+1)=Z:=⟨_,rfl⟩;have HZ:Hd ((Hk a z).2=Z):=hZ;clear h;go_enter func88,ntmps88;go_wp2_with fail;go_ret;refine⟨rfl,?_⟩;rw [HZ.o];exact⟨HA.o.set Z,(World.grownBy_alloc W _ _).trans (AL _ _ _ _)⟩
theorem Un{w0:World}{b:Nat}(hb:w0.heap.size≤b):XZ w0 (some b) 88 #[.pointer (some ⟨b,0,none⟩)] (Cw b) (fun _=>True) Hk where
 eg:=fun args w=>rfl
 hb:=fun b' h=>by injection h with h;omega
 lt:=fun b' h s W hi=>by injection h with h;rw [←h];exact hi.lt
 inv:=fun s W W' hi aP=>hi.below aP
 call:=fun a s W _ _ hi=>Ld a b s W hi
theorem ML{w:World}{p:Option Addr}{n c:Nat}{l:List PA}(hr:Ds w p n c l){m:Nat}(hm:(Ai l).length=m)(h3:m≤1000000):Calls prog 58 #[.slice p n c] w (RB w (.int .i64 m)):=by
 have HE:=AA (H6 (Un (w0:=w) (b:=w.heap.size) (Nat.le_refl _)) l p n c hr (fun _ _=>trivial));have HP:Hd (AU Hk (Ai l) 0=(true,(m:Int))):=by show _=_;rw [Kr (Ai l) 0 (by omega) (by omega),hm];congr 1;omega
 have HI:Hd (Cw w.heap.size 0 (w.alloc (.cells #[.int .i64 0] 3))):=heap_alloc_new w _;have HB:=AA ((Below.refl w.heap.size w).alloc (Nat.le_refl _) (.cells #[.int .i64 0] 3));have HG:=AA (World.grownBy_alloc w (.cells #[.int .i64 0] 3) (some w.heap.size));clear hr hm;go_enter func58,ntmps58;go_wp2_with (go_at_call 59;refine(HE.o 0 _ HB.o HI.o).mono ?_;rw [HP.o];rintro e w2 ⟨rfl,cG,a8⟩;obtain⟨q0,qf⟩:=cG.cells;have eT:=AA (HG.o.trans a8);clear cG a8);go_ret;exact⟨rfl,En eT.o (Nat.le_refl _) (fun b hb=>by injection hb with hb;omega)⟩
theorem Ji{w:World}{t:PA}(hl:LA.lies w t)(e:TypeId)(gs:Nat)(bn:w.heap.size=gs):Ds (w.alloc (.cells #[.int .u8 t.head.kind,.int .u8 t.head.op,.int .i64 t.head.at_,.int .i64 t.head.n,.string t.head.name,.string t.head.arg,.string t.head.exn,.int .i64 t.head.rho,.slice t.head.rp t.head.rn t.head.rc,.slice t.head.ep t.head.en t.head.ec,.int .u8 t.head.ty.head.kind,.int .i64 t.head.ty.head.rho,.slice t.head.ty.head.ep t.head.ty.head.en t.head.ty.head.ec,.slice t.head.ty.head.kp t.head.ty.head.kn t.head.ty.head.kc,.int .u8 t.head.res.head.kind,.int .i64 t.head.res.head.rho,.slice t.head.res.head.ep t.head.res.head.en t.head.res.head.ec,.slice t.head.res.head.kp t.head.res.head.kn t.head.res.head.kc,.slice t.head.kp t.head.kn t.head.kc] e)) (some ⟨gs,0,none⟩) 1 1 [t]:=by
 subst bn;refine⟨Al SS (by omega) w e [t] 1 _ ?_ rfl (by decide),fun x hx=>?_⟩
 ·simp [Hw.encT,LA,Bn]
 ·have:x=t:=by simpa using hx
  subst this;exact LA.lies_below ((Below.refl _ w).alloc (Nat.le_refl _) _) x hl
theorem OS{w:World}(t:PA):LA.lies w t→∀a∈AG.nodes t,AH.Own w a∧a.kn≤t.size:=by
 refine AG.ind (P:=fun(t:PA)=>LA.lies w t→∀a∈AG.nodes t,AH.Own w a∧a.kn≤t.size) (fun a l ih hl x hx=>?_) t;have hN:=DP hl;rw [AG.nodes_node,List.mem_cons] at hx;rw [AG.size_node];rcases hx with rfl|hx
 ·refine⟨hN.own,?_⟩;have h1:=Uz l;have h2:=hN.kids.len;omega
 ·rw [List.mem_flatten] at hx;obtain⟨m,hm,hx⟩:=hx;obtain⟨y,hy,rfl⟩:=List.mem_map.1 hm;obtain⟨h1,h2⟩:=ih y hy (hN.each y hy) x hx;have h3:y.size≤(l.map AG.size).sum:=BN (List.mem_map_of_mem hy);exact⟨h1,by omega⟩
def Sk(a:AH)(_:Unit):Bool×Unit:=(C7 a,())
theorem JO:∀l:List AH,(AU Sk l ()).1=l.all C7
 |[]=>rfl
 |a::l=>by
  show (if(C7 a)=true then AU Sk l () else(false,())).1=_;rw [List.all_cons];cases h:C7 a
  ·rfl
  ·rw [if_pos rfl,JO l];rfl
theorem Uo{w0:World}(hv:Vr w0):XZ w0 none 60 #[] (fun(_:Unit) _=>True) (fun a=>AH.Own w0 a∧Bl a∧a.kn≤1000000) Sk where
 eg:=fun args w=>rfl
 hb:=fun b' h=>by cases h
 lt:=fun b' h=>by cases h
 inv:=fun _ _ _ _ _=>trivial
 call:=fun a s W ok hb _=>by refine(MM a (LA.below ok.1 hb) ok.2.1 ok.2.2 (hv.below hb)).mono ?_;rintro e w' ⟨rfl,aW⟩;exact⟨rfl,trivial,aW.os,aW.tape,aW.output,aW.size,fun k hk _=>aW.block k hk⟩
def Gx(t:PA):Bool:=(AG.nodes t).all C7
theorem Ey(t:PA){w:World}(hl:LA.lies w t)(hs:BR t)(hz:t.size≤1000)(hv:Vr w):Calls prog 35 #[Aj t.head] w (RB w (.bool (Gx t))):=by
 have HB:=AA ((Below.refl w.heap.size w).alloc (Nat.le_refl _) (AO t.head));have aE:=AA (Aa w t.head);have HV:=AA hv;have aL:=AA (fun(W:World) (hb:Below w.heap.size w W) (e:TypeId) (gs:Nat) (h:W.heap.size=gs)=>Ji (LA.lies_below hb t hl) e gs h);have aG:(Ai [t]).length=t.size:=by simp [Ai,DH]
 have fF:Hd ((AU Sk (Ai [t]) ()).1=Gx t):=by show _=_;rw [JO];simp [Ai,Gx]
 have dc:=AA (fun(W:World) (hb:Below w.heap.size w W) (a:AH) (ha:a∈Ai [t])=>(show AH.Own W a∧Bl a∧a.kn≤1000000 by
  have i7:a∈AG.nodes t:=by simpa [Ai] using ha
  obtain⟨h1,h2⟩:=OS t hl a i7;exact⟨LA.below h1 hb,hs a i7,by omega⟩))
 have cB:decide ((t.size:Int)≤40000)=true:=by simp;omega
 have et:=AA aG;clear hl hs hv aG;go_enter func35,ntmps35
 go_wp2_with (first
  |(refine lw aE.o.blk underlying31 ?_)
  |(refine XH [.int .u8 t.head.kind,.int .u8 t.head.op,.int .i64 t.head.at_,.int .i64 t.head.n,.string t.head.name,.string t.head.arg,.string t.head.exn,.int .i64 t.head.rho,.slice t.head.rp t.head.rn t.head.rc,.slice t.head.ep t.head.en t.head.ec,.int .u8 t.head.ty.head.kind,.int .i64 t.head.ty.head.rho,.slice t.head.ty.head.ep t.head.ty.head.en t.head.ty.head.ec,.slice t.head.ty.head.kp t.head.ty.head.kn t.head.ty.head.kc,.int .u8 t.head.res.head.kind,.int .i64 t.head.res.head.rho,.slice t.head.res.head.ep t.head.res.head.en t.head.res.head.ec,.slice t.head.res.head.kp t.head.res.head.kn t.head.res.head.kc,.slice t.head.kp t.head.kn t.head.kc] aE.o.range underlying31 ?_)
  |(go_at_call 58;refine(ML (aL.o _ HB.o _ _ (by simp)) et.o (by omega)).mono ?_;rintro e w2 ⟨rfl,hb⟩;have aK:=AA ((HB.o.alloc HB.o.size _).trans (hb.mono (HB.o.alloc HB.o.size _).size));have aE:=AA ((aE.o.below bA).below hb);clear hb)
  |(go_at_call 59;refine(H6 (Uo (HV.o.below (aK.o.alloc aK.o.size _))) [t] _ _ _ (aL.o _ aK.o _ _ (by simp)) (fun a ha=>dc.o _ (aK.o.alloc aK.o.size _) a ha) () _ (Below.refl _ _) trivial).mono ?_;rw [fF.o];rintro e w3 ⟨rfl,_,bM⟩;have aV:=AA (En bM (Nat.le_refl _) (fun b h=>by cases h));clear bM))
 go_ret;exact⟨rfl,aK.o.trans (((Below.refl _ w2).alloc (Nat.le_refl _) _ |>.trans (aV.o.mono (by simp))).mono aK.o.size)⟩
structure Fp where
 name:ByteArray
 ty:RT
 fn:Option GT
abbrev TE:=RT×List AD
abbrev E7:=Except (Int×Int) TE
def Bm(r:Int):AD:=⟨1,r,⟨#[]⟩⟩
def A3(r:Int):AD:=⟨2,r,⟨#[]⟩⟩
def Ol(x:ByteArray):AD:=⟨3,0,x⟩
def Bu:RT:=.node ⟨0,0,[]⟩ []
def Ij:RT:=.node ⟨1,0,[]⟩ []
def Dn:TE:=(Bu,[])
def BO(l:List TE)(more:List AD):List AD:=A2 (more++l.flatMap (·.2))
def Eg(x y:RT):Bool:=AG.same GF x y
def Lk(a:GT)(no:Int):E7:=.error (a.at_,no)
def A4(b:Bool)(a:GT)(no:Int)(r:E7):E7:=if b then r else Lk a no
def At(rhos l:List Int):Bool:=l.all (Du rhos)
def A8(a:GT)(rhos:List Int):Bool:=
 (decide (a.kind=17)||Du rhos a.rho)&&(!decide (a.kind=18)||At rhos a.rhos) &&
  (At (if a.kind=13 then rhos++a.rhos else rhos) (BQ a.eff)&&At (if a.kind=13 then rhos++a.rhos else rhos) (Bv (By a.ty++By a.res)))
def Df(env:List Fp)(x:ByteArray):Option Fp:=env.reverse.find? (fun b=>decide (b.name=x))
def Iz(k rho:Int)(eff:List AD)(l:List RT):RT:=.node ⟨k,rho,A2 eff⟩ l
def Hf(env:List Fp)(a:GT):E7:=
 match Df env a.name with
 |none=>Lk a 4
 |some b=>A4 b.fn.isNone a 5 (.ok (b.ty,[]))
def Cm(env:List Fp)(a:GT):E7:=
 match Df env a.name with
 |none=>Lk a 4
 |some b=>
  match b.fn with
  |none=>Lk a 5
  |some f=>A4 (decide (f.rhos.length=a.rhos.length)) a 5 (A4 (A1 (Kb f.rhos a.rhos f.eff) a.eff) a 6
   (.ok (Iz 4 a.rho a.eff [Bz f.rhos a.rhos f.ty,Bz f.rhos a.rhos f.res],A2 [Bm f.rho,A3 a.rho])))
def ON(k:Int)(x:TE):Bool:=x.1.head.kind==k
def CB(a:GT)(l:List TE):E7:=
 let x:=l.getD 0 Dn
 let y:=l.getD 1 Dn
 if a.kind=11 then A4 (A1 x.2 a.eff) a 6 (.ok (Iz 4 a.rho a.eff [a.ty,x.1],A2 [A3 a.rho]))
 else if a.kind=13 then A4 (Eg x.1 a.res) a 5 (A4 (A1 x.2 a.eff) a 6 (.ok (y.1,BO (l.drop 1) [A3 a.rho])))
 else if a.kind=16 then A4 (Eg x.1 y.1) a 5 (.ok (x.1,A2 (CP x.2 [a.exn]++y.2)))
 else if a.kind=17 then A4 (!Du (Bv (By x.1)) a.rho) a 6 (.ok (x.1,B6 x.2 [a.rho]))
 else .ok (y.1,BO l [])
def AV(a:GT)(l:List TE):E7:=
 let x:=l.getD 0 Dn
 let y:=l.getD 1 Dn
 let z:=l.getD 2 Dn
 if a.kind=3 then .ok (Iz 2 a.rho [] [x.1,y.1],BO l [A3 a.rho])
 else if a.kind=4∨a.kind=5 then A4 (ON 2 x) a 5 (.ok (x.1.kids.getD (a.kind-4).toNat Bu,BO l [Bm x.1.head.rho]))
 else if a.kind=6 then .ok (Iz 3 a.rho [] [x.1],BO l [A3 a.rho])
 else if a.kind=7 then A4 (ON 3 x) a 5 (.ok (x.1.kids.getD 0 Bu,BO l [Bm x.1.head.rho]))
 else if a.kind=8 then A4 (ON 3 x&&Eg (x.1.kids.getD 0 Bu) y.1) a 5 (.ok (Ij,BO l [A3 x.1.head.rho]))
 else if a.kind=10 then A4 (ON 4 x&&Eg (x.1.kids.getD 0 Bu) y.1) a 5 (.ok (x.1.kids.getD 1 Bu,A2 (BO l [Bm x.1.head.rho]++x.1.head.eff)))
 else if a.kind=9 then A4 (l.all (ON 1)) a 5 (.ok (Ij,BO l []))
 else if a.kind=14 then A4 (ON 1 x&&Eg y.1 z.1) a 5 (.ok (y.1,BO l []))
 else if a.kind=15 then A4 (l.all (ON 1)) a 5 (.ok (a.ty,BO l [Ol a.exn]))
 else if a.kind=1 then .ok (Ij,BO l [])
 else CB a l
def Ac(env:List Fp)(a:GT)(i:Nat)(acc:List TE):List Fp:=
 if a.kind=11 then env++[⟨a.arg,a.ty,none⟩]
 else if a.kind=12∧i=1 then env++[⟨a.name,(acc.getD 0 Dn).1,none⟩]
 else if a.kind=13∧i=0 then env++[⟨a.name,Bu,some a⟩,⟨a.arg,a.ty,none⟩]
 else if a.kind=13 then env++[⟨a.name,Bu,some a⟩]
 else if a.kind=16∧i=1 then env++[⟨a.arg,Ij,none⟩]
 else env
def Ad(rhos:List Int)(a:GT)(i:Nat):List Int:=if a.kind=13∧i=0 then rhos++a.rhos else if a.kind=17 then rhos++[a.rho] else rhos
def Hp(a:GT)(r:E7):E7:=
 match r with
 |.ok x=>A4 (decide (x.1.size≤500)) a 3 (.ok x)
 |.error e=>.error e
mutual
def chk(env:List Fp)(rhos:List Int):AT→E7
 |.node a l=>
  Hp a (A4 (A8 a rhos) a 4 (
   if a.kind=2 then Hf env a
   else if a.kind=18 then Cm env a
   else match Fa env rhos a 0 [] l with
    |.error e=>.error e
    |.ok ks=>AV a ks))
def Fa(env:List Fp)(rhos:List Int)(a:GT)(i:Nat)(acc:List TE):List AT→Except (Int×Int) (List TE)
 |[]=>.ok acc
 |t::l=>
  match chk (Ac env a i acc) (Ad rhos a i) t with
  |.error e=>.error e
  |.ok r=>Fa env rhos a (i+1) (acc++[r]) l
end
def BE(env:List Fp)(rhos:List Int)(a:GT)(l:List AT):E7:=
 A4 (A8 a rhos) a 4 (
  if a.kind=2 then Hf env a
  else if a.kind=18 then Cm env a
  else match Fa env rhos a 0 [] l with
   |.error e=>.error e
   |.ok ks=>AV a ks)
theorem J1(env:List Fp)(rhos:List Int)(a:GT)(l:List AT):chk env rhos (.node a l)=Hp a (BE env rhos a l):=by rw [chk];rfl
theorem Jz(env:List Fp)(rhos:List Int)(a:GT)(i:Nat)(acc:List TE):Fa env rhos a i acc []=.ok acc:=by rw [Fa]
theorem Fk(env:List Fp)(rhos:List Int)(a:GT)(i:Nat)(acc:List TE)(t:AT)(l:List AT):Fa env rhos a i acc (t::l)=match chk (Ac env a i acc) (Ad rhos a i) t with
 |.error e=>.error e
 |.ok r=>Fa env rhos a (i+1) (acc++[r]) l:=by rw [Fa]
def BP(a:GT):List Int:=if a.kind=17 then [a.rho] else if a.kind=13 then a.rhos else []
theorem Bo{b:Bool}{a:GT}{no:Int}{r:E7}{x:TE}:A4 b a no r=.ok x↔b=true∧r=.ok x:=by unfold A4 Lk;cases b<;>simp
theorem Va{a:GT}{r:E7}{x:TE}:Hp a r=.ok x↔r=.ok x∧x.1.size≤500:=by
 unfold Hp;cases r with
 |error e=>simp
 |ok y=>
  simp only [Bo,decide_eq_true_eq,Except.ok.injEq];constructor
  ·rintro⟨h,rfl⟩;exact⟨rfl,h⟩
  ·rintro⟨rfl,h⟩;exact⟨h,rfl⟩
theorem Ox{env:List Fp}{rhos:List Int}{a:GT}:∀(l:List AT) (i:Nat) (acc ks:List TE),Fa env rhos a i acc l=.ok ks→∃rs,ks=acc++rs∧rs.length=l.length∧∀j t,l[j]?=some t→∃r,rs[j]?=some r∧chk (Ac env a (i+j) (acc++rs.take j)) (Ad rhos a (i+j)) t=.ok r
 |[],i,acc,ks,h=>by rw [Jz] at h;cases h;exact⟨[],by simp,rfl,fun j t h=>by simp at h⟩
 |t::l,i,acc,ks,h=>by
  rw [Fk] at h;cases hr:chk (Ac env a i acc) (Ad rhos a i) t with
  |error e=>rw [hr] at h;cases h
  |ok r=>
   rw [hr] at h;obtain⟨rs,rfl,hl,hj⟩:=Ox l (i+1) (acc++[r]) ks h;refine⟨r::rs,by simp,by simp [hl],fun j u hu=>?_⟩;cases j with
   |zero=>simp at hu;subst hu;exact⟨r,rfl,by simpa using hr⟩
   |succ j=>
    obtain⟨r',h1,h2⟩:=hj j u (by simpa using hu);refine⟨r',by simpa using h1,?_⟩;have e1:i+(j+1)=i+1+j:=by omega
    rw [e1];simpa using h2
theorem QR{env:List Fp}{rhos:List Int}{a:GT}{l:List AT}{x:TE}:BE env rhos a l=.ok x↔A8 a rhos=true∧((a.kind=2∧Hf env a=.ok x)∨(a.kind=18∧Cm env a=.ok x)∨(a.kind≠2∧a.kind≠18∧∃ks,Fa env rhos a 0 [] l=.ok ks∧AV a ks=.ok x)):=by
 unfold BE;rw [Bo];refine and_congr_right (fun _=>?_);by_cases h2:a.kind=2
 ·simp [h2]
 ·by_cases bj:a.kind=18
  ·simp [bj]
  ·rw [if_neg h2,if_neg bj];simp only [h2,bj,false_and,false_or,not_false_eq_true,true_and,ne_eq];cases h:Fa env rhos a 0 [] l with
   |error e=>simp
   |ok ks=>simp
theorem UX{env:List Fp}{rhos:List Int}{a:GT}{l:List AT}{x:TE}:chk env rhos (.node a l)=.ok x↔BE env rhos a l=.ok x∧x.1.size≤500:=by rw [J1,Va]
inductive DW (a:GT) (l:List TE):TE→Prop where
 |pair (h:a.kind=3):DW a l (Iz 2 a.rho [] [(l.getD 0 Dn).1,(l.getD 1 Dn).1],BO l [A3 a.rho])
 |proj (h:a.kind=4∨a.kind=5) (ht:ON 2 (l.getD 0 Dn)=true):DW a l ((l.getD 0 Dn).1.kids.getD (a.kind-4).toNat Bu,BO l [Bm (l.getD 0 Dn).1.head.rho])
 |ref (h:a.kind=6):DW a l (Iz 3 a.rho [] [(l.getD 0 Dn).1],BO l [A3 a.rho])
 |get (h:a.kind=7) (ht:ON 3 (l.getD 0 Dn)=true):DW a l ((l.getD 0 Dn).1.kids.getD 0 Bu,BO l [Bm (l.getD 0 Dn).1.head.rho])
 |set (h:a.kind=8) (ht:ON 3 (l.getD 0 Dn)=true) (hs:Eg ((l.getD 0 Dn).1.kids.getD 0 Bu) (l.getD 1 Dn).1=true):DW a l (Ij,BO l [A3 (l.getD 0 Dn).1.head.rho])
 |app (h:a.kind=10) (ht:ON 4 (l.getD 0 Dn)=true) (hs:Eg ((l.getD 0 Dn).1.kids.getD 0 Bu) (l.getD 1 Dn).1=true) :
  DW a l ((l.getD 0 Dn).1.kids.getD 1 Bu,A2 (BO l [Bm (l.getD 0 Dn).1.head.rho]++(l.getD 0 Dn).1.head.eff))
 |op (h:a.kind=9) (ht:l.all (ON 1)=true):DW a l (Ij,BO l [])
 |ite (h:a.kind=14) (ht:ON 1 (l.getD 0 Dn)=true) (hs:Eg (l.getD 1 Dn).1 (l.getD 2 Dn).1=true):DW a l ((l.getD 1 Dn).1,BO l [])
 |raise (h:a.kind=15) (ht:l.all (ON 1)=true):DW a l (a.ty,BO l [Ol a.exn])
 |num (h:a.kind=1):DW a l (Ij,BO l [])
 |fn (h:a.kind=11) (hw:A1 (l.getD 0 Dn).2 a.eff=true):DW a l (Iz 4 a.rho a.eff [a.ty,(l.getD 0 Dn).1],A2 [A3 a.rho])
 |letrec (h:a.kind=13) (hs:Eg (l.getD 0 Dn).1 a.res=true) (hw:A1 (l.getD 0 Dn).2 a.eff=true):DW a l ((l.getD 1 Dn).1,BO (l.drop 1) [A3 a.rho])
 |handle (h:a.kind=16) (hs:Eg (l.getD 0 Dn).1 (l.getD 1 Dn).1=true):DW a l ((l.getD 0 Dn).1,A2 (CP (l.getD 0 Dn).2 [a.exn]++(l.getD 1 Dn).2))
 |region (h:a.kind=17) (hn:Du (Bv (By (l.getD 0 Dn).1)) a.rho=false):DW a l ((l.getD 0 Dn).1,B6 (l.getD 0 Dn).2 [a.rho])
 |other (h:a.kind∉[(1:Int),3,4,5,6,7,8,9,10,11,13,14,15,16,17]):DW a l ((l.getD 1 Dn).1,BO l [])
theorem Qv{a:GT}{l:List TE}{x:TE}:AV a l=.ok x↔DW a l x:=by
 constructor
 ·intro h;unfold AV CB at h;dsimp only at h;by_cases k:a.kind=3
  ·rw [if_pos k] at h;cases h;exact .pair k
  rw [if_neg k] at h;have k3:=k;clear k;by_cases k:a.kind=4∨a.kind=5
  ·rw [if_pos k] at h;rw [Bo] at h;obtain⟨h1,h2⟩:=h;cases h2;exact .proj k h1
  rw [if_neg k] at h;have k45:=k;clear k;by_cases k:a.kind=6
  ·rw [if_pos k] at h;cases h;exact .ref k
  rw [if_neg k] at h;have k6:=k;clear k;by_cases k:a.kind=7
  ·rw [if_pos k] at h;rw [Bo] at h;obtain⟨h1,h2⟩:=h;cases h2;exact .get k h1
  rw [if_neg k] at h;have k7:=k;clear k;by_cases k:a.kind=8
  ·rw [if_pos k] at h;rw [Bo,Bool.and_eq_true] at h;obtain⟨⟨h1,h3⟩,h2⟩:=h;cases h2;exact .set k h1 h3
  rw [if_neg k] at h;have k8:=k;clear k;by_cases k:a.kind=10
  ·rw [if_pos k] at h;rw [Bo,Bool.and_eq_true] at h;obtain⟨⟨h1,h3⟩,h2⟩:=h;cases h2;exact .app k h1 h3
  rw [if_neg k] at h;have k10:=k;clear k;by_cases k:a.kind=9
  ·rw [if_pos k] at h;rw [Bo] at h;obtain⟨h1,h2⟩:=h;cases h2;exact .op k h1
  rw [if_neg k] at h;have k9:=k;clear k;by_cases k:a.kind=14
  ·rw [if_pos k] at h;rw [Bo,Bool.and_eq_true] at h;obtain⟨⟨h1,h3⟩,h2⟩:=h;cases h2;exact .ite k h1 h3
  rw [if_neg k] at h;have k14:=k;clear k;by_cases k:a.kind=15
  ·rw [if_pos k] at h;rw [Bo] at h;obtain⟨h1,h2⟩:=h;cases h2;exact .raise k h1
  rw [if_neg k] at h;have k15:=k;clear k;by_cases k:a.kind=1
  ·rw [if_pos k] at h;cases h;exact .num k
  rw [if_neg k] at h;have k1:=k;clear k;by_cases k:a.kind=11
  ·rw [if_pos k] at h;rw [Bo] at h;obtain⟨h1,h2⟩:=h;cases h2;exact .fn k h1
  rw [if_neg k] at h;have k11:=k;clear k;by_cases k:a.kind=13
  ·rw [if_pos k] at h;rw [Bo,Bo] at h;obtain⟨h1,h3,h2⟩:=h;cases h2;exact .letrec k h1 h3
  rw [if_neg k] at h;have k13:=k;clear k;by_cases k:a.kind=16
  ·rw [if_pos k] at h;rw [Bo] at h;obtain⟨h1,h2⟩:=h;cases h2;exact .handle k h1
  rw [if_neg k] at h;have k16:=k;clear k;by_cases k:a.kind=17
  ·rw [if_pos k] at h;rw [Bo] at h;obtain⟨h1,h2⟩:=h;cases h2;exact .region k (by simpa using h1)
  rw [if_neg k] at h;have k17:=k;clear k;cases h;refine .other ?_;simp only [List.mem_cons,List.not_mem_nil,or_false,not_or];refine⟨?_,?_,?_,?_,?_,?_,?_,?_,?_,?_,?_,?_,?_,?_,?_⟩<;>first|assumption|omega
 ·intro h;unfold AV CB;cases h with
  |proj k ht=>
   have h3:a.kind≠3:=by omega
   rw [if_neg h3,if_pos k,Bo];exact⟨ht,rfl⟩
  |other k=>
   simp only [List.mem_cons,List.not_mem_nil,or_false,not_or] at k;obtain⟨k1,k3,k4,k5,k6,k7,k8,k9,k10,k11,k13,k14,k15,k16,k17⟩:=k;simp [k1,k3,k4,k5,k6,k7,k8,k9,k10,k11,k13,k14,k15,k16,k17]
  |_=>simp_all [Bo]
theorem Cp(l:List AD)(x:AD):x∈A2 l↔x∈l∧AX x=true:=by rw [CV,List.mem_filter]
structure Xi(rhos:List Int)(x:TE):Prop where
 ty:∀z∈By x.1,z∈rhos
 eff:∀z∈BQ x.2,z∈rhos
theorem Rm:By Bu=[0]:=rfl
theorem Xi.zero{rhos:List Int}(h0:(0:Int)∈rhos):Xi rhos Dn:=⟨fun z hz=>by
 have:z=0:=by simpa [Dn,Rm] using hz
 subst this;exact h0,fun z hz=>by simp [Dn,BQ,Bv,GR] at hz⟩
theorem V7{f t:List Int}{l:List AD}{x:AD}(h:x∈Kb f t l):∃y∈l,AX y=true∧x=Ga f t y∧AX x=true:=by unfold Kb at h;rw [CV,List.mem_filter,List.mem_map] at h;obtain⟨⟨y,hy,rfl⟩,h2⟩:=h;rw [CV,List.mem_filter] at hy;exact⟨y,hy.1,hy.2,rfl,h2⟩
structure Xc(rhos:List Int)(b:Fp):Prop where
 ty:∀z∈By b.ty,z∈rhos
 fn:∀f,b.fn=some f→f.rho∈rhos∧(∀z∈BQ f.eff,z∈rhos∨z∈f.rhos)∧∀z,z∈By f.ty∨z∈By f.res→z∈rhos∨z∈f.rhos
theorem Xc.mono{rhos rhos':List Int}{b:Fp}(h:Xc rhos b)(hr:∀z∈rhos,z∈rhos'):Xc rhos' b:=⟨fun z hz=>hr z (h.ty z hz),fun f hf=>⟨hr _ (h.fn f hf).1,fun z hz=>((h.fn f hf).2.1 z hz).imp (hr z) id,fun z hz=>((h.fn f hf).2.2 z hz).imp (hr z) id⟩⟩
theorem Is{env:List Fp}{x:ByteArray}{b:Fp}(h:Df env x=some b):b∈env∧b.name=x:=by unfold Df at h;exact⟨List.mem_reverse.1 (List.mem_of_find?_eq_some h),by simpa using List.find?_some h⟩
end Go.Proofs.YtkdjnegfnhldpaaGreatDoor
