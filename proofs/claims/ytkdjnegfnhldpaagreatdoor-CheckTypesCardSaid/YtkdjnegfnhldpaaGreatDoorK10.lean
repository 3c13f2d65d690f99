/- Part 10. -/
import Derived.Test.YtkdjnegfnhldpaaGreatDoorK09
set_option linter.unusedVariables false
set_option maxRecDepth 100000
set_option linter.unusedSimpArgs false
set_option maxHeartbeats 40000000
set_option autoImplicit true
set_option relaxedAutoImplicit true
namespace Go.Proofs.YtkdjnegfnhldpaaGreatDoor
open Go.Proofs.Tryz Go.RowKit
structure AnS(w W:World)(g:Nat)(a:AH)(b0 b1 b2 b3 b4:Bool):Prop where
 box:JB W w.heap.size a
 f:W.heap[g]?=some (.cells #[.bool b0,.bool b1,.bool b2,.bool b3,.bool b4] 137 (0,0))
 below:Below w.heap.size w W
theorem AnS.drop(h:AnS w W g a b0 b1 b2 b3 b4)(hb:Below W.heap.size W W'):AnS w W' g a b0 b1 b2 b3 b4:=⟨h.box.below hb,by rw [hb.block g (AO.1 h.f).1];exact h.f,h.below.trans (hb.mono h.below.size)⟩
theorem AnS.cells(h:AnS w W g a b0 b1 b2 b3 b4):(W.cell? ⟨g,0,none⟩=some (.bool b0)/\W.cell? ⟨g,1,none⟩=some (.bool b1)/\W.cell? ⟨g,2,none⟩=some (.bool b2)/\W.cell? ⟨g,3,none⟩=some (.bool b3)/\W.cell? ⟨g,4,none⟩=some (.bool b4))/\W.cell? ⟨w.heap.size,0,none⟩=some (.int .u8 a.kind)/\W.cell? ⟨w.heap.size,8,none⟩=some (.slice a.rp a.rn a.rc)/\W.cell? ⟨w.heap.size,9,none⟩=some (.slice a.ep a.en a.ec)/\W.cell? ⟨w.heap.size,10,none⟩=some (.int .u8 a.ty.head.kind)/\W.cell? ⟨w.heap.size,11,none⟩=some (.int .i64 a.ty.head.rho)/\W.cell? ⟨w.heap.size,12,none⟩=some (.slice a.ty.head.ep a.ty.head.en a.ty.head.ec)/\W.cell? ⟨w.heap.size,13,none⟩=some (.slice a.ty.head.kp a.ty.head.kn a.ty.head.kc)/\W.cell? ⟨w.heap.size,14,none⟩=some (.int .u8 a.res.head.kind)/\W.cell? ⟨w.heap.size,15,none⟩=some (.int .i64 a.res.head.rho)/\W.cell? ⟨w.heap.size,16,none⟩=some (.slice a.res.head.ep a.res.head.en a.res.head.ec)/\W.cell? ⟨w.heap.size,17,none⟩=some (.slice a.res.head.kp a.res.head.kn a.res.head.kc):=by have hf:=h.f;refine⟨⟨?_,?_,?_,?_,?_⟩,h.box.c 0 _ rfl,h.box.c 8 _ rfl,h.box.c 9 _ rfl,h.box.c 10 _ rfl,h.box.c 11 _ rfl,h.box.c 12 _ rfl,h.box.c 13 _ rfl,h.box.c 14 _ rfl,h.box.c 15 _ rfl,h.box.c 16 _ rfl,h.box.c 17 _ rfl⟩<;>simp [World.cell?,hf]
theorem O7{t:PT}{w:World}{n:Nat}(hl:LR.lies w t)(hs:II t.er n)(hn:n<=1000000):t.head.en<=1000000/\t.head.kn<=1000000:=by have hN:=ZCE hl;obtain⟨a,l⟩:=t;rw [PT.er_node] at hs;have h1:=hs.kids;have h2:=I4 hs.eff;have h3:=hN.own.eff.len;have h4:=hN.kids.len;simp only [Ba] at h1;have h5:a.eff.length<=200:=h2;have h6:a.eff.length=a.en:=h3;have h7:l.length=a.kn:=h4;show a.en<=1000000/\a.kn<=1000000;omega
theorem P6(a:AH)(ho:AH.Own w a)(hs:GP a)(hk:a.kn<=1000000)(hv:Vr w):Calls prog 60 #[DP a] w (RB w (.bool (IR a))):=by
 have nU:=I4 hs.eff;have lB:a.en<=1000000:=by have:=ho.eff.len;omega
 obtain⟨vK,vL⟩:=O7 ho.ty hs.ty (by omega);obtain⟨iN,dx⟩:=O7 ho.res hs.res (by omega)
 have HM:Hd (IR a=(GD a.hd a.kn&&Pd a (KL [3,6,11,13,17,18] a.kind) ((a.kind==13)||(a.kind==18))&&(!(a.kind==13)||L8 a.rhos)&&(!(KL [11,13,18] a.kind)||ID a.eff)&&(KL [11,13,18] a.kind||!decide (0<a.en)) &&
  (Mh (KL [11,13,15] a.kind) a.ty&&Mh (a.kind==13) a.res))):=(ZAl a ho.rhos.len ho.eff.len).symm
 have uU:=ho.eff.max;have CH:∀W,Below w.heap.size w W->Calls prog 90 #[DP a] W fun e w'=>e=.returned (.bool (GD a.hd a.kn))/\Below W.heap.size W w':=fun W hb=>OE a ho.k0 ho.k1 hk (hv.below hb);have CR:∀W,Below w.heap.size w W->Calls prog 91 #[DP a,ofB a.kind] W fun e w'=>e=.returned (.bool (Pd a (KL [3,6,11,13,17,18] a.kind) ((a.kind==13)||(a.kind==18))))/\Below W.heap.size W w':=fun W hb=>VN a _ _ _ _ _ (ho.rhos.below hb);have CO:∀W,Below w.heap.size w W->Calls prog 92 #[.slice a.rp a.rn a.rc] W fun e w'=>e=.returned (.bool (L8 a.rhos))/\Below W.heap.size W w':=fun W hb=>ZAp (ho.rhos.below hb) (by have:=hs.rhos;omega);have CM:∀W,Below w.heap.size w W->Calls prog 93 #[.slice a.ep a.en a.ec] W fun e w'=>e=.returned (.bool (ID a.eff))/\Below W.heap.size W w':=fun W hb=>Kt rfl (ho.eff.below hb);have CF1:∀W,Below w.heap.size w W->Calls prog 94 #[.bool (KL [11,13,15] a.kind),IJ a.ty.head] W fun e w'=>e=.returned (.bool (Mh (KL [11,13,15] a.kind) a.ty))/\Below W.heap.size W w':=fun W hb=>Lk _ _ (LR.lies_below hb _ ho.ty) vK vL;have CF2:∀W,Below w.heap.size w W->Calls prog 94 #[.bool (a.kind==13),IJ a.res.head] W fun e w'=>e=.returned (.bool (Mh (a.kind==13) a.res))/\Below W.heap.size W w':=fun W hb=>Lk _ _ (LR.lies_below hb _ ho.res) iN dx;have COf:=AF (ZDK a.kind (w.alloc (Bt a)));have cg:=AF ((AA w.heap.size w).alloc (AB _) (Bt a));have dz:=AF (C8 w a);unfold ofB at COf CR;clear ho hs hk hv nU vK vL iN dx;generalize GD a.hd a.kn=H at *
 generalize Pd a (KL [3,6,11,13,17,18] a.kind) ((a.kind==13)||(a.kind==18))=R at *
 generalize L8 a.rhos=O at *
 generalize ID a.eff=M at *
 generalize Mh (KL [11,13,15] a.kind) a.ty=F1 at *
 generalize Mh (a.kind==13) a.res=F2 at *
 generalize KL [3,6,11,13,17,18] a.kind=I1 at *
 generalize ((a.kind==13)||(a.kind==18))=FH at *
 generalize KL [11,13,18] a.kind=I2 at *
 generalize KL [11,13,15] a.kind=I3 at *
 generalize bf:(a.kind==13)=K13 at *
 have iE:=AF CH;have qr:=AF CR;have iQ:=AF CO;have iP:=AF CM;have da:=AF CF1;have db:=AF CF2;clear CH CR CO CM CF1 CF2;have c0:=dz.o.c 0 _ rfl;go_enter func60,ntmps60;go_upto_region 2 with(go_at_call 89;refine COf.out.mono ?_;rintro e w2 ⟨rfl,hb⟩;have aF:=AF hb;clear hb)
 have HN:Hd (AnS w (w2.alloc (.cells #[.bool I1,.bool FH,.bool I2,.bool I3,.bool K13] 137)) w2.heap.size a I1 FH I2 I3 K13):=AF ⟨(dz.o.below aF.o).below bA,AG w2 _,(cg.o.trans (aF.o.mono cg.o.size)).alloc (cg.o.trans (aF.o.mono cg.o.size)).size _⟩;generalize w2.alloc (.cells #[.bool I1,.bool FH,.bool I2,.bool I3,.bool K13] 137)=W at *
 clear c0 COf cg dz;generalize w2.heap.size=g at *
 clear aF;obtain⟨⟨f0,f1,f2,f3,f4⟩,c0,c8,c9,c10,c11,c12,c13,c14,c15,c16,c17⟩:=HN.o.cells;cases H with
 |false=>
  go_wp2_with (first
   |(refine lw HN.o.box.blk underlying31 ?_)
   |(go_at_call 90;refine(iE.o _ HN.o.below).mono ?_;rintro e w8 ⟨rfl,hb⟩;have HN:=AF (HN.o.drop hb);clear hb f0 f1 f2 f3 f4 c0 c8 c9 c10 c11 c12 c13 c14 c15 c16 c17;obtain⟨⟨f0,f1,f2,f3,f4⟩,c0,c8,c9,c10,c11,c12,c13,c14,c15,c16,c17⟩:=HN.o.cells))
  go_ret;exact⟨Af (by rw [HM.o];rfl),HN.o.below⟩
 |true=>
  rw [Bz] at HM;cases R with
  |false=>
   go_wp2_with (first
    |(refine lw HN.o.box.blk underlying31 ?_)
    |(go_at_call 90;refine(iE.o _ HN.o.below).mono ?_;rintro e w8 ⟨rfl,hb⟩;have HN:=AF (HN.o.drop hb);clear hb f0 f1 f2 f3 f4 c0 c8 c9 c10 c11 c12 c13 c14 c15 c16 c17;obtain⟨⟨f0,f1,f2,f3,f4⟩,c0,c8,c9,c10,c11,c12,c13,c14,c15,c16,c17⟩:=HN.o.cells)
    |(go_at_call 91;refine(qr.o _ HN.o.below).mono ?_;rintro e w8 ⟨rfl,hb⟩;have HN:=AF (HN.o.drop hb);clear hb f0 f1 f2 f3 f4 c0 c8 c9 c10 c11 c12 c13 c14 c15 c16 c17;obtain⟨⟨f0,f1,f2,f3,f4⟩,c0,c8,c9,c10,c11,c12,c13,c14,c15,c16,c17⟩:=HN.o.cells))
   go_ret;exact⟨Af (by rw [HM.o];rfl),HN.o.below⟩
  |true=>
   rw [Bz] at HM
   go_upto_region 4 with(first
    |(refine lw HN.o.box.blk underlying31 ?_)
    |(go_at_call 90;refine(iE.o _ HN.o.below).mono ?_;rintro e w8 ⟨rfl,hb⟩;have HN:=AF (HN.o.drop hb);clear hb f0 f1 f2 f3 f4 c0 c8 c9 c10 c11 c12 c13 c14 c15 c16 c17;obtain⟨⟨f0,f1,f2,f3,f4⟩,c0,c8,c9,c10,c11,c12,c13,c14,c15,c16,c17⟩:=HN.o.cells)
    |(go_at_call 91;refine(qr.o _ HN.o.below).mono ?_;rintro e w8 ⟨rfl,hb⟩;have HN:=AF (HN.o.drop hb);clear hb f0 f1 f2 f3 f4 c0 c8 c9 c10 c11 c12 c13 c14 c15 c16 c17;obtain⟨⟨f0,f1,f2,f3,f4⟩,c0,c8,c9,c10,c11,c12,c13,c14,c15,c16,c17⟩:=HN.o.cells))
   clear iE qr;cases K13 with
   |true=>
    cases O with
    |false=>
     have aX:=da
     go_wp2_with (first
      |(go_at_call 92;refine(iQ.o _ HN.o.below).mono ?_;rintro e w8 ⟨rfl,hb⟩;have HN:=AF (HN.o.drop hb);clear hb f0 f1 f2 f3 f4 c0 c8 c9 c10 c11 c12 c13 c14 c15 c16 c17;obtain⟨⟨f0,f1,f2,f3,f4⟩,c0,c8,c9,c10,c11,c12,c13,c14,c15,c16,c17⟩:=HN.o.cells)
      |(go_at_call 93;refine(iP.o _ HN.o.below).mono ?_;rintro e w8 ⟨rfl,hb⟩;have HN:=AF (HN.o.drop hb);clear hb f0 f1 f2 f3 f4 c0 c8 c9 c10 c11 c12 c13 c14 c15 c16 c17;obtain⟨⟨f0,f1,f2,f3,f4⟩,c0,c8,c9,c10,c11,c12,c13,c14,c15,c16,c17⟩:=HN.o.cells)
      |(go_at_call 94;refine(aX.o _ HN.o.below).mono ?_;rintro e w8 ⟨rfl,hb⟩;clear aX;have aX:=db;have HN:=AF (HN.o.drop hb);clear hb f0 f1 f2 f3 f4 c0 c8 c9 c10 c11 c12 c13 c14 c15 c16 c17;obtain⟨⟨f0,f1,f2,f3,f4⟩,c0,c8,c9,c10,c11,c12,c13,c14,c15,c16,c17⟩:=HN.o.cells))
     go_ret;exact⟨Af (by rw [HM.o];rfl),HN.o.below⟩
    |true=>
     cases I2 with
     |true=>
      cases M with
      |false=>
       have aX:=da
       go_wp2_with (first
        |(go_at_call 92;refine(iQ.o _ HN.o.below).mono ?_;rintro e w8 ⟨rfl,hb⟩;have HN:=AF (HN.o.drop hb);clear hb f0 f1 f2 f3 f4 c0 c8 c9 c10 c11 c12 c13 c14 c15 c16 c17;obtain⟨⟨f0,f1,f2,f3,f4⟩,c0,c8,c9,c10,c11,c12,c13,c14,c15,c16,c17⟩:=HN.o.cells)
        |(go_at_call 93;refine(iP.o _ HN.o.below).mono ?_;rintro e w8 ⟨rfl,hb⟩;have HN:=AF (HN.o.drop hb);clear hb f0 f1 f2 f3 f4 c0 c8 c9 c10 c11 c12 c13 c14 c15 c16 c17;obtain⟨⟨f0,f1,f2,f3,f4⟩,c0,c8,c9,c10,c11,c12,c13,c14,c15,c16,c17⟩:=HN.o.cells)
        |(go_at_call 94;refine(aX.o _ HN.o.below).mono ?_;rintro e w8 ⟨rfl,hb⟩;clear aX;have aX:=db;have HN:=AF (HN.o.drop hb);clear hb f0 f1 f2 f3 f4 c0 c8 c9 c10 c11 c12 c13 c14 c15 c16 c17;obtain⟨⟨f0,f1,f2,f3,f4⟩,c0,c8,c9,c10,c11,c12,c13,c14,c15,c16,c17⟩:=HN.o.cells))
       go_ret;exact⟨Af (by rw [HM.o];rfl),HN.o.below⟩
      |true=>
       cases F1 with
       |false=>
        have aX:=da
        go_wp2_with (first
         |(go_at_call 92;refine(iQ.o _ HN.o.below).mono ?_;rintro e w8 ⟨rfl,hb⟩;have HN:=AF (HN.o.drop hb);clear hb f0 f1 f2 f3 f4 c0 c8 c9 c10 c11 c12 c13 c14 c15 c16 c17;obtain⟨⟨f0,f1,f2,f3,f4⟩,c0,c8,c9,c10,c11,c12,c13,c14,c15,c16,c17⟩:=HN.o.cells)
         |(go_at_call 93;refine(iP.o _ HN.o.below).mono ?_;rintro e w8 ⟨rfl,hb⟩;have HN:=AF (HN.o.drop hb);clear hb f0 f1 f2 f3 f4 c0 c8 c9 c10 c11 c12 c13 c14 c15 c16 c17;obtain⟨⟨f0,f1,f2,f3,f4⟩,c0,c8,c9,c10,c11,c12,c13,c14,c15,c16,c17⟩:=HN.o.cells)
         |(go_at_call 94;refine(aX.o _ HN.o.below).mono ?_;rintro e w8 ⟨rfl,hb⟩;clear aX;have aX:=db;have HN:=AF (HN.o.drop hb);clear hb f0 f1 f2 f3 f4 c0 c8 c9 c10 c11 c12 c13 c14 c15 c16 c17;obtain⟨⟨f0,f1,f2,f3,f4⟩,c0,c8,c9,c10,c11,c12,c13,c14,c15,c16,c17⟩:=HN.o.cells))
        go_ret;exact⟨Af (by rw [HM.o];rfl),HN.o.below⟩
       |true=>
        rw [Bz] at HM;have aX:=da
        go_wp2_with (first
         |(go_at_call 92;refine(iQ.o _ HN.o.below).mono ?_;rintro e w8 ⟨rfl,hb⟩;have HN:=AF (HN.o.drop hb);clear hb f0 f1 f2 f3 f4 c0 c8 c9 c10 c11 c12 c13 c14 c15 c16 c17;obtain⟨⟨f0,f1,f2,f3,f4⟩,c0,c8,c9,c10,c11,c12,c13,c14,c15,c16,c17⟩:=HN.o.cells)
         |(go_at_call 93;refine(iP.o _ HN.o.below).mono ?_;rintro e w8 ⟨rfl,hb⟩;have HN:=AF (HN.o.drop hb);clear hb f0 f1 f2 f3 f4 c0 c8 c9 c10 c11 c12 c13 c14 c15 c16 c17;obtain⟨⟨f0,f1,f2,f3,f4⟩,c0,c8,c9,c10,c11,c12,c13,c14,c15,c16,c17⟩:=HN.o.cells)
         |(go_at_call 94;refine(aX.o _ HN.o.below).mono ?_;rintro e w8 ⟨rfl,hb⟩;clear aX;have aX:=db;have HN:=AF (HN.o.drop hb);clear hb f0 f1 f2 f3 f4 c0 c8 c9 c10 c11 c12 c13 c14 c15 c16 c17;obtain⟨⟨f0,f1,f2,f3,f4⟩,c0,c8,c9,c10,c11,c12,c13,c14,c15,c16,c17⟩:=HN.o.cells))
        go_ret;exact⟨Af (by rw [HM.o];rfl),HN.o.below⟩
     |false=>
      by_cases hE:0<a.en
      ·rw [CV hE] at HM;have aX:=da
       go_wp2_with (first
        |(go_at_call 92;refine(iQ.o _ HN.o.below).mono ?_;rintro e w8 ⟨rfl,hb⟩;have HN:=AF (HN.o.drop hb);clear hb f0 f1 f2 f3 f4 c0 c8 c9 c10 c11 c12 c13 c14 c15 c16 c17;obtain⟨⟨f0,f1,f2,f3,f4⟩,c0,c8,c9,c10,c11,c12,c13,c14,c15,c16,c17⟩:=HN.o.cells)
        |(go_at_call 93;refine(iP.o _ HN.o.below).mono ?_;rintro e w8 ⟨rfl,hb⟩;have HN:=AF (HN.o.drop hb);clear hb f0 f1 f2 f3 f4 c0 c8 c9 c10 c11 c12 c13 c14 c15 c16 c17;obtain⟨⟨f0,f1,f2,f3,f4⟩,c0,c8,c9,c10,c11,c12,c13,c14,c15,c16,c17⟩:=HN.o.cells)
        |(go_at_call 94;refine(aX.o _ HN.o.below).mono ?_;rintro e w8 ⟨rfl,hb⟩;clear aX;have aX:=db;have HN:=AF (HN.o.drop hb);clear hb f0 f1 f2 f3 f4 c0 c8 c9 c10 c11 c12 c13 c14 c15 c16 c17;obtain⟨⟨f0,f1,f2,f3,f4⟩,c0,c8,c9,c10,c11,c12,c13,c14,c15,c16,c17⟩:=HN.o.cells))
       go_ret;exact⟨Af (by rw [HM.o];rfl),HN.o.below⟩
      ·rw [CY hE] at HM;cases F1 with
       |false=>
        have aX:=da
        go_wp2_with (first
         |(go_at_call 92;refine(iQ.o _ HN.o.below).mono ?_;rintro e w8 ⟨rfl,hb⟩;have HN:=AF (HN.o.drop hb);clear hb f0 f1 f2 f3 f4 c0 c8 c9 c10 c11 c12 c13 c14 c15 c16 c17;obtain⟨⟨f0,f1,f2,f3,f4⟩,c0,c8,c9,c10,c11,c12,c13,c14,c15,c16,c17⟩:=HN.o.cells)
         |(go_at_call 93;refine(iP.o _ HN.o.below).mono ?_;rintro e w8 ⟨rfl,hb⟩;have HN:=AF (HN.o.drop hb);clear hb f0 f1 f2 f3 f4 c0 c8 c9 c10 c11 c12 c13 c14 c15 c16 c17;obtain⟨⟨f0,f1,f2,f3,f4⟩,c0,c8,c9,c10,c11,c12,c13,c14,c15,c16,c17⟩:=HN.o.cells)
         |(go_at_call 94;refine(aX.o _ HN.o.below).mono ?_;rintro e w8 ⟨rfl,hb⟩;clear aX;have aX:=db;have HN:=AF (HN.o.drop hb);clear hb f0 f1 f2 f3 f4 c0 c8 c9 c10 c11 c12 c13 c14 c15 c16 c17;obtain⟨⟨f0,f1,f2,f3,f4⟩,c0,c8,c9,c10,c11,c12,c13,c14,c15,c16,c17⟩:=HN.o.cells))
        go_ret;exact⟨Af (by rw [HM.o];rfl),HN.o.below⟩
       |true=>
        rw [Bz] at HM;have aX:=da
        go_wp2_with (first
         |(go_at_call 92;refine(iQ.o _ HN.o.below).mono ?_;rintro e w8 ⟨rfl,hb⟩;have HN:=AF (HN.o.drop hb);clear hb f0 f1 f2 f3 f4 c0 c8 c9 c10 c11 c12 c13 c14 c15 c16 c17;obtain⟨⟨f0,f1,f2,f3,f4⟩,c0,c8,c9,c10,c11,c12,c13,c14,c15,c16,c17⟩:=HN.o.cells)
         |(go_at_call 93;refine(iP.o _ HN.o.below).mono ?_;rintro e w8 ⟨rfl,hb⟩;have HN:=AF (HN.o.drop hb);clear hb f0 f1 f2 f3 f4 c0 c8 c9 c10 c11 c12 c13 c14 c15 c16 c17;obtain⟨⟨f0,f1,f2,f3,f4⟩,c0,c8,c9,c10,c11,c12,c13,c14,c15,c16,c17⟩:=HN.o.cells)
         |(go_at_call 94;refine(aX.o _ HN.o.below).mono ?_;rintro e w8 ⟨rfl,hb⟩;clear aX;have aX:=db;have HN:=AF (HN.o.drop hb);clear hb f0 f1 f2 f3 f4 c0 c8 c9 c10 c11 c12 c13 c14 c15 c16 c17;obtain⟨⟨f0,f1,f2,f3,f4⟩,c0,c8,c9,c10,c11,c12,c13,c14,c15,c16,c17⟩:=HN.o.cells))
        go_ret;exact⟨Af (by rw [HM.o];rfl),HN.o.below⟩
   |false=>
    cases I2 with
    |true=>
     cases M with
     |false=>
      have aX:=da
      go_wp2_with (first
       |(go_at_call 92;refine(iQ.o _ HN.o.below).mono ?_;rintro e w8 ⟨rfl,hb⟩;have HN:=AF (HN.o.drop hb);clear hb f0 f1 f2 f3 f4 c0 c8 c9 c10 c11 c12 c13 c14 c15 c16 c17;obtain⟨⟨f0,f1,f2,f3,f4⟩,c0,c8,c9,c10,c11,c12,c13,c14,c15,c16,c17⟩:=HN.o.cells)
       |(go_at_call 93;refine(iP.o _ HN.o.below).mono ?_;rintro e w8 ⟨rfl,hb⟩;have HN:=AF (HN.o.drop hb);clear hb f0 f1 f2 f3 f4 c0 c8 c9 c10 c11 c12 c13 c14 c15 c16 c17;obtain⟨⟨f0,f1,f2,f3,f4⟩,c0,c8,c9,c10,c11,c12,c13,c14,c15,c16,c17⟩:=HN.o.cells)
       |(go_at_call 94;refine(aX.o _ HN.o.below).mono ?_;rintro e w8 ⟨rfl,hb⟩;clear aX;have aX:=db;have HN:=AF (HN.o.drop hb);clear hb f0 f1 f2 f3 f4 c0 c8 c9 c10 c11 c12 c13 c14 c15 c16 c17;obtain⟨⟨f0,f1,f2,f3,f4⟩,c0,c8,c9,c10,c11,c12,c13,c14,c15,c16,c17⟩:=HN.o.cells))
      go_ret;exact⟨Af (by rw [HM.o];rfl),HN.o.below⟩
     |true=>
      cases F1 with
      |false=>
       have aX:=da
       go_wp2_with (first
        |(go_at_call 92;refine(iQ.o _ HN.o.below).mono ?_;rintro e w8 ⟨rfl,hb⟩;have HN:=AF (HN.o.drop hb);clear hb f0 f1 f2 f3 f4 c0 c8 c9 c10 c11 c12 c13 c14 c15 c16 c17;obtain⟨⟨f0,f1,f2,f3,f4⟩,c0,c8,c9,c10,c11,c12,c13,c14,c15,c16,c17⟩:=HN.o.cells)
        |(go_at_call 93;refine(iP.o _ HN.o.below).mono ?_;rintro e w8 ⟨rfl,hb⟩;have HN:=AF (HN.o.drop hb);clear hb f0 f1 f2 f3 f4 c0 c8 c9 c10 c11 c12 c13 c14 c15 c16 c17;obtain⟨⟨f0,f1,f2,f3,f4⟩,c0,c8,c9,c10,c11,c12,c13,c14,c15,c16,c17⟩:=HN.o.cells)
        |(go_at_call 94;refine(aX.o _ HN.o.below).mono ?_;rintro e w8 ⟨rfl,hb⟩;clear aX;have aX:=db;have HN:=AF (HN.o.drop hb);clear hb f0 f1 f2 f3 f4 c0 c8 c9 c10 c11 c12 c13 c14 c15 c16 c17;obtain⟨⟨f0,f1,f2,f3,f4⟩,c0,c8,c9,c10,c11,c12,c13,c14,c15,c16,c17⟩:=HN.o.cells))
       go_ret;exact⟨Af (by rw [HM.o];rfl),HN.o.below⟩
      |true=>
       rw [Bz] at HM;have aX:=da
       go_wp2_with (first
        |(go_at_call 92;refine(iQ.o _ HN.o.below).mono ?_;rintro e w8 ⟨rfl,hb⟩;have HN:=AF (HN.o.drop hb);clear hb f0 f1 f2 f3 f4 c0 c8 c9 c10 c11 c12 c13 c14 c15 c16 c17;obtain⟨⟨f0,f1,f2,f3,f4⟩,c0,c8,c9,c10,c11,c12,c13,c14,c15,c16,c17⟩:=HN.o.cells)
        |(go_at_call 93;refine(iP.o _ HN.o.below).mono ?_;rintro e w8 ⟨rfl,hb⟩;have HN:=AF (HN.o.drop hb);clear hb f0 f1 f2 f3 f4 c0 c8 c9 c10 c11 c12 c13 c14 c15 c16 c17;obtain⟨⟨f0,f1,f2,f3,f4⟩,c0,c8,c9,c10,c11,c12,c13,c14,c15,c16,c17⟩:=HN.o.cells)
        |(go_at_call 94;refine(aX.o _ HN.o.below).mono ?_;rintro e w8 ⟨rfl,hb⟩;clear aX;have aX:=db;have HN:=AF (HN.o.drop hb);clear hb f0 f1 f2 f3 f4 c0 c8 c9 c10 c11 c12 c13 c14 c15 c16 c17;obtain⟨⟨f0,f1,f2,f3,f4⟩,c0,c8,c9,c10,c11,c12,c13,c14,c15,c16,c17⟩:=HN.o.cells))
       go_ret;exact⟨Af (by rw [HM.o];rfl),HN.o.below⟩
    |false=>
     by_cases hE:0<a.en
     ·rw [CV hE] at HM;have aX:=da
      go_wp2_with (first
       |(go_at_call 92;refine(iQ.o _ HN.o.below).mono ?_;rintro e w8 ⟨rfl,hb⟩;have HN:=AF (HN.o.drop hb);clear hb f0 f1 f2 f3 f4 c0 c8 c9 c10 c11 c12 c13 c14 c15 c16 c17;obtain⟨⟨f0,f1,f2,f3,f4⟩,c0,c8,c9,c10,c11,c12,c13,c14,c15,c16,c17⟩:=HN.o.cells)
       |(go_at_call 93;refine(iP.o _ HN.o.below).mono ?_;rintro e w8 ⟨rfl,hb⟩;have HN:=AF (HN.o.drop hb);clear hb f0 f1 f2 f3 f4 c0 c8 c9 c10 c11 c12 c13 c14 c15 c16 c17;obtain⟨⟨f0,f1,f2,f3,f4⟩,c0,c8,c9,c10,c11,c12,c13,c14,c15,c16,c17⟩:=HN.o.cells)
       |(go_at_call 94;refine(aX.o _ HN.o.below).mono ?_;rintro e w8 ⟨rfl,hb⟩;clear aX;have aX:=db;have HN:=AF (HN.o.drop hb);clear hb f0 f1 f2 f3 f4 c0 c8 c9 c10 c11 c12 c13 c14 c15 c16 c17;obtain⟨⟨f0,f1,f2,f3,f4⟩,c0,c8,c9,c10,c11,c12,c13,c14,c15,c16,c17⟩:=HN.o.cells))
      go_ret;exact⟨Af (by rw [HM.o];rfl),HN.o.below⟩
     ·rw [CY hE] at HM;cases F1 with
      |false=>
       have aX:=da
       go_wp2_with (first
        |(go_at_call 92;refine(iQ.o _ HN.o.below).mono ?_;rintro e w8 ⟨rfl,hb⟩;have HN:=AF (HN.o.drop hb);clear hb f0 f1 f2 f3 f4 c0 c8 c9 c10 c11 c12 c13 c14 c15 c16 c17;obtain⟨⟨f0,f1,f2,f3,f4⟩,c0,c8,c9,c10,c11,c12,c13,c14,c15,c16,c17⟩:=HN.o.cells)
        |(go_at_call 93;refine(iP.o _ HN.o.below).mono ?_;rintro e w8 ⟨rfl,hb⟩;have HN:=AF (HN.o.drop hb);clear hb f0 f1 f2 f3 f4 c0 c8 c9 c10 c11 c12 c13 c14 c15 c16 c17;obtain⟨⟨f0,f1,f2,f3,f4⟩,c0,c8,c9,c10,c11,c12,c13,c14,c15,c16,c17⟩:=HN.o.cells)
        |(go_at_call 94;refine(aX.o _ HN.o.below).mono ?_;rintro e w8 ⟨rfl,hb⟩;clear aX;have aX:=db;have HN:=AF (HN.o.drop hb);clear hb f0 f1 f2 f3 f4 c0 c8 c9 c10 c11 c12 c13 c14 c15 c16 c17;obtain⟨⟨f0,f1,f2,f3,f4⟩,c0,c8,c9,c10,c11,c12,c13,c14,c15,c16,c17⟩:=HN.o.cells))
       go_ret;exact⟨Af (by rw [HM.o];rfl),HN.o.below⟩
      |true=>
       rw [Bz] at HM;have aX:=da
       go_wp2_with (first
        |(go_at_call 92;refine(iQ.o _ HN.o.below).mono ?_;rintro e w8 ⟨rfl,hb⟩;have HN:=AF (HN.o.drop hb);clear hb f0 f1 f2 f3 f4 c0 c8 c9 c10 c11 c12 c13 c14 c15 c16 c17;obtain⟨⟨f0,f1,f2,f3,f4⟩,c0,c8,c9,c10,c11,c12,c13,c14,c15,c16,c17⟩:=HN.o.cells)
        |(go_at_call 93;refine(iP.o _ HN.o.below).mono ?_;rintro e w8 ⟨rfl,hb⟩;have HN:=AF (HN.o.drop hb);clear hb f0 f1 f2 f3 f4 c0 c8 c9 c10 c11 c12 c13 c14 c15 c16 c17;obtain⟨⟨f0,f1,f2,f3,f4⟩,c0,c8,c9,c10,c11,c12,c13,c14,c15,c16,c17⟩:=HN.o.cells)
        |(go_at_call 94;refine(aX.o _ HN.o.below).mono ?_;rintro e w8 ⟨rfl,hb⟩;clear aX;have aX:=db;have HN:=AF (HN.o.drop hb);clear hb f0 f1 f2 f3 f4 c0 c8 c9 c10 c11 c12 c13 c14 c15 c16 c17;obtain⟨⟨f0,f1,f2,f3,f4⟩,c0,c8,c9,c10,c11,c12,c13,c14,c15,c16,c17⟩:=HN.o.cells))
       go_ret;exact⟨Af (by rw [HM.o];rfl),HN.o.below⟩
theorem PG(a:AH)(b:Nat)(z:Int)(W:World)(h:Fz b z W):Calls prog 88 #[DP a,.pointer (some ⟨b,0,none⟩)] W fun e w'=>e=.returned (.bool (LL a z).1)/\Fz b (LL a z).2 w'/\W.grownBy w' (some b):=by have HA:=AF (h.below ((AA _ _).alloc (AB _) (Bt a)));obtain⟨q0,qf⟩:=HA.o.cells;obtain⟨Z,hZ⟩:∃Z,IntKind.i64.wrap (z+1)=Z:=⟨_,rfl⟩;have HZ:Hd ((LL a z).2=Z):=hZ;clear h;go_enter func88,ntmps88;go_wp2_with fail;go_ret;refine⟨rfl,?_⟩;rw [HZ.o];exact⟨HA.o.set Z,(C4 W _ _).trans (Ar _ _ _ _)⟩
theorem ZAH{w0:World}{b:Nat}(hb:w0.heap.size<=b):FvA w0 (some b) 88 #[.pointer (some ⟨b,0,none⟩)] (Fz b) (fun _=>True) LL where
 eg:=fun args w=>rfl
 hb:=fun b' h=>by injection h with h;omega
 lt:=fun b' h s W hi=>by injection h with h;rw [<-h];exact hi.lt
 inv:=fun s W W' hi bB=>hi.below bB
 call:=fun a s W _ _ hi=>PG a b s W hi
theorem P5(hr:Hc w p n c l)(hm:(B8 l).length=m)(h3:m<=1000000):Calls prog 58 #[.slice p n c] w (RB w (.int .i64 m)):=by
 have HE:=AF (Lj (ZAH (w0:=w) (b:=w.heap.size) (AB _)) l p n c hr (fun _ _=>trivial));have HP:Hd (BR LL (B8 l) 0=(true,(m:Int))):=by show _=_;rw [Oc (B8 l) 0 (by omega) (by omega),hm];congr 1;omega
 have HI:Hd (Fz w.heap.size 0 (w.alloc (.cells #[.int .i64 0] 3))):=AG w _;have HB:=AF ((AA w.heap.size w).alloc (AB _) (.cells #[.int .i64 0] 3));have HG:=AF (C4 w (.cells #[.int .i64 0] 3) (some w.heap.size));clear hr hm;go_enter func58,ntmps58;go_wp2_with (go_at_call 59;refine(HE.o 0 _ HB.o HI.o).mono ?_;rw [HP.o];rintro e w2 ⟨rfl,cK,aa⟩;obtain⟨q0,qf⟩:=cK.cells;have dD:=AF (HG.o.trans aa);clear cK aa);go_ret;exact⟨rfl,Ik dD.o (AB _) (fun b hb=>by injection hb with hb;omega)⟩
theorem NI(hl:LA.lies w t)(e:TypeId)(gs:Nat)(ag:w.heap.size=gs):Hc (w.alloc (.cells #[.int .u8 t.head.kind,.int .u8 t.head.op,.int .i64 t.head.at_,.int .i64 t.head.n,.string t.head.name,.string t.head.arg,.string t.head.exn,.int .i64 t.head.rho,.slice t.head.rp t.head.rn t.head.rc,.slice t.head.ep t.head.en t.head.ec,.int .u8 t.head.ty.head.kind,.int .i64 t.head.ty.head.rho,.slice t.head.ty.head.ep t.head.ty.head.en t.head.ty.head.ec,.slice t.head.ty.head.kp t.head.ty.head.kn t.head.ty.head.kc,.int .u8 t.head.res.head.kind,.int .i64 t.head.res.head.rho,.slice t.head.res.head.ep t.head.res.head.en t.head.res.head.ec,.slice t.head.res.head.kp t.head.res.head.kn t.head.res.head.kc,.slice t.head.kp t.head.kn t.head.kc] e)) (some ⟨gs,0,none⟩) 1 1 [t]:=by
 subst ag;refine⟨Bo XX (by omega) w e [t] 1 _ ?_ rfl (by decide),fun x hx=>?_⟩
 ·simp [LS.encT,LA,FS]
 ·have:x=t:=by simpa using hx
  subst this;exact LA.lies_below ((AA _ w).alloc (AB _) _) x hl
theorem Y6(t:PA):LA.lies w t->∀a∈Ad.nodes t,AH.Own w a/\a.kn<=t.size:=by
 refine Ad.ind (P:=fun(t:PA)=>LA.lies w t->∀a∈Ad.nodes t,AH.Own w a/\a.kn<=t.size) (fun a l ih hl x hx=>?_) t;have hN:=Gh hl;rw [Ad.nodes_node,AS] at hx;rw [Ad.size_node];rcases hx with rfl|hx
 ·refine⟨hN.own,?_⟩;have h1:=ZAW l;have h2:=hN.kids.len;omega
 ·rw [BS] at hx;obtain⟨m,hm,hx⟩:=hx;obtain⟨y,hy,rfl⟩:=BI.1 hm;obtain⟨h1,h2⟩:=ih y hy (hN.each y hy) x hx;have h3:y.size<=(l.map Ad.size).sum:=EG (Au hy);exact⟨h1,by omega⟩
def Xx(a:AH)(_:Unit):Bool×Unit:=(IR a,())
theorem Mr:∀l:List AH,(BR Xx l ()).1=l.all IR
 |[]=>rfl
 |a::l=>by
  show (if(IR a)=true then BR Xx l () else(false,())).1=_;rw [FE];cases h:IR a
  ·rfl
  ·rw [AJ rfl,Mr l];rfl
theorem ZAI{w0:World}(hv:Vr w0):FvA w0 none 60 #[] (fun(_:Unit) _=>True) (fun a=>AH.Own w0 a/\GP a/\a.kn<=1000000) Xx where
 eg:=fun args w=>rfl
 hb:=fun b' h=>by cases h
 lt:=fun b' h=>by cases h
 inv:=fun _ _ _ _ _=>trivial
 call:=fun a s W ok hb _=>by refine(P6 a (LA.below ok.1 hb) ok.2.1 ok.2.2 (hv.below hb)).mono ?_;rintro e w' ⟨rfl,ab⟩;exact⟨rfl,trivial,ab.os,ab.tape,ab.output,ab.size,fun k hk _=>ab.block k hk⟩
def Kz(t:PA):Bool:=(Ad.nodes t).all IR
theorem It(t:PA)(hl:LA.lies w t)(hs:Ef t)(hz:t.size<=1000)(hv:Vr w):Calls prog 35 #[DP t.head] w (RB w (.bool (Kz t))):=by
 have HB:=AF ((AA w.heap.size w).alloc (AB _) (Bt t.head));have aK:=AF (C8 w t.head);have HV:=AF hv;have a6:=AF (fun(W:World) (hb:Below w.heap.size w W) (e:TypeId) (gs:Nat) (h:W.heap.size=gs)=>NI (LA.lies_below hb t hl) e gs h);have aJ:(B8 [t]).length=t.size:=by simp [B8,IS]
 have gY:Hd ((BR Xx (B8 [t]) ()).1=Kz t):=by show _=_;rw [Mr];simp [B8,Kz]
 have bP:=AF (fun(W:World) (hb:Below w.heap.size w W) (a:AH) (ha:a∈B8 [t])=>(show AH.Own W a/\GP a/\a.kn<=1000000 by
  have uG:a∈Ad.nodes t:=by simpa [B8] using ha
  obtain⟨h1,h2⟩:=Y6 t hl a uG;exact⟨LA.below h1 hb,hs a uG,by omega⟩))
 have di:decide ((t.size:Int)<=40000)=true:=by simp;omega
 have d7:=AF aJ;clear hl hs hv aJ;go_enter func35,ntmps35
 go_wp2_with (first
  |(refine lw aK.o.blk underlying31 ?_)
  |(refine lmg [.int .u8 t.head.kind,.int .u8 t.head.op,.int .i64 t.head.at_,.int .i64 t.head.n,.string t.head.name,.string t.head.arg,.string t.head.exn,.int .i64 t.head.rho,.slice t.head.rp t.head.rn t.head.rc,.slice t.head.ep t.head.en t.head.ec,.int .u8 t.head.ty.head.kind,.int .i64 t.head.ty.head.rho,.slice t.head.ty.head.ep t.head.ty.head.en t.head.ty.head.ec,.slice t.head.ty.head.kp t.head.ty.head.kn t.head.ty.head.kc,.int .u8 t.head.res.head.kind,.int .i64 t.head.res.head.rho,.slice t.head.res.head.ep t.head.res.head.en t.head.res.head.ec,.slice t.head.res.head.kp t.head.res.head.kn t.head.res.head.kc,.slice t.head.kp t.head.kn t.head.kc] aK.o.range underlying31 ?_)
  |(go_at_call 58;refine(P5 (a6.o _ HB.o _ _ (by simp)) d7.o (by omega)).mono ?_;rintro e w2 ⟨rfl,hb⟩;have aF:=AF ((HB.o.alloc HB.o.size _).trans (hb.mono (HB.o.alloc HB.o.size _).size));have aK:=AF ((aK.o.below bA).below hb);clear hb)
  |(go_at_call 59;refine(Lj (ZAI (HV.o.below (aF.o.alloc aF.o.size _))) [t] _ _ _ (a6.o _ aF.o _ _ (by simp)) (fun a ha=>bP.o _ (aF.o.alloc aF.o.size _) a ha) () _ (AA _ _) trivial).mono ?_;rw [gY.o];rintro e w3 ⟨rfl,_,bT⟩;have aL:=AF (Ik bT (AB _) (fun b h=>by cases h));clear bT))
 go_ret;exact⟨rfl,aF.o.trans (((AA _ w2).alloc (AB _) _ |>.trans (aL.o.mono (by simp))).mono aF.o.size)⟩
structure OA where
 name:ByteArray
 ty:RT
 fn:Option MZ
abbrev TE:=RT×List BB
abbrev Lc:=Except (Int×Int) TE
def Hw(r:Int):BB:=⟨1,r,⟨#[]⟩⟩
def Fu(r:Int):BB:=⟨2,r,⟨#[]⟩⟩
def Zo(x:ByteArray):BB:=⟨3,0,x⟩
def EQ:RT:=.node ⟨0,0,[]⟩ []
def NN:RT:=.node ⟨1,0,[]⟩ []
def Fe:TE:=(EQ,[])
def Ee(l:List TE)(more:List BB):List BB:=GV (more++l.flatMap (·.2))
def I7(x y:RT):Bool:=Ad.same N1 x y
def PO(a:MZ)(no:Int):Lc:=.error (a.at_,no)
def EB(b:Bool)(a:MZ)(no:Int)(r:Lc):Lc:=if b then r else PO a no
def GB(rhos l:List Int):Bool:=l.all (Kp rhos)
def GZ(a:MZ)(rhos:List Int):Bool:=
 (decide (a.kind=17)||Kp rhos a.rho)&&(!decide (a.kind=18)||GB rhos a.rhos) &&
  (GB (if a.kind=13 then rhos++a.rhos else rhos) (FQ a.eff)&&GB (if a.kind=13 then rhos++a.rhos else rhos) (FN (Ic a.ty++Ic a.res)))
def IL(env:List OA)(x:ByteArray):Option OA:=env.reverse.find? (fun b=>decide (b.name=x))
def N9(k rho:Int)(eff:List BB)(l:List RT):RT:=.node ⟨k,rho,GV eff⟩ l
def Oo(env:List OA)(a:MZ):Lc:=
 match IL env a.name with
 |none=>PO a 4
 |some b=>EB b.fn.isNone a 5 (.ok (b.ty,[]))
def Hk(env:List OA)(a:MZ):Lc:=
 match IL env a.name with
 |none=>PO a 4
 |some b=>
  match b.fn with
  |none=>PO a 5
  |some f=>EB (decide (f.rhos.length=a.rhos.length)) a 5 (EB (EP (RY f.rhos a.rhos f.eff) a.eff) a 6
   (.ok (N9 4 a.rho a.eff [Fi f.rhos a.rhos f.ty,Fi f.rhos a.rhos f.res],GV [Hw f.rho,Fu a.rho])))
def OS(k:Int)(x:TE):Bool:=x.1.head.kind==k
def Fq(a:MZ)(l:List TE):Lc:=
 let x:=l.getD 0 Fe
 let y:=l.getD 1 Fe
 if a.kind=11 then EB (EP x.2 a.eff) a 6 (.ok (N9 4 a.rho a.eff [a.ty,x.1],GV [Fu a.rho]))
 else if a.kind=13 then EB (I7 x.1 a.res) a 5 (EB (EP x.2 a.eff) a 6 (.ok (y.1,Ee (l.drop 1) [Fu a.rho])))
 else if a.kind=16 then EB (I7 x.1 y.1) a 5 (.ok (x.1,GV (Hi x.2 [a.exn]++y.2)))
 else if a.kind=17 then EB (!Kp (FN (Ic x.1)) a.rho) a 6 (.ok (x.1,IY x.2 [a.rho]))
 else .ok (y.1,Ee l [])
def Dl(a:MZ)(l:List TE):Lc:=
 let x:=l.getD 0 Fe
 let y:=l.getD 1 Fe
 let z:=l.getD 2 Fe
 if a.kind=3 then .ok (N9 2 a.rho [] [x.1,y.1],Ee l [Fu a.rho])
 else if a.kind=4\/a.kind=5 then EB (OS 2 x) a 5 (.ok (x.1.kids.getD (a.kind-4).toNat EQ,Ee l [Hw x.1.head.rho]))
 else if a.kind=6 then .ok (N9 3 a.rho [] [x.1],Ee l [Fu a.rho])
 else if a.kind=7 then EB (OS 3 x) a 5 (.ok (x.1.kids.getD 0 EQ,Ee l [Hw x.1.head.rho]))
 else if a.kind=8 then EB (OS 3 x&&I7 (x.1.kids.getD 0 EQ) y.1) a 5 (.ok (NN,Ee l [Fu x.1.head.rho]))
 else if a.kind=10 then EB (OS 4 x&&I7 (x.1.kids.getD 0 EQ) y.1) a 5 (.ok (x.1.kids.getD 1 EQ,GV (Ee l [Hw x.1.head.rho]++x.1.head.eff)))
 else if a.kind=9 then EB (l.all (OS 1)) a 5 (.ok (NN,Ee l []))
 else if a.kind=14 then EB (OS 1 x&&I7 y.1 z.1) a 5 (.ok (y.1,Ee l []))
 else if a.kind=15 then EB (l.all (OS 1)) a 5 (.ok (a.ty,Ee l [Zo a.exn]))
 else if a.kind=1 then .ok (NN,Ee l [])
 else Fq a l
def Ck(env:List OA)(a:MZ)(i:Nat)(acc:List TE):List OA:=
 if a.kind=11 then env++[⟨a.arg,a.ty,none⟩]
 else if a.kind=12/\i=1 then env++[⟨a.name,(acc.getD 0 Fe).1,none⟩]
 else if a.kind=13/\i=0 then env++[⟨a.name,EQ,some a⟩,⟨a.arg,a.ty,none⟩]
 else if a.kind=13 then env++[⟨a.name,EQ,some a⟩]
 else if a.kind=16/\i=1 then env++[⟨a.arg,NN,none⟩]
 else env
def DM(rhos:List Int)(a:MZ)(i:Nat):List Int:=if a.kind=13/\i=0 then rhos++a.rhos else if a.kind=17 then rhos++[a.rho] else rhos
def RD(a:MZ)(r:Lc):Lc:=
 match r with
 |.ok x=>EB (decide (x.1.size<=500)) a 3 (.ok x)
 |.error e=>.error e
mutual
def chk(env:List OA)(rhos:List Int):AT->Lc
 |.node a l=>
  RD a (EB (GZ a rhos) a 4 (
   if a.kind=2 then Oo env a
   else if a.kind=18 then Hk env a
   else match J0 env rhos a 0 [] l with
    |.error e=>.error e
    |.ok ks=>Dl a ks))
def J0(env:List OA)(rhos:List Int)(a:MZ)(i:Nat)(acc:List TE):List AT->Except (Int×Int) (List TE)
 |[]=>.ok acc
 |t::l=>
  match chk (Ck env a i acc) (DM rhos a i) t with
  |.error e=>.error e
  |.ok r=>J0 env rhos a (i+1) (acc++[r]) l
end
def Fr(env:List OA)(rhos:List Int)(a:MZ)(l:List AT):Lc:=
 EB (GZ a rhos) a 4 (
  if a.kind=2 then Oo env a
  else if a.kind=18 then Hk env a
  else match J0 env rhos a 0 [] l with
   |.error e=>.error e
   |.ok ks=>Dl a ks)
theorem QJ(env:List OA)(rhos:List Int)(a:MZ)(l:List AT):chk env rhos (.node a l)=RD a (Fr env rhos a l):=by rw [chk];rfl
theorem Lo(env:List OA)(rhos:List Int)(a:MZ)(i:Nat)(acc:List TE):J0 env rhos a i acc []=.ok acc:=by rw [J0]
theorem H6(env:List OA)(rhos:List Int)(a:MZ)(i:Nat)(acc:List TE)(t:AT)(l:List AT):J0 env rhos a i acc (t::l)=match chk (Ck env a i acc) (DM rhos a i) t with
 |.error e=>.error e
 |.ok r=>J0 env rhos a (i+1) (acc++[r]) l:=by rw [J0]
def FP(a:MZ):List Int:=if a.kind=17 then [a.rho] else if a.kind=13 then a.rhos else []
theorem Dv:EB b a no r=.ok x↔b=true/\r=.ok x:=by unfold EB PO;cases b<;>simp
theorem ZBN:RD a r=.ok x↔r=.ok x/\x.1.size<=500:=by
 unfold RD;cases r with
 |error e=>simp
 |ok y=>
  simp only [Dv,Ai,Except.ok.injEq];constructor
  ·rintro⟨h,rfl⟩;exact⟨rfl,h⟩
  ·rintro⟨rfl,h⟩;exact⟨h,rfl⟩
theorem Pl:∀(l:List AT) (i:Nat) (acc ks:List TE),J0 env rhos a i acc l=.ok ks->∃rs,ks=acc++rs/\rs.length=l.length/\∀j t,l[j]?=some t->∃r,rs[j]?=some r/\chk (Ck env a (i+j) (acc++rs.take j)) (DM rhos a (i+j)) t=.ok r
 |[],i,acc,ks,h=>by rw [Lo] at h;cases h;exact⟨[],by simp,rfl,fun j t h=>by simp at h⟩
 |t::l,i,acc,ks,h=>by
  rw [H6] at h;cases hr:chk (Ck env a i acc) (DM rhos a i) t with
  |error e=>rw [hr] at h;cases h
  |ok r=>
   rw [hr] at h;obtain⟨rs,rfl,hl,hj⟩:=Pl l (i+1) (acc++[r]) ks h;refine⟨r::rs,by simp,by simp [hl],fun j u hu=>?_⟩;cases j with
   |zero=>simp at hu;subst hu;exact⟨r,rfl,by simpa using hr⟩
   |succ j=>
    obtain⟨r',h1,h2⟩:=hj j u (by simpa using hu);refine⟨r',by simpa using h1,?_⟩;have e1:i+(j+1)=i+1+j:=by omega
    rw [e1];simpa using h2
theorem Ng:Fr env rhos a l=.ok x↔GZ a rhos=true/\((a.kind=2/\Oo env a=.ok x)\/(a.kind=18/\Hk env a=.ok x)\/(a.kind≠2/\a.kind≠18/\∃ks,J0 env rhos a 0 [] l=.ok ks/\Dl a ks=.ok x)):=by
 unfold Fr;rw [Dv];refine and_congr_right (fun _=>?_);by_cases h2:a.kind=2
 ·simp [h2]
 ·by_cases a7:a.kind=18
  ·simp [a7]
  ·rw [AC h2,AC a7];simp only [h2,a7,false_and,false_or,not_false_eq_true,true_and,ne_eq];cases h:J0 env rhos a 0 [] l with
   |error e=>simp
   |ok ks=>simp
theorem TN:chk env rhos (.node a l)=.ok x↔Fr env rhos a l=.ok x/\x.1.size<=500:=by rw [QJ,ZBN]
inductive GO (a:MZ) (l:List TE):TE->Prop where
 |pair (h:a.kind=3):GO a l (N9 2 a.rho [] [(l.getD 0 Fe).1,(l.getD 1 Fe).1],Ee l [Fu a.rho])
 |proj (h:a.kind=4\/a.kind=5) (ht:OS 2 (l.getD 0 Fe)=true):GO a l ((l.getD 0 Fe).1.kids.getD (a.kind-4).toNat EQ,Ee l [Hw (l.getD 0 Fe).1.head.rho])
 |ref (h:a.kind=6):GO a l (N9 3 a.rho [] [(l.getD 0 Fe).1],Ee l [Fu a.rho])
 |get (h:a.kind=7) (ht:OS 3 (l.getD 0 Fe)=true):GO a l ((l.getD 0 Fe).1.kids.getD 0 EQ,Ee l [Hw (l.getD 0 Fe).1.head.rho])
 |set (h:a.kind=8) (ht:OS 3 (l.getD 0 Fe)=true) (hs:I7 ((l.getD 0 Fe).1.kids.getD 0 EQ) (l.getD 1 Fe).1=true):GO a l (NN,Ee l [Fu (l.getD 0 Fe).1.head.rho])
 |app (h:a.kind=10) (ht:OS 4 (l.getD 0 Fe)=true) (hs:I7 ((l.getD 0 Fe).1.kids.getD 0 EQ) (l.getD 1 Fe).1=true) :
  GO a l ((l.getD 0 Fe).1.kids.getD 1 EQ,GV (Ee l [Hw (l.getD 0 Fe).1.head.rho]++(l.getD 0 Fe).1.head.eff))
 |op (h:a.kind=9) (ht:l.all (OS 1)=true):GO a l (NN,Ee l [])
 |ite (h:a.kind=14) (ht:OS 1 (l.getD 0 Fe)=true) (hs:I7 (l.getD 1 Fe).1 (l.getD 2 Fe).1=true):GO a l ((l.getD 1 Fe).1,Ee l [])
 |raise (h:a.kind=15) (ht:l.all (OS 1)=true):GO a l (a.ty,Ee l [Zo a.exn])
 |num (h:a.kind=1):GO a l (NN,Ee l [])
 |fn (h:a.kind=11) (hw:EP (l.getD 0 Fe).2 a.eff=true):GO a l (N9 4 a.rho a.eff [a.ty,(l.getD 0 Fe).1],GV [Fu a.rho])
 |letrec (h:a.kind=13) (hs:I7 (l.getD 0 Fe).1 a.res=true) (hw:EP (l.getD 0 Fe).2 a.eff=true):GO a l ((l.getD 1 Fe).1,Ee (l.drop 1) [Fu a.rho])
 |handle (h:a.kind=16) (hs:I7 (l.getD 0 Fe).1 (l.getD 1 Fe).1=true):GO a l ((l.getD 0 Fe).1,GV (Hi (l.getD 0 Fe).2 [a.exn]++(l.getD 1 Fe).2))
 |region (h:a.kind=17) (hn:Kp (FN (Ic (l.getD 0 Fe).1)) a.rho=false):GO a l ((l.getD 0 Fe).1,IY (l.getD 0 Fe).2 [a.rho])
 |other (h:a.kind∉[(1:Int),3,4,5,6,7,8,9,10,11,13,14,15,16,17]):GO a l ((l.getD 1 Fe).1,Ee l [])
theorem N0:Dl a l=.ok x↔GO a l x:=by
 constructor
 ·intro h;unfold Dl Fq at h;dsimp only at h;by_cases k:a.kind=3
  ·rw [AJ k] at h;cases h;exact .pair k
  rw [AC k] at h;have k3:=k;clear k;by_cases k:a.kind=4\/a.kind=5
  ·rw [AJ k] at h;rw [Dv] at h;obtain⟨h1,h2⟩:=h;cases h2;exact .proj k h1
  rw [AC k] at h;have k45:=k;clear k;by_cases k:a.kind=6
  ·rw [AJ k] at h;cases h;exact .ref k
  rw [AC k] at h;have k6:=k;clear k;by_cases k:a.kind=7
  ·rw [AJ k] at h;rw [Dv] at h;obtain⟨h1,h2⟩:=h;cases h2;exact .get k h1
  rw [AC k] at h;have k7:=k;clear k;by_cases k:a.kind=8
  ·rw [AJ k] at h;rw [Dv,AK] at h;obtain⟨⟨h1,h3⟩,h2⟩:=h;cases h2;exact .set k h1 h3
  rw [AC k] at h;have k8:=k;clear k;by_cases k:a.kind=10
  ·rw [AJ k] at h;rw [Dv,AK] at h;obtain⟨⟨h1,h3⟩,h2⟩:=h;cases h2;exact .app k h1 h3
  rw [AC k] at h;have k10:=k;clear k;by_cases k:a.kind=9
  ·rw [AJ k] at h;rw [Dv] at h;obtain⟨h1,h2⟩:=h;cases h2;exact .op k h1
  rw [AC k] at h;have k9:=k;clear k;by_cases k:a.kind=14
  ·rw [AJ k] at h;rw [Dv,AK] at h;obtain⟨⟨h1,h3⟩,h2⟩:=h;cases h2;exact .ite k h1 h3
  rw [AC k] at h;have k14:=k;clear k;by_cases k:a.kind=15
  ·rw [AJ k] at h;rw [Dv] at h;obtain⟨h1,h2⟩:=h;cases h2;exact .raise k h1
  rw [AC k] at h;have k15:=k;clear k;by_cases k:a.kind=1
  ·rw [AJ k] at h;cases h;exact .num k
  rw [AC k] at h;have k1:=k;clear k;by_cases k:a.kind=11
  ·rw [AJ k] at h;rw [Dv] at h;obtain⟨h1,h2⟩:=h;cases h2;exact .fn k h1
  rw [AC k] at h;have k11:=k;clear k;by_cases k:a.kind=13
  ·rw [AJ k] at h;rw [Dv,Dv] at h;obtain⟨h1,h3,h2⟩:=h;cases h2;exact .letrec k h1 h3
  rw [AC k] at h;have k13:=k;clear k;by_cases k:a.kind=16
  ·rw [AJ k] at h;rw [Dv] at h;obtain⟨h1,h2⟩:=h;cases h2;exact .handle k h1
  rw [AC k] at h;have k16:=k;clear k;by_cases k:a.kind=17
  ·rw [AJ k] at h;rw [Dv] at h;obtain⟨h1,h2⟩:=h;cases h2;exact .region k (by simpa using h1)
  rw [AC k] at h;have k17:=k;clear k;cases h;refine .other ?_;simp only [AS,Al,BN,not_or];refine⟨?_,?_,?_,?_,?_,?_,?_,?_,?_,?_,?_,?_,?_,?_,?_⟩<;>first|assumption|omega
 ·intro h;unfold Dl Fq;cases h with
  |proj k ht=>
   have h3:a.kind≠3:=by omega
   rw [AC h3,AJ k,Dv];exact⟨ht,rfl⟩
  |other k=>
   simp only [AS,Al,BN,not_or] at k;obtain⟨k1,k3,k4,k5,k6,k7,k8,k9,k10,k11,k13,k14,k15,k16,k17⟩:=k;simp [k1,k3,k4,k5,k6,k7,k8,k9,k10,k11,k13,k14,k15,k16,k17]
  |_=>simp_all [Dv]
theorem GF(l:List BB)(x:BB):x∈GV l↔x∈l/\DF x=true:=by rw [Ha,Bg]
structure RIn(rhos:List Int)(x:TE):Prop where
 ty:∀z∈Ic x.1,z∈rhos
 eff:∀z∈FQ x.2,z∈rhos
theorem Wa:Ic EQ=[0]:=rfl
theorem RIn.zero(h0:(0:Int)∈rhos):RIn rhos Fe:=⟨fun z hz=>by
 have:z=0:=by simpa [Fe,Wa] using hz
 subst this;exact h0,fun z hz=>by simp [Fe,FQ,FN,KG] at hz⟩
theorem ZB9(h:x∈RY f t l):∃y∈l,DF y=true/\x=MV f t y/\DF x=true:=by unfold RY at h;rw [Ha,Bg,BI] at h;obtain⟨⟨y,hy,rfl⟩,h2⟩:=h;rw [Ha,Bg] at hy;exact⟨y,hy.1,hy.2,rfl,h2⟩
structure BIn(rhos:List Int)(b:OA):Prop where
 ty:∀z∈Ic b.ty,z∈rhos
 fn:∀f,b.fn=some f->f.rho∈rhos/\(∀z∈FQ f.eff,z∈rhos\/z∈f.rhos)/\∀z,z∈Ic f.ty\/z∈Ic f.res->z∈rhos\/z∈f.rhos
theorem BIn.mono(h:BIn rhos b)(hr:∀z∈rhos,z∈rhos'):BIn rhos' b:=⟨fun z hz=>hr z (h.ty z hz),fun f hf=>⟨hr _ (h.fn f hf).1,fun z hz=>((h.fn f hf).2.1 z hz).imp (hr z) id,fun z hz=>((h.fn f hf).2.2 z hz).imp (hr z) id⟩⟩
theorem JX(h:IL env x=some b):b∈env/\b.name=x:=by unfold IL at h;exact⟨List.mem_reverse.1 (Ed h),by simpa using List.find?_some h⟩
theorem Th:∀{l:List BB},FD BB.lt l->(∀x∈l,DF x=true)->ID l=true
 |[],_,_=>rfl
 |[a],_,h=>h a (by simp)
 |a::b::l,hr,h=>by have bW:=Bv.1 hr;simp only [ID,AK];exact⟨⟨h a (by simp),bW.1 b (by simp)⟩,Th bW.2 (fun x hx=>h x (by simp [hx]))⟩
theorem NC:∀{l:List BB},ID l=true->FD BB.lt l/\∀x∈l,DF x=true
 |[],_=>⟨List.Pairwise.nil,by simp⟩
 |[a],h=>⟨List.pairwise_singleton _ _,by intro x hx;rw [AQ] at hx;subst hx;exact h⟩
 |a::b::l,h=>by
  simp only [ID,AK] at h;obtain⟨⟨h1,h2⟩,h3⟩:=h;obtain⟨h4,h5⟩:=NC h3;refine⟨Bv.2 ⟨fun x hx=>?_,h4⟩,fun x hx=>?_⟩
  ·rcases AS.1 hx with rfl|hx
   ·exact h2
   ·exact BB.lt_trans h2 ((Bv.1 h4).1 x hx)
  ·rcases AS.1 hx with rfl|hx
   ·exact h1
   ·exact h5 x hx
theorem Un(h:ID l=true):GV l=l:=by obtain⟨h1,h2⟩:=NC h;exact(Ur h1 (fun a=>by rw [Bg];exact⟨fun hx=>⟨hx,h2 a hx⟩,And.left⟩)).symm
theorem D2(l:List BB):ID (GV l)=true:=Th (Tu _) (fun x hx=>((GF _ _).1 hx).2)
theorem Uo:GV []=[]:=rfl
theorem YR(l:List BB):GV (GV l)=GV l:=Un (D2 l)
theorem VE(q:BB->Bool)(h:ID l=true):ID (l.filter q)=true:=by obtain⟨h1,h2⟩:=NC h;exact Th (List.Pairwise.filter _ h1) (fun x hx=>h2 x (Bg.1 hx).1)
theorem G2(l:List BB):(GV l).length<=l.length:=AM (JS _ _) (Dd _ _)
theorem Pi(l:List BB)(r:List Int):(IY l r).length<=l.length:=AM (Dd _ _) (G2 l)
theorem PR(l:List BB)(r:List ByteArray):(Hi l r).length<=l.length:=AM (Dd _ _) (G2 l)
structure IF(a:MZ)(n:Nat):Prop where
 k1:1<=a.kind
 k18:a.kind<=18
 kids:DU (if a.kind=17 then 4 else if a.kind=18 then 1 else a.kind)=n
 rho:0<=a.rho
 rhos:∀r∈a.rhos,0<=r
 eff:ID a.eff=true
 gr:Fg a.eff=false
 ty:KL [11,13,15] a.kind=true->FK a.ty=true
 res:a.kind=13->FK a.res=true
 tys:II a.ty 100
 ress:II a.res 100
 exn:a.exn.size<=100
 at0:0<=a.at_
inductive J3:AT->Prop where
 |node (a:MZ) (l:List AT) (h:IF a l.length) (hl:∀t∈l,J3 t):J3 (.node a l)
theorem J3.head(h:J3 (.node a l)):IF a l.length:=by cases h;assumption
theorem J3.kid(h:J3 (.node a l)):∀t∈l,J3 t:=by cases h;assumption
structure J2(B:Nat)(x:TE):Prop where
 may:FK x.1=true
 effs:FG x.1=true
 can:ID x.2=true
 exn:∀a∈x.2,a.exn.size<=100
 len:x.2.length<=B
theorem J2.mono(h:J2 B x)(hb:B<=B'):J2 B' x:=⟨h.may,h.effs,h.can,h.exn,AM h.len hb⟩
structure Ld(b:OA):Prop where
 may:b.fn=none->FK b.ty=true
 effs:FG b.ty=true
 fn:∀f,b.fn=some f->∃n,IF f n/\FK f.ty=true/\FK f.res=true
theorem M8(l:List BB):Fg l=false↔l.length<=200/\∀a∈l,a.exn.size<=100:=by unfold Fg;simp only [A5,BE,Nat.not_lt,EF,Ai]
theorem Uy(h:Fg l=false):Fg (GV l)=false:=by rw [M8] at h ⊢;exact⟨AM (G2 l) h.1,fun a ha=>h.2 a ((GF _ _).1 ha).1⟩
theorem Qd(f t:List Int)(h:Fg l=false):Fg (RY f t l)=false:=by
 rw [M8] at h ⊢;refine⟨?_,fun a ha=>?_⟩
 ·unfold RY;refine AM (JS _ _) (AM (Dd _ _) ?_);rw [Ba];exact AM (G2 l) h.1
 ·obtain⟨y,hy,_,rfl,_⟩:=ZB9 ha;have:=h.2 y hy;unfold MV;split<;>exact this
theorem ZAi(f t:List Int)(l:List BB):ID (RY f t l)=true:=D2 _
theorem LC(hr:0<=r)(ht:∀z∈t,0<=z):0<=GJ r f t:=by
 rcases Vg r f t with h|h
 ·rw [h];exact hr
 ·exact ht _ h
theorem Y1(ht:∀z∈t,0<=z)(h:DY a n=true):DY (UD f t a) n=true:=by
 unfold DY UD at *
 by_cases h1:a.kind=1
 ·simpa [h1] using h
 ·have aj:RY f t []=[]:=rfl;simp only [h1,if_false] at h ⊢;by_cases h2:a.kind=2
  ·simp only [h2,if_true,AK,Ai] at h ⊢;exact⟨⟨LC h.1.1 ht,by rw [h.1.2,aj]⟩,h.2⟩
  ·by_cases h3:a.kind=3
   ·simp [h3] at h ⊢;exact⟨⟨LC h.1.1 ht,by rw [h.1.2,aj]⟩,h.2⟩
   ·by_cases h4:a.kind=4
    ·simp [h4] at h ⊢;exact⟨⟨LC h.1.1 ht,ZAi f t _⟩,h.2⟩
    ·simp [h2,h3,h4] at h
theorem Sd(ht:∀z∈t,0<=z)(x:RT):FK x=true->FK (Fi f t x)=true:=by refine Ad.ind (P:=fun(x:RT)=>FK x=true->FK (Fi f t x)=true) (fun a l ih h=>?_) x;rw [Gc,AK,Aj] at h;unfold Fi at ih ⊢;rw [Ad.map_node,Gc,AK,Ba,CD,Aj];exact⟨Y1 ht h.1,fun u hu=>ih u hu (h.2 u hu)⟩
theorem Oz(f t:List Int)(x:RT):FG x=true->FG (Fi f t x)=true:=by
 refine Ad.ind (P:=fun(x:RT)=>FG x=true->FG (Fi f t x)=true) (fun a l ih h=>?_) x;rw [FI,AK,Aj] at h;unfold Fi at ih ⊢;rw [Ad.map_node,FI,AK,CD,Aj];refine⟨?_,fun u hu=>ih u hu (h.2 u hu)⟩;have h1:=h.1;simp only [BO] at h1 ⊢;unfold UD;split
 ·exact h1
 ·exact Qd f t h1
theorem ZF(f t:List Int)(x:RT):(Fi f t x).size=x.size:=Ad.size_map _ x
theorem Ql(h:FK x=true)(hk:x.head.kind=k)(hi:(k=2\/k=4)/\i<2\/k=3/\i<1):i<x.kids.length/\FK (x.kids.getD i EQ)=true:=by
 cases x with
 |node a l=>
  simp only [Ad.head,Ad.kids] at hk ⊢;rw [Gc,AK,Aj] at h;obtain⟨h1,h2⟩:=h
  have aG:i<l.length:=by
   unfold DY at h1;rcases hi with⟨rfl|rfl,hi⟩|⟨rfl,hi⟩
   ·simp [hk] at h1;omega
   ·simp [hk] at h1;omega
   ·simp [hk] at h1;omega
  refine⟨aG,?_⟩;rw [AX,AI aG];exact h2 _ (Be aG)
theorem M4(h:FG x=true):FG (x.kids.getD i EQ)=true:=by
 cases x with
 |node a l=>
  rw [FI,AK,Aj] at h;simp only [Ad.kids];rw [AX];cases hx:l[i]? with
  |none=>rfl
  |some y=>exact h.2 y (AE hx)
theorem Oy(h:FG x=true):Fg x.head.eff=false:=by
 cases x with
 |node a l=>
  rw [FI,AK] at h;show Fg a.eff=false;simpa using h.1
def I9(l:List TE):Nat:=(l.map (fun y=>y.2.length)).sum
theorem ZH(l:List TE):(l.flatMap (·.2)).length=I9 l:=by unfold I9;rw [Fd]
theorem Lh(l:List TE)(more:List BB):(Ee l more).length<=more.length+I9 l:=by unfold Ee;refine AM (G2 _) ?_;rw [As,ZH];exact AB _
theorem ZBW(j:Nat):(l.getD j Fe).2.length<=I9 l:=by
 rw [AX];cases h:l[j]? with
 |none=>simp [Fe]
 |some y=>
  unfold I9;exact EG (Au (f:=fun y:TE=>y.2.length) (AE h))
theorem ZG(l:List TE)(k:Nat):I9 (l.drop k)<=I9 l:=by
 have h:I9 l=I9 (l.take k)+I9 (l.drop k):=by unfold I9;rw [<-Cv,<-Ah,BY]
 omega
theorem ZBX(l:List TE):(l.getD 0 Fe).2.length+(l.getD 1 Fe).2.length<=I9 l:=by
 match l with
 |[]=>simp [Fe,I9]
 |[x]=>simp [Fe,I9]
 |x::y::l=>simp [I9]<;>omega
theorem UU(h:x∈Ee l more):(x∈more\/∃y∈l,x∈y.2)/\DF x=true:=by unfold Ee at h;rw [GF,Ac,Dr] at h;exact h
theorem Qm(hk:k=2/\eff=[]\/k=4)(hr:0<=rho)(hx:FK x=true)(hy:FK y=true):FK (N9 k rho eff [x,y])=true:=by
 unfold N9;rw [Gc,AK];refine⟨?_,by simp [hx,hy]⟩;rcases hk with⟨rfl,rfl⟩|rfl
 ·simp [DY,hr,Uo]
 ·simp [DY,hr];exact D2 eff
theorem ML(he:Fg eff=false)(hl:∀x∈l,FG x=true):FG (N9 k rho eff l)=true:=by unfold N9;rw [FI,AK,Aj];exact⟨by rw [Uy he];rfl,hl⟩
theorem IF.two(h:IF a n)(hk:a.kind=3\/a.kind=8\/a.kind=9\/a.kind=10\/a.kind=12\/a.kind=13\/a.kind=16):n=2:=by have:=h.kids;rcases hk with e|e|e|e|e|e|e<;>simp [e,DU] at this<;>omega
theorem IF.one(h:IF a n)(hk:a.kind=4\/a.kind=5\/a.kind=6\/a.kind=7\/a.kind=11\/a.kind=15\/a.kind=17):n=1:=by have:=h.kids;rcases hk with e|e|e|e|e|e|e<;>simp [e,DU] at this<;>omega
theorem IF.three(h:IF a n)(hk:a.kind=14):n=3:=by have:=h.kids;simp [hk,DU] at this;omega
theorem Y9(ha:IF a l.length)(hl:∀y∈l,∃B,J2 B y)(h2:a.kind≠2)(a7:a.kind≠18)(h:GO a l x):J2 (I9 l+202) x:=by
 have hg:∀j,j<l.length->∃B,J2 B (l.getD j Fe):=fun j hj=>by rw [AX,AI hj];exact hl _ (Be hj)
 have iv:∀more:List BB,(∀x∈more,x.exn.size<=100)->∀m:List TE,(∀y∈m,∃B,J2 B y)->∀x∈Ee m more,x.exn.size<=100:=fun more hm m mw x hx=>by
  rcases (UU hx).1 with h|⟨y,hy,h⟩
  ·exact hm x h
  ·obtain⟨B,hB⟩:=mw y hy;exact hB.exn x h
 have aJ:∀more:List BB,more.length<=1->∀m:List TE,I9 m<=I9 l->(Ee m more).length<=I9 l+202:=fun more hm m h=>by have:=Lh m more;omega
 have gL:∀(f:Int->BB),(f=Fu\/f=Hw)->∀r,∀x∈[f r],x.exn.size<=100:=fun f hf r x hx=>by rw [AQ] at hx;subst hx;rcases hf with rfl|rfl<;>exact BM _
 have aj:∀x∈([]:List BB),x.exn.size<=100:=fun x hx=>by cases hx
 cases h with
 |pair k=>
  have hn:=ha.two (by omega);obtain⟨B0,g0⟩:=hg 0 (by omega);obtain⟨B1,g1⟩:=hg 1 (by omega)
  exact⟨Qm (.inl ⟨rfl,rfl⟩) ha.rho g0.may g1.may,ML rfl (by intro x hx;simp only [AS,Al,BN] at hx;rcases hx with rfl|rfl;exact g0.effs;exact g1.effs),
   D2 _,iv _ (gL _ (.inl rfl) _) l hl,aJ _ (by simp) _ (AB _)⟩
 |proj k ht=>
  have hn:=ha.one (by omega);obtain⟨B0,g0⟩:=hg 0 (by omega);have hk:(l.getD 0 Fe).1.head.kind=2:=by simpa [OS] using ht
  exact⟨(Ql g0.may hk (.inl ⟨.inl rfl,by omega⟩)).2,M4 g0.effs,D2 _,iv _ (gL _ (.inr rfl) _) l hl,aJ _ (by simp) _ (AB _)⟩
 |ref k=>
  have hn:=ha.one (by omega);obtain⟨B0,g0⟩:=hg 0 (by omega);refine⟨?_,ML rfl (by intro x hx;rw [AQ] at hx;subst hx;exact g0.effs),D2 _,iv _ (gL _ (.inl rfl) _) l hl,aJ _ (by simp) _ (AB _)⟩;unfold N9;rw [Gc,AK];exact⟨by simp [DY,ha.rho,Uo],by simpa using g0.may⟩
 |get k ht=>
  have hn:=ha.one (by omega);obtain⟨B0,g0⟩:=hg 0 (by omega);have hk:(l.getD 0 Fe).1.head.kind=3:=by simpa [OS] using ht
  exact⟨(Ql g0.may hk (.inr ⟨rfl,by omega⟩)).2,M4 g0.effs,D2 _,iv _ (gL _ (.inr rfl) _) l hl,aJ _ (by simp) _ (AB _)⟩
 |set k ht hs=>exact⟨rfl,rfl,D2 _,iv _ (gL _ (.inl rfl) _) l hl,aJ _ (by simp) _ (AB _)⟩
 |app k ht hs=>
  have hn:=ha.two (by omega);obtain⟨B0,g0⟩:=hg 0 (by omega);have hk:(l.getD 0 Fe).1.head.kind=4:=by simpa [OS] using ht
  have cA:=(M8 _).1 (Oy g0.effs);refine⟨(Ql g0.may hk (.inl ⟨.inr rfl,by omega⟩)).2,M4 g0.effs,D2 _,fun x hx=>?_,?_⟩
  ·rcases Ac.1 ((GF _ _).1 hx).1 with hx|hx
   ·exact iv _ (gL _ (.inr rfl) _) l hl x hx
   ·exact cA.2 x hx
  ·refine AM (G2 _) ?_;rw [As];have:=Lh l [Hw (l.getD 0 Fe).1.head.rho];have:=cA.1;simp only [Aq,Bc] at *
   omega
 |op k ht=>exact⟨rfl,rfl,D2 _,iv _ aj l hl,aJ _ (by simp) _ (AB _)⟩
 |ite k ht hs=>
  have hn:=ha.three (by omega);obtain⟨B1,g1⟩:=hg 1 (by omega);exact⟨g1.may,g1.effs,D2 _,iv _ aj l hl,aJ _ (by simp) _ (AB _)⟩
 |raise k ht=>
  exact⟨ha.ty (by simp [k,KL]),ha.tys.effs,D2 _,iv _ (fun x hx=>by rw [AQ] at hx;subst hx;exact ha.exn) l hl,aJ _ (by simp) _ (AB _)⟩
 |num k=>exact⟨rfl,rfl,D2 _,iv _ aj l hl,aJ _ (by simp) _ (AB _)⟩
 |fn k hw=>
  have hn:=ha.one (by omega);obtain⟨B0,g0⟩:=hg 0 (by omega);refine⟨Qm (.inr rfl) ha.rho (ha.ty (by simp [k,KL])) g0.may,ML ha.gr (by intro x hx;simp only [AS,Al,BN] at hx;rcases hx with rfl|rfl;exact ha.tys.effs;exact g0.effs),D2 _,fun x hx=>?_,?_⟩
  ·exact gL _ (.inl rfl) _ x ((GF _ _).1 hx).1
  ·refine AM (G2 _) ?_;simp only [Aq,Bc];omega
 |letrec k hs hw=>
  have hn:=ha.two (by omega);obtain⟨B1,g1⟩:=hg 1 (by omega);exact⟨g1.may,g1.effs,D2 _,iv _ (gL _ (.inl rfl) _) _ (fun y hy=>hl y (List.mem_of_mem_drop hy)),aJ _ (by simp) _ (ZG l 1)⟩
 |handle k hs=>
  have hn:=ha.two (by omega);obtain⟨B0,g0⟩:=hg 0 (by omega);obtain⟨B1,g1⟩:=hg 1 (by omega);refine⟨g0.may,g0.effs,D2 _,fun x hx=>?_,?_⟩
  ·rcases Ac.1 ((GF _ _).1 hx).1 with hx|hx
   ·exact g0.exn x ((Ns _ _ _).1 hx).1
   ·exact g1.exn x hx
  ·refine AM (G2 _) ?_;rw [As];have:=PR (l.getD 0 Fe).2 [a.exn];have:=ZBX l;omega
 |region k yC=>
  have hn:=ha.one (by omega);obtain⟨B0,g0⟩:=hg 0 (by omega);refine⟨g0.may,g0.effs,VE _ (D2 _),fun x hx=>g0.exn x ((Nt _ _ _).1 hx).1,?_⟩;show (IY (l.getD 0 Fe).2 [a.rho]).length<=_;have:=Pi (l.getD 0 Fe).2 [a.rho];have:=ZBW (l:=l) 0;omega
 |other k=>
  simp only [AS,Al,BN,not_or] at k;have pI:a.kind=12:=by have:=ha.k1;have:=ha.k18;omega
  have hn:=ha.two (by omega);obtain⟨B1,g1⟩:=hg 1 (by omega);exact⟨g1.may,g1.effs,D2 _,iv _ aj l hl,aJ _ (by simp) _ (AB _)⟩
theorem QU(ha:IF a n)(he:∀b∈env,Ld b)(dh:a.kind=12->i=1->FK (acc.getD 0 Fe).1=true/\FG (acc.getD 0 Fe).1=true):∀b∈Ck env a i acc,Ld b:=by
 have pd:a.kind=13->Ld ⟨a.name,EQ,some a⟩:=fun k=>⟨fun h=>(nomatch h),rfl,fun f hf=>by
  cases hf
  exact⟨n,ha,ha.ty (by simp [k,KL]),ha.res k⟩⟩
 have od:KL [11,13,15] a.kind=true->Ld ⟨a.arg,a.ty,none⟩:=fun k=>⟨fun _=>ha.ty k,ha.tys.effs,fun f hf=>by cases hf⟩;intro b hb;unfold Ck at hb;split at hb
 ·rename_i k;rcases Ac.1 hb with hb|hb
  ·exact he b hb
  ·rw [AQ] at hb;subst hb;exact od (by simp [k,KL])
 split at hb
 ·rename_i k;rcases Ac.1 hb with hb|hb
  ·exact he b hb
  ·rw [AQ] at hb;subst hb;exact⟨fun _=>(dh k.1 k.2).1,(dh k.1 k.2).2,fun f hf=>by cases hf⟩
 split at hb
 ·rename_i k;rcases Ac.1 hb with hb|hb
  ·exact he b hb
  ·simp only [AS,Al,BN] at hb;rcases hb with rfl|rfl
   ·exact pd k.1
   ·exact od (by simp [k.1,KL])
 split at hb
 ·rename_i k;rcases Ac.1 hb with hb|hb
  ·exact he b hb
  ·rw [AQ] at hb;subst hb;exact pd k
 split at hb
 ·rcases Ac.1 hb with hb|hb
  ·exact he b hb
  ·rw [AQ] at hb;subst hb;exact⟨fun _=>rfl,rfl,fun f hf=>by cases hf⟩
 ·exact he b hb
theorem X5{l:List AT}{rs:List TE}(hl:rs.length=l.length)(h:∀(j:Nat) (t:AT) (r:TE),l[j]?=some t->rs[j]?=some r->r.2.length<=202 * t.size):I9 rs<=202 * (l.map Ad.size).sum:=by
 induction l generalizing rs with
 |nil=>
  have:rs=[]:=BA.1 (by simpa using hl);subst this;simp [I9]
 |cons t l ih=>
  cases rs with
  |nil=>simp at hl
  |cons r rs=>
   have h0:=h 0 t r rfl rfl;have h1:=ih (rs:=rs) (by simpa using hl) (fun j u q hu hq=>h (j+1) u q (by simpa using hu) (by simpa using hq));simp only [I9,AV,A0] at h1 ⊢;rw [Nat.mul_add];omega
theorem QI(t:AT):∀env rhos x,J3 t->(∀b∈env,Ld b)->chk env rhos t=.ok x->J2 (202 * t.size) x:=by
 refine Ad.ind (P:=fun(t:AT)=>∀env rhos x,J3 t->(∀b∈env,Ld b)->chk env rhos t=.ok x->J2 (202 * t.size) x) (fun a l ih env rhos x hT he h=>?_) t;have ha:=hT.head;have bU:=hT.kid;rw [TN,Ng] at h;obtain⟨⟨hr,h⟩,_⟩:=h;have aI:Ad.size (Ad.node a l)=1+(l.map Ad.size).sum:=Ad.size_node a l;rcases h with⟨k,h⟩|⟨k,h⟩|⟨k2,k18,ks,nX,h⟩
 ·unfold Oo PO at h;cases hf:IL env a.name with
  |none=>rw [hf] at h;cases h
  |some b=>
   rw [hf] at h;simp only [Dv] at h;obtain⟨hn,h⟩:=h;cases h;have hb:=he b (JX hf).1;exact⟨hb.may (by simpa using hn),hb.effs,rfl,fun x hx=>(nomatch hx),BM _⟩
 ·unfold Hk PO at h;cases hf:IL env a.name with
  |none=>rw [hf] at h;cases h
  |some b=>
   rw [hf] at h;simp only at h;cases hb:b.fn with
   |none=>rw [hb] at h;cases h
   |some f=>
    rw [hb] at h;simp only [Dv,Ai] at h;obtain⟨aJ,_,h⟩:=h;cases h;obtain⟨n,ef,xE,eB⟩:=(he b (JX hf).1).fn f hb;refine⟨Qm (.inr rfl) ha.rho (Sd ha.rhos _ xE) (Sd ha.rhos _ eB),ML ha.gr (fun x hx=>?_),D2 _,fun x hx=>?_,?_⟩
    ·simp only [AS,Al,BN] at hx;rcases hx with rfl|rfl
     ·exact Oz _ _ _ ef.tys.effs
     ·exact Oz _ _ _ ef.ress.effs
    ·have:=((GF _ _).1 hx).1;simp only [AS,Al,BN] at this;rcases this with rfl|rfl<;>exact BM _
    ·refine AM (G2 _) ?_;simp only [Aq,Bc];omega
 ·rw [N0] at h;obtain⟨rs,ke,hl,hj⟩:=Pl _ _ _ _ nX;rw [A6] at ke;rw [ke] at h;simp only [A6,BP] at hj
  have pM:∀(j:Nat) (t:AT) (y:TE),l[j]?=some t->rs[j]?=some y->J2 (202 * t.size) y:=by
   intro j;induction j using Nat.strongRecOn with
   |_ j ihj=>
    intro t y ht hy;obtain⟨r,e1,e2⟩:=hj j t ht;rw [e1] at hy;cases hy;refine ih t (AE ht) _ _ _ (bU t (AE ht)) (QU ha he (fun k h1=>?_)) e2;subst h1;have aG:=DI ht;have wj:(rs.take 1)[0]?=rs[0]?:=by rw [Ei];simp
    have fl:rs[0]?=some (rs[0]'(by omega)):=AI _;have hg:=ihj 0 (by omega) _ _ (AI (show 0<l.length by omega)) fl;rw [AX,wj,fl];exact⟨hg.may,hg.effs⟩
  have bh:∀y∈rs,∃B,J2 B y:=fun y hy=>by
   obtain⟨j,gu⟩:=Dc hy;have aG:j<l.length:=by rw [<-hl];exact DI gu
   exact⟨_,pM j _ y (AI aG) gu⟩
  have hs:=X5 hl (fun j t r ht hr=>(pM j t r ht hr).len);refine(Y9 (by rw [hl];exact ha) bh k2 k18 h).mono ?_;rw [aI,Nat.mul_add];omega
def FW(met:List Int):List Int->Bool
 |[]=>false
 |r::l=>Kp met r||FW (met++[r]) l
def P4:List MZ->List Int->Option Int
 |[],_=>none
 |a::l,met=>if FW met (FP a) then some a.at_ else P4 l (met++FP a)
def Jb(t:AT):Option Int:=P4 (Ad.nodes t) []
def OI(t:AT):Lc:=
 match Jb t with
 |some at_=>.error (at_,6)
 |none=>chk [] [0] t
theorem YK:OI t=.ok x↔Jb t=none/\chk [] [0] t=.ok x:=by
 unfold OI;cases h:Jb t with
 |some z=>simp
 |none=>simp
theorem ZCe(h:ID l=true):RY [] [] l=l:=by
 have e:∀m:List BB,m.map (MV [] [])=m:=fun m=>by
  have:MV [] []=id:=by funext a;unfold MV;split<;>rfl
  rw [this,List.map_id]
 show GV ((GV l).map (MV [] []))=l;rw [e,YR,Un h]
theorem ZK(x:RT):FK x=true->Fi [] [] x=x:=by
 refine Ad.ind (P:=fun(x:RT)=>FK x=true->Fi [] [] x=x) (fun a l ih h=>?_) x;rw [Gc,AK,Aj] at h;unfold Fi at ih ⊢;rw [Ad.map_node]
 have e1:UD [] [] a=a:=by
  unfold UD;split
  ·rfl
  ·rename_i hk
   have he:ID a.eff=true:=by
    have h1:=h.1;unfold DY at h1;rw [AC hk] at h1;split at h1
    ·simp only [AK,Ai] at h1;rw [h1.1.2];rfl
    ·split at h1
     ·simp only [AK,Ai] at h1;rw [h1.1.2];rfl
     ·split at h1
      ·simp only [AK,Ai] at h1;exact h1.1.2
      ·cases h1
   rw [ZCe he];rfl
 have e2:l.map (Ad.map (UD [] []))=l:=by have:l.map (Ad.map (UD [] []))=l.map id:=Bf (fun y hy=>ih y hy (h.2 y hy));rw [this,List.map_id]
 rw [e1,e2]
end Go.Proofs.YtkdjnegfnhldpaaGreatDoor
