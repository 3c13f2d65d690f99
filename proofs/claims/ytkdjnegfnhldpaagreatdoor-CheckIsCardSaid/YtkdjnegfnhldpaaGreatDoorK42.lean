/- Part 42. -/
import Derived.Test.YtkdjnegfnhldpaaGreatDoorCards
import Derived.Test.YtkdjnegfnhldpaaGreatDoorTie
import Derived.LaidMore
import Derived.Deep.DeepHandedRow
import Derived.Test.YtkdjnegfnhldpaaGreatDoorK41
set_option linter.unusedVariables false
set_option maxRecDepth 100000
set_option linter.unusedSimpArgs false
set_option maxHeartbeats 40000000
namespace Go.Proofs.YtkdjnegfnhldpaaGreatDoor
open Go.Proofs.Tryz Go.RowKit
theorem QN(l:List ByteArray):Vo l l=true:=(L7 l l).2 rfl
def Wm(r:E7):List AD:=match r with
 |.ok x=>x.2
 |.error _=>[]
theorem JA{w:World}(hv:Vr w){t:PA}(hc:CE w t):Calls prog 31 #[Aj t.head] w fun e w'=>∃q m c,e=.returned (.slice q m c)∧AE EC 1 w' q m c (IK (A2 (Wm (DF t))))∧Below w.heap.size w w':=by
 have HB:=AA ((Below.refl w.heap.size w).alloc (Nat.le_refl _) (AO t.head));have aE:=AA (Aa w t.head);have ct:=AA hc;have eK:=AA (D8 (t:=t) (LA.lies_below HB.o _ hc.lies) hc.small (Nat.le_trans hc.size (by omega)) (hv.below HB.o));clear hv hc;go_enter func31,ntmps31;go_upto_region 1 with fail;cases hr:DF t with
 |error er=>
  obtain⟨z,no⟩:=er;have HR:=AA hr;clear hr
  go_upto_region 2 with(first
   |(refine lw aE.o.blk underlying31 ?_)
   |(go_at_call 12;refine(eK.o).mono ?_;rw [HR.o];rintro e w3 ⟨he,hb⟩;obtain rfl:=he;have HB:=bt HB hb;have aE:=AA (aE.o.below hb);have gV:=AA hb;clear hb)
   |(refine sn #[.int .u8 0,.int .i64 0,.slice none 0 0,.slice none 0 0] ?_))
  have dX:Below w3.heap.size w3 (w3.alloc (.cells #[.int .u8 0,.int .i64 0,.slice none 0 0,.slice none 0 0] 28)):=bA;have HB:=bt HB dX;clear dX gV aE eK;generalize w3.alloc (.cells #[.int .u8 0,.int .i64 0,.slice none 0 0,.slice none 0 0] 28)=W4 at *
  have lT:Below W4.heap.size W4 (W4.alloc (.cells #[.slice none 0 0] 25)):=bA;have aN:=AA (Al Ir (by omega) W4 25 [(⟨none,0,0,[]⟩:Kc AD)] 1 #[.slice none 0 0] rfl rfl (by decide));have kQ:Hd (∀r∈[(⟨none,0,0,[]⟩:Kc AD)],r.Ok AS 3 (W4.alloc (.cells #[.slice none 0 0] 25))):=by intro r hr;obtain rfl:=List.mem_singleton.1 hr;exact⟨rfl,Nat.le_refl _,fun _=>rfl,.inl rfl⟩
  have HB:=bt HB lT;clear lT
  go_upto_region 3 with(first
   |(go_at_call 56;refine(Hj _ _ _ [(⟨none,0,0,[]⟩:Kc AD)] (W4.alloc (.cells #[.slice none 0 0] 25)) aN.o.len (by decide) aN.o.row kQ.o (by decide)).mono ?_;rintro e w6 ⟨v6,m6,rfl,ic,aB,hb⟩;have cg:=AA aB;have lx:=AA ic;have HB:=bt HB hb;clear hb aB ic))
  obtain⟨q6,c6,jc,dh⟩:=AJ.isRow De (by omega) cg.o;subst jc;have fu:=AA dh;clear dh;go_wp2_with fail;go_ret;refine⟨q6,m6,c6,rfl,?_,HB.o⟩;have h6:=fu.o;rw [HR.o];simpa [Wm,A2] using h6
 |ok x=>
  have HR:=AA hr;clear hr
  go_upto_region 2 with(first
   |(refine lw aE.o.blk underlying31 ?_)
   |(go_at_call 12;refine(eK.o).mono ?_;rw [HR.o];rintro e w3 ⟨⟨y3,q3,m3,c3,rfl,gj,gN,aD⟩,hb⟩;have fP:=AA gj;have ln:=AA gN;have eE:=AA aD;clear gj gN aD;have HB:=bt HB hb;have aE:=AA (aE.o.below hb);have gV:=AA hb;clear hb)
   |(refine n4 y3 ?_))
  have dX:Below w3.heap.size w3 (w3.alloc (.cells #[.int .u8 y3.head.kind,.int .i64 y3.head.rho,.slice y3.head.ep y3.head.en y3.head.ec,.slice y3.head.kp y3.head.kn y3.head.kc] 28)):=bA;have HB:=bt HB dX;have eE:=AA (eE.o.below dX);clear dX gV aE eK;generalize w3.alloc (.cells #[.int .u8 y3.head.kind,.int .i64 y3.head.rho,.slice y3.head.ep y3.head.en y3.head.ec,.slice y3.head.kp y3.head.kn y3.head.kc] 28)=W4 at *
  have lT:Below W4.heap.size W4 (W4.alloc (.cells #[.slice q3 m3 c3] 25)):=bA;have aN:=AA (Al Ir (by omega) W4 25 [(⟨q3,m3,c3,x.2⟩:Kc AD)] 1 #[.slice q3 m3 c3] rfl rfl (by decide));have kQ:Hd (∀r∈[(⟨q3,m3,c3,x.2⟩:Kc AD)],r.Ok AS 3 (W4.alloc (.cells #[.slice q3 m3 c3] 25))):=by intro r hr;obtain rfl:=List.mem_singleton.1 hr;have h:=eE.o.below lT;exact⟨h.len,h.le,h.nil,h.row⟩
  have HB:=bt HB lT;clear lT
  go_upto_region 3 with(first
   |(go_at_call 56;refine(Hj _ _ _ [(⟨q3,m3,c3,x.2⟩:Kc AD)] (W4.alloc (.cells #[.slice q3 m3 c3] 25)) aN.o.len (by decide) aN.o.row kQ.o (by { have h1:=eE.o.len;have h2:=MQ ct.o.lies ct.o.small (Nat.le_trans ct.o.size (by omega)) HR.o;show m3+0≤1000000;omega })).mono ?_;rintro e w6 ⟨v6,m6,rfl,ic,aB,hb⟩;have cg:=AA aB;have lx:=AA ic;have HB:=bt HB hb;clear hb aB ic))
  obtain⟨q6,c6,jc,dh⟩:=AJ.isRow De (by omega) cg.o;subst jc;have fu:=AA dh;clear dh;go_wp2_with fail;go_ret;refine⟨q6,m6,c6,rfl,?_,HB.o⟩;have h6:=fu.o;rw [HR.o];simpa [Wm,A2] using h6
theorem Vv{w:World}(hv:Vr w)(t:PA)(hl:LA.lies w t):Calls prog 9 #[Aj t.head] w (RB w (.bool true)):=by
 have HB:=AA ((Below.refl w.heap.size w).alloc (Nat.le_refl _) (AO t.head));have aE:=AA (Aa w t.head);have HV:=AA hv;have jg:=AA (TZ t (LA.lies_below HB.o t hl));clear hl hv;go_enter func9,ntmps9;go_upto_region 1 with fail
 go_upto_region 3 with(first
  |(refine lw aE.o.blk underlying31 ?_)
  |(go_at_call 10;refine jg.o.mono ?_;rintro e w8 ⟨⟨r,rfl,eP⟩,hb⟩;have HB:=bt HB hb;have aE:=AA (aE.o.below hb);have qy:=AA hb;clear hb;have rA:=AA eP;clear eP;cases r;have ct:=AA ((rA.o (by first|trivial|rfl)).below qy.o))
  |(go_at_call 11;refine(H9 (HV.o.below HB.o)).mono ?_;rintro e w9 ⟨rfl,hb⟩;have HB:=bt HB hb;clear hb))
 all_goals (try (go_ret;exact⟨rfl,HB.o⟩))
 have eK:=AA (D8 (t:=t) ct.o.lies ct.o.small (Nat.le_trans ct.o.size (by omega)) (HV.o.below HB.o));cases hr:DF t with
 |error er=>
  obtain⟨z,no⟩:=er;have HR:=AA hr;have ac:=UV hr;have ez:(no==0)=false:=by simp [ac]
  have ez2:(no != 0)=true:=by simp [ac]
  clear hr ac
  go_upto_region 4 with(first
   |(refine lw aE.o.blk underlying31 ?_)
   |(go_at_call 12;refine(eK.o).mono ?_;rw [HR.o];rintro e w3 ⟨he,hb⟩;obtain rfl:=he;have HB:=bt HB hb;have aE:=AA (aE.o.below hb);have gV:=AA hb;clear hb)
   |(refine sn #[.int .u8 0,.int .i64 0,.slice none 0 0,.slice none 0 0] ?_))
  have dX:Below w3.heap.size w3 (w3.alloc (.cells #[.int .u8 0,.int .i64 0,.slice none 0 0,.slice none 0 0] 28)):=bA;have cy:=AA (Ap w3 #[.int .u8 0,.int .i64 0,.slice none 0 0,.slice none 0 0] 28 _ rfl);have HB:=bt HB dX;have aE:=AA (aE.o.below dX);have ct:=AA ((ct.o.below gV.o).below dX);obtain⟨g3,bM⟩:∃g3,w3.heap.size=g3:=⟨_,rfl⟩;rw [bM] at cy ⊢;generalize w3.alloc (.cells #[.int .u8 0,.int .i64 0,.slice none 0 0,.slice none 0 0] 28)=W4 at *
  clear bM dX gV eK;have fo:=AA (Hl (t:=t) ct.o.lies ct.o.small (Nat.le_trans ct.o.size (by omega)))
  go_upto_region 5 with(first
   |(refine lw aE.o.blk underlying31 ?_)
   |(go_at_call 29;refine(fo.o).mono ?_;rw [HR.o];rintro e w5 ⟨he,hb⟩;obtain rfl:=he;have HB:=bt HB hb;have aE:=AA (aE.o.below hb);have ct:=AA (ct.o.below hb);have aw:=AA hb;clear hb)
   |(refine sn #[.int .u8 0,.int .i64 0,.slice none 0 0,.slice none 0 0,.slice none 0 0,.int .i64 z,.int .i64 no] ?_))
  have eN:Below w5.heap.size w5 (w5.alloc (.cells #[.int .u8 0,.int .i64 0,.slice none 0 0,.slice none 0 0,.slice none 0 0,.int .i64 z,.int .i64 no] 69)):=bA;have dU:=AA (Ap w5 #[.int .u8 0,.int .i64 0,.slice none 0 0,.slice none 0 0,.slice none 0 0,.int .i64 z,.int .i64 no] 69 _ rfl);have fy:=AK aw.o eN;have cy:=AA ((fy.block _ (AW cy.o)).trans cy.o);have HB:=bt HB eN;have aE:=AA (aE.o.below eN);have ct:=AA (ct.o.below eN);obtain⟨g7,jA⟩:∃g7,w5.heap.size=g7:=⟨_,rfl⟩;rw [jA] at dU ⊢;generalize w5.alloc (.cells #[.int .u8 0,.int .i64 0,.slice none 0 0,.slice none 0 0,.slice none 0 0,.int .i64 z,.int .i64 no] 69)=W6 at *
  clear jA eN fy aw fo;have aq:Hd (AE AS 3 W6 none 0 0 []):=⟨rfl,by decide,Nat.le_refl _,fun _=>rfl,.inl rfl⟩;have d6:W6.cell? ⟨g7,6,none⟩=some (.int .i64 no):=by rw [Lib.cell_of_heap dU.o];rfl
  have d5:W6.cell? ⟨g7,5,none⟩=some (.int .i64 z):=by rw [Lib.cell_of_heap dU.o];rfl
  have d4:W6.cell? ⟨g7,4,none⟩=some (.slice none 0 0):=by rw [Lib.cell_of_heap dU.o];rfl
  obtain⟨d,hd⟩:∃d,(z != 0)=d:=⟨_,rfl⟩;cases d
  all_goals (
   go_upto_region 7 with(first
    |(go_at_call 14;refine(Id aq.o aq.o).mono ?_;rintro e w7 ⟨rfl,hb⟩;have fL:=AA hb;clear hb))
   have HB:=AA (HB.o.trans (fL.o.mono HB.o.size));have aE:=AA (aE.o.below fL.o);have ct:=AA (ct.o.below fL.o);have aq:=AA (aq.o.below fL.o);have cy:=AA ((fL.o.block _ (AW cy.o)).trans cy.o);have dU:=AA ((fL.o.block _ (AW dU.o)).trans dU.o);clear fL d6 d5 d4;have jL:Hd (∀W',Below w7.heap.size w7 W'→Calls prog 31 #[Aj t.head] W' fun e w'=>∃q m c,e=.returned (.slice q m c)∧AE EC 1 w' q m c (IK (A2 []))∧Below W'.heap.size W' w'):=fun W' hb=>by have h:=JA (HV.o.below (HB.o.trans (hb.mono HB.o.size))) (ct.o.below hb);rwa [HR.o] at h
   refine rg (fun W'=>Below w7.heap.size w7 W') (AC w7) fun aA=>?_;refine tp 0 51 ?_;refine tp 1 52 ?_ (hy:=fun w aC=>by(try dsimp only at aC);have q9:w.cell? ⟨g7,6,none⟩=some (.int .i64 no):=by { rw [Lib.cell_of_heap ((aC.block _ (AW dU.o)).trans dU.o)];rfl };go_simp;try with_reducible rfl);refine tp 2 53 ?_;refine tp 3 54 ?_;refine Db 4 55 3 true ?_;refine Db 5 56 3 true ?_ (hy:=fun w aC=>by(try dsimp only at aC);have q9:w.cell? ⟨g3,0,none⟩=some (.int .u8 0):=by { rw [Lib.cell_of_heap ((aC.block _ (AW cy.o)).trans cy.o)];rfl };go_simp;try with_reducible rfl);refine Db 6 57 3 true ?_;refine tp 7 58 ?_;refine tp 8 59 ?_;refine Cz 9 60 8 false ?_;refine Cz 10 61 8 false ?_;refine Cz 11 62 8 false ?_;refine Cz 12 63 8 false ?_;refine Cz 13 64 12 true ?_;refine Cz 14 65 12 true ?_;refine Cz 15 66 12 true ?_;refine Cz 16 67 12 true ?_;refine Cz 17 68 8 false ?_;refine tp 18 69 ?_;refine tp 19 70 ?_;refine Xj 20 71 19 true t.head w.heap.size 0 (fun W' aC=>(aE.o.below aC).range) ?_;refine Db 22 73 19 true ?_;refine Db 23 74 19 true ?_ (hy:=fun w aC=>by(try dsimp only at aC);have q9:w.cell? ⟨g7,4,none⟩=some (.slice none 0 0):=by { rw [Lib.cell_of_heap ((aC.block _ (AW dU.o)).trans dU.o)];rfl };go_simp;try with_reducible rfl);refine K6 21 72 19 true fun K hK=>?_;go_simp;go_at_call 31;refine(jL.o _ aA).mono ?_;rintro e w9 ⟨q9,m9,c9,rfl,mx,hb⟩;have jO:=AA mx;have gU:=AA (AK aA hb);clear mx;try go_wp2_with fail
   refine tn hK (AK aA hb) ?_;clear aA hK K;intro aA;refine K6 24 75 19 true fun K hK=>?_;go_simp;go_at_call 32;refine(KM (aq.o.below gU.o) (by decide)).mono ?_;rintro e w10 ⟨⟨q10,m10,c10,rfl,ik⟩,hb⟩;have kS:=AA ik;have jO:=AA (jO.o.below hb);have kC:=AA (AK gU.o hb);clear ik;try go_wp2_with fail
   refine tn hK (AK aA hb) ?_;clear aA hK K;intro aA;refine K6 25 76 19 true fun K hK=>?_;go_simp;go_at_call 30;refine(JI jO.o kS.o).mono ?_;rintro e w11 ⟨rfl,j,rfl⟩;have fl:=AA (below_drewN kC.o j);rw [show Vo _ _=true from QN _];try go_wp2_with fail
   refine tn hK (fl.o) ?_;clear aA hK K;intro aA;refine tp 26 77 ?_;refine tp 27 78 ?_;refine K6 28 79 27 true fun K hK=>?_;go_simp;go_at_call 11;refine(H9 (HV.o.below (HB.o.trans (fl.o.mono HB.o.size)))).mono ?_;rintro e w12 ⟨rfl,hb⟩;have kD:=AA (AK fl.o hb);try go_wp2_with fail
   refine tn hK (AK aA hb) ?_;clear aA hK K;intro aA;refine tp 29 80 ?_;refine tp 30 2 ?_;refine dn ?_;clear aA;have HB:=AA (HB.o.trans (kD.o.mono HB.o.size));go_wp2_with fail;go_ret;exact⟨rfl,HB.o⟩)
 |ok x=>
  have HR:=AA hr;have on:=AA (MQ ct.o.lies ct.o.small (Nat.le_trans ct.o.size (by omega)) hr);clear hr
  go_upto_region 4 with(first
   |(refine lw aE.o.blk underlying31 ?_)
   |(go_at_call 12;refine(eK.o).mono ?_;rw [HR.o];rintro e w3 ⟨⟨y3,q3,m3,c3,rfl,gj,gN,aD⟩,hb⟩;have fP:=AA gj;have ln:=AA gN;have eE:=AA aD;clear gj gN aD;have HB:=bt HB hb;have aE:=AA (aE.o.below hb);have gV:=AA hb;clear hb)
   |(refine n4 y3 ?_))
  have dX:Below w3.heap.size w3 (w3.alloc (.cells #[.int .u8 y3.head.kind,.int .i64 y3.head.rho,.slice y3.head.ep y3.head.en y3.head.ec,.slice y3.head.kp y3.head.kn y3.head.kc] 28)):=bA;have cy:=AA (Ap w3 #[.int .u8 y3.head.kind,.int .i64 y3.head.rho,.slice y3.head.ep y3.head.en y3.head.ec,.slice y3.head.kp y3.head.kn y3.head.kc] 28 _ rfl);have HB:=bt HB dX;have aE:=AA (aE.o.below dX);have ct:=AA ((ct.o.below gV.o).below dX);have fP:=AA (LR.lies_below dX _ fP.o);have eE:=AA (eE.o.below dX);obtain⟨g3,bM⟩:∃g3,w3.heap.size=g3:=⟨_,rfl⟩;rw [bM] at cy ⊢;generalize w3.alloc (.cells #[.int .u8 y3.head.kind,.int .i64 y3.head.rho,.slice y3.head.ep y3.head.en y3.head.ec,.slice y3.head.kp y3.head.kn y3.head.kc] 28)=W4 at *
  clear bM dX gV eK;have fo:=AA (Hl (t:=t) ct.o.lies ct.o.small (Nat.le_trans ct.o.size (by omega)))
  go_upto_region 5 with(first
   |(refine lw aE.o.blk underlying31 ?_)
   |(go_at_call 29;refine(fo.o).mono ?_;rw [HR.o];rintro e w5 ⟨⟨y7,rfl,cM,hy⟩,hb⟩;have jQ:=AA hy;have dm:=AA cM;clear hy cM;have HB:=bt HB hb;have aE:=AA (aE.o.below hb);have ct:=AA (ct.o.below hb);have aw:=AA hb;clear hb)
   |(refine sn #[.int .u8 y7.ty.head.kind,.int .i64 y7.ty.head.rho,.slice y7.ty.head.ep y7.ty.head.en y7.ty.head.ec,.slice y7.ty.head.kp y7.ty.head.kn y7.ty.head.kc,.slice y7.ep y7.en y7.ec,.int .i64 0,.int .i64 0] ?_))
  have eN:Below w5.heap.size w5 (w5.alloc (.cells #[.int .u8 y7.ty.head.kind,.int .i64 y7.ty.head.rho,.slice y7.ty.head.ep y7.ty.head.en y7.ty.head.ec,.slice y7.ty.head.kp y7.ty.head.kn y7.ty.head.kc,.slice y7.ep y7.en y7.ec,.int .i64 0,.int .i64 0] 69)):=bA;have dU:=AA (Ap w5 #[.int .u8 y7.ty.head.kind,.int .i64 y7.ty.head.rho,.slice y7.ty.head.ep y7.ty.head.en y7.ty.head.ec,.slice y7.ty.head.kp y7.ty.head.kn y7.ty.head.kc,.slice y7.ep y7.en y7.ec,.int .i64 0,.int .i64 0] 69 _ rfl);have fy:=AK aw.o eN;have cy:=AA ((fy.block _ (AW cy.o)).trans cy.o);have HB:=bt HB eN;have aE:=AA (aE.o.below eN);have ct:=AA (ct.o.below eN);have fP:=AA (LR.lies_below fy _ fP.o);have eE:=AA (eE.o.below fy);have jQ:=AA (jQ.o.below eN);obtain⟨g7,jA⟩:∃g7,w5.heap.size=g7:=⟨_,rfl⟩;rw [jA] at dU ⊢;generalize w5.alloc (.cells #[.int .u8 y7.ty.head.kind,.int .i64 y7.ty.head.rho,.slice y7.ty.head.ep y7.ty.head.en y7.ty.head.ec,.slice y7.ty.head.kp y7.ty.head.kn y7.ty.head.kc,.slice y7.ep y7.en y7.ec,.int .i64 0,.int .i64 0] 69)=W6 at *
  clear jA eN fy aw fo;have aq:Hd (AE AS 3 W6 y7.ep y7.en y7.ec x.2):=by have h:=jQ.o.eff;rwa [show y7.eff=x.2 from congrArg Prod.snd dm.o] at h
  have d6:W6.cell? ⟨g7,6,none⟩=some (.int .i64 0):=by rw [Lib.cell_of_heap dU.o];rfl
  have d5:W6.cell? ⟨g7,5,none⟩=some (.int .i64 0):=by rw [Lib.cell_of_heap dU.o];rfl
  have d4:W6.cell? ⟨g7,4,none⟩=some (.slice y7.ep y7.en y7.ec):=by rw [Lib.cell_of_heap dU.o];rfl
  go_upto_region 7 with(first
   |(go_at_call 14;refine(Id eE.o aq.o).mono ?_;rintro e w7 ⟨rfl,hb⟩;have fL:=AA hb;clear hb))
  have HB:=AA (HB.o.trans (fL.o.mono HB.o.size));have aE:=AA (aE.o.below fL.o);have ct:=AA (ct.o.below fL.o);have aq:=AA (aq.o.below fL.o);have cy:=AA ((fL.o.block _ (AW cy.o)).trans cy.o);have dU:=AA ((fL.o.block _ (AW dU.o)).trans dU.o);have fP:=AA (LR.lies_below fL.o _ fP.o);have jQ:=AA (jQ.o.below fL.o);clear fL d6 d5 d4 eE;have jL:Hd (∀W',Below w7.heap.size w7 W'→Calls prog 31 #[Aj t.head] W' fun e w'=>∃q m c,e=.returned (.slice q m c)∧AE EC 1 w' q m c (IK (A2 x.2))∧Below W'.heap.size W' w'):=fun W' hb=>by have h:=JA (HV.o.below (HB.o.trans (hb.mono HB.o.size))) (ct.o.below hb);rwa [HR.o] at h
  have cS:=AA (WM (ln.o.trans (congrArg Prod.fst dm.o).symm));refine rg (fun W'=>Below w7.heap.size w7 W') (AC w7) fun aA=>?_;refine tp 0 51 ?_;refine tp 1 52 ?_ (hy:=fun w aC=>by(try dsimp only at aC);have q9:w.cell? ⟨g7,6,none⟩=some (.int .i64 0):=by { rw [Lib.cell_of_heap ((aC.block _ (AW dU.o)).trans dU.o)];rfl };go_simp;try with_reducible rfl);refine tp 2 53 ?_;refine tp 3 54 ?_;refine Cz 4 55 3 true ?_;refine Cz 5 56 3 true ?_;refine Cz 6 57 3 true ?_;refine tp 7 58 ?_;refine tp 8 59 ?_;refine Db 9 60 8 false ?_;refine Db 10 61 8 false ?_ (hy:=fun w aC=>by(try dsimp only at aC);have q9:w.cell? ⟨g7,6,none⟩=some (.int .i64 0):=by { rw [Lib.cell_of_heap ((aC.block _ (AW dU.o)).trans dU.o)];rfl };go_simp;try with_reducible rfl);refine Db 11 62 8 false ?_;refine Db 12 63 8 false ?_;refine RI 13 64 12 true y3 g3 0 (fun W' aC=>r4 ((aC.block _ (AW cy.o)).trans cy.o)) ?_;refine Db 14 65 12 true ?_;refine RI 15 66 12 true y7.ty g7 0 (fun W' aC=>Gj ((aC.block _ (AW dU.o)).trans dU.o) 0 _ (by intro i v hv;match i,hv with|0,hv=>exact hv|1,hv=>exact hv|2,hv=>exact hv|3,hv=>exact hv)) ?_;refine K6 16 67 12 true fun K hK=>?_;go_simp;go_at_call 13;refine(ER y3 y7.ty _ (LR.lies_below aA _ fP.o) (LR.lies_below aA _ jQ.o.ty) true cS.o).mono ?_;rintro e w8 ⟨rfl,hb⟩;try go_wp2_with fail
  refine tn hK (AK aA hb) ?_;clear aA hK K;intro aA;refine Db 17 68 8 false ?_;refine tp 18 69 ?_;refine tp 19 70 ?_;refine Xj 20 71 19 true t.head w.heap.size 0 (fun W' aC=>(aE.o.below aC).range) ?_;refine Db 22 73 19 true ?_;refine Db 23 74 19 true ?_ (hy:=fun w aC=>by(try dsimp only at aC);have q9:w.cell? ⟨g7,4,none⟩=some (.slice y7.ep y7.en y7.ec):=by { rw [Lib.cell_of_heap ((aC.block _ (AW dU.o)).trans dU.o)];rfl };go_simp;try with_reducible rfl);refine K6 21 72 19 true fun K hK=>?_;go_simp;go_at_call 31;refine(jL.o _ aA).mono ?_;rintro e w9 ⟨q9,m9,c9,rfl,mx,hb⟩;have jO:=AA mx;have gU:=AA (AK aA hb);clear mx;try go_wp2_with fail
  refine tn hK (AK aA hb) ?_;clear aA hK K;intro aA;refine K6 24 75 19 true fun K hK=>?_;go_simp;go_at_call 32;refine(KM (aq.o.below gU.o) (by { have h1:=aq.o.len;have h2:=on.o;omega })).mono ?_;rintro e w10 ⟨⟨q10,m10,c10,rfl,ik⟩,hb⟩;have kS:=AA ik;have jO:=AA (jO.o.below hb);have kC:=AA (AK gU.o hb);clear ik;try go_wp2_with fail
  refine tn hK (AK aA hb) ?_;clear aA hK K;intro aA;refine K6 25 76 19 true fun K hK=>?_;go_simp;go_at_call 30;refine(JI jO.o kS.o).mono ?_;rintro e w11 ⟨rfl,j,rfl⟩;have fl:=AA (below_drewN kC.o j);rw [show Vo _ _=true from QN _];try go_wp2_with fail
  refine tn hK (fl.o) ?_;clear aA hK K;intro aA;refine tp 26 77 ?_;refine tp 27 78 ?_;refine K6 28 79 27 true fun K hK=>?_;go_simp;go_at_call 11;refine(H9 (HV.o.below (HB.o.trans (fl.o.mono HB.o.size)))).mono ?_;rintro e w12 ⟨rfl,hb⟩;have kD:=AA (AK fl.o hb);try go_wp2_with fail
  refine tn hK (AK aA hb) ?_;clear aA hK K;intro aA;refine tp 29 80 ?_;refine tp 30 2 ?_;refine dn ?_;clear aA;have HB:=AA (HB.o.trans (kD.o.mono HB.o.size));go_wp2_with fail;go_ret;exact⟨rfl,HB.o⟩
def Wa:DataW Unit→List Value
 |.lit (.int k z)=>[.int k z]
 |_=>[]
def XS:DataW Unit→List Value
 |.agg l=>l.flatMap Wa
 |d=>Wa d
def Wb:DataW Unit→List Value
 |.agg l=>l.flatMap XS
 |_=>[]
def XU(h:Array Obj)(g:Nat)(cs:Array Value):Array Obj:=h.modify g fun
 |.cells _ t frozen=>.cells cs t frozen
 |o=>o
noncomputable def laidW (os:Os):World:={ World.holding prog os ⟨#[],#[],[]⟩ with heap:=XU (XU (World.holding prog os ⟨#[],#[],[]⟩).heap 1 (Wb Rows.laid_unicode_utf8_first).toArray) 2 (Wb Rows.laid_unicode_utf8_acceptRanges).toArray }
end Go.Proofs.YtkdjnegfnhldpaaGreatDoor
