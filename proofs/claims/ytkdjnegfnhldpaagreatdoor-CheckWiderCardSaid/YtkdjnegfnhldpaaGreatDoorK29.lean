/- Part 29. -/
import Derived.Test.YtkdjnegfnhldpaaGreatDoorCards
import Derived.Test.YtkdjnegfnhldpaaGreatDoorTie
import Derived.LaidMore
import Derived.Deep.DeepHandedRow
import Derived.Test.YtkdjnegfnhldpaaGreatDoorK20
import Derived.Test.YtkdjnegfnhldpaaGreatDoorK28
set_option linter.unusedVariables false
set_option maxRecDepth 100000
set_option linter.unusedSimpArgs false
set_option maxHeartbeats 40000000
namespace Go.Proofs.YtkdjnegfnhldpaaGreatDoor
open Go.Proofs.Tryz Go.RowKit
theorem CP{w:World}(hv:Vr w):Calls prog 11 #[] w (RB w (.bool true)):=by
 have HV:=AA hv;clear hv;go_enter func11,ntmps11
 go_upto_region 2 with(first
  |(go_at_call 34;refine(TL 1 ⟨by omega,by omega⟩).mono ?_;rintro e w1 ⟨g1,rfl,nO,hb⟩;have oM:=AA nO;have aO:=AA hb;clear nO hb)
  |(refine sn #[.int .u8 4,.int .u8 0,.int .i64 0,.int .i64 0,.string ⟨#[]⟩,.string ⟨#[]⟩,.string ⟨#[]⟩,.int .i64 0,.slice none 0 0,.slice none 0 0,.int .u8 0,.int .i64 0,.slice none 0 0,.slice none 0 0,.int .u8 0,.int .i64 0,.slice none 0 0,.slice none 0 0,.slice (some ⟨w1.heap.size,0,none⟩) 1 1] ?_))
 have aj:Below w1.heap.size w1 (w1.alloc (.cells #[.int .u8 3,.int .u8 0,.int .i64 0,.int .i64 0,.string ⟨#[]⟩,.string ⟨#[]⟩,.string ⟨#[]⟩,.int .i64 1,.slice none 0 0,.slice none 0 0,.int .u8 0,.int .i64 0,.slice none 0 0,.slice none 0 0,.int .u8 0,.int .i64 0,.slice none 0 0,.slice none 0 0,.slice (some ⟨g1,0,none⟩) 2 2] 31)):=bA;have aI:=bt aO aj;have bK:=AA (show C7 (w1.alloc (.cells #[.int .u8 3,.int .u8 0,.int .i64 0,.int .i64 0,.string ⟨#[]⟩,.string ⟨#[]⟩,.string ⟨#[]⟩,.int .i64 1,.slice none 0 0,.slice none 0 0,.int .u8 0,.int .i64 0,.slice none 0 0,.slice none 0 0,.int .u8 0,.int .i64 0,.slice none 0 0,.slice none 0 0,.slice (some ⟨g1,0,none⟩) 2 2] 31)) (some ⟨w1.heap.size,0,none⟩) 1 1 [Qp g1 1] from H4 oM.o 31 _ rfl);have fi:(w1.alloc (.cells #[.int .u8 3,.int .u8 0,.int .i64 0,.int .i64 0,.string ⟨#[]⟩,.string ⟨#[]⟩,.string ⟨#[]⟩,.int .i64 1,.slice none 0 0,.slice none 0 0,.int .u8 0,.int .i64 0,.slice none 0 0,.slice none 0 0,.int .u8 0,.int .i64 0,.slice none 0 0,.slice none 0 0,.slice (some ⟨g1,0,none⟩) 2 2] 31)).heap.size=w1.heap.size+1:=by simp
 clear aj;generalize w1.alloc (.cells #[.int .u8 3,.int .u8 0,.int .i64 0,.int .i64 0,.string ⟨#[]⟩,.string ⟨#[]⟩,.string ⟨#[]⟩,.int .i64 1,.slice none 0 0,.slice none 0 0,.int .u8 0,.int .i64 0,.slice none 0 0,.slice none 0 0,.int .u8 0,.int .i64 0,.slice none 0 0,.slice none 0 0,.slice (some ⟨g1,0,none⟩) 2 2] 31)=W2 at *
 rw [←fi];obtain⟨g2,ai⟩:∃g2,w1.heap.size=g2:=⟨_,rfl⟩;rw [ai] at bK ⊢;clear fi ai;have bH:=AA (CQ W2 #[.int .u8 4,.int .u8 0,.int .i64 0,.int .i64 0,.string ⟨#[]⟩,.string ⟨#[]⟩,.string ⟨#[]⟩,.int .i64 0,.slice none 0 0,.slice none 0 0,.int .u8 0,.int .i64 0,.slice none 0 0,.slice none 0 0,.int .u8 0,.int .i64 0,.slice none 0 0,.slice none 0 0,.slice (some ⟨g2,0,none⟩) 1 1] 31 _ rfl);have dN:Below W2.heap.size W2 (W2.alloc (.cells #[.int .u8 4,.int .u8 0,.int .i64 0,.int .i64 0,.string ⟨#[]⟩,.string ⟨#[]⟩,.string ⟨#[]⟩,.int .i64 0,.slice none 0 0,.slice none 0 0,.int .u8 0,.int .i64 0,.slice none 0 0,.slice none 0 0,.int .u8 0,.int .i64 0,.slice none 0 0,.slice none 0 0,.slice (some ⟨g2,0,none⟩) 1 1] 31)):=bA;have aT:=bt aI dN;have mQ:=AA (show LA.lies (W2.alloc (.cells #[.int .u8 4,.int .u8 0,.int .i64 0,.int .i64 0,.string ⟨#[]⟩,.string ⟨#[]⟩,.string ⟨#[]⟩,.int .i64 0,.slice none 0 0,.slice none 0 0,.int .u8 0,.int .i64 0,.slice none 0 0,.slice none 0 0,.int .u8 0,.int .i64 0,.slice none 0 0,.slice none 0 0,.slice (some ⟨g2,0,none⟩) 1 1] 31)) (RR g1 g2) from IV (by omega) (by omega) ⟨by omega,by omega⟩ ⟨by omega,by omega⟩ (bK.o.below dN));clear dN;obtain⟨g3,aP⟩:∃g3,W2.heap.size=g3:=⟨_,rfl⟩;rw [aP] at bH ⊢;generalize W2.alloc (.cells #[.int .u8 4,.int .u8 0,.int .i64 0,.int .i64 0,.string ⟨#[]⟩,.string ⟨#[]⟩,.string ⟨#[]⟩,.int .i64 0,.slice none 0 0,.slice none 0 0,.int .u8 0,.int .i64 0,.slice none 0 0,.slice none 0 0,.int .u8 0,.int .i64 0,.slice none 0 0,.slice none 0 0,.slice (some ⟨g2,0,none⟩) 1 1] 31)=W3 at *
 clear aP aI bK;have dX:Below W3.heap.size W3 (W3.alloc (.cells #[.int .u8 4,.int .u8 0,.int .i64 0,.int .i64 0,.string ⟨#[]⟩,.string ⟨#[]⟩,.string ⟨#[]⟩,.int .i64 0,.slice none 0 0,.slice none 0 0,.int .u8 0,.int .i64 0,.slice none 0 0,.slice none 0 0,.int .u8 0,.int .i64 0,.slice none 0 0,.slice none 0 0,.slice (some ⟨g2,0,none⟩) 1 1] 31)):=bA;have bQ:=bt aT dX;have b7:=AA ((dX.block _ (AV bH.o)).trans bH.o);have mR:=AA (LA.lies_below dX _ mQ.o);have dV:=AA (show C7 (W3.alloc (.cells #[.int .u8 4,.int .u8 0,.int .i64 0,.int .i64 0,.string ⟨#[]⟩,.string ⟨#[]⟩,.string ⟨#[]⟩,.int .i64 0,.slice none 0 0,.slice none 0 0,.int .u8 0,.int .i64 0,.slice none 0 0,.slice none 0 0,.int .u8 0,.int .i64 0,.slice none 0 0,.slice none 0 0,.slice (some ⟨g2,0,none⟩) 1 1] 31)) (some ⟨W3.heap.size,0,none⟩) 1 1 [RR g1 g2] from H4 mQ.o 31 _ rfl);have mT:=AA (show LA.lies (W3.alloc (.cells #[.int .u8 4,.int .u8 0,.int .i64 0,.int .i64 0,.string ⟨#[]⟩,.string ⟨#[]⟩,.string ⟨#[]⟩,.int .i64 0,.slice none 0 0,.slice none 0 0,.int .u8 0,.int .i64 0,.slice none 0 0,.slice none 0 0,.int .u8 0,.int .i64 0,.slice none 0 0,.slice none 0 0,.slice (some ⟨g2,0,none⟩) 1 1] 31)) (Ud g1 g2 W3.heap.size) from IV (by omega) (by omega) ⟨by omega,by omega⟩ ⟨by omega,by omega⟩ dV.o);clear dX;have iz:=AA (CX (t:=Ud g1 g2 W3.heap.size) mT.o (P0 _ _ _) (show (5:Nat)≤1000 by omega) (HV.o.below bQ.o));rw [Pz] at iz
 go_upto_region 3 with(first
  |(refine lw bH.o underlying31 ?_)
  |(go_at_call 12;refine iz.o.mono ?_;rintro e w5 ⟨⟨y,q,m,qc,rfl,bv,cA,aB⟩,hb⟩;have bJ:=bt bQ hb;have dH:=AA ((hb.block _ (AV b7.o)).trans b7.o);have oN:=AA (LA.lies_below hb _ mR.o);obtain rfl:m=0:=aB.len.symm;have nN:y.head.kind=1:=(by have h1:=IN y;rw [cA] at h1;exact(congrArg LH.kind h1).symm);have oL:=AA nN;clear bv cA aB hb nN)
  |(refine n4 y ?_))
 clear iz mT dV bQ b7 mR;have fw:Below w5.heap.size w5 (w5.alloc (.cells #[.int .u8 y.head.kind,.int .i64 y.head.rho,.slice y.head.ep y.head.en y.head.ec,.slice y.head.kp y.head.kn y.head.kc] 28)):=bA;have gF:=bt bJ fw;have dx:=AA ((fw.block _ (AV dH.o)).trans dH.o);have hU:=AA (CQ w5 #[.int .u8 y.head.kind,.int .i64 y.head.rho,.slice y.head.ep y.head.en y.head.ec,.slice y.head.kp y.head.kn y.head.kc] 28 _ rfl);have fk:=AA (CX (t:=RR g1 g2) (LA.lies_below fw _ oN.o) (KY _ _) (show (4:Nat)≤1000 by omega) (HV.o.below gF.o));rw [Pa] at fk;clear fw;obtain⟨g6,bN⟩:∃g6,w5.heap.size=g6:=⟨_,rfl⟩;rw [bN] at hU ⊢;generalize w5.alloc (.cells #[.int .u8 y.head.kind,.int .i64 y.head.rho,.slice y.head.ep y.head.en y.head.ec,.slice y.head.kp y.head.kn y.head.kc] 28)=W6 at *
 clear bN
 go_upto_region 4 with(first
  |(refine lw dx.o underlying31 ?_)
  |(go_at_call 12;refine fk.o.mono ?_;rintro e w7 ⟨he,hb⟩;obtain rfl:=he;have mF:=bt gF hb;have me:=AA ((hb.block _ (AV hU.o)).trans hU.o);clear hb)
  |(refine sn #[.int .u8 0,.int .i64 0,.slice none 0 0,.slice none 0 0] ?_))
 have iF:Below w7.heap.size w7 (w7.alloc (.cells #[.int .u8 0,.int .i64 0,.slice none 0 0,.slice none 0 0] 28)):=bA;have ku:=bt mF iF;have c0:(w7.alloc (.cells #[.int .u8 0,.int .i64 0,.slice none 0 0,.slice none 0 0] 28)).cell? ⟨g6,0,none⟩=some (.int .u8 1):=by rw [Lib.cell_of_heap ((iF.block _ (AV me.o)).trans me.o),←oL.o];rfl
 clear iF;go_wp2_with fail;go_ret;exact⟨AE (by decide),ku.o⟩
theorem Lt{t:PA}{x:TE}(h:DL t=.ok x):Ep t=true∧GI (PA.er t)=.ok x:=by
 unfold DL at h;cases hm:Ep t with
 |true=>rw [hm,if_pos rfl] at h;exact⟨rfl,h⟩
 |false=>rw [hm,if_neg Bool.false_ne_true] at h;cases h
theorem PQ{w:World}{t:PA}{x:TE}(hl:LA.lies w t)(hs:A5 t)(hz:t.size≤1000)(hr:DL t=.ok x):x.2.length≤202000:=by obtain⟨hm,hc⟩:=Lt hr;have hg:=KJ (PA.er t) [] [0] x (GL t hl hs hm) (fun b hb=>by cases hb) (Iq.1 hc).2;have h2:(PA.er t).size=t.size:=AD.size_map _ _;have h3:=hg.len;omega
section
variable {X:AB}
theorem JU(hx:X.exn.size≤100){l:List AB}(h:CF l=false):BS (Dv X l)=false:=by
 unfold CF at h;simp only [Bool.or_eq_false_iff,decide_eq_false_iff_not,List.any_eq_false,decide_eq_true_eq] at h;unfold BS;simp only [Bool.or_eq_false_iff,decide_eq_false_iff_not,List.any_eq_false,decide_eq_true_eq];refine⟨?_,fun z hz=>?_⟩
 ·have h1:=Cd (l++[X]);rw [List.length_append,List.length_singleton] at h1;show ¬200<(BE (l++[X])).length;omega
 ·have h1:=((Ar (l++[X]) z).1 hz).1;rw [List.mem_append,List.mem_singleton] at h1;rcases h1 with h1|rfl
  ·exact h.2 z h1
  ·omega
theorem JR(hx:X.exn.size≤100)(t:RT):Fq t=true→BL (Av X t)=true:=by
 refine AD.ind (P:=fun(t:RT)=>Fq t=true→BL (Av X t)=true) (fun a l ih h=>?_) t;rw [Ho,Bool.and_eq_true,List.all_eq_true] at h;have h1:CF a.eff=false:=by simpa using h.1
 rw [NN,BG,Bool.and_eq_true,List.all_eq_true];refine⟨?_,fun y hy=>?_⟩
 ·have h2:BS (Dk X a).eff=false:=by
   unfold Dk;split
   ·exact JU hx h1
   ·exact Iz h1
  rw [h2];rfl
 ·obtain⟨t,ht,rfl⟩:=List.mem_map.1 hy;exact ih t ht (h.2 t ht)
theorem L6(t:RT):Bj t=true→Bj (Av X t)=true:=by
 refine AD.ind (P:=fun(t:RT)=>Bj t=true→Bj (Av X t)=true) (fun a l ih h=>?_) t;rw [C6,Bool.and_eq_true,List.all_eq_true] at h;rw [NN,C6,Bool.and_eq_true,List.all_eq_true,List.length_map];refine⟨?_,fun y hy=>?_⟩
 ·have h1:=h.1;unfold Dk;split
  ·rename_i k4;unfold A0 at h1 ⊢;have k1:¬a.kind=1:=by omega
   have k2:¬a.kind=2:=by omega
   have k3:¬a.kind=3:=by omega
   simp only [if_neg k1,if_neg k2,if_neg k3,if_pos k4,Bool.and_eq_true] at h1 ⊢;exact⟨⟨h1.1.1,Az _⟩,h1.2⟩
  ·exact h1
 ·obtain⟨t,ht,rfl⟩:=List.mem_map.1 hy;exact ih t ht (h.2 t ht)
theorem L8{w w':World}{x y:PT}(hx:LR.lies w x)(hy:LR.lies w' y)(h:y.er=x.er):Ct y.head=Ct x.head:=by
 obtain⟨a,l⟩:=x;obtain⟨b,m⟩:=y;have ha:=Bb hx;have hb:=Bb hy;rw [PT.er_node,PT.er_node] at h;injection h with h1 h2;have e0:b.kind=a.kind:=congrArg LH.kind h1;have e1:b.rho=a.rho:=congrArg LH.rho h1;have e2:b.eff=a.eff:=congrArg LH.eff h1;have e3:b.en=a.en:=by rw [←hb.own.eff.len,←ha.own.eff.len,e2]
 have e4:b.kn=a.kn:=by have:=congrArg List.length h2;rw [List.length_map,List.length_map] at this;rw [←hb.kids.len,←ha.kids.len,this]
 show Ct b=Ct a;unfold Ct;rw [e0,e1,e3,e4]
theorem OM{w w':World}{a b:AH}(ir:AH.Own w a)(eE:AH.Own w' b)(hp:b.plain=Be X a.plain)(hk:b.kn=a.kn)(h:Cs a=true):Cs b=true:=by
 have e0:b.kind=a.kind:=congrArg CL.kind hp;have e1:b.hd=a.hd:=by have q1:b.op=a.op:=congrArg CL.op hp;have q2:b.at_=a.at_:=congrArg CL.at_ hp;have q3:b.n=a.n:=congrArg CL.n hp;have q4:b.name=a.name:=congrArg CL.name hp;have q5:b.arg=a.arg:=congrArg CL.arg hp;have q6:b.exn=a.exn:=congrArg CL.exn hp;show (⟨b.kind,b.op,b.at_,b.n,b.name,b.arg,b.exn⟩:BY)=⟨a.kind,a.op,a.at_,a.n,a.name,a.arg,a.exn⟩;rw [e0,q1,q2,q3,q4,q5,q6]
 have e2:b.rho=a.rho:=congrArg CL.rho hp;have e3:b.rhos=a.rhos:=congrArg CL.rhos hp;have e4:b.rn=a.rn:=by rw [←eE.rhos.len,←ir.rhos.len,e3]
 have e5:b.eff=if a.kind=11∨a.kind=13∨a.kind=18 then Dv X a.eff else a.eff:=congrArg CL.eff hp;have e6:b.ty.er=if a.kind=15∨a.kind=11∨a.kind=13 then Av X a.ty.er else a.ty.er:=congrArg CL.ty hp;have e7:b.res.er=if a.kind=13 then Av X a.res.er else a.res.er:=congrArg CL.res hp;unfold Cs at h ⊢;simp only [Bool.and_eq_true] at h ⊢;obtain⟨⟨⟨⟨⟨h1,h2⟩,h3⟩,h4⟩,h5⟩,h6⟩:=h;rw [e1,hk,e2,e0,e3,e4];refine⟨⟨⟨⟨⟨h1,h2⟩,h3⟩,?_⟩,?_⟩,?_⟩
 ·by_cases k:a.kind=11∨a.kind=13∨a.kind=18
  ·rw [if_pos k] at e5;have ck:Ee [11,13,18] a.kind=true:=by unfold Ee;rcases k with k|k|k<;>rw [k]<;>rfl
   rw [ck,e5];have:=Az (a.eff++[X]);show (!(!true&&_||!(DM (BE (a.eff++[X])))))=true;rw [this];rfl
  ·rw [if_neg k] at e5;have e8:b.en=a.en:=by rw [←eE.eff.len,←ir.eff.len,e5]
   rw [e5,e8];exact h4
 ·by_cases k:a.kind=15∨a.kind=11∨a.kind=13
  ·rw [if_pos k] at e6;have ck:Ee [11,13,15] a.kind=true:=by unfold Ee;rcases k with k|k|k<;>rw [k]<;>rfl
   rw [ck] at h5 ⊢;have h7:Bj a.ty.er=true:=by simpa using h5
   rw [e6,L6 _ h7];rfl
  ·rw [if_neg k] at e6;rw [e6,L8 ir.ty eE.ty e6];exact h5
 ·by_cases k:a.kind=13
  ·rw [if_pos k] at e7;rw [k] at h6 ⊢;have h7:Bj a.res.er=true:=by simpa using h6
   rw [e7,L6 _ h7];rfl
  ·rw [if_neg k] at e7;rw [e7,L8 ir.res eE.res e7];exact h6
theorem Oi(hx:X.exn.size≤100){w w':World}{a b:AH}(ir:AH.Own w a)(eE:AH.Own w' b)(hp:b.plain=Be X a.plain)(h:MS a):CB b:=by
 have q4:b.name=a.name:=congrArg CL.name hp;have q5:b.arg=a.arg:=congrArg CL.arg hp;have q6:b.exn=a.exn:=congrArg CL.exn hp;have e3:b.rhos=a.rhos:=congrArg CL.rhos hp;have e4:b.rn=a.rn:=by rw [←eE.rhos.len,←ir.rhos.len,e3]
 have e5:b.eff=if a.kind=11∨a.kind=13∨a.kind=18 then Dv X a.eff else a.eff:=congrArg CL.eff hp;have e6:b.ty.er=if a.kind=15∨a.kind=11∨a.kind=13 then Av X a.ty.er else a.ty.er:=congrArg CL.ty hp;have e7:b.res.er=if a.kind=13 then Av X a.res.er else a.res.er:=congrArg CL.res hp;refine⟨by rw [q4];exact h.n.name,by rw [q5];exact h.n.arg,by rw [q6];exact h.n.exn,by rw [e4];exact h.n.rhos,?_,?_,?_⟩
 ·rw [e5];split
  ·exact JU hx h.effx
  ·exact h.n.eff
 ·rw [e6];split
  ·exact⟨by rw [JF];exact h.n.ty.size,JR hx _ h.tyx⟩
  ·exact h.n.ty
 ·rw [e7];split
  ·exact⟨by rw [JF];exact h.n.res.size,JR hx _ h.resx⟩
  ·exact h.n.res
theorem MK(hx:X.exn.size≤100){w w':World}(t:PA):∀y:PA,LA.lies w t→LA.lies w' y→PA.er y=FQ X (PA.er t)→Ci t→A5 y∧(Ep t=true→Ep y=true):=by
 refine AD.ind (P:=fun(t:PA)=>∀y:PA,LA.lies w t→LA.lies w' y→PA.er y=FQ X (PA.er t)→Ci t→A5 y∧(Ep t=true→Ep y=true)) (fun a l ih y hl eo he hs=>?_) t;obtain⟨b,m⟩:=y;have hn:=Cb hl;have dR:=Cb eo;rw [PA.er_node,PA.er_node,Gu] at he;injection he with h1 h2;rw [List.map_map] at h2;have aJ:m.length=l.length:=by have:=congrArg List.length h2;rwa [List.length_map,List.length_map] at this
 have hk:b.kn=a.kn:=by rw [←dR.kids.len,←hn.kids.len,aJ]
 have iu:=hs a (by rw [AD.nodes_node];simp);have nY:∀x∈l,Ci x:=fun x hx z hz=>hs z (by rw [AD.nodes_node];exact List.mem_cons_of_mem _ (List.mem_flatten.2 ⟨_,List.mem_map_of_mem hx,hz⟩));have j0:∀z∈m,∃x∈l,PA.er z=FQ X (PA.er x):=fun z hz=>by have:PA.er z∈m.map PA.er:=List.mem_map_of_mem hz;rw [h2] at this;obtain⟨x,hx,e⟩:=List.mem_map.1 this;exact⟨x,hx,e.symm⟩
 refine⟨A5.node (Oi hx hn.own dR.own h1 iu) (fun z hz=>?_),fun hm=>?_⟩
 ·obtain⟨x,eq,e⟩:=j0 z hz;exact(ih x eq z (hn.each x eq) (dR.each z hz) e (nY x eq)).1
 ·rw [Rg,Bool.and_eq_true,List.all_eq_true] at hm ⊢;refine⟨OM hn.own dR.own h1 hk hm.1,fun z hz=>?_⟩;obtain⟨x,eq,e⟩:=j0 z hz;exact(ih x eq z (hn.each x eq) (dR.each z hz) e (nY x eq)).2 (hm.2 x eq)
theorem Rz{t y:PA}(h:PA.er y=FQ X (PA.er t)):y.size=t.size:=by have h1:(PA.er y).size=y.size:=AD.size_map _ _;have h2:(PA.er t).size=t.size:=AD.size_map _ _;have h3:(FQ X (PA.er t)).size=(PA.er t).size:=AD.size_map _ _;rw [←h1,←h2,h,h3]
theorem Nr(hk:X.kind=3)(hB:AM X=true)(hx:X.exn.size≤100){w w':World}{t y:PA}(hl:LA.lies w t)(eo:LA.lies w' y)(h:PA.er y=FQ X (PA.er t))(hs:Ci t){r:TE}(hr:DL t=.ok r):∃r',DL y=.ok r'∧Ag r.2 r'.2=true∧Ag r'.2 (r.2++[X])=true:=by
 obtain⟨h1,h2⟩:=Lt hr;obtain⟨r',h3,h4⟩:=Nq (X:=X) hk hB h2;have h5:=(MK hx t y hl eo h hs).2 h1;refine⟨r',by unfold DL;rw [if_pos h5,h];exact h3,?_,?_⟩
 ·unfold Ag;rw [List.all_eq_true];intro z hz;rw [Bool.or_eq_true,Ew];exact .inr (h4.more z hz)
 ·unfold Ag;rw [List.all_eq_true];intro z hz;rw [Bool.or_eq_true,Ew,List.mem_append,List.mem_singleton];exact .inr (h4.less z hz)
end
theorem Ce{P:Program}{α:Type}{ops:Array Oper}{o:Oper}{a:Act}{K:Act→World→Prop}{Q:Exit→Act→World→Prop}{E:Prop}(hw:Region.wanted o (yielded ops a.tmps)=true)(s x:Operand)(t:TypeId)(ho:o.op=.call { callee:=.builtin .append,args:=#[s,x],argTypes:=#[t,t] })(base:Nat)(e:TypeId)(z:Value)(k bytes:Nat)(ht:P.underlying t=some (.slice e))(bu:(P.info? e).map (fun i=>(i.zero,i.size,i.bytes))=some (some z,k,bytes))(et:z.cells.size=k)(aL:0<k)(enc:α→List Value)(hk:∀x,(enc x).length=k)(h1:∀y,∀u∈enc y,u.oneCell'=true)(l' l:List α)(n:Nat){w:World}(v:Value)(aD:AI enc k w base e v n l)(p:Option Addr)(m c:Nat)(hs:a.eval s=v)(hx:a.eval x=.slice p m c)(hl:l'.length=m)(hp:p=none→c=0)(hr:At enc k w p l')(ac:(n+m) * bytes≤140737488355328)(ic:n+m≤9223372036854775807)(dI:base≤w.heap.size)(h:∀v' w',AI enc k w' base e v' (n+m) (l++l')→w.grownBy w' v.ownBlock→(∀b,b<w.heap.size→v'.ownBlock=some b→v.ownBlock=some b)→K (a.put o.dst v') w'):if Region.wanted o (yielded ops a.tmps)=true then Oper.wp P o a w K Q else E:=by
 rw [if_pos hw];obtain⟨i,hi,hz,bW,eL⟩:=info_parts bu;rcases p with _|ad
 ·have fN:l'=[]:=by
   rcases hr with h|⟨_,_,h,_⟩
   ·exact h
   ·cases h
  subst fN;obtain rfl:m=0:=by simpa using hl.symm
  obtain rfl:=hp rfl;have bx:=run_append_owned_none (P:=P) (w:=w) base t o.type e i k ht hi v n _ aD;have:=h v w (by simpa using aD) (World.grownBy.refl _ _) (fun b _ h=>h);unfold Oper.wp execOp;simp only [ho,resolve,invoke,builtin,Sem.run_bind,Sem.run_pure,Result.andThen_ok,List.map_toArray,List.map_cons,List.map_nil,hs,hx,bx];exact this
 ·obtain⟨v',w',bx,h2,h3,h4,h5⟩:=run_append_own_at (P:=P) w base t o.type e i z k bytes ht hi hz bW eL et aL v n _ aD ad m c (l'.flatMap enc) (by rw [Aj hk,hl]) (by
   intro j u hj;rcases hr with h0|⟨b,o',hb,aG,hc⟩
   ·subst h0;simp at hj
   ·cases hb
    have fy:j<l'.length * k:=by rw [←Aj hk];exact CD hj
    have hq:j / k<l'.length:=Nat.div_lt_of_lt_mul (by rw [Nat.mul_comm];exact fy);have hm:j % k<k:=Nat.mod_lt _ aL;have hf:=CY hk l' (j / k) _ (j % k) (List.getElem?_eq_getElem hq) hm;rw [Nat.div_add_mod' j k,hj] at hf;have:=hc (j / k) _ (List.getElem?_eq_getElem hq) (j % k) u hf.symm;rw [D3,←Nat.div_add_mod' j k,←Nat.add_assoc];exact this) (by
   intro u hu;obtain⟨y,_,hy⟩:=List.mem_flatMap.1 hu;exact h1 y u hy) (by unfold maxLen;omega) ac dI
  unfold Oper.wp execOp;simp only [ho,resolve,invoke,builtin,Sem.run_bind,Sem.run_pure,Result.andThen_ok,List.map_toArray,List.map_cons,List.map_nil,hs,hx,bx];refine h v' w' (by unfold AI;rw [List.flatMap_append];exact h2) h3 (fun b hb hv=>?_);rcases h5 with h5|h5
  ·rw [←h5];exact hv
  ·rw [h5] at hv;cases hv;omega
theorem Ej{W:World}{g:Nat}{l:List Value}{t:TypeId}(h:W.heap[g]?=some (.cells l.toArray t (0,0))):W.rangeAt g 0 l:=Bd h l (fun i v hv=>by rw [List.getElem?_toArray];exact hv)
theorem TB{s:ByteArray}(h:s.size≤100):DD (E3 s):=⟨by show (0:Int)≤3;decide,by show (3:Int)≤255;decide,by show (-9223372036854775808:Int)≤0;decide,by show (0:Int)≤9223372036854775807;decide,Nat.le_trans h (by decide)⟩
theorem QP{w:World}(hv:Vr w)(t:PA)(hl:LA.lies w t)(s:ByteArray)(gB:s.size≤9223372036854775807)(h:100<s.size):Calls prog 7 #[An t.head,.string s] w (RB w (.bool true)):=by
 have bD:Below w.heap.size w (w.alloc (AO t.head)):=(Below.refl w.heap.size w).alloc (Nat.le_refl _) (AO t.head);have aj:Below (w.alloc (AO t.head)).heap.size (w.alloc (AO t.head)) ((w.alloc (AO t.head)).alloc (.cells #[.int .u8 3,.int .i64 0,.string s] 59)):=bA;have HB:=AA (bD.trans (aj.mono bD.size));have aM:=AA ((Ah w t.head).below aj);have bI:=AA (CQ (w.alloc (AO t.head)) #[.int .u8 3,.int .i64 0,.string s] 59 (w.heap.size+1) (by simp));have HV:=AA hv;have du:=AA (Gm t (LA.lies_below HB.o t hl));have fO:decide ((100:Int)<(s.size:Int))=true:=by simp;omega
 clear h gB;clear hl hv bD aj;go_enter func7,ntmps7;go_upto_region 1 with fail;go_upto_region 2 with(refine sn #[.int .u8 3,.int .i64 0,.string s] ?_)
 generalize (w.alloc (AO t.head)).alloc (.cells #[.int .u8 3,.int .i64 0,.string s] 59)=W2 at *
 go_wp2_with (first
  |(refine lw aM.o.blk underlying31 ?_)
  |(go_at_call 10;refine du.o.mono ?_;rintro e w8 ⟨⟨r,rfl,cV⟩,hb⟩;have HB:=bt HB hb;have aM:=AA (aM.o.below hb);have bI:=AA ((hb.block _ (AV bI.o)).trans bI.o);have gG:=AA hb;clear hb;have gH:=AA cV;clear cV;cases r;have cB:=AA ((gH.o (by first|trivial|rfl)).below gG.o))
  |(go_at_call 11;refine(CP (HV.o.below HB.o)).mono ?_;rintro e w9 ⟨rfl,hb⟩;have HB:=bt HB hb;clear hb))
 all_goals (go_ret;exact⟨rfl,HB.o⟩)
theorem NO{w:World}(hv:Vr w)(t:PA)(hl:LA.lies w t)(s:ByteArray)(gB:s.size≤9223372036854775807)(h:s.size≤100)(ha:AM (E3 s)=false):Calls prog 7 #[An t.head,.string s] w (RB w (.bool true)):=by
 have bD:Below w.heap.size w (w.alloc (AO t.head)):=(Below.refl w.heap.size w).alloc (Nat.le_refl _) (AO t.head);have aj:Below (w.alloc (AO t.head)).heap.size (w.alloc (AO t.head)) ((w.alloc (AO t.head)).alloc (.cells #[.int .u8 3,.int .i64 0,.string s] 59)):=bA;have HB:=AA (bD.trans (aj.mono bD.size));have aM:=AA ((Ah w t.head).below aj);have bI:=AA (CQ (w.alloc (AO t.head)) #[.int .u8 3,.int .i64 0,.string s] 59 (w.heap.size+1) (by simp));have HV:=AA hv;have du:=AA (Gm t (LA.lies_below HB.o t hl));have fO:decide ((100:Int)<(s.size:Int))=false:=by simp;omega
 have gi:=AA ha;clear h ha gB;clear hl hv bD aj;go_enter func7,ntmps7;go_upto_region 1 with fail;go_upto_region 2 with(refine sn #[.int .u8 3,.int .i64 0,.string s] ?_)
 generalize (w.alloc (AO t.head)).alloc (.cells #[.int .u8 3,.int .i64 0,.string s] 59)=W2 at *
 go_wp2_with (first
  |(refine lw aM.o.blk underlying31 ?_)
  |(refine Pr [.int .u8 3,.int .i64 0,.string s] (Ej (l:=[.int .u8 3,.int .i64 0,.string s]) bI.o) underlying59 ?_)
  |(go_at_call 10;refine du.o.mono ?_;rintro e w8 ⟨⟨r,rfl,cV⟩,hb⟩;have HB:=bt HB hb;have aM:=AA (aM.o.below hb);have bI:=AA ((hb.block _ (AV bI.o)).trans bI.o);have gG:=AA hb;clear hb;have gH:=AA cV;clear cV;cases r;have cB:=AA ((gH.o (by first|trivial|rfl)).below gG.o))
  |(go_at_call 23;refine(GX (a:=E3 s) gi.o _).mono ?_;rintro e w8 ⟨rfl,hb⟩;have HB:=bt HB hb;have aM:=AA (aM.o.below hb);have bI:=AA ((hb.block _ (AV bI.o)).trans bI.o);(try have cB:=AA (cB.o.below hb));clear hb)
  |(go_at_call 11;refine(CP (HV.o.below HB.o)).mono ?_;rintro e w9 ⟨rfl,hb⟩;have HB:=bt HB hb;clear hb))
 all_goals (go_ret;exact⟨rfl,HB.o⟩)
theorem R9{w:World}(hv:Vr w)(t:PA)(hl:LA.lies w t)(s:ByteArray)(gB:s.size≤9223372036854775807)(h:s.size≤100)(ha:AM (E3 s)=true){z no:Int}(hr:DL t=.error (z,no)):Calls prog 7 #[An t.head,.string s] w (RB w (.bool true)):=by
 have bD:Below w.heap.size w (w.alloc (AO t.head)):=(Below.refl w.heap.size w).alloc (Nat.le_refl _) (AO t.head);have aj:Below (w.alloc (AO t.head)).heap.size (w.alloc (AO t.head)) ((w.alloc (AO t.head)).alloc (.cells #[.int .u8 3,.int .i64 0,.string s] 59)):=bA;have HB:=AA (bD.trans (aj.mono bD.size));have aM:=AA ((Ah w t.head).below aj);have bI:=AA (CQ (w.alloc (AO t.head)) #[.int .u8 3,.int .i64 0,.string s] 59 (w.heap.size+1) (by simp));have HV:=AA hv;have du:=AA (Gm t (LA.lies_below HB.o t hl));have fO:decide ((100:Int)<(s.size:Int))=false:=by simp;omega
 have gi:=AA ha;have HS:=AA h;have HR:=AA hr;have aw:=Sb hr;have ez:(no==0)=false:=by simp [aw]
 have ez2:(no != 0)=true:=by simp [aw]
 clear hr h ha gB;clear hl hv bD aj;go_enter func7,ntmps7;go_upto_region 1 with fail;go_upto_region 2 with(refine sn #[.int .u8 3,.int .i64 0,.string s] ?_)
 generalize (w.alloc (AO t.head)).alloc (.cells #[.int .u8 3,.int .i64 0,.string s] 59)=W2 at *
 go_upto_region 4 with(first
  |(refine lw aM.o.blk underlying31 ?_)
  |(refine Pr [.int .u8 t.head.kind,.int .u8 t.head.op,.int .i64 t.head.at_,.int .i64 t.head.n,.string t.head.name,.string t.head.arg,.string t.head.exn,.int .i64 t.head.rho,.slice t.head.rp t.head.rn t.head.rc,.slice t.head.ep t.head.en t.head.ec,.int .u8 t.head.ty.head.kind,.int .i64 t.head.ty.head.rho,.slice t.head.ty.head.ep t.head.ty.head.en t.head.ty.head.ec,.slice t.head.ty.head.kp t.head.ty.head.kn t.head.ty.head.kc,.int .u8 t.head.res.head.kind,.int .i64 t.head.res.head.rho,.slice t.head.res.head.ep t.head.res.head.en t.head.res.head.ec,.slice t.head.res.head.kp t.head.res.head.kn t.head.res.head.kc,.slice t.head.kp t.head.kn t.head.kc] aM.o.range underlying31 ?_)
  |(refine Pr [.int .u8 3,.int .i64 0,.string s] (Ej (l:=[.int .u8 3,.int .i64 0,.string s]) bI.o) underlying59 ?_)
  |(go_at_call 10;refine du.o.mono ?_;rintro e w8 ⟨⟨r,rfl,cV⟩,hb⟩;have HB:=bt HB hb;have aM:=AA (aM.o.below hb);have bI:=AA ((hb.block _ (AV bI.o)).trans bI.o);have gG:=AA hb;clear hb;have gH:=AA cV;clear cV;cases r;have cB:=AA ((gH.o (by first|trivial|rfl)).below gG.o))
  |(go_at_call 23;refine(GX (a:=E3 s) gi.o _).mono ?_;rintro e w8 ⟨rfl,hb⟩;have HB:=bt HB hb;have aM:=AA (aM.o.below hb);have bI:=AA ((hb.block _ (AV bI.o)).trans bI.o);(try have cB:=AA (cB.o.below hb));clear hb)
  |(go_at_call 11;refine(CP (HV.o.below HB.o)).mono ?_;rintro e w9 ⟨rfl,hb⟩;have HB:=bt HB hb;clear hb))
 all_goals (try (go_ret;exact⟨rfl,HB.o⟩))
 have gJ:=AA (CX (t:=t) cB.o.lies cB.o.small (Nat.le_trans cB.o.size (by omega)) (HV.o.below HB.o))
 go_upto_region 5 with(first
  |(refine lw aM.o.blk underlying31 ?_)
  |(go_at_call 12;refine(gJ.o).mono ?_;rw [HR.o];rintro e w3 ⟨he,hb⟩;obtain rfl:=he;have HB:=bt HB hb;have aM:=AA (aM.o.below hb);have bI:=AA ((hb.block _ (AV bI.o)).trans bI.o);have iS:=AA hb;clear hb)
  |(refine sn #[.int .u8 0,.int .i64 0,.slice none 0 0,.slice none 0 0] ?_))
 have dX:Below w3.heap.size w3 (w3.alloc (.cells #[.int .u8 0,.int .i64 0,.slice none 0 0,.slice none 0 0] 28)):=bA;have HB:=bt HB dX;clear dX
 go_wp2_with (first
  |(go_at_call 11;refine(CP (HV.o.below HB.o)).mono ?_;rintro e w9 ⟨rfl,hb⟩;have HB:=bt HB hb;clear hb))
 go_ret;exact⟨rfl,HB.o⟩
theorem T8{w:World}(hv:Vr w)(t:PA)(hl:LA.lies w t)(s:ByteArray)(gB:s.size≤9223372036854775807)(h:s.size≤100)(ha:AM (E3 s)=true){x:TE}(hr:DL t=.ok x):Calls prog 7 #[An t.head,.string s] w (RB w (.bool true)):=by
 have bD:Below w.heap.size w (w.alloc (AO t.head)):=(Below.refl w.heap.size w).alloc (Nat.le_refl _) (AO t.head);have aj:Below (w.alloc (AO t.head)).heap.size (w.alloc (AO t.head)) ((w.alloc (AO t.head)).alloc (.cells #[.int .u8 3,.int .i64 0,.string s] 59)):=bA;have HB:=AA (bD.trans (aj.mono bD.size));have aM:=AA ((Ah w t.head).below aj);have bI:=AA (CQ (w.alloc (AO t.head)) #[.int .u8 3,.int .i64 0,.string s] 59 (w.heap.size+1) (by simp));have HV:=AA hv;have du:=AA (Gm t (LA.lies_below HB.o t hl));have fO:decide ((100:Int)<(s.size:Int))=false:=by simp;omega
 have gi:=AA ha;have HS:=AA h;have HR:=AA hr;clear hr h ha gB;clear hl hv bD aj;go_enter func7,ntmps7;go_upto_region 1 with fail;go_upto_region 2 with(refine sn #[.int .u8 3,.int .i64 0,.string s] ?_)
 generalize (w.alloc (AO t.head)).alloc (.cells #[.int .u8 3,.int .i64 0,.string s] 59)=W2 at *
 go_upto_region 4 with(first
  |(refine lw aM.o.blk underlying31 ?_)
  |(refine Pr [.int .u8 t.head.kind,.int .u8 t.head.op,.int .i64 t.head.at_,.int .i64 t.head.n,.string t.head.name,.string t.head.arg,.string t.head.exn,.int .i64 t.head.rho,.slice t.head.rp t.head.rn t.head.rc,.slice t.head.ep t.head.en t.head.ec,.int .u8 t.head.ty.head.kind,.int .i64 t.head.ty.head.rho,.slice t.head.ty.head.ep t.head.ty.head.en t.head.ty.head.ec,.slice t.head.ty.head.kp t.head.ty.head.kn t.head.ty.head.kc,.int .u8 t.head.res.head.kind,.int .i64 t.head.res.head.rho,.slice t.head.res.head.ep t.head.res.head.en t.head.res.head.ec,.slice t.head.res.head.kp t.head.res.head.kn t.head.res.head.kc,.slice t.head.kp t.head.kn t.head.kc] aM.o.range underlying31 ?_)
  |(refine Pr [.int .u8 3,.int .i64 0,.string s] (Ej (l:=[.int .u8 3,.int .i64 0,.string s]) bI.o) underlying59 ?_)
  |(go_at_call 10;refine du.o.mono ?_;rintro e w8 ⟨⟨r,rfl,cV⟩,hb⟩;have HB:=bt HB hb;have aM:=AA (aM.o.below hb);have bI:=AA ((hb.block _ (AV bI.o)).trans bI.o);have gG:=AA hb;clear hb;have gH:=AA cV;clear cV;cases r;have cB:=AA ((gH.o (by first|trivial|rfl)).below gG.o))
  |(go_at_call 23;refine(GX (a:=E3 s) gi.o _).mono ?_;rintro e w8 ⟨rfl,hb⟩;have HB:=bt HB hb;have aM:=AA (aM.o.below hb);have bI:=AA ((hb.block _ (AV bI.o)).trans bI.o);(try have cB:=AA (cB.o.below hb));clear hb)
  |(go_at_call 11;refine(CP (HV.o.below HB.o)).mono ?_;rintro e w9 ⟨rfl,hb⟩;have HB:=bt HB hb;clear hb))
 all_goals (try (go_ret;exact⟨rfl,HB.o⟩))
 have gJ:=AA (CX (t:=t) cB.o.lies cB.o.small (Nat.le_trans cB.o.size (by omega)) (HV.o.below HB.o))
 go_upto_region 5 with(first
  |(refine lw aM.o.blk underlying31 ?_)
  |(go_at_call 12;refine(gJ.o).mono ?_;rw [HR.o];rintro e w3 ⟨⟨y3,q3,m3,c3,rfl,bv,cA,aB⟩,hb⟩;have lM:=AA bv;have lB:=AA cA;have bs:=AA aB;clear bv cA aB;have HB:=bt HB hb;have aM:=AA (aM.o.below hb);have bI:=AA ((hb.block _ (AV bI.o)).trans bI.o);have iS:=AA hb;clear hb)
  |(refine n4 y3 ?_))
 have dX:Below w3.heap.size w3 (w3.alloc (.cells #[.int .u8 y3.head.kind,.int .i64 y3.head.rho,.slice y3.head.ep y3.head.en y3.head.ec,.slice y3.head.kp y3.head.kn y3.head.kc] 28)):=bA;have HB:=bt HB dX;have aM:=AA (aM.o.below dX);have bI:=AA ((dX.block _ (AV bI.o)).trans bI.o);have cB:=AA ((cB.o.below iS.o).below dX);have bs:=AA (bs.o.below dX);clear lM lB;generalize w3.alloc (.cells #[.int .u8 y3.head.kind,.int .i64 y3.head.rho,.slice y3.head.ep y3.head.en y3.head.ec,.slice y3.head.kp y3.head.kn y3.head.kc] 28)=W4 at *
 clear dX iS gJ du gH gG;have HW:=AA (R8 (X:=E3 s) (TB HS.o) t cB.o.lies cB.o.small (Nat.le_trans cB.o.size (by omega)) W4 (Below.refl _ _))
 go_upto_region 8 with(first
  |(refine lw aM.o.blk underlying31 ?_)
  |(refine Pr [.int .u8 3,.int .i64 0,.string s] (Ej (l:=[.int .u8 3,.int .i64 0,.string s]) bI.o) underlying59 ?_)
  |(
   go_at_call 24;refine HW.o.mono ?_;rintro e w5 ⟨⟨yt,rfl,bv,pf,ki⟩,hb⟩;have kv:=AA hb.size;have cG:=AA hb;have ky:=AA (cB.o.below hb);have bs:=AA (bs.o.below hb);have bJ:=bt HB hb;obtain⟨r',ah,iR,kJ⟩:=Nr (X:=E3 s) rfl gi.o HS.o (LA.lies_below hb _ cB.o.lies) bv ki cB.o.ex HR.o;have bz:=AA ah;have mZ:=AA iR;have lX:=AA kJ;have mP:=AA (CX (t:=yt) bv (MK HS.o t yt (LA.lies_below hb _ cB.o.lies) bv ki cB.o.ex).1 (by rw [Rz ki];have:=cB.o.size;omega) (HV.o.below bJ.o));clear bv pf ki hb ah iR kJ)
  |(go_at_call 12;refine(mP.o).mono ?_;rw [bz.o];rintro e w7 ⟨⟨y7,q7,m7,c7,rfl,bv,cA,aB⟩,hb⟩;have eU:=AA aB;clear bv cA aB;have iS:=AA hb;clear hb)
  |(refine n4 y7 ?_))
 have iF:Below w7.heap.size w7 (w7.alloc (.cells #[.int .u8 y7.head.kind,.int .i64 y7.head.rho,.slice y7.head.ep y7.head.en y7.head.ec,.slice y7.head.kp y7.head.kn y7.head.kc] 28)):=bA;have kM:=bt iS iF;have HB:=AA (bJ.o.trans (kM.o.mono bJ.o.size));have bs:=AA (bs.o.below kM.o);have eU:=AA (eU.o.below iF);have bI:=AA ((kM.o.block _ (Nat.lt_of_lt_of_le (AV bI.o) kv.o)).trans ((cG.o.block _ (AV bI.o)).trans bI.o));have im:m3≤1000000:=by rw [←bs.o.len];exact Nat.le_trans (PQ cB.o.lies cB.o.small (Nat.le_trans cB.o.size (by omega)) HR.o) (by omega)
 clear iF iS kM cB ky mP HW aM HR bz HS gi bJ kv cG;generalize w7.alloc (.cells #[.int .u8 y7.head.kind,.int .i64 y7.head.rho,.slice y7.head.ep y7.head.en y7.head.ec,.slice y7.head.kp y7.head.kn y7.head.kc] 28)=W8 at *
 refine rg (fun W'=>Below W8.heap.size W8 W') (AR W8) fun aA=>?_;refine tp 0 48 ?_;refine tp 1 49 ?_;refine tp 2 50 ?_;refine FR 3 51 2 true ?_;refine FR 4 52 2 true ?_;refine Jb 5 53 2 true fun K hK=>?_;go_simp;go_at_call 25;refine(Dz mZ.o (bs.o.below (AR W8)) (eU.o.below (AR W8))).mono ?_;rintro e w5 ⟨rfl,hb⟩;try go_wp2_with fail
 refine tn hK (AL aA hb) ?_;clear aA hK K;intro aA;refine tp 6 54 ?_;refine tp 7 55 ?_;refine FR 8 56 7 true ?_;refine FR 10 58 7 true ?_;refine V5 12 60 7 true [.int .u8 3,.int .i64 0,.string s] 59 (w.heap.size+1) 0 (fun W' aC=>Ej (l:=[.int .u8 3,.int .i64 0,.string s]) ((aC.block _ (AV bI.o)).trans bI.o)) underlying59 ?_;refine wpAnyH_ready (rs:=[9,13]) (by kernel_rfl) (by simp) ?_;refine AllReadyH.cons (o:=⟨some 57,_,_,_,_,some (7,true)⟩) rfl (fun K hK=>?_) (AllReadyH.cons (o:=⟨some 61,_,_,_,_,some (7,true)⟩) rfl (fun K hK=>?_) AllReadyH.nil)
 ·skip;go_simp;have iq:=AI.lit AP w5 W8.heap.size 59 3 (by have:=aA.size;first|omega|(simp at this ⊢;omega));have d8:=AA iq;clear iq;refine tn hK (AQ aA _) ?_;clear aA hK K;intro aA;refine wpAnyH_ready (rs:=[11,13]) (by kernel_rfl) (by simp) ?_;refine AllReadyH.cons (o:=⟨some 59,_,_,_,_,some (7,true)⟩) rfl (fun K hK=>?_) (AllReadyH.cons (o:=⟨some 61,_,_,_,_,some (7,true)⟩) rfl (fun K hK=>?_) AllReadyH.nil)
  ·skip;have aL:=aA.size;refine Ce (by rfl) _ _ 25 (by rfl) W8.heap.size 59 _ 3 32 underlying25 BK rfl (by decide) AP AC AZ x.2 [] 0 _ d8.o _ m3 _ (by rfl) (by rfl) bs.o.len bs.o.nil (bs.o.below aA).row (by omega) (by omega) aL ?_;intro v2 w11 bw ai jd;have an:=AA bw;clear aL bw jd;refine tn hK (Below.own aA ai aA.size d8.o) ?_;clear aA hK K;intro aA;refine Jb 13 61 7 true fun K hK=>?_;go_simp;have fz:=AW AC (by omega) w11 59 [E3 s] 1 #[.int .u8 3,.int .i64 0,.string s] rfl rfl (by decide);have dV:=AA fz;clear fz;have an:=AA (BB an.o (.cells #[.int .u8 3,.int .i64 0,.string s] 59));refine tn hK (AQ aA _) ?_;clear aA hK K;intro aA;refine Jb 14 62 7 true fun K hK=>?_;have aL:=aA.size;refine Ce (by rfl) _ _ 25 (by rfl) W8.heap.size 59 _ 3 32 underlying25 BK rfl (by decide) AP AC AZ [E3 s] ([]++x.2) (0+m3) _ an.o _ 1 _ (by rfl) (by rfl) rfl (by intro h;cases h) dV.o.row (by omega) (by omega) aL ?_;intro v5 w14 aF fx je;obtain⟨q6,c6,cQ,fS⟩:=AI.isRow AC (by omega) aF;obtain⟨n6,gY⟩:∃n6,0+m3+1=n6:=⟨_,rfl⟩;rw [gY] at cQ fS;subst cQ;have cS:=AA fS;have bJ:=AA (Below.own aA fx aA.size an.o);clear aL aF je fS gY;refine tn hK (bJ.o) ?_;clear aA hK K;intro aA;refine Jb 15 63 7 true fun K hK=>?_;go_simp;go_at_call 25;refine(Dz lX.o (eU.o.below bJ.o) cS.o).mono ?_;rintro e w15 ⟨rfl,hb⟩;have dZ:=AA (AL bJ.o hb);try go_wp2_with fail
   refine tn hK (AL aA hb) ?_;clear aA hK K;intro aA;refine tp 16 64 ?_;refine tp 17 65 ?_;refine Jb 18 66 17 true fun K hK=>?_;go_simp;go_at_call 11;refine(CP (HV.o.below (HB.o.trans (dZ.o.mono HB.o.size)))).mono ?_;rintro e w18 ⟨rfl,hb⟩;have eu:=AA (AL dZ.o hb);try go_wp2_with fail
   refine tn hK (AL aA hb) ?_;clear aA hK K;intro aA;refine tp 19 67 ?_;refine tp 20 4 ?_;refine dn ?_;clear aA;go_wp2_with fail;go_ret;exact⟨rfl,HB.o.trans (eu.o.mono HB.o.size)⟩
  ·skip;go_simp;have fz:=AW AC (by omega) (w5.alloc (.cells #[] 59)) 59 [E3 s] 1 #[.int .u8 3,.int .i64 0,.string s] rfl rfl (by decide);rw [World.size_alloc] at fz;have dV:=AA fz;clear fz;have d8:=AA (BB d8.o (.cells #[.int .u8 3,.int .i64 0,.string s] 59));refine tn hK (AQ aA _) ?_;clear aA hK K;intro aA;refine Jb 11 59 7 true fun K hK=>?_;have aL:=aA.size;refine Ce (by rfl) _ _ 25 (by rfl) W8.heap.size 59 _ 3 32 underlying25 BK rfl (by decide) AP AC AZ x.2 [] 0 _ d8.o _ m3 _ (by rfl) (by rfl) bs.o.len bs.o.nil (bs.o.below aA).row (by omega) (by omega) aL ?_;intro v2 w11 bw ai jd;have an:=AA bw;have dV:=AA (Ab ai (fun _ ad hp e=>by cases hp;have e':=Option.some.inj e;simp at e') dV.o);clear aL bw jd;refine tn hK (Below.own aA ai aA.size d8.o) ?_;clear aA hK K;intro aA;refine Jb 14 62 7 true fun K hK=>?_;have aL:=aA.size;refine Ce (by rfl) _ _ 25 (by rfl) W8.heap.size 59 _ 3 32 underlying25 BK rfl (by decide) AP AC AZ [E3 s] ([]++x.2) (0+m3) _ an.o _ 1 _ (by rfl) (by rfl) rfl (by intro h;cases h) dV.o.row (by omega) (by omega) aL ?_;intro v5 w14 aF fx je;obtain⟨q6,c6,cQ,fS⟩:=AI.isRow AC (by omega) aF;obtain⟨n6,gY⟩:∃n6,0+m3+1=n6:=⟨_,rfl⟩;rw [gY] at cQ fS;subst cQ;have cS:=AA fS;have bJ:=AA (Below.own aA fx aA.size an.o);clear aL aF je fS gY;refine tn hK (bJ.o) ?_;clear aA hK K;intro aA;refine Jb 15 63 7 true fun K hK=>?_;go_simp;go_at_call 25;refine(Dz lX.o (eU.o.below bJ.o) cS.o).mono ?_;rintro e w15 ⟨rfl,hb⟩;have dZ:=AA (AL bJ.o hb);try go_wp2_with fail
   refine tn hK (AL aA hb) ?_;clear aA hK K;intro aA;refine tp 16 64 ?_;refine tp 17 65 ?_;refine Jb 18 66 17 true fun K hK=>?_;go_simp;go_at_call 11;refine(CP (HV.o.below (HB.o.trans (dZ.o.mono HB.o.size)))).mono ?_;rintro e w18 ⟨rfl,hb⟩;have eu:=AA (AL dZ.o hb);try go_wp2_with fail
   refine tn hK (AL aA hb) ?_;clear aA hK K;intro aA;refine tp 19 67 ?_;refine tp 20 4 ?_;refine dn ?_;clear aA;go_wp2_with fail;go_ret;exact⟨rfl,HB.o.trans (eu.o.mono HB.o.size)⟩
 ·skip;go_simp;have fz:=AW AC (by omega) w5 59 [E3 s] 1 #[.int .u8 3,.int .i64 0,.string s] rfl rfl (by decide);have dV:=AA fz;clear fz;refine tn hK (AQ aA _) ?_;clear aA hK K;intro aA;refine Jb 9 57 7 true fun K hK=>?_;go_simp;have iq:=AI.lit AP (w5.alloc (.cells #[.int .u8 3,.int .i64 0,.string s] 59)) W8.heap.size 59 3 (by have:=aA.size;first|omega|(simp at this ⊢;omega));rw [World.size_alloc] at iq;have d8:=AA iq;clear iq;have dV:=AA (dV.o.alloc (.cells #[] 59));refine tn hK (AQ aA _) ?_;clear aA hK K;intro aA;refine Jb 11 59 7 true fun K hK=>?_;have aL:=aA.size;refine Ce (by rfl) _ _ 25 (by rfl) W8.heap.size 59 _ 3 32 underlying25 BK rfl (by decide) AP AC AZ x.2 [] 0 _ d8.o _ m3 _ (by rfl) (by rfl) bs.o.len bs.o.nil (bs.o.below aA).row (by omega) (by omega) aL ?_;intro v2 w11 bw ai jd;have an:=AA bw;have dV:=AA (Ab ai (fun _ ad hp e=>by cases hp;have e':=Option.some.inj e;simp at e') dV.o);clear aL bw jd;refine tn hK (Below.own aA ai aA.size d8.o) ?_;clear aA hK K;intro aA;refine Jb 14 62 7 true fun K hK=>?_;have aL:=aA.size;refine Ce (by rfl) _ _ 25 (by rfl) W8.heap.size 59 _ 3 32 underlying25 BK rfl (by decide) AP AC AZ [E3 s] ([]++x.2) (0+m3) _ an.o _ 1 _ (by rfl) (by rfl) rfl (by intro h;cases h) dV.o.row (by omega) (by omega) aL ?_;intro v5 w14 aF fx je;obtain⟨q6,c6,cQ,fS⟩:=AI.isRow AC (by omega) aF;obtain⟨n6,gY⟩:∃n6,0+m3+1=n6:=⟨_,rfl⟩;rw [gY] at cQ fS;subst cQ;have cS:=AA fS;have bJ:=AA (Below.own aA fx aA.size an.o);clear aL aF je fS gY;refine tn hK (bJ.o) ?_;clear aA hK K;intro aA;refine Jb 15 63 7 true fun K hK=>?_;go_simp;go_at_call 25;refine(Dz lX.o (eU.o.below bJ.o) cS.o).mono ?_;rintro e w15 ⟨rfl,hb⟩;have dZ:=AA (AL bJ.o hb);try go_wp2_with fail
  refine tn hK (AL aA hb) ?_;clear aA hK K;intro aA;refine tp 16 64 ?_;refine tp 17 65 ?_;refine Jb 18 66 17 true fun K hK=>?_;go_simp;go_at_call 11;refine(CP (HV.o.below (HB.o.trans (dZ.o.mono HB.o.size)))).mono ?_;rintro e w18 ⟨rfl,hb⟩;have eu:=AA (AL dZ.o hb);try go_wp2_with fail
  refine tn hK (AL aA hb) ?_;clear aA hK K;intro aA;refine tp 19 67 ?_;refine tp 20 4 ?_;refine dn ?_;clear aA;go_wp2_with fail;go_ret;exact⟨rfl,HB.o.trans (eu.o.mono HB.o.size)⟩
theorem SB{w:World}(hv:Vr w)(t:PA)(hl:LA.lies w t)(s:ByteArray)(hs:s.size≤9223372036854775807):Calls prog 7 #[An t.head,.string s] w (RB w (.bool true)):=by
 by_cases h:s.size≤100
 ·cases ha:AM (E3 s) with
  |false=>exact NO hv t hl s hs h ha
  |true=>
   cases hr:DL t with
   |error e=>obtain⟨z,no⟩:=e;exact R9 hv t hl s hs h ha hr
   |ok x=>exact T8 hv t hl s hs h ha hr
 ·exact QP hv t hl s hs (by omega)
def Ut:DataW Unit→List Value
 |.lit (.int k z)=>[.int k z]
 |_=>[]
def Vh:DataW Unit→List Value
 |.agg l=>l.flatMap Ut
 |d=>Ut d
def Uu:DataW Unit→List Value
 |.agg l=>l.flatMap Vh
 |_=>[]
def Vj(h:Array Obj)(g:Nat)(cs:Array Value):Array Obj:=h.modify g fun
 |.cells _ t frozen=>.cells cs t frozen
 |o=>o
noncomputable def laidW (os:Os):World:={ World.holding prog os ⟨#[],#[],[]⟩ with heap:=Vj (Vj (World.holding prog os ⟨#[],#[],[]⟩).heap 1 (Uu Rows.laid_unicode_utf8_first).toArray) 2 (Uu Rows.laid_unicode_utf8_acceptRanges).toArray }
end Go.Proofs.YtkdjnegfnhldpaaGreatDoor
