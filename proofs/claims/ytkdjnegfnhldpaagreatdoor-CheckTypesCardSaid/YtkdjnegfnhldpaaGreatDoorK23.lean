/- Part 23. -/
import Derived.Test.YtkdjnegfnhldpaaGreatDoorK22
set_option linter.unusedVariables false
set_option maxRecDepth 100000
set_option linter.unusedSimpArgs false
set_option maxHeartbeats 40000000
set_option autoImplicit true
set_option relaxedAutoImplicit true
namespace Go.Proofs.YtkdjnegfnhldpaaGreatDoor
open Go.Proofs.Tryz Go.RowKit
structure SmB(w:World)(s:PS)(x y:PY)(W:World):Prop where
 b0:W.heap[w.heap.size]?=some (.cells (cSa s) 96 (0,0))
 b1:W.heap[w.heap.size+1]?=some (.cells (cYa x) 45 (0,0))
 b2:W.heap[w.heap.size+1+1]?=some (.cells (cYa y) 45 (0,0))
 b3:∃p q r t,W.heap[w.heap.size+1+1+1]?=some (.cells #[p,q,r,t] 96 (0,0))
 below:Below w.heap.size w W
theorem SmB.step(h:SmB w s x y W)(hb:Below W.heap.size W W'):SmB w s x y W':=by obtain⟨p,q,r,t,e⟩:=h.b3;exact⟨(hb.block _ (Ab h.b0)).trans h.b0,(hb.block _ (Ab h.b1)).trans h.b1,(hb.block _ (Ab h.b2)).trans h.b2,⟨p,q,r,t,(hb.block _ (Ab e)).trans e⟩,h.below.trans (hb.mono h.below.size)⟩
theorem SmB.size(h:SmB w s x y W):w.heap.size+4<=W.heap.size:=by obtain⟨p,q,r,t,e⟩:=h.b3;have:=Ab e;omega
theorem ZCb(w0:World)(s:PS)(x y:PY):SmB w0 s x y ((((w0.alloc (.cells (cSa s) 96)).alloc (.cells (cYa x) 45)).alloc (.cells (cYa y) 45)).alloc (.cells #[.slice none 0 0,.slice none 0 0,.bool false,.int .i64 0] 96)):=by obtain⟨g1,g2⟩:=Et w0 (cSa s) (cYa x) 96 45;have h3:=AG ((w0.alloc (.cells (cSa s) 96)).alloc (.cells (cYa x) 45)) (.cells (cYa y) 45);rw [AN,AN] at h3;have h4:=AG (((w0.alloc (.cells (cSa s) 96)).alloc (.cells (cYa x) 45)).alloc (.cells (cYa y) 45)) (.cells #[.slice none 0 0,.slice none 0 0,.bool false,.int .i64 0] 96);rw [AN,AN,AN] at h4;have old:∀(V:World) (o:Obj) (k:Nat) (c:Obj),V.heap[k]?=some c->(V.alloc o).heap[k]?=some c:=fun V o k c h=>(AP V o k (Ab h)).trans h;exact⟨old _ _ _ _ (old _ _ _ _ g1),old _ _ _ _ (old _ _ _ _ g2),old _ _ _ _ h3,⟨_,_,_,_,h4⟩,(((bA.alloc (by simp) _).alloc (by simp<;>omega) _).alloc (by simp<;>omega) _)⟩
def ZBo(U:Nat->Prop)(w:World)(s:PS)(m:Nat)(r:SS)(e:Ending)(w':World):Prop:=∃s':PS,e=.returned (Lg s')/\s'.b.Lies (Ge U w) w'/\s'.er=r/\s'.b.ln<=s.b.ln+m/\Below w.heap.size w w'
theorem L9{U:Nat->Prop}{w0:World}{s:PS}{z:Int}{x y:PY}(hs:s.b.Lies U w0)(aW:Dh s.b.er)(hx:LY.lies U w0 x)(hy:LY.lies U w0 y)(hz:s.b.ln+(x.size+y.size)<=900000):Calls prog 77 #[Lg s,.int .i64 z,GL x.head,GL y.head] w0 (ZBo U w0 s (x.size+y.size) (s.er.same z x.er y.er)):=by
 have HN:=AF (ZCb w0 s x y);have qY:∀g,g<w0.heap.size->U g->(g<w0.heap.size/\U g):=fun g h1 h2=>⟨h1,h2⟩;have HL:=AF ((hs.mono (U':=fun g=>g<w0.heap.size/\U g) qY).keep (BD.of HN.o.below));have HX:=AF (LY.lies_keep (BD.of HN.o.below) _ (LY.lies_mono (U':=fun g=>g<w0.heap.size/\U g) qY _ hx));have HY:=AF (LY.lies_keep (BD.of HN.o.below) _ (LY.lies_mono (U':=fun g=>g<w0.heap.size/\U g) qY _ hy));have bP:=AF aW;have dB:=AF hs;clear hs aW hx hy qY;show Calls _ _ #[.agg (cSa s),.int .i64 z,GL x.head,GL y.head] w0 _;cases eT:s.bad with
 |true=>
  have iD:=AF eT;have HQ:Hd (s.er.same z x.er y.er=s.er):=by show _=_;unfold SS.same;rw [AJ (show s.er.bad=true from eT)]
  try rw [<-eT]
  clear eT;go_enter func77,ntmps77;go_upto_region 1 with fail;generalize ((((w0.alloc (.cells (cSa s) 96)).alloc (.cells (cYa x) 45)).alloc (.cells (cYa y) 45)).alloc (.cells #[.slice none 0 0,.slice none 0 0,.bool false,.int .i64 0] 96))=W at *
  have c2:W.cell? ⟨w0.heap.size,2,none⟩=some (.bool true):=by rw [AD HN.o.b0];exact congrArg (fun b:Bool=>some (Value.bool b)) iD.o
  obtain⟨p3,q3,r3,t3,bF⟩:=HN.o.b3;have aL:=AF bF;clear bF;go_upto_region 2 with fail;clear c2
  go_wp2_with (first
   |(refine lw HN.o.b0 underlying96 ?_)
   |(refine K7 aL.o ?_))
  refine br (AL _ _ _ _ _ _ aL.o) underlying96 ?_;have hg:=AU W (w0.heap.size+1+1+1) (cSa s);have bX:=HN.o.below.grown hg HN.o.below.size (fun g e=>by injection e with e;omega);exact⟨s,rfl,(dB.o.keep (BD.of bX)).mono (fun g _ h=>Ge.of g h),HQ.o.symm,Bn _ _,bX⟩
 |false=>
  have iD:=AF eT;obtain⟨r,hr⟩:∃r:Bool,(s.b.er.join [x.er,y.er]).2=r:=⟨_,rfl⟩;have cm:=AF hr;try rw [<-eT]
  clear eT hr;go_enter func77,ntmps77;go_upto_region 1 with fail;generalize ((((w0.alloc (.cells (cSa s) 96)).alloc (.cells (cYa x) 45)).alloc (.cells (cYa y) 45)).alloc (.cells #[.slice none 0 0,.slice none 0 0,.bool false,.int .i64 0] 96))=W at *
  have c2:W.cell? ⟨w0.heap.size,2,none⟩=some (.bool false):=by rw [AD HN.o.b0];exact congrArg (fun b:Bool=>some (Value.bool b)) iD.o
  go_upto_region 3 with fail;clear c2;have iJ:Below W.heap.size W (W.alloc (.cells #[.int .u8 x.head.kind,.int .i64 x.head.var,.slice x.head.kp x.head.kn x.head.kc,.int .u8 y.head.kind,.int .i64 y.head.var,.slice y.head.kp y.head.kn y.head.kc] 45)):=bA;have aI:=HN.o.size;have wK:=AF (VR (U:=fun g=>(g<w0.heap.size/\U g)\/w0.heap.size+4<=g) (LY.lies_mono (fun g _ h=>.inl h) _ HX.o) (LY.lies_mono (fun g _ h=>.inl h) _ HY.o) #[.int .u8 x.head.kind,.int .i64 x.head.var,.slice x.head.kp x.head.kn x.head.kc,.int .u8 y.head.kind,.int .i64 y.head.var,.slice y.head.kp y.head.kn y.head.kc] rfl W.heap.size rfl (.inr aI))
  have HJ:=AF (Qw (U:=fun g=>(g<w0.heap.size/\U g)\/w0.heap.size+4<=g) (b:=s.b) (l:=[x,y]) ((HL.o.mono (fun g _ h=>.inl h)).keep (BD.of iJ)) bP.o wK.o (fun t ht=>by
   simp only [AS,Al,BN] at ht;rcases ht with rfl|rfl
   ·exact LY.lies_keep (BD.of iJ) _ (LY.lies_mono (fun g _ h=>.inl h) _ HX.o)
   ·exact LY.lies_keep (BD.of iJ) _ (LY.lies_mono (fun g _ h=>.inl h) _ HY.o)) (by simpa using hz))
  have vz:=AF (HN.o.step iJ);have bz:Hd (w0.heap.size+4<=(W.alloc (.cells #[.int .u8 x.head.kind,.int .i64 x.head.var,.slice x.head.kp x.head.kn x.head.kc,.int .u8 y.head.kind,.int .i64 y.head.var,.slice y.head.kp y.head.kn y.head.kc] 45)).heap.size):=AM aI iJ.size;clear iJ aI
  go_upto_region 4 with(first
   |(refine VD (KF HN.o.b0) underlying94 ?_)
   |(refine lw HN.o.b1 underlying45 ?_)
   |(refine lw HN.o.b2 underlying45 ?_)
   |(go_at_call 106;refine HJ.o.mono ?_;rintro e w5 ⟨b',cN,bE,bG,a8,hb⟩;rw [show [x,y].map PY.er=[x.er,y.er] from rfl,cm.o] at cN;subst cN;have jt:=AF bE;have kD:=AF bG;have bo:=AF a8;have d8:=AF (vz.o.step hb);clear bE bG a8 hb)
   |(refine sn #[.slice b'.lp b'.ln b'.lc,.slice b'.vp b'.vn b'.vc] ?_))
  have dM:Below w5.heap.size w5 (w5.alloc (.cells (cBa b') 94)):=bA;have fP:=AF (C6 w5 (cBa b') 94 _ rfl);have cG:=AF (d8.o.step dM)
  have el:=AF ((jt.o.mono (U':=fun g=>(g<w0.heap.size/\U g)\/w0.heap.size+4<=g) (fun g hg h=>by
   by_cases aG:g<(W.alloc (.cells #[.int .u8 x.head.kind,.int .i64 x.head.var,.slice x.head.kp x.head.kn x.head.kc,.int .u8 y.head.kind,.int .i64 y.head.var,.slice y.head.kp y.head.kn y.head.kc] 45)).heap.size
   ·exact h aG
   ·exact .inr (by have:=bz.o;omega))).keep (BD.of dM))
  obtain⟨G4,oZ⟩:∃G4,w5.heap.size=G4:=⟨_,rfl⟩;have rq:w0.heap.size+4<=G4:=by have:=d8.o.size;omega
  rw [oZ] at fP ⊢;generalize w5.alloc (.cells (cBa b') 94)=W6 at *
  obtain⟨p3,q3,r3,t3,bF⟩:=cG.o.b3;have aL:=AF bF;clear oZ dM jt bF;have rX:Hd (w0.heap.size+4<=W6.heap.size):=cG.o.size;cases r with
  |true=>
   go_upto_region 8 with fail
   go_upto_region 9 with(first
    |(refine lw fP.o underlying94 ?_)
    |(refine UC (ZBb cG.o.b0) ?_))
   have fk:W6.grownBy (W6.setCells w0.heap.size 0 (cBl b')) (some w0.heap.size):=Du _ _ _ _;have ig:(W6.setCells w0.heap.size 0 (cBl b')).heap[w0.heap.size]?=some (.cells #[.slice b'.lp b'.ln b'.lc,.slice b'.vp b'.vn b'.vc,.bool s.bad,.int .i64 s.at_] 96 (0,0)):=Aw (o:=1) _ (Aw (o:=0) _ cG.o.b0);have ck:=AF ig;have aL:=AF ((fk.block _ (Ab aL.o) (fun e=>by injection e with e;omega)).trans aL.o);have az:=AF (cG.o.below.grown fk cG.o.below.size (fun g e=>by injection e with e;omega));have iT:=AF (el.o.keep (BD.grown fk (fun g e h=>by injection e with e;subst e;rcases h with⟨h,_⟩|h<;>omega)));clear fk ig cG el;generalize W6.setCells w0.heap.size 0 (cBl b')=W7 at *
   go_wp2_with (first
    |(refine lw ck.o underlying96 ?_)
    |(refine sw #[.slice b'.lp b'.ln b'.lc,.slice b'.vp b'.vn b'.vc,.bool s.bad,.int .i64 s.at_] aL.o ?_))
   refine br (AL _ _ _ _ _ _ aL.o) underlying96 ?_;have hg:=AU W7 (w0.heap.size+1+1+1) #[.slice b'.lp b'.ln b'.lc,.slice b'.vp b'.vn b'.vc,.bool s.bad,.int .i64 s.at_];have bX:=az.o.grown hg az.o.size (fun g e=>by injection e with e;omega);have di:=iT.o.mono (U':=fun g=>(g<w0.heap.size/\U g)\/w0.heap.size+4<=g) (fun _ _ h=>h);have di:=di.keep (BD.grown hg (fun g e h=>by injection e with e;subst e;rcases h with⟨h,_⟩|h<;>omega));refine⟨⟨b',s.bad,s.at_⟩,rfl,di.mono (fun g _ h hg=>?_),?_,?_,bX⟩
   ·rcases h with⟨_,h⟩|h
    ·exact h
    ·omega
   ·show (⟨b'.er,s.bad,s.at_⟩:SS)=_;unfold SS.same;rw [AC (show ¬s.er.bad=true from by rw [show s.er.bad=s.bad from rfl,iD.o];decide),AJ (show (s.er.b.join [x.er,y.er]).2=true from cm.o),kD.o];rfl
   ·have:=bo.o;simpa using this
  |false=>
   go_upto_region 5 with fail;have c2:W6.cell? ⟨w0.heap.size,2,none⟩=some (.bool s.bad):=by rw [AD cG.o.b0];rfl
   have f2:W6.frozen? ⟨w0.heap.size,2,none⟩=false:=by have:=cG.o.b0;simp [World.frozen?,this]
   go_upto_region 6 with fail;clear c2 f2;have fk:W6.grownBy (W6.setCell ⟨w0.heap.size,2,none⟩ (.bool true)) (some w0.heap.size):=Ar _ _ _ _;have ig:(W6.setCell ⟨w0.heap.size,2,none⟩ (.bool true)).heap[w0.heap.size]?=some (.cells #[.slice s.b.lp s.b.ln s.b.lc,.slice s.b.vp s.b.vn s.b.vc,.bool true,.int .i64 s.at_] 96 (0,0)):=Aw (o:=2) _ cG.o.b0;have ck:=AF ig;have aL:=AF ((fk.block _ (Ab aL.o) (fun e=>by injection e with e;omega)).trans aL.o);have az:=AF (cG.o.below.grown fk cG.o.below.size (fun g e=>by injection e with e;omega));clear fk ig cG el;generalize W6.setCell ⟨w0.heap.size,2,none⟩ (.bool true)=W7 at *
   have c3:W7.cell? ⟨w0.heap.size,3,none⟩=some (.int .i64 s.at_):=by rw [AD ck.o];rfl
   have f3:W7.frozen? ⟨w0.heap.size,3,none⟩=false:=by have:=ck.o;simp [World.frozen?,this]
   go_upto_region 7 with fail;clear c3 f3;have fk:W7.grownBy (W7.setCell ⟨w0.heap.size,3,none⟩ (.int .i64 z)) (some w0.heap.size):=Ar _ _ _ _;have ig:(W7.setCell ⟨w0.heap.size,3,none⟩ (.int .i64 z)).heap[w0.heap.size]?=some (.cells #[.slice s.b.lp s.b.ln s.b.lc,.slice s.b.vp s.b.vn s.b.vc,.bool true,.int .i64 z] 96 (0,0)):=Aw (o:=3) _ ck.o;have ck:=AF ig;have aL:=AF ((fk.block _ (Ab aL.o) (fun e=>by injection e with e;omega)).trans aL.o);have az:=AF (az.o.grown fk az.o.size (fun g e=>by injection e with e;omega));clear fk ig;generalize W7.setCell ⟨w0.heap.size,3,none⟩ (.int .i64 z)=W8 at *
   go_wp2_with (first
    |(refine lw ck.o underlying96 ?_)
    |(refine sw #[.slice s.b.lp s.b.ln s.b.lc,.slice s.b.vp s.b.vn s.b.vc,.bool true,.int .i64 z] aL.o ?_))
   refine br (AL _ _ _ _ _ _ aL.o) underlying96 ?_;have hg:=AU W8 (w0.heap.size+1+1+1) #[.slice s.b.lp s.b.ln s.b.lc,.slice s.b.vp s.b.vn s.b.vc,.bool true,.int .i64 z];have bX:=az.o.grown hg az.o.size (fun g e=>by injection e with e;omega);refine⟨⟨s.b,true,z⟩,rfl,(dB.o.keep (BD.of bX)).mono (fun g _ h=>Ge.of g h),?_,Bn _ _,bX⟩;show (⟨s.b.er,true,z⟩:SS)=_;unfold SS.same;rw [AC (show ¬s.er.bad=true from by rw [show s.er.bad=s.bad from rfl,iD.o];decide),AC (show ¬(s.er.b.join [x.er,y.er]).2=true from by rw [show (s.er.b.join [x.er,y.er]).2=false from cm.o];decide)];rfl
theorem ZC7(h:Gk Jf 4 U w p n c l)(hx:l[j]?=some x):∃b o,p=some ⟨b,o,none⟩/\b<w.heap.size/\w.cell? ⟨b,o+j * 4,none⟩=some (.string x.name)/\w.rangeAt b (o+j * 4+1) (cYl x.t):=by obtain⟨b,o,hp,hb,hc⟩:=h.elem hx;refine⟨b,o,hp,hb,by simpa using hc 0 _ rfl,fun i v hv=>?_⟩;rw [EV (o+j * 4) 1 i,Nat.add_comm 1 i];exact hc (i+1) v (by simpa [Jf] using hv)
theorem Qk(h:∀b∈env,b.name≠x):(FZ env).reverse.find? (fun b=>decide (b.1=x))=none:=by rw [Fc];intro b hb;rw [List.mem_reverse] at hb;obtain⟨c,hc,rfl⟩:=BI.1 hb;exact fun hq=>h c hc (of_decide_eq_true hq)
theorem ZAg(hj:env[j]?=some b)(hb:b.name=x)(h:∀b'∈env.drop (j+1),b'.name≠x):Lz (FZ env) x=b.t.er:=by
 have aG:=DI hj;have he:env=env.take j++b::env.drop (j+1):=by rw [AI aG] at hj;rw [<-A8 hj,<-A9 aG,BY]
 have h1:=Qk h
 have e2:(FZ env).reverse=(FZ (env.drop (j+1))).reverse++(b.er::(FZ (env.take j)).reverse):=by
  conv=>lhs;rw [he]
  unfold FZ;rw [Ah,AV,List.reverse_append,List.reverse_cons,Cf];rfl
 unfold Lz;rw [e2,List.find?_append,h1,Option.none_or,List.find?_cons];have e3:decide (b.er.1=x)=true:=CV (show b.er.1=x from hb);rw [e3];rfl
def ZBn(U:Nat->Prop)(w:World)(env:List PN)(x:ByteArray)(e:Ending)(w':World):Prop:=∃z:PY,e=.returned (GL z.head)/\LY.lies (Ge U w) w' z/\z.er=Lz (FZ env) x/\Below w.heap.size w w'
theorem Qy(he:Mu U w0 p n c env)(hn:n<=1000000):Calls prog 76 #[.slice p n c,.string x] w0 (ZBn U w0 env x):=by
 have sy:IntKind.i64.wrap ((n:Int)-1)=(n:Int)-1:=Bi _ (by omega);have ap:Below w0.heap.size w0 (w0.alloc (.cells cZy 45)):=bA;have qE:=AF he;have HE:=AF (he.keep (BD.of ap));have HB:=AF ap;have cQ:=AF (AG w0 (.cells cZy 45));clear he ap;go_enter func76,ntmps76;go_upto_region 1 with fail;generalize w0.alloc (.cells cZy 45)=W at *
 go_upto_region 2 with fail;go_loop [5] (fun i=>∃k:Nat,k<=n/\i=.int .i64 ((k:Int)-1)/\∀b∈env.drop k,b.name≠x) (fun i=>(intOf i+1).toNat)
 case atStart=>exact⟨n,AB _,rfl,fun b hb=>by rw [List.drop_of_length_le (by rw [HE.o.row.is.len];exact AB _)] at hb;cases hb⟩
 case round=>
  obtain⟨k,hk,rfl,bh⟩:=hrel;have HA:=AF bh;clear bh sy;cases k with
  |zero=>
   have ez:((0:Nat):Int)-1=-1:=rfl;rw [ez];go_upto_region 6 with fail
   go_wp2_with (first
    |(go_at_call 72;refine(EH _).mono ?_;rintro e w5 ⟨rfl,hb⟩;have du:=AF ((hb.block _ (Ab cQ.o)).trans cQ.o);have aw:=bt HB hb;clear hb)
    |(refine sw #[.int .u8 1,.int .i64 0,.slice none 0 0] du.o ?_))
   refine br (AL _ _ _ _ _ _ du.o) underlying45 ?_;have hg:=AU w5 w0.heap.size #[.int .u8 1,.int .i64 0,.slice none 0 0];have bX:=aw.o.grown hg aw.o.size (fun g e=>by injection e with e;omega);refine⟨Cz 1 0,rfl,Ep (by decide) ⟨by decide,by decide⟩,?_,bX⟩;have h:=Qk (env:=env) (x:=x) (by simpa using HA.o);unfold Lz;rw [h];rfl
  |succ j=>
   have ej:((j+1:Nat):Int)-1=(j:Int):=by omega
   rw [ej];clear ej;have sz:IntKind.i64.wrap ((j:Int)-1)=(j:Int)-1:=Bi _ (by omega);obtain⟨b,hb⟩:=Bh (l:=env) (j:=j) (by rw [HE.o.row.is.len];omega);obtain⟨g,o,rfl,aG,d0,vF⟩:=ZC7 HE.o.row hb;have HX:=AF hb;have iH:=AF vF;have qW:j<n:=by omega
   clear hb vF aG;by_cases hq:b.name=x
   ·have hb:(b.name.toList==x.toList)=true:=by rw [Ie];simpa using hq
    go_upto_region 5 with fail
    go_wp2_with (first
     |(refine VD iH.o underlying45 ?_)
     |(refine K7 cQ.o ?_))
    refine br (AL _ _ _ _ _ _ cQ.o) underlying45 ?_;have hg:=AU W w0.heap.size (cYa b.t);have bX:=HB.o.grown hg HB.o.size (fun g e=>by injection e with e;omega);exact⟨b.t,rfl,LY.lies_mono (fun g _ h=>Ge.of g h) _ (LY.lies_keep (BD.of bX) _ (qE.o.each b (AE HX.o))),(ZAg HX.o hq HA.o).symm,bX⟩
   ·have hb:(b.name.toList==x.toList)=false:=by rw [Ie];simpa using hq
    have HQ:=AF hq;clear hq;go_wp2_with fail;go_round
    case rel=>
     refine⟨j,by omega,rfl,fun b' ab=>?_⟩;rw [A9 (DI HX.o)] at ab;rcases AS.1 ab with h|h
     ·have e:=HX.o;rw [AI (DI HX.o)] at e;rw [h,A8 e];exact HQ.o
     ·exact HA.o b' h
    case measure=>(simp [intOf];try omega)
def Xc(U:Nat->Prop)(w:World)(n:Nat)(env:List PN)(x:PN)(e:Ending)(w':World):Prop:=∃(p':Option Addr) (c':Nat),e=.returned (.slice p' (n+1) c')/\Mu (Ge U w) w' p' (n+1) c' (env++[x])/\Below w.heap.size w w'
theorem RS(he:Mu U w p n c env)(hx:LY.lies U w x.t)(hr:Ax Jf 4 w' (some ⟨g,0,none⟩) (0+n+1) c' ([]++env++[x]))(hg:W.heap.size<=g)(hb:Below w.heap.size w W)(ab:Below W.heap.size W w'):Xc U w n env x (.returned (.slice (some ⟨g,0,none⟩) (0+n+1) c')) w':=by
 have bX:=hb.trans (ab.mono hb.size);have hs:=hb.size;rw [BP,A6] at hr;rw [BP];refine⟨_,_,rfl,⟨⟨hr,fun _ a e=>by cases e;exact Ge.new (show w.heap.size<=g by omega)⟩,fun y hy=>?_⟩,bX⟩;rcases Ac.1 hy with h|h
 ·exact LY.lies_mono (fun g _ h=>Ge.of g h) _ (LY.lies_keep (BD.of bX) _ (he.each y h))
 ·rw [AQ.1 h];exact LY.lies_mono (fun g _ h=>Ge.of g h) _ (LY.lies_keep (BD.of bX) _ hx)
theorem Ju(he:Mu U w p n c env)(x:PN)(hx:LY.lies U w x.t)(hn:n<=1000000):Calls prog 75 #[.slice p n c,.string x.name,GL x.t.head] w (Xc U w n env x):=by
 have HE:=AF he;have mP:=AF hx;have cg:=AF ((AA w.heap.size w).alloc (AB _) (.cells (cYa x.t) 45));have HX:Hd ((w.alloc (.cells (cYa x.t) 45)).heap[w.heap.size]?=some (.cells (cYa x.t) 45 (0,0))):=C6 _ _ _ _ rfl;have HR:=AF (he.row.is.below cg.o);clear he hx;show Calls _ _ #[.slice p n c,.string x.name,.agg (cYa x.t)] w _;go_enter func75,ntmps75;go_upto_region 1 with fail;generalize w.alloc (.cells (cYa x.t) 45)=W1 at *
 refine rg (fun W'=>Below W1.heap.size W1 W') (At W1) fun aA=>?_;refine tp 1 8 ?_;refine tp 3 10 ?_;refine LV 4 11 (fun W' aB=>BX ((aB.block _ (Ab HX.o)).trans HX.o)) underlying45 ?_;refine tp 5 12 ?_;refine A2 (rs:=[0,6]) (by kernel_rfl) (by simp) ?_;refine AY (o:=⟨some 7,_,_,_,_,none⟩) rfl (fun K hK=>?_) (AY (o:=⟨some 13,_,_,_,_,none⟩) rfl (fun K hK=>?_) Az)
 ·skip;go_simp;have fM:=A1.lit Jf W1.drew W1.heap.size 158 4 (by simp);have cH:=AF fM;clear fM;refine tn hK (Ay aA _) ?_;clear aA hK K;intro aA;refine A2 (rs:=[2,6]) (by kernel_rfl) (by simp) ?_;refine AY (o:=⟨some 9,_,_,_,_,none⟩) rfl (fun K hK=>?_) (AY (o:=⟨some 13,_,_,_,_,none⟩) rfl (fun K hK=>?_) Az)
  ·skip;have aI:=aA.size;refine CB (by rfl) _ _ 99 (by rfl) W1.heap.size 158 _ 4 56 underlying99 OR rfl (by decide) Jf Fa JW env [] 0 _ cH.o _ n _ (by rfl) (by rfl) HR.o.len HR.o.nil (HR.o.below aA).row (by omega) (by omega) aI ?_;intro v2 w2 aV aa fK;have af:=AF aV;clear aI aV fK;refine tn hK (Below.own aA aa aA.size cH.o) ?_;clear aA hK K;intro aA;refine tr 6 13 fun K hK=>?_;go_simp;have dT:=Bo Fa (by omega) w2 158 [x] 1 #[.string x.name,.int .u8 x.t.head.kind,.int .i64 x.t.head.var,.slice x.t.head.kp x.t.head.kn x.t.head.kc] rfl rfl (by decide);have bs:=AF dT;clear dT;have af:=AF (Cm af.o (.cells #[.string x.name,.int .u8 x.t.head.kind,.int .i64 x.t.head.var,.slice x.t.head.kp x.t.head.kn x.t.head.kc] 158));refine tn hK (Ay aA _) ?_;clear aA hK K;intro aA;refine tr 7 14 fun K hK=>?_;have aI:=aA.size;refine CB (by rfl) _ _ 99 (by rfl) W1.heap.size 158 _ 4 56 underlying99 OR rfl (by decide) Jf Fa JW [x] ([]++env) (0+n) _ af.o _ 1 _ (by rfl) (by rfl) rfl (by intro h;cases h) bs.o.row (by omega) (by omega) aI ?_;intro v5 w5 aE cO eW;have fE:=AF aE;have aw:=AF (Below.own aA cO aA.size af.o);clear aI aE eW;refine tn hK (aw.o) ?_;clear aA hK K;intro aA;refine tp 8 6 ?_;refine dn ?_;clear aA;obtain⟨g7,c7,cur7,ii,cr,_,_,_,_⟩:=Jr fE.o (by omega);subst ii;obtain⟨q6,c6,jm,eY⟩:=A1.isRow Fa (by omega) fE.o;cases jm;have gX:=AF eY;have fd:=AF cr;clear eY cr;go_wp2_with fail;go_ret;exact RS HE.o mP.o gX.o fd.o cg.o aw.o
  ·skip;go_simp;have dT:=Bo Fa (by omega) (W1.drew.alloc (.cells #[] 158)) 158 [x] 1 #[.string x.name,.int .u8 x.t.head.kind,.int .i64 x.t.head.var,.slice x.t.head.kp x.t.head.kn x.t.head.kc] rfl rfl (by decide);rw [AN] at dT;have bs:=AF dT;clear dT;have cH:=AF (Cm cH.o (.cells #[.string x.name,.int .u8 x.t.head.kind,.int .i64 x.t.head.var,.slice x.t.head.kp x.t.head.kn x.t.head.kc] 158));refine tn hK (Ay aA _) ?_;clear aA hK K;intro aA;refine tr 2 9 fun K hK=>?_;have aI:=aA.size;refine CB (by rfl) _ _ 99 (by rfl) W1.heap.size 158 _ 4 56 underlying99 OR rfl (by decide) Jf Fa JW env [] 0 _ cH.o _ n _ (by rfl) (by rfl) HR.o.len HR.o.nil (HR.o.below aA).row (by omega) (by omega) aI ?_;intro v2 w2 aV aa fK;have af:=AF aV;have bs:=AF (Ca aa (fun _ ad hp e=>by cases hp;have e':=A8 e;simp at e') bs.o);clear aI aV fK;refine tn hK (Below.own aA aa aA.size cH.o) ?_;clear aA hK K;intro aA;refine tr 7 14 fun K hK=>?_;have aI:=aA.size;refine CB (by rfl) _ _ 99 (by rfl) W1.heap.size 158 _ 4 56 underlying99 OR rfl (by decide) Jf Fa JW [x] ([]++env) (0+n) _ af.o _ 1 _ (by rfl) (by rfl) rfl (by intro h;cases h) bs.o.row (by omega) (by omega) aI ?_;intro v5 w5 aE cO eW;have fE:=AF aE;have aw:=AF (Below.own aA cO aA.size af.o);clear aI aE eW;refine tn hK (aw.o) ?_;clear aA hK K;intro aA;refine tp 8 6 ?_;refine dn ?_;clear aA;obtain⟨g7,c7,cur7,ii,cr,_,_,_,_⟩:=Jr fE.o (by omega);subst ii;obtain⟨q6,c6,jm,eY⟩:=A1.isRow Fa (by omega) fE.o;cases jm;have gX:=AF eY;have fd:=AF cr;clear eY cr;go_wp2_with fail;go_ret;exact RS HE.o mP.o gX.o fd.o cg.o aw.o
 ·skip;go_simp;have dT:=Bo Fa (by omega) W1.drew 158 [x] 1 #[.string x.name,.int .u8 x.t.head.kind,.int .i64 x.t.head.var,.slice x.t.head.kp x.t.head.kn x.t.head.kc] rfl rfl (by decide);have bs:=AF dT;clear dT;refine tn hK (Ay aA _) ?_;clear aA hK K;intro aA;refine tr 0 7 fun K hK=>?_;go_simp;have fM:=A1.lit Jf (W1.drew.alloc (.cells #[.string x.name,.int .u8 x.t.head.kind,.int .i64 x.t.head.var,.slice x.t.head.kp x.t.head.kn x.t.head.kc] 158)) W1.heap.size 158 4 (by simp);rw [AN] at fM;have cH:=AF fM;clear fM;have bs:=AF (bs.o.alloc (.cells #[] 158));refine tn hK (Ay aA _) ?_;clear aA hK K;intro aA;refine tr 2 9 fun K hK=>?_;have aI:=aA.size;refine CB (by rfl) _ _ 99 (by rfl) W1.heap.size 158 _ 4 56 underlying99 OR rfl (by decide) Jf Fa JW env [] 0 _ cH.o _ n _ (by rfl) (by rfl) HR.o.len HR.o.nil (HR.o.below aA).row (by omega) (by omega) aI ?_;intro v2 w2 aV aa fK;have af:=AF aV;have bs:=AF (Ca aa (fun _ ad hp e=>by cases hp;have e':=A8 e;simp at e') bs.o);clear aI aV fK;refine tn hK (Below.own aA aa aA.size cH.o) ?_;clear aA hK K;intro aA;refine tr 7 14 fun K hK=>?_;have aI:=aA.size;refine CB (by rfl) _ _ 99 (by rfl) W1.heap.size 158 _ 4 56 underlying99 OR rfl (by decide) Jf Fa JW [x] ([]++env) (0+n) _ af.o _ 1 _ (by rfl) (by rfl) rfl (by intro h;cases h) bs.o.row (by omega) (by omega) aI ?_;intro v5 w5 aE cO eW;have fE:=AF aE;have aw:=AF (Below.own aA cO aA.size af.o);clear aI aE eW;refine tn hK (aw.o) ?_;clear aA hK K;intro aA;refine tp 8 6 ?_;refine dn ?_;clear aA;obtain⟨g7,c7,cur7,ii,cr,_,_,_,_⟩:=Jr fE.o (by omega);subst ii;obtain⟨q6,c6,jm,eY⟩:=A1.isRow Fa (by omega) fE.o;cases jm;have gX:=AF eY;have fd:=AF cr;clear eY cr;go_wp2_with fail;go_ret;exact RS HE.o mP.o gX.o fd.o cg.o aw.o
theorem ZBO{a:OC}{l:List PY}{k:Nat}{x:PY}(hx:l[k]?=some x):x.size<(Ad.node a l:PY).size:=by have h:=KH hx;rw [Ad.size_node];omega
theorem ZAf(a:OC)(l:List PY):l.length<(Ad.node a l:PY).size:=by have h:=G9 l;rw [Ad.size_node];omega
theorem TY:(prog.info? 45).map (fun i=>(i.zero,i.size,i.bytes))=some (some (.agg cZy),3,40):=by kernel_rfl
def ZCg(w:World)(e:Ending)(w':World):Prop:=∃y:PY,e=.returned (GL y.head)/\Below w.heap.size w w'
structure GrS(w:World)(a:OC)(v:Value)(wr:World):Prop where
 b0:wr.heap[w.heap.size]?=some (.cells #[.int .u8 a.kind,.int .i64 a.var,.slice a.kp a.kn a.kc] 45 (0,0))
 b1:wr.heap[w.heap.size+1]?=some (.cells cZy 45 (0,0))
 b2:wr.heap[w.heap.size+1+1]?=some (.cells #[.int .u8 a.kind,.int .i64 0,v] 45 (0,0))
 below:Below w.heap.size w wr
theorem GrS.size(h:GrS w a v wr):w.heap.size+3<=wr.heap.size:=by have:=Ab h.b2;omega
theorem GrS.step(h:GrS w a v wr)(hb:Below (w.heap.size+3) wr w'):GrS w a v w':=⟨(hb.block _ (by omega)).trans h.b0,(hb.block _ (by omega)).trans h.b1,(hb.block _ (by omega)).trans h.b2,h.below.trans (hb.mono (by omega))⟩
structure GrI(w:World)(a:OC)(k:Nat)(ys:List PY)(v:Value)(wr:World):Prop where
 s:GrS w a v wr
 own:A1 LY.encT 3 wr (w.heap.size+3) 45 v k ys
theorem GrI.next(h:GrS w a v w9)(ho:A1 LY.encT 3 w9 (w.heap.size+3) 45 v' (k+1) (ys++[y])):GrI w a (k+1) (ys++[y]) v' (w9.setCell ⟨w.heap.size+1+1,2,none⟩ v'):=by have hg:w9.grownBy (w9.setCell ⟨w.heap.size+1+1,2,none⟩ v') (some (w.heap.size+1+1)):=Ar _ _ _ _;have hs:=h.size;refine⟨⟨(hg.block _ (Ab h.b0) (fun e=>by injection e with e;omega)).trans h.b0,(hg.block _ (Ab h.b1) (fun e=>by injection e with e;omega)).trans h.b1,Aw (o:=2) _ h.b2,h.below.grown hg (by omega) (fun j hj=>by injection hj with hj;omega)⟩,ho.other hg (fun b hb e=>?_)⟩;have:=(Aa ho b hb).1;injection e with e;omega
theorem In(t:PY):∀(U:Nat->Prop) (w0:World),LY.lies U w0 t->t.size<=1000000->Calls prog 80 #[GL t.head] w0 (ZCg w0):=by
 refine Ad.ind (P:=fun(t:PY)=>∀(U:Nat->Prop) (w0:World),LY.lies U w0 t->t.size<=1000000->Calls prog 80 #[GL t.head] w0 (ZCg w0)) (fun a l ih=>?_) t;intro U w0 hl hz;have dr:=AF ih;have HZ:=AF hz;have cj:=AF ((FY.lies_node _ _ _ _ _).1 hl);clear ih hz hl;have aU:Below w0.heap.size w0 ((w0.alloc (.cells #[.int .u8 a.kind,.int .i64 a.var,.slice a.kp a.kn a.kc] 45)).alloc (.cells cZy 45)):=bA.alloc (by simp) _;obtain⟨g1,g2⟩:=Et w0 #[.int .u8 a.kind,.int .i64 a.var,.slice a.kp a.kn a.kc] cZy 45 45;have HB:=AF aU;have cQ:=AF g1;have aQ:=AF g2;have bc:Hd (((w0.alloc (.cells #[.int .u8 a.kind,.int .i64 a.var,.slice a.kp a.kn a.kc] 45)).alloc (.cells cZy 45)).heap.size=w0.heap.size+1+1):=by show _=_;simp
 clear g1 g2 aU;obtain⟨kd,vr,kp,kn,kc⟩:=a;(try dsimp only at HB cQ aQ bc);show Calls _ _ #[.agg #[.int .u8 kd,.int .i64 vr,.slice kp kn kc]] w0 _;go_enter func80,ntmps80;go_upto_region 1 with fail;generalize (w0.alloc (.cells #[.int .u8 kd,.int .i64 vr,.slice kp kn kc] 45)).alloc (.cells cZy 45)=W at *
 have nA:=cQ.o;have c0:W.cell? ⟨w0.heap.size,0,none⟩=some (.int .u8 kd):=by rw [AD nA];rfl
 clear nA;by_cases h5:kd=5
 ·have e5:(kd==5)=true:=by simpa using h5
  clear h5;go_upto_region 2 with fail;clear c0 e5
  go_wp2_with (first
   |(go_at_call 72;refine(EH _).mono ?_;rintro e w5 ⟨rfl,hb⟩;have du:=AF ((hb.block _ (Ab aQ.o)).trans aQ.o);have aw:=bt HB hb;clear hb)
   |(refine sw #[.int .u8 1,.int .i64 0,.slice none 0 0] du.o ?_))
  refine br (AL _ _ _ _ _ _ du.o) underlying45 ?_;have hg:=AU w5 (w0.heap.size+1) #[.int .u8 1,.int .i64 0,.slice none 0 0];exact⟨Cz 1 0,rfl,aw.o.grown hg aw.o.size (fun g e=>by injection e with e;omega)⟩
 ·have e5:(kd==5)=false:=by simpa using h5
  clear h5;go_upto_region 3 with fail;clear e5;have bF:Below W.heap.size W (W.alloc (.cells #[.int .u8 kd,.int .i64 0,.slice none 0 0] 45)):=bA;have eQ:Hd (GrI w0 ⟨kd,vr,kp,kn,kc⟩ 0 [] (.slice none 0 0) (W.alloc (.cells #[.int .u8 kd,.int .i64 0,.slice none 0 0] 45))):=⟨⟨(bF.block _ (Ab cQ.o)).trans cQ.o,(bF.block _ (Ab aQ.o)).trans aQ.o,(by rw [<-bc.o];exact C6 _ _ _ _ rfl),HB.o.trans (bF.mono HB.o.size)⟩,A1.nil _ _ _ _ _⟩;clear bF
  go_upto_region 4 with(first
   |(refine sw #[.int .u8 kd,.int .i64 0,.slice none 0 0] (C6 _ _ _ _ (by rw [<-bc.o])) ?_;rw [LQ _ _ _ _ _ (by rw [<-bc.o])]))
  clear c0;have cT:=bc.o;rw [cT];clear cT;generalize W.alloc (.cells #[.int .u8 kd,.int .i64 0,.slice none 0 0] 45)=W1 at *
  have nA:=eQ.o.s.b0;have c2:W1.cell? ⟨w0.heap.size,2,none⟩=some (.slice kp kn kc):=by rw [AD nA];rfl
  clear nA;go_upto_region 5 with fail;clear c2;go_loopw [15] (fun i wr=>∃(k:Nat) (q:Option Addr) (c:Nat) (ys:List PY),k<=kn/\i=.int .i64 k/\GrI w0 ⟨kd,vr,kp,kn,kc⟩ k ys (.slice q k c) wr) (fun i _=>kn-(intOf i).toNat)
  case atStart=>exact⟨0,_,_,_,BM _,rfl,eQ.o⟩
  case round=>
   obtain⟨k,q,c,ys,hk,rfl,hi⟩:=hrel;have HI:=AF hi;clear hi;by_cases aG:k<kn
   ·obtain⟨x,hx⟩:=cj.o.2.1.at (j:=k) aG;obtain⟨g,o,hp,bN,d0,d1,d2⟩:=Td cj.o.2.1 hx;have hp:kp=some ⟨g,o,none⟩:=hp;subst hp;have HX:=AF hx;have fS:=AF (cj.o.2.2 x (AE hx))
    have fx:Hd (∀V,Below (w0.heap.size+3) wr V->V.rangeAt g (o+k * 3) (cYl x)):=by
     show ∀V,_;intro V hb i u hu;have hb:=HI.o.s.below.trans (hb.mono (show w0.heap.size<=w0.heap.size+3 by omega));match i,hu with
     |0,hu=>rw [Bd,hb.cell (show g<w0.heap.size from bN),d0];exact hu
     |1,hu=>rw [hb.cell (show g<w0.heap.size from bN),d1];exact hu
     |2,hu=>rw [hb.cell (show g<w0.heap.size from bN),d2];exact hu
    have mu:kn<=1000000:=by have h1:=HZ.o;have h4:=ZAf (OC.mk kd vr (some ⟨g,o,none⟩) kn kc) l;have h5:l.length=kn:=cj.o.2.1.is.len;omega
    have j7:=HI.o.s.size;have et:=AF j7;clear hx bN d0 d1 d2 j7;go_upto_region 7 with fail;refine uR (fun W'=>Below (w0.heap.size+3) wr W') 11 ((At wr).mono et.o) fun aA=>?_;refine up 0 18 ?_;refine up 1 19 ?_ (hy:=fun w aB=>by(try dsimp only at aB);have hq:=(HI.o.s.step aB).b2;have c1:w.cell? ⟨w0.heap.size+1+1,2,none⟩=some (.slice q k c):=(by rw [AD hq];rfl);go_simp;try with_reducible rfl);refine up 2 20 ?_;refine up 3 21 ?_ (hy:=fun w aB=>by(try dsimp only at aB);have hq:=(HI.o.s.step aB).b0;have c2:w.cell? ⟨w0.heap.size,2,none⟩=some (.slice (some ⟨g,o,none⟩) kn kc):=(by rw [AD hq];rfl);go_simp;try with_reducible rfl);refine up 4 22 ?_;refine up 5 23 ?_;refine KW 6 24 (fun W' aB=>fx.o W' aB) underlying45 ?_;refine ur 7 fun K hK=>?_;go_simp;go_at_call 80;refine(dr.o x (AE HX.o) U _ (LY.lies_keep (BD.of (HI.o.s.below.trans (aA.mono (by omega)))) _ fS.o) (by have h1:=HZ.o;have h3:=ZBO (a:=OC.mk kd vr (some ⟨g,o,none⟩) kn kc) HX.o;omega)).mono ?_;rintro e w7 ⟨y,rfl,hb⟩;have az:=AF (An (At wr) hb);clear hb;try go_wp2_with fail
    refine un hK (az.o.mono et.o) ?_;clear aA hK K;intro aA;refine ur 8 fun K hK=>?_;go_simp;have bS:=AF (Bo IG (by omega) w7 45 [y] 1 (cYa y) rfl rfl (by decide));have mJ:=AF (Cm (HI.o.own.below az.o) (.cells (cYa y) 45));have fa:=AF (Ay az.o (.cells (cYa y) 45));refine un hK (fa.o.mono et.o) ?_;clear aA hK K;intro aA;refine ur 9 fun K hK=>?_;have aI:w0.heap.size+3<=(w7.alloc (.cells (cYa y) 45)).heap.size:=AM et.o fa.o.size;refine CB (by rfl) _ _ 43 (by rfl) (w0.heap.size+3) 45 _ 3 40 underlying43 TY rfl (by decide) LY.encT IG XZ [y] ys k _ mJ.o _ 1 _ (by rfl) (by rfl) rfl (by intro h;cases h) bS.o.row (by omega) (by omega) aI ?_;intro v9 w9 dH gD jZ;obtain⟨q9,c9,po,_⟩:=A1.isRow IG (by omega) dH;subst po;have fu:=AF dH;have ba:=AF (Below.own aA gD aI mJ.o);clear aI dH gD jZ;refine un hK (ba.o) ?_;clear aA hK K;intro aA;refine up 10 28 ?_;refine ul fun K hK=>?_;have dA:=(HI.o.s.step ba.o).b2;have c1:w9.cell? ⟨w0.heap.size+1+1,2,none⟩=some (.slice q k c):=by rw [AD dA];rfl
    have dP:w9.frozen? ⟨w0.heap.size+1+1,2,none⟩=false:=by simp [World.frozen?,dA]
    clear dA;go_simp;clear c1 dP;refine uz hK ?_;clear aA hK K;refine uD ?_;have jH:=AF (GrI.next (HI.o.s.step ba.o) fu.o);clear fu ba mJ fa;generalize w9.setCell ⟨w0.heap.size+1+1,2,none⟩ (.slice q9 (k+1) c9)=W9 at *
    go_wp2_with fail;go_roundw
    case rel=>exact⟨k+1,q9,c9,_,by omega,by go_num,jH.o⟩
    case measure=>simp [intOf];omega
   ·have ai:k=kn:=by omega
    have dJ:=AF ai;clear ai;go_upto_region 9 with fail
    go_wp2_with (first
     |(refine lw HI.o.s.b2 underlying45 ?_)
     |(refine sw #[.int .u8 kd,.int .i64 0,.slice q k c] HI.o.s.b1 ?_))
    (try simp only [Exit.inBlock,Exit.then]);refine br (AL _ _ _ _ _ _ HI.o.s.b1) underlying45 ?_;have hg:=AU wr (w0.heap.size+1) #[.int .u8 kd,.int .i64 0,.slice q k c];exact⟨.node ⟨kd,0,q,k,c⟩ [],rfl,HI.o.s.below.grown hg HI.o.s.below.size (fun g e=>by injection e with e;omega)⟩
def Zn(w:World)(n:Nat)(l:List ByteArray)(e:Ending)(w':World):Prop:=∃(p':Option Addr) (c':Nat),e=.returned (.slice p' n c')/\Ax Ib 1 w' p' n c' l/\Below w.heap.size w w'
theorem GG(hr:Ax Ib 1 w p n c l)(hn:n<=1000000):Calls prog 104 #[.slice p n c,.string x] w (Zn w (n+1) (l++[x])):=by
 have aJ:=hr.len;have cg:=AF ((AA w.heap.size w).alloc (AB _) (.cells #[] 9));have cH:=AF (A1.lit Ib w w.heap.size 9 1 (AB _));have bR:=AF (hr.below cg.o);clear hr;go_enter func104,ntmps104
 go_wp2_with (first
  |(at_builtin;refine DS rfl _ _ 72 rfl w.heap.size 9 _ 1 16 underlying72 ZCo rfl (by decide) Ib Hh Uq [x] ([]++l) (0+n) _ fF.o _ 1 _ rfl rfl rfl (by intro h;cases h) gX.o.row (by omega) (by omega) dW.o.size ?_;intro v7 w7 eX dR sN;have kI:=AF eX;have az:=AF (Below.own dW.o dR dW.o.size fF.o);clear eX dR sN)
  |(at_builtin;refine DS rfl _ _ 72 rfl w.heap.size 9 _ 1 16 underlying72 ZCo rfl (by decide) Ib Hh Uq l [] 0 _ cH.o _ n _ rfl rfl aJ bR.o.nil bR.o.row (by omega) (by omega) cg.o.size ?_;intro v5 w5 aE cO eW;have aw:=AF (Below.own cg.o cO cg.o.size cH.o);have gX:=AF (Bo Hh (by omega) w5 9 [x] 1 #[.string x] rfl rfl (by decide));have fF:=AF (Cm aE (.cells #[.string x] 9));have dW:=AF (Ay aw.o (.cells #[.string x] 9));clear aE cO eW))
 obtain⟨q9,c9,po,lY⟩:=A1.isRow Hh (by omega) kI.o;subst po;have mL:=AF lY;clear lY;go_ret;have h:=mL.o;rw [BP,A6] at h;rw [BP];exact⟨q9,c9,rfl,h,az.o⟩
def ZV(w:World)(n:Nat)(l:List ByteArray)(e:Ending)(w':World):Prop:=∃(p':Option Addr) (n' c':Nat),e=.returned (.slice p' n' c')/\Ax Ib 1 w' p' n' c' l/\n'<=n+2/\Below w.heap.size w w'
theorem Zn.bound(h:Zn W m l e W')(hb:Below w.heap.size w W)(hl:l=l')(hm:m<=n+2):ZV w n l' e W':=by obtain⟨p',c',he,hr,ab⟩:=h;exact⟨p',m,c',he,hl▸hr,hm,hb.trans (ab.mono hb.size)⟩
theorem LM(a:Ma)(i:Nat)(hr:Ax Ib 1 w p n c l)(hn:n<=900000):Calls prog 71 #[.slice p n c,Mb a,.int .i64 (i:Int)] w (ZV w n (Gn l a.hd i)):=by
 have ap:Below w.heap.size w (w.alloc (.cells (cTa a) 53)):=bA;have qe:=AG w (.cells (cTa a) 53);have HB:=AF ap;have HX:=AF qe;have HR:=AF (hr.below ap);clear hr ap qe;obtain⟨⟨kd,op,at_,nn,nm,ar,ex⟩,kp,kn,kc⟩:=a;(try dsimp only at HB HX HR);go_enter func71,ntmps71;go_upto_region 1 with fail;generalize w.alloc (.cells #[.int .u8 kd,.int .u8 op,.int .i64 at_,.int .i64 nn,.string nm,.string ar,.string ex,.slice kp kn kc] 53)=W at *
 have hx:=HX.o;have c0:W.cell? ⟨w.heap.size,0,none⟩=some (.int .u8 kd):=by rw [AD hx];rfl
 have c4:W.cell? ⟨w.heap.size,4,none⟩=some (.string nm):=by rw [AD hx];rfl
 have c5:W.cell? ⟨w.heap.size,5,none⟩=some (.string ar):=by rw [AD hx];rfl
 clear hx
 have qU:(((i:Int)==1)=true/\i=1)\/(((i:Int)==1)=false/\i≠1):=by
  by_cases h:i=1
  ·exact .inl ⟨by subst h;rfl,h⟩
  ·exact .inr ⟨by simp;omega,h⟩
 by_cases cR:kd=11
 ·subst cR;go_upto_region 2 with fail;go_wp2_with (go_at_call 104;refine(GG HR.o (by omega)).mono ?_;rintro e w5 hw;have HW:=AF hw;obtain⟨p5,c5',rfl,eL,fg⟩:=hw;clear eL fg);go_ret;exact HW.o.bound HB.o (by simp [Gn]) (by omega)
 by_cases eS:kd=16
 ·subst eS;rcases qU with⟨b1,e1⟩|⟨b1,e1⟩
  ·have E1:=AF e1;clear cR e1;go_upto_region 2 with fail;go_wp2_with (go_at_call 104;refine(GG HR.o (by omega)).mono ?_;rintro e w5 hw;have HW:=AF hw;obtain⟨p5,c5',rfl,eL,fg⟩:=hw;clear eL fg);go_ret;exact HW.o.bound HB.o (by simp [Gn,E1.out]) (by omega)
  ·have E1:=AF e1;clear cR e1;go_wp2_with fail;go_ret;exact⟨p,n,c,rfl,(by have h:=HR.o;simpa [Gn,E1.out] using h),by omega,HB.o⟩
 by_cases eH:kd=12
 ·subst eH;rcases qU with⟨b1,e1⟩|⟨b1,e1⟩
  ·have E1:=AF e1;clear cR eS e1;go_upto_region 4 with fail;go_wp2_with (go_at_call 104;refine(GG HR.o (by omega)).mono ?_;rintro e w5 hw;have HW:=AF hw;obtain⟨p5,c5',rfl,eL,fg⟩:=hw;clear eL fg);go_ret;exact HW.o.bound HB.o (by simp [Gn,E1.out]) (by omega)
  ·have E1:=AF e1;clear cR eS e1;go_wp2_with fail;go_ret;exact⟨p,n,c,rfl,(by have h:=HR.o;simpa [Gn,E1.out] using h),by omega,HB.o⟩
 by_cases bf:kd=13
 ·subst bf;rcases qU with⟨b1,e1⟩|⟨b1,e1⟩
  ·have E1:=AF e1;clear cR eS eH e1;go_upto_region 4 with fail;go_wp2_with (go_at_call 104;refine(GG HR.o (by omega)).mono ?_;rintro e w5 hw;have HW:=AF hw;obtain⟨p5,c5',rfl,eL,fg⟩:=hw;clear eL fg);go_ret;exact HW.o.bound HB.o (by simp [Gn,E1.out]) (by omega)
  ·have E1:=AF e1;clear cR eS eH e1;go_upto_region 6 with fail;have mD:Hd (w.heap.size<W.heap.size):=Ab HX.o;clear c0 c4 c5;refine rg (fun W'=>Below W.heap.size W W') (At W) fun aA=>?_;refine tk (i:=0) (oi:=⟨some 49,_,_,_,_,none⟩) (v:=?_) rfl (Or.inl ⟨by rfl,?_⟩) ?_;rotate_left
   ·intro w_ aB;(try dsimp only at aB);go_simp;try with_reducible rfl
   try simp only [Act.put,zA,zB,zC]
   refine tk (i:=1) (oi:=⟨some 50,_,_,_,_,none⟩) (v:=?_) rfl (Or.inl ⟨by rfl,?_⟩) ?_;rotate_left
   ·intro w_ aB;(try dsimp only at aB);go_simp;try with_reducible rfl
   try simp only [Act.put,zA,zB,zC]
   refine tk (i:=2) (oi:=⟨some 51,_,_,_,_,none⟩) (v:=?_) rfl (Or.inl ⟨by rfl,?_⟩) ?_;rotate_left
   ·intro w_ aB;(try dsimp only at aB);go_simp;try with_reducible rfl
   try simp only [Act.put,zA,zB,zC]
   refine tk (i:=3) (oi:=⟨some 52,_,_,_,_,none⟩) (v:=?_) rfl (Or.inl ⟨by rfl,?_⟩) ?_;rotate_left
   ·intro w_ aB;(try dsimp only at aB);have q4:w_.cell? ⟨w.heap.size,4,none⟩=some (.string nm):=(by rw [AD ((aB.block _ mD.o).trans HX.o)];rfl);go_simp;try with_reducible rfl
   try simp only [Act.put,zA,zB,zC]
   refine tk (i:=5) (oi:=⟨some 54,_,_,_,_,none⟩) (v:=?_) rfl (Or.inl ⟨by rfl,?_⟩) ?_;rotate_left
   ·intro w_ aB;(try dsimp only at aB);go_simp;try with_reducible rfl
   try simp only [Act.put,zA,zB,zC]
   refine tk (i:=6) (oi:=⟨some 55,_,_,_,_,none⟩) (v:=?_) rfl (Or.inl ⟨by rfl,?_⟩) ?_;rotate_left
   ·intro w_ aB;(try dsimp only at aB);go_simp;try with_reducible rfl
   try simp only [Act.put,zA,zB,zC]
   refine tk (i:=7) (oi:=⟨some 56,_,_,_,_,none⟩) (v:=?_) rfl (Or.inl ⟨by rfl,?_⟩) ?_;rotate_left
   ·intro w_ aB;(try dsimp only at aB);have q5:w_.cell? ⟨w.heap.size,5,none⟩=some (.string ar):=(by rw [AD ((aB.block _ mD.o).trans HX.o)];rfl);go_simp;try with_reducible rfl
   try simp only [Act.put,zA,zB,zC]
   refine tr 4 53 fun K hK=>?_;go_simp;go_at_call 104;skip;refine(GG (HR.o.below aA) (by omega)).mono ?_;rintro e w5 ⟨p5,c5',rfl,eL,fg⟩;have bR:=AF eL;have aw:=AF (An aA fg);clear eL fg;try go_wp2_with fail
   refine tn hK (aw.o) ?_;clear aA hK K;intro aA;refine tr 8 57 fun K hK=>?_;go_simp;go_at_call 104;refine(GG bR.o (by omega)).mono ?_;rintro e w7 hw;have HW:=AF hw;obtain⟨p7,c7,rfl,iA,ee⟩:=hw;have az:=AF (An aA ee);clear iA ee;try go_wp2_with fail
   refine tn hK (az.o) ?_;clear aA hK K;intro aA;refine tk (i:=9) (oi:=⟨some 6,_,_,_,_,none⟩) (v:=?_) rfl (Or.inl ⟨by rfl,?_⟩) ?_;rotate_left
   ·intro w_ aB;(try dsimp only at aB);go_simp;try with_reducible rfl
   try simp only [Act.put,zA,zB,zC]
   refine dn ?_;clear aA;go_wp2_with fail;go_ret;exact HW.o.bound (HB.o.trans (aw.o.mono HB.o.size)) (by simp [Gn,E1.out]) (by omega)
 have k11:(kd==11)=false:=by simpa using cR
 have k16:(kd==16)=false:=by simpa using eS
 have k12:(kd==12)=false:=by simpa using eH
 have k13:(kd==13)=false:=by simpa using bf
 have HK:=AF (Di cR (Di eH (Di bf eS)));clear cR eS eH bf qU;go_wp2_with fail;go_ret;obtain⟨cR,eH,bf,eS⟩:=HK.o;exact⟨p,n,c,rfl,(by have h:=HR.o;simpa [Gn,cR,eH,bf,eS] using h),by omega,HB.o⟩
theorem Va(h:x∈l):x.size<(Ad.node a l:Ga).size:=by
 rw [Ad.size_node];have h1:x.size∈l.map Ad.size:=Au h
 have:∀{l:List Nat} {x:Nat},x∈l->x<=l.sum:=by
  intro l x hx;induction l with
  |nil=>cases hx
  |cons y l ih=>
   rw [A0];rcases AS.1 hx with rfl|hx
   ·omega
   ·have:=ih hx;omega
 have:=this h1;omega
theorem OX(a:Ma):∀l:List Ga,l.length<(Ad.node a l:Ga).size:=fun l=>by
 have:∀l:List Ga,l.length<=(l.map Ad.size).sum:=by
  intro l;induction l with
  |nil=>simp
  |cons t l ih=>have:=Ad.size_pos t;simp only [Aq,AV,A0];omega
 have:=this l;rw [Ad.size_node];omega
def ZBl(w:World)(e:Ending)(w':World):Prop:=e=.returned (.tuple #[.int .i64 0,.bool false])/\Below w.heap.size w w'
structure FrI(w:World)(a:Ma)(wr:World):Prop where
 b0:wr.heap[w.heap.size]?=some (.cells (cTa a) 53 (0,0))
 below:Below w.heap.size w wr
theorem FrI.step(h:FrI w a wr)(hb:Below wr.heap.size wr w'):FrI w a w':=⟨(hb.block _ (Ab h.b0)).trans h.b0,h.below.trans (hb.mono h.below.size)⟩
def Za(t:Ga):Prop:=∀(U:Nat->Prop) (w0:World) (p:Option Addr) (n c:Nat) (l:List ByteArray),KJ.lies U w0 t->Ax Ib 1 w0 p n c l->n+2 * t.size<=800000->LJ l (Ga.er t)=none ->
 Calls prog 44 #[Mb t.head,.slice p n c] w0 (ZBl w0)
theorem Qx(t:Ga):Za t:=by
 refine Ad.ind (P:=fun(t:Ga)=>Za t) (fun a ks ih=>?_) t;intro U w0 p n c l hl hr hz hf;have ap:Below w0.heap.size w0 (w0.alloc (.cells (cTa a) 53)):=bA;have HB:=AF ap;have HX:=AF (AG w0 (.cells (cTa a) 53));have HR:=AF (hr.below ap);have gl:=AF hr;have dr:=AF ih;have HZ:=AF hz;have cj:=AF ((FY.lies_node _ _ _ _ _).1 hl);rw [Ga.er_node,QX] at hf;obtain⟨⟨kd,op,at_,nn,nm,ar,ex⟩,kp,kn,kc⟩:=a;(try dsimp only at HB HX HR hf);clear ih hl hr hz ap;show Calls _ _ #[.agg #[.int .u8 kd,.int .u8 op,.int .i64 at_,.int .i64 nn,.string nm,.string ar,.string ex,.slice kp kn kc],.slice p n c] w0 _;go_enter func44,ntmps44;go_upto_region 1 with fail;generalize w0.alloc (.cells #[.int .u8 kd,.int .u8 op,.int .i64 at_,.int .i64 nn,.string nm,.string ar,.string ex,.slice kp kn kc] 53)=W at *
 have c0:W.cell? ⟨w0.heap.size,0,none⟩=some (.int .u8 kd):=by rw [AD HX.o];rfl
 have c4:W.cell? ⟨w0.heap.size,4,none⟩=some (.string nm):=by rw [AD HX.o];rfl
 by_cases h2:kd=2
 ·have e2:(kd==2)=true:=by simpa using h2
  have dG:l.any (fun y=>decide (y=nm))=true:=by
   cases hq:l.any (fun y=>decide (y=nm)) with
   |true=>rfl
   |false=>rw [AJ ⟨h2,hq⟩] at hf;cases hf
  rw [AC (fun h=>by rw [dG] at h;cases h.2)] at hf;have rA:Hd (Jh l (By.mk kd op at_ nn nm ar ex) 0 ((ks.drop 0).map Ga.er)=none):=hf;have vv:=AF dG;clear h2 dG hf;go_upto_region 3 with(go_at_call 70;refine(VM HR.o nm).mono ?_;rintro e w3 ⟨rfl,rfl⟩;rw [vv.o])
  clear c4 e2;have c7:W.cell? ⟨w0.heap.size,7,none⟩=some (.slice kp kn kc):=by rw [AD HX.o];rfl
  go_upto_region 4 with fail;clear c0 c7;go_loopw [27] (fun i wr=>∃k:Nat,k<=kn/\i=.int .i64 k/\FrI w0 ⟨(By.mk kd op at_ nn nm ar ex),kp,kn,kc⟩ wr/\Jh l (By.mk kd op at_ nn nm ar ex) k ((ks.drop k).map Ga.er)=none) (fun i _=>kn-(intOf i).toNat)
  case atStart=>exact⟨0,BM _,rfl,⟨HX.o,HB.o⟩,rA.o⟩
  case round=>
   obtain⟨k,hk,rfl,hi,hf⟩:=hrel;have HI:=AF hi;clear hi;have mu:kn<=1000000:=by have h1:=HZ.o;have h4:=OX ⟨(By.mk kd op at_ nn nm ar ex),kp,kn,kc⟩ ks;have h5:ks.length=kn:=cj.o.2.1.is.len;omega
   by_cases aG:k<kn
   ·obtain⟨x,hx⟩:=cj.o.2.1.at (j:=k) aG;have ov:ks.drop k=x::ks.drop (k+1):=by rw [A9 (DI hx)];rw [AI (DI hx)] at hx;rw [A8 hx]
    rw [ov,AV,M7] at hf
    have mr:LJ (Gn l (By.mk kd op at_ nn nm ar ex) k) (Ga.er x)=none:=by
     cases hq:LJ (Gn l (By.mk kd op at_ nn nm ar ex) k) (Ga.er x) with
     |none=>rfl
     |some z=>rw [hq] at hf;cases hf
    rw [mr] at hf;have ik:=AF mr;have ll:Hd (Jh l (By.mk kd op at_ nn nm ar ex) (k+1) ((ks.drop (k+1)).map Ga.er)=none):=hf;obtain⟨g,o,hp,bN,_⟩:=cj.o.2.1.elem hx;have hp:kp=some ⟨g,o,none⟩:=hp;subst hp;have cQ:=AF hx;have fS:=AF (cj.o.2.2 x (AE hx));have fx:Hd (∀V,Below wr.heap.size wr V->V.rangeAt g (o+k * 8) (cTl x.head)):=by show ∀V,_;intro V hb;obtain⟨b',o',ek,_,ga⟩:=(cj.o.2.1.keep (BD.of (HI.o.step hb).below)).elem cQ.o;cases ek;exact ga
    clear hx bN mr hf ov;go_upto_region 6 with fail;refine rg (fun W'=>Below wr.heap.size wr W') (At wr) fun aA=>?_;refine tp 0 31 ?_;refine tp 1 32 ?_ (hy:=fun w aB=>by(try dsimp only at aB);have c7:w.cell? ⟨w0.heap.size,7,none⟩=some (.slice (some ⟨g,o,none⟩) kn kc):=(by rw [AD (HI.o.step aB).b0];rfl);go_simp;try with_reducible rfl);refine tp 2 33 ?_;refine tp 3 34 ?_;refine LV 4 35 (fun W' aB=>fx.o W' aB) underlying53 ?_;refine tp 5 36 ?_;refine LV 6 37 (fun W' aB=>BX (HI.o.step aB).b0) underlying53 ?_;refine tp 7 38 ?_;refine tr 8 39 fun K hK=>?_;go_simp;go_at_call 71;refine(LM ⟨(By.mk kd op at_ nn nm ar ex),some ⟨g,o,none⟩,kn,kc⟩ k (gl.o.below (HI.o.step aA).below) (by have h1:=HZ.o;omega)).mono ?_;rintro e w7 ⟨p7,n7,c7,rfl,iA,lQ,ee⟩;have kK:=AF iA;have fq:=AF lQ;have az:=AF (An aA ee);clear iA lQ ee;try go_wp2_with fail
    refine tn hK (az.o) ?_;clear aA hK K;intro aA;refine tr 9 40 fun K hK=>?_;go_simp;go_at_call 44;refine(dr.o x (AE cQ.o) U _ p7 n7 c7 _ (KJ.lies_keep (BD.of (HI.o.step az.o).below) _ fS.o) kK.o (by have h1:=HZ.o;have h2:=fq.o;have h3:=Va (a:=⟨(By.mk kd op at_ nn nm ar ex),some ⟨g,o,none⟩,kn,kc⟩) (AE cQ.o);omega) ik.o).mono ?_;rintro e w8 ⟨rfl,fi⟩;have fa:=AF (An aA fi);clear fi;try go_wp2_with fail
    refine tn hK (fa.o) ?_;clear aA hK K;intro aA;refine tp 10 30 ?_;refine tp 11 41 ?_;refine tp 12 42 ?_;refine tp 13 7 ?_;refine tp 14 8 ?_;refine dn ?_;clear aA;go_wp2_with fail;go_roundw
    case rel=>exact⟨k+1,by omega,by go_num,HI.o.step fa.o,ll.o⟩
    case measure=>simp [intOf];omega
   ·have ai:k=kn:=by omega
    have dJ:=AF ai;clear ai hf;go_wp2_with fail;go_ret2;exact⟨rfl,HI.o.below⟩
 ·have e2:(kd==2)=false:=by simpa using h2
  rw [AC (fun h=>h2 h.1)] at hf;have rA:Hd (Jh l (By.mk kd op at_ nn nm ar ex) 0 ((ks.drop 0).map Ga.er)=none):=hf;clear h2 hf;go_upto_region 3 with fail;clear c4 e2;have c7:W.cell? ⟨w0.heap.size,7,none⟩=some (.slice kp kn kc):=by rw [AD HX.o];rfl
  go_upto_region 4 with fail;clear c0 c7;go_loopw [27] (fun i wr=>∃k:Nat,k<=kn/\i=.int .i64 k/\FrI w0 ⟨(By.mk kd op at_ nn nm ar ex),kp,kn,kc⟩ wr/\Jh l (By.mk kd op at_ nn nm ar ex) k ((ks.drop k).map Ga.er)=none) (fun i _=>kn-(intOf i).toNat)
  case atStart=>exact⟨0,BM _,rfl,⟨HX.o,HB.o⟩,rA.o⟩
  case round=>
   obtain⟨k,hk,rfl,hi,hf⟩:=hrel;have HI:=AF hi;clear hi;have mu:kn<=1000000:=by have h1:=HZ.o;have h4:=OX ⟨(By.mk kd op at_ nn nm ar ex),kp,kn,kc⟩ ks;have h5:ks.length=kn:=cj.o.2.1.is.len;omega
   by_cases aG:k<kn
   ·obtain⟨x,hx⟩:=cj.o.2.1.at (j:=k) aG;have ov:ks.drop k=x::ks.drop (k+1):=by rw [A9 (DI hx)];rw [AI (DI hx)] at hx;rw [A8 hx]
    rw [ov,AV,M7] at hf
    have mr:LJ (Gn l (By.mk kd op at_ nn nm ar ex) k) (Ga.er x)=none:=by
     cases hq:LJ (Gn l (By.mk kd op at_ nn nm ar ex) k) (Ga.er x) with
     |none=>rfl
     |some z=>rw [hq] at hf;cases hf
    rw [mr] at hf;have ik:=AF mr;have ll:Hd (Jh l (By.mk kd op at_ nn nm ar ex) (k+1) ((ks.drop (k+1)).map Ga.er)=none):=hf;obtain⟨g,o,hp,bN,_⟩:=cj.o.2.1.elem hx;have hp:kp=some ⟨g,o,none⟩:=hp;subst hp;have cQ:=AF hx;have fS:=AF (cj.o.2.2 x (AE hx));have fx:Hd (∀V,Below wr.heap.size wr V->V.rangeAt g (o+k * 8) (cTl x.head)):=by show ∀V,_;intro V hb;obtain⟨b',o',ek,_,ga⟩:=(cj.o.2.1.keep (BD.of (HI.o.step hb).below)).elem cQ.o;cases ek;exact ga
    clear hx bN mr hf ov;go_upto_region 6 with fail;refine rg (fun W'=>Below wr.heap.size wr W') (At wr) fun aA=>?_;refine tp 0 31 ?_;refine tp 1 32 ?_ (hy:=fun w aB=>by(try dsimp only at aB);have c7:w.cell? ⟨w0.heap.size,7,none⟩=some (.slice (some ⟨g,o,none⟩) kn kc):=(by rw [AD (HI.o.step aB).b0];rfl);go_simp;try with_reducible rfl);refine tp 2 33 ?_;refine tp 3 34 ?_;refine LV 4 35 (fun W' aB=>fx.o W' aB) underlying53 ?_;refine tp 5 36 ?_;refine LV 6 37 (fun W' aB=>BX (HI.o.step aB).b0) underlying53 ?_;refine tp 7 38 ?_;refine tr 8 39 fun K hK=>?_;go_simp;go_at_call 71;refine(LM ⟨(By.mk kd op at_ nn nm ar ex),some ⟨g,o,none⟩,kn,kc⟩ k (gl.o.below (HI.o.step aA).below) (by have h1:=HZ.o;omega)).mono ?_;rintro e w7 ⟨p7,n7,c7,rfl,iA,lQ,ee⟩;have kK:=AF iA;have fq:=AF lQ;have az:=AF (An aA ee);clear iA lQ ee;try go_wp2_with fail
    refine tn hK (az.o) ?_;clear aA hK K;intro aA;refine tr 9 40 fun K hK=>?_;go_simp;go_at_call 44;refine(dr.o x (AE cQ.o) U _ p7 n7 c7 _ (KJ.lies_keep (BD.of (HI.o.step az.o).below) _ fS.o) kK.o (by have h1:=HZ.o;have h2:=fq.o;have h3:=Va (a:=⟨(By.mk kd op at_ nn nm ar ex),some ⟨g,o,none⟩,kn,kc⟩) (AE cQ.o);omega) ik.o).mono ?_;rintro e w8 ⟨rfl,fi⟩;have fa:=AF (An aA fi);clear fi;try go_wp2_with fail
    refine tn hK (fa.o) ?_;clear aA hK K;intro aA;refine tp 10 30 ?_;refine tp 11 41 ?_;refine tp 12 42 ?_;refine tp 13 7 ?_;refine tp 14 8 ?_;refine dn ?_;clear aA;go_wp2_with fail;go_roundw
    case rel=>exact⟨k+1,by omega,by go_num,HI.o.step fa.o,ll.o⟩
    case measure=>simp [intOf];omega
   ·have ai:k=kn:=by omega
    have dJ:=AF ai;clear ai hf;go_wp2_with fail;go_ret2;exact⟨rfl,HI.o.below⟩
theorem Jg(a:Ma):(Kv a).length=8:=rfl
theorem WO:∀a:Ma,∀u∈Kv a,u.oneCell'=true:=by intro a u hu;simp [Kv] at hu;rcases hu with rfl|rfl|rfl|rfl|rfl|rfl|rfl|rfl<;>rfl
abbrev ZDf:Value:=.agg #[.int .u8 0,.int .u8 0,.int .i64 0,.int .i64 0,.string .empty,.string .empty,.string .empty,.slice none 0 0]
theorem Xl:(prog.info? 53).map (fun i=>(i.zero,i.size,i.bytes))=some (some ZDf,8,96):=by kernel_rfl
theorem KO(t:Ga):(Ad.nodes t).length=t.size:=by refine Ad.ind (P:=fun(t:Ga)=>(Ad.nodes t).length=t.size) (fun a l ih=>?_) t;rw [Ad.nodes_node,Ad.size_node,Aq,Ej,CS];have:l.map (List.length ∘ Ad.nodes)=l.map Ad.size:=Bf ih;rw [this];omega
def Er(l:List Ga)(k:Nat):List Ma:=((l.take k).map Ad.nodes).flatten
theorem KN(h:l[k]?=some x):Er l (k+1)=Er l k++Ad.nodes x:=by unfold Er;rw [BG h,Ah,Dt];simp
theorem Vc{l:List Ga}{k:Nat}:((l.take k).map Ad.size).sum<=(l.map Ad.size).sum:=by
 induction k generalizing l with
 |zero=>simp
 |succ k ih=>cases l with
  |nil=>simp
  |cons y l=>have:=ih (l:=l);simp only [Cj,AV,A0] at this ⊢;omega
theorem LK(l:List Ga)(k:Nat):(Er l k).length=((l.take k).map Ad.size).sum:=by unfold Er;rw [Ej,CS];congr 1;exact Bf (fun t _=>KO t)
theorem Wv(h:l[k]?=some x):a::(Er l k++Ad.nodes x)=a::Er l (k+1):=by rw [KN h]
def ZBk(t:Ga)(w:World)(e:Ending)(w':World):Prop:=(∃p c,e=.returned (.slice p t.size c)/\A1 Kv 8 w' w.heap.size 53 (.slice p t.size c) t.size (Ad.nodes t))/\Below w.heap.size w w'
def ZU(t:Ga):Prop:=∀(U:Nat->Prop) (w:World),KJ.lies U w t->t.size<=1000->Calls prog 68 #[Mb t.head] w (ZBk t w)
theorem Rq(t:Ga):ZU t:=by
 refine Ad.ind (P:=fun(t:Ga)=>ZU t) (fun a l ih=>?_) t;intro U w hl hs;have dr:=AF ih;have HS:=AF hs;have cj:=AF ((FY.lies_node _ _ _ _ _).1 hl);have aK:=AF ((AA w.heap.size w).alloc (AB _) (.cells (cTa a) 53));have HA:=AF (AG w (.cells (cTa a) 53));have cH:=AF (Nv Jg (w.alloc (.cells (cTa a) 53)) (w.heap.size+1) 53 [a] 1 (cTa a) rfl rfl (by decide) (by simp));clear ih hl hs;show Calls _ _ #[.agg (cTa a)] w _;go_enter func68,ntmps68;go_upto_region 1 with fail;have aU:Below (w.alloc (.cells (cTa a) 53)).heap.size (w.alloc (.cells (cTa a) 53)) ((w.alloc (.cells (cTa a) 53)).alloc (.cells (cTa a) 53)):=bA;have iC:=AF ((aU.block _ (Ab HA.o)).trans HA.o);have aF:=AF (aK.o.alloc aK.o.size (.cells (cTa a) 53));have dy:(w.alloc (.cells (cTa a) 53)).heap.size=w.heap.size+1:=by simp
 rw [dy] at cH;clear aU dy;go_upto_region 2 with(refine lw (HA.o) underlying53 ?_)
 have dy:(w.alloc (.cells (cTa a) 53)).heap.size=w.heap.size+1:=by simp
 try rw [dy]
 clear dy;generalize (w.alloc (.cells (cTa a) 53)).alloc (.cells (cTa a) 53)=W2 at *
 have q7:W2.cell? ⟨w.heap.size,7,none⟩=some (.slice a.kp a.kn a.kc):=by rw [AD iC.o];rfl
 go_upto_region 3 with fail;clear q7;go_loopw [3,10] (fun u i wr=>∃(k:Nat) (p:Option Addr) (c:Nat),k<=a.kn/\i=.int .i64 k/\u=.slice p (1+(Er l k).length) c/\A1 Kv 8 wr (w.heap.size+1) 53 u (1+(Er l k).length) (a::Er l k)/\wr.heap[w.heap.size]?=some (.cells (cTa a) 53 (0,0))/\Below w.heap.size w wr) (fun _ i _=>a.kn-(intOf i).toNat)
 case atStart=>exact⟨0,some ⟨w.heap.size+1,0,none⟩,1,by omega,rfl,rfl,cH.o,iC.o,aF.o⟩
 case round=>
  obtain⟨k,p,c,hk,rfl,rfl,aD,ac,hb⟩:=hrel;have aZ:=AF aD;have iO:=AF ac;have HB:=AF hb;clear aD ac hb;have mu:a.kn<=1000:=by have h1:=HS.o;have h4:=OX a l;have h5:l.length=a.kn:=cj.o.2.1.is.len;omega
  have q7:wr.cell? ⟨w.heap.size,7,none⟩=some (.slice a.kp a.kn a.kc):=by rw [AD iO.o];rfl
  by_cases aG:k<a.kn
  ·obtain⟨x,hx⟩:=cj.o.2.1.at (j:=k) aG;have HE:=AF hx;obtain⟨b,o,bV,bB,am⟩:=(cj.o.2.1.keep (BD.of HB.o)).elem hx;have bV:a.kp=some ⟨b,o,none⟩:=bV;have dc:Hd (wr.rangeAt b (o+k * 8) (cTl x.head)):=fun i v hv=>am i v hv;rw [bV] at q7;clear hx bB bV am
   have cD:=AF (show 1+(Er l k).length+x.size<=1000 by
    have h1:=congrArg List.length (KN HE.o);rw [As,KO,LK l (k+1)] at h1;have h2:=Vc (l:=l) (k:=k+1);have h3:=HS.o;rw [Ad.size_node] at h3;omega)
   go_wp2_with (refine VD dc.o underlying53 ?_);refine Calls.mono (dr.o x (AE HE.o) U wr (KJ.lies_keep (BD.of HB.o) _ (cj.o.2.2 x (AE HE.o))) (by have h1:=cD.o;omega)) ?_;rintro e w2 ⟨⟨p2,c2,rfl,aV⟩,hb⟩;have iF:=AF (aZ.o.below hb);have aH:=bt HB hb;have gb:=AF ((hb.block _ (Ab iO.o)).trans iO.o);obtain⟨q,cc,hv,aC⟩:=aV.isRow Jg (by omega);cases hv;have bQ:=AF aC;have mE:Hd (w.heap.size+1<=w2.heap.size):=Ab gb.o;clear aV aC hb q7;go_wp2_with (at_builtin;refine GK rfl _ _ 51 rfl (w.heap.size+1) 53 ZDf 8 96 underlying51 Xl rfl (by decide) Kv Jg WO (Ad.nodes x) (a::Er l k) (1+(Er l k).length) _ iF.o _ x.size _ rfl rfl bQ.o.len bQ.o.nil bQ.o.row ?c1 ?c2 ?c3 ?_)
   case c1=>have:=cD.o;omega
   case c2=>have:=cD.o;omega
   case c3=>exact mE.o
   ·intro v3 w3 aR bT;obtain⟨p3,c3,rfl,bw⟩:=A1.isRow Jg (by omega) aR;have eB:∀g,(Value.slice p (1+(Er l k).length) c).ownBlock=some g->w.heap.size+1<=g:=fun g hg=>(Aa iF.o g hg).1;have aL:=AF (aH.o.grown bT aH.o.size (fun g hg=>by have:=eB g hg;omega));have lh:Hd (w3.heap[w.heap.size]?=some (.cells (cTa a) 53 (0,0))):=(bT.block w.heap.size (Ab gb.o) (fun e=>by have:=eB _ e.symm;omega)).trans gb.o;have lk:Hd (1+(Er l k).length+x.size=1+(Er l (k+1)).length):=by show _=_;rw [KN HE.o,As,KO];omega
    rw [Wv HE.o,lk.o] at aR;have iG:=AF aR;clear aR bT eB bw;go_wp2_with fail;go_roundw
    case rel=>exact⟨k+1,p3,c3,by omega,by go_num,by rw [lk.o],by rw [lk.o];exact iG.o,lh.o,aL.o⟩
    case measure=>simp [intOf];omega
  ·have ai:k=a.kn:=by omega
   have bp:l.take k=l:=Bb (by rw [ai];exact Nat.le_of_eq cj.o.2.1.is.len);have bz:Hd (1+(Er l k).length=(Ad.node a l:Ga).size):=by show _=_;rw [LK,bp,Ad.size_node]
   have rN:Hd (a::Er l k=Ad.nodes (Ad.node a l)):=by show _=_;rw [Ad.nodes_node];unfold Er;rw [bp]
   clear ai bp;go_wp2_with fail;go_ret;refine⟨⟨p,c,by rw [<-bz.o];rfl,?_⟩,HB.o⟩;have h:=aZ.o;rw [rN.o,bz.o] at h;exact h.lower (Nat.le_succ _)
theorem Yv(t:Ga):KJ.lies U w t->L0 (Ga.er t)=true->∀a∈Ad.nodes t,DN a.hd a.kn=true:=by
 refine Ad.ind (P:=fun(t:Ga)=>KJ.lies U w t->L0 (Ga.er t)=true->∀a∈Ad.nodes t,DN a.hd a.kn=true) (fun a l ih=>?_) t;intro hl hm b hb;rw [FY.lies_node] at hl;rw [Ga.er_node,ND,AK,Ba,CD,Aj] at hm;rw [Ad.nodes_node] at hb;rcases AS.1 hb with rfl|hb
 ·have h:l.length=b.kn:=hl.2.1.is.len;rw [<-h];exact hm.1
 ·obtain⟨m,kW,lO⟩:=BS.1 hb;obtain⟨x,hx,rfl⟩:=BI.1 kW;exact ih x hx (hl.2.2 x hx) (hm.2 x hx) b lO
theorem Rr(t:Ga)(hl:KJ.lies U w t)(hs:t.size<=1000)(hm:L0 (Ga.er t)=true):Calls prog 43 #[Mb t.head] w (RB w (.bool true)):=by
 have ap:Below w.heap.size w (w.alloc (.cells (cTa t.head) 53)):=bA;have HB:=AF ap;have HA:=AF (AG w (.cells (cTa t.head) 53));have HL:=AF (KJ.lies_keep (BD.of ap) _ hl);have HS:=AF hs;have HM:=AF (Yv t hl hm);clear hl hm hs ap;show Calls _ _ #[.agg (cTa t.head)] w _;go_enter func43,ntmps43;go_upto_region 1 with fail;generalize w.alloc (.cells (cTa t.head) 53)=W at *
 go_wp2_with (refine lw (HA.o) underlying53 ?_);refine Calls.mono (Rq t U W HL.o HS.o) ?_;rintro e w2 ⟨⟨p2,c2,rfl,aV⟩,hb⟩;have aF:=bt HB hb;obtain⟨q,cc,hv,aC⟩:=aV.isRow Jg (by omega);cases hv;have bQ:=AF aC;obtain⟨N,hN⟩:∃N,t.size=N:=⟨_,rfl⟩;rw [hN] at bQ HS ⊢;have fC:=HS.o;clear aV aC hb hN;go_upto_region 5 with fail;go_loopw [12] (fun i wr=>∃(k:Nat),k<=N/\i=.int .i64 k/\Below w2.heap.size w2 wr) (fun i _=>N-(intOf i).toNat)
 case atStart=>exact⟨0,BM _,rfl,AA _ _⟩
 case round=>
  obtain⟨k,hk,rfl,hb⟩:=hrel;have ah:=AF hb;clear hb;by_cases aG:k<N
  ·obtain⟨x,hx⟩:=Bh (l:=Ad.nodes t) (j:=k) (by rw [bQ.o.len];exact aG);obtain⟨b,o,bV,bB,am⟩:=(bQ.o.below ah.o).row.elem hx;subst bV;have dc:Hd (wr.rangeAt b (o+k * 8) (cTl x)):=fun i v hv=>am i v hv;have HX:=AF (HM.o x (AE hx))
   have xX:x.kn<=9223372036854775807:=by
    rcases FR 3 x.kn with h|h
    ·have h1:=HX.o;rw [O3 _ _ h] at h1;cases h1
    ·omega
   clear hx bB am
   go_wp2_with (first
    |(refine VD dc.o underlying53 ?_)
    |(go_at_call 69;refine(Qu x.hd x.kp x.kn x.kc xX wr).mono ?_;rintro e w3 ⟨rfl,hb⟩;have aL:=bt ah hb;clear hb;rw [HX.o]))
   go_roundw
   case rel=>exact⟨k+1,by omega,by go_num,aL.o⟩
   case measure=>simp [intOf];omega
  ·have ai:k=N:=by omega
   have dJ:=AF ai;clear ai;go_wp2_with fail;go_ret;exact⟨rfl,aF.o.trans (ah.o.mono aF.o.size)⟩
abbrev Vu:Nat->Prop:=fun _=>False
structure ZY(w:World)(k:Nat)(ys:List Ga)(v:Value)(wr:World):Prop where
 own:A1 KJ.encT 8 wr (w.heap.size+3) 53 v k ys
 each:∀y∈ys,KJ.lies (UL Vu w 3 v) wr y
theorem ZY.zero(w wr:World):ZY w 0 [] (.slice none 0 0) wr:=⟨A1.nil _ _ _ _ _,fun _ h=>by cases h⟩
theorem ZY.below(h:ZY w k ys v wr)(hb:Below wr.heap.size wr w'):ZY w k ys v w':=⟨h.own.below hb,fun y hy=>KJ.lies_keep (BD.of hb) _ (h.each y hy)⟩
theorem ZY.other(h:ZY w k ys v wr)(hg:wr.grownBy w' (some g))(aG:g<w.heap.size+3)(ms:w.heap.size<=g):ZY w k ys v w':=by
 refine⟨h.own.other hg (fun b hb e=>?_),fun y hy=>KJ.lies_keep (BD.grown hg (fun b e hu=>?_)) _ (h.each y hy)⟩
 ·have:=(Aa h.own b hb).1;injection e with e;omega
 ·injection e with e;rcases hu with⟨_,hu⟩|⟨hu,_⟩
  ·exact hu
  ·omega
theorem ZY.next(h:ZY w k ys v w6)(hs:w.heap.size+3<=w6.heap.size)(ee:Below w6.heap.size w6 w7)(hy:KJ.lies (Ge Vu w6) w7 y)(fi:Below w7.heap.size w7 w8)(ho:A1 KJ.encT 8 w9 (w.heap.size+3) 53 v' (k+1) (ys++[y]))(hg:w8.grownBy w9 v.ownBlock)(hf:∀g,g<w8.heap.size->v'.ownBlock=some g->v.ownBlock=some g):ZY w (k+1) (ys++[y]) v' w9:=by
 have sA:=An ee fi;have h8:=h.below sA;have aD:∀g,v.ownBlock=some g->w.heap.size+3<=g/\g<w6.heap.size:=fun g e=>Aa h.own g e
 have main:∀z:Ga,KJ.lies (UL Vu w 3 v) w8 z->KJ.lies (UL Vu w 3 v') w9 z:=by
  intro z hz
  have h1:=KJ.lies_mono (U':=fun g=>UL Vu w 3 v g/\UL Vu w 3 v' g) (fun g aG hu=>⟨hu,by
   rcases hu with⟨_,hu⟩|⟨hu,hn⟩
   ·exact hu.elim
   ·exact .inr ⟨hu,fun e=>hn (hf g aG e)⟩⟩) z hz
  exact KJ.lies_mono (fun g _ h=>h.2) z (KJ.lies_keep (BD.grown hg (fun g e hu=>by
   rcases hu.1 with⟨_,hu⟩|⟨_,hn⟩
   ·exact hu
   ·exact hn e)) z h1)
 refine⟨ho,fun z hz=>main z ?_⟩;rcases Ac.1 hz with hz|hz
 ·exact h8.each z hz
 ·rw [AQ.1 hz];refine KJ.lies_keep (BD.of fi) _ (KJ.lies_mono (fun g _ hu=>?_) y hy);by_cases aG:g<w6.heap.size
  ·exact(hu aG).elim
  ·exact .inr ⟨by omega,fun e=>by have:=(aD g e).2;omega⟩
def Sz(t:PA)(w:World)(e:Ending)(w':World):Prop:=∃y:Ga,e=.returned (Mb y.head)/\KJ.lies (Ge Vu w) w' y/\Ga.er y=DG (PA.er t)/\Below w.heap.size w w'
def ZZ(t:PA):Prop:=∀(w:World),LA.lies w t->t.size<=1000->Calls prog 20 #[DP t.head] w (Sz t w)
structure XV(w:World)(a:AH)(kd:Int)(v:Value)(wr:World):Prop where
 b0:JB wr w.heap.size a
 b1:wr.heap[w.heap.size+1]?=some (.cells #[.int .u8 0,.int .u8 0,.int .i64 0,.int .i64 0,.string .empty,.string .empty,.string .empty,.slice none 0 0] 53 (0,0))
 b2:wr.heap[w.heap.size+1+1]?=some (.cells #[.int .u8 kd,.int .u8 a.op,.int .i64 a.at_,.int .i64 a.n,.string a.name,.string a.arg,.string a.exn,v] 53 (0,0))
 below:Below w.heap.size w wr
end Go.Proofs.YtkdjnegfnhldpaaGreatDoor
