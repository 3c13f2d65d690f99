/- Part 15. -/
import Derived.Test.YtkdjnegfnhldpaaGreatDoorK14
set_option linter.unusedVariables false
set_option maxRecDepth 100000
set_option linter.unusedSimpArgs false
set_option maxHeartbeats 40000000
namespace Go.Proofs.YtkdjnegfnhldpaaGreatDoor
open Go.Proofs.Tryz Go.RowKit
theorem Mu:∀{l:List AB},A9 AB.lt l→(∀x∈l,AM x=true)→DM l=true
 |[],_,_=>rfl
 |[a],_,h=>h a (by simp)
 |a::b::l,hr,h=>by have ah:=List.pairwise_cons.1 hr;simp only [DM,Bool.and_eq_true];exact⟨⟨h a (by simp),ah.1 b (by simp)⟩,Mu ah.2 (fun x hx=>h x (by simp [hx]))⟩
theorem Hv:∀{l:List AB},DM l=true→A9 AB.lt l∧∀x∈l,AM x=true
 |[],_=>⟨List.Pairwise.nil,by simp⟩
 |[a],h=>⟨List.pairwise_singleton _ _,by intro x hx;rw [List.mem_singleton] at hx;subst hx;exact h⟩
 |a::b::l,h=>by
  simp only [DM,Bool.and_eq_true] at h;obtain⟨⟨h1,h2⟩,h3⟩:=h;obtain⟨h4,h5⟩:=Hv h3;refine⟨List.pairwise_cons.2 ⟨fun x hx=>?_,h4⟩,fun x hx=>?_⟩
  ·rcases List.mem_cons.1 hx with rfl|hx
   ·exact h2
   ·exact AB.lt_trans h2 ((List.pairwise_cons.1 h4).1 x hx)
  ·rcases List.mem_cons.1 hx with rfl|hx
   ·exact h1
   ·exact h5 x hx
theorem Nz{l:List AB}(h:DM l=true):BE l=l:=by obtain⟨h1,h2⟩:=Hv h;exact(IM h1 (fun a=>by rw [List.mem_filter];exact⟨fun hx=>⟨hx,h2 a hx⟩,And.left⟩)).symm
theorem Az(l:List AB):DM (BE l)=true:=Mu (IY _) (fun x hx=>((Ar _ _).1 hx).2)
theorem N0:BE []=[]:=rfl
theorem Iv(l:List AB):BE (BE l)=BE l:=Nz (Az l)
theorem KS{l m:List AB}(h:∀x,AM x=true→(x∈l↔x∈m)):BE l=BE m:=Ol (fun x=>by
 rw [List.mem_filter,List.mem_filter];exact and_congr_left (fun hx=>h x hx))
theorem OJ{l:List AB}(q:AB→Bool)(h:DM l=true):DM (l.filter q)=true:=by obtain⟨h1,h2⟩:=Hv h;exact Mu (List.Pairwise.filter _ h1) (fun x hx=>h2 x (List.mem_filter.1 hx).1)
theorem Cd(l:List AB):(BE l).length≤l.length:=Nat.le_trans (ES _ _) (List.length_filter_le _ _)
theorem Jy(l:List AB)(r:List Int):(Cw l r).length≤l.length:=Nat.le_trans (List.length_filter_le _ _) (Cd l)
theorem Jq(l:List AB)(r:List ByteArray):(CZ l r).length≤l.length:=Nat.le_trans (List.length_filter_le _ _) (Cd l)
structure D1(a:CL)(n:Nat):Prop where
 k1:1≤a.kind
 k18:a.kind≤18
 kids:BI (if a.kind=17 then 4 else if a.kind=18 then 1 else a.kind)=n
 rho:0≤a.rho
 rhos:∀r∈a.rhos,0≤r
 eff:DM a.eff=true
 gr:BS a.eff=false
 ty:Ee [11,13,15] a.kind=true→Bj a.ty=true
 res:a.kind=13→Bj a.res=true
 tys:DX a.ty 100
 ress:DX a.res 100
 exn:a.exn.size≤100
 at0:0≤a.at_
inductive Fp:AT→Prop where
 |node (a:CL) (l:List AT) (h:D1 a l.length) (hl:∀t∈l,Fp t):Fp (.node a l)
theorem Fp.head{a:CL}{l:List AT}(h:Fp (.node a l)):D1 a l.length:=by cases h;assumption
theorem Fp.kid{a:CL}{l:List AT}(h:Fp (.node a l)):∀t∈l,Fp t:=by cases h;assumption
structure Es(B:Nat)(x:TE):Prop where
 may:Bj x.1=true
 effs:BL x.1=true
 can:DM x.2=true
 exn:∀a∈x.2,a.exn.size≤100
 len:x.2.length≤B
theorem Es.mono{B B':Nat}{x:TE}(h:Es B x)(hb:B≤B'):Es B' x:=⟨h.may,h.effs,h.can,h.exn,Nat.le_trans h.len hb⟩
structure JH(b:EA):Prop where
 may:b.fn=none→Bj b.ty=true
 effs:BL b.ty=true
 fn:∀f,b.fn=some f→∃n,D1 f n∧Bj f.ty=true∧Bj f.res=true
theorem Ht(l:List AB):BS l=false↔l.length≤200∧∀a∈l,a.exn.size≤100:=by unfold BS;simp only [Bool.or_eq_false_iff,decide_eq_false_iff_not,Nat.not_lt,List.any_eq_false,decide_eq_true_eq]
theorem N5{l:List AB}(h:BS l=false):BS (BE l)=false:=by rw [Ht] at h ⊢;exact⟨Nat.le_trans (Cd l) h.1,fun a ha=>h.2 a ((Ar _ _).1 ha).1⟩
theorem Kb{l:List AB}(f t:List Int)(h:BS l=false):BS (Ig f t l)=false:=by
 rw [Ht] at h ⊢;refine⟨?_,fun a ha=>?_⟩
 ·unfold Ig;refine Nat.le_trans (ES _ _) (Nat.le_trans (List.length_filter_le _ _) ?_);rw [List.length_map];exact Nat.le_trans (Cd l) h.1
 ·obtain⟨y,hy,_,rfl,_⟩:=Qm ha;have:=h.2 y hy;unfold Fw;split<;>exact this
theorem S6(f t:List Int)(l:List AB):DM (Ig f t l)=true:=Az _
theorem Fl{r:Int}{f t:List Int}(hr:0≤r)(ht:∀z∈t,0≤z):0≤CK r f t:=by
 rcases Oo r f t with h|h
 ·rw [h];exact hr
 ·exact ht _ h
theorem Rl{a:LH}{n:Nat}{f t:List Int}(ht:∀z∈t,0≤z)(h:A0 a n=true):A0 (NE f t a) n=true:=by
 unfold A0 NE at *
 by_cases h1:a.kind=1
 ·simpa [h1] using h
 ·have aY:Ig f t []=[]:=rfl;simp only [h1,if_false] at h ⊢;by_cases h2:a.kind=2
  ·simp only [h2,if_true,Bool.and_eq_true,decide_eq_true_eq] at h ⊢;exact⟨⟨Fl h.1.1 ht,by rw [h.1.2,aY]⟩,h.2⟩
  ·by_cases h3:a.kind=3
   ·simp [h3] at h ⊢;exact⟨⟨Fl h.1.1 ht,by rw [h.1.2,aY]⟩,h.2⟩
   ·by_cases h4:a.kind=4
    ·simp [h4] at h ⊢;exact⟨⟨Fl h.1.1 ht,S6 f t _⟩,h.2⟩
    ·simp [h2,h3,h4] at h
theorem L5{f t:List Int}(ht:∀z∈t,0≤z)(x:RT):Bj x=true→Bj (BQ f t x)=true:=by refine AD.ind (P:=fun(x:RT)=>Bj x=true→Bj (BQ f t x)=true) (fun a l ih h=>?_) x;rw [C6,Bool.and_eq_true,List.all_eq_true] at h;unfold BQ at ih ⊢;rw [AD.map_node,C6,Bool.and_eq_true,List.length_map,List.all_map,List.all_eq_true];exact⟨Rl ht h.1,fun u hu=>ih u hu (h.2 u hu)⟩
theorem JQ(f t:List Int)(x:RT):BL x=true→BL (BQ f t x)=true:=by
 refine AD.ind (P:=fun(x:RT)=>BL x=true→BL (BQ f t x)=true) (fun a l ih h=>?_) x;rw [BG,Bool.and_eq_true,List.all_eq_true] at h;unfold BQ at ih ⊢;rw [AD.map_node,BG,Bool.and_eq_true,List.all_map,List.all_eq_true];refine⟨?_,fun u hu=>ih u hu (h.2 u hu)⟩;have h1:=h.1;simp only [Bool.not_eq_true'] at h1 ⊢;unfold NE;split
 ·exact h1
 ·exact Kb f t h1
theorem Ry(f t:List Int)(x:RT):(BQ f t x).size=x.size:=AD.size_map _ x
theorem Ke{x:RT}{k:Int}{i:Nat}(h:Bj x=true)(hk:x.head.kind=k)(hi:(k=2∨k=4)∧i<2∨k=3∧i<1):i<x.kids.length∧Bj (x.kids.getD i A8)=true:=by
 cases x with
 |node a l=>
  simp only [AD.head,AD.kids] at hk ⊢;rw [C6,Bool.and_eq_true,List.all_eq_true] at h;obtain⟨h1,h2⟩:=h
  have aG:i<l.length:=by
   unfold A0 at h1;rcases hi with⟨rfl|rfl,hi⟩|⟨rfl,hi⟩
   ·simp [hk] at h1;omega
   ·simp [hk] at h1;omega
   ·simp [hk] at h1;omega
  refine⟨aG,?_⟩;rw [List.getD_eq_getElem?_getD,List.getElem?_eq_getElem aG];exact h2 _ (List.getElem_mem aG)
theorem Hp{x:RT}{i:Nat}(h:BL x=true):BL (x.kids.getD i A8)=true:=by
 cases x with
 |node a l=>
  rw [BG,Bool.and_eq_true,List.all_eq_true] at h;simp only [AD.kids];rw [List.getD_eq_getElem?_getD];cases hx:l[i]? with
  |none=>rfl
  |some y=>exact h.2 y (List.mem_of_getElem? hx)
theorem JP{x:RT}(h:BL x=true):BS x.head.eff=false:=by
 cases x with
 |node a l=>
  rw [BG,Bool.and_eq_true] at h;show BS a.eff=false;simpa using h.1
def D8(l:List TE):Nat:=(l.map (fun y=>y.2.length)).sum
theorem R1(l:List TE):(l.flatMap (·.2)).length=D8 l:=by unfold D8;rw [List.length_flatMap]
theorem GA(l:List TE)(more:List AB):(A1 l more).length≤more.length+D8 l:=by unfold A1;refine Nat.le_trans (Cd _) ?_;rw [List.length_append,R1];exact Nat.le_refl _
theorem Tn{l:List TE}(j:Nat):(l.getD j Bf).2.length≤D8 l:=by
 rw [List.getD_eq_getElem?_getD];cases h:l[j]? with
 |none=>simp [Bf]
 |some y=>
  unfold D8;exact Ay (List.mem_map_of_mem (f:=fun y:TE=>y.2.length) (List.mem_of_getElem? h))
theorem R0(l:List TE)(k:Nat):D8 (l.drop k)≤D8 l:=by
 have h:D8 l=D8 (l.take k)+D8 (l.drop k):=by unfold D8;rw [←List.sum_append,←List.map_append,List.take_append_drop]
 omega
theorem To(l:List TE):(l.getD 0 Bf).2.length+(l.getD 1 Bf).2.length≤D8 l:=by
 match l with
 |[]=>simp [Bf,D8]
 |[x]=>simp [Bf,D8]
 |x::y::l=>simp [D8]<;>omega
theorem Ne{l:List TE}{more:List AB}{x:AB}(h:x∈A1 l more):(x∈more∨∃y∈l,x∈y.2)∧AM x=true:=by unfold A1 at h;rw [Ar,List.mem_append,List.mem_flatMap] at h;exact h
theorem Kf{k rho:Int}{eff:List AB}{x y:RT}(hk:k=2∧eff=[]∨k=4)(hr:0≤rho)(hx:Bj x=true)(hy:Bj y=true):Bj (H8 k rho eff [x,y])=true:=by
 unfold H8;rw [C6,Bool.and_eq_true];refine⟨?_,by simp [hx,hy]⟩;rcases hk with⟨rfl,rfl⟩|rfl
 ·simp [A0,hr,N0]
 ·simp [A0,hr];exact Az eff
theorem Gj{k rho:Int}{eff:List AB}{l:List RT}(he:BS eff=false)(hl:∀x∈l,BL x=true):BL (H8 k rho eff l)=true:=by unfold H8;rw [BG,Bool.and_eq_true,List.all_eq_true];exact⟨by rw [N5 he];rfl,hl⟩
theorem D1.two{a:CL}{n:Nat}(h:D1 a n)(hk:a.kind=3∨a.kind=8∨a.kind=9∨a.kind=10∨a.kind=12∨a.kind=13∨a.kind=16):n=2:=by have:=h.kids;rcases hk with e|e|e|e|e|e|e<;>simp [e,BI] at this<;>omega
theorem D1.one{a:CL}{n:Nat}(h:D1 a n)(hk:a.kind=4∨a.kind=5∨a.kind=6∨a.kind=7∨a.kind=11∨a.kind=15∨a.kind=17):n=1:=by have:=h.kids;rcases hk with e|e|e|e|e|e|e<;>simp [e,BI] at this<;>omega
theorem D1.three{a:CL}{n:Nat}(h:D1 a n)(hk:a.kind=14):n=3:=by have:=h.kids;simp [hk,BI] at this;omega
theorem Rr{a:CL}{l:List TE}{x:TE}(ha:D1 a l.length)(hl:∀y∈l,∃B,Es B y)(h2:a.kind≠2)(bL:a.kind≠18)(h:B8 a l x):Es (D8 l+202) x:=by
 have hg:∀j,j<l.length→∃B,Es B (l.getD j Bf):=fun j hj=>by rw [List.getD_eq_getElem?_getD,List.getElem?_eq_getElem hj];exact hl _ (List.getElem_mem hj)
 have ei:∀more:List AB,(∀x∈more,x.exn.size≤100)→∀m:List TE,(∀y∈m,∃B,Es B y)→∀x∈A1 m more,x.exn.size≤100:=fun more hm m iO x hx=>by
  rcases (Ne hx).1 with h|⟨y,hy,h⟩
  ·exact hm x h
  ·obtain⟨B,hB⟩:=iO y hy;exact hB.exn x h
 have aJ:∀more:List AB,more.length≤1→∀m:List TE,D8 m≤D8 l→(A1 m more).length≤D8 l+202:=fun more hm m h=>by have:=GA m more;omega
 have dq:∀(f:Int→AB),(f=Bu∨f=CC)→∀r,∀x∈[f r],x.exn.size≤100:=fun f hf r x hx=>by rw [List.mem_singleton] at hx;subst hx;rcases hf with rfl|rfl<;>exact Nat.zero_le _
 have aY:∀x∈([]:List AB),x.exn.size≤100:=fun x hx=>by cases hx
 cases h with
 |pair k=>
  have hn:=ha.two (by omega);obtain⟨B0,g0⟩:=hg 0 (by omega);obtain⟨B1,g1⟩:=hg 1 (by omega)
  exact⟨Kf (.inl ⟨rfl,rfl⟩) ha.rho g0.may g1.may,Gj rfl (by intro x hx;simp only [List.mem_cons,List.not_mem_nil,or_false] at hx;rcases hx with rfl|rfl;exact g0.effs;exact g1.effs),
   Az _,ei _ (dq _ (.inl rfl) _) l hl,aJ _ (by simp) _ (Nat.le_refl _)⟩
 |proj k ht=>
  have hn:=ha.one (by omega);obtain⟨B0,g0⟩:=hg 0 (by omega);have hk:(l.getD 0 Bf).1.head.kind=2:=by simpa [I0] using ht
  exact⟨(Ke g0.may hk (.inl ⟨.inl rfl,by omega⟩)).2,Hp g0.effs,Az _,ei _ (dq _ (.inr rfl) _) l hl,aJ _ (by simp) _ (Nat.le_refl _)⟩
 |ref k=>
  have hn:=ha.one (by omega);obtain⟨B0,g0⟩:=hg 0 (by omega);refine⟨?_,Gj rfl (by intro x hx;rw [List.mem_singleton] at hx;subst hx;exact g0.effs),Az _,ei _ (dq _ (.inl rfl) _) l hl,aJ _ (by simp) _ (Nat.le_refl _)⟩;unfold H8;rw [C6,Bool.and_eq_true];exact⟨by simp [A0,ha.rho,N0],by simpa using g0.may⟩
 |get k ht=>
  have hn:=ha.one (by omega);obtain⟨B0,g0⟩:=hg 0 (by omega);have hk:(l.getD 0 Bf).1.head.kind=3:=by simpa [I0] using ht
  exact⟨(Ke g0.may hk (.inr ⟨rfl,by omega⟩)).2,Hp g0.effs,Az _,ei _ (dq _ (.inr rfl) _) l hl,aJ _ (by simp) _ (Nat.le_refl _)⟩
 |set k ht hs=>exact⟨rfl,rfl,Az _,ei _ (dq _ (.inl rfl) _) l hl,aJ _ (by simp) _ (Nat.le_refl _)⟩
 |app k ht hs=>
  have hn:=ha.two (by omega);obtain⟨B0,g0⟩:=hg 0 (by omega);have hk:(l.getD 0 Bf).1.head.kind=4:=by simpa [I0] using ht
  have cV:=(Ht _).1 (JP g0.effs);refine⟨(Ke g0.may hk (.inl ⟨.inr rfl,by omega⟩)).2,Hp g0.effs,Az _,fun x hx=>?_,?_⟩
  ·rcases List.mem_append.1 ((Ar _ _).1 hx).1 with hx|hx
   ·exact ei _ (dq _ (.inr rfl) _) l hl x hx
   ·exact cV.2 x hx
  ·refine Nat.le_trans (Cd _) ?_;rw [List.length_append];have:=GA l [CC (l.getD 0 Bf).1.head.rho];have:=cV.1;simp only [List.length_cons,List.length_nil] at *
   omega
 |op k ht=>exact⟨rfl,rfl,Az _,ei _ aY l hl,aJ _ (by simp) _ (Nat.le_refl _)⟩
 |ite k ht hs=>
  have hn:=ha.three (by omega);obtain⟨B1,g1⟩:=hg 1 (by omega);exact⟨g1.may,g1.effs,Az _,ei _ aY l hl,aJ _ (by simp) _ (Nat.le_refl _)⟩
 |raise k ht=>
  exact⟨ha.ty (by simp [k,Ee]),ha.tys.effs,Az _,ei _ (fun x hx=>by rw [List.mem_singleton] at hx;subst hx;exact ha.exn) l hl,aJ _ (by simp) _ (Nat.le_refl _)⟩
 |num k=>exact⟨rfl,rfl,Az _,ei _ aY l hl,aJ _ (by simp) _ (Nat.le_refl _)⟩
 |fn k hw=>
  have hn:=ha.one (by omega);obtain⟨B0,g0⟩:=hg 0 (by omega);refine⟨Kf (.inr rfl) ha.rho (ha.ty (by simp [k,Ee])) g0.may,Gj ha.gr (by intro x hx;simp only [List.mem_cons,List.not_mem_nil,or_false] at hx;rcases hx with rfl|rfl;exact ha.tys.effs;exact g0.effs),Az _,fun x hx=>?_,?_⟩
  ·exact dq _ (.inl rfl) _ x ((Ar _ _).1 hx).1
  ·refine Nat.le_trans (Cd _) ?_;simp only [List.length_cons,List.length_nil];omega
 |letrec k hs hw=>
  have hn:=ha.two (by omega);obtain⟨B1,g1⟩:=hg 1 (by omega);exact⟨g1.may,g1.effs,Az _,ei _ (dq _ (.inl rfl) _) _ (fun y hy=>hl y (List.mem_of_mem_drop hy)),aJ _ (by simp) _ (R0 l 1)⟩
 |handle k hs=>
  have hn:=ha.two (by omega);obtain⟨B0,g0⟩:=hg 0 (by omega);obtain⟨B1,g1⟩:=hg 1 (by omega);refine⟨g0.may,g0.effs,Az _,fun x hx=>?_,?_⟩
  ·rcases List.mem_append.1 ((Ar _ _).1 hx).1 with hx|hx
   ·exact g0.exn x ((Dd _ _ _).1 hx).1
   ·exact g1.exn x hx
  ·refine Nat.le_trans (Cd _) ?_;rw [List.length_append];have:=Jq (l.getD 0 Bf).2 [a.exn];have:=To l;omega
 |region k qD=>
  have hn:=ha.one (by omega);obtain⟨B0,g0⟩:=hg 0 (by omega);refine⟨g0.may,g0.effs,OJ _ (Az _),fun x hx=>g0.exn x ((De _ _ _).1 hx).1,?_⟩;show (Cw (l.getD 0 Bf).2 [a.rho]).length≤_;have:=Jy (l.getD 0 Bf).2 [a.rho];have:=Tn (l:=l) 0;omega
 |other k=>
  simp only [List.mem_cons,List.not_mem_nil,or_false,not_or] at k;have jm:a.kind=12:=by have:=ha.k1;have:=ha.k18;omega
  have hn:=ha.two (by omega);obtain⟨B1,g1⟩:=hg 1 (by omega);exact⟨g1.may,g1.effs,Az _,ei _ aY l hl,aJ _ (by simp) _ (Nat.le_refl _)⟩
theorem N1{env:List EA}{a:CL}{n i:Nat}{acc:List TE}(ha:D1 a n)(he:∀b∈env,JH b)(de:a.kind=12→i=1→Bj (acc.getD 0 Bf).1=true∧BL (acc.getD 0 Bf).1=true):∀b∈Ai env a i acc,JH b:=by
 have j5:a.kind=13→JH ⟨a.name,A8,some a⟩:=fun k=>⟨fun h=>(nomatch h),rfl,fun f hf=>by
  cases hf
  exact⟨n,ha,ha.ty (by simp [k,Ee]),ha.res k⟩⟩
 have jS:Ee [11,13,15] a.kind=true→JH ⟨a.arg,a.ty,none⟩:=fun k=>⟨fun _=>ha.ty k,ha.tys.effs,fun f hf=>by cases hf⟩;intro b hb;unfold Ai at hb;split at hb
 ·rename_i k;rcases List.mem_append.1 hb with hb|hb
  ·exact he b hb
  ·rw [List.mem_singleton] at hb;subst hb;exact jS (by simp [k,Ee])
 split at hb
 ·rename_i k;rcases List.mem_append.1 hb with hb|hb
  ·exact he b hb
  ·rw [List.mem_singleton] at hb;subst hb;exact⟨fun _=>(de k.1 k.2).1,(de k.1 k.2).2,fun f hf=>by cases hf⟩
 split at hb
 ·rename_i k;rcases List.mem_append.1 hb with hb|hb
  ·exact he b hb
  ·simp only [List.mem_cons,List.not_mem_nil,or_false] at hb;rcases hb with rfl|rfl
   ·exact j5 k.1
   ·exact jS (by simp [k.1,Ee])
 split at hb
 ·rename_i k;rcases List.mem_append.1 hb with hb|hb
  ·exact he b hb
  ·rw [List.mem_singleton] at hb;subst hb;exact j5 k
 split at hb
 ·rcases List.mem_append.1 hb with hb|hb
  ·exact he b hb
  ·rw [List.mem_singleton] at hb;subst hb;exact⟨fun _=>rfl,rfl,fun f hf=>by cases hf⟩
 ·exact he b hb
theorem Qt{l:List AT}{rs:List TE}(hl:rs.length=l.length)(h:∀(j:Nat) (t:AT) (r:TE),l[j]?=some t→rs[j]?=some r→r.2.length≤202 * t.size):D8 rs≤202 * (l.map AD.size).sum:=by
 induction l generalizing rs with
 |nil=>
  have:rs=[]:=List.length_eq_zero_iff.1 (by simpa using hl);subst this;simp [D8]
 |cons t l ih=>
  cases rs with
  |nil=>simp at hl
  |cons r rs=>
   have h0:=h 0 t r rfl rfl;have h1:=ih (rs:=rs) (by simpa using hl) (fun j u q hu hq=>h (j+1) u q (by simpa using hu) (by simpa using hq));simp only [D8,List.map_cons,List.sum_cons] at h1 ⊢;rw [Nat.mul_add];omega
theorem KJ(t:AT):∀env rhos x,Fp t→(∀b∈env,JH b)→chk env rhos t=.ok x→Es (202 * t.size) x:=by
 refine AD.ind (P:=fun(t:AT)=>∀env rhos x,Fp t→(∀b∈env,JH b)→chk env rhos t=.ok x→Es (202 * t.size) x) (fun a l ih env rhos x hT he h=>?_) t;have ha:=hT.head;have av:=hT.kid;rw [Ir,FL] at h;obtain⟨⟨hr,h⟩,_⟩:=h;have aL:AD.size (AD.node a l)=1+(l.map AD.size).sum:=AD.size_node a l;rcases h with⟨k,h⟩|⟨k,h⟩|⟨k2,k18,ks,jo,h⟩
 ·unfold Ii Jn at h;cases hf:EL env a.name with
  |none=>rw [hf] at h;cases h
  |some b=>
   rw [hf] at h;simp only [As] at h;obtain⟨hn,h⟩:=h;cases h;have hb:=he b (Gl hf).1;exact⟨hb.may (by simpa using hn),hb.effs,rfl,fun x hx=>(nomatch hx),Nat.zero_le _⟩
 ·unfold C8 Jn at h;cases hf:EL env a.name with
  |none=>rw [hf] at h;cases h
  |some b=>
   rw [hf] at h;simp only at h;cases hb:b.fn with
   |none=>rw [hb] at h;cases h
   |some f=>
    rw [hb] at h;simp only [As,decide_eq_true_eq] at h;obtain⟨aJ,_,h⟩:=h;cases h;obtain⟨n,dY,pJ,cw⟩:=(he b (Gl hf).1).fn f hb;refine⟨Kf (.inr rfl) ha.rho (L5 ha.rhos _ pJ) (L5 ha.rhos _ cw),Gj ha.gr (fun x hx=>?_),Az _,fun x hx=>?_,?_⟩
    ·simp only [List.mem_cons,List.not_mem_nil,or_false] at hx;rcases hx with rfl|rfl
     ·exact JQ _ _ _ dY.tys.effs
     ·exact JQ _ _ _ dY.ress.effs
    ·have:=((Ar _ _).1 hx).1;simp only [List.mem_cons,List.not_mem_nil,or_false] at this;rcases this with rfl|rfl<;>exact Nat.zero_le _
    ·refine Nat.le_trans (Cd _) ?_;simp only [List.length_cons,List.length_nil];omega
 ·rw [Ib] at h;obtain⟨rs,j8,hl,hj⟩:=Me _ _ _ _ jo;rw [List.nil_append] at j8;rw [j8] at h;simp only [List.nil_append,Nat.zero_add] at hj
  have jn:∀(j:Nat) (t:AT) (y:TE),l[j]?=some t→rs[j]?=some y→Es (202 * t.size) y:=by
   intro j;induction j using Nat.strongRecOn with
   |_ j ihj=>
    intro t y ht hy;obtain⟨r,e1,e2⟩:=hj j t ht;rw [e1] at hy;cases hy;refine ih t (List.mem_of_getElem? ht) _ _ _ (av t (List.mem_of_getElem? ht)) (N1 ha he (fun k h1=>?_)) e2;subst h1;have aG:=CD ht;have ow:(rs.take 1)[0]?=rs[0]?:=by rw [List.getElem?_take];simp
    have dy:rs[0]?=some (rs[0]'(by omega)):=List.getElem?_eq_getElem _;have hg:=ihj 0 (by omega) _ _ (List.getElem?_eq_getElem (show 0<l.length by omega)) dy;rw [List.getD_eq_getElem?_getD,ow,dy];exact⟨hg.may,hg.effs⟩
  have bg:∀y∈rs,∃B,Es B y:=fun y hy=>by
   obtain⟨j,eC⟩:=List.getElem?_of_mem hy;have aG:j<l.length:=by rw [←hl];exact CD eC
   exact⟨_,jn j _ y (List.getElem?_eq_getElem aG) eC⟩
  have hs:=Qt hl (fun j t r ht hr=>(jn j t r ht hr).len);refine(Rr (by rw [hl];exact ha) bg k2 k18 h).mono ?_;rw [aL,Nat.mul_add];omega
def Ba(met:List Int):List Int→Bool
 |[]=>false
 |r::l=>FA met r||Ba (met++[r]) l
def GB:List CL→List Int→Option Int
 |[],_=>none
 |a::l,met=>if Ba met (Bm a) then some a.at_ else GB l (met++Bm a)
def EC(t:AT):Option Int:=GB (AD.nodes t) []
def GI(t:AT):EY:=
 match EC t with
 |some at_=>.error (at_,6)
 |none=>chk [] [0] t
theorem Iq{t:AT}{x:TE}:GI t=.ok x↔EC t=none∧chk [] [0] t=.ok x:=by
 unfold GI;cases h:EC t with
 |some z=>simp
 |none=>simp
theorem Uk{l:List AB}(h:DM l=true):Ig [] [] l=l:=by
 have e:∀m:List AB,m.map (Fw [] [])=m:=fun m=>by
  have:Fw [] []=id:=by funext a;unfold Fw;split<;>rfl
  rw [this,List.map_id]
 show BE ((BE l).map (Fw [] []))=l;rw [e,Iv,Nz h]
theorem R3(x:RT):Bj x=true→BQ [] [] x=x:=by
 refine AD.ind (P:=fun(x:RT)=>Bj x=true→BQ [] [] x=x) (fun a l ih h=>?_) x;rw [C6,Bool.and_eq_true,List.all_eq_true] at h;unfold BQ at ih ⊢;rw [AD.map_node]
 have e1:NE [] [] a=a:=by
  unfold NE;split
  ·rfl
  ·rename_i hk
   have he:DM a.eff=true:=by
    have h1:=h.1;unfold A0 at h1;rw [if_neg hk] at h1;split at h1
    ·simp only [Bool.and_eq_true,decide_eq_true_eq] at h1;rw [h1.1.2];rfl
    ·split at h1
     ·simp only [Bool.and_eq_true,decide_eq_true_eq] at h1;rw [h1.1.2];rfl
     ·split at h1
      ·simp only [Bool.and_eq_true,decide_eq_true_eq] at h1;exact h1.1.2
      ·cases h1
   rw [Uk he];rfl
 have e2:l.map (AD.map (NE [] []))=l:=by have:l.map (AD.map (NE [] []))=l.map id:=List.map_congr_left (fun y hy=>ih y hy (h.2 y hy));rw [this,List.map_id]
 rw [e1,e2]
end Go.Proofs.YtkdjnegfnhldpaaGreatDoor
