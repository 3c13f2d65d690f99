/- Part 19. -/
import Derived.ArgAppend
import Derived.Deep.Upon
import Derived.Test.YtkdjnegfnhldpaaGreatDoorK18
set_option linter.unusedVariables false
set_option maxRecDepth 100000
set_option linter.unusedSimpArgs false
set_option maxHeartbeats 40000000
namespace Go.Proofs.YtkdjnegfnhldpaaGreatDoor
open Go.Proofs.Tryz Go.RowKit
theorem PD:∀{l:List AD},BX AD.lt l→(∀x∈l,AX x=true)→DD l=true
 |[],_,_=>rfl
 |[a],_,h=>h a (by simp)
 |a::b::l,hr,h=>by have aT:=List.pairwise_cons.1 hr;simp only [DD,Bool.and_eq_true];exact⟨⟨h a (by simp),aT.1 b (by simp)⟩,PD aT.2 (fun x hx=>h x (by simp [hx]))⟩
theorem Je:∀{l:List AD},DD l=true→BX AD.lt l∧∀x∈l,AX x=true
 |[],_=>⟨List.Pairwise.nil,by simp⟩
 |[a],h=>⟨List.pairwise_singleton _ _,by intro x hx;rw [List.mem_singleton] at hx;subst hx;exact h⟩
 |a::b::l,h=>by
  simp only [DD,Bool.and_eq_true] at h;obtain⟨⟨h1,h2⟩,h3⟩:=h;obtain⟨h4,h5⟩:=Je h3;refine⟨List.pairwise_cons.2 ⟨fun x hx=>?_,h4⟩,fun x hx=>?_⟩
  ·rcases List.mem_cons.1 hx with rfl|hx
   ·exact h2
   ·exact AD.lt_trans h2 ((List.pairwise_cons.1 h4).1 x hx)
  ·rcases List.mem_cons.1 hx with rfl|hx
   ·exact h1
   ·exact h5 x hx
theorem J4{l:List AD}(h:DD l=true):A2 l=l:=by obtain⟨h1,h2⟩:=Je h;exact(IJ h1 (fun a=>by rw [List.mem_filter];exact⟨fun hx=>⟨hx,h2 a hx⟩,And.left⟩)).symm
theorem Bc(l:List AD):DD (A2 l)=true:=PD (G6 _) (fun x hx=>((Cp _ _).1 hx).2)
theorem QJ:A2 []=[]:=rfl
theorem OG(l:List AD):A2 (A2 l)=A2 l:=J4 (Bc l)
theorem MX{l m:List AD}(h:∀x,AX x=true→(x∈l↔x∈m)):A2 l=A2 m:=La (fun x=>by
 rw [List.mem_filter,List.mem_filter];exact and_congr_left (fun hx=>h x hx))
theorem Qf{l:List AD}(q:AD→Bool)(h:DD l=true):DD (l.filter q)=true:=by obtain⟨h1,h2⟩:=Je h;exact PD (List.Pairwise.filter _ h1) (fun x hx=>h2 x (List.mem_filter.1 hx).1)
theorem Do(l:List AD):(A2 l).length≤l.length:=Nat.le_trans (Fh _ _) (List.length_filter_le _ _)
theorem L2(l:List AD)(r:List Int):(B6 l r).length≤l.length:=Nat.le_trans (List.length_filter_le _ _) (Do l)
theorem Ln(l:List AD)(r:List ByteArray):(CP l r).length≤l.length:=Nat.le_trans (List.length_filter_le _ _) (Do l)
structure EJ(a:GT)(n:Nat):Prop where
 k1:1≤a.kind
 k18:a.kind≤18
 kids:Bb (if a.kind=17 then 4 else if a.kind=18 then 1 else a.kind)=n
 rho:0≤a.rho
 rhos:∀r∈a.rhos,0≤r
 eff:DD a.eff=true
 gr:BU a.eff=false
 ty:ED [11,13,15] a.kind=true→BF a.ty=true
 res:a.kind=13→BF a.res=true
 tys:EU a.ty 100
 ress:EU a.res 100
 exn:a.exn.size≤100
 at0:0≤a.at_
inductive GL:AT→Prop where
 |node (a:GT) (l:List AT) (h:EJ a l.length) (hl:∀t∈l,GL t):GL (.node a l)
theorem GL.head{a:GT}{l:List AT}(h:GL (.node a l)):EJ a l.length:=by cases h;assumption
theorem GL.kid{a:GT}{l:List AT}(h:GL (.node a l)):∀t∈l,GL t:=by cases h;assumption
structure FT(B:Nat)(x:TE):Prop where
 may:BF x.1=true
 effs:BG x.1=true
 can:DD x.2=true
 exn:∀a∈x.2,a.exn.size≤100
 len:x.2.length≤B
theorem FT.mono{B B':Nat}{x:TE}(h:FT B x)(hb:B≤B'):FT B' x:=⟨h.may,h.effs,h.can,h.exn,Nat.le_trans h.len hb⟩
structure Jt(b:Fp):Prop where
 may:b.fn=none→BF b.ty=true
 effs:BG b.ty=true
 fn:∀f,b.fn=some f→∃n,EJ f n∧BF f.ty=true∧BF f.res=true
theorem Gw(l:List AD):BU l=false↔l.length≤100∧∀a∈l,a.exn.size≤100:=by unfold BU;simp only [Bool.or_eq_false_iff,decide_eq_false_iff_not,Nat.not_lt,List.any_eq_false,decide_eq_true_eq]
theorem QS{l:List AD}(h:BU l=false):BU (A2 l)=false:=by rw [Gw] at h ⊢;exact⟨Nat.le_trans (Do l) h.1,fun a ha=>h.2 a ((Cp _ _).1 ha).1⟩
theorem Mi{l:List AD}(f t:List Int)(h:BU l=false):BU (Kb f t l)=false:=by
 rw [Gw] at h ⊢;refine⟨?_,fun a ha=>?_⟩
 ·unfold Kb;refine Nat.le_trans (Fh _ _) (Nat.le_trans (List.length_filter_le _ _) ?_);rw [List.length_map];exact Nat.le_trans (Do l) h.1
 ·obtain⟨y,hy,_,rfl,_⟩:=V7 ha;have:=h.2 y hy;unfold Ga;split<;>exact this
theorem U3(f t:List Int)(l:List AD):DD (Kb f t l)=true:=Bc _
theorem Hc{r:Int}{f t:List Int}(hr:0≤r)(ht:∀z∈t,0≤z):0≤BS r f t:=by
 rcases Q5 r f t with h|h
 ·rw [h];exact hr
 ·exact ht _ h
theorem Tr{a:LH}{n:Nat}{f t:List Int}(ht:∀z∈t,0≤z)(h:Ar a n=true):Ar (Q3 f t a) n=true:=by
 unfold Ar Q3 at *
 by_cases h1:a.kind=1
 ·simpa [h1] using h
 ·have ag:Kb f t []=[]:=rfl;simp only [h1,if_false] at h ⊢;by_cases h2:a.kind=2
  ·simp only [h2,if_true,Bool.and_eq_true,decide_eq_true_eq] at h ⊢;exact⟨⟨Hc h.1.1 ht,by rw [h.1.2,ag]⟩,h.2⟩
  ·by_cases h3:a.kind=3
   ·simp [h3] at h ⊢;exact⟨⟨Hc h.1.1 ht,by rw [h.1.2,ag]⟩,h.2⟩
   ·by_cases h4:a.kind=4
    ·simp [h4] at h ⊢;exact⟨⟨Hc h.1.1 ht,U3 f t _⟩,h.2⟩
    ·simp [h2,h3,h4] at h
theorem OQ{f t:List Int}(ht:∀z∈t,0≤z)(x:RT):BF x=true→BF (Bz f t x)=true:=by refine AG.ind (P:=fun(x:RT)=>BF x=true→BF (Bz f t x)=true) (fun a l ih h=>?_) x;rw [Eo,Bool.and_eq_true,List.all_eq_true] at h;unfold Bz at ih ⊢;rw [AG.map_node,Eo,Bool.and_eq_true,List.length_map,List.all_map,List.all_eq_true];exact⟨Tr ht h.1,fun u hu=>ih u hu (h.2 u hu)⟩
theorem LJ(f t:List Int)(x:RT):BG x=true→BG (Bz f t x)=true:=by
 refine AG.ind (P:=fun(x:RT)=>BG x=true→BG (Bz f t x)=true) (fun a l ih h=>?_) x;rw [Bi,Bool.and_eq_true,List.all_eq_true] at h;unfold Bz at ih ⊢;rw [AG.map_node,Bi,Bool.and_eq_true,List.all_map,List.all_eq_true];refine⟨?_,fun u hu=>ih u hu (h.2 u hu)⟩;have h1:=h.1;simp only [Bool.not_eq_true'] at h1 ⊢;unfold Q3;split
 ·exact h1
 ·exact Mi f t h1
theorem T4(f t:List Int)(x:RT):(Bz f t x).size=x.size:=AG.size_map _ x
theorem Ml{x:RT}{k:Int}{i:Nat}(h:BF x=true)(hk:x.head.kind=k)(hi:(k=2∨k=4)∧i<2∨k=3∧i<1):i<x.kids.length∧BF (x.kids.getD i Bu)=true:=by
 cases x with
 |node a l=>
  simp only [AG.head,AG.kids] at hk ⊢;rw [Eo,Bool.and_eq_true,List.all_eq_true] at h;obtain⟨h1,h2⟩:=h
  have aF:i<l.length:=by
   unfold Ar at h1;rcases hi with⟨rfl|rfl,hi⟩|⟨rfl,hi⟩
   ·simp [hk] at h1;omega
   ·simp [hk] at h1;omega
   ·simp [hk] at h1;omega
  refine⟨aF,?_⟩;rw [List.getD_eq_getElem?_getD,List.getElem?_eq_getElem aF];exact h2 _ (List.getElem_mem aF)
theorem Ja{x:RT}{i:Nat}(h:BG x=true):BG (x.kids.getD i Bu)=true:=by
 cases x with
 |node a l=>
  rw [Bi,Bool.and_eq_true,List.all_eq_true] at h;simp only [AG.kids];rw [List.getD_eq_getElem?_getD];cases hx:l[i]? with
  |none=>rfl
  |some y=>exact h.2 y (List.mem_of_getElem? hx)
theorem LI{x:RT}(h:BG x=true):BU x.head.eff=false:=by
 cases x with
 |node a l=>
  rw [Bi,Bool.and_eq_true] at h;show BU a.eff=false;simpa using h.1
def Ed(l:List TE):Nat:=(l.map (fun y=>y.2.length)).sum
theorem T6(l:List TE):(l.flatMap (·.2)).length=Ed l:=by unfold Ed;rw [List.length_flatMap]
theorem Hz(l:List TE)(more:List AD):(BO l more).length≤more.length+Ed l:=by unfold BO;refine Nat.le_trans (Do _) ?_;rw [List.length_append,T6];exact Nat.le_refl _
theorem Vd{l:List TE}(j:Nat):(l.getD j Dn).2.length≤Ed l:=by
 rw [List.getD_eq_getElem?_getD];cases h:l[j]? with
 |none=>simp [Dn]
 |some y=>
  unfold Ed;exact BN (List.mem_map_of_mem (f:=fun y:TE=>y.2.length) (List.mem_of_getElem? h))
theorem T5(l:List TE)(k:Nat):Ed (l.drop k)≤Ed l:=by
 have h:Ed l=Ed (l.take k)+Ed (l.drop k):=by unfold Ed;rw [←List.sum_append,←List.map_append,List.take_append_drop]
 omega
theorem Ve(l:List TE):(l.getD 0 Dn).2.length+(l.getD 1 Dn).2.length≤Ed l:=by
 match l with
 |[]=>simp [Dn,Ed]
 |[x]=>simp [Dn,Ed]
 |x::y::l=>simp [Ed]<;>omega
theorem Px{l:List TE}{more:List AD}{x:AD}(h:x∈BO l more):(x∈more∨∃y∈l,x∈y.2)∧AX x=true:=by unfold BO at h;rw [Cp,List.mem_append,List.mem_flatMap] at h;exact h
theorem Mm{k rho:Int}{eff:List AD}{x y:RT}(hk:k=2∧eff=[]∨k=4)(hr:0≤rho)(hx:BF x=true)(hy:BF y=true):BF (Iz k rho eff [x,y])=true:=by
 unfold Iz;rw [Eo,Bool.and_eq_true];refine⟨?_,by simp [hx,hy]⟩;rcases hk with⟨rfl,rfl⟩|rfl
 ·simp [Ar,hr,QJ]
 ·simp [Ar,hr];exact Bc eff
theorem Iq{k rho:Int}{eff:List AD}{l:List RT}(he:BU eff=false)(hl:∀x∈l,BG x=true):BG (Iz k rho eff l)=true:=by unfold Iz;rw [Bi,Bool.and_eq_true,List.all_eq_true];exact⟨by rw [QS he];rfl,hl⟩
theorem EJ.two{a:GT}{n:Nat}(h:EJ a n)(hk:a.kind=3∨a.kind=8∨a.kind=9∨a.kind=10∨a.kind=12∨a.kind=13∨a.kind=16):n=2:=by have:=h.kids;rcases hk with e|e|e|e|e|e|e<;>simp [e,Bb] at this<;>omega
theorem EJ.one{a:GT}{n:Nat}(h:EJ a n)(hk:a.kind=4∨a.kind=5∨a.kind=6∨a.kind=7∨a.kind=11∨a.kind=15∨a.kind=17):n=1:=by have:=h.kids;rcases hk with e|e|e|e|e|e|e<;>simp [e,Bb] at this<;>omega
theorem EJ.three{a:GT}{n:Nat}(h:EJ a n)(hk:a.kind=14):n=3:=by have:=h.kids;simp [hk,Bb] at this;omega
theorem Tx{a:GT}{l:List TE}{x:TE}(ha:EJ a l.length)(hl:∀y∈l,∃B,FT B y)(h2:a.kind≠2)(bj:a.kind≠18)(h:DW a l x):FT (Ed l+102) x:=by
 have hg:∀j,j<l.length→∃B,FT B (l.getD j Dn):=fun j hj=>by rw [List.getD_eq_getElem?_getD,List.getElem?_eq_getElem hj];exact hl _ (List.getElem_mem hj)
 have hJ:∀more:List AD,(∀x∈more,x.exn.size≤100)→∀m:List TE,(∀y∈m,∃B,FT B y)→∀x∈BO m more,x.exn.size≤100:=fun more hm m lC x hx=>by
  rcases (Px hx).1 with h|⟨y,hy,h⟩
  ·exact hm x h
  ·obtain⟨B,hB⟩:=lC y hy;exact hB.exn x h
 have aG:∀more:List AD,more.length≤1→∀m:List TE,Ed m≤Ed l→(BO m more).length≤Ed l+102:=fun more hm m h=>by have:=Hz m more;omega
 have fZ:∀(f:Int→AD),(f=A3∨f=Bm)→∀r,∀x∈[f r],x.exn.size≤100:=fun f hf r x hx=>by rw [List.mem_singleton] at hx;subst hx;rcases hf with rfl|rfl<;>exact Nat.zero_le _
 have ag:∀x∈([]:List AD),x.exn.size≤100:=fun x hx=>by cases hx
 cases h with
 |pair k=>
  have hn:=ha.two (by omega);obtain⟨B0,g0⟩:=hg 0 (by omega);obtain⟨B1,g1⟩:=hg 1 (by omega)
  exact⟨Mm (.inl ⟨rfl,rfl⟩) ha.rho g0.may g1.may,Iq rfl (by intro x hx;simp only [List.mem_cons,List.not_mem_nil,or_false] at hx;rcases hx with rfl|rfl;exact g0.effs;exact g1.effs),
   Bc _,hJ _ (fZ _ (.inl rfl) _) l hl,aG _ (by simp) _ (Nat.le_refl _)⟩
 |proj k ht=>
  have hn:=ha.one (by omega);obtain⟨B0,g0⟩:=hg 0 (by omega);have hk:(l.getD 0 Dn).1.head.kind=2:=by simpa [ON] using ht
  exact⟨(Ml g0.may hk (.inl ⟨.inl rfl,by omega⟩)).2,Ja g0.effs,Bc _,hJ _ (fZ _ (.inr rfl) _) l hl,aG _ (by simp) _ (Nat.le_refl _)⟩
 |ref k=>
  have hn:=ha.one (by omega);obtain⟨B0,g0⟩:=hg 0 (by omega);refine⟨?_,Iq rfl (by intro x hx;rw [List.mem_singleton] at hx;subst hx;exact g0.effs),Bc _,hJ _ (fZ _ (.inl rfl) _) l hl,aG _ (by simp) _ (Nat.le_refl _)⟩;unfold Iz;rw [Eo,Bool.and_eq_true];exact⟨by simp [Ar,ha.rho,QJ],by simpa using g0.may⟩
 |get k ht=>
  have hn:=ha.one (by omega);obtain⟨B0,g0⟩:=hg 0 (by omega);have hk:(l.getD 0 Dn).1.head.kind=3:=by simpa [ON] using ht
  exact⟨(Ml g0.may hk (.inr ⟨rfl,by omega⟩)).2,Ja g0.effs,Bc _,hJ _ (fZ _ (.inr rfl) _) l hl,aG _ (by simp) _ (Nat.le_refl _)⟩
 |set k ht hs=>exact⟨rfl,rfl,Bc _,hJ _ (fZ _ (.inl rfl) _) l hl,aG _ (by simp) _ (Nat.le_refl _)⟩
 |app k ht hs=>
  have hn:=ha.two (by omega);obtain⟨B0,g0⟩:=hg 0 (by omega);have hk:(l.getD 0 Dn).1.head.kind=4:=by simpa [ON] using ht
  have eP:=(Gw _).1 (LI g0.effs);refine⟨(Ml g0.may hk (.inl ⟨.inr rfl,by omega⟩)).2,Ja g0.effs,Bc _,fun x hx=>?_,?_⟩
  ·rcases List.mem_append.1 ((Cp _ _).1 hx).1 with hx|hx
   ·exact hJ _ (fZ _ (.inr rfl) _) l hl x hx
   ·exact eP.2 x hx
  ·refine Nat.le_trans (Do _) ?_;rw [List.length_append];have:=Hz l [Bm (l.getD 0 Dn).1.head.rho];have:=eP.1;simp only [List.length_cons,List.length_nil] at *
   omega
 |op k ht=>exact⟨rfl,rfl,Bc _,hJ _ ag l hl,aG _ (by simp) _ (Nat.le_refl _)⟩
 |ite k ht hs=>
  have hn:=ha.three (by omega);obtain⟨B1,g1⟩:=hg 1 (by omega);exact⟨g1.may,g1.effs,Bc _,hJ _ ag l hl,aG _ (by simp) _ (Nat.le_refl _)⟩
 |raise k ht=>
  exact⟨ha.ty (by simp [k,ED]),ha.tys.effs,Bc _,hJ _ (fun x hx=>by rw [List.mem_singleton] at hx;subst hx;exact ha.exn) l hl,aG _ (by simp) _ (Nat.le_refl _)⟩
 |num k=>exact⟨rfl,rfl,Bc _,hJ _ ag l hl,aG _ (by simp) _ (Nat.le_refl _)⟩
 |fn k hw=>
  have hn:=ha.one (by omega);obtain⟨B0,g0⟩:=hg 0 (by omega);refine⟨Mm (.inr rfl) ha.rho (ha.ty (by simp [k,ED])) g0.may,Iq ha.gr (by intro x hx;simp only [List.mem_cons,List.not_mem_nil,or_false] at hx;rcases hx with rfl|rfl;exact ha.tys.effs;exact g0.effs),Bc _,fun x hx=>?_,?_⟩
  ·exact fZ _ (.inl rfl) _ x ((Cp _ _).1 hx).1
  ·refine Nat.le_trans (Do _) ?_;simp only [List.length_cons,List.length_nil];omega
 |letrec k hs hw=>
  have hn:=ha.two (by omega);obtain⟨B1,g1⟩:=hg 1 (by omega);exact⟨g1.may,g1.effs,Bc _,hJ _ (fZ _ (.inl rfl) _) _ (fun y hy=>hl y (List.mem_of_mem_drop hy)),aG _ (by simp) _ (T5 l 1)⟩
 |handle k hs=>
  have hn:=ha.two (by omega);obtain⟨B0,g0⟩:=hg 0 (by omega);obtain⟨B1,g1⟩:=hg 1 (by omega);refine⟨g0.may,g0.effs,Bc _,fun x hx=>?_,?_⟩
  ·rcases List.mem_append.1 ((Cp _ _).1 hx).1 with hx|hx
   ·exact g0.exn x ((Gy _ _ _).1 hx).1
   ·exact g1.exn x hx
  ·refine Nat.le_trans (Do _) ?_;rw [List.length_append];have:=Ln (l.getD 0 Dn).2 [a.exn];have:=Ve l;omega
 |region k tl=>
  have hn:=ha.one (by omega);obtain⟨B0,g0⟩:=hg 0 (by omega);refine⟨g0.may,g0.effs,Qf _ (Bc _),fun x hx=>g0.exn x ((G0 _ _ _).1 hx).1,?_⟩;show (B6 (l.getD 0 Dn).2 [a.rho]).length≤_;have:=L2 (l.getD 0 Dn).2 [a.rho];have:=Vd (l:=l) 0;omega
 |other k=>
  simp only [List.mem_cons,List.not_mem_nil,or_false,not_or] at k;have mf:a.kind=12:=by have:=ha.k1;have:=ha.k18;omega
  have hn:=ha.two (by omega);obtain⟨B1,g1⟩:=hg 1 (by omega);exact⟨g1.may,g1.effs,Bc _,hJ _ ag l hl,aG _ (by simp) _ (Nat.le_refl _)⟩
theorem QM{env:List Fp}{a:GT}{n i:Nat}{acc:List TE}(ha:EJ a n)(he:∀b∈env,Jt b)(eG:a.kind=12→i=1→BF (acc.getD 0 Dn).1=true∧BG (acc.getD 0 Dn).1=true):∀b∈Ac env a i acc,Jt b:=by
 have my:a.kind=13→Jt ⟨a.name,Bu,some a⟩:=fun k=>⟨fun h=>(nomatch h),rfl,fun f hf=>by
  cases hf
  exact⟨n,ha,ha.ty (by simp [k,ED]),ha.res k⟩⟩
 have mK:ED [11,13,15] a.kind=true→Jt ⟨a.arg,a.ty,none⟩:=fun k=>⟨fun _=>ha.ty k,ha.tys.effs,fun f hf=>by cases hf⟩;intro b hb;unfold Ac at hb;split at hb
 ·rename_i k;rcases List.mem_append.1 hb with hb|hb
  ·exact he b hb
  ·rw [List.mem_singleton] at hb;subst hb;exact mK (by simp [k,ED])
 split at hb
 ·rename_i k;rcases List.mem_append.1 hb with hb|hb
  ·exact he b hb
  ·rw [List.mem_singleton] at hb;subst hb;exact⟨fun _=>(eG k.1 k.2).1,(eG k.1 k.2).2,fun f hf=>by cases hf⟩
 split at hb
 ·rename_i k;rcases List.mem_append.1 hb with hb|hb
  ·exact he b hb
  ·simp only [List.mem_cons,List.not_mem_nil,or_false] at hb;rcases hb with rfl|rfl
   ·exact my k.1
   ·exact mK (by simp [k.1,ED])
 split at hb
 ·rename_i k;rcases List.mem_append.1 hb with hb|hb
  ·exact he b hb
  ·rw [List.mem_singleton] at hb;subst hb;exact my k
 split at hb
 ·rcases List.mem_append.1 hb with hb|hb
  ·exact he b hb
  ·rw [List.mem_singleton] at hb;subst hb;exact⟨fun _=>rfl,rfl,fun f hf=>by cases hf⟩
 ·exact he b hb
theorem Pb{l:List AT}{rs:List TE}(hl:rs.length=l.length)(h:∀(j:Nat) (t:AT) (r:TE),l[j]?=some t→rs[j]?=some r→r.2.length≤102 * t.size):Ed rs≤102 * (l.map AG.size).sum:=by
 induction l generalizing rs with
 |nil=>
  have:rs=[]:=List.length_eq_zero_iff.1 (by simpa using hl);subst this;simp [Ed]
 |cons t l ih=>
  cases rs with
  |nil=>simp at hl
  |cons r rs=>
   have h0:=h 0 t r rfl rfl;have h1:=ih (rs:=rs) (by simpa using hl) (fun j u q hu hq=>h (j+1) u q (by simpa using hu) (by simpa using hq));simp only [Ed,List.map_cons,List.sum_cons] at h1 ⊢;rw [Nat.mul_add];omega
theorem J0(t:AT):∀env rhos x,GL t→(∀b∈env,Jt b)→chk env rhos t=.ok x→FT (102 * t.size) x:=by
 refine AG.ind (P:=fun(t:AT)=>∀env rhos x,GL t→(∀b∈env,Jt b)→chk env rhos t=.ok x→FT (102 * t.size) x) (fun a l ih env rhos x hT he h=>?_) t;have ha:=hT.head;have bX:=hT.kid;rw [UX,QR] at h;obtain⟨⟨hr,h⟩,_⟩:=h;have aU:AG.size (AG.node a l)=1+(l.map AG.size).sum:=AG.size_node a l;rcases h with⟨k,h⟩|⟨k,h⟩|⟨k2,k18,ks,nm,h⟩
 ·unfold Hf Lk at h;cases hf:Df env a.name with
  |none=>rw [hf] at h;cases h
  |some b=>
   rw [hf] at h;simp only [Bo] at h;obtain⟨hn,h⟩:=h;cases h;have hb:=he b (Is hf).1;exact⟨hb.may (by simpa using hn),hb.effs,rfl,fun x hx=>(nomatch hx),Nat.zero_le _⟩
 ·unfold Cm Lk at h;cases hf:Df env a.name with
  |none=>rw [hf] at h;cases h
  |some b=>
   rw [hf] at h;simp only at h;cases hb:b.fn with
   |none=>rw [hb] at h;cases h
   |some f=>
    rw [hb] at h;simp only [Bo,decide_eq_true_eq] at h;obtain⟨aG,_,h⟩:=h;cases h;obtain⟨n,fI,sd,ev⟩:=(he b (Is hf).1).fn f hb;refine⟨Mm (.inr rfl) ha.rho (OQ ha.rhos _ sd) (OQ ha.rhos _ ev),Iq ha.gr (fun x hx=>?_),Bc _,fun x hx=>?_,?_⟩
    ·simp only [List.mem_cons,List.not_mem_nil,or_false] at hx;rcases hx with rfl|rfl
     ·exact LJ _ _ _ fI.tys.effs
     ·exact LJ _ _ _ fI.ress.effs
    ·have:=((Cp _ _).1 hx).1;simp only [List.mem_cons,List.not_mem_nil,or_false] at this;rcases this with rfl|rfl<;>exact Nat.zero_le _
    ·refine Nat.le_trans (Do _) ?_;simp only [List.length_cons,List.length_nil];omega
 ·rw [Qv] at h;obtain⟨rs,j7,hl,hj⟩:=Ox _ _ _ _ nm;rw [List.nil_append] at j7;rw [j7] at h;simp only [List.nil_append,Nat.zero_add] at hj
  have mg:∀(j:Nat) (t:AT) (y:TE),l[j]?=some t→rs[j]?=some y→FT (102 * t.size) y:=by
   intro j;induction j using Nat.strongRecOn with
   |_ j ihj=>
    intro t y ht hy;obtain⟨r,e1,e2⟩:=hj j t ht;rw [e1] at hy;cases hy;refine ih t (List.mem_of_getElem? ht) _ _ _ (bX t (List.mem_of_getElem? ht)) (QM ha he (fun k h1=>?_)) e2;subst h1;have aF:=Bh ht;have sJ:(rs.take 1)[0]?=rs[0]?:=by rw [List.getElem?_take];simp
    have da:rs[0]?=some (rs[0]'(by omega)):=List.getElem?_eq_getElem _;have hg:=ihj 0 (by omega) _ _ (List.getElem?_eq_getElem (show 0<l.length by omega)) da;rw [List.getD_eq_getElem?_getD,sJ,da];exact⟨hg.may,hg.effs⟩
  have bR:∀y∈rs,∃B,FT B y:=fun y hy=>by
   obtain⟨j,f9⟩:=List.getElem?_of_mem hy;have aF:j<l.length:=by rw [←hl];exact Bh f9
   exact⟨_,mg j _ y (List.getElem?_eq_getElem aF) f9⟩
  have hs:=Pb hl (fun j t r ht hr=>(mg j t r ht hr).len);refine(Tx (by rw [hl];exact ha) bR k2 k18 h).mono ?_;rw [aU,Nat.mul_add];omega
def Bg(met:List Int):List Int→Bool
 |[]=>false
 |r::l=>Du met r||Bg (met++[r]) l
def Ft:List GT→List Int→Option Int
 |[],_=>none
 |a::l,met=>if Bg met (BP a) then some a.at_ else Ft l (met++BP a)
def Dv(t:AT):Option Int:=Ft (AG.nodes t) []
def IE(t:AT):E7:=
 match Dv t with
 |some at_=>.error (at_,6)
 |none=>chk [] [0] t
theorem TC{t:AT}{x:TE}:IE t=.ok x↔Dv t=none∧chk [] [0] t=.ok x:=by
 unfold IE;cases h:Dv t with
 |some z=>simp
 |none=>simp
theorem WO{l:List AD}(h:DD l=true):Kb [] [] l=l:=by
 have e:∀m:List AD,m.map (Ga [] [])=m:=fun m=>by
  have:Ga [] []=id:=by funext a;unfold Ga;split<;>rfl
  rw [this,List.map_id]
 show A2 ((A2 l).map (Ga [] []))=l;rw [e,OG,J4 h]
theorem T8(x:RT):BF x=true→Bz [] [] x=x:=by
 refine AG.ind (P:=fun(x:RT)=>BF x=true→Bz [] [] x=x) (fun a l ih h=>?_) x;rw [Eo,Bool.and_eq_true,List.all_eq_true] at h;unfold Bz at ih ⊢;rw [AG.map_node]
 have e1:Q3 [] [] a=a:=by
  unfold Q3;split
  ·rfl
  ·rename_i hk
   have he:DD a.eff=true:=by
    have h1:=h.1;unfold Ar at h1;rw [if_neg hk] at h1;split at h1
    ·simp only [Bool.and_eq_true,decide_eq_true_eq] at h1;rw [h1.1.2];rfl
    ·split at h1
     ·simp only [Bool.and_eq_true,decide_eq_true_eq] at h1;rw [h1.1.2];rfl
     ·split at h1
      ·simp only [Bool.and_eq_true,decide_eq_true_eq] at h1;exact h1.1.2
      ·cases h1
   rw [WO he];rfl
 have e2:l.map (AG.map (Q3 [] []))=l:=by have:l.map (AG.map (Q3 [] []))=l.map id:=List.map_congr_left (fun y hy=>ih y hy (h.2 y hy));rw [this,List.map_id]
 rw [e1,e2]
def MP:Option Addr→List Nat
 |some ad=>[ad.block]
 |none=>[]
theorem Iu{p:Option Addr}{b:Nat}:b∈MP p↔∃ad,p=some ad∧ad.block=b:=by
 cases p with
 |none=>simp [MP]
 |some ad=>simp [MP,eq_comm]
def A7:PT→List Nat:=AG.fold (fun a l=>(if l.isEmpty then [] else MP a.kp)++(if a.eff.isEmpty then [] else MP a.ep)++l.flatten)
theorem CZ(a:RH)(l:List PT):A7 (.node a l)=(if l.isEmpty then [] else MP a.kp)++(if a.eff.isEmpty then [] else MP a.ep)++l.flatMap A7:=by unfold A7;rw [AG.fold_node,List.isEmpty_map,List.flatMap_def]
theorem Vm{a:RH}{l:List PT}{ad:Addr}(hl:l≠[])(h:a.kp=some ad):ad.block∈A7 (.node a l):=by
 rw [CZ];cases l with
 |nil=>exact absurd rfl hl
 |cons x l=>simp [Iu,h]
theorem Vl{a:RH}{l:List PT}{ad:Addr}(hl:a.eff≠[])(h:a.ep=some ad):ad.block∈A7 (.node a l):=by
 rw [CZ];cases he:a.eff with
 |nil=>exact absurd he hl
 |cons x m=>simp [Iu,h]
theorem K7{a:RH}{l:List PT}{t:PT}(ht:t∈l){b:Nat}(hb:b∈A7 t):b∈A7 (.node a l):=by rw [CZ];exact List.mem_append.2 (.inr (List.mem_flatMap.2 ⟨t,ht,hb⟩))
theorem FJ{a:RH}{l:List PT}{b:Nat}(h:b∈A7 (.node a l)):(l≠[]∧∃ad,a.kp=some ad∧ad.block=b)∨(a.eff≠[]∧∃ad,a.ep=some ad∧ad.block=b)∨∃t∈l,b∈A7 t:=by
 rw [CZ,List.mem_append,List.mem_append] at h;rcases h with(h|h)|h
 ·refine .inl ?_;split at h
  ·cases h
  ·rename_i hl;exact⟨by intro e;subst e;simp at hl,Iu.1 h⟩
 ·refine .inr (.inl ?_);split at h
  ·cases h
  ·rename_i hl;exact⟨by intro e;rw [e] at hl;simp at hl,Iu.1 h⟩
 ·exact .inr (.inr (List.mem_flatMap.1 h))
theorem Bf{α:Type}{enc:α→List Value}{k:Nat}{w:World}{p:Option Addr}{l:List α}(h:Au enc k w p l)(hl:l≠[]){ad:Addr}(hp:p=some ad):ad.block<w.heap.size:=by
 rcases h with h|⟨b,o,hb,aF,_⟩
 ·exact absurd h hl
 ·rw [hp] at hb;cases hb;exact aF
theorem AN{w:World}(t:PT):LR.lies w t→∀b∈A7 t,b<w.heap.size:=by
 refine AG.ind (P:=fun(t:PT)=>LR.lies w t→∀b∈A7 t,b<w.heap.size) (fun a l ih h b hb=>?_) t;have hn:=BD h;rcases FJ hb with⟨hl,ad,hp,rfl⟩|⟨hl,ad,hp,rfl⟩|⟨u,hu,hb⟩
 ·exact Bf hn.kids.row hl hp
 ·exact Bf hn.own.eff.row hl hp
 ·exact ih u hu (hn.each u hu) b hb
theorem Cg{w w':World}{r:Option Nat}(hg:w.grownBy w' r)(t:PT):(∀b∈A7 t,r≠some b)→LR.lies w t→LR.lies w' t:=by refine AG.ind (P:=fun(t:PT)=>(∀b∈A7 t,r≠some b)→LR.lies w t→LR.lies w' t) (fun a l ih ho h=>?_) t;have hn:=BD h;refine BK.lies ⟨⟨BY hg (fun he ad hp=>ho _ (Vl he hp)) hn.own.eff,hn.own.ok,hn.own.k0,hn.own.k1,hn.own.r0,hn.own.r1,hn.own.kmax,hn.own.kle,hn.own.knil⟩,BY hg (fun hl ad hp=>ho _ (Vm hl hp)) hn.kids,fun t ht=>ih t ht (fun b hb=>ho b (K7 ht hb)) (hn.each t ht)⟩
theorem Gm{N B E:Nat}(t:PT):Dt N B E t→∀b∈A7 t,b<N∨B≤b:=by
 refine AG.ind (P:=fun(t:PT)=>Dt N B E t→∀b∈A7 t,b<N∨B≤b) (fun a l ih h b hb=>?_) t;have h0:=h a (by rw [AG.nodes_node];simp);rcases FJ hb with⟨hl,ad,hp,rfl⟩|⟨hl,ad,hp,rfl⟩|⟨u,hu,hb⟩
 ·exact .inr (h0.1 ad hp).1
 ·exact(h0.2 hl ad hp).1
 ·exact ih u hu (fun x hx=>h x (by rw [AG.nodes_node,List.mem_cons,List.mem_flatten];exact .inr ⟨u.nodes,List.mem_map_of_mem hu,hx⟩)) b hb
structure BV where
 name:ByteArray
 ty:PT
 fn:Option (AH×Nat)
def FV(b:BV):List Value:=[.string b.name,.int .u8 b.ty.head.kind,.int .i64 b.ty.head.rho,.slice b.ty.head.ep b.ty.head.en b.ty.head.ec,.slice b.ty.head.kp b.ty.head.kn b.ty.head.kc,.pointer (b.fn.map (fun x=>⟨x.2,0,none⟩))]
theorem Ej(b:BV):(FV b).length=6:=rfl
theorem TN:∀b:BV,∀u∈FV b,u.oneCell'=true:=by intro b u hu;simp [FV] at hu;rcases hu with rfl|rfl|rfl|rfl|rfl|rfl<;>rfl
abbrev K8(b:BV):Value:=.agg #[.string b.name,.int .u8 b.ty.head.kind,.int .i64 b.ty.head.rho,.slice b.ty.head.ep b.ty.head.en b.ty.head.ec,.slice b.ty.head.kp b.ty.head.kn b.ty.head.kc,.pointer (b.fn.map (fun x=>⟨x.2,0,none⟩))]
def BV.er(b:BV):Fp:=⟨b.name,b.ty.er,b.fn.map (fun x=>x.1.plain)⟩
structure BV.Ok(w0 w:World)(S:Nat→Prop)(b:BV):Prop where
 ty:LR.lies w b.ty
 uses:∀x∈A7 b.ty,S x
 fn:∀a g,b.fn=some (a,g)→Ht w g 0 a∧AH.Own w0 a∧g<w.heap.size
 name:b.name.size≤9223372036854775807
theorem BV.Ok.below{w0 w w':World}{S:Nat→Prop}{b:BV}(h:b.Ok w0 w S)(hb:Below w.heap.size w w'):b.Ok w0 w' S:=⟨LR.lies_below hb _ h.ty,h.uses,fun a g e=>⟨(h.fn a g e).1.below hb (h.fn a g e).2.2,(h.fn a g e).2.1,Nat.lt_of_lt_of_le (h.fn a g e).2.2 hb.size⟩,h.name⟩
theorem BV.Ok.weak{w0 w:World}{S S':Nat→Prop}{b:BV}(h:b.Ok w0 w S)(hs:∀x∈A7 b.ty,S' x):b.Ok w0 w S':=⟨h.ty,hs,h.fn,h.name⟩
structure Dc(w0 w:World)(S:Nat→Prop)(p:Option Addr)(n c:Nat)(env:List BV):Prop where
 row:AE FV 6 w p n c env
 each:∀b∈env,b.Ok w0 w S
theorem Dc.below{w0 w w':World}{S:Nat→Prop}{p:Option Addr}{n c:Nat}{env:List BV}(h:Dc w0 w S p n c env)(hb:Below w.heap.size w w'):Dc w0 w' S p n c env:=⟨h.row.below hb,fun b cw=>(h.each b cw).below hb⟩
theorem Dc.weak{w0 w:World}{S S':Nat→Prop}{p:Option Addr}{n c:Nat}{env:List BV}(h:Dc w0 w S p n c env)(hs:∀x,x<w.heap.size→S x→S' x):Dc w0 w S' p n c env:=⟨h.row,fun b hb=>(h.each b hb).weak (fun x hx=>hs x (AN _ (h.each b hb).ty x hx) ((h.each b hb).uses x hx))⟩
def DZ(env:List BV):List Fp:=env.map BV.er
structure RV where
 ty:PT
 ep:Option Addr
 en:Nat
 ec:Nat
 eff:List AD
def Ck(r:RV):List Value:=[.int .u8 r.ty.head.kind,.int .i64 r.ty.head.rho,.slice r.ty.head.ep r.ty.head.en r.ty.head.ec,.slice r.ty.head.kp r.ty.head.kn r.ty.head.kc,.slice r.ep r.en r.ec]
theorem Ge(r:RV):(Ck r).length=5:=rfl
theorem TP:∀r:RV,∀u∈Ck r,u.oneCell'=true:=by intro r u hu;simp [Ck] at hu;rcases hu with rfl|rfl|rfl|rfl|rfl<;>rfl
abbrev K9(r:RV):Value:=.agg #[.int .u8 r.ty.head.kind,.int .i64 r.ty.head.rho,.slice r.ty.head.ep r.ty.head.en r.ty.head.ec,.slice r.ty.head.kp r.ty.head.kn r.ty.head.kc,.slice r.ep r.en r.ec]
def RV.er(r:RV):TE:=(r.ty.er,r.eff)
structure RV.Ok(w:World)(S:Nat→Prop)(r:RV):Prop where
 ty:LR.lies w r.ty
 uses:∀x∈A7 r.ty,S x
 eff:AE AS 3 w r.ep r.en r.ec r.eff
 eok:∀x∈r.eff,Cq x
 euse:r.eff≠[]→∀ad,r.ep=some ad→S ad.block
theorem RV.Ok.below{w w':World}{S:Nat→Prop}{r:RV}(h:r.Ok w S)(hb:Below w.heap.size w w'):r.Ok w' S:=⟨LR.lies_below hb _ h.ty,h.uses,h.eff.below hb,h.eok,h.euse⟩
theorem RV.Ok.weak{w:World}{S S':Nat→Prop}{r:RV}(h:r.Ok w S)(hs:∀x,x<w.heap.size→S x→S' x):r.Ok w S':=⟨h.ty,fun x hx=>hs x (AN _ h.ty x hx) (h.uses x hx),h.eff,h.eok,fun he ad hp=>hs _ (Bf h.eff.row he hp) (h.euse he ad hp)⟩
theorem RV.Ok.grown{w w':World}{S:Nat→Prop}{r:RV}{row:Option Nat}(h:r.Ok w S)(hg:w.grownBy w' row)(hr:∀b,row=some b→¬S b):r.Ok w' S:=⟨Cg hg _ (fun b hb e=>hr b e (h.uses b hb)) h.ty,h.uses,BY hg (fun he ad hp e=>hr _ e (h.euse he ad hp)) h.eff,h.eok,h.euse⟩
structure Jw(w:World)(S:Nat→Prop)(p:Option Addr)(n c:Nat)(l:List RV):Prop where
 row:AE Ck 5 w p n c l
 each:∀r∈l,r.Ok w S
theorem Jw.below{w w':World}{S:Nat→Prop}{p:Option Addr}{n c:Nat}{l:List RV}(h:Jw w S p n c l)(hb:Below w.heap.size w w'):Jw w' S p n c l:=⟨h.row.below hb,fun r hr=>(h.each r hr).below hb⟩
def Ak(l:List RV):List TE:=l.map RV.er
abbrev Jq(at_ no:Int):Value:=.iface 79 (.agg #[.int .i64 at_,.int .i64 no])
def Dd(W:World)(S:Nat→Prop)(r:E7)(e:Ending)(w':World):Prop:=
 (match r with
  |.ok x=>∃y:RV,e=.returned (K9 y)∧y.er=x∧y.Ok w' S
  |.error (a,n)=>e=.panicked [{ v:=Jq a n,recovered:=false }])∧Below W.heap.size W w'
theorem Dy(r:Int)(w:World):Calls prog 137 #[.int .i64 r] w (RB w (MJ (Bm r))):=by go_enter func137,ntmps137;go_wp2_with fail;refine br (heap_alloc_new w _) underlying59 ?_;exact⟨rfl,(Below.refl w.heap.size w).alloc (Nat.le_refl _) _⟩
theorem DS(r:Int)(w:World):Calls prog 138 #[.int .i64 r] w (RB w (MJ (A3 r))):=by go_enter func138,ntmps138;go_wp2_with fail;refine br (heap_alloc_new w _) underlying59 ?_;exact⟨rfl,(Below.refl w.heap.size w).alloc (Nat.le_refl _) _⟩
theorem BZ(a:AH)(no:Int)(w:World):Calls prog 64 #[.bool true,Aj a,.int .i64 no] w (RB w (.tuple #[])):=by have HB:=AA ((Below.refl w.heap.size w).alloc (Nat.le_refl _) (AO a));go_enter func64,ntmps64;go_wp2_with fail;go_end0;exact⟨rfl,HB.o⟩
theorem Bd(a:AH)(no:Int)(w:World):Calls prog 64 #[.bool false,Aj a,.int .i64 no] w fun e w'=>e=.panicked [{ v:=Jq a.at_ no,recovered:=false }]∧Below w.heap.size w w':=by have HB:=AA ((Below.refl w.heap.size w).alloc (Nat.le_refl _) (AO a));go_enter func64,ntmps64;go_wp2_with fail;exact⟨rfl,rfl,HB.o⟩
theorem JJ(r:RV)(k:Int)(w:World):Calls prog 141 #[K9 r,.int .u8 k] w (RB w (.bool (r.ty.head.kind==k))):=by go_enter func141,ntmps141;go_wp2_with fail;go_ret;exact⟨AB rfl,(Below.refl w.heap.size w).alloc (Nat.le_refl _) _⟩
theorem DG(k rho:Int){p:Option Addr}{n c:Nat}{l:List AD}{w:World}(hr:AE AS 3 w p n c l)(hm:n≤1000000)(kp:Option Addr)(kn kc:Nat):Calls prog 136 #[.int .u8 k,.int .i64 rho,.slice p n c,.slice kp kn kc] w fun e w'=>∃q m qc,e=.returned (.agg #[.int .u8 k,.int .i64 rho,.slice q m qc,.slice kp kn kc])∧AE AS 3 w' q m qc (A2 l)∧(∀ad,q=some ad→w.heap.size≤ad.block)∧Below w.heap.size w w':=by
 have aY:Below w.heap.size w (w.alloc (.cells #[.int .u8 0,.int .i64 0,.slice none 0 0,.slice none 0 0] 28)):=(Below.refl w.heap.size w).alloc (Nat.le_refl _) _;have HR:=AA (hr.below aY);have cx:=AA aY;clear hr aY;go_enter func136,ntmps136;go_wp2_with fail;refine(CJ p n c l _ HR.o.len hm HR.o.row).mono ?_;rintro e w2 ⟨v,m,rfl,cB,aB,hb⟩;obtain⟨q,qc,rfl,aD⟩:=AJ.isRow AF (by omega) aB;have jt:=fun b hb=>AJ.from aB b hb;have aL:=AA aD;have lM:=AA jt;have HB:=bt cx hb;have gh:w2.heap[w.heap.size]?=some (.cells #[.int .u8 0,.int .i64 0,.slice none 0 0,.slice none 0 0] 28 (0,0)):=(hb.block _ (by simp)).trans (heap_alloc_new w _);have lf:=AA gh;clear aB aD jt hb gh;go_wp2_with (refine sw #[.int .u8 k,.int .i64 rho,.slice q m qc,.slice kp kn kc] lf.o ?_);refine br (setRow_heap _ _ _ _ _ _ lf.o) underlying28 ?_;have hg:w2.grownBy (w2.setRow w.heap.size #[.int .u8 k,.int .i64 rho,.slice q m qc,.slice kp kn kc]) (some w.heap.size):=⟨rfl,rfl,rfl,by simp,fun k hk aS=>setRow_other _ _ _ _ (fun e=>aS (by rw [e]))⟩;have aS:∀ad,q=some ad→w.heap.size+1≤ad.block:=fun ad hp=>by subst hp;have:=lM.o ad.block rfl;simpa using this
 exact⟨q,m,qc,rfl,BY hg (fun _ ad hp e=>by have:=aS ad hp;injection e with e;omega) aL.o,fun ad hp=>by have:=aS ad hp;omega,HB.o.grown hg HB.o.size (fun k e=>by cases e;exact Nat.le_refl _)⟩
theorem Qt{α:Type}{enc:α→List Value}{k:Nat}(hk:∀x,(enc x).length=k)(ba:0<k){w:World}{ad:Addr}{l:List α}(h:Au enc k w (some ad) l):∀j u,(l.flatMap enc)[j]?=some u→w.cell? (ad.add j)=some u:=by
 intro j u hj;rcases h with h0|⟨b,o',hb,aF,hc⟩
 ·subst h0;simp at hj
 ·cases hb
  have iZ:j<l.length * k:=by rw [←Ao hk];exact Bh hj
  have hq:j / k<l.length:=Nat.div_lt_of_lt_mul (by rw [Nat.mul_comm];exact iZ);have hm:j % k<k:=Nat.mod_lt _ ba;have hf:=DN hk l (j / k) _ (j % k) (List.getElem?_eq_getElem hq) hm;rw [Nat.div_add_mod' j k,hj] at hf;have:=hc (j / k) _ (List.getElem?_eq_getElem hq) (j % k) u hf.symm;rw [FA,←Nat.div_add_mod' j k,←Nat.add_assoc];exact this
theorem Ly{P:Program}{α:Type}{enc:α→List Value}{k:Nat}(hk:∀x,(enc x).length=k)(ba:0<k)(h1:∀y,∀u∈enc y,u.oneCell'=true)(t ty e:TypeId)(z:Value)(bytes:Nat)(ht:P.underlying t=some (.slice e))(bd:(P.info? e).map (fun i=>(i.zero,i.size,i.bytes))=some (some z,k,bytes))(fK:z.cells.size=k){w:World}{p q:Option Addr}{n m c:Nat}{l l':List α}(hr:AE enc k w p n n l)(aT:AE enc k w q m c l')(aj:(n+m) * bytes≤140737488355328)(gz:n+m≤1000000):∃p' c' w',(Builtin.append_ #[t,t] ty #[.slice p n n,.slice q m c]).run P w=.ok (.slice p' (n+m) c') w'∧AE enc k w' p' (n+m) c' (l++l')∧Below w.heap.size w w'∧(l'=[]∧p'=p∨∀ad,p'=some ad→w.heap.size≤ad.block):=by
 obtain⟨i,hi,hz,cH,gL⟩:=info_parts bd;rcases Nat.eq_zero_or_pos m with h0|dZ
 ·subst h0;have ia:l'=[]:=List.length_eq_zero_iff.1 aT.len;subst ia
  have hs:Src P i.size t (.slice q 0 c) 0 [] w:=by
   cases q with
   |none=>exact Src.ofNil w ht c
   |some ad=>exact Src.ofSlice w ht ad 0 c [] (by simp) (by intro j u h;simp at h) (by simp)
  exact⟨p,n,w,run_append_nothing w t t ty e i ht hi p n n (Nat.le_refl _) _ hs,by simpa using hr,Below.refl _ _,.inl ⟨rfl,rfl⟩⟩
 ·have hq:∃ad,q=some ad:=by
   cases q with
   |none=>have:=aT.nil rfl;have:=aT.le;omega
   |some ad=>exact⟨ad,rfl⟩
  obtain⟨ad',rfl⟩:=hq;have j1:=Qt hk ba aT.row;have lD:∀u∈l'.flatMap enc,u.oneCell'=true:=fun u hu=>by obtain⟨y,_,hy⟩:=List.mem_flatMap.1 hu;exact h1 y u hy
  have fin:∀v' w',(Builtin.append_ #[t,t] ty #[.slice p n n,.slice (some ad') m c]).run P w=.ok v' w'→AJ enc k w' w.heap.size e v' (n+m) (l++l')→w.grownBy w' none→∃p' c' w',(Builtin.append_ #[t,t] ty #[.slice p n n,.slice (some ad') m c]).run P w=.ok (.slice p' (n+m) c') w'∧AE enc k w' p' (n+m) c' (l++l')∧Below w.heap.size w w'∧(l'=[]∧p'=p∨∀ad,p'=some ad→w.heap.size≤ad.block):=fun v' w' cW aB hg=>by obtain⟨p',c',rfl,aD⟩:=AJ.isRow hk ba aB;exact⟨p',c',w',cW,aD,En hg (Nat.le_refl _) (fun b h=>by cases h),.inr (fun ad hp=>by subst hp;exact AJ.from aB ad.block rfl)⟩
  cases p with
  |some ad=>
   obtain⟨v',w',cW,aB,hg⟩:=run_append_arg_grows (P:=P) w t ty e i z k bytes ht hi hz cH gL fK ba ad n n (l.flatMap enc) (by rw [Ao hk,hr.len]) (Qt hk ba hr.row) ad' m c (l'.flatMap enc) (by rw [Ao hk,aT.len]) j1 (by omega) (by unfold maxLen;omega) aj;exact fin v' w' cW (by unfold AJ;rw [List.flatMap_append];exact aB) hg
  |none=>
   have mq:=hr.nil rfl;subst mq;have ia:l=[]:=List.length_eq_zero_iff.1 hr.len;subst ia;obtain⟨v',w',cW,aB,hg,_,_⟩:=run_append_own_at (P:=P) w w.heap.size t ty e i z k bytes ht hi hz cH gL fK ba (.slice none 0 0) 0 [] (World.ownsRow_nil _ _ _ _) ad' m c (l'.flatMap enc) (by rw [Ao hk,aT.len]) j1 lD (by unfold maxLen;omega) aj (Nat.le_refl _);exact fin v' w' cW (by unfold AJ;simpa using aB) hg
theorem GI{P:Program}{α:Type}{ops:Array Oper}{rest:List Oper}{o:Oper}{a:Act}{Q:Exit→Act→World→Prop}(au:o.guard=none)(s x:Operand)(t:TypeId)(ho:o.op=.call { callee:=.builtin .append,args:=#[s,x],argTypes:=#[t,t] })(enc:α→List Value)(k:Nat)(hk:∀x,(enc x).length=k)(ba:0<k)(h1:∀y,∀u∈enc y,u.oneCell'=true)(e:TypeId)(z:Value)(bytes:Nat)(ht:P.underlying t=some (.slice e))(bd:(P.info? e).map (fun i=>(i.zero,i.size,i.bytes))=some (some z,k,bytes))(fK:z.cells.size=k){w:World}(p q:Option Addr)(n m c:Nat)(l l':List α)(hs:a.eval s=.slice p n n)(hx:a.eval x=.slice q m c)(hr:AE enc k w p n n l)(aT:AE enc k w q m c l')(aj:(n+m) * bytes≤140737488355328)(gz:n+m≤1000000)(h:∀p' c' w',AE enc k w' p' (n+m) c' (l++l')→Below w.heap.size w w'→(l'=[]∧p'=p∨∀ad,p'=some ad→w.heap.size≤ad.block)→wpList P ops Q rest (a.put o.dst (.slice p' (n+m) c')) w'):wpList P ops Q (o::rest) a w:=by refine wpList_plain au fun K' ko=>?_;obtain⟨p',c',w',cW,aD,hb,cX⟩:=Ly (P:=P) hk ba h1 t o.type e z bytes ht bd fK hr aT aj gz;unfold Oper.wp execOp;simp only [ho,resolve,invoke,builtin,Sem.run_bind,Sem.run_pure,Result.andThen_ok,List.map_toArray,List.map_cons,List.map_nil,hs,hx,cW];exact ko _ _ (h p' c' w' aD hb cX)
theorem TK{w:World}{p:Option Addr}{n c:Nat}{l:List Int}(hr:AE Ab 1 w p n c l):Calls prog 184 #[.slice p n c] w fun e w'=>e=.returned (.slice p n n)∧w=w':=by
 have HR:=AA hr;have cB:=hr.le;have hm:=hr.max;clear hr;cases p with
 |none=>
  have hc:=HR.o.nil rfl;subst hc;obtain rfl:n=0:=by omega
  go_enter func184,ntmps184;go_wp2_with fail;go_ret;exact⟨rfl,rfl⟩
 |some ad=>
  obtain⟨b,o,s⟩:=ad;go_enter func184,ntmps184;go_wp2_with fail;go_ret;exact⟨rfl,rfl⟩
theorem TJ{w:World}{p:Option Addr}{n c:Nat}{l:List BV}(hr:AE FV 6 w p n c l):Calls prog 190 #[.slice p n c] w fun e w'=>e=.returned (.slice p n n)∧w=w':=by
 have HR:=AA hr;have cB:=hr.le;have hm:=hr.max;clear hr;cases p with
 |none=>
  have hc:=HR.o.nil rfl;subst hc;obtain rfl:n=0:=by omega
  go_enter func190,ntmps190;go_wp2_with fail;go_ret;exact⟨rfl,rfl⟩
 |some ad=>
  obtain⟨b,o,s⟩:=ad;go_enter func190,ntmps190;go_wp2_with fail;go_ret;exact⟨rfl,rfl⟩
theorem AE.clip{α:Type}{enc:α→List Value}{k:Nat}{w:World}{p:Option Addr}{n c:Nat}{l:List α}(h:AE enc k w p n c l):AE enc k w p n n l:=⟨h.len,h.max,Nat.le_refl _,fun e=>by have:=h.nil e;have:=h.le;omega,h.row⟩
theorem Wr:(prog.info? 145).map (fun i=>(i.zero,i.size,i.bytes))=some (some (.agg #[.string .empty,.int .u8 0,.int .i64 0,.slice none 0 0,.slice none 0 0,.pointer none]),6,88):=by kernel_rfl
structure Pu(w W:World)(x y:Value):Prop where
 b0:W.heap[w.heap.size]?=some (.cells #[x,y] 84 (0,0))
 b1:W.heap[w.heap.size+1]?=some (.cells #[.slice none 0 0,.slice none 0 0] 84 (0,0))
 below:Below w.heap.size w W
theorem Qy(w:World)(x y:Value):Pu w ((w.alloc (.cells #[x,y] 84)).alloc (.cells #[.slice none 0 0,.slice none 0 0] 84)) x y:=by have e1:=heap_alloc_new (w.alloc (.cells #[x,y] 84)) (.cells #[.slice none 0 0,.slice none 0 0] 84);simp only [World.size_alloc] at e1;refine⟨?_,e1,((Below.refl w.heap.size w).alloc (Nat.le_refl _) _).alloc (by simp) _⟩;rw [Below.heap_alloc _ _ _ (by simp)];exact heap_alloc_new w _
theorem Pu.step{w W W':World}{x y:Value}(h:Pu w W x y)(hb:Below W.heap.size W W'):Pu w W' x y:=⟨(hb.block _ (Array.getElem?_eq_some_iff.1 h.b0).1).trans h.b0,(hb.block _ (Array.getElem?_eq_some_iff.1 h.b1).1).trans h.b1,h.below.trans (hb.mono h.below.size)⟩
theorem Pu.cells{w W:World}{x y:Value}(h:Pu w W x y):W.cell? ⟨w.heap.size,0,none⟩=some x∧W.cell? ⟨w.heap.size,1,none⟩=some y∧W.frozen? ⟨w.heap.size,0,none⟩=false∧W.frozen? ⟨w.heap.size,1,none⟩=false:=by refine⟨?_,?_,?_,?_⟩<;>simp only [World.cell?,World.frozen?,h.b0]<;>rfl
theorem Pu.set{w W:World}{x y x':Value}{i:Nat}(h:Pu w W x y):(W.setCell ⟨w.heap.size,i,none⟩ x').heap[w.heap.size+1]?=some (.cells #[.slice none 0 0,.slice none 0 0] 84 (0,0))∧Below w.heap.size w (W.setCell ⟨w.heap.size,i,none⟩ x')∧W.grownBy (W.setCell ⟨w.heap.size,i,none⟩ x') (some w.heap.size):=
 have hg:=AL W w.heap.size i x'
 ⟨(hg.block _ (Array.getElem?_eq_some_iff.1 h.b1).1 (fun e=>by injection e with e;omega)).trans h.b1,h.below.grown hg h.below.size (fun k e=>by cases e;exact Nat.le_refl _),hg⟩
theorem Fg{α:Type}{enc:α→List Value}{k:Nat}{w w':World}{r:Nat}{p:Option Addr}{n c:Nat}{l:List α}(h:AE enc k w p n c l)(hg:w.grownBy w' (some r))(hr:l≠[]→∀ad,p=some ad→ad.block≠r):AE enc k w' p n c l:=BY hg (fun hl ad hp e=>by injection e with e;exact hr hl ad hp e.symm) h
theorem BB{W:World}{r:Nat}{cs:Array Value}:W.grownBy (W.setRow r cs) (some r):=⟨rfl,rfl,rfl,by simp,fun k hk aS=>setRow_other _ _ _ _ (fun e=>aS (by rw [e]))⟩
theorem DA{w:World}{p:Option Addr}{n c:Nat}{l:List BV}(hr:AE FV 6 w p n c l)(rp:Option Addr)(rn rc:Nat){q:Option Addr}{m mc:Nat}{l':List BV}(aT:AE FV 6 w q m mc l')(h:n+m≤1000000):Calls prog 139 #[.agg #[.slice p n c,.slice rp rn rc],.slice q m mc] w fun e w'=>∃p' c',e=.returned (.agg #[.slice p' (n+m) c',.slice rp rn rc])∧AE FV 6 w' p' (n+m) c' (l++l')∧Below w.heap.size w w'∧(l'=[]∧p'=p∨∀ad,p'=some ad→w.heap.size≤ad.block):=by
 have hs:=Qy w (.slice p n c) (.slice rp rn rc);have HS:=AA hs;have gv:=AA hr;have HR:=AA (hr.below hs.below);have cD:=AA (aT.below hs.below);have aU:((w.alloc (.cells #[.slice p n c,.slice rp rn rc] 84)).alloc (.cells #[.slice none 0 0,.slice none 0 0] 84)).heap.size=w.heap.size+2:=by simp
 clear hr aT hs;go_enter func139,ntmps139;go_wp2_with fail;refine(TJ HR.o).mono ?_;rintro e w1 ⟨rfl,rfl⟩;generalize (w.alloc (.cells #[.slice p n c,.slice rp rn rc] 84)).alloc (.cells #[.slice none 0 0,.slice none 0 0] 84)=W1 at *
 go_wp2_with (first
  |(refine GI rfl _ _ 82 rfl FV 6 Ej (by decide) TN 145 _ 88 underlying82 Wr rfl p q n m mc l l' rfl rfl HR.o.clip cD.out (by omega) (by omega) ?_;intro p' c' w2 aD hb cX;have aL:=AA aD;have kX:=AA cX;have dV:=AA (HS.o.step hb);obtain⟨x0,x1,x2,x3⟩:=dV.o.cells;clear aD hb cX)
  |(refine sw #[.slice p' (n+m) c',.slice rp rn rc] (dV.o.set).1 ?_))
 refine br (setRow_heap _ _ _ _ _ _ (dV.o.set).1) underlying84 ?_
 have aS:l++l'≠[]→∀ad,p'=some ad→ad.block≠w.heap.size∧ad.block≠w.heap.size+1:=fun hl ad hp=>by
  rcases kX.o with⟨h1,h2⟩|h2
  ·subst h1;have aF:=Bf gv.o.row (by simpa using hl) (h2▸hp);omega
  ·have:=h2 ad hp;omega
 have hg:=(dV.o.set (i:=0) (x':=.slice p' (n+m) c'));exact⟨p',c',rfl,Fg (Fg aL.o hg.2.2 (fun hl ad hp=>(aS hl ad hp).1)) BB (fun hl ad hp=>(aS hl ad hp).2),hg.2.1.grown BB hg.2.1.size (fun k e=>by cases e;omega),kX.o.imp id (fun h ad hp=>by have:=h ad hp;omega)⟩
theorem Eb{w:World}{p:Option Addr}{n c:Nat}{l:List Int}(hr:AE Ab 1 w p n c l)(rp:Option Addr)(rn rc:Nat){q:Option Addr}{m mc:Nat}{l':List Int}(aT:AE Ab 1 w q m mc l')(h:n+m≤1000000):Calls prog 131 #[.agg #[.slice rp rn rc,.slice p n c],.slice q m mc] w fun e w'=>∃p' c',e=.returned (.agg #[.slice rp rn rc,.slice p' (n+m) c'])∧AE Ab 1 w' p' (n+m) c' (l++l')∧Below w.heap.size w w'∧(l'=[]∧p'=p∨∀ad,p'=some ad→w.heap.size≤ad.block):=by
 have hs:=Qy w (.slice rp rn rc) (.slice p n c);have HS:=AA hs;have gv:=AA hr;have HR:=AA (hr.below hs.below);have cD:=AA (aT.below hs.below);have aU:((w.alloc (.cells #[.slice rp rn rc,.slice p n c] 84)).alloc (.cells #[.slice none 0 0,.slice none 0 0] 84)).heap.size=w.heap.size+2:=by simp
 clear hr aT hs;go_enter func131,ntmps131;go_wp2_with fail;refine(TK HR.o).mono ?_;rintro e w1 ⟨rfl,rfl⟩;generalize (w.alloc (.cells #[.slice rp rn rc,.slice p n c] 84)).alloc (.cells #[.slice none 0 0,.slice none 0 0] 84)=W1 at *
 go_wp2_with (first
  |(refine GI rfl _ _ 24 rfl Ab 1 Ag (by decide) Co 3 _ 8 underlying24 F9 rfl p q n m mc l l' rfl rfl HR.o.clip cD.out (by omega) (by omega) ?_;intro p' c' w2 aD hb cX;have aL:=AA aD;have kX:=AA cX;have dV:=AA (HS.o.step hb);obtain⟨x0,x1,x2,x3⟩:=dV.o.cells;clear aD hb cX)
  |(refine sw #[.slice rp rn rc,.slice p' (n+m) c'] (dV.o.set).1 ?_))
 refine br (setRow_heap _ _ _ _ _ _ (dV.o.set).1) underlying84 ?_
 have aS:l++l'≠[]→∀ad,p'=some ad→ad.block≠w.heap.size∧ad.block≠w.heap.size+1:=fun hl ad hp=>by
  rcases kX.o with⟨h1,h2⟩|h2
  ·subst h1;have aF:=Bf gv.o.row (by simpa using hl) (h2▸hp);omega
  ·have:=h2 ad hp;omega
 have hg:=(dV.o.set (i:=1) (x':=.slice p' (n+m) c'));exact⟨p',c',rfl,Fg (Fg aL.o hg.2.2 (fun hl ad hp=>(aS hl ad hp).1)) BB (fun hl ad hp=>(aS hl ad hp).2),hg.2.1.grown BB hg.2.1.size (fun k e=>by cases e;omega),kX.o.imp id (fun h ad hp=>by have:=h ad hp;omega)⟩
end Go.Proofs.YtkdjnegfnhldpaaGreatDoor
