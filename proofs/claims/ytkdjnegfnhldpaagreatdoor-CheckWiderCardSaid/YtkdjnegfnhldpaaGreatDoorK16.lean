/- Part 16. -/
import Derived.Test.YtkdjnegfnhldpaaGreatDoorK15
set_option linter.unusedVariables false
set_option maxRecDepth 100000
set_option linter.unusedSimpArgs false
set_option maxHeartbeats 40000000
namespace Go.Proofs.YtkdjnegfnhldpaaGreatDoor
open Go.Proofs.Tryz Go.RowKit
def Dv(X:AB)(l:List AB):List AB:=BE (l++[X])
def Dk(X:AB)(h:LH):LH:=if h.kind=4 then⟨h.kind,h.rho,Dv X h.eff⟩ else h
def Av(X:AB):RT→RT:=AD.map (Dk X)
def Be(X:AB)(n:CL):CL:=
 ⟨n.kind,n.op,n.at_,n.n,n.name,n.arg,n.exn,n.rho,n.rhos,if n.kind=11∨n.kind=13∨n.kind=18 then Dv X n.eff else n.eff,
  if n.kind=15∨n.kind=11∨n.kind=13 then Av X n.ty else n.ty,if n.kind=13 then Av X n.res else n.res⟩
def FQ(X:AB):AT→AT:=AD.map (Be X)
def NL(X:AB)(b:EA):EA:=⟨b.name,Av X b.ty,b.fn.map (Be X)⟩
structure SK(X:AB)(r r':TE):Prop where
 ty:r'.1=Av X r.1
 more:∀z∈r.2,z∈r'.2
 less:∀z∈r'.2,z∈r.2∨z=X
structure Hg(X:AB)(l l':List TE):Prop where
 len:l'.length=l.length
 each:∀(i:Nat) (r:TE),l[i]?=some r→∃r',l'[i]?=some r'∧SK X r r'
section
variable {X:AB}
theorem DC(hk:X.kind=3)(hB:AM X=true)(l:List AB)(z:AB):z∈Dv X l↔(z∈l∧AM z=true)∨z=X:=by
 unfold Dv;rw [Ar,List.mem_append,List.mem_singleton];constructor
 ·rintro⟨h1|h1,h2⟩
  ·exact .inl ⟨h1,h2⟩
  ·exact .inr h1
 ·rintro(⟨h1,h2⟩|rfl)
  ·exact⟨.inl h1,h2⟩
  ·exact⟨.inr rfl,hB⟩
theorem BZ(hk:X.kind=3)(hB:AM X=true)(h:LH)(l:List RT):Av X (.node h l)=.node (Dk X h) (l.map (Av X)):=AD.map_node _ h l
theorem MI(hk:X.kind=3)(hB:AM X=true)(t:RT):(AD.head (Av X t)).kind=(AD.head t).kind:=by obtain⟨h,l⟩:=t;rw [BZ hk hB];show (Dk X h).kind=h.kind;unfold Dk;split<;>rfl
theorem En(hk:X.kind=3)(hB:AM X=true)(t:RT):(AD.head (Av X t)).rho=(AD.head t).rho:=by obtain⟨h,l⟩:=t;rw [BZ hk hB];show (Dk X h).rho=h.rho;unfold Dk;split<;>rfl
theorem T4(hk:X.kind=3)(hB:AM X=true)(t:RT)(h4:(AD.head t).kind=4):(AD.head (Av X t)).eff=Dv X (AD.head t).eff:=by obtain⟨h,l⟩:=t;rw [BZ hk hB];show (Dk X h).eff=_;unfold Dk;rw [if_pos (show h.kind=4 from h4)];rfl
theorem T5(hk:X.kind=3)(hB:AM X=true)(t:RT)(k:Nat):(AD.kids (Av X t)).getD k A8=Av X ((AD.kids t).getD k A8):=by
 obtain⟨h,l⟩:=t;rw [BZ hk hB];show (l.map (Av X)).getD k A8=Av X (l.getD k A8);have hz:Av X A8=A8:=by unfold A8;rw [BZ hk hB];rfl
 simp only [List.getD_eq_getElem?_getD,List.getElem?_map];cases l[k]? with
 |none=>exact hz.symm
 |some x=>rfl
theorem JG(hk:X.kind=3)(hB:AM X=true):Av X A8=A8:=by unfold A8;rw [BZ hk hB];rfl
theorem Ij(hk:X.kind=3)(hB:AM X=true):Av X Fi=Fi:=by unfold Fi;rw [BZ hk hB];rfl
theorem T0(hk:X.kind=3)(hB:AM X=true)(l:List AB):BE (Dv X l)=Dv X (BE l):=by refine(Iv (l++[X])).trans ?_;exact KS (fun z hz=>by simp only [List.mem_append,Ar,hz,and_true])
theorem O2(hk:X.kind=3)(hB:AM X=true)(k rho:Int)(eff:List AB)(l:List RT)(h4:k≠4):Av X (H8 k rho eff l)=H8 k rho eff (l.map (Av X)):=by unfold H8;rw [BZ hk hB];unfold Dk;rw [if_neg h4]
theorem O1(hk:X.kind=3)(hB:AM X=true)(rho:Int)(eff:List AB)(l:List RT):Av X (H8 4 rho eff l)=H8 4 rho (Dv X eff) (l.map (Av X)):=by unfold H8;rw [BZ hk hB];unfold Dk;rw [if_pos rfl,T0 hk hB]
theorem Gf(hk:X.kind=3)(hB:AM X=true){l m:List AB}(h:Ag l m=true):Ag (Dv X l) (Dv X m)=true:=by
 unfold Ag at h ⊢;rw [List.all_eq_true] at h ⊢;intro z hz;rw [Bool.or_eq_true,Bool.not_eq_true',Ew];rcases (DC hk hB _ _).1 hz with⟨h1,h2⟩|rfl
 ·have:=h z h1;rw [Bool.or_eq_true,Bool.not_eq_true',Ew] at this;rcases this with h3|h3
  ·rw [h2] at h3;cases h3
  ·exact .inr ((DC hk hB _ _).2 (.inl ⟨h3,h2⟩))
 ·exact .inr ((DC hk hB _ _).2 (.inr rfl))
theorem Je(hk:X.kind=3)(hB:AM X=true){l l' m:List AB}(hl:∀z∈l',z∈l∨z=X)(h:Ag l m=true):Ag l' (Dv X m)=true:=by
 unfold Ag at h ⊢;rw [List.all_eq_true] at h ⊢;intro z hz;rw [Bool.or_eq_true,Bool.not_eq_true',Ew];cases nj:AM z with
 |false=>exact .inl rfl
 |true=>
  refine .inr ((DC hk hB _ _).2 ?_);rcases hl z hz with h1|h1
  ·have:=h z h1;rw [Bool.or_eq_true,Bool.not_eq_true',Ew] at this;rcases this with h3|h3
   ·rw [nj] at h3;cases h3
   ·exact .inl ⟨h3,nj⟩
  ·exact .inr h1
theorem QB(hk:X.kind=3)(hB:AM X=true){a b:LH}(h:Ez a b=true):Ez (Dk X a) (Dk X b)=true:=by
 unfold Ez at h;simp only [Bool.and_eq_true,decide_eq_true_eq] at h;obtain⟨⟨h1,h2⟩,h3,h4⟩:=h;unfold Dk Ez;by_cases k:a.kind=4
 ·rw [if_pos k,if_pos (h1▸k)];simp only [Bool.and_eq_true,decide_eq_true_eq];exact⟨⟨h1,h2⟩,Gf hk hB h3,Gf hk hB h4⟩
 ·rw [if_neg k,if_neg (h1▸k)];simp only [Bool.and_eq_true,decide_eq_true_eq];exact⟨⟨h1,h2⟩,h3,h4⟩
theorem El(hk:X.kind=3)(hB:AM X=true){x y:RT}(h:DF x y=true):DF (Av X x) (Av X y)=true:=by
 revert y;refine AD.ind (P:=fun(x:RT)=>∀{y:RT},DF x y=true→DF (Av X x) (Av X y)=true) (fun a l ih=>?_) x;rintro⟨b,m⟩ h;unfold DF at h ⊢;rw [BZ hk hB,BZ hk hB];rw [AD.same,Bool.and_eq_true] at h ⊢;refine⟨QB hk hB h.1,?_⟩;have hl:=h.2;clear h
 have:∀(l m:List RT),(∀t∈l,∀{y:RT},DF t y=true→DF (Av X t) (Av X y)=true)→AD.sameL Ez l m=true→AD.sameL Ez (l.map (Av X)) (m.map (Av X))=true:=by
  intro l;induction l with
  |nil=>intro m _ h;cases m with
   |nil=>simp [AD.sameL]
   |cons u m=>simp [AD.sameL] at h
  |cons t l ihl=>
   intro m hm h;cases m with
   |nil=>simp [AD.sameL] at h
   |cons u m=>
    simp only [List.map_cons,AD.sameL,Bool.and_eq_true] at h ⊢;exact⟨hm t (by simp) h.1,ihl m (fun v hv=>hm v (by simp [hv])) h.2⟩
 exact this l m ih hl
theorem MB(hk:X.kind=3)(hB:AM X=true)(l:List AB)(z:Int):z∈BN (Dv X l)→z∈BN l:=by
 rw [Fc,Fc];rintro⟨x,h1,h2,h3,h4⟩;rcases (DC hk hB _ _).1 h1 with⟨h5,_⟩|rfl
 ·exact⟨x,h5,h2,h3,h4⟩
 ·exact absurd hk h3
theorem Iy(hk:X.kind=3)(hB:AM X=true)(t:RT):∀z,z∈B2 (Av X t)→z∈B2 t:=by
 refine AD.ind (P:=fun(t:RT)=>∀z,z∈B2 (Av X t)→z∈B2 t) (fun a l ih z h=>?_) t;rw [BZ hk hB,Fa,List.mem_append] at h;rw [Fa,List.mem_append];rcases h with h|h
 ·refine .inl ?_;unfold IW Dk at h;unfold IW;by_cases k:a.kind=4
  ·rw [if_pos k] at h;have k1:¬a.kind=1:=by omega
   rw [if_neg k1] at h ⊢;rcases List.mem_cons.1 h with h|h
   ·exact List.mem_cons.2 (.inl h)
   ·exact List.mem_cons.2 (.inr (MB hk hB _ _ h))
  ·rw [if_neg k] at h;exact h
 ·refine .inr ?_;rw [List.mem_flatMap] at h ⊢;obtain⟨u,hu,hz⟩:=h;obtain⟨t,ht,rfl⟩:=List.mem_map.1 hu;exact⟨t,ht,ih t ht z hz⟩
theorem M6(hk:X.kind=3)(hB:AM X=true){a:CL}{rhos:List Int}(h:Bh a rhos=true):Bh (Be X a) rhos=true:=by
 rw [M5] at h ⊢;obtain⟨h1,h2,h3,h4⟩:=h;refine⟨h1,h2,fun z hz=>h3 z ?_,fun z hz=>h4 z ?_⟩
 ·have cy:z∈BN (if a.kind=11∨a.kind=13∨a.kind=18 then Dv X a.eff else a.eff):=hz;split at cy
  ·exact MB hk hB _ _ cy
  ·exact cy
 ·rcases hz with hz|hz
  ·have cy:z∈B2 (if a.kind=15∨a.kind=11∨a.kind=13 then Av X a.ty else a.ty):=hz;split at cy
   ·exact .inl (Iy hk hB _ _ cy)
   ·exact .inl cy
  ·have cy:z∈B2 (if a.kind=13 then Av X a.res else a.res):=hz;split at cy
   ·exact .inr (Iy hk hB _ _ cy)
   ·exact .inr cy
theorem T9(hk:X.kind=3)(hB:AM X=true):SK X Bf Bf:=⟨(JG hk hB).symm,fun z h=>h,fun z h=>.inl h⟩
theorem QQ(hk:X.kind=3)(hB:AM X=true){l l':List TE}(h:Hg X l l')(i:Nat):SK X (l.getD i Bf) (l'.getD i Bf):=by
 simp only [List.getD_eq_getElem?_getD];cases hi:l[i]? with
 |some r=>
  obtain⟨r',h1,h2⟩:=h.each i r hi;rw [h1];exact h2
 |none=>
  have:l'[i]?=none:=by rw [List.getElem?_eq_none_iff] at hi ⊢;rw [h.len];exact hi
  rw [this];exact T9 hk hB
theorem RO(hk:X.kind=3)(hB:AM X=true){l l':List TE}(h:Hg X l l'):∀z∈l.flatMap (·.2),z∈l'.flatMap (·.2):=fun z hz=>by obtain⟨r,hr,hz⟩:=List.mem_flatMap.1 hz;obtain⟨i,hi⟩:=List.getElem?_of_mem hr;obtain⟨r',h1,h2⟩:=h.each i r hi;exact List.mem_flatMap.2 ⟨r',List.mem_of_getElem? h1,h2.more z hz⟩
theorem RM(hk:X.kind=3)(hB:AM X=true){l l':List TE}(h:Hg X l l'):∀z∈l'.flatMap (·.2),z∈l.flatMap (·.2)∨z=X:=fun z hz=>by
 obtain⟨r',hr,hz⟩:=List.mem_flatMap.1 hz;obtain⟨i,hi⟩:=List.getElem?_of_mem hr;have aG:i<l.length:=by rw [←h.len];exact(List.getElem?_eq_some_iff.1 hi).1
 obtain⟨r'',h1,h2⟩:=h.each i _ (List.getElem?_eq_getElem aG);rw [hi] at h1;cases h1;exact(h2.less z hz).imp (fun h=>List.mem_flatMap.2 ⟨_,List.getElem_mem aG,h⟩) id
theorem UL(hk:X.kind=3)(hB:AM X=true){l m l' m':List AB}(h1:∀z∈l,z∈l' )(h2:∀z∈l',z∈l∨z=X):(∀z∈BE l,z∈BE l')∧∀z∈BE l',z∈BE l∨z=X:=by
 refine⟨fun z hz=>?_,fun z hz=>?_⟩
 ·rw [Ar] at hz ⊢;exact⟨h1 z hz.1,hz.2⟩
 ·rw [Ar] at hz;exact(h2 z hz.1).imp (fun h=>(Ar _ _).2 ⟨h,hz.2⟩) id
theorem A2(hk:X.kind=3)(hB:AM X=true){l l':List TE}(h:Hg X l l')(more:List AB):(∀z∈A1 l more,z∈A1 l' more)∧∀z∈A1 l' more,z∈A1 l more∨z=X:=by
 unfold A1;refine UL hk hB (m:=[]) (m':=[]) (fun z hz=>?_) (fun z hz=>?_)
 ·rw [List.mem_append] at hz ⊢;exact hz.imp id (RO hk hB h z)
 ·rw [List.mem_append] at hz ⊢;rcases hz with hz|hz
  ·exact .inl (.inl hz)
  ·exact(RM hk hB h z hz).imp .inr id
theorem Ny(hk:X.kind=3)(hB:AM X=true){l l':List TE}(h:Hg X l l')(k:Nat):Hg X (l.drop k) (l'.drop k):=⟨by rw [List.length_drop,List.length_drop,h.len],fun i r hi=>by
 rw [List.getElem?_drop] at hi ⊢;exact h.each _ r hi⟩
theorem GP(hk:X.kind=3)(hB:AM X=true){l l':List TE}(h:Hg X l l')(k:Int)(i:Nat):I0 k (l'.getD i Bf)=I0 k (l.getD i Bf):=by unfold I0;rw [(QQ hk hB h i).ty,MI hk hB]
theorem Nf(hk:X.kind=3)(hB:AM X=true){l l':List TE}(h:Hg X l l')(k:Int)(ha:l.all (I0 k)=true):l'.all (I0 k)=true:=by
 rw [List.all_eq_true] at ha ⊢;intro r' ah;obtain⟨i,hi⟩:=List.getElem?_of_mem ah;have aG:i<l.length:=by rw [←h.len];exact(List.getElem?_eq_some_iff.1 hi).1
 obtain⟨r'',h1,h2⟩:=h.each i _ (List.getElem?_eq_getElem aG);rw [hi] at h1;cases h1;have h3:=ha _ (List.getElem_mem aG);unfold I0 at h3 ⊢;rw [h2.ty,MI hk hB];exact h3
theorem Ru(hk:X.kind=3)(hB:AM X=true){a:CL}{l l':List TE}{x:TE}(h:Hg X l l')(hr:B8 a l x):∃x',B8 (Be X a) l' x'∧SK X x x':=by
 have w:=fun i=>QQ hk hB h i;have kd:∀t k,(AD.kids (Av X t)).getD k A8=Av X ((AD.kids t).getD k A8):=fun t k=>T5 hk hB t k;cases hr with
 |pair k=>exact⟨_,.pair k,by rw [O2 hk hB _ _ _ _ (by decide)];simp only [List.map_cons,List.map_nil,(w 0).ty,(w 1).ty];rfl,(A2 hk hB h _).1,(A2 hk hB h _).2⟩
 |proj k ht=>
  refine⟨_,.proj k (by rw [GP hk hB h];exact ht),?_,?_,?_⟩
  ·show (AD.kids (l'.getD 0 Bf).1).getD _ _=_;rw [(w 0).ty];exact kd _ _
  ·show ∀z∈_,z∈A1 l' [CC (AD.head (l'.getD 0 Bf).1).rho];rw [(w 0).ty,En hk hB];exact(A2 hk hB h _).1
  ·show ∀z∈A1 l' [CC (AD.head (l'.getD 0 Bf).1).rho],_;rw [(w 0).ty,En hk hB];exact(A2 hk hB h _).2
 |ref k=>exact⟨_,.ref k,by rw [O2 hk hB _ _ _ _ (by decide)];simp only [List.map_cons,List.map_nil,(w 0).ty];rfl,(A2 hk hB h _).1,(A2 hk hB h _).2⟩
 |get k ht=>
  refine⟨_,.get k (by rw [GP hk hB h];exact ht),?_,?_,?_⟩
  ·show (AD.kids (l'.getD 0 Bf).1).getD _ _=_;rw [(w 0).ty];exact kd _ _
  ·show ∀z∈_,z∈A1 l' [CC (AD.head (l'.getD 0 Bf).1).rho];rw [(w 0).ty,En hk hB];exact(A2 hk hB h _).1
  ·show ∀z∈A1 l' [CC (AD.head (l'.getD 0 Bf).1).rho],_;rw [(w 0).ty,En hk hB];exact(A2 hk hB h _).2
 |set k ht hs=>
  refine⟨_,.set k (by rw [GP hk hB h];exact ht) ?_,(Ij hk hB).symm,?_,?_⟩
  ·rw [(w 0).ty,(w 1).ty,kd];exact El hk hB hs
  ·show ∀z∈_,z∈A1 l' [Bu (AD.head (l'.getD 0 Bf).1).rho];rw [(w 0).ty,En hk hB];exact(A2 hk hB h _).1
  ·show ∀z∈A1 l' [Bu (AD.head (l'.getD 0 Bf).1).rho],_;rw [(w 0).ty,En hk hB];exact(A2 hk hB h _).2
 |app k ht hs=>
  have h4:(AD.head (l.getD 0 Bf).1).kind=4:=by unfold I0 at ht;simpa using ht
  have he:(∀z∈BE (A1 l [CC (AD.head (l.getD 0 Bf).1).rho]++(AD.head (l.getD 0 Bf).1).eff),z∈BE (A1 l' [CC (AD.head (l'.getD 0 Bf).1).rho]++(AD.head (l'.getD 0 Bf).1).eff)) ∧
   ∀z∈BE (A1 l' [CC (AD.head (l'.getD 0 Bf).1).rho]++(AD.head (l'.getD 0 Bf).1).eff),z∈BE (A1 l [CC (AD.head (l.getD 0 Bf).1).rho]++(AD.head (l.getD 0 Bf).1).eff)∨z=X:=by
   rw [(w 0).ty,En hk hB,T4 hk hB _ h4]
   refine⟨fun z hz=>?_,fun z hz=>?_⟩
   ·rw [Ar,List.mem_append] at hz ⊢;refine⟨?_,hz.2⟩;rcases hz.1 with h1|h1
    ·exact .inl ((A2 hk hB h _).1 z h1)
    ·exact .inr ((DC hk hB _ _).2 (.inl ⟨h1,hz.2⟩))
   ·rw [Ar,List.mem_append] at hz;rw [Ar,List.mem_append];rcases hz.1 with h1|h1
    ·rcases (A2 hk hB h _).2 z h1 with h2|h2
     ·exact .inl ⟨.inl h2,hz.2⟩
     ·exact .inr h2
    ·rcases (DC hk hB _ _).1 h1 with h2|h2
     ·exact .inl ⟨.inr h2.1,hz.2⟩
     ·exact .inr h2
  refine⟨_,.app k (by rw [GP hk hB h];exact ht) ?_,?_,he.1,he.2⟩
  ·rw [(w 0).ty,(w 1).ty,kd];exact El hk hB hs
  ·show (AD.kids (l'.getD 0 Bf).1).getD _ _=_;rw [(w 0).ty];exact kd _ _
 |op k ht=>exact⟨_,.op k (Nf hk hB h _ ht),(Ij hk hB).symm,(A2 hk hB h _).1,(A2 hk hB h _).2⟩
 |ite k ht hs=>exact⟨_,.ite k (by rw [GP hk hB h];exact ht) (by rw [(w 1).ty,(w 2).ty];exact El hk hB hs),(w 1).ty,(A2 hk hB h _).1,(A2 hk hB h _).2⟩
 |raise k ht=>
  refine⟨_,.raise k (Nf hk hB h _ ht),?_,(A2 hk hB h _).1,(A2 hk hB h _).2⟩;show (if a.kind=15∨a.kind=11∨a.kind=13 then Av X a.ty else a.ty)=_;rw [if_pos (.inl k)]
 |num k=>exact⟨_,.num k,(Ij hk hB).symm,(A2 hk hB h _).1,(A2 hk hB h _).2⟩
 |fn k hw=>
  have he:(Be X a).eff=Dv X a.eff:=by show (if _ then _ else _)=_;rw [if_pos (.inl k)]
  have ht:(Be X a).ty=Av X a.ty:=by show (if _ then _ else _)=_;rw [if_pos (.inr (.inl k))]
  refine⟨_,.fn k (by rw [he];exact Je hk hB (w 0).less hw),?_,fun z hz=>hz,fun z hz=>.inl hz⟩;show H8 4 (Be X a).rho (Be X a).eff [(Be X a).ty,_]=_;rw [he,ht,(w 0).ty,O1 hk hB];rfl
 |letrec k hs hw=>
  have he:(Be X a).eff=Dv X a.eff:=by show (if _ then _ else _)=_;rw [if_pos (.inr (.inl k))]
  have ht:(Be X a).res=Av X a.res:=by show (if _ then _ else _)=_;rw [if_pos k]
  exact⟨_,.letrec k (by rw [ht,(w 0).ty];exact El hk hB hs) (by rw [he];exact Je hk hB (w 0).less hw),(w 1).ty,(A2 hk hB (Ny hk hB h 1) _).1,(A2 hk hB (Ny hk hB h 1) _).2⟩
 |handle k hs=>
  refine⟨_,.handle k (by rw [(w 0).ty,(w 1).ty];exact El hk hB hs),(w 0).ty,fun z hz=>?_,fun z hz=>?_⟩
  ·show z∈BE (CZ (l'.getD 0 Bf).2 [a.exn]++(l'.getD 1 Bf).2);rw [Ar,List.mem_append,Dd] at hz ⊢;refine⟨?_,hz.2⟩;rcases hz.1 with h1|h1
   ·exact .inl ⟨(w 0).more z h1.1,h1.2⟩
   ·exact .inr ((w 1).more z h1)
  ·have cy:z∈BE (CZ (l'.getD 0 Bf).2 [a.exn]++(l'.getD 1 Bf).2):=hz;rw [Ar,List.mem_append,Dd] at cy;rw [Ar,List.mem_append,Dd];rcases cy.1 with h1|h1
   ·rcases (w 0).less z h1.1 with h2|h2
    ·exact .inl ⟨.inl ⟨h2,h1.2⟩,cy.2⟩
    ·exact .inr h2
   ·rcases (w 1).less z h1 with h2|h2
    ·exact .inl ⟨.inr h2,cy.2⟩
    ·exact .inr h2
 |region k hn=>
  refine⟨_,.region k ?_,(w 0).ty,fun z hz=>?_,fun z hz=>?_⟩
  ·rw [(w 0).ty]
   have h1:¬(Be X a).rho∈B2 (Av X (l.getD 0 Bf).1):=fun hz=>by
    have h2:=Iy hk hB _ _ hz;have h3:FA (BU (B2 (l.getD 0 Bf).1)) a.rho=true:=by rw [D5,DT];exact h2
    rw [hn] at h3;cases h3
   cases hi:FA (BU (B2 (Av X (l.getD 0 Bf).1))) (Be X a).rho with
   |false=>rfl
   |true=>rw [D5,DT] at hi;exact absurd hi h1
  ·show z∈Cw (l'.getD 0 Bf).2 [a.rho];rw [De] at hz ⊢;exact⟨(w 0).more z hz.1,hz.2⟩
  ·have cy:z∈Cw (l'.getD 0 Bf).2 [a.rho]:=hz;rw [De] at cy;rw [De];exact((w 0).less z cy.1).imp (fun h=>⟨h,cy.2⟩) id
 |other k=>exact⟨_,.other k,(w 1).ty,(A2 hk hB h _).1,(A2 hk hB h _).2⟩
end
def SF(env:List EA):Prop:=∀b∈env,∀f,b.fn=some f→f.kind=13
section
variable {X:AB}
theorem Gu(a:CL)(l:List AT):FQ X (.node a l)=.node (Be X a) (l.map (FQ X)):=AD.map_node _ a l
theorem PV{env:List EA}{a:CL}{i:Nat}{acc:List TE}(h:SF env):SF (Ai env a i acc):=by
 intro b hb f hf;unfold Ai at hb;by_cases k11:a.kind=11
 ·rw [if_pos k11,List.mem_append,List.mem_singleton] at hb;rcases hb with hb|rfl
  ·exact h b hb f hf
  ·cases hf
 rw [if_neg k11] at hb;by_cases k12:a.kind=12∧i=1
 ·rw [if_pos k12,List.mem_append,List.mem_singleton] at hb;rcases hb with hb|rfl
  ·exact h b hb f hf
  ·cases hf
 rw [if_neg k12] at hb;by_cases k0:a.kind=13∧i=0
 ·rw [if_pos k0,List.mem_append] at hb;rcases hb with hb|hb
  ·exact h b hb f hf
  ·simp only [List.mem_cons,List.not_mem_nil,or_false] at hb;rcases hb with rfl|rfl
   ·cases hf;exact k0.1
   ·cases hf
 rw [if_neg k0] at hb;by_cases k13:a.kind=13
 ·rw [if_pos k13,List.mem_append,List.mem_singleton] at hb;rcases hb with hb|rfl
  ·exact h b hb f hf
  ·cases hf;exact k13
 rw [if_neg k13] at hb;by_cases k16:a.kind=16∧i=1
 ·rw [if_pos k16,List.mem_append,List.mem_singleton] at hb;rcases hb with hb|rfl
  ·exact h b hb f hf
  ·cases hf
 rw [if_neg k16] at hb;exact h b hb f hf
theorem NM{a:CL}(h:a.kind=15∨a.kind=11∨a.kind=13):(Be X a).ty=Av X a.ty:=by show (if _ then _ else _)=_;rw [if_pos h]
theorem T3{a:CL}(h:a.kind=13):(Be X a).res=Av X a.res:=by show (if _ then _ else _)=_;rw [if_pos h]
theorem O0{a:CL}(h:a.kind=11∨a.kind=13∨a.kind=18):(Be X a).eff=Dv X a.eff:=by show (if _ then _ else _)=_;rw [if_pos h]
theorem Pm(hk:X.kind=3)(hB:AM X=true){env:List EA}{a:CL}{i:Nat}{acc acc':List TE}(h:Hg X acc acc'):Ai (env.map (NL X)) (Be X a) i acc'=(Ai env a i acc).map (NL X):=by
 have w:=QQ hk hB h 0;have e:(Be X a).kind=a.kind:=rfl;unfold Ai;rw [e];by_cases k11:a.kind=11
 ·rw [if_pos k11,if_pos k11,List.map_append,NM (.inr (.inl k11))];rfl
 rw [if_neg k11,if_neg k11];by_cases k12:a.kind=12∧i=1
 ·rw [if_pos k12,if_pos k12,List.map_append,w.ty];rfl
 rw [if_neg k12,if_neg k12];by_cases k0:a.kind=13∧i=0
 ·rw [if_pos k0,if_pos k0,List.map_append,NM (.inr (.inr k0.1))];show _++([⟨a.name,A8,some (Be X a)⟩,⟨a.arg,Av X a.ty,none⟩]:List EA)=_++([⟨a.name,Av X A8,some (Be X a)⟩,⟨a.arg,Av X a.ty,none⟩]:List EA);rw [JG hk hB]
 rw [if_neg k0,if_neg k0];by_cases k13:a.kind=13
 ·rw [if_pos k13,if_pos k13,List.map_append];show _++([⟨a.name,A8,some (Be X a)⟩]:List EA)=_++([⟨a.name,Av X A8,some (Be X a)⟩]:List EA);rw [JG hk hB]
 rw [if_neg k13,if_neg k13];by_cases k16:a.kind=16∧i=1
 ·rw [if_pos k16,if_pos k16,List.map_append];show _++([⟨a.arg,Fi,none⟩]:List EA)=_++([⟨a.arg,Av X Fi,none⟩]:List EA);rw [Ij hk hB]
 rw [if_neg k16,if_neg k16]
theorem Lx(env:List EA)(x:ByteArray):EL (env.map (NL X)) x=(EL env x).map (NL X):=by unfold EL;rw [←List.map_reverse,List.find?_map];rfl
theorem OL{f t:List Int}{l:List AB}{z:AB}:z∈Ig f t l↔∃y∈l,AM y=true∧z=Fw f t y∧AM z=true:=by
 constructor
 ·exact Qm
 ·rintro⟨y,h1,h2,rfl,h3⟩;unfold Ig;rw [By,List.mem_filter,List.mem_map];exact⟨⟨y,by rw [By,List.mem_filter];exact⟨h1,h2⟩,rfl⟩,h3⟩
theorem Uj(f t:List Int)(l:List AB):BE (Ig f t l)=Ig f t l:=Iv _
theorem On(hk:X.kind=3)(hB:AM X=true)(f t:List Int)(l:List AB):Ig f t (Dv X l)=Dv X (Ig f t l):=by
 rw [←Uj f t (Dv X l)];unfold Dv;refine KS (fun z hz=>?_);rw [List.mem_append,List.mem_singleton,OL,OL];have hs:Fw f t X=X:=by unfold Fw;rw [if_pos hk]
 constructor
 ·rintro⟨y,h1,h2,h3,h4⟩;rcases (DC hk hB _ _).1 h1 with⟨h5,_⟩|rfl
  ·exact .inl ⟨y,h5,h2,h3,h4⟩
  ·exact .inr (h3.trans hs)
 ·rintro(⟨y,h1,h2,h3,h4⟩|rfl)
  ·exact⟨y,(DC hk hB _ _).2 (.inl ⟨h1,h2⟩),h2,h3,h4⟩
  ·exact⟨z,(DC hk hB _ _).2 (.inr rfl),hB,hs.symm,hB⟩
theorem QI(hk:X.kind=3)(hB:AM X=true)(f t:List Int)(u:RT):BQ f t (Av X u)=Av X (BQ f t u):=by
 refine AD.ind (P:=fun(u:RT)=>BQ f t (Av X u)=Av X (BQ f t u)) (fun a l ih=>?_) u;have sn:∀(h:LH) (l:List RT),BQ f t (.node h l)=.node (NE f t h) (l.map (BQ f t)):=fun h l=>AD.map_node _ h l;rw [BZ hk hB,sn,sn,BZ hk hB,List.map_map,List.map_map]
 have e1:NE f t (Dk X a)=Dk X (NE f t a):=by
  unfold Dk NE;by_cases k1:a.kind=1
  ·have k4:¬a.kind=4:=by omega
   rw [if_neg k4,if_pos k1,if_neg k4]
  ·by_cases k4:a.kind=4
   ·simp only [if_pos k4,if_neg k1,On hk hB]
   ·simp only [if_neg k4,if_neg k1]
 rw [e1];congr 1;exact List.map_congr_left (fun t ht=>ih t ht)
theorem Tz{env:List EA}{a:CL}{r:TE}(h:Ii env a=.ok r):∃r',Ii (env.map (NL X)) (Be X a)=.ok r'∧SK X r r':=by
 unfold Ii at h ⊢;rw [show (Be X a).name=a.name from rfl,Lx];cases hf:EL env a.name with
 |none=>rw [hf] at h;cases h
 |some b=>
  rw [hf] at h;obtain⟨h1,h2⟩:=As.1 h;cases h2;refine⟨(Av X b.ty,[]),?_,rfl,fun z hz=>hz,fun z hz=>.inl hz⟩;show A6 (b.fn.map (Be X)).isNone _ 5 _=_;rw [As];refine⟨?_,rfl⟩;cases hb:b.fn with
  |none=>rfl
  |some f=>rw [hb] at h1;cases h1
theorem Rc(hk:X.kind=3)(hB:AM X=true){env:List EA}{a:CL}{r:TE}(hE:SF env)(k:a.kind=18)(h:C8 env a=.ok r):∃r',C8 (env.map (NL X)) (Be X a)=.ok r'∧SK X r r':=by
 unfold C8 at h ⊢;rw [show (Be X a).name=a.name from rfl,Lx];cases hf:EL env a.name with
 |none=>rw [hf] at h;cases h
 |some b=>
  rw [hf] at h;dsimp only at h;have cv:b∈env:=by unfold EL at hf;have:=List.mem_of_find?_eq_some hf;simpa using this
  cases hb:b.fn with
  |none=>rw [hb] at h;cases h
  |some f=>
   rw [hb] at h;have lq:=hE b cv f hb;obtain⟨h1,h2⟩:=As.1 h;obtain⟨h3,h4⟩:=As.1 h2;cases h4;have ha:=O0 (X:=X) (a:=a) (.inr (.inr k));refine⟨(H8 4 a.rho (Dv X a.eff) [BQ f.rhos a.rhos (Av X f.ty),BQ f.rhos a.rhos (Av X f.res)],BE [CC f.rho,Bu a.rho]),?_,?_,fun z hz=>hz,fun z hz=>.inl hz⟩
   ·show (match (b.fn.map (Be X)) with|none=>_|some f=>_)=_;rw [hb];show A6 (decide (f.rhos.length=a.rhos.length)) _ 5 (A6 (Ag (Ig f.rhos a.rhos (Be X f).eff) (Be X a).eff) _ 6 (.ok (H8 4 a.rho (Be X a).eff [BQ f.rhos a.rhos (Be X f).ty,BQ f.rhos a.rhos (Be X f).res],BE [CC f.rho,Bu a.rho])))=_;rw [As,As,ha,O0 (.inr (.inl lq)),NM (.inr (.inr lq)),T3 lq,On hk hB];exact⟨h1,Gf hk hB h3,rfl⟩
   ·show H8 4 _ _ _=Av X (H8 4 _ _ _);rw [O1 hk hB];simp only [List.map_cons,List.map_nil,QI hk hB]
theorem Hg.snoc{l l':List TE}{r r':TE}(h:Hg X l l')(hr:SK X r r'):Hg X (l++[r]) (l'++[r']):=⟨by rw [List.length_append,List.length_append,h.len];rfl,fun i q hq=>by
 by_cases hi:i<l.length
 ·rw [List.getElem?_append_left hi] at hq;rw [List.getElem?_append_left (by rw [h.len];exact hi)];exact h.each i q hq
 ·rw [List.getElem?_append_right (by omega)] at hq;rw [List.getElem?_append_right (by rw [h.len];omega),h.len];cases hn:i-l.length with
  |zero=>rw [hn] at hq;simp at hq;subst hq;exact⟨r',rfl,hr⟩
  |succ n=>rw [hn] at hq;simp at hq⟩
theorem JF(t:RT):(Av X t).size=t.size:=AD.size_map _ _
theorem Sd(hk:X.kind=3)(hB:AM X=true)(t:AT):∀env rhos r,SF env→chk env rhos t=.ok r→∃r',chk (env.map (NL X)) rhos (FQ X t)=.ok r'∧SK X r r':=by
 refine AD.ind (P:=fun(t:AT)=>∀env rhos r,SF env→chk env rhos t=.ok r→∃r',chk (env.map (NL X)) rhos (FQ X t)=.ok r'∧SK X r r') (fun a l ih env rhos r hE h=>?_) t
 have hL:∀(m:List AT) (i:Nat) (acc acc' ks:List TE),(∀t∈m,t∈l)→Hg X acc acc'→FE env rhos a i acc m=.ok ks→∃ks',FE (env.map (NL X)) rhos (Be X a) i acc' (m.map (FQ X))=.ok ks'∧Hg X ks ks':=by
  intro m;induction m with
  |nil=>
   intro i acc acc' ks _ hw h;rw [GJ] at h;cases h;exact⟨acc',by rw [List.map_nil,GJ],hw⟩
  |cons u m ihm=>
   intro i acc acc' ks hm hw h;rw [EW] at h;cases hr:chk (Ai env a i acc) (Aq rhos a i) u with
   |error e=>rw [hr] at h;cases h
   |ok q=>
    rw [hr] at h;obtain⟨q',h1,h2⟩:=ih u (hm u (by simp)) _ _ q (PV hE) hr;obtain⟨ks',h3,h4⟩:=ihm (i+1) (acc++[q]) (acc'++[q']) ks (fun t ht=>hm t (by simp [ht])) (hw.snoc h2) h;refine⟨ks',?_,h4⟩;rw [List.map_cons,EW,Pm hk hB hw,show Aq rhos (Be X a) i=Aq rhos a i from rfl,h1];exact h3
 rw [Ir,FL] at h;obtain⟨⟨h1,h2⟩,h3⟩:=h;have l6:=M6 hk hB h1;have fin:∀r',SK X r r'→r'.1.size≤500:=fun r' hw=>by rw [hw.ty,JF];exact h3
 rw [Gu];rcases h2 with⟨k,h⟩|⟨k,h⟩|⟨k2,k18,ks,jo,hx⟩
 ·obtain⟨r',e,hw⟩:=Tz (X:=X) h;exact⟨r',by rw [Ir,FL];exact⟨⟨l6,.inl ⟨k,e⟩⟩,fin r' hw⟩,hw⟩
 ·obtain⟨r',e,hw⟩:=Rc hk hB hE k h;exact⟨r',by rw [Ir,FL];exact⟨⟨l6,.inr (.inl ⟨k,e⟩)⟩,fin r' hw⟩,hw⟩
 ·obtain⟨ks',e1,iR⟩:=hL l 0 [] [] ks (fun t ht=>ht) ⟨rfl,fun i r h=>by simp at h⟩ jo;obtain⟨r',e2,hw⟩:=Ru hk hB iR (Ib.1 hx);exact⟨r',by rw [Ir,FL];exact⟨⟨l6,.inr (.inr ⟨k2,k18,ks',e1,Ib.2 e2⟩)⟩,fin r' hw⟩,hw⟩
theorem JK:∀(l:List CL) (met:List Int),GB (l.map (Be X)) met=GB l met
 |[],met=>rfl
 |a::l,met=>by show (if Ba met (Bm (Be X a)) then some (Be X a).at_ else GB (l.map (Be X)) (met++Bm (Be X a)))=_;rw [JK l];rfl
theorem Pw(t:AT):AD.nodes (FQ X t)=(AD.nodes t).map (Be X):=by refine AD.ind (P:=fun(t:AT)=>AD.nodes (FQ X t)=(AD.nodes t).map (Be X)) (fun a l ih=>?_) t;rw [Gu,AD.nodes_node,AD.nodes_node,List.map_cons,List.map_flatten,List.map_map,List.map_map];congr 2;exact List.map_congr_left (fun t ht=>ih t ht)
theorem Nq(hk:X.kind=3)(hB:AM X=true){t:AT}{r:TE}(h:GI t=.ok r):∃r',GI (FQ X t)=.ok r'∧SK X r r':=by rw [Iq] at h;obtain⟨r',h1,h2⟩:=Sd hk hB t [] [0] r (fun b hb=>by cases hb) h.2;refine⟨r',Iq.2 ⟨?_,h1⟩,h2⟩;unfold EC;rw [Pw,JK];exact h.1
end
def DQ:Option Addr→List Nat
 |some ad=>[ad.block]
 |none=>[]
theorem Gq{p:Option Addr}{b:Nat}:b∈DQ p↔∃ad,p=some ad∧ad.block=b:=by
 cases p with
 |none=>simp [DQ]
 |some ad=>simp [DQ,eq_comm]
def Ao:PT→List Nat:=AD.fold (fun a l=>(if l.isEmpty then [] else DQ a.kp)++(if a.eff.isEmpty then [] else DQ a.ep)++l.flatten)
theorem DP(a:RH)(l:List PT):Ao (.node a l)=(if l.isEmpty then [] else DQ a.kp)++(if a.eff.isEmpty then [] else DQ a.ep)++l.flatMap Ao:=by unfold Ao;rw [AD.fold_node,List.isEmpty_map,List.flatMap_def]
theorem Tx{a:RH}{l:List PT}{ad:Addr}(hl:l≠[])(h:a.kp=some ad):ad.block∈Ao (.node a l):=by
 rw [DP];cases l with
 |nil=>exact absurd rfl hl
 |cons x l=>simp [Gq,h]
theorem Tw{a:RH}{l:List PT}{ad:Addr}(hl:a.eff≠[])(h:a.ep=some ad):ad.block∈Ao (.node a l):=by
 rw [DP];cases he:a.eff with
 |nil=>exact absurd he hl
 |cons x m=>simp [Gq,h]
theorem MG{a:RH}{l:List PT}{t:PT}(ht:t∈l){b:Nat}(hb:b∈Ao t):b∈Ao (.node a l):=by rw [DP];exact List.mem_append.2 (.inr (List.mem_flatMap.2 ⟨t,ht,hb⟩))
theorem D9{a:RH}{l:List PT}{b:Nat}(h:b∈Ao (.node a l)):(l≠[]∧∃ad,a.kp=some ad∧ad.block=b)∨(a.eff≠[]∧∃ad,a.ep=some ad∧ad.block=b)∨∃t∈l,b∈Ao t:=by
 rw [DP,List.mem_append,List.mem_append] at h;rcases h with(h|h)|h
 ·refine .inl ?_;split at h
  ·cases h
  ·rename_i hl;exact⟨by intro e;subst e;simp at hl,Gq.1 h⟩
 ·refine .inr (.inl ?_);split at h
  ·cases h
  ·rename_i hl;exact⟨by intro e;rw [e] at hl;simp at hl,Gq.1 h⟩
 ·exact .inr (.inr (List.mem_flatMap.1 h))
theorem BD{α:Type}{enc:α→List Value}{k:Nat}{w:World}{p:Option Addr}{l:List α}(h:At enc k w p l)(hl:l≠[]){ad:Addr}(hp:p=some ad):ad.block<w.heap.size:=by
 rcases h with h|⟨b,o,hb,aG,_⟩
 ·exact absurd h hl
 ·rw [hp] at hb;cases hb;exact aG
theorem Aa{w:World}(t:PT):LR.lies w t→∀b∈Ao t,b<w.heap.size:=by
 refine AD.ind (P:=fun(t:PT)=>LR.lies w t→∀b∈Ao t,b<w.heap.size) (fun a l ih h b hb=>?_) t;have hn:=Bb h;rcases D9 hb with⟨hl,ad,hp,rfl⟩|⟨hl,ad,hp,rfl⟩|⟨u,hu,hb⟩
 ·exact BD hn.kids.row hl hp
 ·exact BD hn.own.eff.row hl hp
 ·exact ih u hu (hn.each u hu) b hb
theorem Bl{w w':World}{r:Option Nat}(hg:w.grownBy w' r)(t:PT):(∀b∈Ao t,r≠some b)→LR.lies w t→LR.lies w' t:=by refine AD.ind (P:=fun(t:PT)=>(∀b∈Ao t,r≠some b)→LR.lies w t→LR.lies w' t) (fun a l ih ho h=>?_) t;have hn:=Bb h;refine A4.lies ⟨⟨Ab hg (fun he ad hp=>ho _ (Tw he hp)) hn.own.eff,hn.own.ok,hn.own.k0,hn.own.k1,hn.own.r0,hn.own.r1,hn.own.kmax,hn.own.kle,hn.own.knil⟩,Ab hg (fun hl ad hp=>ho _ (Tx hl hp)) hn.kids,fun t ht=>ih t ht (fun b hb=>ho b (MG ht hb)) (hn.each t ht)⟩
theorem EX{N B E:Nat}(t:PT):Bz N B E t→∀b∈Ao t,b<N∨B≤b:=by
 refine AD.ind (P:=fun(t:PT)=>Bz N B E t→∀b∈Ao t,b<N∨B≤b) (fun a l ih h b hb=>?_) t;have h0:=h a (by rw [AD.nodes_node];simp);rcases D9 hb with⟨hl,ad,hp,rfl⟩|⟨hl,ad,hp,rfl⟩|⟨u,hu,hb⟩
 ·exact .inr (h0.1 ad hp).1
 ·exact(h0.2 hl ad hp).1
 ·exact ih u hu (fun x hx=>h x (by rw [AD.nodes_node,List.mem_cons,List.mem_flatten];exact .inr ⟨u.nodes,List.mem_map_of_mem hu,hx⟩)) b hb
structure BV where
 name:ByteArray
 ty:PT
 fn:Option (AH×Nat)
def EK(b:BV):List Value:=[.string b.name,.int .u8 b.ty.head.kind,.int .i64 b.ty.head.rho,.slice b.ty.head.ep b.ty.head.en b.ty.head.ec,.slice b.ty.head.kp b.ty.head.kn b.ty.head.kc,.pointer (b.fn.map (fun x=>⟨x.2,0,none⟩))]
theorem Do(b:BV):(EK b).length=6:=rfl
theorem RF:∀b:BV,∀u∈EK b,u.oneCell'=true:=by intro b u hu;simp [EK] at hu;rcases hu with rfl|rfl|rfl|rfl|rfl|rfl<;>rfl
abbrev JI(b:BV):Value:=.agg #[.string b.name,.int .u8 b.ty.head.kind,.int .i64 b.ty.head.rho,.slice b.ty.head.ep b.ty.head.en b.ty.head.ec,.slice b.ty.head.kp b.ty.head.kn b.ty.head.kc,.pointer (b.fn.map (fun x=>⟨x.2,0,none⟩))]
def BV.er(b:BV):EA:=⟨b.name,b.ty.er,b.fn.map (fun x=>x.1.plain)⟩
structure BV.Ok(w0 w:World)(S:Nat→Prop)(b:BV):Prop where
 ty:LR.lies w b.ty
 uses:∀x∈Ao b.ty,S x
 fn:∀a g,b.fn=some (a,g)→Fx w g 0 a∧AH.Own w0 a∧g<w.heap.size
 name:b.name.size≤9223372036854775807
theorem BV.Ok.below{w0 w w':World}{S:Nat→Prop}{b:BV}(h:b.Ok w0 w S)(hb:Below w.heap.size w w'):b.Ok w0 w' S:=⟨LR.lies_below hb _ h.ty,h.uses,fun a g e=>⟨(h.fn a g e).1.below hb (h.fn a g e).2.2,(h.fn a g e).2.1,Nat.lt_of_lt_of_le (h.fn a g e).2.2 hb.size⟩,h.name⟩
theorem BV.Ok.weak{w0 w:World}{S S':Nat→Prop}{b:BV}(h:b.Ok w0 w S)(hs:∀x∈Ao b.ty,S' x):b.Ok w0 w S':=⟨h.ty,hs,h.fn,h.name⟩
structure Cn(w0 w:World)(S:Nat→Prop)(p:Option Addr)(n c:Nat)(env:List BV):Prop where
 row:AF EK 6 w p n c env
 each:∀b∈env,b.Ok w0 w S
theorem Cn.below{w0 w w':World}{S:Nat→Prop}{p:Option Addr}{n c:Nat}{env:List BV}(h:Cn w0 w S p n c env)(hb:Below w.heap.size w w'):Cn w0 w' S p n c env:=⟨h.row.below hb,fun b cv=>(h.each b cv).below hb⟩
theorem Cn.weak{w0 w:World}{S S':Nat→Prop}{p:Option Addr}{n c:Nat}{env:List BV}(h:Cn w0 w S p n c env)(hs:∀x,x<w.heap.size→S x→S' x):Cn w0 w S' p n c env:=⟨h.row,fun b hb=>(h.each b hb).weak (fun x hx=>hs x (Aa _ (h.each b hb).ty x hx) ((h.each b hb).uses x hx))⟩
def Ck(env:List BV):List EA:=env.map BV.er
structure RV where
 ty:PT
 ep:Option Addr
 en:Nat
 ec:Nat
 eff:List AB
def Bt(r:RV):List Value:=[.int .u8 r.ty.head.kind,.int .i64 r.ty.head.rho,.slice r.ty.head.ep r.ty.head.en r.ty.head.ec,.slice r.ty.head.kp r.ty.head.kn r.ty.head.kc,.slice r.ep r.en r.ec]
theorem FJ(r:RV):(Bt r).length=5:=rfl
theorem RG:∀r:RV,∀u∈Bt r,u.oneCell'=true:=by intro r u hu;simp [Bt] at hu;rcases hu with rfl|rfl|rfl|rfl|rfl<;>rfl
abbrev JJ(r:RV):Value:=.agg #[.int .u8 r.ty.head.kind,.int .i64 r.ty.head.rho,.slice r.ty.head.ep r.ty.head.en r.ty.head.ec,.slice r.ty.head.kp r.ty.head.kn r.ty.head.kc,.slice r.ep r.en r.ec]
def RV.er(r:RV):TE:=(r.ty.er,r.eff)
structure RV.Ok(w:World)(S:Nat→Prop)(r:RV):Prop where
 ty:LR.lies w r.ty
 uses:∀x∈Ao r.ty,S x
 eff:AF AP 3 w r.ep r.en r.ec r.eff
 eok:∀x∈r.eff,DD x
 euse:r.eff≠[]→∀ad,r.ep=some ad→S ad.block
theorem RV.Ok.below{w w':World}{S:Nat→Prop}{r:RV}(h:r.Ok w S)(hb:Below w.heap.size w w'):r.Ok w' S:=⟨LR.lies_below hb _ h.ty,h.uses,h.eff.below hb,h.eok,h.euse⟩
theorem RV.Ok.weak{w:World}{S S':Nat→Prop}{r:RV}(h:r.Ok w S)(hs:∀x,x<w.heap.size→S x→S' x):r.Ok w S':=⟨h.ty,fun x hx=>hs x (Aa _ h.ty x hx) (h.uses x hx),h.eff,h.eok,fun he ad hp=>hs _ (BD h.eff.row he hp) (h.euse he ad hp)⟩
theorem RV.Ok.grown{w w':World}{S:Nat→Prop}{r:RV}{row:Option Nat}(h:r.Ok w S)(hg:w.grownBy w' row)(hr:∀b,row=some b→¬S b):r.Ok w' S:=⟨Bl hg _ (fun b hb e=>hr b e (h.uses b hb)) h.ty,h.uses,Ab hg (fun he ad hp e=>hr _ e (h.euse he ad hp)) h.eff,h.eok,h.euse⟩
structure IG(w:World)(S:Nat→Prop)(p:Option Addr)(n c:Nat)(l:List RV):Prop where
 row:AF Bt 5 w p n c l
 each:∀r∈l,r.Ok w S
theorem IG.below{w w':World}{S:Nat→Prop}{p:Option Addr}{n c:Nat}{l:List RV}(h:IG w S p n c l)(hb:Below w.heap.size w w'):IG w' S p n c l:=⟨h.row.below hb,fun r hr=>(h.each r hr).below hb⟩
def BM(l:List RV):List TE:=l.map RV.er
abbrev IB(at_ no:Int):Value:=.iface 79 (.agg #[.int .i64 at_,.int .i64 no])
def Co(W:World)(S:Nat→Prop)(r:EY)(e:Ending)(w':World):Prop:=
 (match r with
  |.ok x=>∃y:RV,e=.returned (JJ y)∧y.er=x∧y.Ok w' S
  |.error (a,n)=>e=.panicked [{ v:=IB a n,recovered:=false }])∧Below W.heap.size W w'
section
open Go.Sort Go.Lib
end
section
open Go.Sort Go.Lib
end
section
open Go.Sort Go.Lib
structure Fu(B:Nat){α:Type}(enc:α→List Value)(k:Nat)(w:World)(p:Option Addr)(n c:Nat)(l:List α):Prop where
 own:AI enc k w B 59 (.slice p n c) n l
 lk:∀x,(enc x).length=k
 k0:0<k
section
variable {B:Nat} {α:Type} {enc:α→List Value} {k:Nat} {w:World} {p:Option Addr} {n c:Nat} {l:List α}
theorem Fu.row(h:Fu B enc k w p n c l):AF enc k w p n c l:=by obtain⟨q,c',hq,aB⟩:=h.own.isRow h.lk h.k0;cases hq;exact aB
theorem Fu.far(h:Fu B enc k w p n c l):∀ad,p=some ad→B≤ad.block:=fun ad hp=>by subst hp;exact(World.ownsRow.lt h.own ad.block rfl).1
theorem Fu.below{w':World}(h:Fu B enc k w p n c l)(hb:Below w.heap.size w w'):Fu B enc k w' p n c l:=⟨h.own.below hb,h.lk,h.k0⟩
theorem Fu.len(h:Fu B enc k w p n c l):l.length=n:=h.row.len
theorem Fu.mono{B':Nat}(h:Fu B enc k w p n c l)(hB:B'≤B):Fu B' enc k w p n c l:=⟨h.own.lower hB,h.lk,h.k0⟩
end
theorem TP(w:World){B:Nat}(hB:B≤w.heap.size):Fu B AP 3 (w.alloc (.cells #[] 59)) (some ⟨w.heap.size,0,none⟩) 0 0 []:=⟨AI.lit AP w B 59 3 hB,AC,by omega⟩
theorem TR{B base:Nat}{α:Type}{enc:α→List Value}{k:Nat}{w:World}{p:Option Addr}{n c:Nat}{l:List α}(hk:∀x,(enc x).length=k)(h0:0<k)(h:AI enc k w base 59 (.slice p n c) n l)(hB:B≤base):Fu B enc k w p n c l:=⟨h.lower hB,hk,h0⟩
def Fz(B:Nat){α:Type}(enc:α→List Value)(k:Nat)(w:World)(e:Ending)(l:List α):Prop:=∃p n c,e=.returned (.slice p n c)∧Fu B enc k w p n c l
theorem Fz.mk{B:Nat}{α:Type}{enc:α→List Value}{k:Nat}{w:World}{p:Option Addr}{n c:Nat}{l:List α}(h:Fu B enc k w p n c l):Fz B enc k w (.returned (.slice p n c)) l:=⟨p,n,c,rfl,h⟩
theorem OV{B:Nat}{p:Option Addr}{n cap:Nat}{l:List AB}{w:World}(hr:Fu B AP 3 w p n cap l)(hB:B≤w.heap.size)(hm:n≤1000000)(a:AB):Calls prog 52 #[.slice p n cap,.agg #[.int .u8 a.kind,.int .i64 a.rho,.string a.exn]] w fun e w'=>Fz B AP 3 w' e (E6 a l)∧Below w.heap.size w w':=by
 by_cases ha:AM a=true
 ·by_cases hi:J3 l a=true
  ·have hp:Hd (E6 a l=l):=by show E6 a l=l;simp [E6,ha,hi]
   have HR:=AA hr;clear hr;go_enter func52,ntmps52;go_wp2_with fail;refine(Dh a _).mono ?_;rintro e w1 ⟨rfl,hb⟩;have H1:Hd (Below w.heap.size w w1):=((Below.refl _ w).alloc (Nat.le_refl _) _).trans (hb.mono (by simp));have c0:w1.cell? ⟨w.heap.size,0,none⟩=some (.int .u8 a.kind):=by rw [hb.cell (by simp),AU];rfl
   have c1:w1.cell? ⟨w.heap.size,1,none⟩=some (.int .i64 a.rho):=by rw [hb.cell (by simp),AU];rfl
   have c2:w1.cell? ⟨w.heap.size,2,none⟩=some (.string a.exn):=by rw [hb.cell (by simp),AU];rfl
   rw [ha];clear hb ha;go_wp2_with fail;refine(Hz p n cap l a w1 HR.o.len (by omega) (HR.o.below H1.o).row.row).mono ?_;rintro e w2 ⟨rfl,hb⟩;have H2:=bt H1 hb;rw [hi];clear hb hi;go_wp2_with fail;go_ret;exact⟨by rw [hp.out];exact Fz.mk (HR.o.below H2.o),H2.o⟩
  ·have nF:J3 l a=false:=by simpa using hi
   refine(M3 p n cap l a w hr.len hm hr.row.row ha nF).mono ?_;rintro e w' ⟨v,he,ho,hb⟩;obtain⟨p',c',rfl,_⟩:=ho.isRow AC (by omega);have aB:=TR AC (by omega) ho hB;exact⟨by rw [he,show E6 a l=Bc a l from by simp [E6,ha,nF]];exact Fz.mk aB,hb⟩
 ·have ig:AM a=false:=by simpa using ha
  have hp:Hd (E6 a l=l):=by show E6 a l=l;simp [E6,ig]
  have HR:=AA hr;clear hr;clear ha;go_enter func52,ntmps52;go_wp2_with fail;refine(Dh a _).mono ?_;rintro e w1 ⟨rfl,hb⟩;have H1:Hd (Below w.heap.size w w1):=((Below.refl _ w).alloc (Nat.le_refl _) _).trans (hb.mono (by simp));rw [ig];clear hb ig;go_wp2_with fail;go_ret;exact⟨by rw [hp.out];exact Fz.mk (HR.o.below H1.o),H1.o⟩
theorem CU{p:Option Addr}{n cap:Nat}{l:List AB}{w:World}(hr:AF AP 3 w p n cap l)(hm:n≤1000000):Calls prog 50 #[.slice p n cap] w fun e w'=>Fz w.heap.size AP 3 w' e (BE l)∧Below w.heap.size w w':=by
 have nu:=AA (TN l);have HR:=AA hr;clear hr;go_enter func50,ntmps50;go_wp2_with fail;go_loopw [3,8] (fun u i wr=>∃(k:Nat) (q:Option Addr) (m mc:Nat),k≤n∧i=.int .i64 k∧u=.slice q m mc∧m≤k∧Fu w.heap.size AP 3 wr q m mc (L9 (l.take k))∧Below w.heap.size w wr) (fun _ i _=>n-(intOf i).toNat)
 case atStart=>exact⟨0,_,_,_,by omega,rfl,rfl,by omega,TP _ (Nat.le_refl _),bA⟩
 case round=>
  obtain⟨k,q,m,mc,hk,rfl,rfl,nS,aB,hb⟩:=hrel;have aa:=AA aB;have HB:=AA hb;clear aB hb;by_cases aG:k<n
  ·obtain⟨x,hx⟩:=Ac (l:=l) (j:=k) (by rw [HR.o.len];exact aG);have HE:=AA hx;obtain⟨b,o,rfl,al,d0,d1,d2⟩:=Cm.atom (HR.o.below HB.o).row hx;clear hx al;go_wp2_with fail;refine(OV aa.o HB.o.size (by omega) x).mono ?_;rintro e w1 ⟨⟨q',m',mc',rfl,ah⟩,hb⟩;have aO:=bt HB hb;have cq:m'≤k+1:=by have h1:=OS x (L9 (l.take k));have h2:=ah.len;have h3:=aa.o.len;omega
   have dF:=AA ah;clear hb d0 d1 d2 ah;go_wp2_with fail;go_roundw
   case rel=>exact⟨k+1,q',m',mc',by omega,by go_num,rfl,cq,by rw [AJ HE.o,Py];exact dF.out,aO.o⟩
   case measure=>simp [intOf];omega
  ·have bV:k=n:=by omega
   subst bV;go_wp2_with fail;go_ret;have h2:=aa.o;rw [AY (by rw [HR.o.len];omega),nu.o] at h2;exact⟨Fz.mk h2,HB.o⟩
end
theorem DA(r:Int)(w:World):Calls prog 137 #[.int .i64 r] w (RB w (MT (CC r))):=by go_enter func137,ntmps137;go_wp2_with fail;refine br (heap_alloc_new w _) underlying59 ?_;exact⟨rfl,(Below.refl w.heap.size w).alloc (Nat.le_refl _) _⟩
theorem Cc(r:Int)(w:World):Calls prog 138 #[.int .i64 r] w (RB w (MT (Bu r))):=by go_enter func138,ntmps138;go_wp2_with fail;refine br (heap_alloc_new w _) underlying59 ?_;exact⟨rfl,(Below.refl w.heap.size w).alloc (Nat.le_refl _) _⟩
theorem A7(a:AH)(no:Int)(w:World):Calls prog 64 #[.bool true,An a,.int .i64 no] w (RB w (.tuple #[])):=by have HB:=AA ((Below.refl w.heap.size w).alloc (Nat.le_refl _) (AO a));go_enter func64,ntmps64;go_wp2_with fail;go_end0;exact⟨rfl,HB.o⟩
theorem BA(a:AH)(no:Int)(w:World):Calls prog 64 #[.bool false,An a,.int .i64 no] w fun e w'=>e=.panicked [{ v:=IB a.at_ no,recovered:=false }]∧Below w.heap.size w w':=by have HB:=AA ((Below.refl w.heap.size w).alloc (Nat.le_refl _) (AO a));go_enter func64,ntmps64;go_wp2_with fail;exact⟨rfl,rfl,HB.o⟩
theorem G7(r:RV)(k:Int)(w:World):Calls prog 141 #[JJ r,.int .u8 k] w (RB w (.bool (r.ty.head.kind==k))):=by go_enter func141,ntmps141;go_wp2_with fail;go_ret;exact⟨AE rfl,(Below.refl w.heap.size w).alloc (Nat.le_refl _) _⟩
theorem CT(k rho:Int){p:Option Addr}{n c:Nat}{l:List AB}{w:World}(hr:AF AP 3 w p n c l)(hm:n≤1000000)(kp:Option Addr)(kn kc:Nat):Calls prog 136 #[.int .u8 k,.int .i64 rho,.slice p n c,.slice kp kn kc] w fun e w'=>∃q m qc,e=.returned (.agg #[.int .u8 k,.int .i64 rho,.slice q m qc,.slice kp kn kc])∧AF AP 3 w' q m qc (BE l)∧(∀ad,q=some ad→w.heap.size≤ad.block)∧Below w.heap.size w w':=by
 have fI:Below w.heap.size w (w.alloc (.cells #[.int .u8 0,.int .i64 0,.slice none 0 0,.slice none 0 0] 28)):=(Below.refl w.heap.size w).alloc (Nat.le_refl _) _;have HR:=AA (hr.below fI);have dU:=AA fI;clear hr fI;go_enter func136,ntmps136;go_wp2_with fail;refine(BW p n c l _ HR.o.len hm HR.o.row).mono ?_;rintro e w2 ⟨v,m,rfl,dC,aD,hb⟩;obtain⟨q,qc,rfl,aB⟩:=AI.isRow AC (by omega) aD;have gV:=fun b hb=>AI.from aD b hb;have aa:=AA aB;have oC:=AA gV;have HB:=bt dU hb;have eW:w2.heap[w.heap.size]?=some (.cells #[.int .u8 0,.int .i64 0,.slice none 0 0,.slice none 0 0] 28 (0,0)):=(hb.block _ (by simp)).trans (heap_alloc_new w _);have ix:=AA eW;clear aD aB gV hb eW;go_wp2_with (refine sw #[.int .u8 k,.int .i64 rho,.slice q m qc,.slice kp kn kc] ix.o ?_);refine br (setRow_heap _ _ _ _ _ _ ix.o) underlying28 ?_;have hg:w2.grownBy (w2.setRow w.heap.size #[.int .u8 k,.int .i64 rho,.slice q m qc,.slice kp kn kc]) (some w.heap.size):=⟨rfl,rfl,rfl,by simp,fun k hk aR=>setRow_other _ _ _ _ (fun e=>aR (by rw [e]))⟩;have aR:∀ad,q=some ad→w.heap.size+1≤ad.block:=fun ad hp=>by subst hp;have:=oC.o ad.block rfl;simpa using this
 exact⟨q,m,qc,rfl,Ab hg (fun _ ad hp e=>by have:=aR ad hp;injection e with e;omega) aa.o,fun ad hp=>by have:=aR ad hp;omega,HB.o.grown hg HB.o.size (fun k e=>by cases e;exact Nat.le_refl _)⟩
end Go.Proofs.YtkdjnegfnhldpaaGreatDoor
