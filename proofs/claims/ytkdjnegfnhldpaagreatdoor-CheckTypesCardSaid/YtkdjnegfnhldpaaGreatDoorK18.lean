/- Part 18. -/
import Derived.Test.YtkdjnegfnhldpaaGreatDoorK17
set_option linter.unusedVariables false
set_option maxRecDepth 100000
set_option linter.unusedSimpArgs false
set_option maxHeartbeats 40000000
set_option autoImplicit true
set_option relaxedAutoImplicit true
namespace Go.Proofs.YtkdjnegfnhldpaaGreatDoor
open Go.Proofs.Tryz Go.RowKit
theorem Yf(h:t∈l):t.size<(Ad.node k l:GT).size:=by
 rw [Ad.size_node];have h1:t.size∈l.map Ad.size:=Au h
 have:∀{l:List Nat} {x:Nat},x∈l->x<=l.sum:=by
  intro l x hx;induction l with
  |nil=>cases hx
  |cons y l ih=>
   rcases AS.1 hx with rfl|hx
   ·simp
   ·have:=ih hx;simp;omega
 have:=this h1;omega
def Iq(st st':List Int):Prop:=st'.length=st.length/\∀j,st'.getD j 0=1↔st.getD j 0=1
theorem Iq.refl(st:List Int):Iq st st:=⟨rfl,fun _=>Iff.rfl⟩
theorem Iq.trans(h:Iq a b)(h':Iq b c):Iq a c:=⟨h'.1.trans h.1,fun j=>(h'.2 j).trans (h.2 j)⟩
theorem Qc{l:List Int}{i j:Nat}{v:Int}(h:i<l.length):(l.set i v).getD j 0=if j=i then v else l.getD j 0:=by
 rw [AX,Ey];by_cases e:i=j
 ·subst e;simp [h]
 ·have e':¬j=i:=fun h=>e h.symm;rw [AC e,AC e',AX]
theorem NH{cs:List Cl}{θ:Nat->GT}{R:List Int->Nat->List Int×Bool}:∀(l:List Nat) (st:List Int),(∀k∈l,∀st',Iq st st'->(R st' k).2=false/\Iq st' (R st' k).1)->(Dn R st l).2=false/\Iq st (Dn R st l).1
 |[],st,_=>⟨rfl,.refl st⟩
 |k::l,st,h=>by obtain⟨h1,h2⟩:=h k (by simp) st (.refl st);rw [Dn,AC (by rw [h1];decide)];obtain⟨h3,h4⟩:=NH (cs:=cs) (θ:=θ) l (R st k).1 (fun j hj st' hs=>h j (by simp [hj]) st' (h2.trans hs));exact⟨h3,h2.trans h4⟩
theorem Sh(hb:Dh b)(hs:OD θ b.cs):∀(n:Nat) (st:List Int) (i:Nat),st.length=b.cs.length->i<b.cs.length->(∀j,st.getD j 0=1->(θ i).size<(θ j).size)->(EI n b.cs st i).2=false/\Iq st (EI n b.cs st i).1
 |0,st,i,_,_,_=>⟨rfl,.refl st⟩
 |n+1,st,i,hl,hi,hw=>by
  rw [EI];obtain⟨h1,h2⟩:=hb.root hi;have e1:=hs.find hb hi;generalize hX:Dk b.cs i=X at *
  have fC:st.getD X 0≠1:=fun e=>by have:=hw X e;rw [e1] at this;omega
  split
  ·exact⟨by simpa using fC,.refl st⟩
  ·rename_i h0;have nP:X<st.length:=by omega
   have HR:=NH (cs:=b.cs) (θ:=θ) (R:=EI n b.cs) (EW b.cs X).kids (st.set X 1) (fun k hk st' vP=>by
    have dS:=(hb.cell X h1).1 k hk;have ao:(EW b.cs X).kind≠0:=fun e=>by have:=(hb.cell X h1).2.1;rw [e] at this;rw [BA.1 this] at hk;cases hk
    have pX:=hs.node X h1 ao;refine Sh hb hs n st' k (by rw [vP.1,CQ,hl]) dS (fun j hj=>?_);have aI:(θ k).size<(θ X).size:=by rw [pX];exact Yf (Au hk)
    have:=(vP.2 j).1 hj;rw [Qc nP] at this;split at this
    ·rename_i e;rw [e];exact aI
    ·have:=hw j this;rw [<-e1] at this;omega)
   obtain⟨h3,h4⟩:=HR;rw [AC (by rw [h3];decide)];refine⟨rfl,by rw [CQ,h4.1,CQ],fun j=>?_⟩;show ((Dn (EI n b.cs) (st.set X 1) (EW b.cs X).kids).1.set X 2).getD j 0=1↔_;rw [Qc (by rw [h4.1,CQ];exact nP)];split
   ·rename_i e;rw [e];exact⟨fun h=>by omega,fun h=>absurd h fC⟩
   ·rename_i e;rw [h4.2 j,Qc nP,AC e]
theorem WU(hb:Dh b)(hs:OD θ b.cs):IM b.cs=true:=by
 unfold IM;have h0:∀j,(List.replicate b.cs.length (0:Int)).getD j 0=0:=fun j=>by rw [AX,List.getElem?_replicate];split<;>rfl
 have H:=NH (cs:=b.cs) (θ:=θ) (R:=EI (b.cs.length+1) b.cs) (List.range b.cs.length) (List.replicate b.cs.length 0) (fun k hk st' hw=>
  Sh hb hs _ st' k (by rw [hw.1,List.length_replicate]) (Fl.1 hk) (fun j hj=>by
   have:=(hw.2 j).1 hj;rw [h0] at this;omega))
 rw [H.1];rfl
def NR(θ:Nat->GT)(vars:List Nat):YT->GT:=Ad.fold (fun h l=>if h.kind=5 then θ (vars.getD h.var.toNat 0) else .node h.kind l)
theorem JY(θ:Nat->GT)(vars:List Nat)(h:YH)(l:List YT):NR θ vars (.node h l)=if h.kind=5 then θ (vars.getD h.var.toNat 0) else .node h.kind (l.map (NR θ vars)):=Ad.fold_node _ h l
def ZP(n:Nat)(θ θ':Nat->GT):Prop:=∀i,i<n->θ' i=θ i
theorem ZP.trans(h:ZP n θ θ')(h':ZP m θ' θ'')(kX:n<=m):ZP n θ θ'':=fun i hi=>(h' i (by omega)).trans (h i hi)
theorem RO(h:ZP n θ θ')(hv:∀v∈vars,v<n)(t:YT):(FT t&&EC vars.length t)=true->NR θ' (vars++vs) t=NR θ vars t:=by
 refine Ad.ind (P:=fun(t:YT)=>(FT t&&EC vars.length t)=true->NR θ' (vars++vs) t=NR θ vars t) (fun a l ih hk=>?_) t;have H:=knY hk;rw [JY,JY];split
 ·rename_i h5;have aG:=H.var h5;have e:(vars++vs).getD a.var.toNat 0=vars.getD a.var.toNat 0:=by rw [AX,AX,BW aG]
  rw [e];refine h _ (hv _ ?_);rw [AX,AI aG];exact Be aG
 ·congr 1;exact Bf (fun t ht=>ih t ht (H.each t ht))
theorem OD.app(hb:Dh b)(h:OD θ b.cs)(h0:c.led=none)(g:GT)(hk:∀k∈c.kids,k<b.cs.length)(hg:c.kind≠0->g=.node c.kind (c.kids.map θ)):∃θ',ZP b.cs.length θ θ'/\θ' b.cs.length=g/\OD θ' (b.cs++[c]):=by
 refine⟨fun i=>if i=b.cs.length then g else θ i,fun i hi=>AC (by omega),AJ rfl,fun i j hi hj=>?_,fun i hi ao=>?_⟩
 ·have hl:(b.cs++[c]).length=b.cs.length+1:=by simp
  by_cases e:i<b.cs.length
  ·rw [Kb _ e] at hj;obtain⟨n,y,hc,_⟩:=hb.chain i e
   have j0:j<b.cs.length:=by
    cases hc with
    |nil _ h2=>rw [h2] at hj;cases hj
    |cons _ h2 h3=>rw [h2] at hj;cases hj;exact h3.lt
   rw [AC (by omega),AC (by omega)];exact h.lead i j e hj
  ·have e':i=b.cs.length:=by omega
   subst e';rw [Nb,h0] at hj;cases hj
 ·have hl:(b.cs++[c]).length=b.cs.length+1:=by simp
  have hm:∀l:List Nat,(∀k∈l,k<b.cs.length)->l.map (fun i=>if i=b.cs.length then g else θ i)=l.map θ:=fun l hl=>Bf (fun k hk=>AC (by have:=hl k hk;omega));by_cases e:i<b.cs.length
  ·rw [Kb _ e] at ao ⊢;rw [AC (by omega),hm _ (hb.cell i e).1];exact h.node i e ao
  ·have e':i=b.cs.length:=by omega
   subst e';rw [Nb] at ao ⊢;rw [AJ rfl,hm _ hk];exact hg ao
theorem Xo(t:YT):∀b θ,Dh b->OD θ b.cs->b.knows t=true->∃θ',ZP b.cs.length θ θ'/\OD θ' (Cq b t).1.cs/\θ' (Cq b t).2=NR θ b.vars t:=by
 refine Ad.ind (P:=fun(t:YT)=>∀b θ,Dh b->OD θ b.cs->b.knows t=true->∃θ',ZP b.cs.length θ θ'/\OD θ' (Cq b t).1.cs/\θ' (Cq b t).2=NR θ b.vars t) (fun h l ih b θ hb hs hk=>?_) t;have H:=knY hk
 have hL:∀(l:List YT) (b:Bk) (θ:Nat->GT),(∀t∈l,∀b θ,Dh b->OD θ b.cs->b.knows t=true->∃θ',ZP b.cs.length θ θ'/\OD θ' (Cq b t).1.cs/\θ' (Cq b t).2=NR θ b.vars t)->Dh b->OD θ b.cs->(∀t∈l,b.knows t=true) ->
  ∃θ',ZP b.cs.length θ θ'/\OD θ' (Da b l).1.cs/\(Da b l).2.map θ'=l.map (NR θ b.vars):=by
  intro l
  induction l with
  |nil=>intro b θ _ hb hs _;rw [Da];exact⟨θ,fun _ _=>rfl,hs,rfl⟩
  |cons t l ihl=>
   intro b θ hi hb hs hk;rw [Da];obtain⟨g1,g2⟩:=Ky t b hb (hk t (by simp));obtain⟨θ1,x1,x2,x3⟩:=hi t (by simp) b θ hb hs (hk t (by simp));have gG:∀u∈l,(Cq b t).1.knows u=true:=fun u hu=>by have:=hk u (by simp [hu]);unfold Bk.knows at this ⊢;rw [g1.vars];exact this
   obtain⟨θ2,y1,y2,y3⟩:=ihl (Cq b t).1 θ1 (fun u hu=>hi u (by simp [hu])) g1.ok x2 gG;refine⟨θ2,x1.trans y1 g1.len,y2,?_⟩;rw [AV,AV,y3,y1 _ g2,x3,g1.vars];congr 1;refine Bf (fun u hu=>?_);have:=RO (vs:=[]) x1 hb.vars u (hk u (by simp [hu]));rw [B6] at this;exact this
 rw [Cq,JY];split
 ·exact⟨θ,fun _ _=>rfl,hs,rfl⟩
 ·rename_i h5;obtain⟨g1,g2,g3⟩:=Xn l b hb (fun t ht=>H.each t ht);obtain⟨θ1,x1,x2,x3⟩:=hL l b θ ih hb hs (fun t ht=>H.each t ht);obtain⟨θ2,y1,y2,y3⟩:=x2.app g1.ok (c:=⟨none,h.kind,(Da b l).2,0⟩) rfl (.node h.kind ((Da b l).2.map θ1)) g3 (fun _=>rfl);exact⟨θ2,x1.trans y1 g1.len,y3,by rw [y2,x3]⟩
theorem Bk.join_sat(hb:Dh b)(hs:OD θ b.cs)(ht:b.knows t=true)(hu:b.knows u=true)(e:NR θ b.vars t=NR θ b.vars u):∃b' θ',b.join [t,u]=(b',true)/\Dh b'/\ZP b.cs.length θ θ'/\OD θ' b'.cs/\b'.vars=b.vars/\b.cs.length<=b'.cs.length:=by
 obtain⟨g1,g2⟩:=Ky t b hb ht;obtain⟨θ1,x1,x2,x3⟩:=Xo t b θ hb hs ht;have m9:(Cq b t).1.knows u=true:=by unfold Bk.knows at hu ⊢;rw [g1.vars];exact hu
 obtain⟨g3,g4⟩:=Ky u (Cq b t).1 g1.ok m9;obtain⟨θ2,y1,y2,y3⟩:=Xo u (Cq b t).1 θ1 g1.ok x2 m9;have g5:(Cq b t).2<(Cq (Cq b t).1 u).1.cs.length:=Ak g2 g3.len;have ev:NR θ1 (Cq b t).1.vars u=NR θ b.vars u:=by rw [g1.vars];have:=RO (vs:=[]) x1 hb.vars u hu;rw [B6] at this;exact this
 have e2:θ2 (Cq b t).2=θ2 (Cq (Cq b t).1 u).2:=by rw [y3,y1 _ g2,x3,e,ev]
 obtain⟨j1,j2⟩:=SX ((Cq (Cq b t).1 u).1.cs.length+1) _ _ _ g3.ok y2 e2 g5 g4;have L:=I5 ((Cq (Cq b t).1 u).1.cs.length+1) _ _ _ g3.ok g5 g4;refine⟨_,θ2,?_,L.ok,x1.trans y1 g1.len,j2,by rw [L.vars,g3.vars,g1.vars],by rw [L.len];exact AM g1.len g3.len⟩;unfold Bk.join;have ha:([t,u].all b.knows)=true:=by simp [ht,hu]
 have e3:Jl b [t,u]=((En ((Cq (Cq b t).1 u).1.cs.length+1) (Cq (Cq b t).1 u).1 (Cq b t).2 (Cq (Cq b t).1 u).2).1,true):=by rw [Jl,F9,AJ j1,F9]
 rw [AJ ha,e3,WU L.ok j2];rfl
abbrev TT:=Ad By
structure DH where
 hd:By
 ty:YT
 bind:YT
abbrev DT:=Ad DH
def Hn(n:Nat):YT:=.node ⟨5,n⟩ []
def Eu:YT:=.node ⟨1,0⟩ []
def Tn(k:Int)(a b:YT):YT:=.node ⟨k,0⟩ [a,b]
def Oh(a:YT):YT:=.node ⟨3,0⟩ [a]
structure SS where
 b:Bk
 bad:Bool
 at_:Int
def SS.fresh(s:SS):SS:=⟨s.b.fresh,s.bad,s.at_⟩
def SS.same(s:SS)(at_:Int)(x y:YT):SS:=if s.bad then s else if(s.b.join [x,y]).2 then⟨(s.b.join [x,y]).1,s.bad,s.at_⟩ else⟨s.b,true,at_⟩
abbrev EY:=List (ByteArray×YT)
def Lz(env:EY)(x:ByteArray):YT:=
 match env.reverse.find? (fun b=>decide (b.1=x)) with
 |none=>Eu
 |some b=>b.2
def F8(env:EY)(h:By)(arg bind:YT)(k:List YT)(i:Nat):EY:=
 if h.kind=13 then(if i=0 then env++[(h.name,bind)]++[(h.arg,arg)] else env++[(h.name,bind)])
 else if h.kind=12/\i=1 then env++[(h.name,k.getD 0 Eu)]
 else if h.kind=11\/h.kind=16/\i=1 then env++[(h.arg,arg)]
 else env
def BC(s:SS)(h:By):SS×YT×YT:=
 if h.kind=11 then(s.fresh,Hn s.b.vars.length,yZ)
 else if h.kind=13 then(s.fresh.fresh,Hn s.b.vars.length,Tn 4 (Hn s.b.vars.length) (Hn s.fresh.b.vars.length))
 else(s,Eu,yZ)
def DZ(s:SS)(env:EY)(h:By)(arg bind:YT)(k:List YT):SS×YT:=
 let x:=k.getD 0 Eu
 let y:=k.getD 1 Eu
 let z:=k.getD 2 Eu
 if h.kind=2 then(s,Lz env h.name)
 else if h.kind=3 then(s,Tn 2 x y)
 else if h.kind=4\/h.kind=5 then(s.fresh.fresh.same h.at_ x (Tn 2 (Hn s.b.vars.length) (Hn s.fresh.b.vars.length)),if h.kind=5 then Hn s.fresh.b.vars.length else Hn s.b.vars.length)
 else if h.kind=6 then(s,Oh x)
 else if h.kind=7 then(s.fresh.same h.at_ x (Oh (Hn s.b.vars.length)),Hn s.b.vars.length)
 else if h.kind=8 then(s.same h.at_ x (Oh y),Eu)
 else if h.kind=9 then((s.same h.at_ x Eu).same h.at_ y Eu,Eu)
 else if h.kind=10 then(s.fresh.same h.at_ x (Tn 4 y (Hn s.b.vars.length)),Hn s.b.vars.length)
 else if h.kind=11 then(s,Tn 4 arg x)
 else if h.kind=12 then(s,y)
 else if h.kind=13 then(s.same h.at_ bind (Tn 4 arg x),y)
 else if h.kind=14 then((s.same h.at_ x Eu).same h.at_ y z,y)
 else if h.kind=15 then((s.same h.at_ x Eu).fresh,Hn (s.same h.at_ x Eu).b.vars.length)
 else if h.kind=16 then(s.same h.at_ x y,x)
 else(s,Eu)
def H5(at_:Int)(r:SS×YT):SS×YT:=if 1<r.2.head.kind/\r.2.head.kind<5/\r.1.bad=false then(r.1.fresh.same at_ (Hn r.1.b.vars.length) r.2,Hn r.1.b.vars.length) else r
def Pt(t:DT):YT:=t.head.ty
mutual
def Fh(s:SS)(env:EY):TT->SS×DT
 |.node h l=>
  if s.bad then(s,.node ⟨h,yZ,yZ⟩ []) else
   if(D4 (BC s h).1 env h (BC s h).2.1 (BC s h).2.2 [] l).1.bad then
    ((D4 (BC s h).1 env h (BC s h).2.1 (BC s h).2.2 [] l).1,.node ⟨h,yZ,(BC s h).2.2⟩ (D4 (BC s h).1 env h (BC s h).2.1 (BC s h).2.2 [] l).2)
   else
    ((
     H5 h.at_ (DZ (D4 (BC s h).1 env h (BC s h).2.1 (BC s h).2.2 [] l).1 env h (BC s h).2.1 (BC s h).2.2 ((D4 (BC s h).1 env h (BC s h).2.1 (BC s h).2.2 [] l).2.map Pt))).1,
     .node ⟨h,(H5 h.at_ (DZ (D4 (BC s h).1 env h (BC s h).2.1 (BC s h).2.2 [] l).1 env h (BC s h).2.1 (BC s h).2.2 ((D4 (BC s h).1 env h (BC s h).2.1 (BC s h).2.2 [] l).2.map Pt))).2,(BC s h).2.2⟩
      (D4 (BC s h).1 env h (BC s h).2.1 (BC s h).2.2 [] l).2)
def D4(s:SS)(env:EY)(h:By)(arg bind:YT)(acc:List DT):List TT->SS×List DT
 |[]=>(s,acc)
 |t::l=>
  if(Fh s (F8 env h arg bind (acc.map Pt) acc.length) t).1.bad then((Fh s (F8 env h arg bind (acc.map Pt) acc.length) t).1,acc)
  else D4 (Fh s (F8 env h arg bind (acc.map Pt) acc.length) t).1 env h arg bind (acc++[(Fh s (F8 env h arg bind (acc.map Pt) acc.length) t).2]) l
end
theorem Jp(s:SS)(env:EY)(h:By)(l:List TT):Fh s env (.node h l) =
 if s.bad then(s,.node ⟨h,yZ,yZ⟩ []) else
  let p:=BC s h
  let q:=D4 p.1 env h p.2.1 p.2.2 [] l
  if q.1.bad then(q.1,.node ⟨h,yZ,p.2.2⟩ q.2) else
   let r:=H5 h.at_ (DZ q.1 env h p.2.1 p.2.2 (q.2.map Pt))
   (r.1,.node ⟨h,r.2,p.2.2⟩ q.2):=by rw [Fh]
theorem MO(s:SS)(env:EY)(h:By)(arg bind:YT)(acc:List DT):D4 s env h arg bind acc []=(s,acc):=by rw [D4]
theorem Kx(s:SS)(env:EY)(h:By)(arg bind:YT)(acc:List DT)(t:TT)(l:List TT):D4 s env h arg bind acc (t::l)=let r:=Fh s (F8 env h arg bind (acc.map Pt) acc.length) t
 if r.1.bad then(r.1,acc) else D4 r.1 env h arg bind (acc++[r.2]) l:=by rw [D4]
def EA:RT->GT:=Ad.map LH.kind
theorem Gs(a:LH)(l:List RT):EA (.node a l)=.node a.kind (l.map EA):=Ad.map_node _ a l
def A4(a:MZ):By:=⟨if a.kind=18 then 2 else a.kind,a.op,a.at_,a.n,a.name,a.arg,a.exn⟩
def DG:AT->TT:=Ad.fold (fun a l=>if a.kind=17 then l.getD 0 (.node (A4 a) []) else .node (A4 a) l)
theorem H9(a:MZ)(l:List AT):DG (.node a l)=if a.kind=17 then(l.map DG).getD 0 (.node (A4 a) []) else .node (A4 a) (l.map DG):=Ad.fold_node _ a l
theorem KZ(x:RT):∀y,I7 x y=true->EA x=EA y:=by
 refine Ad.ind (P:=fun(x:RT)=>∀y,I7 x y=true->EA x=EA y) (fun a l ih y h=>?_) x;obtain⟨b,m⟩:=y;unfold I7 at h ih;rw [Ad.same_node,AK] at h;rw [Gs,Gs];have h1:a.kind=b.kind:=by have:=h.1;unfold N1 at this;simp only [AK,Ai] at this;exact this.1.1
 rw [h1];congr 1;have h2:=(Ad.sameL_get _ l m).1 h.2;refine DA (fun j=>?_);rw [A7,A7];by_cases hj:j<l.length
 ·have e1:l[j]?=some l[j]:=AI hj;have e2:m[j]?=some (m[j]'(by rw [<-h2.1];exact hj)):=AI _;rw [e1,e2];exact congrArg some (ih _ (Be hj) _ (h2.2 j _ _ e1 e2))
 ·rw [Bm (by omega),Bm (by rw [<-h2.1];omega)]
theorem SI(f t:List Int)(x:RT):EA (Fi f t x)=EA x:=by
 refine Ad.ind (P:=fun(x:RT)=>EA (Fi f t x)=EA x) (fun a l ih=>?_) x;have e:Fi f t (.node a l)=.node (UD f t a) (l.map (Fi f t)):=Ad.map_node _ a l;rw [e,Gs,Gs,CS];have e2:(UD f t a).kind=a.kind:=by unfold UD;split<;>rfl
 rw [e2];congr 1;exact Bf (fun x hx=>ih x hx)
theorem Pk(k rho:Int)(eff:List BB)(l:List RT):EA (N9 k rho eff l)=.node k (l.map EA):=by unfold N9;rw [Gs]
def gOf(b:OA):GT:=match b.fn with|none=>EA b.ty|some f=>.node 4 [EA f.ty,EA f.res]
structure SG(s:SS)(θ:Nat->GT):Prop where
 bad:s.bad=false
 ok:Dh s.b
 sat:OD θ s.b.cs
structure Nx(s s':SS)(θ θ':Nat->GT):Prop where
 sg:SG s' θ'
 ext:ZP s.b.cs.length θ θ'
 len:s.b.cs.length<=s'.b.cs.length
 vars:∃vs,s'.b.vars=s.b.vars++vs
theorem Nx.refl(h:SG s θ):Nx s s θ θ:=⟨h,fun _ _=>rfl,AB _,[],by simp⟩
theorem Nx.trans(h:Nx s s' θ θ')(h':Nx s' s'' θ' θ''):Nx s s'' θ θ'':=by obtain⟨v,hv⟩:=h.vars;obtain⟨w,hw⟩:=h'.vars;exact⟨h'.sg,h.ext.trans h'.ext h.len,AM h.len h'.len,v++w,by rw [hw,hv,Cf]⟩
def Is(s:SS)(θ:Nat->GT)(t:YT)(g:GT):Prop:=s.b.knows t=true/\NR θ s.b.vars t=g
theorem Is.next(hs:SG s θ)(h:Nx s s' θ θ')(ht:Is s θ t g):Is s' θ' t g:=by
 obtain⟨v,hv⟩:=h.vars;obtain⟨h1,h2⟩:=ht;refine⟨?_,?_⟩
 ·unfold Bk.knows at h1 ⊢;rw [hv];have H:∀t:YT,(FT t&&EC s.b.vars.length t)=true->(FT t&&EC (s.b.vars++v).length t)=true:=fun t=>by refine Ad.ind (P:=fun(t:YT)=>(FT t&&EC s.b.vars.length t)=true->(FT t&&EC (s.b.vars++v).length t)=true) (fun a l ih hk=>?_) t;have K:=knY hk;exact KnY.may ⟨K.k1,K.k5,K.len,K.v0,K.v1,fun e=>by have:=K.var e;rw [As];omega,fun t ht=>ih t ht (K.each t ht)⟩
  exact H t h1
 ·rw [hv,<-h2];exact RO h.ext hs.ok.vars t h1
theorem Is.one(s:SS)(θ:Nat->GT):Is s θ Eu (.node 1 []):=⟨by
 unfold Bk.knows;exact KnY.may ⟨by decide,by decide,rfl,by decide,fun _=>rfl,(fun e=>by cases e),(fun t ht=>by cases ht)⟩,rfl⟩
theorem Is.of(hk:k=2\/k=4)(ha:Is s θ a g)(hb:Is s θ b h):Is s θ (Tn k a b) (.node k [g,h]):=by
 refine⟨?_,?_⟩
 ·unfold Bk.knows;refine KnY.may ⟨?_,?_,?_,Int.le_refl _,fun _=>rfl,fun e=>?_,fun t ht=>?_⟩
  ·show 1<=k;omega
  ·show k<=5;omega
  ·show 2=UA k;unfold UA;rw [AJ hk]
  ·have:k=5:=e;omega
  ·simp only [AS,Al,BN] at ht;rcases ht with rfl|rfl
   ·exact ha.1
   ·exact hb.1
 ·unfold Tn;rw [JY,AC (by show ¬k=5;omega),AV,AV,Am,ha.2,hb.2]
theorem Is.ref(ha:Is s θ a g):Is s θ (Oh a) (.node 3 [g]):=by
 refine⟨?_,?_⟩
 ·unfold Bk.knows;refine KnY.may ⟨by decide,by decide,rfl,by decide,fun _=>rfl,(fun e=>by cases e),fun t ht=>?_⟩;simp only [AS,Al,BN] at ht;subst ht;exact ha.1
 ·unfold Oh;rw [JY,AC (by decide),AV,Am,ha.2]
theorem IN(h:SG s θ)(g:GT):∃θ',Nx s s.fresh θ θ'/\Is s.fresh θ' (Hn s.b.vars.length) g:=by
 obtain⟨θ',h1,h2,h3⟩:=h.sat.app h.ok (c:=⟨none,0,[],s.b.vars.length⟩) rfl g (fun k hk=>by cases hk) (fun e=>absurd rfl e);refine⟨θ',⟨⟨h.bad,h.ok.fresh,h3⟩,h1,by show _<=(s.b.cs++_).length;simp,[s.b.cs.length],rfl⟩,?_,?_⟩
 ·unfold Bk.knows;refine KnY.may ⟨by show (1:Int)<=5;decide,by show (5:Int)<=5;decide,rfl,by show (0:Int)<=(s.b.vars.length:Int);omega,fun e=>absurd rfl e,fun _=>?_,(fun t ht=>by cases ht)⟩;show ((s.b.vars.length:Int)).toNat<(s.b.vars++[s.b.cs.length]).length;rw [As];simp
 ·unfold Hn;rw [JY,AJ rfl];show θ' ((s.b.vars++[s.b.cs.length]).getD ((s.b.vars.length:Int)).toNat 0)=g;rw [AX,E9,Bp (AB _),Nat.sub_self];exact h2
theorem Ht(h:SG s θ)(at_:Int)(hx:Is s θ x g)(hy:Is s θ y g):∃θ',Nx s (s.same at_ x y) θ θ':=by obtain⟨b',θ',h1,h2,h3,h4,h5,h6⟩:=Bk.join_sat h.ok h.sat hx.1 hy.1 (hx.2.trans hy.2.symm);refine⟨θ',?_⟩;unfold SS.same;rw [AC (by rw [h.bad];decide),h1,AJ rfl];exact⟨⟨h.bad,h2,h4⟩,h3,h6,[],by rw [B6];exact h5⟩
structure Pw(s:SS)(θ:Nat->GT)(env:List OA)(ey:EY):Prop where
 len:ey.length=env.length
 each:∀(j:Nat) (b:OA) (p:ByteArray×YT),env[j]?=some b->ey[j]?=some p->p.1=b.name/\Is s θ p.2 (gOf b)
theorem Pw.next(hs:SG s θ)(h:Nx s s' θ θ')(he:Pw s θ env ey):Pw s' θ' env ey:=⟨he.len,fun j b p hb hp=>⟨(he.each j b p hb hp).1,(he.each j b p hb hp).2.next hs h⟩⟩
theorem Pw.add(he:Pw s θ env ey)(h:Is s θ t (gOf b)):Pw s θ (env++[b]) (ey++[(b.name,t)]):=by
 refine⟨by simp [he.len],fun j c p hc hp=>?_⟩;by_cases hj:j<env.length
 ·rw [BW hj] at hc;rw [BW (by rw [he.len];exact hj)] at hp;exact he.each j c p hc hp
 ·rw [Bp (by omega)] at hc;rw [Bp (by rw [he.len];omega),he.len] at hp;generalize j-env.length=i at hc hp;cases i with
  |zero=>simp at hc hp;subst hc;subst hp;exact⟨rfl,h⟩
  |succ i=>simp at hc
theorem Xv:∀{env:List OA} {ey:EY},Pw s θ env ey->IL env x=some b->Is s θ (Lz ey x) (gOf b):=by
 have H:∀(l:List OA) (m:EY),m.length=l.length->(∀(j:Nat) (b:OA) (p:ByteArray×YT),l[j]?=some b->m[j]?=some p->p.1=b.name/\Is s θ p.2 (gOf b))->l.find? (fun b=>decide (b.name=x))=some b ->
  ∃p,m.find? (fun b=>decide (b.1=x))=some p/\Is s θ p.2 (gOf b):=by
  intro l
  induction l with
  |nil=>intro m _ _ h;cases h
  |cons c l ih=>
   intro m hl he h;cases m with
   |nil=>simp at hl
   |cons p m=>
    obtain⟨e1,e2⟩:=he 0 c p rfl rfl;rw [List.find?_cons] at h ⊢;rw [e1];by_cases hc:c.name=x
    ·simp only [hc,decide_true,Option.some.injEq] at h ⊢;exact⟨p,rfl,by rw [<-h];exact e2⟩
    ·simp only [hc,decide_false] at h ⊢;exact ih m (by simpa using hl) (fun j b p hb hp=>he (j+1) b p (by simpa using hb) (by simpa using hp)) h
 intro env ey he h
 obtain⟨p,h1,h2⟩:=H env.reverse ey.reverse (by simp [he.len]) (fun j b p hb hp=>by
  have hj:j<env.length:=by have:=(BJ.1 hb).1;simpa using this
  rw [FF hj] at hb;rw [FF (by rw [he.len];exact hj),he.len] at hp;exact he.each _ b p hb hp) h
 unfold Lz;rw [h1];exact h2
theorem ZBj(h:SG s θ)(at_:Int)(ht:Is s θ t g):∃θ',Nx s (H5 at_ (s,t)).1 θ θ'/\Is (H5 at_ (s,t)).1 θ' (H5 at_ (s,t)).2 g:=by
 unfold H5;split
 ·obtain⟨θ1,n1,i1⟩:=IN h g;obtain⟨θ2,n2⟩:=Ht n1.sg at_ i1 (ht.next h n1);exact⟨θ2,n1.trans n2,i1.next n1.sg n2⟩
 ·exact⟨θ,.refl h,ht⟩
theorem ZAY(h:FK x=true)(hk:x.head.kind=2\/x.head.kind=4):∃y z,x=.node x.head [y,z]:=by
 obtain⟨a,l⟩:=x;have lJ:a.kind=2\/a.kind=4:=hk;rw [Gc,AK] at h;have h1:=h.1
 have h2:l.length=2:=by
  unfold DY at h1;rcases lJ with e|e
  ·rw [AC (by omega),AJ e] at h1;simp only [AK,Ai] at h1;exact h1.2
  ·rw [AC (by omega),AC (by omega),AC (by omega),AJ e] at h1;simp only [AK,Ai] at h1;exact h1.2
 match l,h2 with
 |[y,z],_=>exact⟨y,z,rfl⟩
theorem ZAX(h:FK x=true)(hk:x.head.kind=3):∃y,x=.node x.head [y]:=by
 obtain⟨a,l⟩:=x;have lJ:a.kind=3:=hk;rw [Gc,AK] at h;have h1:=h.1;have h2:l.length=1:=by unfold DY at h1;rw [AC (by omega),AC (by omega),AJ lJ] at h1;simp only [AK,Ai] at h1;exact h1.2
 match l,h2 with
 |[y],_=>exact⟨y,rfl⟩
theorem Ua(h:FK x=true)(hk:x.head.kind=k)(e:k=2\/k=4):EA x=.node k [EA (x.kids.getD 0 EQ),EA (x.kids.getD 1 EQ)]:=by obtain⟨y,z,hx⟩:=ZAY h (by omega);rw [hx,Gs,hk];rfl
theorem UZ(h:FK x=true)(hk:x.head.kind=3):EA x=.node 3 [EA (x.kids.getD 0 EQ)]:=by obtain⟨y,hx⟩:=ZAX h hk;rw [hx,Gs,hk];rfl
theorem QA(h:FK x=true)(hk:x.head.kind=1):EA x=.node 1 []:=by obtain⟨a,l⟩:=x;have lJ:a.kind=1:=hk;rw [Gc,AK] at h;have h1:=h.1;unfold DY at h1;rw [AJ lJ] at h1;simp only [AK,Ai] at h1;rw [BA.1 h1.2,Gs,lJ];rfl
structure TR(s:SS)(θ:Nat->GT)(k:List YT)(l:List TE):Prop where
 len:k.length=l.length
 each:∀(j:Nat) (t:YT) (x:TE),k[j]?=some t->l[j]?=some x->Is s θ t (EA x.1)
theorem TR.next(hs:SG s θ)(h:Nx s s' θ θ')(ht:TR s θ k l):TR s' θ' k l:=⟨ht.len,fun j t x h1 h2=>(ht.each j t x h1 h2).next hs h⟩
theorem TR.nil(s:SS)(θ:Nat->GT):TR s θ [] []:=⟨rfl,fun j t x h=>by simp at h⟩
theorem TR.add(h:TR s θ k l)(ht:Is s θ t (EA x.1)):TR s θ (k++[t]) (l++[x]):=by
 refine⟨by simp [h.len],fun j u y hu hy=>?_⟩;by_cases hj:j<l.length
 ·rw [BW hj] at hy;rw [BW (by rw [h.len];exact hj)] at hu;exact h.each j u y hu hy
 ·rw [Bp (by omega)] at hy;rw [Bp (by rw [h.len];omega),h.len] at hu;generalize j-l.length=i at hu hy;cases i with
  |zero=>simp at hu hy;subst hu;subst hy;exact ht
  |succ i=>simp at hy
theorem TR.get(h:TR s θ k l)(hj:j<l.length):Is s θ (k.getD j Eu) (EA (l.getD j Fe).1):=by rw [AX,AX,AI hj,AI (by rw [h.len];exact hj)];exact h.each j _ _ (AI _) (AI _)
structure St(s:SS)(θ:Nat->GT)(a:MZ)(arg bind:YT):Prop where
 fn:a.kind=11->Is s θ arg (EA a.ty)
 letr:a.kind=13->Is s θ arg (EA a.ty)/\Is s θ bind (.node 4 [EA a.ty,EA a.res])
 other:a.kind≠11->a.kind≠13->arg=Eu
theorem St.next{s s':SS}{θ θ':Nat->GT}{a:MZ}{arg bind:YT}(hs:SG s θ)(h:Nx s s' θ θ')(ht:St s θ a arg bind):St s' θ' a arg bind:=⟨fun k=>(ht.fn k).next hs h,fun k=>⟨(ht.letr k).1.next hs h,(ht.letr k).2.next hs h⟩,ht.other⟩
theorem I0(h:a.kind≠18):(A4 a).kind=a.kind:=by unfold A4;rw [AC h]
theorem ZBV(h:SG s θ)(a7:a.kind≠18):∃θ',Nx s (BC s (A4 a)).1 θ θ'/\St (BC s (A4 a)).1 θ' a (BC s (A4 a)).2.1 (BC s (A4 a)).2.2:=by
 unfold BC;rw [I0 a7];split
 ·rename_i k;obtain⟨θ',n,i⟩:=IN h (EA a.ty);exact⟨θ',n,fun _=>i,fun k'=>by omega,fun h1=>absurd k h1⟩
 ·split
  ·rename_i k;obtain⟨θ1,n1,i1⟩:=IN h (EA a.ty);obtain⟨θ2,n2,i2⟩:=IN n1.sg (EA a.res);have i1':=i1.next n1.sg n2;exact⟨θ2,n1.trans n2,fun k'=>by omega,fun _=>⟨i1',.of (.inr rfl) i1' i2⟩,fun _ h1=>absurd k h1⟩
  ·exact⟨θ,.refl h,fun k=>by omega,fun k=>by omega,fun _ _=>rfl⟩
theorem ZB1{s:SS}{θ:Nat->GT}{env:List OA}{ey:EY}{a:MZ}{arg bind:YT}{k:List YT}{acc:List TE}(a7:a.kind≠18)(he:Pw s θ env ey)(dN:St s θ a arg bind)(hk:TR s θ k acc):Pw s θ (Ck env a acc.length acc) (F8 ey (A4 a) arg bind k k.length):=by
 unfold Ck F8;rw [I0 a7,hk.len];have hn:(A4 a).name=a.name:=rfl;have hg:(A4 a).arg=a.arg:=rfl;rw [hn,hg];by_cases k11:a.kind=11
 ·rw [AJ k11,AC (by omega),AC (by omega),AJ (.inl k11)];exact he.add (b:=⟨a.arg,a.ty,none⟩) (dN.fn k11)
 rw [AC k11];by_cases k12:a.kind=12/\acc.length=1
 ·rw [AJ k12,AC (by omega),AJ k12];exact he.add (b:=⟨a.name,(acc.getD 0 Fe).1,none⟩) (hk.get (by omega))
 rw [AC k12];by_cases k13:a.kind=13
 ·obtain⟨i1,i2⟩:=dN.letr k13;rw [AJ k13,AJ k13];by_cases k0:acc.length=0
  ·rw [AJ ⟨k13,k0⟩,AJ k0];have:=(he.add (b:=⟨a.name,EQ,some a⟩) (t:=bind) i2).add (b:=⟨a.arg,a.ty,none⟩) (t:=arg) i1;rw [Cf] at this;exact this
  ·rw [AC (fun h=>k0 h.2),AC k0];exact he.add (b:=⟨a.name,EQ,some a⟩) i2
 rw [AC (fun h=>k13 h.1),AC k13,AC k13,AC k12];by_cases k16:a.kind=16/\acc.length=1
 ·rw [AJ k16,AJ (.inr k16)];rw [dN.other k11 k13];exact he.add (b:=⟨a.arg,NN,none⟩) (Is.one s θ)
 ·rw [AC k16,AC (fun h=>h.elim k11 k16)];exact he
theorem ZCV{s:SS}{θ:Nat->GT}(hs:SG s θ){ey:EY}{a:MZ}{arg bind:YT}{k:List YT}{l:List TE}{x:TE}(ha:IF a l.length)(hm:∀y∈l,FK y.1=true)(h2:a.kind≠2)(a7:a.kind≠18)(bK:a.kind≠17)(dN:St s θ a arg bind)(hk:TR s θ k l)(h:GO a l x):∃θ',Nx s (DZ s ey (A4 a) arg bind k).1 θ θ'/\Is (DZ s ey (A4 a) arg bind k).1 θ' (DZ s ey (A4 a) arg bind k).2 (EA x.1):=by
 have fB:∀j,j<l.length->FK (l.getD j Fe).1=true:=fun j hj=>by rw [AX,AI hj];exact hm _ (Be hj)
 unfold DZ;dsimp only;rw [I0 a7];generalize (A4 a).at_=z0;cases h with
 |pair q=>
  have hn:=ha.two (.inl q);rw [AC (by omega),AJ q];refine⟨θ,.refl hs,?_⟩;rw [show (N9 2 a.rho [] [(l.getD 0 Fe).1,(l.getD 1 Fe).1],Ee l [Fu a.rho]).1=N9 2 a.rho [] [(l.getD 0 Fe).1,(l.getD 1 Fe).1] from rfl,Pk];exact .of (.inl rfl) (hk.get (by omega)) (hk.get (by omega))
 |proj q ht=>
  have hn:=ha.one (by omega);rw [AC (by omega),AC (by omega),AJ q];have i0:=hk.get (j:=0) (by omega);have gG:(l.getD 0 Fe).1.head.kind=2:=by simpa [OS] using ht
  have hb:=Ua (fB 0 (by omega)) gG (.inl rfl);obtain⟨θ1,n1,j1⟩:=IN hs (EA ((l.getD 0 Fe).1.kids.getD 0 EQ));obtain⟨θ2,n2,j2⟩:=IN n1.sg (EA ((l.getD 0 Fe).1.kids.getD 1 EQ));have j1':=j1.next n1.sg n2;have i0':=i0.next hs (n1.trans n2);rw [hb] at i0';obtain⟨θ3,n3⟩:=Ht n2.sg z0 i0' (.of (.inl rfl) j1' j2);refine⟨θ3,(n1.trans n2).trans n3,?_⟩;rcases q with q|q
  ·have e:(a.kind-4).toNat=0:=by rw [q];rfl
   rw [AC (by omega)];show Is _ _ _ (EA ((l.getD 0 Fe).1.kids.getD (a.kind-4).toNat EQ));rw [e];exact j1'.next n2.sg n3
  ·have e:(a.kind-4).toNat=1:=by rw [q];rfl
   rw [AJ q];show Is _ _ _ (EA ((l.getD 0 Fe).1.kids.getD (a.kind-4).toNat EQ));rw [e];exact j2.next n2.sg n3
 |ref q=>
  have hn:=ha.one (by omega);rw [AC (by omega),AC (by omega),AC (by omega),AJ q];refine⟨θ,.refl hs,?_⟩;rw [show (N9 3 a.rho [] [(l.getD 0 Fe).1],Ee l [Fu a.rho]).1=N9 3 a.rho [] [(l.getD 0 Fe).1] from rfl,Pk];exact .ref (hk.get (by omega))
 |get q ht=>
  have hn:=ha.one (by omega);rw [AC (by omega),AC (by omega),AC (by omega),AC (by omega),AJ q];have i0:=hk.get (j:=0) (by omega);have gG:(l.getD 0 Fe).1.head.kind=3:=by simpa [OS] using ht
  have hb:=UZ (fB 0 (by omega)) gG;obtain⟨θ1,n1,j1⟩:=IN hs (EA ((l.getD 0 Fe).1.kids.getD 0 EQ));have i0':=i0.next hs n1;rw [hb] at i0';obtain⟨θ3,n3⟩:=Ht n1.sg z0 i0' (.ref j1);exact⟨θ3,n1.trans n3,j1.next n1.sg n3⟩
 |set q ht ca=>
  have hn:=ha.two (by omega);rw [AC (by omega),AC (by omega),AC (by omega),AC (by omega),AC (by omega),AJ q];have i0:=hk.get (j:=0) (by omega);have i1:=hk.get (j:=1) (by omega);have gG:(l.getD 0 Fe).1.head.kind=3:=by simpa [OS] using ht
  rw [UZ (fB 0 (by omega)) gG,KZ _ _ ca] at i0;obtain⟨θ3,n3⟩:=Ht hs z0 i0 (.ref i1);exact⟨θ3,n3,Is.one _ _⟩
 |app q ht ca=>
  have hn:=ha.two (by omega);rw [AC (by omega),AC (by omega),AC (by omega),AC (by omega),AC (by omega),AC (by omega),AC (by omega),AJ q];have i0:=hk.get (j:=0) (by omega);have i1:=hk.get (j:=1) (by omega);have gG:(l.getD 0 Fe).1.head.kind=4:=by simpa [OS] using ht
  rw [Ua (fB 0 (by omega)) gG (.inr rfl),KZ _ _ ca] at i0;obtain⟨θ1,n1,j1⟩:=IN hs (EA ((l.getD 0 Fe).1.kids.getD 1 EQ));obtain⟨θ3,n3⟩:=Ht n1.sg z0 (i0.next hs n1) (.of (.inr rfl) (i1.next hs n1) j1);exact⟨θ3,n1.trans n3,j1.next n1.sg n3⟩
 |op q ht=>
  have hn:=ha.two (by omega);rw [AC (by omega),AC (by omega),AC (by omega),AC (by omega),AC (by omega),AC (by omega),AJ q];have i0:=hk.get (j:=0) (by omega);have i1:=hk.get (j:=1) (by omega);have hi:∀j,j<l.length->EA (l.getD j Fe).1=.node 1 []:=fun j hj=>by refine QA (fB j hj) ?_;have:=Aj.1 ht (l.getD j Fe) (by rw [AX,AI hj];exact Be hj);simpa [OS] using this
  rw [hi 0 (by omega)] at i0;rw [hi 1 (by omega)] at i1;obtain⟨θ1,n1⟩:=Ht hs z0 i0 (Is.one _ _);obtain⟨θ2,n2⟩:=Ht n1.sg z0 (i1.next hs n1) (Is.one _ _);exact⟨θ2,n1.trans n2,Is.one _ _⟩
 |ite q ht ca=>
  have hn:=ha.three q;rw [AC (by omega),AC (by omega),AC (by omega),AC (by omega),AC (by omega),AC (by omega),AC (by omega),AC (by omega),AC (by omega),AC (by omega),AC (by omega),AJ q];have i0:=hk.get (j:=0) (by omega);have i1:=hk.get (j:=1) (by omega);have i2:=hk.get (j:=2) (by omega);have gG:(l.getD 0 Fe).1.head.kind=1:=by simpa [OS] using ht
  rw [QA (fB 0 (by omega)) gG] at i0;have i1c:=i1;rw [KZ _ _ ca] at i1c;obtain⟨θ1,n1⟩:=Ht hs z0 i0 (Is.one _ _);obtain⟨θ2,n2⟩:=Ht n1.sg z0 (i1c.next hs n1) (i2.next hs n1);exact⟨θ2,n1.trans n2,i1.next hs (n1.trans n2)⟩
 |raise q ht=>
  have hn:=ha.one (by omega);rw [AC (by omega),AC (by omega),AC (by omega),AC (by omega),AC (by omega),AC (by omega),AC (by omega),AC (by omega),AC (by omega),AC (by omega),AC (by omega),AC (by omega),AJ q];have i0:=hk.get (j:=0) (by omega);have gG:(l.getD 0 Fe).1.head.kind=1:=by have:=Aj.1 ht (l.getD 0 Fe) (by rw [AX,AI (by omega)];exact Be _);simpa [OS] using this
  rw [QA (fB 0 (by omega)) gG] at i0;obtain⟨θ1,n1⟩:=Ht hs z0 i0 (Is.one _ _);obtain⟨θ2,n2,j2⟩:=IN n1.sg (EA a.ty);exact⟨θ2,n1.trans n2,j2⟩
 |num q=>
  rw [AC (by omega),AC (by omega),AC (by omega),AC (by omega),AC (by omega),AC (by omega),AC (by omega),AC (by omega),AC (by omega),AC (by omega),AC (by omega),AC (by omega),AC (by omega),AC (by omega)];exact⟨θ,.refl hs,Is.one _ _⟩
 |fn q hw=>
  have hn:=ha.one (by omega);rw [AC (by omega),AC (by omega),AC (by omega),AC (by omega),AC (by omega),AC (by omega),AC (by omega),AC (by omega),AJ q];refine⟨θ,.refl hs,?_⟩;rw [show (N9 4 a.rho a.eff [a.ty,(l.getD 0 Fe).1],GV [Fu a.rho]).1=N9 4 a.rho a.eff [a.ty,(l.getD 0 Fe).1] from rfl,Pk];exact .of (.inr rfl) (dN.fn q) (hk.get (by omega))
 |letrec q ca hw=>
  have hn:=ha.two (by omega);rw [AC (by omega),AC (by omega),AC (by omega),AC (by omega),AC (by omega),AC (by omega),AC (by omega),AC (by omega),AC (by omega),AC (by omega),AJ q];obtain⟨s1,s2⟩:=dN.letr q;have i0:=hk.get (j:=0) (by omega);have i1:=hk.get (j:=1) (by omega);rw [KZ _ _ ca] at i0;obtain⟨θ1,n1⟩:=Ht hs z0 s2 (.of (.inr rfl) s1 i0);exact⟨θ1,n1,i1.next hs n1⟩
 |handle q ca=>
  have hn:=ha.two (by omega);rw [AC (by omega),AC (by omega),AC (by omega),AC (by omega),AC (by omega),AC (by omega),AC (by omega),AC (by omega),AC (by omega),AC (by omega),AC (by omega),AC (by omega),AC (by omega),AJ q];have i0:=hk.get (j:=0) (by omega);have i1:=hk.get (j:=1) (by omega);have i0c:=i0;rw [KZ _ _ ca] at i0c;obtain⟨θ1,n1⟩:=Ht hs z0 i0c i1;exact⟨θ1,n1,i0.next hs n1⟩
 |region q hn=>exact absurd q bK
 |other q=>
  have k1:=ha.k1;have k2:=ha.k18;simp only [AS,Al,BN,not_or] at q;have q12:a.kind=12:=by omega
  have hn:=ha.two (by omega);rw [AC (by omega),AC (by omega),AC (by omega),AC (by omega),AC (by omega),AC (by omega),AC (by omega),AC (by omega),AC (by omega),AJ q12];exact⟨θ,.refl hs,hk.get (by omega)⟩
def ZC2(t:AT):Prop:=∀env rhos x ey s θ,J3 t->(∀b∈env,Ld b)->chk env rhos t=.ok x->SG s θ->Pw s θ env ey ->
 ∃θ',Nx s (Fh s ey (DG t)).1 θ θ'/\Is (Fh s ey (DG t)).1 θ' (Pt (Fh s ey (DG t)).2) (EA x.1)
theorem U6{a:MZ}{env:List OA}{rhos:List Int}{ey:EY}{arg bind:YT}{n:Nat}(ha:IF a n)(a7:a.kind≠18)(hb:∀b∈env,Ld b):∀(l:List AT) (acc ks:List TE) (ds:List DT) (s:SS) (θ:Nat->GT),(∀t∈l,ZC2 t)->(∀t∈l,J3 t)->(∀y∈acc,FK y.1=true/\FG y.1=true)->J0 env rhos a acc.length acc l=.ok ks->SG s θ->Pw s θ env ey->St s θ a arg bind->TR s θ (ds.map Pt) acc->∃θ',Nx s (D4 s ey (A4 a) arg bind ds (l.map DG)).1 θ θ'/\TR (D4 s ey (A4 a) arg bind ds (l.map DG)).1 θ' ((D4 s ey (A4 a) arg bind ds (l.map DG)).2.map Pt) ks/\(∀y∈ks,FK y.1=true)
 |[],acc,ks,ds,s,θ,_,_,hm,h,hs,he,dN,hk=>by rw [Lo] at h;cases h;rw [Am,MO];exact⟨θ,.refl hs,hk,fun y hy=>(hm y hy).1⟩
 |t::l,acc,ks,ds,s,θ,hi,hg,hm,h,hs,he,dN,hk=>by
  rw [H6] at h;cases hr:chk (Ck env a acc.length acc) (DM rhos a acc.length) t with
  |error e=>rw [hr] at h;cases h
  |ok r=>
   rw [hr] at h
   have eC:∀b∈Ck env a acc.length acc,Ld b:=QU ha hb (fun k12 k1=>by
    have:acc.getD 0 Fe∈acc:=by rw [AX,AI (by omega)];exact Be _
    exact hm _ this)
   have dG:=ZB1 a7 he dN hk;have lF:=QI t _ _ _ (hg t (by simp)) eC hr;obtain⟨θ1,n1,i1⟩:=hi t (by simp) _ _ _ _ s θ (hg t (by simp)) eC hr hs dG;rw [Ba] at n1 i1;rw [AV,Kx];dsimp only;rw [AC (by rw [n1.sg.bad];decide)];have e:acc.length+1=(acc++[r]).length:=by simp
   have h':J0 env rhos a (acc++[r]).length (acc++[r]) l=.ok ks:=by rw [<-e];exact h
   obtain⟨θ2,n2,t2,m2⟩:=U6 ha a7 hb l (acc++[r]) ks (ds++[(Fh s (F8 ey (A4 a) arg bind (ds.map Pt) ds.length) (DG t)).2]) _ θ1
    (fun u hu=>hi u (by simp [hu])) (fun u hu=>hg u (by simp [hu])) (fun y hy=>by
     rcases Ac.1 hy with hy|hy
     ·exact hm y hy
     ·rw [AQ.1 hy];exact⟨lF.may,lF.effs⟩) h' n1.sg (he.next hs n1) (dN.next hs n1) (by rw [Ah];exact(hk.next hs n1).add i1)
   exact⟨θ2,n1.trans n2,t2,m2⟩
theorem R5(t:AT):ZC2 t:=by
 refine Ad.ind (P:=ZC2) (fun a l ih=>?_) t;intro env rhos x ey s θ hg hb h hs he;have ha:=hg.head;rw [TN] at h;have hf:=h.1;rw [Ng] at hf;obtain⟨_,hf⟩:=hf;rw [H9];by_cases k17:a.kind=17
 ·rw [AJ k17];have hn:=ha.one (by omega);match l,hn with
  |[t],_=>
   rcases hf with⟨k,_⟩|⟨k,_⟩|⟨_,_,ks,hk,hr⟩
   ·omega
   ·omega
   ·rw [H6] at hk;have e1:Ck env a 0 []=env:=by unfold Ck;rw [AC (by omega),AC (by omega),AC (by omega),AC (by omega),AC (by omega)]
    rw [e1] at hk;cases hc:chk env (DM rhos a 0) t with
    |error e=>rw [hc] at hk;cases hk
    |ok r=>
     rw [hc] at hk;dsimp only at hk;rw [Lo] at hk;cases hk;rw [N0] at hr
     have hx:x.1=r.1:=by
      cases hr with
      |region q _=>rfl
      |other q=>simp only [AS,Al,BN,not_or] at q;omega
      |proj q _=>omega
      |_=>omega
     rw [hx];exact ih t (by simp) _ _ _ _ _ _ (hg.kid t (by simp)) hb hc hs he
 rw [AC k17,Jp];dsimp only;rw [AC (by rw [hs.bad];decide)]
 have H:∃θ',Nx s (D4 (BC s (A4 a)).1 ey (A4 a) (BC s (A4 a)).2.1 (BC s (A4 a)).2.2 [] (l.map DG)).1 θ θ' /\
  ∃θ'',Nx (D4 (BC s (A4 a)).1 ey (A4 a) (BC s (A4 a)).2.1 (BC s (A4 a)).2.2 [] (l.map DG)).1
   (DZ (D4 (BC s (A4 a)).1 ey (A4 a) (BC s (A4 a)).2.1 (BC s (A4 a)).2.2 [] (l.map DG)).1 ey (A4 a) (BC s (A4 a)).2.1 (BC s (A4 a)).2.2 ((D4 (BC s (A4 a)).1 ey (A4 a) (BC s (A4 a)).2.1 (BC s (A4 a)).2.2 [] (l.map DG)).2.map Pt)).1 θ' θ'' /\
   Is (DZ (D4 (BC s (A4 a)).1 ey (A4 a) (BC s (A4 a)).2.1 (BC s (A4 a)).2.2 [] (l.map DG)).1 ey (A4 a) (BC s (A4 a)).2.1 (BC s (A4 a)).2.2 ((D4 (BC s (A4 a)).1 ey (A4 a) (BC s (A4 a)).2.1 (BC s (A4 a)).2.2 [] (l.map DG)).2.map Pt)).1 θ''
    (DZ (D4 (BC s (A4 a)).1 ey (A4 a) (BC s (A4 a)).2.1 (BC s (A4 a)).2.2 [] (l.map DG)).1 ey (A4 a) (BC s (A4 a)).2.1 (BC s (A4 a)).2.2 ((D4 (BC s (A4 a)).1 ey (A4 a) (BC s (A4 a)).2.1 (BC s (A4 a)).2.2 [] (l.map DG)).2.map Pt)).2 (EA x.1):=by
  have pp:(A4 a).kind=2->a.kind=2\/a.kind=18->l=[]->Is s θ (Lz ey a.name) (EA x.1) ->
   ∃θ',Nx s (D4 (BC s (A4 a)).1 ey (A4 a) (BC s (A4 a)).2.1 (BC s (A4 a)).2.2 [] (l.map DG)).1 θ θ' /\
   ∃θ'',Nx (D4 (BC s (A4 a)).1 ey (A4 a) (BC s (A4 a)).2.1 (BC s (A4 a)).2.2 [] (l.map DG)).1
    (DZ (D4 (BC s (A4 a)).1 ey (A4 a) (BC s (A4 a)).2.1 (BC s (A4 a)).2.2 [] (l.map DG)).1 ey (A4 a) (BC s (A4 a)).2.1 (BC s (A4 a)).2.2 ((D4 (BC s (A4 a)).1 ey (A4 a) (BC s (A4 a)).2.1 (BC s (A4 a)).2.2 [] (l.map DG)).2.map Pt)).1 θ' θ'' /\
    Is (DZ (D4 (BC s (A4 a)).1 ey (A4 a) (BC s (A4 a)).2.1 (BC s (A4 a)).2.2 [] (l.map DG)).1 ey (A4 a) (BC s (A4 a)).2.1 (BC s (A4 a)).2.2 ((D4 (BC s (A4 a)).1 ey (A4 a) (BC s (A4 a)).2.1 (BC s (A4 a)).2.2 [] (l.map DG)).2.map Pt)).1 θ''
     (DZ (D4 (BC s (A4 a)).1 ey (A4 a) (BC s (A4 a)).2.1 (BC s (A4 a)).2.2 [] (l.map DG)).1 ey (A4 a) (BC s (A4 a)).2.1 (BC s (A4 a)).2.2 ((D4 (BC s (A4 a)).1 ey (A4 a) (BC s (A4 a)).2.1 (BC s (A4 a)).2.2 [] (l.map DG)).2.map Pt)).2 (EA x.1):=by
   intro e2 _ hl hi
   subst hl
   rw [Am,MO]
   unfold BC DZ
   rw [e2,AC (by decide),AC (by decide)]
   exact⟨θ,.refl hs,θ,.refl hs,hi⟩
  rcases hf with⟨k,hv⟩|⟨k,hv⟩|⟨h2,a7,ks,hk,hr⟩
  ·unfold Oo at hv;cases gt:IL env a.name with
   |none=>rw [gt] at hv;cases hv
   |some b=>
    rw [gt] at hv;dsimp only at hv;rw [Dv] at hv;obtain⟨h1,h3⟩:=hv;cases h3;refine pp (by unfold A4;rw [AC (by omega)];exact k) (.inl k) ?_ ?_
    ·have:=ha.kids;rw [AC k17,AC (by omega),k] at this;exact BA.1 (by have e:DU 2=0:=rfl;rw [e] at this;omega)
    ·have:=Xv he gt;unfold gOf at this;rw [Option.isNone_iff_eq_none] at h1;rw [h1] at this;exact this
  ·unfold Hk at hv;cases gt:IL env a.name with
   |none=>rw [gt] at hv;cases hv
   |some b=>
    rw [gt] at hv;dsimp only at hv;cases ef:b.fn with
    |none=>rw [ef] at hv;cases hv
    |some f=>
     rw [ef] at hv;dsimp only at hv;rw [Dv,Dv] at hv;obtain⟨_,_,h3⟩:=hv;cases h3;refine pp (by unfold A4;rw [AJ k]) (.inr k) ?_ ?_
     ·have:=ha.kids;rw [AC k17,AJ k] at this;exact BA.1 (by have e:DU 1=0:=rfl;rw [e] at this;omega)
     ·have:=Xv he gt;unfold gOf at this;rw [ef] at this;rw [Pk,AV,AV,Am,SI,SI];exact this
  ·obtain⟨θ1,n1,st1⟩:=ZBV hs a7;have lJ:J0 env rhos a ([]:List TE).length [] l=.ok ks:=hk;obtain⟨θ2,n2,t2,m2⟩:=U6 (arg:=(BC s (A4 a)).2.1) (bind:=(BC s (A4 a)).2.2) ha a7 hb l [] ks [] _ θ1 ih hg.kid (fun y hy=>by cases hy) lJ n1.sg (he.next hs n1) st1 (.nil _ _);have aJ:ks.length=l.length:=by obtain⟨rs,e,h2,_⟩:=Pl l 0 [] ks hk;rw [e];simpa using h2
   obtain⟨θ3,n3,i3⟩:=ZCV (ey:=ey) n2.sg (by rw [aJ];exact ha) m2 h2 a7 k17 (st1.next n1.sg n2) t2 ((N0).1 hr);exact⟨θ2,n1.trans n2,θ3,n3,i3⟩
 revert H;generalize D4 (BC s (A4 a)).1 ey (A4 a) (BC s (A4 a)).2.1 (BC s (A4 a)).2.2 [] (l.map DG)=Q;rintro⟨θ1,n1,H⟩;rw [AC (by rw [n1.sg.bad];decide)];revert H;generalize DZ Q.1 ey (A4 a) (BC s (A4 a)).2.1 (BC s (A4 a)).2.2 (Q.2.map Pt)=R;obtain⟨R1,R2⟩:=R;rintro⟨θ2,n2,i2⟩;obtain⟨θ3,n3,i3⟩:=ZBj n2.sg (A4 a).at_ i2;exact⟨θ3,(n1.trans n2).trans n3,i3⟩
def hdL(a:MZ):By:=⟨a.kind,a.op,a.at_,a.n,a.name,a.arg,a.exn⟩
def L0:TT->Bool:=Ad.all (fun h n=>DN h n)
theorem ND(h:By)(l:List TT):L0 (.node h l)=(DN h l.length&&l.all L0):=Ad.all_node _ h l
def Lr:AT->Bool:=Ad.all (fun a n=>GD (hdL a) n)
theorem Ls(a:MZ)(l:List AT):Lr (.node a l)=(GD (hdL a) l.length&&l.all Lr):=Ad.all_node _ a l
theorem Yo(k:Int):DU k<=3:=by unfold DU;split<;>first|omega|(split<;>first|omega|(split<;>first|omega|(split<;>omega)))
theorem Up{s:ByteArray}(h:s.toList.isEmpty=true):s=⟨#[]⟩:=by rw [CN] at h;apply ByteArray.ext;apply D0;have:s.data.toList=[]:=List.isEmpty_iff.1 h;rw [<-Eg,this];rfl
theorem Qe(h:GD (hdL a) n=true)(bK:a.kind≠17):DN (A4 a) n=true:=by
 unfold GD at h;rw [AC (by exact bK)] at h;by_cases a7:a.kind=18
 ·rw [AJ (by exact a7)] at h;simp only [AK,Ai,A3,P9] at h;obtain⟨⟨⟨⟨⟨⟨e1,e2⟩,e3⟩,e4⟩,e5⟩,e6⟩,e7⟩:=h;have g1:a.op=0:=e1;have g2:a.n=0:=e2;have g3:a.arg=⟨#[]⟩:=Up e3;have g4:a.exn=⟨#[]⟩:=Up e4;have g5:D5 a.name=true:=e5;have g6:0<=a.at_:=e6;have g7:n=0:=by omega
  unfold A4;rw [AJ a7,g1,g2,g3,g4,g7];unfold DN;have k2:DU 2=0:=rfl;rw [show (⟨2,0,a.at_,0,a.name,⟨#[]⟩,⟨#[]⟩⟩:By).kind=2 from rfl,k2];have k3:¬a.at_<0:=by omega
  simp [k3,IB,Kn,LW,Hf,g5]<;>rfl
 ·rw [AC (by exact a7)] at h;have e:A4 a=hdL a:=by unfold A4 hdL;rw [AC a7]
  rw [e];by_cases hn:n<=4
  ·rw [Nat.min_eq_left hn] at h;exact h
  ·rw [Nat.min_eq_right (by omega)] at h;unfold DN at h;rw [AK,AK,AK,BO,A5,A5,DC] at h;have:=h.1.1.1.1.2;have:=Yo (hdL a).kind;omega
theorem Yu(t:AT):Lr t=true->L0 (DG t)=true:=by
 refine Ad.ind (P:=fun(t:AT)=>Lr t=true->L0 (DG t)=true) (fun a l ih h=>?_) t;rw [Ls,AK,Aj] at h;rw [H9];by_cases bK:a.kind=17
 ·rw [AJ bK];have h1:=h.1;unfold GD at h1;rw [AJ (by exact bK)] at h1;simp only [AK,Ai,A3] at h1;have h2:l.length=1:=by omega
  match l,h2 with
  |[t],_=>exact ih t (by simp) (h.2 t (by simp))
 ·rw [AC bK,ND,AK,Aj,Ba];refine⟨Qe h.1 bK,fun y hy=>?_⟩;obtain⟨t,ht,rfl⟩:=BI.1 hy;exact ih t ht (h.2 t ht)
theorem XM(t:AT):(DG t).size<=t.size:=by
 refine Ad.ind (P:=fun(t:AT)=>(DG t).size<=t.size) (fun a l ih=>?_) t
 have bj:∀l:List AT,(∀t∈l,(DG t).size<=t.size)->((l.map DG).map Ad.size).sum<=(l.map Ad.size).sum:=by
  intro l;induction l with
  |nil=>intro _;simp
  |cons t l ihl=>
   intro h;have h1:=h t (by simp);have h2:=ihl (fun u hu=>h u (by simp [hu]));simp only [AV,A0];omega
 have hs:=bj l ih;rw [H9];split
 ·match l with
  |[]=>rw [Am,Ad.size_node];exact Nat.le_of_eq rfl
  |t::l=>
   have h1:=ih t (by simp);rw [Ad.size_node];show (DG t).size<=_;simp only [AV,A0];omega
 ·rw [Ad.size_node,Ad.size_node];omega
def Gn(l:List ByteArray)(h:By)(i:Nat):List ByteArray:=
 if h.kind=11\/h.kind=16/\i=1 then l++[h.arg]
 else if(h.kind=12\/h.kind=13)/\i=1 then l++[h.name]
 else if h.kind=13 then(l++[h.name])++[h.arg]
 else l
mutual
def LJ(l:List ByteArray):TT->Option Int
 |.node h k=>if h.kind=2/\l.any (fun y=>decide (y=h.name))=false then some h.at_ else Jh l h 0 k
def Jh(l:List ByteArray)(h:By)(i:Nat):List TT->Option Int
 |[]=>none
 |t::k=>match LJ (Gn l h i) t with
  |some z=>some z
  |none=>Jh l h (i+1) k
end
theorem QX(l:List ByteArray)(h:By)(k:List TT):LJ l (.node h k)=if h.kind=2/\l.any (fun y=>decide (y=h.name))=false then some h.at_ else Jh l h 0 k:=by rw [LJ]
theorem OP(l:List ByteArray)(h:By)(i:Nat):Jh l h i []=none:=by rw [Jh]
theorem M7(l:List ByteArray)(h:By)(i:Nat)(t:TT)(k:List TT):Jh l h i (t::k)=match LJ (Gn l h i) t with|some z=>some z|none=>Jh l h (i+1) k:=by rw [Jh]
theorem WS(h:IL env x=some b):∃b'∈env,b'.name=x:=⟨b,(JX h).1,(JX h).2⟩
theorem Zu(a7:a.kind≠18)(h:∀b∈env,b.name∈l):∀b∈Ck env a i acc,b.name∈Gn l (A4 a) i:=by
 intro b hb;unfold Ck at hb;unfold Gn;rw [I0 a7];have hn:(A4 a).name=a.name:=rfl;have hg:(A4 a).arg=a.arg:=rfl;rw [hn,hg];by_cases k11:a.kind=11
 ·rw [AJ k11] at hb;rw [AJ (.inl k11)];rcases Ac.1 hb with hb|hb
  ·exact CZ _ (h b hb)
  ·rw [AQ.1 hb];simp
 rw [AC k11] at hb;by_cases k12:a.kind=12/\i=1
 ·rw [AJ k12] at hb;rw [AC (by omega),AJ ⟨.inl k12.1,k12.2⟩];rcases Ac.1 hb with hb|hb
  ·exact CZ _ (h b hb)
  ·rw [AQ.1 hb];simp
 rw [AC k12] at hb;by_cases k13:a.kind=13
 ·rw [AC (by omega)];by_cases i1:i=1
  ·rw [AC (by omega),AJ k13] at hb;rw [AJ ⟨.inr k13,i1⟩];rcases Ac.1 hb with hb|hb
   ·exact CZ _ (h b hb)
   ·rw [AQ.1 hb];simp
  ·rw [AC (by omega),AJ k13];split at hb
   ·rcases Ac.1 hb with hb|hb
    ·exact CZ _ (CZ _ (h b hb))
    ·simp only [AS,Al,BN] at hb;rcases hb with rfl|rfl<;>simp
   ·rcases Ac.1 hb with hb|hb
    ·exact CZ _ (CZ _ (h b hb))
    ·rw [AQ.1 hb];simp
 rw [AC (fun h=>k13 h.1),AC k13] at hb;by_cases k16:a.kind=16/\i=1
 ·rw [AJ k16] at hb;rw [AJ (.inr k16)];rcases Ac.1 hb with hb|hb
  ·exact CZ _ (h b hb)
  ·rw [AQ.1 hb];simp
 ·rw [AC k16] at hb;rw [AC (fun h=>h.elim k11 k16),AC (by omega),AC k13];exact h b hb
def Zb(t:AT):Prop:=∀env rhos x l,chk env rhos t=.ok x->(∀b∈env,b.name∈l)->Lr t=true->LJ l (DG t)=none
theorem Uw(a7:a.kind≠18)(hb:∀b∈env,b.name∈l):∀(k:List AT) (i:Nat) (acc ks:List TE),(∀t∈k,Zb t)->(∀t∈k,Lr t=true)->J0 env rhos a i acc k=.ok ks->Jh l (A4 a) i (k.map DG)=none
 |[],i,acc,ks,_,_,h=>by rw [Am,OP]
 |t::k,i,acc,ks,hi,hh,h=>by
  rw [H6] at h;cases hr:chk (Ck env a i acc) (DM rhos a i) t with
  |error e=>rw [hr] at h;cases h
  |ok r=>
   rw [hr] at h;dsimp only at h;rw [AV,M7,hi t (by simp) _ _ _ _ hr (Zu a7 hb) (hh t (by simp))];exact Uw a7 hb k (i+1) _ ks (fun u hu=>hi u (by simp [hu])) (fun u hu=>hh u (by simp [hu])) h
theorem Ux(t:AT):Zb t:=by
 refine Ad.ind (P:=Zb) (fun a k ih=>?_) t;intro env rhos x l h hb hh;rw [Ls,AK,Aj] at hh;rw [TN,Ng] at h;obtain⟨⟨_,hf⟩,_⟩:=h;have dG:∀y,(∃b,IL env y=some b)->l.any (fun z=>decide (z=y))=true:=fun y ⟨b,hy⟩=>by obtain⟨b',h1,h2⟩:=WS hy;rw [Dp];exact⟨y,by rw [<-h2];exact hb b' h1,by simp⟩
 rw [H9];by_cases bK:a.kind=17
 ·rw [AJ bK];have h1:=hh.1;unfold GD at h1;rw [AJ (by exact bK)] at h1;simp only [AK,Ai,A3] at h1;have h2:k.length=1:=by omega
  match k,h2 with
  |[t],_=>
   rcases hf with⟨q,_⟩|⟨q,_⟩|⟨_,_,ks,hk,_⟩
   ·omega
   ·omega
   ·rw [H6] at hk;have e1:Ck env a 0 []=env:=by unfold Ck;rw [AC (by omega),AC (by omega),AC (by omega),AC (by omega),AC (by omega)]
    rw [e1] at hk;cases hc:chk env (DM rhos a 0) t with
    |error e=>rw [hc] at hk;cases hk
    |ok r=>exact ih t (by simp) _ _ _ _ hc hb (hh.2 t (by simp))
 rw [AC bK,QX];have ao:(A4 a).kind=2->k=[]:=fun e=>by have h1:=Qe hh.1 bK;unfold DN at h1;rw [e] at h1;simp only [AK,BO,A5,DC] at h1;have h2:=h1.1.1.1.1.2;have k2:DU 2=0:=rfl;rw [k2] at h2;exact BA.1 (by omega)
 have hn:(A4 a).name=a.name:=rfl;rcases hf with⟨q,hv⟩|⟨q,hv⟩|⟨h2,a7,ks,hk,_⟩
 ·have e:(A4 a).kind=2:=by unfold A4;rw [AC (by omega)];exact q
  have gt:∃b,IL env a.name=some b:=by
   unfold Oo at hv;cases gt:IL env a.name with
   |none=>rw [gt] at hv;cases hv
   |some b=>exact⟨b,rfl⟩
  rw [hn,dG _ gt,AC (by simp),ao e,Am,OP]
 ·have e:(A4 a).kind=2:=by unfold A4;rw [AJ q]
  have gt:∃b,IL env a.name=some b:=by
   unfold Hk at hv;cases gt:IL env a.name with
   |none=>rw [gt] at hv;cases hv
   |some b=>exact⟨b,rfl⟩
  rw [hn,dG _ gt,AC (by simp),ao e,Am,OP]
 ·rw [I0 a7,AC (fun h=>h2 h.1)];exact Uw a7 hb k 0 [] ks ih hh.2 hk
section
structure BD(U:Nat->Prop)(w w':World):Prop where
 size:w.heap.size<=w'.heap.size
 block:∀b,b<w.heap.size->U b->w'.heap[b]?=w.heap[b]?
theorem BD.of(h:Below w.heap.size w w'):BD U w w':=⟨h.size,fun b hb _=>h.block b hb⟩
theorem BD.grown(h:w.grownBy w' r)(hr:∀b,r=some b->¬U b):BD U w w':=⟨h.size,fun b hb hu=>h.block b hb (fun e=>hr b e.symm hu)⟩
theorem BD.low(h:Below B w w')(hU:∀b,U b->b<B):BD U w w':=⟨h.size,fun b _ hu=>h.block b (hU b hu)⟩
theorem BD.cell(h:BD U w w')(hb:b<w.heap.size)(hu:U b)(i:Nat):w'.cell? ⟨b,i,none⟩=w.cell? ⟨b,i,none⟩:=Eh (a:=⟨b,i,none⟩) (h.block b hb hu)
theorem BD.refl(U:Nat->Prop)(w:World):BD U w w:=⟨AB _,fun _ _ _=>rfl⟩
theorem BD.trans(h:BD U a b)(k:BD U b c):BD U a c:=⟨AM h.size k.size,fun i hi hu=>(k.block i (Ak hi h.size) hu).trans (h.block i hi hu)⟩
structure Gk{α:Type}(enc:α->List Value)(k:Nat)(U:Nat->Prop)(w:World)(p:Option Addr)(n c:Nat)(l:List α):Prop where
 is:Ax enc k w p n c l
 u:l≠[]->∀a,p=some a->U a.block
section
variable {α:Type} {enc:α->List Value} {k:Nat} {U U':Nat->Prop} {w w':World} {p:Option Addr} {n c:Nat} {l:List α}
theorem Gk.keep(h:Gk enc k U w p n c l)(hk:BD U w w'):Gk enc k U w' p n c l:=by
 refine⟨⟨h.is.len,h.is.max,h.is.le,h.is.nil,?_⟩,h.u⟩;rcases h.is.row with h1|⟨b,o,hp,aG,hc⟩
 ·exact .inl h1
 ·by_cases e:l=[]
  ·exact .inl e
  ·refine .inr ⟨b,o,hp,Ak aG hk.size,fun j x hx i v hv=>?_⟩;rw [hk.cell aG (h.u e _ hp)];exact hc j x hx i v hv
theorem Gk.mono(h:Gk enc k U w p n c l)(hU:∀b,b<w.heap.size->U b->U' b):Gk enc k U' w p n c l:=by
 refine⟨h.is,fun e a ha=>hU _ ?_ (h.u e a ha)⟩;rcases h.is.row with h1|⟨b,o,hp,aG,_⟩
 ·exact absurd h1 e
 ·rw [ha] at hp;cases hp;exact aG
theorem Gk.nil(enc:α->List Value)(k:Nat)(U:Nat->Prop)(w:World):Gk enc k U w none 0 0 []:=⟨Ax.none enc k w,fun h=>absurd rfl h⟩
theorem Gk.true(h:Ax enc k w p n c l):Gk enc k (fun _=>True) w p n c l:=⟨h,fun _ _ _=>trivial⟩
theorem Gk.elem(h:Gk enc k U w p n c l)(hx:l[j]?=some x):∃b o,p=some ⟨b,o,none⟩/\b<w.heap.size/\∀i v,(enc x)[i]?=some v->w.cell? ⟨b,o+j * k+i,none⟩=some v:=h.is.row.elem hx
theorem Gk.at(h:Gk enc k U w p n c l)(hj:j<n):∃x,l[j]?=some x:=Bh (by rw [h.is.len];exact hj)
theorem A1.rowU(hk:∀x,(enc x).length=k)(ao:0<k)(h:A1 enc k w base e v n l)(hU:∀b,v.ownBlock=some b->U b):∃p cap,v=.slice p n cap/\Gk enc k U w p n cap l:=by obtain⟨p,cap,hv,hr⟩:=h.isRow hk ao;refine⟨p,cap,hv,hr,fun _ a ha=>hU _ ?_⟩;rw [hv,ha];rfl
end
structure FY(α:Type) where
 enc:α->List Value
 k:Nat
 own:(Nat->Prop)->World->α->Prop
 kp:α->Option Addr
 kn:α->Nat
 kc:α->Nat
 len:∀a,(enc a).length=k
 keep:∀{U:Nat->Prop} {w w':World} {a:α},own U w a->BD U w w'->own U w' a
 mono:∀{U U':Nat->Prop} {w:World} {a:α},own U w a->(∀b,b<w.heap.size->U b->U' b)->own U' w a
namespace FY
variable {α:Type}
def encT(L:FY α)(t:Ad α):List Value:=L.enc t.head
theorem encT_len(L:FY α)(t:Ad α):(L.encT t).length=L.k:=L.len _
mutual
def lies(L:FY α)(U:Nat->Prop)(w:World):Ad α->Prop
 |.node a l=>L.own U w a/\Gk L.encT L.k U w (L.kp a) (L.kn a) (L.kc a) l/\liesL L U w l
def liesL(L:FY α)(U:Nat->Prop)(w:World):List (Ad α)->Prop
 |[]=>True
 |t::l=>lies L U w t/\liesL L U w l
end
theorem Kh(L:FY α)(U:Nat->Prop)(w:World):∀l:List (Ad α),L.liesL U w l↔∀t∈l,L.lies U w t
 |[]=>by simp [liesL]
 |t::l=>by simp [liesL,Kh L U w l]
theorem lies_node(L:FY α)(U:Nat->Prop)(w:World)(a:α)(l:List (Ad α)):L.lies U w (.node a l)↔L.own U w a/\Gk L.encT L.k U w (L.kp a) (L.kn a) (L.kc a) l/\∀t∈l,L.lies U w t:=by rw [lies,Kh]
theorem lies_keep(L:FY α)(hk:BD U w w')(t:Ad α):L.lies U w t->L.lies U w' t:=by refine Ad.ind (P:=fun t=>L.lies U w t->L.lies U w' t) (fun a l ih h=>?_) t;rw [lies_node] at h ⊢;exact⟨L.keep h.1 hk,h.2.1.keep hk,fun t ht=>ih t ht (h.2.2 t ht)⟩
theorem lies_mono(L:FY α)(hU:∀b,b<w.heap.size->U b->U' b)(t:Ad α):L.lies U w t->L.lies U' w t:=by refine Ad.ind (P:=fun t=>L.lies U w t->L.lies U' w t) (fun a l ih h=>?_) t;rw [lies_node] at h ⊢;exact⟨L.mono h.1 hU,h.2.1.mono hU,fun t ht=>ih t ht (h.2.2 t ht)⟩
end FY
def Ge(U:Nat->Prop)(w:World):Nat->Prop:=fun b=>b<w.heap.size->U b
theorem Ge.of:∀b,U b->Ge U w b:=fun _ h _=>h
theorem Ge.new(h:w.heap.size<=b):Ge U w b:=fun h'=>absurd h' (by omega)
structure OC where
 kind:Int
 var:Int
 kp:Option Addr
 kn:Nat
 kc:Nat
abbrev PY:=Ad OC
def OC.plain(a:OC):YH:=⟨a.kind,a.var⟩
def PY.er(t:PY):YT:=Ad.map OC.plain t
theorem PY.er_node(a:OC)(l:List PY):PY.er (.node a l)=.node a.plain (l.map PY.er):=Ad.map_node _ a l
def ZAC(a:OC):List Value:=[.int .u8 a.kind,.int .i64 a.var,.slice a.kp a.kn a.kc]
abbrev GL(a:OC):Value:=.agg #[.int .u8 a.kind,.int .i64 a.var,.slice a.kp a.kn a.kc]
structure OC.Ok(a:OC):Prop where
 k0:0<=a.kind
 k1:a.kind<=255
 v:RX a.var
def LY:FY OC where
 enc:=ZAC
 k:=3
 own:=fun _ _ a=>a.Ok
 kp:=OC.kp
 kn:=OC.kn
 kc:=OC.kc
 len:=fun _=>rfl
 keep:=fun h _=>h
 mono:=fun h _=>h
theorem ZBw(t:PY):LY.encT t=ZAC t.head:=rfl
theorem IG:∀t:PY,(LY.encT t).length=3:=fun _=>rfl
theorem XZ:∀t:PY,∀u∈LY.encT t,u.oneCell'=true:=by intro t u hu;simp only [ZBw,ZAC,AS,Al,BN] at hu;rcases hu with rfl|rfl|rfl<;>rfl
structure Ma where
 hd:By
 kp:Option Addr
 kn:Nat
 kc:Nat
abbrev Ga:=Ad Ma
def Ga.er(t:Ga):TT:=Ad.map Ma.hd t
theorem Ga.er_node(a:Ma)(l:List Ga):Ga.er (.node a l)=.node a.hd (l.map Ga.er):=Ad.map_node _ a l
def Kv(a:Ma):List Value:=[.int .u8 a.hd.kind,.int .u8 a.hd.op,.int .i64 a.hd.at_,.int .i64 a.hd.n,.string a.hd.name,.string a.hd.arg,.string a.hd.exn,.slice a.kp a.kn a.kc]
abbrev Mb(a:Ma):Value:=.agg #[.int .u8 a.hd.kind,.int .u8 a.hd.op,.int .i64 a.hd.at_,.int .i64 a.hd.n,.string a.hd.name,.string a.hd.arg,.string a.hd.exn,.slice a.kp a.kn a.kc]
def KJ:FY Ma where
 enc:=Kv
 k:=8
 own:=fun _ _ a=>a.hd.Ok
 kp:=Ma.kp
 kn:=Ma.kn
 kc:=Ma.kc
 len:=fun _=>rfl
 keep:=fun h _=>h
 mono:=fun h _=>h
theorem ZAB(t:Ga):KJ.encT t=Kv t.head:=rfl
theorem V3:∀t:Ga,(KJ.encT t).length=8:=fun _=>rfl
theorem ZCy:∀t:Ga,∀u∈KJ.encT t,u.oneCell'=true:=by intro t u hu;simp only [ZAB,Kv,AS,Al,BN] at hu;rcases hu with rfl|rfl|rfl|rfl|rfl|rfl|rfl|rfl<;>rfl
structure IC where
 hd:By
 ty:PY
 bind:PY
 kp:Option Addr
 kn:Nat
 kc:Nat
abbrev PD:=Ad IC
def IC.plain(a:IC):DH:=⟨a.hd,a.ty.er,a.bind.er⟩
def PD.er(t:PD):DT:=Ad.map IC.plain t
theorem PD.er_node(a:IC)(l:List PD):PD.er (.node a l)=.node a.plain (l.map PD.er):=Ad.map_node _ a l
def Mg(a:IC):List Value:=[.int .u8 a.hd.kind,.int .u8 a.hd.op,.int .i64 a.hd.at_,.int .i64 a.hd.n,.string a.hd.name,.string a.hd.arg,.string a.hd.exn,
 .int .u8 a.ty.head.kind,.int .i64 a.ty.head.var,.slice a.ty.head.kp a.ty.head.kn a.ty.head.kc,.int .u8 a.bind.head.kind,.int .i64 a.bind.head.var,.slice a.bind.head.kp a.bind.head.kn a.bind.head.kc,.slice a.kp a.kn a.kc]
abbrev US(a:IC):Value:=.agg #[.int .u8 a.hd.kind,.int .u8 a.hd.op,.int .i64 a.hd.at_,.int .i64 a.hd.n,.string a.hd.name,.string a.hd.arg,.string a.hd.exn,
 .int .u8 a.ty.head.kind,.int .i64 a.ty.head.var,.slice a.ty.head.kp a.ty.head.kn a.ty.head.kc,.int .u8 a.bind.head.kind,.int .i64 a.bind.head.var,.slice a.bind.head.kp a.bind.head.kn a.bind.head.kc,.slice a.kp a.kn a.kc]
def LD:FY IC where
 enc:=Mg
 k:=14
 own:=fun U w a=>a.hd.Ok/\LY.lies U w a.ty/\LY.lies U w a.bind
 kp:=IC.kp
 kn:=IC.kn
 kc:=IC.kc
 len:=fun _=>rfl
 keep:=fun h hk=>⟨h.1,LY.lies_keep hk _ h.2.1,LY.lies_keep hk _ h.2.2⟩
 mono:=fun h hU=>⟨h.1,LY.lies_mono hU _ h.2.1,LY.lies_mono hU _ h.2.2⟩
theorem ZBv(t:PD):LD.encT t=Mg t.head:=rfl
theorem XY:∀t:PD,(LD.encT t).length=14:=fun _=>rfl
theorem ZDS:∀t:PD,∀u∈LD.encT t,u.oneCell'=true:=by intro t u hu;simp only [ZBv,Mg,AS,Al,BN] at hu;rcases hu with rfl|rfl|rfl|rfl|rfl|rfl|rfl|rfl|rfl|rfl|rfl|rfl|rfl|rfl<;>rfl
structure PC where
 c:Cl
 kp:Option Addr
 kn:Nat
 kc:Nat
def RZ:Option Nat->Int
 |none=>-1
 |some j=>j
def Ff(n:Nat):List Value:=[.int .i64 n]
theorem DW:∀n,(Ff n).length=1:=fun _=>rfl
theorem Gq:∀y,∀u∈Ff y,u.oneCell'=true:=by intro y u hu;simp only [Ff,AS,Al,BN] at hu;rw [hu];rfl
def GW(a:PC):List Value:=[.int .i64 (RZ a.c.led),.int .u8 a.c.kind,.slice a.kp a.kn a.kc,.int .i64 a.c.var]
theorem EX:∀a,(GW a).length=4:=fun _=>rfl
theorem G5:∀y,∀u∈GW y,u.oneCell'=true:=by intro y u hu;simp only [GW,AS,Al,BN] at hu;rcases hu with rfl|rfl|rfl|rfl<;>rfl
structure EJ where
 lp:Option Addr
 ln:Nat
 lc:Nat
 cs:List PC
 vp:Option Addr
 vn:Nat
 vc:Nat
 vars:List Nat
def EJ.er(b:EJ):Bk:=⟨b.cs.map PC.c,b.vars⟩
abbrev GA(b:EJ):Value:=.agg #[.slice b.lp b.ln b.lc,.slice b.vp b.vn b.vc]
structure EJ.Lies(U:Nat->Prop)(w:World)(b:EJ):Prop where
 cs:Gk GW 4 U w b.lp b.ln b.lc b.cs
 each:∀x∈b.cs,Gk Ff 1 U w x.kp x.kn x.kc x.c.kids
 vars:Gk Ff 1 U w b.vp b.vn b.vc b.vars
theorem EJ.Lies.keep{U:Nat->Prop}{w w':World}{b:EJ}(h:b.Lies U w)(hk:BD U w w'):b.Lies U w':=⟨h.cs.keep hk,fun x hx=>(h.each x hx).keep hk,h.vars.keep hk⟩
theorem EJ.Lies.mono{U U':Nat->Prop}{w:World}{b:EJ}(h:b.Lies U w)(hU:∀b,b<w.heap.size->U b->U' b):b.Lies U' w:=⟨h.cs.mono hU,fun x hx=>(h.each x hx).mono hU,h.vars.mono hU⟩
abbrev cYa(y:PY):Array Value:=#[.int .u8 y.head.kind,.int .i64 y.head.var,.slice y.head.kp y.head.kn y.head.kc]
abbrev cYl(y:PY):List Value:=[.int .u8 y.head.kind,.int .i64 y.head.var,.slice y.head.kp y.head.kn y.head.kc]
abbrev cTa(a:Ma):Array Value:=#[.int .u8 a.hd.kind,.int .u8 a.hd.op,.int .i64 a.hd.at_,.int .i64 a.hd.n,.string a.hd.name,.string a.hd.arg,.string a.hd.exn,.slice a.kp a.kn a.kc]
abbrev cTl(a:Ma):List Value:=[.int .u8 a.hd.kind,.int .u8 a.hd.op,.int .i64 a.hd.at_,.int .i64 a.hd.n,.string a.hd.name,.string a.hd.arg,.string a.hd.exn,.slice a.kp a.kn a.kc]
abbrev cDa(a:IC):Array Value:=#[.int .u8 a.hd.kind,.int .u8 a.hd.op,.int .i64 a.hd.at_,.int .i64 a.hd.n,.string a.hd.name,.string a.hd.arg,.string a.hd.exn,.int .u8 a.ty.head.kind,.int .i64 a.ty.head.var,.slice a.ty.head.kp a.ty.head.kn a.ty.head.kc,.int .u8 a.bind.head.kind,.int .i64 a.bind.head.var,.slice a.bind.head.kp a.bind.head.kn a.bind.head.kc,.slice a.kp a.kn a.kc]
abbrev cDl(a:IC):List Value:=[.int .u8 a.hd.kind,.int .u8 a.hd.op,.int .i64 a.hd.at_,.int .i64 a.hd.n,.string a.hd.name,.string a.hd.arg,.string a.hd.exn,.int .u8 a.ty.head.kind,.int .i64 a.ty.head.var,.slice a.ty.head.kp a.ty.head.kn a.ty.head.kc,.int .u8 a.bind.head.kind,.int .i64 a.bind.head.var,.slice a.bind.head.kp a.bind.head.kn a.bind.head.kc,.slice a.kp a.kn a.kc]
abbrev cBa(b:EJ):Array Value:=#[.slice b.lp b.ln b.lc,.slice b.vp b.vn b.vc]
abbrev cBl(b:EJ):List Value:=[.slice b.lp b.ln b.lc,.slice b.vp b.vn b.vc]
abbrev cZd:Array Value:=#[.int .u8 0,.int .u8 0,.int .i64 0,.int .i64 0,.string ⟨#[]⟩,.string ⟨#[]⟩,.string ⟨#[]⟩,.int .u8 0,.int .i64 0,.slice none 0 0,.int .u8 0,.int .i64 0,.slice none 0 0,.slice none 0 0]
abbrev cZy:Array Value:=#[.int .u8 0,.int .i64 0,.slice none 0 0]
end
end Go.Proofs.YtkdjnegfnhldpaaGreatDoor
