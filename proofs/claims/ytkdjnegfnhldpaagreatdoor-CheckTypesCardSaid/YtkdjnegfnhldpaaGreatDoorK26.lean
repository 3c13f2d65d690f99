/- Part 26. -/
import Derived.Test.YtkdjnegfnhldpaaGreatDoorK25
set_option linter.unusedVariables false
set_option maxRecDepth 100000
set_option linter.unusedSimpArgs false
set_option maxHeartbeats 40000000
set_option autoImplicit true
set_option relaxedAutoImplicit true
namespace Go.Proofs.YtkdjnegfnhldpaaGreatDoor
open Go.Proofs.Tryz Go.RowKit
theorem ZDa(w:World)(s:PS)(a:Ma):((((w.alloc (.cells (cSa s) 96)).alloc (.cells (cTa a) 53)).alloc (.cells #[.slice none 0 0,.slice none 0 0,.bool false,.int .i64 0] 96)).alloc (.cells cZd 48)).heap[w.heap.size+1]?=some (.cells (cTa a) 53 (0,0)):=by obtain⟨g1,g2⟩:=Et w (cSa s) (cTa a) 96 53;have old:∀(V:World) (o:Obj) (k:Nat) (c:Obj),V.heap[k]?=some c->(V.alloc o).heap[k]?=some c:=fun V o k c h=>(AP V o k (Ab h)).trans h;exact old _ _ _ _ (old _ _ _ _ g2)
def Zg(U:Nat->Prop)(w:World)(s:PS)(env:EY)(t:Ga)(e:Ending)(w':World):Prop:=
 ∃(s':PS) (d:IC),e=.returned (.tuple #[Lg s',US d])/\Below w.heap.size w w'/\Sk (Ge U w) w' s' (Fh s.er env t.er).1 (s.b.ln+30 * t.size) (s.b.vn+8 * t.size) /\
  ((Fh s.er env t.er).1.bad=false->∃ds:List PD,LD.lies (Ge U w) w' (.node d ds)/\K4 (.node d ds)=true/\(Ad.node d ds:PD).size<=t.size/\d.ty.er=(Fh s.er env t.er).2.head.ty)
def S9(t:Ga):Prop:=∀(U:Nat->Prop) (w:World) (s:PS) (p:Option Addr) (n c:Nat) (env:List PN),s.b.Lies U w->Dh s.er.b->Mu U w p n c env->PE (FZ env)->KJ.lies U w t->L0 t.er=true->n+4 * t.size<=100000->s.b.ln+30 * t.size<=500000->s.b.vn+8 * t.size<=500000 ->
 Calls prog 45 #[Lg s,.slice p n c,Mb t.head] w (Zg U w s (FZ env) t)
theorem Qi{T T':Nat->Prop}{W W':World}{y:PY}(hl:GM y.er)(h:LY.lies T W y):LY.lies T' W' y:=by
 cases y with
 |node b l=>
  have hl:l=[]:=by rw [PY.er_node] at hl;have:l.map PY.er=[]:=hl;simpa using this
  subst hl;rw [FY.lies_node] at h ⊢;exact⟨h.1,⟨⟨h.2.1.is.len,h.2.1.is.max,h.2.1.is.le,h.2.1.is.nil,.inl rfl⟩,fun e=>absurd rfl e⟩,fun t ht=>by cases ht⟩
theorem Jm(k v:Int):(Cz k v).er=.node ⟨k,v⟩ []:=by unfold Cz;rw [PY.er_node];rfl
theorem Gz.fresh(h:Gz U w a g9 k kd ar v kst ds X s d S L V W)(hl:s1.b.Lies (Ge (NB U w X) W) w3)(he:s1.er=s.er.fresh)(hn:s1.b.ln=s.b.ln+1)(hv:s1.b.vn=s.b.vn+1):Sk (NB U w X) w3 s1 S.fresh (L+1) (V+1):=by have h1:=h.m.sk.ln;have h2:=h.m.sk.vn;exact⟨by rw [he,h.m.sk.er],hl.mono (fun g _ e=>h.come g e),by rw [he];exact SS.fresh_ok h.m.sk.ok,by omega,by omega⟩
theorem Gz.same{U:Nat->Prop}{w W w3:World}{a:Ma}{g9 k kd m:Nat}{ar:PY}{v:Value}{kst:List PY}{ds:List PD}{X:Nat->Prop}{s s1:PS}{d:IC}{S:SS}{L V:Nat}{z:Int}{x y:YT}(h:Gz U w a g9 k kd ar v kst ds X s d S L V W)(hl:s1.b.Lies (Ge (NB U w X) W) w3)(he:s1.er=s.er.same z x y)(hn:s1.b.ln<=s.b.ln+m):Sk (NB U w X) w3 s1 (S.same z x y) (L+m) V:=by
 have h1:=h.m.sk.ln;have h2:=h.m.sk.vn;have h3:=SS.same_ok h.m.sk.ok z x y;have e1:=EJ.vn_eq hl;have e2:=EJ.vn_eq h.m.sk.lies;have e3:s1.b.er.vars=(s.er.same z x y).b.vars:=by rw [<-he];rfl
 have e4:s.er.b.vars=s.b.er.vars:=rfl;rw [e3,h3.2,e4,e2] at e1;exact⟨by rw [he,h.m.sk.er],hl.mono (fun g _ e=>h.come g e),by rw [he];exact h3.1,by omega,by omega⟩
theorem ZCC{U:Nat->Prop}{w w2:World}{s:PS}{a:Ma}{d0:IC}(hd:(⟨a.hd,Cz 0 0,Cz 0 0,none,0,0⟩:IC)=d0)(hs:s.b.Lies U w)(aW:Dh s.er.b)(hf:NW w s a d0 w2):∃X,Gz U w a w2.heap.size 0 0 (Cz 1 0) (.slice none 0 0) [] [] X s d0 s.er (s.b.ln+1) (s.b.vn+1) (w2.alloc (.cells #[.int .u8 1,.int .i64 0,.slice none 0 0] 45)):=by
 subst hd;have hb:Below w2.heap.size w2 (w2.alloc (.cells #[.int .u8 1,.int .i64 0,.slice none 0 0] 45)):=bA;have aI:=hf.size
 refine⟨fun g=>(w.heap.size<=g/\g<w.heap.size+5)\/g=w2.heap.size,hf.step hb,AG w2 _,⟨rfl,(hs.mono (fun g h1 h2=>⟨fun _=>h2,fun e=>by omega⟩)).keep (BD.of (hf.step hb).below),aW,Bn _ _,Bn _ _⟩,fun g e=>by rw [AN];omega,fun g h1 h2=>.inl ⟨h1,h2⟩,.inr rfl,aI,
  Ep ⟨by decide,by decide⟩ ⟨by decide,by decide⟩,Ep ⟨by decide,by decide⟩ ⟨by decide,by decide⟩,Ep ⟨by decide,by decide⟩ ⟨by decide,by decide⟩,A1.nil _ _ _ _ _,A1.nil _ _ _ _ _,fun y h=>by(cases h),fun g e=>by(cases e),fun g e=>by(cases e),fun g e=>by(cases e)⟩
theorem Gz.mono(h:Gz U w a g9 k kd ar v kst ds X s d S L V W)(hL:L<=L')(hV:V<=V'):Gz U w a g9 k kd ar v kst ds X s d S L' V' W:=⟨h.f,h.b9,h.m.state (h.m.sk.mono (fun _ _ h=>h) hL hV)⟩
theorem Gz.lit(h:Gz U w a g9 0 0 ar (.slice none 0 0) [] ds X s d S L V W):Gz U w a g9 0 0 ar (.slice (some ⟨W.heap.size,0,none⟩) 0 0) [] ds (fun g=>X g\/g=W.heap.size) s d S L V (W.alloc (.cells #[] 45)):=by
 have h1:=h.more (.cells #[] 45);have h9:=Ab h.b9;refine⟨h1.f,h1.b9,⟨h1.m.sk,h1.m.lt,h1.m.x5,h1.m.x9,h1.m.l9,h1.m.ty,h1.m.bind,h1.m.arl,A1.lit LY.encT W (g9+1) 45 3 h9,h1.m.dk,h1.m.each,fun g e=>.inr (by cases e;rfl),h1.m.xd,fun g e e'=>?_⟩⟩;have h1:=(Aa h.m.dk g e').2;have e1:W.heap.size=g:=by cases e;rfl
 omega
theorem ZI{l:List Ga}{k:Nat}{x:Ga}(hx:l[k]?=some x):((l.take (k+1)).map Ad.size).sum=((l.take k).map Ad.size).sum+x.size/\((l.take k).map Ad.size).sum+x.size<=(l.map Ad.size).sum:=by
 have e:((l.take (k+1)).map Ad.size).sum=((l.take k).map Ad.size).sum+x.size:=by rw [BG hx,Ah,Cv];simp
 refine⟨e,?_⟩;rw [<-e];have h:(l.map Ad.size).sum=((l.take (k+1)).map Ad.size).sum+((l.drop (k+1)).map Ad.size).sum:=by rw [<-Cv,<-Ah,BY]
 omega
def ZCu(T:Nat->Prop)(W:World)(v:Value)(E:EY)(m:Nat):Prop:=∃(p:Option Addr) (n c:Nat) (env:List PN),v=.slice p n c/\Mu T W p n c env/\FZ env=E/\n<=m
theorem Xu:∀l:List Ga,l.length<=(l.map Ad.size).sum
 |[]=>by simp
 |t::l=>by have:=Xu l;have:=Ad.size_pos t;simp only [Aq,AV,A0];omega
theorem XQ(s:SS)(h:By):(BC s h).2.2.size<=3:=by
 unfold BC;split
 ·show (Ad.node _ []:YT).size<=3;rw [Ad.size_node];decide
 ·split
  ·exact(T5 ⟨by decide,by decide⟩ (GX _) (GX _)).1
  ·show (Ad.node _ []:YT).size<=3;rw [Ad.size_node];decide
theorem U2(env:EY)(h:By)(arg bind:YT)(k:List YT)(i:Nat)(h3:(h.kind==13)=b3)(h4:decide (h.kind=12/\i=1)=b4)(h5:decide (h.kind=11\/(h.kind=13/\i=0)\/(h.kind=16/\i=1))=b5)(e1:E1=if b3 then env++[(h.name,bind)] else env)(e2:E2=if b4 then E1++[(h.name,k.getD 0 Eu)] else E1)(e3:E3=if b5 then E2++[(h.arg,arg)] else E2):E3=F8 env h arg bind k i:=by
 subst h3 h4 h5 e1 e2 e3;unfold F8;by_cases k13:h.kind=13
 ·by_cases i0:i=0
  ·simp [k13,i0]
  ·simp [k13,i0]
 ·by_cases k12:h.kind=12
  ·by_cases i1:i=1
   ·simp [k12,i1]
   ·simp [k12,i1]
  ·by_cases k11:h.kind=11
   ·simp [k11]
   ·by_cases k16:h.kind=16/\i=1
    ·simp [k16.1,k16.2]
    ·have n1:¬(h.kind=11\/(h.kind=13/\i=0)\/(h.kind=16/\i=1)):=by omega
     have n2:¬(h.kind=11\/h.kind=16/\i=1):=by omega
     simp [k13,k12,n1,n2]
theorem ON(env:List PN)(x:PN):FZ (env++[x])=FZ env++[x.er]:=by unfold FZ;rw [Ah];rfl
theorem Gz.env{U:Nat->Prop}{w W:World}{a:Ma}{g9 k kd:Nat}{ar:PY}{v:Value}{kst:List PY}{ds:List PD}{X:Nat->Prop}{s:PS}{d:IC}{S:SS}{L V:Nat}{p:Option Addr}{n c:Nat}{env:List PN}(h:Gz U w a g9 k kd ar v kst ds X s d S L V W)(he:Mu U w p n c env):Mu (NB U w X) W p n c env:=(he.mono (fun g h1 h2=>⟨fun _=>h2,fun e=>by have:=(h.m.lt g e).1;omega⟩)).keep (BD.of h.f.below)
structure NdP(S0 S:SS)(env:EY)(h:By)(arg bind:YT)(L:List TT)(k:Nat)(kst:List PY)(ds:List PD)(m:Nat):Prop where
 good:S.bad=false
 leaf:∀t∈kst,GM t.er
 small:∀t∈ds,K4 t=true
 size:(ds.map Ad.size).sum<=m
 lies:∀t∈kst,∃T W,LY.lies T W t
 is:∃acc:List DT,acc.length=k/\acc.map Pt=kst.map PY.er/\D4 S0 env h arg bind [] L=D4 S env h arg bind acc (L.drop k)
theorem NdP.next{S0 S:SS}{env:EY}{h:By}{arg bind:YT}{L:List TT}{k m mx:Nat}{kst:List PY}{ds:List PD}{x:TT}{S':SS}{y':YT}{d':IC}{es:List PD}(hp:NdP S0 S env h arg bind L k kst ds m)(hx:L[k]?=some x)(hS:(Fh S (F8 env h arg bind (kst.map PY.er) k) x).1=S')(hy:(Fh S (F8 env h arg bind (kst.map PY.er) k) x).2.head.ty=y')(he:PE (F8 env h arg bind (kst.map PY.er) k))(hb:S'.bad=false)(hd:d'.ty.er=y')(hs:K4 (.node d' es)=true)(hz:(Ad.node d' es:PD).size<=mx){T:Nat->Prop}{W:World}(hl:LD.lies T W (.node d' es)):NdP S0 S' env h arg bind L (k+1) (kst++[d'.ty]) (ds++[.node d' es]) (m+mx):=by
 obtain⟨acc,ha,hc,hi⟩:=hp.is;have xI:GM y':=by rw [<-hy];exact Y3 x _ _ he (by rw [hS];exact hb)
 refine⟨hb,fun t ht=>?_,fun t ht=>?_,?_,fun t ht=>?_,acc++[(Fh S (F8 env h arg bind (kst.map PY.er) k) x).2],by simp [ha],by rw [Ah,Ah,hc,AV,Am,AV,Am,hd,<-hy];rfl,?_⟩
 ·rcases Ac.1 ht with ht|ht
  ·exact hp.leaf t ht
  ·rw [AQ.1 ht,hd];exact xI
 ·rcases Ac.1 ht with ht|ht
  ·exact hp.small t ht
  ·rw [AQ.1 ht];exact hs
 ·have:=hp.size;rw [Ah,Cv];simp only [AV,Am,A0,C7];omega
 ·rcases Ac.1 ht with ht|ht
  ·exact hp.lies t ht
  ·rw [AQ.1 ht];rw [FY.lies_node] at hl;exact⟨T,W,hl.1.2.1⟩
 ·have e1:L.drop k=x::L.drop (k+1):=by have:=A9 (DI hx);rw [AI (DI hx)] at hx;rw [<-A8 hx];exact this
  rw [hi,e1,Kx,hc,ha];dsimp only;rw [hS,AC (by rw [hb];decide)]
theorem NdP.bad{S0 S:SS}{env:EY}{h:By}{arg bind:YT}{L:List TT}{k m:Nat}{kst:List PY}{ds:List PD}{x:TT}{S':SS}(hp:NdP S0 S env h arg bind L k kst ds m)(hx:L[k]?=some x)(hS:(Fh S (F8 env h arg bind (kst.map PY.er) k) x).1=S')(hb:S'.bad=true):(D4 S0 env h arg bind [] L).1=S':=by
 obtain⟨acc,ha,hc,hi⟩:=hp.is;have e1:L.drop k=x::L.drop (k+1):=by have:=A9 (DI hx);rw [AI (DI hx)] at hx;rw [<-A8 hx];exact this
 rw [hi,e1,Kx,hc,ha];dsimp only;rw [hS,AJ hb]
theorem NdP.all{S0 S:SS}{env:EY}{h:By}{arg bind:YT}{L:List TT}{k m:Nat}{kst:List PY}{ds:List PD}(hp:NdP S0 S env h arg bind L k kst ds m)(hk:L.length<=k):(D4 S0 env h arg bind [] L).1=S/\(D4 S0 env h arg bind [] L).2.map Pt=kst.map PY.er:=by obtain⟨acc,ha,hc,hi⟩:=hp.is;rw [hi,List.drop_eq_nil_of_le hk,MO];exact⟨rfl,hc⟩
theorem Y2{s:SS}{env:EY}{h:By}{L:List TT}{S0 S:SS}{arg bind:YT}{ks:List YT}(hb:s.bad=false)(dN:BC s h=(S0,arg,bind))(hg:S.bad=false)(hk:(D4 S0 env h arg bind [] L).1=S)(gG:(D4 S0 env h arg bind [] L).2.map Pt=ks):(Fh s env (.node h L)).1=(H5 h.at_ (DZ S env h arg bind ks)).1/\(Fh s env (.node h L)).2.head.ty=(H5 h.at_ (DZ S env h arg bind ks)).2:=by rw [Jp,AC (by rw [hb];decide),dN];dsimp only;rw [hk,AC (by rw [hg];decide),gG];exact⟨rfl,rfl⟩
theorem ZAo{s:SS}{env:EY}{h:By}{L:List TT}{S0 S':SS}{arg bind:YT}(hb:s.bad=false)(dN:BC s h=(S0,arg,bind))(hk:(D4 S0 env h arg bind [] L).1=S')(ab:S'.bad=true):(Fh s env (.node h L)).1=S':=by rw [Jp,AC (by rw [hb];decide),dN];dsimp only;rw [hk,AJ ab]
structure NX(T:Nat->Prop)(W:World)(S:SS)(y:YT)(L V m:Nat)(s:PS)(d:IC):Prop where
 sk:Sk T W s S L V
 t:S.bad=false->∃ds:List PD,LD.lies T W (.node d ds)/\K4 (.node d ds)=true/\(Ad.node d ds:PD).size<=m/\d.ty.er=y
theorem NX.keep(h:NX T W S y L V m s d)(hk:BD T W W'):NX T W' S y L V m s d:=⟨h.sk.keep hk,fun e=>by obtain⟨ds,h1,h2⟩:=h.t e;exact⟨ds,LD.lies_keep hk _ h1,h2⟩⟩
theorem NX.mono(h:NX T W S y L V m s d)(hT:∀g,g<W.heap.size->T g->T' g):NX T' W S y L V m s d:=⟨h.sk.mono hT (AB _) (AB _),fun e=>by obtain⟨ds,h1,h2⟩:=h.t e;exact⟨ds,LD.lies_mono hT _ h1,h2⟩⟩
def Pq(R:Nat->Prop)(p q:Option Nat):Nat->Prop:=fun g=>R g/\p≠some g/\q≠some g
structure NdQ(R:Nat->Prop)(B:Nat)(F:(Nat->Prop)->World->PS->IC->Prop)(W:World)(p q:Option Nat)(cp cq:Array Value)(r:Option (PS×IC)):Prop where
 size:B<=W.heap.size
 hp:∀g,p=some g->B<=g/\W.heap[g]?=some (.cells cp 96 (0,0))
 hq:∀g,q=some g->B<=g/\W.heap[g]?=some (.cells cq 48 (0,0))
 ne:∀g,p=some g->q≠some g
 res:∀s d,r=some (s,d)->F (Pq R p q) W s d
section
variable {R:Nat->Prop} {B:Nat} {S:SS} {y:YT} {L V m:Nat} {W:World} {p q:Option Nat} {cp cq:Array Value} {r:Option (PS×IC)}
abbrev OB(R:Nat->Prop)(B:Nat)(S:SS)(y:YT)(L V m:Nat):=NdQ R B (fun T W s d=>NX T W S y L V m s d)
theorem Yx(h:B<=W.heap.size):OB R B S y L V m W none none cp cq none:=⟨h,fun g e=>by(cases e),fun g e=>by(cases e),fun g e=>by(cases e),fun s d e=>by(cases e)⟩
theorem NdQ.allocP(h:OB R B S y L V m W none q cp cq r)(hG:G=W.heap.size):OB R B S y L V m (W.alloc (.cells cs 96)) (some G) q cs cq r:=by
 subst hG;have hb:Below W.heap.size W (W.alloc (.cells cs 96)):=bA
 exact⟨AM h.size hb.size,fun g e=>by(cases e;exact⟨h.size,AG W _⟩),fun g e=>⟨(h.hq g e).1,(hb.block g (Ab (h.hq g e).2)).trans (h.hq g e).2⟩,fun g e e'=>by(cases e;exact CU _ (Ab (h.hq _ e').2)),
  fun s d e=>((h.res s d e).mono (T':=Pq R (some W.heap.size) q) (fun g hg k=>⟨k.1,fun e=>by(injection e with e;omega),k.2.2⟩)).keep (BD.of hb)⟩
theorem NdQ.allocQ(h:OB R B S y L V m W p none cp cq r)(hG:G=W.heap.size):OB R B S y L V m (W.alloc (.cells cs 48)) p (some G) cp cs r:=by
 subst hG;have hb:Below W.heap.size W (W.alloc (.cells cs 48)):=bA
 exact⟨AM h.size hb.size,fun g e=>⟨(h.hp g e).1,(hb.block g (Ab (h.hp g e).2)).trans (h.hp g e).2⟩,fun g e=>by(cases e;exact⟨h.size,AG W _⟩),fun g e e'=>by(cases e';exact CU _ (Ab (h.hp _ e).2)),
  fun s d e=>((h.res s d e).mono (T':=Pq R p (some W.heap.size)) (fun g hg k=>⟨k.1,k.2.1,fun e=>by(injection e with e;omega)⟩)).keep (BD.of hb)⟩
theorem NdQ.call(h:OB R B S y L V m W p q cp cq none)(hR:∀g,B<=g->R g)(hb:Below W.heap.size W W')(hr:NX (Ge (Pq R p q) W) W' S y L V m s d):OB R B S y L V m W' p q cp cq (some (s,d)):=
 ⟨AM h.size hb.size,fun g e=>⟨(h.hp g e).1,(hb.block g (Ab (h.hp g e).2)).trans (h.hp g e).2⟩,fun g e=>⟨(h.hq g e).1,(hb.block g (Ab (h.hq g e).2)).trans (h.hq g e).2⟩,h.ne,
  fun s' d' e=>by
   cases e
   exact hr.mono (fun g _ k=>by
    by_cases hg:g<W.heap.size
    ·exact k hg
    ·exact⟨hR g (AM h.size (by omega)),fun e=>hg (Ab (h.hp g e).2),fun e=>hg (Ab (h.hq g e).2)⟩)⟩
theorem NdQ.storeP(h:OB R B S y L V m W (some g) q cp cq r):OB R B S y L V m (W.setRow g cs) (some g) q cs cq r:=by
 have hg:W.grownBy (W.setRow g cs) (some g):=AU _ _ _
 exact⟨AM h.size hg.size,fun g' e=>by(cases e;exact⟨(h.hp g rfl).1,AL _ _ _ _ _ _ (h.hp g rfl).2⟩),fun g' e=>⟨(h.hq g' e).1,(hg.block g' (Ab (h.hq g' e).2) (fun e'=>by(injection e' with e';subst e';exact h.ne _ rfl e))).trans (h.hq g' e).2⟩,h.ne,
  fun s d e=>(h.res s d e).keep (BD.grown hg (fun b e k=>k.2.1 e))⟩
theorem NdQ.storeQ(h:OB R B S y L V m W p (some g) cp cq r):OB R B S y L V m (W.setRow g cs) p (some g) cp cs r:=by
 have hg:W.grownBy (W.setRow g cs) (some g):=AU _ _ _
 exact⟨AM h.size hg.size,fun g' e=>⟨(h.hp g' e).1,(hg.block g' (Ab (h.hp g' e).2) (fun e'=>by(injection e' with e';subst e';exact h.ne _ e rfl))).trans (h.hp g' e).2⟩,fun g' e=>by(cases e;exact⟨(h.hq g rfl).1,AL _ _ _ _ _ _ (h.hq g rfl).2⟩),h.ne,
  fun s d e=>(h.res s d e).keep (BD.grown hg (fun b e k=>k.2.2 e))⟩
end
theorem ZCL{s:SS}{env:EY}{h:By}{arg bind:YT}{k:List YT}(hk:h.kind=1):DZ s env h arg bind k=(s,Eu):=by unfold DZ;simp [hk]
theorem ZCM{s:SS}{env:EY}{h:By}{arg bind:YT}{k:List YT}(hk:h.kind=2):DZ s env h arg bind k=(s,Lz env h.name):=by unfold DZ;simp [hk]
theorem ZCN{s:SS}{env:EY}{h:By}{arg bind:YT}{k:List YT}(hk:h.kind=3):DZ s env h arg bind k=(s,Tn 2 (k.getD 0 Eu) (k.getD 1 Eu)):=by unfold DZ;simp [hk]
theorem ZCO{s:SS}{env:EY}{h:By}{arg bind:YT}{k:List YT}(hk:h.kind=4):DZ s env h arg bind k=(s.fresh.fresh.same h.at_ (k.getD 0 Eu) (Tn 2 (Hn s.b.vars.length) (Hn s.fresh.b.vars.length)),Hn s.b.vars.length):=by unfold DZ;simp [hk]
theorem ZCP{s:SS}{env:EY}{h:By}{arg bind:YT}{k:List YT}(hk:h.kind=5):DZ s env h arg bind k=(s.fresh.fresh.same h.at_ (k.getD 0 Eu) (Tn 2 (Hn s.b.vars.length) (Hn s.fresh.b.vars.length)),Hn s.fresh.b.vars.length):=by unfold DZ;simp [hk]
theorem ZCQ{s:SS}{env:EY}{h:By}{arg bind:YT}{k:List YT}(hk:h.kind=6):DZ s env h arg bind k=(s,Oh (k.getD 0 Eu)):=by unfold DZ;simp [hk]
theorem ZCR{s:SS}{env:EY}{h:By}{arg bind:YT}{k:List YT}(hk:h.kind=7):DZ s env h arg bind k=(s.fresh.same h.at_ (k.getD 0 Eu) (Oh (Hn s.b.vars.length)),Hn s.b.vars.length):=by unfold DZ;simp [hk]
theorem ZCS{s:SS}{env:EY}{h:By}{arg bind:YT}{k:List YT}(hk:h.kind=8):DZ s env h arg bind k=(s.same h.at_ (k.getD 0 Eu) (Oh (k.getD 1 Eu)),Eu):=by unfold DZ;simp [hk]
theorem ZCT{s:SS}{env:EY}{h:By}{arg bind:YT}{k:List YT}(hk:h.kind=9):DZ s env h arg bind k=((s.same h.at_ (k.getD 0 Eu) Eu).same h.at_ (k.getD 1 Eu) Eu,Eu):=by unfold DZ;simp [hk]
theorem ZAz{s:SS}{env:EY}{h:By}{arg bind:YT}{k:List YT}(hk:h.kind=10):DZ s env h arg bind k=(s.fresh.same h.at_ (k.getD 0 Eu) (Tn 4 (k.getD 1 Eu) (Hn s.b.vars.length)),Hn s.b.vars.length):=by unfold DZ;simp [hk]
theorem ZA0{s:SS}{env:EY}{h:By}{arg bind:YT}{k:List YT}(hk:h.kind=11):DZ s env h arg bind k=(s,Tn 4 arg (k.getD 0 Eu)):=by unfold DZ;simp [hk]
theorem ZA1{s:SS}{env:EY}{h:By}{arg bind:YT}{k:List YT}(hk:h.kind=12):DZ s env h arg bind k=(s,k.getD 1 Eu):=by unfold DZ;simp [hk]
theorem ZA2{s:SS}{env:EY}{h:By}{arg bind:YT}{k:List YT}(hk:h.kind=13):DZ s env h arg bind k=(s.same h.at_ bind (Tn 4 arg (k.getD 0 Eu)),k.getD 1 Eu):=by unfold DZ;simp [hk]
theorem ZA3{s:SS}{env:EY}{h:By}{arg bind:YT}{k:List YT}(hk:h.kind=14):DZ s env h arg bind k=((s.same h.at_ (k.getD 0 Eu) Eu).same h.at_ (k.getD 1 Eu) (k.getD 2 Eu),k.getD 1 Eu):=by unfold DZ;simp [hk]
theorem ZA4{s:SS}{env:EY}{h:By}{arg bind:YT}{k:List YT}(hk:h.kind=15):DZ s env h arg bind k=((s.same h.at_ (k.getD 0 Eu) Eu).fresh,Hn (s.same h.at_ (k.getD 0 Eu) Eu).b.vars.length):=by unfold DZ;simp [hk]
theorem ZA5{s:SS}{env:EY}{h:By}{arg bind:YT}{k:List YT}(hk:h.kind=16):DZ s env h arg bind k=(s.same h.at_ (k.getD 0 Eu) (k.getD 1 Eu),k.getD 0 Eu):=by unfold DZ;simp [hk]
theorem Wu(hb:DN h n=true):(h.kind=1/\n=0)\/(h.kind=2/\n=0)\/(h.kind=3/\n=2)\/(h.kind=4/\n=1)\/(h.kind=5/\n=1)\/(h.kind=6/\n=1)\/(h.kind=7/\n=1)\/(h.kind=8/\n=2)\/(h.kind=9/\n=2)\/(h.kind=10/\n=2)\/(h.kind=11/\n=1)\/(h.kind=12/\n=2)\/(h.kind=13/\n=2)\/(h.kind=14/\n=3)\/(h.kind=15/\n=1)\/(h.kind=16/\n=2):=by
 unfold DN at hb;rw [AK,AK,AK,BO,A5,A5,DC] at hb;have h1:=hb.1.1.1.1.1;have h2:=hb.1.1.1.1.2;rw [BE] at h1;clear hb;unfold DU at h1 h2;by_cases g0:h.kind=1\/h.kind=2
 ·rw [AJ g0] at h1 h2;rcases g0 with h|h
  ·exact .inl ⟨h,by omega⟩
  ·exact .inr (.inl ⟨h,by omega⟩)
 rw [AC g0] at h1 h2;by_cases g1:h.kind=4\/h.kind=5\/h.kind=6\/h.kind=7\/h.kind=11\/h.kind=15
 ·rw [AJ g1] at h1 h2;rcases g1 with h|h|h|h|h|h
  ·exact .inr (.inr (.inr (.inl ⟨h,by omega⟩)))
  ·exact .inr (.inr (.inr (.inr (.inl ⟨h,by omega⟩))))
  ·exact .inr (.inr (.inr (.inr (.inr (.inl ⟨h,by omega⟩)))))
  ·exact .inr (.inr (.inr (.inr (.inr (.inr (.inl ⟨h,by omega⟩))))))
  ·exact .inr (.inr (.inr (.inr (.inr (.inr (.inr (.inr (.inr (.inr (.inl ⟨h,by omega⟩))))))))))
  ·exact .inr (.inr (.inr (.inr (.inr (.inr (.inr (.inr (.inr (.inr (.inr (.inr (.inr (.inr (.inl ⟨h,by omega⟩))))))))))))))
 rw [AC g1] at h1 h2;by_cases g2:h.kind=3\/h.kind=8\/h.kind=9\/h.kind=10\/h.kind=12\/h.kind=13\/h.kind=16
 ·rw [AJ g2] at h1 h2;rcases g2 with h|h|h|h|h|h|h
  ·exact .inr (.inr (.inl ⟨h,by omega⟩))
  ·exact .inr (.inr (.inr (.inr (.inr (.inr (.inr (.inl ⟨h,by omega⟩)))))))
  ·exact .inr (.inr (.inr (.inr (.inr (.inr (.inr (.inr (.inl ⟨h,by omega⟩))))))))
  ·exact .inr (.inr (.inr (.inr (.inr (.inr (.inr (.inr (.inr (.inl ⟨h,by omega⟩)))))))))
  ·exact .inr (.inr (.inr (.inr (.inr (.inr (.inr (.inr (.inr (.inr (.inr (.inl ⟨h,by omega⟩)))))))))))
  ·exact .inr (.inr (.inr (.inr (.inr (.inr (.inr (.inr (.inr (.inr (.inr (.inr (.inl ⟨h,by omega⟩))))))))))))
  ·exact .inr (.inr (.inr (.inr (.inr (.inr (.inr (.inr (.inr (.inr (.inr (.inr (.inr (.inr (.inr (⟨h,by omega⟩)))))))))))))))
 rw [AC g2] at h1 h2;by_cases h:h.kind=14
 ·rw [AJ h] at h1 h2;exact .inr (.inr (.inr (.inr (.inr (.inr (.inr (.inr (.inr (.inr (.inr (.inr (.inr (.inl ⟨h,by omega⟩)))))))))))))
 ·rw [AC h] at h1 h2;omega
theorem Gz.kidT(h:Gz U w a g9 k kd ar (.slice (some ⟨gq,oq,none⟩) k cq) kst ds X s d S L V W)(hy:kst[j]?=some y):W.rangeAt gq (oq+j * 3) (cYl y):=by obtain⟨_,_,hv,hr⟩:=A1.isRow IG (by omega) h.m.ks;cases hv;obtain⟨b,o,hp,hb,hc⟩:=hr.row.elem hy;cases hp;exact fun i u hu=>hc i u hu
theorem Gz.kidP(h:Gz U w a g9 k kd ar (.slice q k cq) kst ds X s d S L V W)(hk:0<k):∃gq oq,q=some ⟨gq,oq,none⟩:=by obtain⟨_,_,hv,hr⟩:=A1.isRow IG (by omega) h.m.ks;cases hv;obtain⟨y,hy⟩:=Bh (l:=kst) (j:=0) (by rw [hr.len];exact hk);obtain⟨b,o,hp,_⟩:=hr.row.elem hy;exact⟨b,o,hp⟩
theorem Gz.klen(h:Gz U w a g9 k kd ar v kst ds X s d S L V W):kst.length=k:=A1.len IG h.m.ks (by omega)
theorem ZCt(hw:Region.wanted o (yielded ops act.tmps)=true)(ty:TypeId)(x y:Operand)(ho:o.op=.store ty x y)(g n:Nat)(cells:Array Value)(hx:act.eval x=.pointer (some ⟨g,n,none⟩))(hy:act.eval y=.agg cells)(ht:W.there g n cells.size)(hi:(P.info? ty).map (·.size)=some cells.size)(h1:cells.all (·.oneCell')=true)(hK:K (act.put o.dst undef) (W.setCells g n cells.toList)):if Region.wanted o (yielded ops act.tmps)=true then Oper.wp P o act W K Q else E:=by rw [AJ hw];exact wp_store_mid ty x y ho g n cells hx hy ht hi h1 hK
theorem Kf(y:PY):y.er.size=y.size:=Ad.size_map _ y
theorem Nd(y:PY):y.er.head.kind=y.head.kind:=by cases y with|node b l=>rw [PY.er_node];rfl
theorem Qj{y:PY}(h:GM y.er):y.size=1:=by rw [<-Kf];exact G6 h
theorem Gz.varE(h:Gz U w a g9 k kd ar v kst ds X s d S L V W):(Cz 5 (s.b.vn:Int)).er=Hn S.b.vars.length:=by rw [Jm,<-h.m.sk.er];show (Ad.node ⟨5,(s.b.vn:Int)⟩ []:YT)=.node ⟨5,(s.b.er.vars.length:Int)⟩ [];rw [EJ.vn_eq h.m.sk.lies]
theorem Gz.vnI(h:Gz U w a g9 k kd ar v kst ds X s d S L V W)(hV:V<=1000000):RX (s.b.vn:Int):=by have:=h.m.sk.vn;exact⟨by show (-9223372036854775808:Int)<=_;omega,by show _<=(9223372036854775807:Int);omega⟩
theorem RE(k v:Int):(Cz k v).size=1:=by unfold Cz;rw [Ad.size_node];rfl
structure ZCw(kst:List PY)(j:Nat)(y:PY):Prop where
 at_:kst[j]?=some y
 leaf:GM y.er
 lies:∀T W,LY.lies T W y
 size:y.size=1
 er:(kst.map PY.er).getD j Eu=y.er
theorem Eo(h1:∀t∈kst,GM t.er)(h2:∀t∈kst,∃T W,LY.lies T W t)(hj:j<kst.length):∃y,Hd (ZCw kst j y):=by
 obtain⟨y,hy⟩:=Bh hj;have hm:=AE hy;refine⟨y,hy,h1 y hm,fun T W=>?_,Qj (h1 y hm),?_⟩
 ·obtain⟨T0,V0,h⟩:=h2 y hm;exact Qi (h1 y hm) h
 ·rw [AX,A7,hy];rfl
structure WB(T:Nat->Prop)(n:Nat)(W:World)(x:PY)(e:YT):Prop where
 lies:LY.lies T W x
 er:x.er=e
 size:e.size<=n
theorem WB.step(h:WB T n W x e)(hb:Below W.heap.size W W'):WB T n W' x e:=⟨LY.lies_keep (BD.of hb) _ h.lies,h.er,h.size⟩
theorem ZCw.ty(h:ZCw kst j y)(T:Nat->Prop)(W:World):WB T 1 W y y.er:=⟨h.lies T W,rfl,by rw [G6 h.leaf];exact AB _⟩
theorem D6(h:x=k)(n:Int):(x==n)=(k==n):=by rw [h]
structure Ho(U:Nat->Prop)(w:World)(a:Ma)(g9 g16 g17 k:Nat)(ar:PY)(v:Value)(kst:List PY)(ds:List PD)(X:Nat->Prop)(d:IC)(p16 p17:PY)(s:PS)(y:PY)(S:SS)(L V:Nat)(W:World):Prop where
 h:Gz U w a g9 k k ar v kst ds X s ⟨d.hd,y,d.bind,d.kp,d.kn,d.kc⟩ S L V W
 b16:W.heap[g16]?=some (.cells (cYa p16) 45 (0,0))
 b17:W.heap[g17]?=some (.cells (cYa p17) 45 (0,0))
 l16:g9<g16
 l17:g16<g17
 x16:X g16
 x17:X g17
 n16:∀g,v.ownBlock=some g\/(Value.slice d.kp d.kn d.kc).ownBlock=some g->g<g16
section
variable {U:Nat->Prop} {w W W':World} {a:Ma} {g9 g16 g17 k:Nat} {ar:PY} {v:Value} {kst:List PY} {ds:List PD} {X:Nat->Prop} {d:IC} {p16 p17:PY} {s r:PS} {y:PY} {S S':SS} {L V L' V':Nat}
theorem Ho.step(H:Ho U w a g9 g16 g17 k ar v kst ds X d p16 p17 s y S L V W)(hb:Below W.heap.size W W'):Ho U w a g9 g16 g17 k ar v kst ds X d p16 p17 s y S L V W':=⟨H.h.step hb,(hb.block _ (Ab H.b16)).trans H.b16,(hb.block _ (Ab H.b17)).trans H.b17,H.l16,H.l17,H.x16,H.x17,H.n16⟩
theorem Ho.old(H:Ho U w a g9 g16 g17 k ar v kst ds X d p16 p17 s y S L V W)(hg:W.grownBy W' (some g))(hl:g<=g9):W'.heap[g16]?=some (.cells (cYa p16) 45 (0,0))/\W'.heap[g17]?=some (.cells (cYa p17) 45 (0,0)):=by have h1:=H.l16;have h2:=H.l17;exact⟨(hg.block _ (Ab H.b16) (fun e=>by injection e with e;omega)).trans H.b16,(hg.block _ (Ab H.b17) (fun e=>by injection e with e;omega)).trans H.b17⟩
theorem Ho.stS(H:Ho U w a g9 g16 g17 k ar v kst ds X d p16 p17 s y S L V W)(hb:Below W.heap.size W W')(hs:Sk (NB U w X) W' r S' L' V'):Ho U w a g9 g16 g17 k ar v kst ds X d p16 p17 r y S' L' V' (W'.setRow w.heap.size (cSa r)):=by have H1:=H.step hb;have hl:=H.h.m.l9;obtain⟨e1,e2⟩:=H1.old (AU W' w.heap.size (cSa r)) (by omega);exact⟨H1.h.setS hs,e1,e2,H.l16,H.l17,H.x16,H.x17,H.n16⟩
theorem Ho.st16(H:Ho U w a g9 g16 g17 k ar v kst ds X d p16 p17 s y S L V W)(z:PY):Ho U w a g9 g16 g17 k ar v kst ds X d z p17 s y S L V (W.setRow g16 (cYa z)):=by have h2:=H.l17;exact⟨H.h.setBox H.x16 H.l16 (fun e=>by have:=H.n16 _ (.inl e);omega) (fun e=>by have:=H.n16 _ (.inr e);omega),AL _ _ _ _ _ _ H.b16,(AR _ _ _ _ (by omega)).trans H.b17,H.l16,H.l17,H.x16,H.x17,H.n16⟩
theorem Ho.st17(H:Ho U w a g9 g16 g17 k ar v kst ds X d p16 p17 s y S L V W)(z:PY):Ho U w a g9 g16 g17 k ar v kst ds X d p16 z s y S L V (W.setRow g17 (cYa z)):=by have h1:=H.l16;have h2:=H.l17;exact⟨H.h.setBox H.x17 (by omega) (fun e=>by have:=H.n16 _ (.inl e);omega) (fun e=>by have:=H.n16 _ (.inr e);omega),(AR _ _ _ _ (by omega)).trans H.b16,AL _ _ _ _ _ _ H.b17,H.l16,H.l17,H.x16,H.x17,H.n16⟩
theorem Ho.stT(H:Ho U w a g9 g16 g17 k ar v kst ds X d p16 p17 s y S L V W)(hz:LY.lies (NB U w X) W z):Ho U w a g9 g16 g17 k ar v kst ds X d p16 p17 s z S L V (W.setCells (w.heap.size+1+1+1+1) 7 (cYl z)):=by have hl:=H.h.m.l9;obtain⟨e1,e2⟩:=H.old (Du (w.heap.size+1+1+1+1) (cYl z) 7 W) (by omega);exact⟨H.h.setTy hz,e1,e2,H.l16,H.l17,H.x16,H.x17,H.n16⟩
theorem Ho.there(H:Ho U w a g9 g16 g17 k ar v kst ds X d p16 p17 s y S L V W):W.there (w.heap.size+1+1+1+1) 7 3:=RL H.h.f.b8 7 3 (by simp)
theorem Ho.at_(H:Ho U w a g9 g16 g17 k ar v kst ds X d p16 p17 s y S L V W):W.cell? ⟨w.heap.size+1,2,none⟩=some (.int .i64 a.hd.at_):=by rw [AD H.h.f.b1];rfl
theorem Ho.bd(H:Ho U w a g9 g16 g17 k ar v kst ds X d p16 p17 s y S L V W):W.rangeAt (w.heap.size+1+1+1+1) 10 [.int .u8 d.bind.head.kind,.int .i64 d.bind.head.var,.slice d.bind.head.kp d.bind.head.kn d.bind.head.kc]:=KQ H.h.f.b8 10 _ (by intro i v h;match i,h with|0,h=>exact h|1,h=>exact h|2,h=>exact h)
theorem Ho.var(H:Ho U w a g9 g16 g17 k ar v kst ds X d p16 p17 s y S L V W)(hV:V<=1000000)(T:Nat->Prop)(W':World):WB T 1 W' (Cz 5 (s.b.vn:Int)) (Hn S.b.vars.length):=⟨Ep ⟨by decide,by decide⟩ (H.h.vnI hV),H.h.varE,by rw [G6 (GX _)];exact AB _⟩
theorem Ho.frC(H:Ho U w a g9 g16 g17 k ar v kst ds X d p16 p17 s y S L V W)(hL:L<=900000)(hV:V<=900000):Calls prog 73 #[Lg s] W (fun e w'=>∃r:PS,e=.returned (.tuple #[Lg r,GL (Cz 5 (s.b.vn:Int)).head])/\Below W.heap.size W w'/\Sk (NB U w X) w' r S.fresh (L+1) (V+1)):=by refine(Hq H.h.m.sk.lies (by have:=H.h.m.sk.ln;omega) (by have:=H.h.m.sk.vn;omega)).mono ?_;rintro e w' ⟨r,he,bE,bG,a8,gN,hb⟩;exact⟨r,he,hb,H.h.fresh bE bG a8 gN⟩
theorem Ho.smC(H:Ho U w a g9 g16 g17 k ar v kst ds X d p16 p17 s y S L V W)(hb:Below W.heap.size W W'){n m:Nat}{x z:PY}{ex ez:YT}(hx:WB (NB U w X) n W' x ex)(hz:WB (NB U w X) m W' z ez)(hL:L<=800000:=by omega)(hn:n<=3:=by decide)(hm:m<=3:=by decide):Calls prog 77 #[Lg s,.int .i64 a.hd.at_,GL x.head,GL z.head] W' (fun e w'=>∃r:PS,e=.returned (Lg r)/\Below W'.heap.size W' w'/\Sk (NB U w X) w' r (S.same a.hd.at_ ex ez) (L+6) V):=by have h1:=(H.step hb).h;have z1:=hx.size;have z2:=hz.size;rw [<-hx.er,Kf] at z1;rw [<-hz.er,Kf] at z2;refine(L9 (z:=a.hd.at_) h1.m.sk.lies h1.m.sk.ok hx.lies hz.lies (by have:=h1.m.sk.ln;omega)).mono ?_;rintro e w' ⟨r,he,hl,bG,a8,ab⟩;exact⟨r,he,ab,by rw [<-hx.er,<-hz.er];exact(h1.same hl bG a8).mono (fun _ _ h=>h) (by omega) (AB _)⟩
theorem Ho.ofC(H:Ho U w a g9 g16 g17 k ar v kst ds X d p16 p17 s y S L V W)(hb:Below W.heap.size W W'){c:Int}{x z:PY}{ex ez:YT}(hx:WB (NB U w X) 1 W' x ex)(hz:WB (NB U w X) 1 W' z ez)(hc:0<=c/\c<=255:=by decide):Calls prog 74 #[.int .u8 c,GL x.head,GL z.head] W' (fun e w'=>∃r:PY,e=.returned (GL r.head)/\Below W'.heap.size W' w'/\WB (NB U w X) 3 w' r (Tn c ex ez)):=by refine(Nw hc hx.lies hz.lies).mono ?_;rintro e w' ⟨r,he,hl,bG,ab⟩;have z1:=hx.size;have z2:=hz.size;refine⟨r,he,ab,LY.lies_mono (fun g _ h=>(H.step hb).h.come g h) _ hl,by rw [bG,hx.er,hz.er],?_⟩;unfold Tn;rw [Ad.size_node];simp only [AV,Am,A0,C7];omega
theorem Ho.rfC(H:Ho U w a g9 g16 g17 k ar v kst ds X d p16 p17 s y S L V W)(hb:Below W.heap.size W W')(hx:WB (NB U w X) 1 W' x ex):Calls prog 78 #[GL x.head] W' (fun e w'=>∃r:PY,e=.returned (GL r.head)/\Below W'.heap.size W' w'/\WB (NB U w X) 3 w' r (Oh ex)):=by refine(Rs hx.lies).mono ?_;rintro e w' ⟨r,he,hl,bG,ab⟩;have z1:=hx.size;refine⟨r,he,ab,LY.lies_mono (fun g _ h=>(H.step hb).h.come g h) _ hl,by rw [bG,hx.er],?_⟩;unfold Oh;rw [Ad.size_node];simp only [AV,Am,A0,C7];omega
theorem ZCG(T:Nat->Prop)(W:World):WB T 1 W (Cz 1 0) Eu:=⟨Ep ⟨by decide,by decide⟩ ⟨by decide,by decide⟩,Jm 1 0,by rw [G6 Jn];exact AB _⟩
end
end Go.Proofs.YtkdjnegfnhldpaaGreatDoor
