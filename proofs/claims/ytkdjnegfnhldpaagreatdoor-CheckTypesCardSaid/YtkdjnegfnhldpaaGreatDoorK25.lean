/- Part 25. -/
import Derived.Test.YtkdjnegfnhldpaaGreatDoorK24
set_option linter.unusedVariables false
set_option maxRecDepth 100000
set_option linter.unusedSimpArgs false
set_option maxHeartbeats 40000000
set_option autoImplicit true
set_option relaxedAutoImplicit true
namespace Go.Proofs.YtkdjnegfnhldpaaGreatDoor
open Go.Proofs.Tryz Go.RowKit
theorem SW(f:Nat):∀(l:List YT) (b:Bk),Dh b->f<b.cs.length->(∀t∈l,b.knows t=true)->Dh (F9 b f l).1/\(F9 b f l).1.vars=b.vars
 |[],b,hb,_,_=>by rw [F9];exact⟨hb,rfl⟩
 |t::l,b,hb,hf,hk=>by
  obtain⟨g1,g2⟩:=Ky t b hb (hk t (by simp));have g3:f<(Cq b t).1.cs.length:=Ak hf g1.len;have L:=I5 ((Cq b t).1.cs.length+1) (Cq b t).1 f (Cq b t).2 g1.ok g3 g2;rw [F9];split
  ·obtain⟨h1,h2⟩:=SW f l _ L.ok (by rw [L.len];exact g3) (fun u hu=>by
    have:=hk u (by simp [hu]);unfold Bk.knows at this ⊢;rw [L.vars,g1.vars];exact this)
   exact⟨h1,by rw [h2,L.vars,g1.vars]⟩
  ·exact⟨L.ok,by rw [L.vars,g1.vars]⟩
theorem Bk.join_ok(hb:Dh b)(l:List YT):Dh (b.join l).1/\(b.join l).1.vars=b.vars:=by
 unfold Bk.join;split
 ·rename_i hk;rw [Aj] at hk;split
  ·match l with
   |[]=>rw [Jl];exact⟨hb,rfl⟩
   |t::l=>
    obtain⟨g1,g2⟩:=Ky t b hb (hk t (by simp));rw [Jl]
    obtain⟨h1,h2⟩:=SW (Cq b t).2 l (Cq b t).1 g1.ok g2 (fun u hu=>by
     have:=hk u (by simp [hu]);unfold Bk.knows at this ⊢;rw [g1.vars];exact this)
    exact⟨h1,by rw [h2,g1.vars]⟩
  ·exact⟨hb,rfl⟩
 ·exact⟨hb,rfl⟩
theorem SS.same_ok{s:SS}(h:Dh s.b)(z:Int)(x y:YT):Dh (s.same z x y).b/\(s.same z x y).b.vars=s.b.vars:=by
 unfold SS.same;split
 ·exact⟨h,rfl⟩
 ·split
  ·exact Bk.join_ok h _
  ·exact⟨h,rfl⟩
theorem SS.fresh_ok{s:SS}(h:Dh s.b):Dh s.fresh.b:=Dh.fresh h
def GM(t:YT):Prop:=t.kids=[]
def ty3(t:YT):Prop:=t.size<=3/\(GM t\/(1<t.head.kind/\t.head.kind<5))
theorem G6(h:GM t):t.size=1:=by
 cases t with
 |node a l=>
  have h':l=[]:=h;rw [h',Ad.size_node];rfl
theorem Fj(h:GM t):ty3 t:=⟨by rw [G6 h];decide,.inl h⟩
theorem Jn:GM Eu:=rfl
theorem GX(n:Nat):GM (Hn n):=rfl
theorem T5(hk:1<k/\k<5)(ha:GM a)(hb:GM b):ty3 (Tn k a b):=by refine⟨?_,.inr hk⟩;unfold Tn;rw [Ad.size_node,AV,AV,Am,G6 ha,G6 hb];decide
theorem ZCf(ha:GM a):ty3 (Oh a):=by refine⟨?_,.inr ⟨by show (1:Int)<3;decide,by show (3:Int)<5;decide⟩⟩;unfold Oh;rw [Ad.size_node,AV,Am,G6 ha];decide
def PE(env:EY):Prop:=∀b∈env,ty3 b.2
theorem PE.look(h:PE env)(x:ByteArray):ty3 (Lz env x):=by
 unfold Lz;split
 ·exact Fj Jn
 ·rename_i b hb;exact h b (List.mem_reverse.1 (Ed hb))
theorem OW{k:List YT}(h:∀t∈k,GM t)(j:Nat):GM (k.getD j Eu):=by
 rw [AX];cases e:k[j]? with
 |none=>exact Jn
 |some t=>exact h t (AE e)
theorem PE.inner{env:EY}(h:PE env){hd:By}{arg bind:YT}{k:List YT}{i:Nat}(ha:GM arg)(hb:hd.kind=13->ty3 bind)(hk:∀t∈k,GM t):PE (F8 env hd arg bind k i):=by
 intro b hm;unfold F8 at hm;split at hm
 ·rename_i bf;split at hm
  ·rcases Ac.1 hm with hm|hm
   ·rcases Ac.1 hm with hm|hm
    ·exact h b hm
    ·rw [AQ.1 hm];exact hb bf
   ·rw [AQ.1 hm];exact Fj ha
  ·rcases Ac.1 hm with hm|hm
   ·exact h b hm
   ·rw [AQ.1 hm];exact hb bf
 ·split at hm
  ·rcases Ac.1 hm with hm|hm
   ·exact h b hm
   ·rw [AQ.1 hm];exact Fj (OW hk 0)
  ·split at hm
   ·rcases Ac.1 hm with hm|hm
    ·exact h b hm
    ·rw [AQ.1 hm];exact Fj ha
   ·exact h b hm
theorem NL(s:SS)(h:By):GM (BC s h).2.1/\(h.kind=13->ty3 (BC s h).2.2):=by
 unfold BC;split
 ·rename_i e;exact⟨GX _,fun e'=>by omega⟩
 ·split
  ·exact⟨GX _,fun _=>T5 ⟨by decide,by decide⟩ (GX _) (GX _)⟩
  ·rename_i e;exact⟨Jn,fun e'=>absurd e' e⟩
theorem VU(s:SS){env:EY}(he:PE env)(h:By){arg bind:YT}(ha:GM arg){k:List YT}(hk:∀t∈k,GM t):ty3 (DZ s env h arg bind k).2:=by
 have h0:=OW hk 0;have h1:=OW hk 1;unfold DZ;dsimp only;by_cases k2:h.kind=2
 ·rw [AJ k2];exact he.look _
 rw [AC k2];by_cases k3:h.kind=3
 ·rw [AJ k3];exact T5 ⟨by decide,by decide⟩ h0 h1
 rw [AC k3];by_cases k45:h.kind=4\/h.kind=5
 ·rw [AJ k45];dsimp only;split<;>exact Fj (GX _)
 rw [AC k45];by_cases k6:h.kind=6
 ·rw [AJ k6];exact ZCf h0
 rw [AC k6];by_cases k7:h.kind=7
 ·rw [AJ k7];exact Fj (GX _)
 rw [AC k7];by_cases k8:h.kind=8
 ·rw [AJ k8];exact Fj Jn
 rw [AC k8];by_cases k9:h.kind=9
 ·rw [AJ k9];exact Fj Jn
 rw [AC k9];by_cases k10:h.kind=10
 ·rw [AJ k10];exact Fj (GX _)
 rw [AC k10];by_cases k11:h.kind=11
 ·rw [AJ k11];exact T5 ⟨by decide,by decide⟩ ha h0
 rw [AC k11];by_cases k12:h.kind=12
 ·rw [AJ k12];exact Fj h1
 rw [AC k12];by_cases k13:h.kind=13
 ·rw [AJ k13];exact Fj h1
 rw [AC k13];by_cases k14:h.kind=14
 ·rw [AJ k14];exact Fj h1
 rw [AC k14];by_cases k15:h.kind=15
 ·rw [AJ k15];exact Fj (GX _)
 rw [AC k15];by_cases k16:h.kind=16
 ·rw [AJ k16];exact Fj h0
 rw [AC k16];exact Fj Jn
theorem RR(z:Int)(r:SS×YT)(h:ty3 r.2)(hb:(H5 z r).1.bad=false):GM (H5 z r).2:=by
 unfold H5 at hb ⊢;split
 ·exact GX _
 ·rename_i hc;rw [AC hc] at hb;rcases h.2 with h|h
  ·exact h
  ·exact absurd ⟨h.1,h.2,hb⟩ hc
def Zh(t:TT):Prop:=∀s env,PE env->(Fh s env t).1.bad=false->GM (Fh s env t).2.head.ty
theorem Sa{env:EY}(he:PE env){h:By}{arg bind:YT}(ha:GM arg)(hb:h.kind=13->ty3 bind):∀(l:List TT) (s:SS) (acc:List DT),(∀t∈l,Zh t)->(∀t∈acc.map Pt,GM t)->(D4 s env h arg bind acc l).1.bad=false->∀t∈(D4 s env h arg bind acc l).2.map Pt,GM t
 |[],s,acc,_,dh,_=>by rw [MO];exact dh
 |t::l,s,acc,hl,dh,bu=>by
  rw [Kx] at bu ⊢;dsimp only at bu ⊢;split at bu
  ·rename_i e;rw [bu] at e;cases e
  ·rename_i e;rw [AC e];refine Sa he ha hb l _ _ (fun u hu=>hl u (by simp [hu])) (fun u hu=>?_) bu;rw [Ah] at hu;rcases Ac.1 hu with hu|hu
   ·exact dh u hu
   ·rw [AV,Am] at hu;rw [AQ.1 hu];exact hl t (by simp) _ _ (he.inner ha hb dh) (by simpa using e)
theorem Y3(t:TT):Zh t:=by
 refine Ad.ind (P:=Zh) (fun h l ih=>?_) t;intro s env he bu;rw [Jp] at bu ⊢;dsimp only at bu ⊢;obtain⟨s1,s2⟩:=NL s h;split at bu
 ·rename_i e;rw [show s.bad=false from bu] at e;cases e
 ·rename_i e;rw [AC e];split at bu
  ·rename_i e2;rw [show _=false from bu] at e2;cases e2
  ·rename_i e2;rw [AC e2];refine RR _ _ (VU _ he _ s1 (Sa he s1 s2 l _ [] ih (fun t ht=>by cases ht) (by simpa using e2))) bu
theorem E8(h:fn.results=#[.cell p ty,.tmp u,.tmp v])(tmps:Array Value)(P:Program)(w:World)(g:Nat)(cs:Array Value)(hp:tmps.getD p undef=.pointer (some ⟨g,0,none⟩))(hl:(loadVar ty ⟨g,0,none⟩).run P w=.ok (.agg cs) w):(results fn tmps).run P w=.ok (.tuple #[.agg cs,tmps.getD u undef,tmps.getD v undef]) w:=by
 have ek:tmps[p]?.getD undef=.pointer (some ⟨g,0,none⟩):=by simpa using hp
 simp [results,h,ek,asAddr,hl,Do,Result.andThen]
abbrev ZDj:Value:=.agg cZd
theorem ZAO:(prog.info? 48).map (fun i=>(i.zero,i.size,i.bytes))=some (some ZDj,14,176):=by kernel_rfl
theorem JV(a:IC):(Mg a).length=14:=rfl
theorem SL:∀a:IC,∀u∈Mg a,u.oneCell'=true:=by intro a u hu;simp only [Mg,AS,Al,BN] at hu;rcases hu with rfl|rfl|rfl|rfl|rfl|rfl|rfl|rfl|rfl|rfl|rfl|rfl|rfl|rfl<;>rfl
def K4:PD->Bool:=Ad.all (fun h _=>decide (h.ty.size<=100)&&decide (h.bind.size<=100))
theorem O6(a:IC)(l:List PD):K4 (.node a l)=(decide (a.ty.size<=100)&&decide (a.bind.size<=100)&&l.all K4):=Ad.all_node _ a l
def Zm(w:World)(e:Ending)(w':World):Prop:=∃(d:IC) (z:Int) (r:Bool),e=.returned (.tuple #[US d,.int .i64 z,.bool r])/\Below w.heap.size w w'
structure Vw(w:World)(s:PS)(a:IC)(W:World):Prop where
 b0:W.heap[w.heap.size]?=some (.cells (cSa s) 96 (0,0))
 b1:W.heap[w.heap.size+1]?=some (.cells (cDa a) 48 (0,0))
 b2:∃cs:Array Value,cs.size=14/\W.heap[w.heap.size+1+1]?=some (.cells cs 48 (0,0))
 below:Below w.heap.size w W
theorem Vw.size(h:Vw w s a W):w.heap.size+3<=W.heap.size:=by obtain⟨cs,_,e⟩:=h.b2;have:=Ab e;omega
theorem Vw.step(h:Vw w s a W)(hb:Below W.heap.size W W'):Vw w s a W':=by obtain⟨cs,hc,e⟩:=h.b2;exact⟨(hb.block _ (Ab h.b0)).trans h.b0,(hb.block _ (Ab h.b1)).trans h.b1,⟨cs,hc,(hb.block _ (Ab e)).trans e⟩,h.below.trans (hb.mono h.below.size)⟩
theorem Vw.grown(h:Vw w s a W)(hg:W.grownBy W' r)(hr:∀g,r=some g->w.heap.size+3<=g):Vw w s a W':=by
 obtain⟨cs,hc,e⟩:=h.b2;have aM:∀k,k<w.heap.size+3->some k≠r:=fun k hk e=>by have:=hr k e.symm;omega
 exact⟨(hg.block _ (Ab h.b0) (aM _ (by omega))).trans h.b0,(hg.block _ (Ab h.b1) (aM _ (by omega))).trans h.b1,⟨cs,hc,(hg.block _ (Ab e) (aM _ (by omega))).trans e⟩,h.below.grown hg h.below.size (fun k e=>by have:=hr k e;omega)⟩
theorem ZCd(w:World)(s:PS)(a:IC):Vw w s a (((w.alloc (.cells (cSa s) 96)).alloc (.cells (cDa a) 48)).alloc (.cells cZd 48)):=by obtain⟨g1,g2⟩:=Et w (cSa s) (cDa a) 96 48;have h3:=AG ((w.alloc (.cells (cSa s) 96)).alloc (.cells (cDa a) 48)) (.cells cZd 48);rw [AN,AN] at h3;have old:∀(V:World) (o:Obj) (k:Nat) (c:Obj),V.heap[k]?=some c->(V.alloc o).heap[k]?=some c:=fun V o k c h=>(AP V o k (Ab h)).trans h;exact⟨old _ _ _ _ g1,old _ _ _ _ g2,⟨_,rfl,h3⟩,((bA.alloc (by simp) _).alloc (by simp<;>omega) _)⟩
structure ZQ(w:World)(s:PS)(a:IC)(d:IC)(g9:Nat)(W:World):Prop where
 s:Vw w s a W
 b9:W.heap[g9]?=some (.cells (cDa d) 48 (0,0))
 l9:w.heap.size+3<=g9
theorem ZQ.step{w W W':World}{s:PS}{a d:IC}{g9:Nat}(h:ZQ w s a d g9 W)(hb:Below W.heap.size W W'):ZQ w s a d g9 W':=⟨h.s.step hb,(hb.block _ (Ab h.b9)).trans h.b9,h.l9⟩
theorem ZBT(h:Vw w s a W)(hb:Below W.heap.size W V)(h9:W.heap.size<=g9)(e9:V.heap[g9]?=some (.cells cs 48 (0,0))):ZQ w s a d g9 (V.setRow g9 (cDa d)):=by have hs:=h.size;exact⟨(h.step hb).grown (AU V g9 _) (fun g e=>by injection e with e;omega),AL _ _ _ _ _ _ e9,by omega⟩
theorem ZQ.bind{w W:World}{s:PS}{a d:IC}{g9:Nat}(h:ZQ w s a d g9 W)(y:PY):ZQ w s a ⟨d.hd,d.ty,y,d.kp,d.kn,d.kc⟩ g9 (W.setCells g9 10 (cYl y)):=by have hg:W.grownBy (W.setCells g9 10 (cYl y)) (some g9):=Du _ _ _ _;exact⟨h.s.grown hg (fun g e=>by injection e with e;have:=h.l9;omega),Aw (o:=12) _ (Aw (o:=11) _ (Aw (o:=10) _ h.b9)),h.l9⟩
structure StI(w:World)(s:PS)(a:IC)(d:IC)(g9 k:Nat)(ys:List IC)(W:World):Prop where
 c:ZQ w s a d g9 W
 own:A1 Mg 14 W (g9+1) 48 (.slice d.kp d.kn d.kc) k ys
theorem StI.step(h:StI w s a d g9 k ys W)(hb:Below W.heap.size W W'):StI w s a d g9 k ys W':=⟨h.c.step hb,h.own.below hb⟩
structure StK(w:World)(s:PS)(a d:IC)(g9 G k:Nat)(ys:List IC)(y:IC)(W:World):Prop where
 i:StI w s a d g9 k ys W
 box:W.heap[G]?=some (.cells (cDa y) 48 (0,0))
theorem ZBU(h:StI w s a d g9 k ys wr)(hb:Below wr.heap.size wr Wb)(hG:wr.heap.size<=G)(ac:Wb.heap[G]?=some (.cells cs 48 (0,0))):StK w s a d g9 G k ys y (Wb.setRow G (cDa y)):=⟨h.step (hb.grown (AU _ _ _) hb.size (fun g e=>by injection e with e;omega)),AL _ _ _ _ _ _ ac⟩
theorem StK.next(h:StK w s a d g9 G k ys y W)(ho:A1 Mg 14 w9 (g9+1) 48 (.slice q n c) (k+1) (ys++[y]))(hg:(W.alloc o).grownBy w9 (Value.slice d.kp d.kn d.kc).ownBlock):StI w s a ⟨d.hd,d.ty,d.bind,q,n,c⟩ g9 (k+1) (ys++[y]) (w9.setCell ⟨g9,13,none⟩ (.slice q n c)):=by have h1:=h.i.step ((AA _ _).alloc (AB _) o);have ag:w9.grownBy (w9.setCell ⟨g9,13,none⟩ (.slice q n c)) (some g9):=Ar _ _ _ _;have hl:=fun g e=>(Aa h1.own g e);have jc:=h.i.c.l9;have h9:=(hg.block _ (Ab h1.c.b9) (fun e=>by have:=(hl _ e.symm).1;omega)).trans h1.c.b9;refine⟨⟨(h1.c.s.grown hg (fun g e=>by have:=(hl g e).1;omega)).grown ag (fun g e=>by injection e with e;omega),Aw (o:=13) _ h9,jc⟩,ho.other ag (fun b hb e=>?_)⟩;have:=(Aa ho b hb).1;injection e with e;omega
theorem Vw.res(h:Vw w s a W)(cs:Array Value)(hc:cs.size=14):Vw w s a (W.setRow (w.heap.size+1+1) cs):=by obtain⟨c0,_,e⟩:=h.b2;exact⟨(AR _ _ _ _ (by omega)).trans h.b0,(AR _ _ _ _ (by omega)).trans h.b1,⟨cs,hc,AL _ _ _ _ _ _ e⟩,h.below.grown (AU _ _ _) h.below.size (fun k e=>by injection e with e;omega)⟩
theorem Yt(a:IC)(l:List PD):l.length<(Ad.node a l:PD).size:=by
 rw [Ad.size_node]
 have:∀l:List PD,l.length<=(l.map Ad.size).sum:=by
  intro l;induction l with
  |nil=>simp
  |cons t l ih=>have:=Ad.size_pos t;simp only [Aq,AV,A0];omega
 have:=this l;omega
theorem So{a:IC}{l:List PD}{k:Nat}{x:PD}(hx:l[k]?=some x):x.size<(Ad.node a l:PD).size:=by
 rw [Ad.size_node]
 have:∀(l:List PD) (k:Nat),l[k]?=some x->x.size<=(l.map Ad.size).sum:=by
  intro l;induction l with
  |nil=>intro k h;simp at h
  |cons t l ih=>
   intro k h;cases k with
   |zero=>simp at h;subst h;simp
   |succ k=>have:=ih k (by simpa using h);simp only [AV,A0];omega
 have:=this l k hx;omega
theorem Of(t:PD):∀(U:Nat->Prop) (w0:World) (s:PS),s.b.Lies U w0->Dh s.b.er->LD.lies U w0 t->K4 t=true->t.size<=100000->s.b.ln<=800000->Calls prog 46 #[Lg s,US t.head] w0 (Zm w0):=by
 refine Ad.ind (P:=fun(t:PD)=>∀(U:Nat->Prop) (w0:World) (s:PS),s.b.Lies U w0->Dh s.b.er->LD.lies U w0 t->K4 t=true->t.size<=100000->s.b.ln<=800000->Calls prog 46 #[Lg s,US t.head] w0 (Zm w0)) (fun a l ih=>?_) t;intro U w0 s hb aW hl ca hz hn;have hU:∀g,g<w0.heap.size->U g->(g<w0.heap.size/\U g):=fun g h1 h2=>⟨h1,h2⟩;have HN:=AF (ZCd w0 s a);have eo:=AF (hb.mono hU);have cj:=AF ((FY.lies_node _ _ _ _ _).1 (LD.lies_mono hU _ hl));rw [O6,AK,AK,Ai,Ai,Aj] at ca;have dg:=AF ca;have bP:=AF aW;have dr:=AF ih;have HZ:=AF hz;have bo:=AF hn;have nJ:Hd (∀(y:PY) (V:World),y.size<=100->LY.lies (fun g=>g<w0.heap.size/\U g) w0 y->Below w0.heap.size w0 V->Calls prog 79 #[GA s.b,GL y.head,.int .i64 500] V (P0 V)):=fun y V hy hl hb=>PX (eo.o.keep (BD.of hb)) bP.o (LY.lies_keep (BD.of hb) _ hl) (by have:=bo.o;omega);clear hb hl aW ih hz hn ca hU;show Calls _ _ #[.agg (cSa s),.agg (cDa a)] w0 _;go_enter func46,ntmps46;go_upto_region 1 with fail;generalize ((w0.alloc (.cells (cSa s) 96)).alloc (.cells (cDa a) 48)).alloc (.cells cZd 48)=W at *
 go_upto_region 2 with(first
  |(refine VD (KF HN.o.b0) underlying94 ?_)
  |(refine lmg [.int .u8 a.ty.head.kind,.int .i64 a.ty.head.var,.slice a.ty.head.kp a.ty.head.kn a.ty.head.kc] (KQ HN.o.b1 7 _ (by intro i v h;match i,h with|0,h=>exact h|1,h=>exact h|2,h=>exact h)) underlying45 ?_)
  |(go_at_call 79;refine(nJ.o a.ty _ dg.o.1.1 cj.o.1.2.1 HN.o.below).mono ?_;rintro e w5 ⟨y,n,rfl,hy,nB,hb⟩;have jF:=AF hy;have qN:=AF nB;have d8:=AF (HN.o.step hb);clear hy nB hb)
  |(refine sn #[.int .u8 y.head.kind,.int .i64 y.head.var,.slice y.head.kp y.head.kn y.head.kc] ?_))
 have mg:Below w5.heap.size w5 (w5.alloc (.cells (cYa y) 45)):=bA;have cG:=AF (d8.o.step mg);have mF:=AF (LY.lies_keep (BD.of mg) _ jF.o);have dK:=AF (AG w5 (.cells (cYa y) 45));clear mg d8 jF;obtain⟨g7,dR⟩:∃g7,w5.heap.size=g7:=⟨_,rfl⟩;rw [dR] at dK ⊢;generalize w5.alloc (.cells (cYa y) 45)=W6 at *
 clear dR;by_cases ei:n=0
 ·subst ei;go_upto_region 4 with fail;go_cut [9] from 30 to 34 (fun s9 wx=>∃(g9:Nat) (y2:PY),s9=.pointer (some ⟨g9,0,none⟩)/\ZQ w0 s a ⟨a.hd,y2,Cz 0 0,none,0,0⟩ g9 wx)
  case first=>
   refine rg (fun W'=>Below W6.heap.size W6 W') (At W6) fun aA=>?_;refine tp 0 30 ?_;refine tm 1 31 [.int .u8 a.hd.kind,.int .u8 a.hd.op,.int .i64 a.hd.at_,.int .i64 a.hd.n,.string a.hd.name,.string a.hd.arg,.string a.hd.exn] 23 (w0.heap.size+1) 0 (fun W' aB=>KQ (cG.o.step aB).b1 0 _ (by intro i v h;match i,h with|0,h=>exact h|1,h=>exact h|2,h=>exact h|3,h=>exact h|4,h=>exact h|5,h=>exact h|6,h=>exact h)) underlying23 ?_;refine LV 2 32 (fun W' aB=>BX ((aB.block _ (Ab dK.o)).trans dK.o)) underlying45 ?_;refine A2 (rs:=[3,5]) (by kernel_rfl) (by simp) ?_;refine AY (o:=⟨some 33,_,_,_,_,none⟩) rfl (fun K hK=>?_) (AY (o:=⟨some 9,_,_,_,_,none⟩) rfl (fun K hK=>?_) Az)
   ·skip;go_simp;go_at_call 80;refine(In y _ _ (LY.lies_keep (BD.of aA) _ mF.o) (by have:=qN.o;omega)).mono ?_;rintro e w5 ⟨y2,rfl,hb⟩;have dX:=AF (An aA hb);clear hb;try go_wp2_with fail
    refine tn hK (dX.o) ?_;clear aA hK K;intro aA;refine tp 4 34 ?_;refine tr 5 9 fun K hK=>?_;go_simp;have bq:=AF (AG w5 (.cells cZd 48));refine tn hK (Ay aA _) ?_;clear aA hK K;intro aA;refine Fo 6 fun K hK=>?_;have HF:Hd (ZQ w0 s a ⟨a.hd,y2,Cz 0 0,none,0,0⟩ w5.heap.size ((w5.alloc (.cells cZd 48)).setRow w5.heap.size #[.int .u8 a.hd.kind,.int .u8 a.hd.op,.int .i64 a.hd.at_,.int .i64 a.hd.n,.string a.hd.name,.string a.hd.arg,.string a.hd.exn,.int .u8 y2.head.kind,.int .i64 y2.head.var,.slice y2.head.kp y2.head.kn y2.head.kc,.int .u8 0,.int .i64 0,.slice none 0 0,.slice none 0 0])):=ZBT cG.o aA dX.o.size bq.o;refine Iv (c:=#[.int .u8 a.hd.kind,.int .u8 a.hd.op,.int .i64 a.hd.at_,.int .i64 a.hd.n,.string a.hd.name,.string a.hd.arg,.string a.hd.exn,.int .u8 y2.head.kind,.int .i64 y2.head.var,.slice y2.head.kp y2.head.kn y2.head.kc,.int .u8 0,.int .i64 0,.slice none 0 0,.slice none 0 0]) bq.o ?_;refine tn hK (aA.grown (AU _ _ _) aA.size (fun g e=>by injection e with e;subst e;exact dX.o.size)) ?_;clear aA hK K;intro aA;refine dn ?_;clear aA;generalize (w5.alloc (.cells cZd 48)).setRow w5.heap.size #[.int .u8 a.hd.kind,.int .u8 a.hd.op,.int .i64 a.hd.at_,.int .i64 a.hd.n,.string a.hd.name,.string a.hd.arg,.string a.hd.exn,.int .u8 y2.head.kind,.int .i64 y2.head.var,.slice y2.head.kp y2.head.kn y2.head.kc,.int .u8 0,.int .i64 0,.slice none 0 0,.slice none 0 0]=W8 at *
    go_wp2_with fail;go_meet;exact⟨_,_,rfl,HF.o⟩
   ·skip;go_simp;have bq:Hd ((W6.drew.alloc (.cells cZd 48)).heap[W6.heap.size]?=some (.cells cZd 48)):=AG W6.drew (.cells cZd 48);refine tn hK (Ay aA _) ?_;clear aA hK K;intro aA;refine tr 3 33 fun K hK=>?_;go_simp;go_at_call 80;refine(In y _ _ (LY.lies_keep (BD.of aA) _ mF.o) (by have:=qN.o;omega)).mono ?_;rintro e w5 ⟨y2,rfl,hb⟩;have bq:=AF ((hb.block _ (Ab bq.o)).trans bq.o);have dX:=AF (An aA hb);clear hb;try go_wp2_with fail
    refine tn hK (dX.o) ?_;clear aA hK K;intro aA;refine tp 4 34 ?_;refine Fo 6 fun K hK=>?_;have HF:Hd (ZQ w0 s a ⟨a.hd,y2,Cz 0 0,none,0,0⟩ W6.heap.size (w5.setRow W6.heap.size #[.int .u8 a.hd.kind,.int .u8 a.hd.op,.int .i64 a.hd.at_,.int .i64 a.hd.n,.string a.hd.name,.string a.hd.arg,.string a.hd.exn,.int .u8 y2.head.kind,.int .i64 y2.head.var,.slice y2.head.kp y2.head.kn y2.head.kc,.int .u8 0,.int .i64 0,.slice none 0 0,.slice none 0 0])):=ZBT cG.o aA (AB _) bq.o;refine Iv (c:=#[.int .u8 a.hd.kind,.int .u8 a.hd.op,.int .i64 a.hd.at_,.int .i64 a.hd.n,.string a.hd.name,.string a.hd.arg,.string a.hd.exn,.int .u8 y2.head.kind,.int .i64 y2.head.var,.slice y2.head.kp y2.head.kn y2.head.kc,.int .u8 0,.int .i64 0,.slice none 0 0,.slice none 0 0]) bq.o ?_;refine tn hK (aA.grown (AU _ _ _) aA.size (fun g e=>by injection e with e;subst e;exact(AB _))) ?_;clear aA hK K;intro aA;refine dn ?_;clear aA;generalize w5.setRow W6.heap.size #[.int .u8 a.hd.kind,.int .u8 a.hd.op,.int .i64 a.hd.at_,.int .i64 a.hd.n,.string a.hd.name,.string a.hd.arg,.string a.hd.exn,.int .u8 y2.head.kind,.int .i64 y2.head.var,.slice y2.head.kp y2.head.kn y2.head.kc,.int .u8 0,.int .i64 0,.slice none 0 0,.slice none 0 0]=W8 at *
    go_wp2_with fail;go_meet;exact⟨_,_,rfl,HF.o⟩
  case rest=>
   obtain⟨g9,y2,rfl,hc⟩:=hcut;have HC:=AF hc;clear hc cG dK mF;have k0:wc.cell? ⟨w0.heap.size+1,0,none⟩=some (.int .u8 a.hd.kind):=by rw [AD HC.o.s.b1];rfl
   obtain⟨b13,r9⟩:∃b13,(a.hd.kind==13)=b13:=⟨_,rfl⟩;go_upto_if 38 with fail;clear k0 r9;go_cut [] from 39 to 55 (fun wx=>∃(d:IC),d.kp=none/\d.kn=0/\d.kc=0/\ZQ w0 s a d g9 wx)
   case first=>
    cases b13
    ·go_wp2_with fail;go_meet;exact⟨_,rfl,rfl,rfl,HC.o⟩
    ·go_upto_region 6 with fail
     go_upto_region 7 with(first
      |(refine VD (KF HC.o.s.b0) underlying94 ?_)
      |(refine lmg [.int .u8 a.bind.head.kind,.int .i64 a.bind.head.var,.slice a.bind.head.kp a.bind.head.kn a.bind.head.kc] (KQ HC.o.s.b1 10 _ (by intro i v h;match i,h with|0,h=>exact h|1,h=>exact h|2,h=>exact h)) underlying45 ?_)
      |(go_at_call 79;refine(nJ.o a.bind _ dg.o.1.2 cj.o.1.2.2 HC.o.s.below).mono ?_;rintro e w5 ⟨y,n,rfl,hy,nB,hb⟩;have jF:=AF hy;have qN:=AF nB;have d8:=AF (HC.o.step hb);clear hy nB hb)
      |(refine sn #[.int .u8 y.head.kind,.int .i64 y.head.var,.slice y.head.kp y.head.kn y.head.kc] ?_))
     have mg:Below w5.heap.size w5 (w5.alloc (.cells (cYa y) 45)):=bA;have cG:=AF (d8.o.step mg);have mF:=AF (LY.lies_keep (BD.of mg) _ jF.o);have dK:=AF (AG w5 (.cells (cYa y) 45));clear mg d8 jF;obtain⟨g7,dR⟩:∃g7,w5.heap.size=g7:=⟨_,rfl⟩;rw [dR] at dK ⊢;generalize w5.alloc (.cells (cYa y) 45)=W6 at *
     clear dR;by_cases ei:n=0
     ·subst ei;go_upto_region 9 with fail
      go_wp2_with (first
       |(refine lw dK.o underlying45 ?_)
       |(go_at_call 80;refine(In y _ _ mF.o (by have:=qN.o;omega)).mono ?_;rintro e w7 ⟨y3,rfl,hb⟩;have tG:=AF (cG.o.step hb);clear hb)
       |(refine UC (RL tG.o.b9 10 3 (by simp)) ?_))
      go_meet;exact⟨_,rfl,rfl,rfl,tG.o.bind y3⟩
     ·have bn:(n != 0)=true:=by rw [DD];exact ei
      clear ei;go_upto_region 8 with fail;refine Ch (S:=Vw w0 s a) (by kernel_rfl) ?_ (fun aA=>?_)
      ·exact cG.o.s.step (At W6)
      refine LV 0 49 (fun W' aB=>BX aB.b1) underlying48 ?_;refine tp 1 50 ?_;refine tp 2 51 ?_;refine tp 3 52 ?_ (hy:=fun w aB=>by(try dsimp only at aB);have c2:w.cell? ⟨w0.heap.size+1,2,none⟩=some (.int .i64 a.hd.at_):=(by rw [AD aB.b1];rfl);go_simp;try with_reducible rfl);refine Fo 4 fun K hK=>?_;obtain⟨cs2,cT,aU⟩:=aA.b2;have aF:=AF aU;clear aU;refine Iv aF.o ?_ (hold:=by exact cT);refine tn hK (aA.res _ rfl) ?_;clear aA hK K;intro aA;refine tp 5 5 ?_;refine tp 6 6 ?_;refine dn ?_;clear aA;go_wp2_with fail;refine Ag (E8 rfl _ _ _ _ _ rfl (Ae _ _ _ _ _ _ _ (AL _ _ _ _ _ _ aF.o) underlying48 rfl (by kernel_rfl))) rfl ?_;exact⟨a,_,_,rfl,((cG.o.s.step (At W6)).res (cDa a) rfl).below⟩
   case rest=>
    obtain⟨d0,sG,sH,sI,hc⟩:=hcut;have eQ:Hd (StI w0 s a d0 g9 0 [] wc):=⟨hc,by rw [sG,sH,sI];exact A1.nil _ _ _ _ _⟩;have xf:=AF sG;have xg:=AF sH;have xh:=AF sI;clear hc HC sG sH sI;have fL:=cj.o.2.1.is.max;have c13:wc.cell? ⟨w0.heap.size+1,13,none⟩=some (.slice a.kp a.kn a.kc):=by rw [AD eQ.o.c.s.b1];rfl
    go_upto_region 11 with fail;clear c13;go_loopw [59] (fun i wr=>∃(k:Nat) (d:IC) (ys:List IC),k<=a.kn/\i=.int .i64 k/\StI w0 s a d g9 k ys wr) (fun i _=>a.kn-(intOf i).toNat)
    case atStart=>exact⟨0,d0,[],BM _,rfl,eQ.o⟩
    case round=>
     obtain⟨k,d,ys,hk,rfl,hi⟩:=hrel;have HI:=AF hi;clear hi;by_cases aG:k<a.kn
     ·obtain⟨x,hx⟩:=cj.o.2.1.at (j:=k) aG;obtain⟨g,o,hp,bN,am⟩:=(cj.o.2.1.keep (BD.of HI.o.c.s.below)).elem hx;have hp:a.kp=some ⟨g,o,none⟩:=hp;have HX:=AF hx;have fS:=AF (cj.o.2.2 x (AE hx));have HP:=AF hp;have fx:Hd (∀V,Below wr.heap.size wr V->V.rangeAt g (o+k * 14) (cDl x.head)):=fun V hb i u hu=>by rw [hb.cell (show g<wr.heap.size from bN)];exact am i u hu
      have jv:Hd (∀V,Below wr.heap.size wr V->V.cell? ⟨w0.heap.size+1,13,none⟩=some (.slice (some ⟨g,o,none⟩) a.kn a.kc)):=fun V hb=>by rw [AD (HI.o.step hb).c.s.b1,<-HP.o];rfl
      have lK:k<=100000:=by have h1:=HZ.o;have h2:l.length=a.kn:=cj.o.2.1.is.len;have h3:=Yt a l;omega
      clear hx hp bN am;go_upto_region 13 with fail;refine rg (fun W'=>Below wr.heap.size wr W') (At wr) fun aA=>?_;refine LV 0 63 (fun W' aB=>BX (HI.o.step aB).c.s.b0) underlying96 ?_;refine tp 1 64 ?_;refine tp 2 65 ?_ (hy:=fun w aB=>by(try dsimp only at aB);have c1:=jv.o w aB;go_simp;try with_reducible rfl);refine tp 3 66 ?_;refine tp 4 67 ?_;refine LV 5 68 (fun W' aB=>fx.o W' aB) underlying48 ?_;refine A2 (rs:=[6,11]) (by kernel_rfl) (by simp) ?_;refine AY (o:=⟨some 69,_,_,_,_,none⟩) rfl (fun K hK=>?_) (AY (o:=⟨some 13,_,_,_,_,none⟩) rfl (fun K hK=>?_) Az)
      ·skip;go_simp;go_at_call 46;refine(dr.o x (AE HX.o) _ _ s (eo.o.keep (BD.of (HI.o.step aA).c.s.below)) bP.o (LD.lies_keep (BD.of (HI.o.step aA).c.s.below) _ fS.o) (dg.o.2 x (AE HX.o)) (by have h1:=HZ.o;have h2:=So (a:=a) HX.o;omega) bo.o).mono ?_;rintro e w5 ⟨y,z,r,rfl,hb⟩;have dX:=AF (An aA hb);clear hb;try go_wp2_with fail
       refine tn hK (dX.o) ?_;clear aA hK K;intro aA;refine tp 7 62 ?_;refine tp 8 70 ?_;refine tp 9 71 ?_;refine tp 10 72 ?_;refine tr 11 13 fun K hK=>?_;go_simp;have bq:=AF (AG w5 (.cells cZd 48));refine tn hK (Ay aA _) ?_;clear aA hK K;intro aA;refine Fo 12 fun K hK=>?_;have HR:=AF (ZBU (y:=y) HI.o aA dX.o.size bq.o);refine Iv bq.o ?_;refine tn hK (aA.grown (AU _ _ _) aA.size (fun g e=>by injection e with e;subst e;exact dX.o.size)) ?_;clear aA hK K;intro aA;refine tp 13 14 ?_;refine tp 14 15 ?_;refine dn ?_;clear aA;generalize fT:w5.heap.size=G8 at *
       generalize (w5.alloc (.cells cZd 48)).setRow G8 (cDa y)=W8 at *
       clear fT dX bq;cases r
       ·obtain⟨cs2,cT,aU⟩:=HR.o.i.c.s.b2;have aF:=AF aU;clear aU;go_upto_region 15 with fail
        go_wp2_with (first
         |(refine lw HR.o.i.c.s.b1 underlying48 ?_)
         |(refine Ap rfl 48 _ _ rfl (w0.heap.size+1+1) #[.int .u8 a.hd.kind,.int .u8 a.hd.op,.int .i64 a.hd.at_,.int .i64 a.hd.n,.string a.hd.name,.string a.hd.arg,.string a.hd.exn,.int .u8 a.ty.head.kind,.int .i64 a.ty.head.var,.slice a.ty.head.kp a.ty.head.kn a.ty.head.kc,.int .u8 a.bind.head.kind,.int .i64 a.bind.head.var,.slice a.bind.head.kp a.bind.head.kn a.bind.head.kc,.slice a.kp a.kn a.kc] rfl rfl 48 _ aF.o (by kernel_rfl) cT (by simp [Value.oneCell']) ?_))
        refine Ag (E8 rfl _ _ _ _ _ rfl (Ae _ _ _ _ _ _ _ (AL _ _ _ _ _ _ aF.o) underlying48 rfl (by kernel_rfl))) rfl ?_;exact⟨a,_,_,rfl,(HR.o.i.c.s.res (cDa a) rfl).below⟩
       ·go_upto_region 16 with fail;have bi:Below W8.heap.size W8 (W8.alloc (.cells (cDa y) 48)):=bA;have ip:=AF (Bo JV (by omega) W8 48 [y] 1 (cDa y) rfl rfl (by decide));have fu:=AF (Cm HR.o.i.own (.cells (cDa y) 48));have fD:=AF (HR.o.i.step bi);have iI:Hd (g9+1<=(W8.alloc (.cells (cDa y) 48)).heap.size):=Ab fD.o.c.b9;have c1:W8.cell? ⟨g9,13,none⟩=some (.slice d.kp d.kn d.kc):=by rw [AD HR.o.i.c.b9];rfl
        clear bi
        go_wp2_with (first
         |(refine lw HR.o.box underlying48 ?_)
         |(at_builtin;refine DS rfl _ _ 46 rfl (g9+1) 48 _ 14 176 underlying46 ZAO rfl (by decide) Mg JV SL [y] ys k _ fu.o _ 1 _ rfl rfl rfl (by intro h;cases h) ip.o.row (by omega) (by omega) iI.o ?_;intro v10 w10 aT bD cZ;obtain⟨q10,c10,dm,_⟩:=A1.isRow JV (by omega) aT;subst dm;have ff:=AF (HR.o.next aT bD);have cP:=(bD.block _ (Ab fD.o.c.b9) (fun e=>by have:=(Aa fD.o.own _ e.symm).1;omega)).trans fD.o.c.b9;have c1:w10.cell? ⟨g9,13,none⟩=some (.slice d.kp d.kn d.kc):=(by rw [AD cP];rfl);have dP:w10.frozen? ⟨g9,13,none⟩=false:=(by simp [World.frozen?,cP]);clear aT bD cZ cP))
        generalize w10.setCell ⟨g9,13,none⟩ (.slice q10 (k+1) c10)=W9 at *
        go_roundw
        case rel=>exact⟨k+1,_,_,by omega,by go_num,ff.o⟩
        case measure=>simp [intOf];omega
      ·skip;go_simp;have bq:Hd ((wr.drew.alloc (.cells cZd 48)).heap[wr.heap.size]?=some (.cells cZd 48)):=AG wr.drew (.cells cZd 48);refine tn hK (Ay aA _) ?_;clear aA hK K;intro aA;refine tr 6 69 fun K hK=>?_;go_simp;go_at_call 46;refine(dr.o x (AE HX.o) _ _ s (eo.o.keep (BD.of (HI.o.step aA).c.s.below)) bP.o (LD.lies_keep (BD.of (HI.o.step aA).c.s.below) _ fS.o) (dg.o.2 x (AE HX.o)) (by have h1:=HZ.o;have h2:=So (a:=a) HX.o;omega) bo.o).mono ?_;rintro e w5 ⟨y,z,r,rfl,hb⟩;have bq:=AF ((hb.block _ (Ab bq.o)).trans bq.o);have dX:=AF (An aA hb);clear hb;try go_wp2_with fail
       refine tn hK (dX.o) ?_;clear aA hK K;intro aA;refine tp 7 62 ?_;refine tp 8 70 ?_;refine tp 9 71 ?_;refine tp 10 72 ?_;refine Fo 12 fun K hK=>?_;have HR:=AF (ZBU (y:=y) HI.o aA (AB _) bq.o);refine Iv bq.o ?_;refine tn hK (aA.grown (AU _ _ _) aA.size (fun g e=>by injection e with e;subst e;exact(AB _))) ?_;clear aA hK K;intro aA;refine tp 13 14 ?_;refine tp 14 15 ?_;refine dn ?_;clear aA;generalize fT:wr.heap.size=G8 at *
       generalize w5.setRow G8 (cDa y)=W8 at *
       clear fT dX bq;cases r
       ·obtain⟨cs2,cT,aU⟩:=HR.o.i.c.s.b2;have aF:=AF aU;clear aU;go_upto_region 15 with fail
        go_wp2_with (first
         |(refine lw HR.o.i.c.s.b1 underlying48 ?_)
         |(refine Ap rfl 48 _ _ rfl (w0.heap.size+1+1) #[.int .u8 a.hd.kind,.int .u8 a.hd.op,.int .i64 a.hd.at_,.int .i64 a.hd.n,.string a.hd.name,.string a.hd.arg,.string a.hd.exn,.int .u8 a.ty.head.kind,.int .i64 a.ty.head.var,.slice a.ty.head.kp a.ty.head.kn a.ty.head.kc,.int .u8 a.bind.head.kind,.int .i64 a.bind.head.var,.slice a.bind.head.kp a.bind.head.kn a.bind.head.kc,.slice a.kp a.kn a.kc] rfl rfl 48 _ aF.o (by kernel_rfl) cT (by simp [Value.oneCell']) ?_))
        refine Ag (E8 rfl _ _ _ _ _ rfl (Ae _ _ _ _ _ _ _ (AL _ _ _ _ _ _ aF.o) underlying48 rfl (by kernel_rfl))) rfl ?_;exact⟨a,_,_,rfl,(HR.o.i.c.s.res (cDa a) rfl).below⟩
       ·go_upto_region 16 with fail;have bi:Below W8.heap.size W8 (W8.alloc (.cells (cDa y) 48)):=bA;have ip:=AF (Bo JV (by omega) W8 48 [y] 1 (cDa y) rfl rfl (by decide));have fu:=AF (Cm HR.o.i.own (.cells (cDa y) 48));have fD:=AF (HR.o.i.step bi);have iI:Hd (g9+1<=(W8.alloc (.cells (cDa y) 48)).heap.size):=Ab fD.o.c.b9;have c1:W8.cell? ⟨g9,13,none⟩=some (.slice d.kp d.kn d.kc):=by rw [AD HR.o.i.c.b9];rfl
        clear bi
        go_wp2_with (first
         |(refine lw HR.o.box underlying48 ?_)
         |(at_builtin;refine DS rfl _ _ 46 rfl (g9+1) 48 _ 14 176 underlying46 ZAO rfl (by decide) Mg JV SL [y] ys k _ fu.o _ 1 _ rfl rfl rfl (by intro h;cases h) ip.o.row (by omega) (by omega) iI.o ?_;intro v10 w10 aT bD cZ;obtain⟨q10,c10,dm,_⟩:=A1.isRow JV (by omega) aT;subst dm;have ff:=AF (HR.o.next aT bD);have cP:=(bD.block _ (Ab fD.o.c.b9) (fun e=>by have:=(Aa fD.o.own _ e.symm).1;omega)).trans fD.o.c.b9;have c1:w10.cell? ⟨g9,13,none⟩=some (.slice d.kp d.kn d.kc):=(by rw [AD cP];rfl);have dP:w10.frozen? ⟨g9,13,none⟩=false:=(by simp [World.frozen?,cP]);clear aT bD cZ cP))
        generalize w10.setCell ⟨g9,13,none⟩ (.slice q10 (k+1) c10)=W9 at *
        go_roundw
        case rel=>exact⟨k+1,_,_,by omega,by go_num,ff.o⟩
        case measure=>simp [intOf];omega
     ·have ai:k=a.kn:=by omega
      have dJ:=AF ai;clear ai;go_upto_region 18 with fail;obtain⟨cs2,cT,aU⟩:=HI.o.c.s.b2;have aF:=AF aU;clear aU
      go_wp2_with (first
       |(refine lw HI.o.c.b9 underlying48 ?_)
       |(refine Ap rfl 48 _ _ rfl (w0.heap.size+1+1) #[.int .u8 d.hd.kind,.int .u8 d.hd.op,.int .i64 d.hd.at_,.int .i64 d.hd.n,.string d.hd.name,.string d.hd.arg,.string d.hd.exn,.int .u8 d.ty.head.kind,.int .i64 d.ty.head.var,.slice d.ty.head.kp d.ty.head.kn d.ty.head.kc,.int .u8 d.bind.head.kind,.int .i64 d.bind.head.var,.slice d.bind.head.kp d.bind.head.kn d.bind.head.kc,.slice d.kp d.kn d.kc] rfl rfl 48 _ aF.o (by kernel_rfl) cT (by simp [Value.oneCell']) ?_))
      refine Ag (E8 rfl _ _ _ _ _ rfl (Ae _ _ _ _ _ _ _ (AL _ _ _ _ _ _ aF.o) underlying48 rfl (by kernel_rfl))) rfl ?_;exact⟨d,_,_,rfl,(HI.o.c.s.res (cDa d) rfl).below⟩
 ·have bn:(n != 0)=true:=by rw [DD];exact ei
  clear ei;go_upto_region 3 with fail;refine Ch (S:=Vw w0 s a) (by kernel_rfl) ?_ (fun aA=>?_)
  ·exact cG.o.step (At W6)
  refine LV 0 26 (fun W' aB=>BX aB.b1) underlying48 ?_;refine tp 1 27 ?_;refine tp 2 28 ?_;refine tp 3 29 ?_ (hy:=fun w aB=>by(try dsimp only at aB);have c2:w.cell? ⟨w0.heap.size+1,2,none⟩=some (.int .i64 a.hd.at_):=(by rw [AD aB.b1];rfl);go_simp;try with_reducible rfl);refine Fo 4 fun K hK=>?_;obtain⟨cs2,cT,aU⟩:=aA.b2;have aF:=AF aU;clear aU;refine Iv aF.o ?_ (hold:=by exact cT);refine tn hK (aA.res _ rfl) ?_;clear aA hK K;intro aA;refine tp 5 5 ?_;refine tp 6 6 ?_;refine dn ?_;clear aA;go_wp2_with fail;refine Ag (E8 rfl _ _ _ _ _ rfl (Ae _ _ _ _ _ _ _ (AL _ _ _ _ _ _ aF.o) underlying48 rfl (by kernel_rfl))) rfl ?_;exact⟨a,_,_,rfl,((cG.o.step (At W6)).res (cDa a) rfl).below⟩
def NB(U:Nat->Prop)(w:World)(X:Nat->Prop):Nat->Prop:=fun g=>(g<w.heap.size->U g)/\¬X g
theorem NB.come(hX:∀g,X g->g<W.heap.size)(hs:w.heap.size<=W.heap.size):∀g,Ge (NB U w X) W g->NB U w X g:=fun g h=>by
 by_cases hg:g<W.heap.size
 ·exact h hg
 ·exact⟨fun e=>by omega,fun e=>hg (hX g e)⟩
theorem NB.more{U X X':Nat->Prop}{w W:World}(h:∀g,X' g->X g\/W.heap.size<=g):∀g,g<W.heap.size->NB U w X g->NB U w X' g:=fun g hg hn=>⟨hn.1,fun e=>(h g e).elim hn.2 (fun e=>by omega)⟩
theorem BD.box(h:X g)(hg:W.grownBy W' (some g)):BD (NB U w X) W W':=BD.grown hg (fun b e hn=>by injection e with e;subst e;exact hn.2 h)
structure Sk(T:Nat->Prop)(W:World)(s:PS)(S:SS)(L V:Nat):Prop where
 er:s.er=S
 lies:s.b.Lies T W
 ok:Dh s.er.b
 ln:s.b.ln<=L
 vn:s.b.vn<=V
theorem Sk.keep(h:Sk T W s S L V)(hk:BD T W W'):Sk T W' s S L V:=⟨h.er,h.lies.keep hk,h.ok,h.ln,h.vn⟩
theorem Sk.mono(h:Sk T W s S L V)(hT:∀g,g<W.heap.size->T g->T' g)(hL:L<=L')(hV:V<=V'):Sk T' W s S L' V':=⟨h.er,h.lies.mono hT,h.ok,AM h.ln hL,AM h.vn hV⟩
structure NW(w:World)(s:PS)(a:Ma)(d:IC)(W:World):Prop where
 b0:W.heap[w.heap.size]?=some (.cells (cSa s) 96 (0,0))
 b1:W.heap[w.heap.size+1]?=some (.cells (cTa a) 53 (0,0))
 b2:∃cs:Array Value,cs.size=4/\W.heap[w.heap.size+1+1]?=some (.cells cs 96 (0,0))
 b3:∃cs:Array Value,cs.size=14/\W.heap[w.heap.size+1+1+1]?=some (.cells cs 48 (0,0))
 b8:W.heap[w.heap.size+1+1+1+1]?=some (.cells (cDa d) 48 (0,0))
 below:Below w.heap.size w W
section
variable {w W W':World} {s:PS} {a:Ma} {d:IC}
theorem NW.size(h:NW w s a d W):w.heap.size+5<=W.heap.size:=by have:=Ab h.b8;omega
theorem NW.step(h:NW w s a d W)(hb:Below W.heap.size W W'):NW w s a d W':=by obtain⟨c2,h2,e2⟩:=h.b2;obtain⟨c3,h3,e3⟩:=h.b3;exact⟨(hb.block _ (Ab h.b0)).trans h.b0,(hb.block _ (Ab h.b1)).trans h.b1,⟨c2,h2,(hb.block _ (Ab e2)).trans e2⟩,⟨c3,h3,(hb.block _ (Ab e3)).trans e3⟩,(hb.block _ (Ab h.b8)).trans h.b8,h.below.trans (hb.mono h.below.size)⟩
theorem NW.grown(h:NW w s a d W)(hg:W.grownBy W' (some g))(hr:w.heap.size+5<=g):NW w s a d W':=by
 obtain⟨c2,h2,e2⟩:=h.b2;obtain⟨c3,h3,e3⟩:=h.b3;have aM:∀k,k<w.heap.size+5->some k≠some g:=fun k hk e=>by injection e with e;omega
 exact⟨(hg.block _ (Ab h.b0) (aM _ (by omega))).trans h.b0,(hg.block _ (Ab h.b1) (aM _ (by omega))).trans h.b1,⟨c2,h2,(hg.block _ (Ab e2) (aM _ (by omega))).trans e2⟩,⟨c3,h3,(hg.block _ (Ab e3) (aM _ (by omega))).trans e3⟩,
  (hg.block _ (Ab h.b8) (aM _ (by omega))).trans h.b8,h.below.grown hg h.below.size (fun k e=>by injection e with e;omega)⟩
theorem NW.own(h:NW w s a d W)(hg:W.grownBy W' r)(hr:∀g,r=some g->w.heap.size+5<=g):NW w s a d W':=by
 cases r with
 |none=>exact h.step ⟨hg.os,hg.tape,hg.output,hg.size,fun k hk=>hg.block k hk (fun e=>by cases e)⟩
 |some g=>exact h.grown hg (hr g rfl)
theorem NW.res2(h:NW w s a d W)(cs:Array Value)(hc:cs.size=4):NW w s a d (W.setRow (w.heap.size+1+1) cs):=by obtain⟨c2,h2,e2⟩:=h.b2;obtain⟨c3,h3,e3⟩:=h.b3;exact⟨(AR _ _ _ _ (by omega)).trans h.b0,(AR _ _ _ _ (by omega)).trans h.b1,⟨cs,hc,AL _ _ _ _ _ _ e2⟩,⟨c3,h3,(AR _ _ _ _ (by omega)).trans e3⟩,(AR _ _ _ _ (by omega)).trans h.b8,h.below.grown (AU _ _ _) h.below.size (fun k e=>by injection e with e;omega)⟩
theorem NW.res3(h:NW w s a d W)(cs:Array Value)(hc:cs.size=14):NW w s a d (W.setRow (w.heap.size+1+1+1) cs):=by obtain⟨c2,h2,e2⟩:=h.b2;obtain⟨c3,h3,e3⟩:=h.b3;exact⟨(AR _ _ _ _ (by omega)).trans h.b0,(AR _ _ _ _ (by omega)).trans h.b1,⟨c2,h2,(AR _ _ _ _ (by omega)).trans e2⟩,⟨cs,hc,AL _ _ _ _ _ _ e3⟩,(AR _ _ _ _ (by omega)).trans h.b8,h.below.grown (AU _ _ _) h.below.size (fun k e=>by injection e with e;omega)⟩
theorem NW.setS(h:NW w s a d W)(s':PS):NW w s' a d (W.setRow w.heap.size (cSa s')):=by obtain⟨c2,h2,e2⟩:=h.b2;obtain⟨c3,h3,e3⟩:=h.b3;exact⟨AL _ _ _ _ _ _ h.b0,(AR _ _ _ _ (by omega)).trans h.b1,⟨c2,h2,(AR _ _ _ _ (by omega)).trans e2⟩,⟨c3,h3,(AR _ _ _ _ (by omega)).trans e3⟩,(AR _ _ _ _ (by omega)).trans h.b8,h.below.grown (AU _ _ _) h.below.size (fun k e=>by injection e with e;omega)⟩
theorem NW.turn(h:NW w s a d W)(hg:W.grownBy W' (some (w.heap.size+1+1+1+1)))(h8:W'.heap[w.heap.size+1+1+1+1]?=some (.cells (cDa d') 48 (0,0))):NW w s a d' W':=by
 obtain⟨c2,h2,e2⟩:=h.b2;obtain⟨c3,h3,e3⟩:=h.b3;have aM:∀k,k<w.heap.size+1+1+1+1->some k≠some (w.heap.size+1+1+1+1):=fun k hk e=>by injection e with e;omega
 exact⟨(hg.block _ (Ab h.b0) (aM _ (by omega))).trans h.b0,(hg.block _ (Ab h.b1) (aM _ (by omega))).trans h.b1,⟨c2,h2,(hg.block _ (Ab e2) (aM _ (by omega))).trans e2⟩,⟨c3,h3,(hg.block _ (Ab e3) (aM _ (by omega))).trans e3⟩,h8,h.below.grown hg h.below.size (fun k e=>by injection e with e;omega)⟩
theorem ZCB(w:World)(s:PS)(a:Ma):NW w s a ⟨a.hd,Cz 0 0,Cz 0 0,none,0,0⟩ (((((w.alloc (.cells (cSa s) 96)).alloc (.cells (cTa a) 53)).alloc (.cells #[.slice none 0 0,.slice none 0 0,.bool false,.int .i64 0] 96)).alloc (.cells cZd 48)).alloc (.cells #[.int .u8 a.hd.kind,.int .u8 a.hd.op,.int .i64 a.hd.at_,.int .i64 a.hd.n,.string a.hd.name,.string a.hd.arg,.string a.hd.exn,.int .u8 0,.int .i64 0,.slice none 0 0,.int .u8 0,.int .i64 0,.slice none 0 0,.slice none 0 0] 48)):=by obtain⟨g1,g2⟩:=Et w (cSa s) (cTa a) 96 53;have h3:=AG ((w.alloc (.cells (cSa s) 96)).alloc (.cells (cTa a) 53)) (.cells #[.slice none 0 0,.slice none 0 0,.bool false,.int .i64 0] 96);rw [AN,AN] at h3;have h4:=AG (((w.alloc (.cells (cSa s) 96)).alloc (.cells (cTa a) 53)).alloc (.cells #[.slice none 0 0,.slice none 0 0,.bool false,.int .i64 0] 96)) (.cells cZd 48);rw [AN,AN,AN] at h4;have h5:=AG ((((w.alloc (.cells (cSa s) 96)).alloc (.cells (cTa a) 53)).alloc (.cells #[.slice none 0 0,.slice none 0 0,.bool false,.int .i64 0] 96)).alloc (.cells cZd 48)) (.cells #[.int .u8 a.hd.kind,.int .u8 a.hd.op,.int .i64 a.hd.at_,.int .i64 a.hd.n,.string a.hd.name,.string a.hd.arg,.string a.hd.exn,.int .u8 0,.int .i64 0,.slice none 0 0,.int .u8 0,.int .i64 0,.slice none 0 0,.slice none 0 0] 48);rw [AN,AN,AN,AN] at h5;have old:∀(V:World) (o:Obj) (k:Nat) (c:Obj),V.heap[k]?=some c->(V.alloc o).heap[k]?=some c:=fun V o k c h=>(AP V o k (Ab h)).trans h;exact⟨old _ _ _ _ (old _ _ _ _ (old _ _ _ _ g1)),old _ _ _ _ (old _ _ _ _ (old _ _ _ _ g2)),⟨_,rfl,old _ _ _ _ (old _ _ _ _ h3)⟩,⟨_,rfl,old _ _ _ _ h4⟩,h5,((((bA.alloc (by simp) _).alloc (by simp<;>omega) _).alloc (by simp<;>omega) _).alloc (by simp<;>omega) _)⟩
end
structure Rc(U:Nat->Prop)(w:World)(g9 k kd:Nat)(ar:PY)(v:Value)(kst:List PY)(ds:List PD)(X:Nat->Prop)(s:PS)(d:IC)(S:SS)(L V:Nat)(W:World):Prop where
 sk:Sk (NB U w X) W s S L V
 lt:∀g,X g->w.heap.size<=g/\g<W.heap.size
 x5:∀g,w.heap.size<=g->g<w.heap.size+5->X g
 x9:X g9
 l9:w.heap.size+5<=g9
 ty:LY.lies (NB U w X) W d.ty
 bind:LY.lies (NB U w X) W d.bind
 arl:LY.lies (NB U w X) W ar
 ks:A1 LY.encT 3 W (g9+1) 45 v k kst
 dk:A1 LD.encT 14 W (g9+1) 48 (.slice d.kp d.kn d.kc) kd ds
 each:∀y∈ds,LD.lies (NB U w X) W y
 xk:∀g,v.ownBlock=some g->X g
 xd:∀g,(Value.slice d.kp d.kn d.kc).ownBlock=some g->X g
 ne:∀g,v.ownBlock=some g->(Value.slice d.kp d.kn d.kc).ownBlock≠some g
section
variable {U:Nat->Prop} {w W W':World} {g9 k kd:Nat} {ar:PY} {v:Value} {kst:List PY} {ds:List PD} {X:Nat->Prop} {s:PS} {d:IC} {S:SS} {L V:Nat}
theorem Rc.keep(h:Rc U w g9 k kd ar v kst ds X s d S L V W)(hk:BD (NB U w X) W W')(ks:A1 LY.encT 3 W' (g9+1) 45 v k kst)(dk:A1 LD.encT 14 W' (g9+1) 48 (.slice d.kp d.kn d.kc) kd ds):Rc U w g9 k kd ar v kst ds X s d S L V W':=⟨h.sk.keep hk,fun g hg=>⟨(h.lt g hg).1,Ak (h.lt g hg).2 hk.size⟩,h.x5,h.x9,h.l9,LY.lies_keep hk _ h.ty,LY.lies_keep hk _ h.bind,LY.lies_keep hk _ h.arl,ks,dk,fun y hy=>LD.lies_keep hk _ (h.each y hy),h.xk,h.xd,h.ne⟩
theorem Rc.step(h:Rc U w g9 k kd ar v kst ds X s d S L V W)(hb:Below W.heap.size W W'):Rc U w g9 k kd ar v kst ds X s d S L V W':=h.keep (BD.of hb) (h.ks.below hb) (h.dk.below hb)
theorem Rc.box(h:Rc U w g9 k kd ar v kst ds X s d S L V W)(hg:W.grownBy W' (some g))(hx:X g)(h1:v.ownBlock≠some g)(h2:(Value.slice d.kp d.kn d.kc).ownBlock≠some g):Rc U w g9 k kd ar v kst ds X s d S L V W':=h.keep (BD.box hx hg) (h.ks.other hg (fun b hb e=>h1 (by rw [hb,e]))) (h.dk.other hg (fun b hb e=>h2 (by rw [hb,e])))
theorem Rc.low(h:Rc U w g9 k kd ar v kst ds X s d S L V W)(hg:W.grownBy W' (some g))(hx:X g)(aG:g<g9+1):Rc U w g9 k kd ar v kst ds X s d S L V W':=h.box hg hx (fun e=>by have:=(Aa h.ks g e).1;omega) (fun e=>by have:=(Aa h.dk g e).1;omega)
theorem Rc.state(h:Rc U w g9 k kd ar v kst ds X s d S L V W)(hs:Sk (NB U w X) W s' S' L' V'):Rc U w g9 k kd ar v kst ds X s' d S' L' V' W:=⟨hs,h.lt,h.x5,h.x9,h.l9,h.ty,h.bind,h.arl,h.ks,h.dk,h.each,h.xk,h.xd,h.ne⟩
theorem Rc.comes(h:Rc U w g9 k kd ar v kst ds X s d S L V W)(hw:w.heap.size<=W.heap.size):∀g,Ge (NB U w X) W g->NB U w X g:=NB.come (fun g hg=>(h.lt g hg).2) hw
theorem Rc.more(h:Rc U w g9 k kd ar v kst ds X s d S L V W)(o:Obj)(hw:w.heap.size<=W.heap.size):Rc U w g9 k kd ar v kst ds (fun g=>X g\/g=W.heap.size) s d S L V (W.alloc o):=by
 have hb:Below W.heap.size W (W.alloc o):=bA;have hm:∀g,g<W.heap.size->NB U w X g->NB U w (fun g=>X g\/g=W.heap.size) g:=NB.more (fun g e=>e.imp id (fun e=>by omega));have hk:BD (NB U w (fun g=>X g\/g=W.heap.size)) W (W.alloc o):=BD.of hb
 exact⟨(h.sk.mono hm (AB _) (AB _)).keep hk,fun g hg=>by
  rw [AN];rcases hg with hg|hg
  ·have:=h.lt g hg;omega
  ·omega,fun g h1 h2=>.inl (h.x5 g h1 h2),.inl h.x9,h.l9,LY.lies_keep hk _ (LY.lies_mono hm _ h.ty),LY.lies_keep hk _ (LY.lies_mono hm _ h.bind),LY.lies_keep hk _ (LY.lies_mono hm _ h.arl),h.ks.below hb,h.dk.below hb,fun y hy=>LD.lies_keep hk _ (LD.lies_mono hm _ (h.each y hy)),fun g e=>.inl (h.xk g e),fun g e=>.inl (h.xd g e),h.ne⟩
end
structure Gz(U:Nat->Prop)(w:World)(a:Ma)(g9 k kd:Nat)(ar:PY)(v:Value)(kst:List PY)(ds:List PD)(X:Nat->Prop)(s:PS)(d:IC)(S:SS)(L V:Nat)(W:World):Prop where
 f:NW w s a d W
 b9:W.heap[g9]?=some (.cells (cYa ar) 45 (0,0))
 m:Rc U w g9 k kd ar v kst ds X s d S L V W
section
variable {U:Nat->Prop} {w W W':World} {a:Ma} {g9 k kd:Nat} {ar:PY} {v:Value} {kst:List PY} {ds:List PD} {X:Nat->Prop} {s:PS} {d:IC} {S:SS} {L V:Nat}
theorem Gz.step(h:Gz U w a g9 k kd ar v kst ds X s d S L V W)(hb:Below W.heap.size W W'):Gz U w a g9 k kd ar v kst ds X s d S L V W':=⟨h.f.step hb,(hb.block _ (Ab h.b9)).trans h.b9,h.m.step hb⟩
theorem Gz.come(h:Gz U w a g9 k kd ar v kst ds X s d S L V W):∀g,Ge (NB U w X) W g->NB U w X g:=h.m.comes h.f.below.size
theorem Gz.setS(h:Gz U w a g9 k kd ar v kst ds X s d S L V W)(hs:Sk (NB U w X) W s' S' L' V'):Gz U w a g9 k kd ar v kst ds X s' d S' L' V' (W.setRow w.heap.size (cSa s')):=by have hg:W.grownBy (W.setRow w.heap.size (cSa s')) (some w.heap.size):=AU _ _ _;have hl:=h.m.l9;exact⟨h.f.setS s',(hg.block _ (Ab h.b9) (fun e=>by injection e with e;omega)).trans h.b9,(h.m.state hs).low hg (h.m.x5 _ (AB _) (by omega)) (by omega)⟩
theorem Gz.set9(h:Gz U w a g9 k kd ar v kst ds X s d S L V W)(hy:LY.lies (NB U w X) W y):Gz U w a g9 k kd y v kst ds X s d S L V (W.setRow g9 (cYa y)):=by have hg:W.grownBy (W.setRow g9 (cYa y)) (some g9):=AU _ _ _;have hl:=h.m.l9;have hm:=h.m.low hg h.m.x9 (by omega);exact⟨h.f.grown hg hl,AL _ _ _ _ _ _ h.b9,⟨hm.sk,hm.lt,hm.x5,hm.x9,hm.l9,hm.ty,hm.bind,LY.lies_keep (BD.box h.m.x9 hg) _ hy,hm.ks,hm.dk,hm.each,hm.xk,hm.xd,hm.ne⟩⟩
theorem Gz.setTy(h:Gz U w a g9 k kd ar v kst ds X s d S L V W)(hy:LY.lies (NB U w X) W y):Gz U w a g9 k kd ar v kst ds X s ⟨d.hd,y,d.bind,d.kp,d.kn,d.kc⟩ S L V (W.setCells (w.heap.size+1+1+1+1) 7 (cYl y)):=by have hg:W.grownBy (W.setCells (w.heap.size+1+1+1+1) 7 (cYl y)) (some (w.heap.size+1+1+1+1)):=Du _ _ _ _;have hl:=h.m.l9;have hx:=h.m.x5 (w.heap.size+1+1+1+1) (by omega) (by omega);have hm:=h.m.low hg hx (by omega);exact⟨h.f.turn hg (Aw (o:=9) _ (Aw (o:=8) _ (Aw (o:=7) _ h.f.b8))),(hg.block _ (Ab h.b9) (fun e=>by injection e with e;omega)).trans h.b9,⟨hm.sk,hm.lt,hm.x5,hm.x9,hm.l9,LY.lies_keep (BD.box hx hg) _ hy,hm.bind,hm.arl,hm.ks,hm.dk,hm.each,hm.xk,hm.xd,hm.ne⟩⟩
theorem Gz.setBind(h:Gz U w a g9 k kd ar v kst ds X s d S L V W)(hy:LY.lies (NB U w X) W y):Gz U w a g9 k kd ar v kst ds X s ⟨d.hd,d.ty,y,d.kp,d.kn,d.kc⟩ S L V (W.setCells (w.heap.size+1+1+1+1) 10 (cYl y)):=by have hg:W.grownBy (W.setCells (w.heap.size+1+1+1+1) 10 (cYl y)) (some (w.heap.size+1+1+1+1)):=Du _ _ _ _;have hl:=h.m.l9;have hx:=h.m.x5 (w.heap.size+1+1+1+1) (by omega) (by omega);have hm:=h.m.low hg hx (by omega);exact⟨h.f.turn hg (Aw (o:=12) _ (Aw (o:=11) _ (Aw (o:=10) _ h.f.b8))),(hg.block _ (Ab h.b9) (fun e=>by injection e with e;omega)).trans h.b9,⟨hm.sk,hm.lt,hm.x5,hm.x9,hm.l9,hm.ty,LY.lies_keep (BD.box hx hg) _ hy,hm.arl,hm.ks,hm.dk,hm.each,hm.xk,hm.xd,hm.ne⟩⟩
theorem Gz.more(h:Gz U w a g9 k kd ar v kst ds X s d S L V W)(o:Obj):Gz U w a g9 k kd ar v kst ds (fun g=>X g\/g=W.heap.size) s d S L V (W.alloc o):=by have hb:Below W.heap.size W (W.alloc o):=bA;exact⟨h.f.step hb,(hb.block _ (Ab h.b9)).trans h.b9,h.m.more o h.f.below.size⟩
theorem Gz.setBox(h:Gz U w a g9 k kd ar v kst ds X s d S L V W)(hx:X g)(hl:g9<g)(h1:v.ownBlock≠some g)(h2:(Value.slice d.kp d.kn d.kc).ownBlock≠some g):Gz U w a g9 k kd ar v kst ds X s d S L V (W.setRow g cs):=by have hg:W.grownBy (W.setRow g cs) (some g):=AU _ _ _;have jc:=h.m.l9;exact⟨h.f.grown hg (by omega),(hg.block _ (Ab h.b9) (fun e=>by injection e with e;omega)).trans h.b9,h.m.box hg hx h1 h2⟩
end
theorem A1.none(h:A1 enc n w base e v k l)(hg:w.grownBy w' r)(hr:∀g,v.ownBlock=some g->r≠some g):A1 enc n w' base e v k l:=by
 cases r with
 |none=>exact h.below ⟨hg.os,hg.tape,hg.output,hg.size,fun k hk=>hg.block k hk (fun e=>by cases e)⟩
 |some g=>exact h.other hg (fun b hb e=>hr b hb (by rw [e]))
section
variable {U X X':Nat->Prop} {w W W1 W2:World} {r:Option Nat}
structure WA(X X':Nat->Prop)(W W1 W2:World)(r:Option Nat):Prop where
 hb:Below W.heap.size W W1
 hX:∀g,g<W1.heap.size->X' g->X g
 hg:W1.grownBy W2 r
 hr:∀g,r=some g->X' g
theorem WA.keep(h:WA X X' W W1 W2 r):BD (NB U w X') W1 W2:=BD.grown h.hg (fun b e hn=>hn.2 (h.hr b e))
theorem WA.mono(h:WA X X' W W1 W2 r):∀g,g<W.heap.size->NB U w X g->NB U w X' g:=fun g hg hn=>⟨hn.1,fun e=>hn.2 (h.hX g (Ak hg h.hb.size) e)⟩
theorem WA.ty(h:WA X X' W W1 W2 r)(hy:LY.lies (NB U w X) W y):LY.lies (NB U w X') W2 y:=LY.lies_keep h.keep _ (LY.lies_keep (BD.of h.hb) _ (LY.lies_mono h.mono _ hy))
theorem WA.tm(h:WA X X' W W1 W2 r)(hy:LD.lies (NB U w X) W y):LD.lies (NB U w X') W2 y:=LD.lies_keep h.keep _ (LD.lies_keep (BD.of h.hb) _ (LD.lies_mono h.mono _ hy))
theorem WA.sk(h:WA X X' W W1 W2 r)(hy:Sk (NB U w X) W s S L V):Sk (NB U w X') W2 s S L V:=((hy.mono h.mono (AB _) (AB _)).keep (BD.of h.hb)).keep h.keep
theorem WA.size(h:WA X X' W W1 W2 r):W.heap.size<=W2.heap.size:=AM h.hb.size h.hg.size
end
section
variable {U:Nat->Prop} {w W W':World} {a:Ma} {g9 k kd:Nat} {ar:PY} {v:Value} {kst:List PY} {ds:List PD} {X X':Nat->Prop} {s:PS} {d:IC} {S:SS} {L V:Nat}
theorem Gz.wide(h:Gz U w a g9 k kd ar v kst ds X s d S L V W)(hX:∀g,X' g->X g\/W.heap.size<=g)(hs:∀g,X g->X' g)(hb:Below W.heap.size W W')(hl:∀g,X' g->g<W'.heap.size):Gz U w a g9 k kd ar v kst ds X' s d S L V W':=by have hw:=h.f.below.size;have T:WA X X' W W W' none:=⟨AA _ _,fun g hg e=>(hX g e).elim id (fun e=>by omega),GC none hb,fun g e=>by cases e⟩;have h9:=Ab h.b9;exact⟨h.f.step hb,(hb.block _ h9).trans h.b9,⟨T.sk h.m.sk,fun g e=>⟨(hX g e).elim (fun e=>(h.m.lt g e).1) (fun e=>by omega),hl g e⟩,fun g h1 h2=>hs g (h.m.x5 g h1 h2),hs _ h.m.x9,h.m.l9,T.ty h.m.ty,T.ty h.m.bind,T.ty h.m.arl,h.m.ks.below hb,h.m.dk.below hb,fun y hy=>T.tm (h.m.each y hy),fun g e=>hs g (h.m.xk g e),fun g e=>hs g (h.m.xd g e),h.m.ne⟩⟩
theorem Gz.kid(h:Gz U w a g9 k kd ar v kst ds X s d S L V W)(ht:LD.lies (NB U w X) W t)(ho:A1 LD.encT 14 w2 (g9+1) 48 (.slice q n c) (kd+1) (ds++[t]))(hg:(W.alloc o).grownBy w2 (Value.slice d.kp d.kn d.kc).ownBlock)(hf:∀g,g<(W.alloc o).heap.size->(Value.slice q n c).ownBlock=some g->(Value.slice d.kp d.kn d.kc).ownBlock=some g):Gz U w a g9 k (kd+1) ar v kst (ds++[t]) (fun g=>X g\/(Value.slice q n c).ownBlock=some g) s ⟨d.hd,d.ty,d.bind,q,n,c⟩ S L V (w2.setCell ⟨w.heap.size+1+1+1+1,13,none⟩ (.slice q n c)):=by
 have hb:Below W.heap.size W (W.alloc o):=bA;have T:WA X (fun g=>X g\/(Value.slice q n c).ownBlock=some g) W (W.alloc o) w2 (Value.slice d.kp d.kn d.kc).ownBlock:=⟨hb,fun g hg e=>e.elim id (fun e=>h.m.xd g (hf g hg e)),hg,fun g e=>.inl (h.m.xd g e)⟩;have h5:=h.m.x5 (w.heap.size+1+1+1+1) (by omega) (by omega);have ag:w2.grownBy (w2.setCell ⟨w.heap.size+1+1+1+1,13,none⟩ (.slice q n c)) (some (w.heap.size+1+1+1+1)):=Ar _ _ _ _;have jc:=h.m.l9;have hk:BD (NB U w (fun g=>X g\/(Value.slice q n c).ownBlock=some g)) w2 (w2.setCell ⟨w.heap.size+1+1+1+1,13,none⟩ (.slice q n c)):=BD.box (.inl h5) ag;have mm:=fun g e=>Aa h.m.dk g e;have j8:=fun g e=>Aa h.m.ks g e;have j6:=fun g e=>Aa ho g e;have kU:=(h.f.step hb).own hg (fun g e=>by have:=(mm g e).1;omega);have tl:=(hg.block _ (Ak (Ab h.b9) hb.size) (fun e=>by have:=(mm _ e.symm).1;omega)).trans ((hb.block _ (Ab h.b9)).trans h.b9)
 refine⟨kU.turn ag (Aw (o:=13) _ kU.b8),(ag.block _ (Ab tl) (fun e=>by injection e with e;omega)).trans tl,⟨(T.sk h.m.sk).keep hk,fun g e=>?_,fun g h1 h2=>.inl (h.m.x5 g h1 h2),.inl h.m.x9,jc,LY.lies_keep hk _ (T.ty h.m.ty),LY.lies_keep hk _ (T.ty h.m.bind),LY.lies_keep hk _ (T.ty h.m.arl),
  ((h.m.ks.below hb).none hg (fun g e=>h.m.ne g e)).other ag (fun b e e'=>by have:=(j8 b e).1;injection e' with e';omega),ho.other ag (fun b e e'=>by have:=(j6 b e).1;injection e' with e';omega),fun y hy=>LD.lies_keep hk _ ?_,fun g e=>.inl (h.m.xk g e),fun g e=>.inr e,fun g e e'=>?_⟩⟩
 ·have h1:=T.size;have h2:=ag.size;rcases e with e|e
  ·have:=h.m.lt g e;omega
  ·have:=j6 g e;omega
 ·rcases Ac.1 hy with hy|hy
  ·exact T.tm (h.m.each y hy)
  ·rw [AQ.1 hy];exact T.tm ht
 ·exact h.m.ne g e (hf g (Ak (j8 g e).2 hb.size) e')
theorem Gz.typ(h:Gz U w a g9 k kd ar v kst ds X s d S L V W)(ho:A1 LY.encT 3 w2 (g9+1) 45 (.slice q n c) (k+1) (kst++[t]))(hg:(W.alloc o).grownBy w2 v.ownBlock)(hf:∀g,g<(W.alloc o).heap.size->(Value.slice q n c).ownBlock=some g->v.ownBlock=some g):Gz U w a g9 (k+1) kd ar (.slice q n c) (kst++[t]) ds (fun g=>X g\/(Value.slice q n c).ownBlock=some g) s d S L V w2:=by
 have hb:Below W.heap.size W (W.alloc o):=bA;have T:WA X (fun g=>X g\/(Value.slice q n c).ownBlock=some g) W (W.alloc o) w2 v.ownBlock:=⟨hb,fun g hg e=>e.elim id (fun e=>h.m.xk g (hf g hg e)),hg,fun g e=>.inl (h.m.xk g e)⟩;have jc:=h.m.l9;have mm:=fun g e=>Aa h.m.dk g e;have j8:=fun g e=>Aa h.m.ks g e;have j6:=fun g e=>Aa ho g e
 refine⟨(h.f.step hb).own hg (fun g e=>by have:=(j8 g e).1;omega),(hg.block _ (Ak (Ab h.b9) hb.size) (fun e=>by have:=(j8 _ e.symm).1;omega)).trans ((hb.block _ (Ab h.b9)).trans h.b9),⟨T.sk h.m.sk,fun g e=>?_,fun g h1 h2=>.inl (h.m.x5 g h1 h2),.inl h.m.x9,jc,T.ty h.m.ty,T.ty h.m.bind,T.ty h.m.arl,
  ho,(h.m.dk.below hb).none hg (fun g e e'=>h.m.ne g e' e),fun y hy=>T.tm (h.m.each y hy),fun g e=>.inr e,fun g e=>.inl (h.m.xd g e),fun g e e'=>?_⟩⟩
 ·have h1:=T.size;rcases e with e|e
  ·have:=h.m.lt g e;omega
  ·have:=j6 g e;have:=(h.m.lt g9 h.m.x9).1;omega
 ·have h2:=(mm g e').2;exact h.m.ne g (hf g (Ak h2 hb.size) e) e'
end
end Go.Proofs.YtkdjnegfnhldpaaGreatDoor
