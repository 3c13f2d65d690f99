/- Part 12. -/
import Derived.RangeFuncNested
import Derived.Test.YtkdjnegfnhldpaaGreatDoorK11
set_option linter.unusedVariables false
set_option maxRecDepth 100000
set_option linter.unusedSimpArgs false
set_option maxHeartbeats 40000000
set_option autoImplicit true
set_option relaxedAutoImplicit true
namespace Go.Proofs.YtkdjnegfnhldpaaGreatDoor
open Go.Proofs.Tryz Go.RowKit
structure Rb(w:World)(a:AH)(x y:Value)(W:World):Prop where
 b:Vv w W a x y
 res:∃cs:Array Value,cs.size=2/\W.heap[w.heap.size+2]?=some (.cells cs 84 (0,0))
 size:w.heap.size+3<=W.heap.size
theorem JO(w:World)(a:AH)(x y:Value):Rb w a x y (((w.alloc (.cells #[x,y] 84)).alloc (Bt a)).alloc (.cells #[.slice none 0 0,.slice none 0 0] 84)):=by have e:=AG ((w.alloc (.cells #[x,y] 84)).alloc (Bt a)) (.cells #[.slice none 0 0,.slice none 0 0] 84);simp only [AN] at e;exact⟨(Ts w a x y).step bA,⟨_,rfl,e⟩,by simp⟩
theorem Rb.step(h:Rb w a x y W)(hb:Below W.heap.size W W'):Rb w a x y W':=by obtain⟨cs,h1,h2⟩:=h.res;exact⟨h.b.step hb,⟨cs,h1,(hb.block _ (AO.1 h2).1).trans h2⟩,AM h.size hb.size⟩
theorem Rb.alloc(h:Rb w a x y W)(o:Obj):Rb w a x y (W.alloc o):=h.step bA
theorem Rb.drew(h:Rb w a x y W):Rb w a x y W.drew:=h.step (At W)
theorem Rb.below(h:Rb w a x y W):Below w.heap.size w W:=h.b.below
theorem Rb.store(h:Rb w a x y W)(hc:cs.size=2):Rb w a x y (W.setRow (w.heap.size+2) cs):=by obtain⟨cs',h1,h2⟩:=h.res;exact⟨⟨(AR _ _ _ _ (by omega)).trans h.b.b0,⟨(AR _ _ _ _ (by omega)).trans h.b.b1.blk⟩,h.below.grown FC h.below.size (fun k e=>by cases e;omega)⟩,⟨cs,hc,AL _ _ _ _ _ _ h2⟩,by have:=h.size;simpa using this⟩
theorem Rb.heap(h:Rb w a x y W)(cs:Array Value):(W.setRow (w.heap.size+2) cs).heap[w.heap.size+2]?=some (.cells cs 84 (0,0)):=by obtain⟨cs',_,h2⟩:=h.res;exact AL _ _ _ _ _ _ h2
theorem WJ{w w':World}{r g:Nat}(hg:w.grownBy w' (some r))(aG:g<w.heap.size)(hr:g≠r)(i:Nat):w'.cell? ⟨g,i,none⟩=w.cell? ⟨g,i,none⟩:=by have h:=hg.5 g aG (fun e=>hr (by cases e;rfl));simp only [World.cell?,h]
theorem BV.Ok.grown{w0 w w':World}{S:Nat->Prop}{b:BV}{r:Nat}(h:b.Ok w0 w S)(hg:w.grownBy w' (some r))(hr:¬S r)(hf:∀a g,b.fn=some (a,g)->g≠r)(aI:w.heap.size<=w'.heap.size):b.Ok w0 w' S:=⟨GN hg _ (fun x hx e=>hr (by cases e;exact h.uses _ hx)) h.ty,h.uses,fun a g e=>⟨⟨fun i v hv=>(WJ hg (h.fn a g e).2.2 (hf a g e) _).trans ((h.fn a g e).1.c i v hv)⟩,(h.fn a g e).2.1,Ak (h.fn a g e).2.2 aI⟩,h.name⟩
def Pz(w0 w:World)(S:Nat->Prop)(n m:Nat)(eb:List OA)(rr:List Int)(e:Ending)(w':World):Prop:=∃p' n' c' env' q' m' c'',e=.returned (.agg #[.slice p' n' c',.slice q' m' c''])/\Gl w0 w' S p' n' c' env'/\Gg env'=eb/\Ax DE 1 w' q' m' c'' rr/\n'<=n+2/\m'<=m+50/\Below w.heap.size w w'
theorem Ka(W:World)(S:Nat->Prop):LR.lies W (.node ⟨0,0,none,0,0,[],none,0,0⟩ []:PT)/\∀x∈Dy (.node ⟨0,0,none,0,0,[],none,0,0⟩ []:PT),S x:=⟨Dz.lies ⟨⟨Ax.none Ce 3 _,(fun x hx=>(nomatch hx)),by dsimp only;decide,by dsimp only;decide,by dsimp only;decide,by dsimp only;decide,by dsimp only;decide,by dsimp only;decide,fun _=>rfl⟩,Ax.none _ _ _,fun t ht=>by cases ht⟩,fun b hb=>by simp [H4] at hb⟩
theorem Xe(W:World)(S:Nat->Prop):LR.lies W (.node ⟨1,0,none,0,0,[],none,0,0⟩ []:PT)/\∀x∈Dy (.node ⟨1,0,none,0,0,[],none,0,0⟩ []:PT),S x:=⟨Dz.lies ⟨⟨Ax.none Ce 3 _,(fun x hx=>(nomatch hx)),by dsimp only;decide,by dsimp only;decide,by dsimp only;decide,by dsimp only;decide,by dsimp only;decide,by dsimp only;decide,fun _=>rfl⟩,Ax.none _ _ _,fun t ht=>by cases ht⟩,fun b hb=>by simp [H4] at hb⟩
def Si(w:World)(S:Nat->Prop)(b:Nat):Prop:=(b<w.heap.size/\S b)\/w.heap.size+3<=b
theorem KM(hI:Rb w a x y W)(hS:∀b,w.heap.size<=b->S b)(aC:Ax JN 6 W p' n' c' env')(cB:env'≠[]->∀ad,p'=some ad->ad.block≠w.heap.size+2)(aW:∀b∈env',b.Ok w0 W (Si w S)/\∀a g,b.fn=some (a,g)->g≠w.heap.size+2)(he:Gg env'=eb)(hq:Ax DE 1 W q' m' c'' rr)(pc:rr≠[]->∀ad,q'=some ad->ad.block≠w.heap.size+2)(hn:n'<=n+2)(hm:m'<=m+50):Pz w0 w S n m eb rr (.returned (.agg #[.slice p' n' c',.slice q' m' c''])) (W.setRow (w.heap.size+2) #[.slice p' n' c',.slice q' m' c'']):=by
 have xM:¬Si w S (w.heap.size+2):=by rintro(⟨h1,_⟩|h1)<;>omega
 refine⟨p',n',c',env',q',m',c'',rfl,⟨JR aC FC cB,fun b hb=>?_⟩,he,JR hq FC pc,hn,hm,(hI.store (cs:=#[.slice p' n' c',.slice q' m' c'']) rfl).below⟩;refine((aW b hb).1.grown FC xM (aW b hb).2 (by simp)).weak (fun z hz=>?_);rcases (aW b hb).1.uses z hz with⟨_,h2⟩|h2
 ·exact h2
 ·exact hS z (by omega)
structure N8(w:World)(a:AH)(x y:Value)(W:World):Prop where
 b:Vv w W a x y
 res:∃cs:Array Value,cs.size=5/\W.heap[w.heap.size+2]?=some (.cells cs 81 (0,0))
 size:w.heap.size+3<=W.heap.size
theorem KE(w:World)(a:AH)(x y:Value):N8 w a x y (((w.alloc (.cells #[x,y] 84)).alloc (Bt a)).alloc (.cells #[.int .u8 0,.int .i64 0,.slice none 0 0,.slice none 0 0,.slice none 0 0] 81)):=by have e:=AG ((w.alloc (.cells #[x,y] 84)).alloc (Bt a)) (.cells #[.int .u8 0,.int .i64 0,.slice none 0 0,.slice none 0 0,.slice none 0 0] 81);simp only [AN] at e;exact⟨(Ts w a x y).step bA,⟨_,rfl,e⟩,by simp⟩
theorem N8.step(h:N8 w a x y W)(hb:Below W.heap.size W W'):N8 w a x y W':=by obtain⟨cs,h1,h2⟩:=h.res;exact⟨h.b.step hb,⟨cs,h1,(hb.block _ (AO.1 h2).1).trans h2⟩,AM h.size hb.size⟩
theorem N8.alloc(h:N8 w a x y W)(o:Obj):N8 w a x y (W.alloc o):=h.step bA
theorem N8.drew(h:N8 w a x y W):N8 w a x y W.drew:=h.step (At W)
theorem N8.below(h:N8 w a x y W):Below w.heap.size w W:=h.b.below
theorem N8.store(h:N8 w a x y W)(hc:cs.size=5):N8 w a x y (W.setRow (w.heap.size+2) cs):=by obtain⟨cs',h1,h2⟩:=h.res;exact⟨⟨(AR _ _ _ _ (by omega)).trans h.b.b0,⟨(AR _ _ _ _ (by omega)).trans h.b.b1.blk⟩,h.below.grown FC h.below.size (fun k e=>by cases e;omega)⟩,⟨cs,hc,AL _ _ _ _ _ _ h2⟩,by have:=h.size;simpa using this⟩
theorem N8.heap(h:N8 w a x y W)(cs:Array Value):(W.setRow (w.heap.size+2) cs).heap[w.heap.size+2]?=some (.cells cs 81 (0,0)):=by obtain⟨cs',_,h2⟩:=h.res;exact AL _ _ _ _ _ _ h2
theorem Hu(bM:o.guard=none)(ty:TypeId)(x y:Operand)(ho:o.op=.store ty x y)(h:N8 w a u v W)(cells:Array Value)(hx:act.eval x=.pointer (some ⟨w.heap.size+2,0,none⟩))(hy:act.eval y=.agg cells)(hi:(P.info? ty).map (·.size)=some cells.size)(h5:cells.size=5)(h1:cells.all (·.oneCell')=true)(hK:wpList P ops Q rest (act.put o.dst undef) (W.setRow (w.heap.size+2) cells)):wpList P ops Q (o::rest) act W:=by obtain⟨cs,e1,e2⟩:=h.res;exact Ap bM ty x y ho (w.heap.size+2) cells hx hy 81 cs e2 hi (by omega) h1 hK
theorem R8(bM:o.guard=none)(ty:TypeId)(x y:Operand)(ho:o.op=.store ty x y)(h:N8 w a u v W)(cells:Array Value)(hx:act.eval x=.pointer (some ⟨w.heap.size+2,0,none⟩))(hy:act.eval y=.agg cells)(hi:(P.info? ty).map (·.size)=some cells.size)(h5:cells.size=5)(h1:cells.all (·.oneCell')=true)(hK:K (act.put o.dst undef) (W.setRow (w.heap.size+2) cells)):if Region.wanted o (yielded ops act.tmps)=true then Oper.wp P o act W K Q else E:=by obtain⟨cs,e1,e2⟩:=h.res;rw [AJ (by simp [Region.wanted,bM])];exact DV ty x y ho (w.heap.size+2) cells hx hy 81 cs e2 hi (by omega) h1 hK
theorem ZDJ(h0:w.heap.size<=k)(h1:k<w.heap.size+3):¬Si w S k:=by rintro(⟨h,_⟩|h)<;>omega
theorem Qs(h:N8 w a u v W)(hS:∀b,w.heap.size<=b->S b)(hy:y.Ok W (Si w S))(hx:y.er=x):Gm w S (.ok x) (.returned (Ou y)) (W.setRow (w.heap.size+2) (FV y)):=by
 refine⟨⟨y,rfl,hx,(hy.grown FC (fun b e=>by cases e;exact ZDJ (by omega) (by omega))).weak (fun b _ hb=>?_)⟩,(h.store (cs:=FV y) rfl).below⟩;rcases hb with⟨_,h2⟩|h2
 ·exact h2
 ·exact hS b (by omega)
theorem ZC8(h:Gl w0 w S p n c env)(hb:Below w.heap.size w W):Gl w0 W (Si w S) p n c env:=⟨h.row.below hb,fun b fI=>((h.each b fI).below hb).weak (fun x hx=>.inl ⟨CW _ (h.each b fI).ty x hx,(h.each b fI).uses x hx⟩)⟩
def NU(env:List OA):Prop:=∀b∈env,Ld b/\b.ty.size<=500
theorem O1:NU []:=fun b hb=>by cases hb
theorem Ri(ha:IF a n)(he:NU env)(dh:a.kind=12->i=1->FK (acc.getD 0 Fe).1=true/\FG (acc.getD 0 Fe).1=true/\(acc.getD 0 Fe).1.size<=500):NU (Ck env a i acc):=by
 intro b hb;refine⟨QU ha (fun x hx=>(he x hx).1) (fun h1 h2=>⟨(dh h1 h2).1,(dh h1 h2).2.1⟩) b hb,?_⟩;have h0:EQ.size<=500:=by decide
 have h1:NN.size<=500:=by decide
 have ht:=ha.tys.size;unfold Ck at hb;split at hb
 ·rcases Ac.1 hb with hb|hb
  ·exact(he b hb).2
  ·rw [AQ] at hb;subst hb;show a.ty.size<=500;omega
 split at hb
 ·rename_i k;rcases Ac.1 hb with hb|hb
  ·exact(he b hb).2
  ·rw [AQ] at hb;subst hb;exact(dh k.1 k.2).2.2
 split at hb
 ·rcases Ac.1 hb with hb|hb
  ·exact(he b hb).2
  ·simp only [AS,Al,BN] at hb;rcases hb with rfl|rfl
   ·exact h0
   ·show a.ty.size<=500;omega
 split at hb
 ·rcases Ac.1 hb with hb|hb
  ·exact(he b hb).2
  ·rw [AQ] at hb;subst hb;exact h0
 split at hb
 ·rcases Ac.1 hb with hb|hb
  ·exact(he b hb).2
  ·rw [AQ] at hb;subst hb;exact h1
 ·exact(he b hb).2
theorem ZAV{x:RT}(j:Nat):(x.kids.getD j EQ).size<=x.size:=by
 cases x with
 |node a l=>
  rw [Ad.size_node];simp only [Ad.kids];rw [AX];cases h:l[j]? with
  |none=>simp only [Option.getD_none];show 1<=_;omega
  |some t=>
   simp only [Option.getD_some];have:=EG (Au (f:=Ad.size) (AE h));omega
theorem SP{l:List TE}(hl:∀y∈l,y.1.size<=500)(j:Nat):(l.getD j Fe).1.size<=500:=by
 rw [AX];cases h:l[j]? with
 |none=>simp only [Option.getD_none];show 1<=_;omega
 |some t=>exact hl t (AE h)
theorem ZB(ha:IF a n)(hl:∀y∈l,y.1.size<=500)(h:GO a l x):x.1.size<=1001:=by
 have h0:=SP hl 0;have h1:=SP hl 1;have ht:=ha.tys.size;have hk:=fun j=>ZAV (x:=(l.getD 0 Fe).1) j;cases h with
 |pair k=>simp only [N9,Ad.size_node,AV,Am,A0,C7];omega
 |proj k _=>have:=hk (a.kind-4).toNat;simp only;omega
 |ref k=>simp only [N9,Ad.size_node,AV,Am,A0,C7];omega
 |get k _=>have:=hk 0;simp only;omega
 |set k _ _=>show 1<=_;omega
 |app k _ _=>have:=hk 1;simp only;omega
 |op k _=>show 1<=_;omega
 |ite k _ _=>simp only;omega
 |raise k _=>simp only;omega
 |num k=>show 1<=_;omega
 |fn k _=>simp only [N9,Ad.size_node,AV,Am,A0,C7];omega
 |letrec k _ _=>simp only;omega
 |handle k _=>simp only;omega
 |region k _=>simp only;omega
 |other k=>simp only;omega
theorem QK(t:AT)(h:chk env rhos t=.ok x):x.1.size<=500:=by
 cases t with
 |node a l=>exact(TN.1 h).2
theorem WX(ha:IF a l.length)(he:NU env)(h:Fr env rhos a l=.ok x):x.1.size<=1001:=by
 rw [Ng] at h;rcases h.2 with⟨k,h⟩|⟨k,h⟩|⟨k2,k18,ks,nX,h⟩
 ·unfold Oo PO at h;cases hf:IL env a.name with
  |none=>rw [hf] at h;cases h
  |some b=>
   rw [hf] at h;simp only [Dv] at h;obtain⟨hn,h⟩:=h;cases h;have:=(he b (JX hf).1).2;simp only;omega
 ·unfold Hk PO at h;cases hf:IL env a.name with
  |none=>rw [hf] at h;cases h
  |some b=>
   rw [hf] at h;simp only at h;cases hb:b.fn with
   |none=>rw [hb] at h;cases h
   |some f=>
    rw [hb] at h;simp only [Dv,Ai] at h;obtain⟨aJ,_,h⟩:=h;cases h;obtain⟨n,ef,_,_⟩:=(he b (JX hf).1).1.fn f hb;have h1:=ef.tys.size;have h2:=ef.ress.size;simp only [N9,Ad.size_node,AV,Am,A0,C7,ZF];omega
 ·rw [N0] at h;obtain⟨rs,ke,hl,hj⟩:=Pl _ _ _ _ nX;rw [A6] at ke;subst ke;refine ZB ha (fun y hy=>?_) h;obtain⟨j,gu⟩:=Dc hy;have aG:j<l.length:=by rw [<-hl];exact DI gu
  obtain⟨r,e1,e2⟩:=hj j _ (AI aG);rw [gu] at e1;cases e1;exact QK _ e2
theorem K1{W:World}{g:Nat}{cs:Array Value}{t:TypeId}(h:W.heap[g]?=some (.cells cs t (0,0)))(l:List Value)(hl:∀(i:Nat) (v:Value),l[i]?=some v->cs[i]?=some v):W.rangeAt g 0 l:=fun j v hj=>by rw [BP,AD h];exact hl j v hj
theorem Q5(hr:G0 w p 1 c [t])(hs:t.size<=1000000):Calls prog 65 #[.slice p 1 c] w (RB w (.int .i64 (t.size:Int))):=by
 have e:Gj [t]=t.size:=by simp [Gj]
 have:=Q4 hr (by rw [e];exact hs);rwa [e] at this
theorem R4(hS:∀b,w.heap.size<=b->S b)(HF:∀W,Below w.heap.size w W->w.heap.size+3<=W.heap.size->Calls prog 63 #[.agg #[.slice p n c,.slice q m mc],DP a] W (Gm W (Si w S) R))(aI:∀x,R=.ok x->x.1.size<=1001):Calls prog 38 #[.agg #[.slice p n c,.slice q m mc],DP a] w (Gm w S (RD a.plain R)):=by
 have HX:=AF (KE w a (.slice p n c) (.slice q m mc));have HS:=AF hS;have tJ:=AF HF;clear HF hS;rcases R with⟨r1,r2⟩|x
 ·clear aI;go_enter func38,ntmps38;go_upto_region 1 with fail;generalize (((w.alloc (.cells #[.slice p n c,.slice q m mc] 84)).alloc (Bt a)).alloc (.cells #[.int .u8 0,.int .i64 0,.slice none 0 0,.slice none 0 0,.slice none 0 0] 81))=W1 at *
  go_wp2_with (first
   |(refine lw HX.o.b.b0 underlying84 ?_)
   |(refine lw HX.o.b.b1.blk underlying31 ?_))
  go_at_call 63;refine(tJ.o _ HX.o.below HX.o.size).mono ?_;rintro e W9 ⟨hr,hb⟩;subst hr;exact⟨rfl,rfl,(HX.o.step hb).below⟩
 ·have xS:=aI x rfl;clear aI;obtain⟨u,hu⟩:∃u,decide (x.1.size<=500)=u:=⟨_,rfl⟩;have HR:Hd (RD a.plain (.ok x)=EB u a.plain 3 (.ok x)):=by show _=_;rw [<-hu];rfl
  rw [HR.o];clear HR;have HU:=AF hu;clear hu;go_enter func38,ntmps38;go_upto_region 1 with fail;generalize (((w.alloc (.cells #[.slice p n c,.slice q m mc] 84)).alloc (Bt a)).alloc (.cells #[.int .u8 0,.int .i64 0,.slice none 0 0,.slice none 0 0,.slice none 0 0] 81))=W1 at *
  go_wp2_with (first
   |(refine lw HX.o.b.b0 underlying84 ?_)
   |(refine lw HX.o.b.b1.blk underlying31 ?_)
   |(go_at_call 63;refine(tJ.o _ HX.o.below HX.o.size).mono ?_;rintro e W9 ⟨hr,hb⟩;obtain⟨y,rfl,gP,hy⟩:=hr;have aY:=AF (HX.o.step hb);have HY:=AF hy;have jR:=AF gP;have cw:=AF (AG W9 (.cells #[.int .u8 0,.int .i64 0,.slice none 0 0,.slice none 0 0,.slice none 0 0] 81));clear hy gP HX hb)
   |(refine sw (FV y) cw.o ?_;rw [Av]))
  have HG:=AF (AG W9 (.cells (FV y) 81));have aQ:=AF (aY.o.alloc (.cells (FV y) 81));have oT:=AF (HY.o.below ((AA W9.heap.size W9).alloc (AB _) (.cells (FV y) 81)));have m8:y.ty.size=x.1.size:=by rw [<-jR.o];exact(MN y.ty).symm
  have ni:decide ((y.ty.size:Int)<=500)=u:=by rw [<-HU.o,m8];exact decide_eq_decide.2 (by omega)
  have cT:y.ty.size<=1000000:=by omega
  have bc:=AF cT;clear m8 cT cw HY aY xS;obtain⟨g,hg⟩:∃g,W9.heap.size=g:=⟨_,rfl⟩;rw [hg] at HG ⊢;generalize (W9.alloc (.cells (FV y) 81))=W2 at *
  clear hg;go_upto_region 2 with fail;refine rg (fun W'=>Below W2.heap.size W2 W') (At W2) fun aA=>?_;refine tp 0 9 ?_;refine t4 1 10 y.ty g 0 (fun W' aB=>K1 ((aB.block _ (AO.1 HG.o).1).trans HG.o) _ (by intro i v hv;match i,hv with|0,hv=>exact hv|1,hv=>exact hv|2,hv=>exact hv|3,hv=>exact hv)) ?_;refine ta 5 14 a (w.heap.size+1) 0 (fun W' aB=>(aQ.o.step aB).b.b1.range) ?_;refine tr 2 11 fun K hK=>?_;go_simp;refine tn hK (Ay aA _) ?_;clear aA hK K;intro aA;refine tr 3 12 fun K hK=>?_;go_simp;go_at_call 65;refine(Q5 ((Kl oT.o.ty 28).below (At _)) bc.o).mono ?_;rintro e w3 ⟨rfl,hb⟩;try go_wp2_with fail
  refine tn hK (An aA hb) ?_;clear aA hK K;intro aA;refine tp 4 13 ?_;refine tr 6 15 fun K hK=>?_;go_simp;cases u
  ·go_at_call 64;refine(D3 a 3 _).mono ?_;rintro e w9 ⟨rfl,hb⟩;exact⟨rfl,rfl,aQ.o.below.trans ((An aA hb).mono aQ.o.below.size)⟩
  go_at_call 64;refine(Dw a 3 _).mono ?_;rintro e w9 ⟨rfl,hb⟩;try go_wp2_with fail
  refine tn hK (An aA hb) ?_;clear aA hK K;intro aA;refine dn ?_;have bC:=AF (aQ.o.step aA);have iS:=AF ((aA.block _ (AO.1 HG.o).1).trans HG.o);have wa:=AF (oT.o.below aA);clear aA ni
  go_wp2_with (first
   |(refine lw iS.o underlying81 ?_)
   |(refine Hu rfl _ _ _ rfl bC.o (FV y) (by rfl) (by rfl) (by kernel_rfl) rfl (by simp [Value.oneCell']) ?_))
  refine br (bC.o.heap _) underlying81 ?_;exact Qs bC.o HS.o wa.o jR.o
structure IE(w0 w:World)(S:Nat->Prop)(t:PA)(p q:Option Addr)(n c m mc:Nat)(env:List BV)(rhos:List Int):Prop where
 old:Below w0.heap.size w0 w
 lies:LA.lies w0 t
 small:Ef t
 good:J3 (PA.er t)
 envA:Gl w0 w S p n c env
 rhosA:Ax DE 1 w q m mc rhos
 genv:NU (Gg env)
 s0:∀b,b<w0.heap.size->S b
 new:∀b,w.heap.size<=b->S b
 hn:n+2 * t.size<=900000
 hm:m+50 * t.size<=900000
 hs:202 * t.size<=900000
def S8(w0:World)(t:PA):Prop:=∀(w:World) (S:Nat->Prop) (p q:Option Addr) (n c m mc:Nat) (env:List BV) (rhos:List Int),IE w0 w S t p q n c m mc env rhos ->
 Calls prog 38 #[.agg #[.slice p n c,.slice q m mc],DP t.head] w (Gm w S (chk (Gg env) rhos (PA.er t)))
def Sx(w:World)(S:Nat->Prop)(v:Value)(b:Nat):Prop:=(b<w.heap.size/\S b)\/(w.heap.size+3<=b/\v.ownBlock≠some b)
theorem To(t:PA):(PA.er t).size=t.size:=Ad.size_map _ t
def ZBm(l:List PA)(rs:List RV):Prop:=∀(j:Nat) (t:PA) (r:RV),l[j]?=some t->rs[j]?=some r->J2 (202 * t.size) r.er/\r.er.1.size<=500
structure Ix(w:World)(S:Nat->Prop)(a:AH)(l:List PA)(x y:Value)(env:List OA)(rhos:List Int)(v:Value)(k:Nat)(rs:List RV)(wr:World):Prop where
 nd:N8 w a x y wr
 own:A1 Fm 5 wr (w.heap.size+3) 81 v k rs
 each:∀r∈rs,r.Ok wr (Sx w S v)
 chk:J0 env rhos a.plain 0 [] (l.map PA.er)=J0 env rhos a.plain k (Em rs) ((l.drop k).map PA.er)
 acc:ZBm l rs
theorem U5(h:N8 w a x y W):Ix w S a l x y env rhos (.slice none 0 0) 0 [] W:=⟨h,A1.nil Fm W _ _ 5,fun r hr=>(by cases hr),by simp [Em],fun j t r _ hr=>by simp at hr⟩
theorem N8.grown(h:N8 w a x y W)(hg:W.grownBy W' r)(hr:∀b,r=some b->w.heap.size+3<=b):N8 w a x y W':=by obtain⟨cs,h1,h2⟩:=h.res;have aI:=h.size;have aM:∀k,k<w.heap.size+3->W'.heap[k]?=W.heap[k]?:=fun k hk=>hg.block k (by omega) (fun e=>by have:=hr k e.symm;omega);exact⟨⟨(aM _ (by omega)).trans h.b.b0,⟨(aM _ (by omega)).trans h.b.b1.blk⟩,h.below.grown hg h.below.size (fun k e=>by have:=hr k e;omega)⟩,⟨cs,h1,(aM _ (by omega)).trans h2⟩,AM h.size hg.size⟩
theorem Ix.row(h:Ix w S a l x y env rhos v k rs wr):∃p c,v=.slice p k c/\NZ wr (Sx w S v) p k c rs/\rs.length=k/\∀b,v.ownBlock=some b->w.heap.size+3<=b/\b<wr.heap.size:=by obtain⟨p,c,hv,aC⟩:=A1.isRow Ke (by omega) h.own;exact⟨p,c,hv,⟨aC,h.each⟩,aC.len,fun b hb=>Aa h.own b hb⟩
theorem Ix.below(h:Ix w S a l x y env rhos v k rs wr)(hb:Below wr.heap.size wr wr'):Ix w S a l x y env rhos v k rs wr':=⟨h.nd.step hb,h.own.below hb,fun r hr=>(h.each r hr).below hb,h.chk,h.acc⟩
theorem Tz{w:World}{S:Nat->Prop}{v:Value}{W:World}(aI:w.heap.size+3<=W.heap.size)(hv:∀b,v.ownBlock=some b->b<W.heap.size):∀b,W.heap.size<=b->Sx w S v b:=fun b hb=>.inr ⟨by omega,fun e=>by have:=hv b e;omega⟩
theorem ZAD(h:Gl w0 w S p n c env)(hb:Below w.heap.size w W):Gl w0 W (Sx w S v) p n c env:=⟨h.row.below hb,fun b fI=>((h.each b fI).below hb).weak (fun x hx=>.inl ⟨CW _ (h.each b fI).ty x hx,(h.each b fI).uses x hx⟩)⟩
theorem Ix.push(h:Ix w S a l x y env rhos v k rs W)(ht:l[k]?=some t)(hz:z.Ok W (Sx w S v))(vW:z.er=r)(hc:Go.Proofs.YtkdjnegfnhldpaaGreatDoor.chk (Ck env a.plain k (Em rs)) (DM rhos a.plain k) (PA.er t)=.ok r)(bM:J2 (202 * t.size) r)(aD:A1 Fm 5 w3 (w.heap.size+3) 81 v' (k+1) (rs++[z]))(hg:W.grownBy w3 v.ownBlock)(hf:∀b,b<W.heap.size->v'.ownBlock=some b->v.ownBlock=some b):Ix w S a l x y env rhos v' (k+1) (rs++[z]) w3:=by
 obtain⟨_,_,_,_,aJ,lW⟩:=h.row;refine⟨h.nd.grown hg (fun b e=>(lW b e).1),aD,fun u hu=>?_,?_,fun j u q hu hq=>?_⟩
 ·have h1:u.Ok W (Sx w S v):=by
   rcases Ac.1 hu with hu|hu
   ·exact h.each u hu
   ·rw [AQ] at hu;subst hu;exact hz
  have h2:u.Ok W (fun b=>Sx w S v b/\Sx w S v' b):=h1.weak (fun b hb hs=>⟨hs,by
   rcases hs with hs|⟨dy,cT⟩
   ·exact .inl hs
   ·exact .inr ⟨dy,fun e=>cT (hf b hb e)⟩⟩)
  refine(h2.grown hg (fun b e hs=>?_)).weak (fun b _ hs=>hs.2);rcases hs.1 with⟨hs,_⟩|⟨_,hs⟩
  ·have:=(lW b e).1;omega
  ·exact hs e
 ·have aG:=DI ht;have hd:l.drop k=t::l.drop (k+1):=by rw [A9 aG];congr 1;rw [AI aG] at ht;exact A8 ht
  rw [h.chk,hd,AV,H6,hc];show J0 _ _ _ _ (Em rs++[r]) _=_;congr 1;simp [Em,vW]
 ·rcases FR j rs.length with hj|hj
  ·rw [BW hj] at hq;exact h.acc j u q hu hq
  ·rw [Bp hj] at hq;have lI:j=k:=by have:=DI hq;simp at this;omega
   subst lI;rw [aJ] at hq;simp at hq;subst hq;rw [ht] at hu;cases hu;rw [vW];exact⟨bM,QK _ hc⟩
theorem Ix.stop(h:Ix w S a l x y env rhos v k rs W)(ht:l[k]?=some t)(hc:Go.Proofs.YtkdjnegfnhldpaaGreatDoor.chk (Ck env a.plain k (Em rs)) (DM rhos a.plain k) (PA.er t)=.error e):J0 env rhos a.plain 0 [] (l.map PA.er)=.error e:=by
 have aG:=DI ht;have hd:l.drop k=t::l.drop (k+1):=by rw [A9 aG];congr 1;rw [AI aG] at ht;exact A8 ht
 rw [h.chk,hd,AV,H6,hc]
theorem Ix.full(h:Ix w S a l x y env rhos v l.length rs W):J0 env rhos a.plain 0 [] (l.map PA.er)=.ok (Em rs):=by rw [h.chk,List.drop_length];exact Lo _ _ _ _ _
theorem Ix.sum(h:Ix w S a l x y env rhos v l.length rs W):(rs.map (·.en)).sum<=202 * (l.map Ad.size).sum:=by
 have h1:(rs.map (·.en)).sum=I9 (Em rs):=by unfold I9 Em;rw [CS];congr 1;exact Bf (fun r hr=>((h.each r hr).eff.len).symm)
 have h2:(l.map Ad.size)=((l.map PA.er).map Ad.size):=by rw [CS];exact Bf (fun t _=>(To t).symm)
 obtain⟨_,_,_,_,aJ,_⟩:=h.row;rw [h1,h2];refine X5 (by simp [Em,aJ]) (fun j t r ht hr=>?_);rw [A7] at ht;cases hl:l[j]? with
 |none=>rw [hl] at ht;cases ht
 |some u=>
  rw [hl] at ht;cases ht;unfold Em at hr;rw [A7] at hr;cases hq:rs[j]? with
  |none=>rw [hq] at hr;cases hr
  |some q=>
   rw [hq] at hr;cases hr;rw [To];exact(h.acc j u q hl hq).1.len
theorem IE.kid(h:IE w0 w S (.node a l) p q n c m mc env rhos)(ht:l[k]?=some t)(hk:Ix w S a l x y (Gg env) rhos v k rs wr)(aU:Below wr.heap.size wr W2)(hE:Gl w0 W2 (Sx w S v) p' n' c' env')(he:Gg env'=Ck (Gg env) a.plain k (Em rs))(hq:Ax DE 1 W2 q' m' c'' (DM rhos a.plain k))(hn:n'<=n+2)(hm:m'<=m+50):IE w0 W2 (Sx w S v) t p' q' n' c' m' c'' env' (DM rhos a.plain k):=by
 have qd:=AE ht;have hN:=Gh h.lies;have aI:t.size+1<=(Ad.node a l).size:=by rw [Ad.size_node];have:=EG (Au (f:=Ad.size) qd);omega
 have hg:=h.good;rw [PA.er_node] at hg;have bh:=hk.nd.below.trans (aU.mono hk.nd.below.size);have h1:=h.hn;have h2:=h.hm;have h3:=h.hs;obtain⟨_,_,_,_,aJ,aD⟩:=hk.row;refine⟨h.old.trans (bh.mono h.old.size),hN.each t qd,fun x hx=>h.small x (by rw [Ad.nodes_node,AS,BS];exact .inr ⟨_,Au qd,hx⟩),hg.kid _ (Au qd),hE,hq,?_,fun b hb=>.inl ⟨Ak hb h.old.size,h.s0 b hb⟩,Tz (AM hk.nd.size aU.size) (fun b e=>Ak (aD b e).2 aU.size),by omega,by omega,by omega⟩;rw [he];refine Ri hg.head h.genv (fun eH h1=>?_);subst h1;have aG:=DI ht;have fl:rs[0]?=some (rs[0]'(by omega)):=AI _;have sO:=hk.acc 0 _ _ (AI (by omega)) fl;have e0:(Em rs).getD 0 Fe=(rs[0]'(by omega)).er:=by rw [AX];unfold Em;rw [A7,fl];rfl
 rw [e0];exact⟨sO.1.may,sO.1.effs,sO.2⟩
theorem ZAU(h:IE w0 w S t p q n c m mc env rhos)(hc:Go.Proofs.YtkdjnegfnhldpaaGreatDoor.chk (Gg env) rhos (PA.er t)=.ok r):J2 (202 * t.size) r:=by have:=QI (PA.er t) (Gg env) rhos r h.good (fun b hb=>(h.genv b hb).1) hc;rwa [To] at this
section
open Go.Shelf
attribute [local go_sem] Oper.semAt_some
def JE(env:List BV)(k:Nat):List (Int×BV):=(List.range k).filterMap (fun j=>(env[env.length-1-j]?).map (fun x=>(((env.length-1-j:Nat):Int),x)))
theorem Ov(env:List BV)(k:Nat)(h:env[env.length-1-k]?=some x):JE env (k+1)=JE env k++[(((env.length-1-k:Nat):Int),x)]:=by simp [JE,Ek,List.filterMap_append,h]
theorem Mx(env:List BV)(hk:k<=env.length):(JE env k).map (·.2)=env.reverse.take k:=by
 induction k with
 |zero=>simp [JE]
 |succ k ih=>
  have aG:env.length-1-k<env.length:=by omega
  rw [Ov env k (AI aG),Ah,ih (by omega)];have h2:env.reverse[k]?=some env[env.length-1-k]:=by rw [FF (by omega),AI aG]
  rw [BG h2];rfl
theorem TH(F:Fence)(n:Nat)(h7:F.fn 186)(eN:F.round=none)(hn:1<=n)(l Bs n₀ b off len cap:Nat)(env:List BV)(aJ:env.length=len)(iB:len<=1000000)(hb:b<n₀)(wq:Bs<n₀)(J Jx:List (Int×BV)->World->Prop)
 (hY:∀pre x W,J pre W->pre.length<len->YieldAt F (n-1) prog l #[.int .i64 x.1,Ot x.2] W fun e W'=>
  (e=.returned (.bool true)/\J (pre++[x]) W'/\Below n₀ W W')\/(e=.returned (.bool false)/\Jx (pre++[x]) W'))
 (W:World) (fz:W.cell? ⟨Bs,0,none⟩=some (.slice (some ⟨b,off,none⟩) len cap)) (hc:∀j x,env[j]?=some x->∀i v,(JN x)[i]?=some v->W.cell? ⟨b,off+j * 6+i,none⟩=some v) (h0:J [] W) :
 CallsIn F n prog 186 #[.func (.yield l) #[] #[],.pointer (some ⟨Bs,0,none⟩)] W fun e W'=>(∃v,e=.returned v) /\
  ((∃ys,ys=JE env len/\J ys W')\/(∃pre,(∃k,k<=len/\pre=JE env k)/\Jx pre W')):=by
 refine ES func186 rfl h7 ?_ eN
 simp only [ntmps186,CL,Aq,Bc,Nat.reduceAdd,Nat.reduceSub,CG,CJ,Cg,CP,A6,BK]
 gi_wp2
 gi_loopw [3] (fun i wr=>∃k:Nat,k<=len/\i=.int .i64 ((len:Int)-1-k)/\J (JE env k) wr/\Below n₀ W wr)
  (fun i _=>(intOf i+1).toNat)
 case atStart=>exact⟨0,BM _,by simp,by simpa [JE] using h0,AA _ _⟩
 case round=>
  obtain⟨k,hk,rfl,kS,nZ⟩:=hrel;have ws:=(nZ.cell (p:=⟨Bs,0,none⟩) wq).trans fz;by_cases aG:k<len
  ·obtain⟨x,hx⟩:=Bh (l:=env) (j:=len-1-k) (by omega);have sQ:((len:Int)-1-k)=((len-1-k:Nat):Int):=by omega
   have f9:∀i v,(JN x)[i]?=some v->wr.cell? ⟨b,off+(len-1-k) * 6+i,none⟩=some v:=fun i v hv=>(nZ.cell (p:=⟨b,off+(len-1-k) * 6+i,none⟩) hb).trans (hc _ x hx i v hv);have c0:wr.cell? ⟨b,off+(len-1-k) * 6,none⟩=some (.string x.name):=f9 0 _ rfl;have c1:=f9 1 _ rfl;have c2:=f9 2 _ rfl;have c3:=f9 3 _ rfl;have c4:=f9 4 _ rfl;have c5:=f9 5 _ rfl;have xO:(JE env k).length<len:=by have:=congrArg List.length (Mx env (k:=k) (by omega));simp at this;omega
   obtain⟨fn,tmps,assign,body,hy,hR⟩:=hY _ (((len-1-k:Nat):Int),x) wr kS xO;have jj:=Ov env k (x:=x) (by rw [aJ];exact hx);rw [aJ] at jj;have gv:len-1-k<len:=by omega
   rw [sQ];gi_wp2;refine hR.mono ?_;rintro e W3 (⟨rfl,ru,jb⟩|⟨rfl,ma⟩)
   ·gi_wp2;go_roundw
    case rel=>exact⟨k+1,by omega,by go_num,by rw [jj];exact ru,nZ.trans jb⟩
    case measure=>simp [intOf]<;>omega
   ·gi_wp2;refine Ag (results_none rfl _ _ _) rfl ?_;exact⟨⟨_,rfl⟩,.inr ⟨_,⟨k+1,by omega,jj.symm⟩,ma⟩⟩
  ·obtain rfl:k=len:=by omega
   have pV:((k:Int)-1-k)=-1:=by omega
   rw [pV];gi_wp2;go_end0;exact⟨⟨_,rfl⟩,.inl ⟨_,rfl,kS⟩⟩
theorem UY(F:Fence)(n:Nat)(h5:F.fn 134)(eN:F.round=none)(p:Option Addr)(m c:Nat)(w:World):CallsIn F n prog 134 #[.slice p m c] w fun e w'=>e=.returned (.func (.func 186) #[] #[.pointer (some ⟨w.heap.size,0,none⟩)])/\w'=w.alloc (.cells #[.slice p m c] 82):=by refine ES func134 rfl h5 ?_ eN;simp only [ntmps134,CL,Aq,Bc,Nat.reduceAdd,Nat.reduceSub,CG,CJ,Cg,CP,A6,BK];gi_wp2;go_ret;exact⟨rfl,rfl⟩
theorem OF(F:Fence)(n:Nat)(h7:F.fn 186)(eN:F.round=none)(l Bs:Nat)(J:List (Int×BV)->World->Prop)(W:World)(fz:W.cell? ⟨Bs,0,none⟩=some (.slice p 0 c))(h0:J [] W):CallsIn F n prog 186 #[.func (.yield l) #[] #[],.pointer (some ⟨Bs,0,none⟩)] W fun e W'=>(∃v,e=.returned v)/\J [] W':=by
 refine ES func186 rfl h7 ?_ eN;simp only [ntmps186,CL,Aq,Bc,Nat.reduceAdd,Nat.reduceSub,CG,CJ,Cg,CP,A6,BK];gi_wp2;gi_loopw [3] (fun i wr=>i=.int .i64 (-1)/\J [] wr) (fun _ _=>0)
 case atStart=>exact⟨rfl,h0⟩
 case round=>obtain⟨rfl,kS⟩:=hrel;gi_wp2;go_end0;exact⟨⟨_,rfl⟩,kS⟩
theorem P8(F:Fence)(n:Nat)(h7:F.fn 186)(eN:F.round=none)(hn:1<=n)(Bs:Nat)(w:World)(hr:Ax JN 6 w p m c env)(hm:m<=1000000)(W0:World)(nQ:Below w.heap.size w W0)(fz:Bs<W0.heap.size)(am:W0.cell? ⟨Bs,0,none⟩=some (.slice p m c)):SeqStopsK F n prog 186 #[.pointer (some ⟨Bs,0,none⟩)] (fun x:Int×BV=>#[Value.int .i64 x.1,Ot x.2]) (Below W0.heap.size) (fun ys=>ys.map (·.2)=env.reverse) (fun pre=>(pre.map (·.2)) <+: env.reverse) env.length W0:=fun l J Jx W hW _ _ hY h0=>by
 have ga:=(hW.cell (p:=⟨Bs,0,none⟩) fz).trans am;have aJ:=hr.len;rcases hr.row with h|⟨b,off,rfl,hb,f9⟩
 ·subst h;obtain rfl:m=0:=by simpa using aJ.symm
  exact(OF F n h7 eN l Bs J W ga h0).mono fun e W' ⟨he,hj⟩=>⟨he,.inl ⟨[],rfl,hj⟩⟩
 ·have iJ:b<W0.heap.size:=Ak hb nQ.size;refine(TH F n h7 eN hn l Bs W0.heap.size b off m c env aJ hm iJ fz J Jx (by rw [<-aJ];exact hY) W ga (fun j x hx i v hv=>(hW.cell (p:=⟨b,off+j * 6+i,none⟩) iJ).trans ((nQ.cell (p:=⟨b,off+j * 6+i,none⟩) hb).trans (f9 j x hx i v hv))) h0).mono ?_;rintro e W' ⟨he,⟨ys,rfl,hj⟩|⟨pre,⟨k,hk,rfl⟩,hj⟩⟩
  ·exact⟨he,.inl ⟨_,by show (JE env m).map (·.2)=env.reverse;rw [Mx env (by omega),BU (by simp<;>omega)],hj⟩⟩
  ·exact⟨he,.inr ⟨_,by show (JE env k).map (·.2) <+: env.reverse;rw [Mx env (by omega)];exact List.take_prefix _ _,hj⟩⟩
def IK(env:List BV)(x:ByteArray):Option BV:=env.reverse.find? (fun b=>decide (b.name=x))
theorem Kg(env:List BV)(x:ByteArray):IL (Gg env) x=(IK env x).map BV.er:=by unfold IL IK Gg;rw [<-List.map_reverse,List.find?_map];rfl
abbrev T9:Value:=.agg #[.string ⟨#[]⟩,.int .u8 0,.int .i64 0,.slice none 0 0,.slice none 0 0,.pointer none]
abbrev Zz(b:BV):Obj:=.cells #[.string b.name,.int .u8 b.ty.head.kind,.int .i64 b.ty.head.rho,.slice b.ty.head.ep b.ty.head.en b.ty.head.ec,.slice b.ty.head.kp b.ty.head.kn b.ty.head.kc,.pointer (b.fn.map (fun x=>⟨x.2,0,none⟩))] 145
structure V1(w W:World)(name:ByteArray)(r:Obj)(ok:Bool):Prop where
 b1:W.heap[w.heap.size+1]?=some (.cells #[.string name] 9 (0,0))
 b2:W.heap[w.heap.size+2]?=some r
 b3:W.heap[w.heap.size+3]?=some (.cells #[.bool ok] 4 (0,0))
 below:Below w.heap.size w W
 size:w.heap.size+5<=W.heap.size
theorem V1.own(hr:r.isCells=true)(hB:w.heap.size<=B):OwnFrom B (fun(_:β) W=>V1 w W name r ok):=fun s W W' row hs hg aC=>by
 have ne:∀(k:Nat) (o:Obj),W.heap[k]?=some o->o.isCells=true->some k≠row:=fun k o hk ho e=>by obtain⟨_,o',pY,hc⟩:=aC k e.symm;rw [hk] at pY;cases pY;rw [ho] at hc;cases hc
 have lt:∀(k:Nat) (o:Obj),W.heap[k]?=some o->k<W.heap.size:=fun k o hk=>(AO.1 hk).1;exact⟨(hg.block _ (lt _ _ hs.b1) (ne _ _ hs.b1 rfl)).trans hs.b1,(hg.block _ (lt _ _ hs.b2) (ne _ _ hs.b2 hr)).trans hs.b2,(hg.block _ (lt _ _ hs.b3) (ne _ _ hs.b3 rfl)).trans hs.b3,hs.below.grown hg hs.below.size (fun k e=>AM hB (aC k e).1),AM hs.size hg.size⟩
def Gd(env:List BV)(name:ByteArray)(e:Ending):Prop:=
 match IK env name with
 |some b=>e=.returned (.tuple #[Ot b,.bool true])
 |none=>e=.returned (.tuple #[T9,.bool false])
theorem ZAF(hF:V1 w W name (.cells #[y0,y1,y2,y3,y4,y5] t (0,0)) ok)(u0 u1 u2 u3 u4 u5:Value)(b:Bool):V1 w (((((((W.setCell ⟨w.heap.size+1+1,0,none⟩ u0).setCell ⟨w.heap.size+1+1,1,none⟩ u1).setCell ⟨w.heap.size+1+1,2,none⟩ u2).setCell ⟨w.heap.size+1+1,3,none⟩ u3).setCell ⟨w.heap.size+1+1,4,none⟩ u4).setCell ⟨w.heap.size+1+1,5,none⟩ u5).setCell ⟨w.heap.size+1+1+1,0,none⟩ (.bool b)) name (.cells #[u0,u1,u2,u3,u4,u5] t (0,0)) b/\KeepsOthers W (((((((W.setCell ⟨w.heap.size+1+1,0,none⟩ u0).setCell ⟨w.heap.size+1+1,1,none⟩ u1).setCell ⟨w.heap.size+1+1,2,none⟩ u2).setCell ⟨w.heap.size+1+1,3,none⟩ u3).setCell ⟨w.heap.size+1+1,4,none⟩ u4).setCell ⟨w.heap.size+1+1,5,none⟩ u5).setCell ⟨w.heap.size+1+1+1,0,none⟩ (.bool b)):=by
 have aG:=hF.size;have h6:=Aw (o:=5) u5 (Aw (o:=4) u4 (Aw (o:=3) u3 (Aw (o:=2) u2 (Aw (o:=1) u1 (Aw (o:=0) u0 hF.b2)))));have fj:=Hj (Hj (Hj (Hj (Hj (Ar W (w.heap.size+1+1) 0 u0) (Ar _ (w.heap.size+1+1) 1 u1) (fun b _ h=>h)) (Ar _ (w.heap.size+1+1) 2 u2) (fun b _ h=>h)) (Ar _ (w.heap.size+1+1) 3 u3) (fun b _ h=>h)) (Ar _ (w.heap.size+1+1) 4 u4) (fun b _ h=>h)) (Ar _ (w.heap.size+1+1) 5 u5) (fun b _ h=>h);have lK:=((((Cc W ⟨w.heap.size+1+1,0,none⟩ u0).trans (Cc _ ⟨w.heap.size+1+1,1,none⟩ u1)).trans (Cc _ ⟨w.heap.size+1+1,2,none⟩ u2)).trans (Cc _ ⟨w.heap.size+1+1,3,none⟩ u3)).trans ((Cc _ ⟨w.heap.size+1+1,4,none⟩ u4).trans (Cc _ ⟨w.heap.size+1+1,5,none⟩ u5));generalize ((((((W.setCell ⟨w.heap.size+1+1,0,none⟩ u0).setCell ⟨w.heap.size+1+1,1,none⟩ u1).setCell ⟨w.heap.size+1+1,2,none⟩ u2).setCell ⟨w.heap.size+1+1,3,none⟩ u3).setCell ⟨w.heap.size+1+1,4,none⟩ u4).setCell ⟨w.heap.size+1+1,5,none⟩ u5)=W6 at h6 fj lK ⊢;have dR:=Ar W6 (w.heap.size+1+1+1) 0 (.bool b);have bF:W6.heap[w.heap.size+1+1+1]?=some (.cells #[.bool ok] 4 (0,0)):=(fj.block _ (by omega) (fun e=>by injection e with e;omega)).trans hF.b3;have h7:=Aw (o:=0) (.bool b) bF;have aI:=fj.size;refine⟨⟨?_,?_,by simpa using h7,?_,AM (AM aG fj.size) dR.size⟩,lK.trans (Cc _ _ _)⟩
 ·exact(dR.block _ (by omega) (fun e=>by injection e with e;omega)).trans ((fj.block _ (by omega) (fun e=>by injection e with e;omega)).trans hF.b1)
 ·refine(dR.block _ (by omega) (fun e=>by injection e with e;omega)).trans ?_;simpa using h6
 ·exact(hF.below.grown fj hF.below.size (fun k e=>by injection e with e;omega)).grown dR (by have:=hF.below.size;omega) (fun k e=>by injection e with e;omega)
theorem V1.cells(h:V1 w W name (.cells #[y0,y1,y2,y3,y4,y5] t (0,0)) ok):W.cell? ⟨w.heap.size+1+1,0,none⟩=some y0/\W.cell? ⟨w.heap.size+1+1,1,none⟩=some y1/\W.cell? ⟨w.heap.size+1+1,2,none⟩=some y2/\W.cell? ⟨w.heap.size+1+1,3,none⟩=some y3/\W.cell? ⟨w.heap.size+1+1,4,none⟩=some y4/\W.cell? ⟨w.heap.size+1+1,5,none⟩=some y5/\W.cell? ⟨w.heap.size+1+1+1,0,none⟩=some (.bool ok):=by refine⟨?_,?_,?_,?_,?_,?_,?_⟩<;>simp only [World.cell?,h.b2,h.b3]<;>rfl
theorem V1.put(hr:r.isCells=true)(h:V1 w W name r ok)(hD:w.heap.size<=D)(ho:W.heap[D]?=some o)(hc:o.isCells=false)(o':Obj):V1 w (W.putObj D o') name r ok:=(V1.own (β:=Unit) (B:=w.heap.size) hr (AB _)) () W _ (some D) h (grownBy_putObj' W D o') (fun r e=>by cases e;exact⟨hD,o,ho,hc⟩)
theorem WT{env:List BV}{q:List (Int×BV)}{x:Int×BV}{name:ByteArray}(h:((q++[x]).map (·.2)) <+: env.reverse)(aM:∀y∈q,y.2.name≠name)(hx:x.2.name=name):IK env name=some x.2:=by
 obtain⟨rest,hr⟩:=h;unfold IK;rw [<-hr,Ah,Cf,List.find?_append];have h1:(q.map (·.2)).find? (fun b=>decide (b.name=name))=none:=by rw [Fc];intro b hb;obtain⟨y,hy,rfl⟩:=BI.1 hb;simpa using aM y hy
 rw [h1];simp [hx]
theorem YZ{env:List BV}{ys:List (Int×BV)}{name:ByteArray}(h:ys.map (·.2)=env.reverse)(aM:∀y∈ys,y.2.name≠name):IK env name=none:=by unfold IK;rw [<-h,Fc];intro b hb;obtain⟨y,hy,rfl⟩:=BI.1 hb;simpa using aM y hy
theorem R0(F:Fence)(n:Nat)(h3:F.fn 96)(h5:F.fn 134)(h7:F.fn 186)(eN:F.round=none)(hn:6<=n)(hr:Ax JN 6 w p m c env)(hm:m<=1000000)(rv:Value)(name:ByteArray):CallsIn F n prog 96 #[.agg #[.slice p m c,rv],.string name] w fun e w'=>Gd env name e/\Below w.heap.size w w':=by
 have h1:1<=n:=by omega
 refine callsIn_of_wp_marks func96 rfl h3 ?_ eN;simp only [ntmps96,CL,Aq,Bc,Nat.reduceAdd,Nat.reduceSub,CG,CJ,Cg,CP,A6,BK];gi_wp2_with (gi_at_call 134;refine(UY F (n-1) h5 eN _ _ _ _).mono ?_;rintro e w' ⟨rfl,rfl⟩)
 have ro:V1 w (((((w.alloc (.cells #[.slice p m c,rv] 84)).alloc (.cells #[.string name] 9)).alloc (.cells #[.string ⟨#[]⟩,.int .u8 0,.int .i64 0,.slice none 0 0,.slice none 0 0,.pointer none] 145)).alloc (.cells #[.bool false] 4)).alloc (.cells #[.slice p m c] 82)) name (.cells #[.string ⟨#[]⟩,.int .u8 0,.int .i64 0,.slice none 0 0,.slice none 0 0,.pointer none] 145 (0,0)) false:=by
  have e1:=AG (w.alloc (.cells #[.slice p m c,rv] 84)) (.cells #[.string name] 9);have e2:=AG ((w.alloc (.cells #[.slice p m c,rv] 84)).alloc (.cells #[.string name] 9)) (.cells #[.string ⟨#[]⟩,.int .u8 0,.int .i64 0,.slice none 0 0,.slice none 0 0,.pointer none] 145);have e3:=AG (((w.alloc (.cells #[.slice p m c,rv] 84)).alloc (.cells #[.string name] 9)).alloc (.cells #[.string ⟨#[]⟩,.int .u8 0,.int .i64 0,.slice none 0 0,.slice none 0 0,.pointer none] 145)) (.cells #[.bool false] 4);simp only [AN] at e1 e2 e3;refine⟨?_,?_,?_,?_,by simp⟩
  ·rw [AP _ _ _ (by simp<;>omega),AP _ _ _ (by simp<;>omega),AP _ _ _ (by simp)];exact e1
  ·rw [AP _ _ _ (by simp<;>omega),AP _ _ _ (by simp)];exact e2
  ·rw [AP _ _ _ (by simp)];exact e3
  ·exact(((((AA w.heap.size w).alloc (AB _) _).alloc (by simp) _).alloc (by simp<;>omega) _).alloc (by simp<;>omega) _).alloc (by simp<;>omega) _
 have am:(((((w.alloc (.cells #[.slice p m c,rv] 84)).alloc (.cells #[.string name] 9)).alloc (.cells #[.string ⟨#[]⟩,.int .u8 0,.int .i64 0,.slice none 0 0,.slice none 0 0,.pointer none] 145)).alloc (.cells #[.bool false] 4)).alloc (.cells #[.slice p m c] 82)).cell? ⟨w.heap.size+1+1+1+1,0,none⟩=some (.slice p m c):=by have e:=AG ((((w.alloc (.cells #[.slice p m c,rv] 84)).alloc (.cells #[.string name] 9)).alloc (.cells #[.string ⟨#[]⟩,.int .u8 0,.int .i64 0,.slice none 0 0,.slice none 0 0,.pointer none] 145)).alloc (.cells #[.bool false] 4)) (.cells #[.slice p m c] 82);simp only [AN] at e;simp only [World.cell?,e];rfl
 have aI:(((((w.alloc (.cells #[.slice p m c,rv] 84)).alloc (.cells #[.string name] 9)).alloc (.cells #[.string ⟨#[]⟩,.int .u8 0,.int .i64 0,.slice none 0 0,.slice none 0 0,.pointer none] 145)).alloc (.cells #[.bool false] 4)).alloc (.cells #[.slice p m c] 82)).heap.size=w.heap.size+5:=by simp
 generalize ((((w.alloc (.cells #[.slice p m c,rv] 84)).alloc (.cells #[.string name] 9)).alloc (.cells #[.string ⟨#[]⟩,.int .u8 0,.int .i64 0,.slice none 0 0,.slice none 0 0,.pointer none] 145)).alloc (.cells #[.bool false] 4)).alloc (.cells #[.slice p m c] 82)=W0 at ro am aI ⊢
 refine wpIn_rangeFunc_ownH eN h1 (gf:=186) (lb:=#[.pointer (some ⟨w.heap.size+1+1+1+1,0,none⟩)]) rfl h7 (enters_of func186 (by kernel_rfl) rfl)
  (P8 F (n-1) h7 eN (by omega) (w.heap.size+1+1+1+1) w hr hm W0 ro.below (by omega) am) belowK_t (belowK_b (AB _)) (AA _ _) (fun _=>rfl)
  (fun pre W=>V1 w W name (.cells #[.string ⟨#[]⟩,.int .u8 0,.int .i64 0,.slice none 0 0,.slice none 0 0,.pointer none] 145 (0,0)) false/\∀y∈pre,y.2.name≠name)
  (fun c pre W=>c=.ret/\∃q x,pre=q++[x]/\(∀y∈q,y.2.name≠name)/\x.2.name=name/\V1 w W name (Zz x.2) true)
  (OwnFrom.and (V1.own rfl (by omega)) (fun _ _ _ _ h _ _=>h))
  (fun c s W W' row hs hg aC=>by
   obtain⟨h1,q,x,h2,h3,h4,h5⟩:=hs;exact⟨h1,q,x,h2,h3,h4,(V1.own (β:=Unit) rfl (by omega)) () W W' row h5 hg aC⟩)
  ⟨ro,fun y hy=>by cases hy⟩
  (fun x a' W=>∃Bx,w.heap.size+5<=Bx/\W.heap[Bx]?=some (Zz x.2)/\a'={ tmps:=#[.agg #[.slice p m c,rv],.string name,.pointer (some ⟨w.heap.size,0,none⟩),.pointer (some ⟨w.heap.size+1,0,none⟩),.pointer (some ⟨w.heap.size+1+1,0,none⟩),.pointer (some ⟨w.heap.size+1+1+1,0,none⟩),undef,.pointer (some ⟨Bx,0,none⟩),.pointer (some ⟨w.heap.size,0,none⟩),.slice p m c,.func (.func 186) #[] #[.pointer (some ⟨w.heap.size+1+1+1+1,0,none⟩)],.int .i64 x.1,Ot x.2,undef,undef,undef,undef,undef,undef],defers:=[] })
  (fun x a' s W W' row hs hg aC=>by
   obtain⟨Bx,h1,h2,h3⟩:=hs;refine⟨Bx,h1,(hg.block _ (AO.1 h2).1 (fun e=>?_)).trans h2,h3⟩;obtain⟨_,o',pY,hc⟩:=aC Bx e.symm;rw [h2] at pY;cases pY;cases hc) ?assign ?body ?done ?stop
 case assign=>
  intro l pre x W K hi hK;gi_wp2;have aG:=hi.1.size;refine hK _ _ ((KeepsOthers.alloc _ _).from _) ((AA _ W).alloc (by omega) _) ⟨⟨?_,?_,?_,hi.1.below.alloc (by omega) _,by simp;omega⟩,hi.2⟩ ⟨W.heap.size,by omega,AG W _,rfl⟩
  ·rw [AP _ _ _ (by omega)];exact hi.1.b1
  ·rw [AP _ _ _ (by omega)];exact hi.1.b2
  ·rw [AP _ _ _ (by omega)];exact hi.1.b3
 case body=>
  rintro l pre x a' W hl ⟨r,bW⟩ ⟨hF,aM⟩ ⟨Bx,xp,eU,rfl⟩ aG;have c0:W.cell? ⟨Bx,0,none⟩=some (.string x.2.name):=by simp [World.cell?,eU]
  have c1:W.cell? ⟨Bx,1,none⟩=some (.int .u8 x.2.ty.head.kind):=by simp [World.cell?,eU]
  have c2:W.cell? ⟨Bx,2,none⟩=some (.int .i64 x.2.ty.head.rho):=by simp [World.cell?,eU]
  have c3:W.cell? ⟨Bx,3,none⟩=some (.slice x.2.ty.head.ep x.2.ty.head.en x.2.ty.head.ec):=by simp [World.cell?,eU]
  have c4:W.cell? ⟨Bx,4,none⟩=some (.slice x.2.ty.head.kp x.2.ty.head.kn x.2.ty.head.kc):=by simp [World.cell?,eU]
  have c5:W.cell? ⟨Bx,5,none⟩=some (.pointer (x.2.fn.map (fun x=>⟨x.2,0,none⟩))):=by simp [World.cell?,eU]
  have cn:W.cell? ⟨w.heap.size+1,0,none⟩=some (.string name):=by simp [World.cell?,hF.b1]
  have z0:W.cell? ⟨w.heap.size+1+1,0,none⟩=some (.string ⟨#[]⟩):=by simp only [World.cell?,hF.b2];rfl
  have f0:W.frozen? ⟨w.heap.size+1+1,0,none⟩=false:=by simp only [World.frozen?,hF.b2];rfl
  have z1:W.cell? ⟨w.heap.size+1+1,1,none⟩=some (.int .u8 0):=by simp only [World.cell?,hF.b2];rfl
  have f1:W.frozen? ⟨w.heap.size+1+1,1,none⟩=false:=by simp only [World.frozen?,hF.b2];rfl
  have z2:W.cell? ⟨w.heap.size+1+1,2,none⟩=some (.int .i64 0):=by simp only [World.cell?,hF.b2];rfl
  have f2:W.frozen? ⟨w.heap.size+1+1,2,none⟩=false:=by simp only [World.frozen?,hF.b2];rfl
  have z3:W.cell? ⟨w.heap.size+1+1,3,none⟩=some (.slice none 0 0):=by simp only [World.cell?,hF.b2];rfl
  have f3:W.frozen? ⟨w.heap.size+1+1,3,none⟩=false:=by simp only [World.frozen?,hF.b2];rfl
  have z4:W.cell? ⟨w.heap.size+1+1,4,none⟩=some (.slice none 0 0):=by simp only [World.cell?,hF.b2];rfl
  have f4:W.frozen? ⟨w.heap.size+1+1,4,none⟩=false:=by simp only [World.frozen?,hF.b2];rfl
  have z5:W.cell? ⟨w.heap.size+1+1,5,none⟩=some (.pointer none):=by simp only [World.cell?,hF.b2];rfl
  have f5:W.frozen? ⟨w.heap.size+1+1,5,none⟩=false:=by simp only [World.frozen?,hF.b2];rfl
  have z6:W.cell? ⟨w.heap.size+1+1+1,0,none⟩=some (.bool false):=by simp only [World.cell?,hF.b3];rfl
  have f6:W.frozen? ⟨w.heap.size+1+1+1,0,none⟩=false:=by simp only [World.frozen?,hF.b3];rfl
  by_cases hq:x.2.name=name
  ·have hb:(x.2.name.toList==name.toList)=true:=by rw [hq];simp
   have jh:=ZAF hF (.string name) (.int .u8 x.2.ty.head.kind) (.int .i64 x.2.ty.head.rho) (.slice x.2.ty.head.ep x.2.ty.head.en x.2.ty.head.ec) (.slice x.2.ty.head.kp x.2.ty.head.kn x.2.ty.head.kc) (.pointer (x.2.fn.map (fun x=>⟨x.2,0,none⟩))) true;have eu:=AF jh;clear jh;gi_wp2;exact⟨eu.o.2.from _,rfl,pre,x,rfl,aM,hq,by unfold Zz;rw [hq];exact eu.o.1⟩
  ·have hb:(x.2.name.toList==name.toList)=false:=by rw [Ie];exact CY hq
   gi_wp2
   exact⟨KeepsFrom.refl _ _,AA _ _,hF,fun y hy=>by
    rcases Ac.1 hy with hy|hy
    ·exact aM y hy
    ·rw [AQ] at hy;subst hy;exact hq⟩
 case done=>
  rintro D ys W hD nB ⟨hF,aM⟩ hK;have z0:W.cell? ⟨w.heap.size+1+1,0,none⟩=some (.string ⟨#[]⟩):=by simp only [World.cell?,hF.b2];rfl
  have f0:W.frozen? ⟨w.heap.size+1+1,0,none⟩=false:=by simp only [World.frozen?,hF.b2];rfl
  have z1:W.cell? ⟨w.heap.size+1+1,1,none⟩=some (.int .u8 0):=by simp only [World.cell?,hF.b2];rfl
  have f1:W.frozen? ⟨w.heap.size+1+1,1,none⟩=false:=by simp only [World.frozen?,hF.b2];rfl
  have z2:W.cell? ⟨w.heap.size+1+1,2,none⟩=some (.int .i64 0):=by simp only [World.cell?,hF.b2];rfl
  have f2:W.frozen? ⟨w.heap.size+1+1,2,none⟩=false:=by simp only [World.frozen?,hF.b2];rfl
  have z3:W.cell? ⟨w.heap.size+1+1,3,none⟩=some (.slice none 0 0):=by simp only [World.cell?,hF.b2];rfl
  have f3:W.frozen? ⟨w.heap.size+1+1,3,none⟩=false:=by simp only [World.frozen?,hF.b2];rfl
  have z4:W.cell? ⟨w.heap.size+1+1,4,none⟩=some (.slice none 0 0):=by simp only [World.cell?,hF.b2];rfl
  have f4:W.frozen? ⟨w.heap.size+1+1,4,none⟩=false:=by simp only [World.frozen?,hF.b2];rfl
  have z5:W.cell? ⟨w.heap.size+1+1,5,none⟩=some (.pointer none):=by simp only [World.cell?,hF.b2];rfl
  have f5:W.frozen? ⟨w.heap.size+1+1,5,none⟩=false:=by simp only [World.frozen?,hF.b2];rfl
  have z6:W.cell? ⟨w.heap.size+1+1+1,0,none⟩=some (.bool false):=by simp only [World.cell?,hF.b3];rfl
  have f6:W.frozen? ⟨w.heap.size+1+1+1,0,none⟩=false:=by simp only [World.frozen?,hF.b3];rfl
  have eu:=AF (ZAF hF (.string ⟨#[]⟩) (.int .u8 0) (.int .i64 0) (.slice none 0 0) (.slice none 0 0) (.pointer none) false);gi_wp2;have mb:=eu.o.2.same D _ hK rfl;have hP:=eu.o.1.put rfl (by omega) mb rfl (.deferred none);refine⟨by simp,.inl ⟨_,_,rfl,run_takeDeferred mb,?_⟩⟩;obtain⟨d0,d1,d2,d3,d4,d5,d6⟩:=hP.cells;refine⟨.tuple #[T9,.bool false],?_,by unfold Gd;rw [YZ nB aM],hP.below⟩;clear hK eu mb hP hF z0 z1 z2 z3 z4 z5 z6 f0 f1 f2 f3 f4 f5 f6;simp [results,f96,go_sem,d0,d1,d2,d3,d4,d5,d6]
 case stop=>rintro D cd pre W hD se ⟨rfl,q,x,rfl,aM,hx,hF⟩ hK;gi_wp2;have hP:=hF.put rfl (by omega) hK rfl (.deferred none);refine⟨by simp,.inl ⟨_,_,rfl,run_takeDeferred hK,?_⟩⟩;obtain⟨d0,d1,d2,d3,d4,d5,d6⟩:=hP.cells;refine⟨.tuple #[Ot x.2,.bool true],?_,by unfold Gd;rw [WT se aM hx],hP.below⟩;clear hK hP hF;simp [results,f96,go_sem,d0,d1,d2,d3,d4,d5,d6]
theorem Gx(hr:Ax JN 6 w p m c env)(hm:m<=1000000)(rv:Value)(name:ByteArray):Calls prog 96 #[.agg #[.slice p m c,rv],.string name] w fun e w'=>Gd env name e/\Below w.heap.size w w':=(callsIn_wide (n:=6)).1 (R0 Fence.wide 6 trivial trivial trivial rfl (by omega) hr hm rv name)
end
theorem M5(h:IK env x=some b):b∈env:=by unfold IK at h;have:=Ed h;simpa using this
theorem Y7{W:World}{g:Nat}{cs:Array Value}{t:TypeId}(h:W.heap[g]?=some (.cells cs t (0,0)))(o:Nat)(l:List Value)(hl:∀(i:Nat) (v:Value),l[i]?=some v->cs[o+i]?=some v):W.rangeAt g o l:=fun j v hj=>by rw [AD h];exact hl j v hj
structure V5(w:World)(a:AH)(x y:Value)(g:Nat)(a':AH)(W:World):Prop where
 nd:N8 w a x y W
 kid:JB W g a'
theorem V5.step(h:V5 w a x y g a' W)(hb:Below W.heap.size W W'):V5 w a x y g a' W':=⟨h.nd.step hb,h.kid.below hb⟩
theorem V5.alloc(h:V5 w a x y g a' W)(o:Obj):V5 w a x y g a' (W.alloc o):=h.step bA
theorem V5.drew(h:V5 w a x y g a' W):V5 w a x y g a' W.drew:=h.step (At W)
theorem V5.grown(h:V5 w a x y g a' W)(hg:W.grownBy W' r)(hr:∀b,r=some b->w.heap.size+3<=b/\b<g):V5 w a x y g a' W':=⟨h.nd.grown hg (fun b e=>(hr b e).1),⟨(hg.block _ h.kid.lt (fun e=>by have:=(hr g e.symm).2;omega)).trans h.kid.blk⟩⟩
theorem ZDC:(prog.info? 81).map (fun i=>(i.zero,i.size,i.bytes))=some (some (.agg #[.int .u8 0,.int .i64 0,.slice none 0 0,.slice none 0 0,.slice none 0 0]),5,88):=by kernel_rfl
theorem ZAG(h:IE w0 w S (.node a l) p q n c m mc env rhos)(hu:GZ a.plain rhos=false):Calls prog 63 #[.agg #[.slice p n c,.slice q m mc],DP a] w (Gm w S (Fr (Gg env) rhos a.plain (l.map PA.er))):=by
 have HX:=AF (KE w a (.slice p n c) (.slice q m mc));have HC:=AF h;have HN:=AF (Gh h.lies);have ca:GP a:=h.small a (by rw [Ad.nodes_node];exact BL);have dg:=AF ca;have j4:m<=900000:=by have:=h.hm;omega
 have lR:n<=900000:=by have:=h.hn;omega
 have ku:=AF (LA.below (Gh h.lies).own (h.old.trans (HX.o.below.mono h.old.size)));clear ca;have HU:=AF hu;have HR:Hd (Fr (Gg env) rhos a.plain (l.map PA.er)=.error (a.at_,4)):=by show _=_;unfold Fr;rw [hu];rfl
 rw [HR.o];clear hu h HR;go_enter func63,ntmps63;go_upto_region 1 with fail;generalize (((w.alloc (.cells #[.slice p n c,.slice q m mc] 84)).alloc (Bt a)).alloc (.cells #[.int .u8 0,.int .i64 0,.slice none 0 0,.slice none 0 0,.slice none 0 0] 81))=W1 at *
 go_wp2_with (first
  |(refine lw HX.o.b.b0 underlying84 ?_)
  |(refine lw HX.o.b.b1.blk underlying31 ?_))
 go_at_call 95;refine(Fy ku.o dg.o p n c (HC.o.rhosA.below HX.o.below) j4).mono ?_;rintro e w2 ⟨hr,hb⟩;rw [HU.o] at hr;obtain rfl:=hr.2 rfl;exact⟨rfl,rfl,(HX.o.step hb).below⟩
theorem WV(h:IE w0 w S (.node a l) p q n c m mc env rhos)(hu:GZ a.plain rhos=true)(hk:a.kind=18)(HI:∀W,Below w.heap.size w W->w.heap.size+3<=W.heap.size->Calls prog 97 #[.agg #[.slice p n c,.slice q m mc],DP a] W (Gm W (Si w S) (Hk (Gg env) a.plain))):Calls prog 63 #[.agg #[.slice p n c,.slice q m mc],DP a] w (Gm w S (Fr (Gg env) rhos a.plain (l.map PA.er))):=by
 have HX:=AF (KE w a (.slice p n c) (.slice q m mc));have HC:=AF h;have HN:=AF (Gh h.lies);have ca:GP a:=h.small a (by rw [Ad.nodes_node];exact BL);have dg:=AF ca;have j4:m<=900000:=by have:=h.hm;omega
 have lR:n<=900000:=by have:=h.hn;omega
 have ku:=AF (LA.below (Gh h.lies).own (h.old.trans (HX.o.below.mono h.old.size)));clear ca;have HU:=AF hu;have lu:=AF HI;have HR:Hd (Fr (Gg env) rhos a.plain (l.map PA.er)=Hk (Gg env) a.plain):=by show _=_;unfold Fr;rw [hu];simp [show a.plain.kind=18 from hk,EB]
 rw [HR.o];have e2:(a.kind==2)=false:=by simp [hk]
 have e18:(a.kind==18)=true:=by simp [hk]
 clear hu h HR HI hk;revert lu;generalize Hk (Gg env) a.plain=R;intro lu;go_enter func63,ntmps63;go_upto_region 1 with fail;generalize (((w.alloc (.cells #[.slice p n c,.slice q m mc] 84)).alloc (Bt a)).alloc (.cells #[.int .u8 0,.int .i64 0,.slice none 0 0,.slice none 0 0,.slice none 0 0] 81))=W1 at *
 go_upto_region 2 with(first
  |(refine lw HX.o.b.b0 underlying84 ?_)
  |(refine lw HX.o.b.b1.blk underlying31 ?_)
  |(go_at_call 95;refine(Fy ku.o dg.o p n c (HC.o.rhosA.below HX.o.below) j4).mono ?_;rintro e w2 ⟨hr,hb⟩;rw [HU.o] at hr;obtain rfl:=hr.1 rfl;have aQ:=AF (HX.o.step hb);clear hr))
 have c0:=aQ.o.b.b1.c 0 _ rfl;go_upto_region 9 with fail;clear c0;clear e2 e18;rcases R with⟨r1,r2⟩|r
 ·go_wp2_with (first
   |(refine lw aQ.o.b.b0 underlying84 ?_)
   |(refine lw aQ.o.b.b1.blk underlying31 ?_))
  go_at_call 97;refine(lu.o _ aQ.o.below aQ.o.size).mono ?_;rintro e W9 ⟨hr,hb⟩;subst hr;exact⟨rfl,rfl,(aQ.o.step hb).below⟩
 ·go_wp2_with (first
   |(refine lw aQ.o.b.b0 underlying84 ?_)
   |(refine lw aQ.o.b.b1.blk underlying31 ?_)
   |(go_at_call 97;refine(lu.o _ aQ.o.below aQ.o.size).mono ?_;rintro e W9 ⟨hr,hb⟩;obtain⟨y,rfl,gP,hy⟩:=hr;have aY:=AF (aQ.o.step hb);have HY:=AF hy;have jR:=AF gP;clear hy gP aQ)
   |(refine Hu rfl _ _ _ rfl aY.o (FV y) (by rfl) (by rfl) (by kernel_rfl) rfl (by simp [Value.oneCell']) ?_))
  refine br (aY.o.heap _) underlying81 ?_;exact Qs aY.o HC.o.new HY.o jR.o
theorem Yb(h:IE w0 w S (.node a l) p q n c m mc env rhos)(hu:GZ a.plain rhos=true)(hk:a.kind=2):Calls prog 63 #[.agg #[.slice p n c,.slice q m mc],DP a] w (Gm w S (Fr (Gg env) rhos a.plain (l.map PA.er))):=by
 have HX:=AF (KE w a (.slice p n c) (.slice q m mc));have HC:=AF h;have HN:=AF (Gh h.lies);have ca:GP a:=h.small a (by rw [Ad.nodes_node];exact BL);have dg:=AF ca;have j4:m<=900000:=by have:=h.hm;omega
 have lR:n<=900000:=by have:=h.hn;omega
 have ku:=AF (LA.below (Gh h.lies).own (h.old.trans (HX.o.below.mono h.old.size)));clear ca;have HU:=AF hu;have HR:Hd (Fr (Gg env) rhos a.plain (l.map PA.er)=Oo (Gg env) a.plain):=by show _=_;unfold Fr;rw [hu];simp [show a.plain.kind=2 from hk,EB]
 rw [HR.o];have e2:(a.kind==2)=true:=by simp [hk]
 clear hu h HR hk;cases eA:IK env a.name with
 |none=>
  have HF:Hd (∀e,Gd env a.name e->e=.returned (.tuple #[T9,.bool false])):=fun e he=>by unfold Gd at he;rw [eA] at he;exact he
  have HR:Hd (Oo (Gg env) a.plain=.error (a.at_,4)):=by show _=_;unfold Oo;rw [show a.plain.name=a.name from rfl,Kg,eA];rfl
  rw [HR.o];clear HR eA;go_enter func63,ntmps63;go_upto_region 1 with fail;generalize (((w.alloc (.cells #[.slice p n c,.slice q m mc] 84)).alloc (Bt a)).alloc (.cells #[.int .u8 0,.int .i64 0,.slice none 0 0,.slice none 0 0,.slice none 0 0] 81))=W1 at *
  go_upto_region 2 with(first
   |(refine lw HX.o.b.b0 underlying84 ?_)
   |(refine lw HX.o.b.b1.blk underlying31 ?_)
   |(go_at_call 95;refine(Fy ku.o dg.o p n c (HC.o.rhosA.below HX.o.below) j4).mono ?_;rintro e w2 ⟨hr,hb⟩;rw [HU.o] at hr;obtain rfl:=hr.1 rfl;have aQ:=AF (HX.o.step hb);clear hr))
  have c0:=aQ.o.b.b1.c 0 _ rfl;go_upto_region 4 with fail;clear c0;clear e2;have c4:=aQ.o.b.b1.c 4 _ rfl
  go_upto_region 5 with(first
   |(refine lw aQ.o.b.b0 underlying84 ?_)
   |(go_at_call 96;refine(Gx (HC.o.envA.row.below aQ.o.below) (by omega) (.slice q m mc) a.name).mono ?_;rintro e w3 ⟨hf,hb⟩;obtain rfl:=HF.o _ hf;have bC:=AF (aQ.o.step hb);have cw:=AF (AG w3 (.cells #[.string ⟨#[]⟩,.int .u8 0,.int .i64 0,.slice none 0 0,.slice none 0 0,.pointer none] 145));clear hf hb)
   |(refine sw #[.string ⟨#[]⟩,.int .u8 0,.int .i64 0,.slice none 0 0,.slice none 0 0,.pointer none] cw.o ?_;rw [Av]))
  clear c4;have cy:=AF (bC.o.alloc (.cells #[.string ⟨#[]⟩,.int .u8 0,.int .i64 0,.slice none 0 0,.slice none 0 0,.pointer none] 145));generalize (w3.alloc (.cells #[.string ⟨#[]⟩,.int .u8 0,.int .i64 0,.slice none 0 0,.slice none 0 0,.pointer none] 145))=W4 at *
  go_wp2_with (first
   |(refine lw cy.o.b.b1.blk underlying31 ?_))
  go_at_call 64;refine(D3 a 4 _).mono ?_;rintro e w9 ⟨rfl,hb⟩;exact⟨rfl,rfl,(cy.o.step hb).below⟩
 |some b=>
  have HF:Hd (∀e,Gd env a.name e->e=.returned (.tuple #[Ot b,.bool true])):=fun e he=>by unfold Gd at he;rw [eA] at he;exact he
  have fI:b∈env:=M5 eA;have iO:=AF (HC.o.envA.each b fI);obtain⟨u,hu⟩:∃u,(b.fn.map (fun x=>(⟨x.2,0,none⟩:Addr))).isNone=u:=⟨_,rfl⟩;have HR:Hd (Oo (Gg env) a.plain=EB u a.plain 5 (.ok (b.ty.er,[]))):=by show _=_;unfold Oo;rw [show a.plain.name=a.name from rfl,Kg,eA,<-hu];show EB (BV.er b).fn.isNone a.plain 5 _=_;unfold BV.er;cases b.fn<;>rfl
  rw [HR.o];clear HR eA;go_enter func63,ntmps63;go_upto_region 1 with fail;generalize (((w.alloc (.cells #[.slice p n c,.slice q m mc] 84)).alloc (Bt a)).alloc (.cells #[.int .u8 0,.int .i64 0,.slice none 0 0,.slice none 0 0,.slice none 0 0] 81))=W1 at *
  go_upto_region 2 with(first
   |(refine lw HX.o.b.b0 underlying84 ?_)
   |(refine lw HX.o.b.b1.blk underlying31 ?_)
   |(go_at_call 95;refine(Fy ku.o dg.o p n c (HC.o.rhosA.below HX.o.below) j4).mono ?_;rintro e w2 ⟨hr,hb⟩;rw [HU.o] at hr;obtain rfl:=hr.1 rfl;have aQ:=AF (HX.o.step hb);clear hr))
  have c0:=aQ.o.b.b1.c 0 _ rfl;go_upto_region 4 with fail;clear c0;clear e2;have c4:=aQ.o.b.b1.c 4 _ rfl
  go_upto_region 5 with(first
   |(refine lw aQ.o.b.b0 underlying84 ?_)
   |(go_at_call 96;refine(Gx (HC.o.envA.row.below aQ.o.below) (by omega) (.slice q m mc) a.name).mono ?_;rintro e w3 ⟨hf,hb⟩;obtain rfl:=HF.o _ hf;have bC:=AF (aQ.o.step hb);have cw:=AF (AG w3 (.cells #[.string ⟨#[]⟩,.int .u8 0,.int .i64 0,.slice none 0 0,.slice none 0 0,.pointer none] 145));clear hf hb)
   |(refine sw #[.string b.name,.int .u8 b.ty.head.kind,.int .i64 b.ty.head.rho,.slice b.ty.head.ep b.ty.head.en b.ty.head.ec,.slice b.ty.head.kp b.ty.head.kn b.ty.head.kc,.pointer (b.fn.map (fun x=>⟨x.2,0,none⟩))] cw.o ?_;rw [Av]))
  clear c4;have cy:=AF (bC.o.alloc (.cells #[.string b.name,.int .u8 b.ty.head.kind,.int .i64 b.ty.head.rho,.slice b.ty.head.ep b.ty.head.en b.ty.head.ec,.slice b.ty.head.kp b.ty.head.kn b.ty.head.kc,.pointer (b.fn.map (fun x=>⟨x.2,0,none⟩))] 145));have fP:=AF (AG w3 (.cells #[.string b.name,.int .u8 b.ty.head.kind,.int .i64 b.ty.head.rho,.slice b.ty.head.ep b.ty.head.en b.ty.head.ec,.slice b.ty.head.kp b.ty.head.kn b.ty.head.kc,.pointer (b.fn.map (fun x=>⟨x.2,0,none⟩))] 145));obtain⟨g,hg⟩:∃g,w3.heap.size=g:=⟨_,rfl⟩;rw [hg] at fP ⊢;generalize (w3.alloc (.cells #[.string b.name,.int .u8 b.ty.head.kind,.int .i64 b.ty.head.rho,.slice b.ty.head.ep b.ty.head.en b.ty.head.ec,.slice b.ty.head.kp b.ty.head.kn b.ty.head.kc,.pointer (b.fn.map (fun x=>⟨x.2,0,none⟩))] 145))=W4 at *
  clear hg
  go_upto_region 6 with(first
   |(refine lw cy.o.b.b1.blk underlying31 ?_)
   |(go_at_call 64;refine(Dw a 4 _).mono ?_;rintro e w5 ⟨rfl,hb⟩;have du:=AF (cy.o.step hb);have gR:=AF ((hb.block _ (AO.1 fP.o).1).trans fP.o);clear hb))
  have g5:w5.cell? ⟨g,5,none⟩=some (.pointer (b.fn.map (fun x=>⟨x.2,0,none⟩))):=by rw [AD gR.o];rfl
  obtain⟨P,hP⟩:∃P,b.fn.map (fun x=>(⟨x.2,0,none⟩:Addr))=P:=⟨_,rfl⟩;rw [hP] at g5 hu;cases P with
  |some ad=>
   obtain rfl:u=false:=by rw [<-hu];rfl
   go_wp2_with (first
    |(refine lw du.o.b.b1.blk underlying31 ?_))
   go_at_call 64;refine(D3 a 5 _).mono ?_;rintro e w9 ⟨rfl,hb⟩;exact⟨rfl,rfl,(du.o.step hb).below⟩
  |none=>
   obtain rfl:u=true:=by rw [<-hu];rfl
   go_upto_region 7 with(first
    |(refine lw du.o.b.b1.blk underlying31 ?_)
    |(go_at_call 64;refine(Dw a 5 _).mono ?_;rintro e w6 ⟨rfl,hb⟩;have gZ:=AF (du.o.step hb);have vt:=AF ((hb.block _ (AO.1 gR.o).1).trans gR.o);clear hb))
   clear g5 hu hP
   go_wp2_with (first
    |(refine l4 b.ty (Y7 vt.o 1 _ (by intro i v hv;match i,hv with|0,hv=>exact hv|1,hv=>exact hv|2,hv=>exact hv|3,hv=>exact hv)) underlying28 ?_)
    |(refine Hu rfl _ _ _ rfl gZ.o (FV ⟨b.ty,none,0,0,[]⟩) (by rfl) (by rfl) (by kernel_rfl) rfl (by simp [Value.oneCell']) ?_))
   refine br (gZ.o.heap _) underlying81 ?_;exact Qs (y:=⟨b.ty,none,0,0,[]⟩) gZ.o HC.o.new ⟨LR.lies_below gZ.o.below _ iO.o.ty,fun x hx=>.inl ⟨CW _ iO.o.ty x hx,iO.o.uses x hx⟩,Ax.none _ _ _,fun x hx=>(nomatch hx),fun aM=>absurd rfl aM⟩ rfl
end Go.Proofs.YtkdjnegfnhldpaaGreatDoor
