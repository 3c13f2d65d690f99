/- Part 11. -/
import Derived.ArgAppend
import Derived.Deep.Upon
import Derived.Test.YtkdjnegfnhldpaaGreatDoorK10
set_option linter.unusedVariables false
set_option maxRecDepth 100000
set_option linter.unusedSimpArgs false
set_option maxHeartbeats 40000000
set_option autoImplicit true
set_option relaxedAutoImplicit true
namespace Go.Proofs.YtkdjnegfnhldpaaGreatDoor
open Go.Proofs.Tryz Go.RowKit
def QB:Option Addr->List Nat
 |some ad=>[ad.block]
 |none=>[]
theorem MQ:b∈QB p↔∃ad,p=some ad/\ad.block=b:=by
 cases p with
 |none=>simp [QB]
 |some ad=>simp [QB,eq_comm]
def Dy:PT->List Nat:=Ad.fold (fun a l=>(if l.isEmpty then [] else QB a.kp)++(if a.eff.isEmpty then [] else QB a.ep)++l.flatten)
theorem H4(a:RH)(l:List PT):Dy (.node a l)=(if l.isEmpty then [] else QB a.kp)++(if a.eff.isEmpty then [] else QB a.ep)++l.flatMap Dy:=by unfold Dy;rw [Ad.fold_node,List.isEmpty_map,List.flatMap_def]
theorem ZBh(hl:l≠[])(h:a.kp=some ad):ad.block∈Dy (.node a l):=by
 rw [H4];cases l with
 |nil=>exact absurd rfl hl
 |cons x l=>simp [MQ,h]
theorem ZBg(hl:a.eff≠[])(h:a.ep=some ad):ad.block∈Dy (.node a l):=by
 rw [H4];cases he:a.eff with
 |nil=>exact absurd he hl
 |cons x m=>simp [MQ,h]
theorem Ss(ht:t∈l)(hb:b∈Dy t):b∈Dy (.node a l):=by rw [H4];exact Ac.2 (.inr (Dr.2 ⟨t,ht,hb⟩))
theorem JA(h:b∈Dy (.node a l)):(l≠[]/\∃ad,a.kp=some ad/\ad.block=b)\/(a.eff≠[]/\∃ad,a.ep=some ad/\ad.block=b)\/∃t∈l,b∈Dy t:=by
 rw [H4,Ac,Ac] at h;rcases h with(h|h)|h
 ·refine .inl ?_;split at h
  ·cases h
  ·rename_i hl;exact⟨by intro e;subst e;simp at hl,MQ.1 h⟩
 ·refine .inr (.inl ?_);split at h
  ·cases h
  ·rename_i hl;exact⟨by intro e;rw [e] at hl;simp at hl,MQ.1 h⟩
 ·exact .inr (.inr (Dr.1 h))
theorem FM(h:DK enc k w p l)(hl:l≠[])(hp:p=some ad):ad.block<w.heap.size:=by
 rcases h with h|⟨b,o,hb,aG,_⟩
 ·exact absurd h hl
 ·rw [hp] at hb;cases hb;exact aG
theorem CW(t:PT):LR.lies w t->∀b∈Dy t,b<w.heap.size:=by
 refine Ad.ind (P:=fun(t:PT)=>LR.lies w t->∀b∈Dy t,b<w.heap.size) (fun a l ih h b hb=>?_) t;have hn:=Fs h;rcases JA hb with⟨hl,ad,hp,rfl⟩|⟨hl,ad,hp,rfl⟩|⟨u,hu,hb⟩
 ·exact FM hn.kids.row hl hp
 ·exact FM hn.own.eff.row hl hp
 ·exact ih u hu (hn.each u hu) b hb
theorem GN(hg:w.grownBy w' r)(t:PT):(∀b∈Dy t,r≠some b)->LR.lies w t->LR.lies w' t:=by refine Ad.ind (P:=fun(t:PT)=>(∀b∈Dy t,r≠some b)->LR.lies w t->LR.lies w' t) (fun a l ih ho h=>?_) t;have hn:=Fs h;refine Dz.lies ⟨⟨Ca hg (fun he ad hp=>ho _ (ZBg he hp)) hn.own.eff,hn.own.ok,hn.own.k0,hn.own.k1,hn.own.r0,hn.own.r1,hn.own.kmax,hn.own.kle,hn.own.knil⟩,Ca hg (fun hl ad hp=>ho _ (ZBh hl hp)) hn.kids,fun t ht=>ih t ht (fun b hb=>ho b (Ss ht hb)) (hn.each t ht)⟩
theorem Om(t:PT):He N B E t->∀b∈Dy t,b<N\/B<=b:=by
 refine Ad.ind (P:=fun(t:PT)=>He N B E t->∀b∈Dy t,b<N\/B<=b) (fun a l ih h b hb=>?_) t;have h0:=h a (by rw [Ad.nodes_node];simp);rcases JA hb with⟨hl,ad,hp,rfl⟩|⟨hl,ad,hp,rfl⟩|⟨u,hu,hb⟩
 ·exact .inr (h0.1 ad hp).1
 ·exact(h0.2 hl ad hp).1
 ·exact ih u hu (fun x hx=>h x (by rw [Ad.nodes_node,AS,BS];exact .inr ⟨u.nodes,Au hu,hx⟩)) b hb
structure BV where
 name:ByteArray
 ty:PT
 fn:Option (AH×Nat)
def JN(b:BV):List Value:=[.string b.name,.int .u8 b.ty.head.kind,.int .i64 b.ty.head.rho,.slice b.ty.head.ep b.ty.head.en b.ty.head.ec,.slice b.ty.head.kp b.ty.head.kn b.ty.head.kc,.pointer (b.fn.map (fun x=>⟨x.2,0,none⟩))]
theorem Ig(b:BV):(JN b).length=6:=rfl
theorem YV:∀b:BV,∀u∈JN b,u.oneCell'=true:=by intro b u hu;simp [JN] at hu;rcases hu with rfl|rfl|rfl|rfl|rfl|rfl<;>rfl
abbrev Ot(b:BV):Value:=.agg #[.string b.name,.int .u8 b.ty.head.kind,.int .i64 b.ty.head.rho,.slice b.ty.head.ep b.ty.head.en b.ty.head.ec,.slice b.ty.head.kp b.ty.head.kn b.ty.head.kc,.pointer (b.fn.map (fun x=>⟨x.2,0,none⟩))]
def BV.er(b:BV):OA:=⟨b.name,b.ty.er,b.fn.map (fun x=>x.1.plain)⟩
structure BV.Ok(w0 w:World)(S:Nat->Prop)(b:BV):Prop where
 ty:LR.lies w b.ty
 uses:∀x∈Dy b.ty,S x
 fn:∀a g,b.fn=some (a,g)->La w g 0 a/\AH.Own w0 a/\g<w.heap.size
 name:b.name.size<=9223372036854775807
theorem BV.Ok.below{w0 w w':World}{S:Nat->Prop}{b:BV}(h:b.Ok w0 w S)(hb:Below w.heap.size w w'):b.Ok w0 w' S:=⟨LR.lies_below hb _ h.ty,h.uses,fun a g e=>⟨(h.fn a g e).1.below hb (h.fn a g e).2.2,(h.fn a g e).2.1,Ak (h.fn a g e).2.2 hb.size⟩,h.name⟩
theorem BV.Ok.weak{w0 w:World}{S S':Nat->Prop}{b:BV}(h:b.Ok w0 w S)(hs:∀x∈Dy b.ty,S' x):b.Ok w0 w S':=⟨h.ty,hs,h.fn,h.name⟩
structure Gl(w0 w:World)(S:Nat->Prop)(p:Option Addr)(n c:Nat)(env:List BV):Prop where
 row:Ax JN 6 w p n c env
 each:∀b∈env,b.Ok w0 w S
theorem Gl.below(h:Gl w0 w S p n c env)(hb:Below w.heap.size w w'):Gl w0 w' S p n c env:=⟨h.row.below hb,fun b fI=>(h.each b fI).below hb⟩
theorem Gl.weak(h:Gl w0 w S p n c env)(hs:∀x,x<w.heap.size->S x->S' x):Gl w0 w S' p n c env:=⟨h.row,fun b hb=>(h.each b hb).weak (fun x hx=>hs x (CW _ (h.each b hb).ty x hx) ((h.each b hb).uses x hx))⟩
def Gg(env:List BV):List OA:=env.map BV.er
structure RV where
 ty:PT
 ep:Option Addr
 en:Nat
 ec:Nat
 eff:List BB
def Fm(r:RV):List Value:=[.int .u8 r.ty.head.kind,.int .i64 r.ty.head.rho,.slice r.ty.head.ep r.ty.head.en r.ty.head.ec,.slice r.ty.head.kp r.ty.head.kn r.ty.head.kc,.slice r.ep r.en r.ec]
theorem Ke(r:RV):(Fm r).length=5:=rfl
theorem YW:∀r:RV,∀u∈Fm r,u.oneCell'=true:=by intro r u hu;simp [Fm] at hu;rcases hu with rfl|rfl|rfl|rfl|rfl<;>rfl
abbrev Ou(r:RV):Value:=.agg #[.int .u8 r.ty.head.kind,.int .i64 r.ty.head.rho,.slice r.ty.head.ep r.ty.head.en r.ty.head.ec,.slice r.ty.head.kp r.ty.head.kn r.ty.head.kc,.slice r.ep r.en r.ec]
def RV.er(r:RV):TE:=(r.ty.er,r.eff)
structure RV.Ok(w:World)(S:Nat->Prop)(r:RV):Prop where
 ty:LR.lies w r.ty
 uses:∀x∈Dy r.ty,S x
 eff:Ax Ce 3 w r.ep r.en r.ec r.eff
 eok:∀x∈r.eff,LT x
 euse:r.eff≠[]->∀ad,r.ep=some ad->S ad.block
theorem RV.Ok.below{w w':World}{S:Nat->Prop}{r:RV}(h:r.Ok w S)(hb:Below w.heap.size w w'):r.Ok w' S:=⟨LR.lies_below hb _ h.ty,h.uses,h.eff.below hb,h.eok,h.euse⟩
theorem RV.Ok.weak{w:World}{S S':Nat->Prop}{r:RV}(h:r.Ok w S)(hs:∀x,x<w.heap.size->S x->S' x):r.Ok w S':=⟨h.ty,fun x hx=>hs x (CW _ h.ty x hx) (h.uses x hx),h.eff,h.eok,fun he ad hp=>hs _ (FM h.eff.row he hp) (h.euse he ad hp)⟩
theorem RV.Ok.grown{w w':World}{S:Nat->Prop}{r:RV}{row:Option Nat}(h:r.Ok w S)(hg:w.grownBy w' row)(hr:∀b,row=some b->¬S b):r.Ok w' S:=⟨GN hg _ (fun b hb e=>hr b e (h.uses b hb)) h.ty,h.uses,Ca hg (fun he ad hp e=>hr _ e (h.euse he ad hp)) h.eff,h.eok,h.euse⟩
structure NZ(w:World)(S:Nat->Prop)(p:Option Addr)(n c:Nat)(l:List RV):Prop where
 row:Ax Fm 5 w p n c l
 each:∀r∈l,r.Ok w S
theorem NZ.below(h:NZ w S p n c l)(hb:Below w.heap.size w w'):NZ w' S p n c l:=⟨h.row.below hb,fun r hr=>(h.each r hr).below hb⟩
def Em(l:List RV):List TE:=l.map RV.er
abbrev NS(at_ no:Int):Value:=.iface 79 (.agg #[.int .i64 at_,.int .i64 no])
def Gm(W:World)(S:Nat->Prop)(r:Lc)(e:Ending)(w':World):Prop:=
 (match r with
  |.ok x=>∃y:RV,e=.returned (Ou y)/\y.er=x/\y.Ok w' S
  |.error (a,n)=>e=.panicked [{ v:=NS a n,recovered:=false }])/\Below W.heap.size W w'
theorem Hg(r:Int)(w:World):Calls prog 137 #[.int .i64 r] w (RB w (TC (Hw r))):=by go_enter func137,ntmps137;go_wp2_with fail;refine br (AG w _) underlying59 ?_;exact⟨rfl,(AA w.heap.size w).alloc (AB _) _⟩
theorem Gb(r:Int)(w:World):Calls prog 138 #[.int .i64 r] w (RB w (TC (Fu r))):=by go_enter func138,ntmps138;go_wp2_with fail;refine br (AG w _) underlying59 ?_;exact⟨rfl,(AA w.heap.size w).alloc (AB _) _⟩
theorem Dw(a:AH)(no:Int)(w:World):Calls prog 64 #[.bool true,DP a,.int .i64 no] w (RB w (.tuple #[])):=by have HB:=AF ((AA w.heap.size w).alloc (AB _) (Bt a));go_enter func64,ntmps64;go_wp2_with fail;go_end0;exact⟨rfl,HB.o⟩
theorem D3(a:AH)(no:Int)(w:World):Calls prog 64 #[.bool false,DP a,.int .i64 no] w fun e w'=>e=.panicked [{ v:=NS a.at_ no,recovered:=false }]/\Below w.heap.size w w':=by have HB:=AF ((AA w.heap.size w).alloc (AB _) (Bt a));go_enter func64,ntmps64;go_wp2_with fail;exact⟨rfl,rfl,HB.o⟩
theorem Mn(r:RV)(k:Int)(w:World):Calls prog 141 #[Ou r,.int .u8 k] w (RB w (.bool (r.ty.head.kind==k))):=by go_enter func141,ntmps141;go_wp2_with fail;go_ret;exact⟨Af rfl,(AA w.heap.size w).alloc (AB _) _⟩
theorem GQ(k rho:Int)(hr:Ax Ce 3 w p n c l)(hm:n<=1000000)(kp:Option Addr)(kn kc:Nat):Calls prog 136 #[.int .u8 k,.int .i64 rho,.slice p n c,.slice kp kn kc] w fun e w'=>∃q m qc,e=.returned (.agg #[.int .u8 k,.int .i64 rho,.slice q m qc,.slice kp kn kc])/\Ax Ce 3 w' q m qc (GV l)/\(∀ad,q=some ad->w.heap.size<=ad.block)/\Below w.heap.size w w':=by
 have nQ:Below w.heap.size w (w.alloc (.cells #[.int .u8 0,.int .i64 0,.slice none 0 0,.slice none 0 0] 28)):=(AA w.heap.size w).alloc (AB _) _;have HR:=AF (hr.below nQ);have cg:=AF nQ;clear hr nQ;go_enter func136,ntmps136;go_wp2_with fail;refine(FB p n c l _ HR.o.len hm HR.o.row).mono ?_;rintro e w2 ⟨v,m,rfl,di,aD,hb⟩;obtain⟨q,qc,rfl,aC⟩:=A1.isRow BF (by omega) aD;have lE:=fun b hb=>A1.from aD b hb;have a6:=AF aC;have vq:=AF lE;have HB:=bt cg hb;have iX:w2.heap[w.heap.size]?=some (.cells #[.int .u8 0,.int .i64 0,.slice none 0 0,.slice none 0 0] 28 (0,0)):=(hb.block _ (by simp)).trans (AG w _);have np:=AF iX;clear aD aC lE hb iX;go_wp2_with (refine sw #[.int .u8 k,.int .i64 rho,.slice q m qc,.slice kp kn kc] np.o ?_);refine br (AL _ _ _ _ _ _ np.o) underlying28 ?_;have hg:w2.grownBy (w2.setRow w.heap.size #[.int .u8 k,.int .i64 rho,.slice q m qc,.slice kp kn kc]) (some w.heap.size):=⟨rfl,rfl,rfl,by simp,fun k hk aM=>AR _ _ _ _ (fun e=>aM (by rw [e]))⟩;have aM:∀ad,q=some ad->w.heap.size+1<=ad.block:=fun ad hp=>by subst hp;have:=vq.o ad.block rfl;simpa using this
 exact⟨q,m,qc,rfl,Ca hg (fun _ ad hp e=>by have:=aM ad hp;injection e with e;omega) a6.o,fun ad hp=>by have:=aM ad hp;omega,HB.o.grown hg HB.o.size (fun k e=>by cases e;exact AB _)⟩
theorem VS(hk:∀x,(enc x).length=k)(ao:0<k)(h:DK enc k w (some ad) l):∀j u,(l.flatMap enc)[j]?=some u->w.cell? (ad.add j)=some u:=by
 intro j u hj;rcases h with h0|⟨b,o',hb,aG,hc⟩
 ·subst h0;simp at hj
 ·cases hb
  have j0:j<l.length * k:=by rw [<-DO hk];exact DI hj
  have hq:j / k<l.length:=Ea (by rw [Nat.mul_comm];exact j0);have hm:j % k<k:=Nat.mod_lt _ ao;have hf:=Gr hk l (j / k) _ (j % k) (AI hq) hm;rw [DL j k,hj] at hf;have:=hc (j / k) _ (AI hq) (j % k) u hf.symm;rw [Ja,<-DL j k,<-EV];exact this
theorem Pe(hk:∀x,(enc x).length=k)(ao:0<k)(h1:∀y,∀u∈enc y,u.oneCell'=true)(t ty e:TypeId)(z:Value)(bytes:Nat)(ht:P.underlying t=some (.slice e))(ct:(P.info? e).map (fun i=>(i.zero,i.size,i.bytes))=some (some z,k,bytes))(iz:z.cells.size=k)(hr:Ax enc k w p n n l)(bW:Ax enc k w q m c l')(av:(n+m) * bytes<=140737488355328)(mZ:n+m<=1000000):∃p' c' w',(Builtin.append_ #[t,t] ty #[.slice p n n,.slice q m c]).run P w=.ok (.slice p' (n+m) c') w'/\Ax enc k w' p' (n+m) c' (l++l')/\Below w.heap.size w w'/\(l'=[]/\p'=p\/∀ad,p'=some ad->w.heap.size<=ad.block):=by
 obtain⟨i,hi,hz,cv,iu⟩:=ET ct;rcases Nat.eq_zero_or_pos m with h0|gK
 ·subst h0;have iZ:l'=[]:=BA.1 bW.len;subst iZ
  have hs:Src P i.size t (.slice q 0 c) 0 [] w:=by
   cases q with
   |none=>exact Src.ofNil w ht c
   |some ad=>exact Src.ofSlice w ht ad 0 c [] (by simp) (by intro j u h;simp at h) (by simp)
  exact⟨p,n,w,run_append_nothing w t t ty e i ht hi p n n (AB _) _ hs,by simpa using hr,AA _ _,.inl ⟨rfl,rfl⟩⟩
 ·have hq:∃ad,q=some ad:=by
   cases q with
   |none=>have:=bW.nil rfl;have:=bW.le;omega
   |some ad=>exact⟨ad,rfl⟩
  obtain⟨ad',rfl⟩:=hq;have lT:=VS hk ao bW.row;have sd:∀u∈l'.flatMap enc,u.oneCell'=true:=fun u hu=>by obtain⟨y,_,hy⟩:=Dr.1 hu;exact h1 y u hy
  have fin:∀v' w',(Builtin.append_ #[t,t] ty #[.slice p n n,.slice (some ad') m c]).run P w=.ok v' w'->A1 enc k w' w.heap.size e v' (n+m) (l++l')->w.grownBy w' none->∃p' c' w',(Builtin.append_ #[t,t] ty #[.slice p n n,.slice (some ad') m c]).run P w=.ok (.slice p' (n+m) c') w'/\Ax enc k w' p' (n+m) c' (l++l')/\Below w.heap.size w w'/\(l'=[]/\p'=p\/∀ad,p'=some ad->w.heap.size<=ad.block):=fun v' w' dj aD hg=>by obtain⟨p',c',rfl,aC⟩:=A1.isRow hk ao aD;exact⟨p',c',w',dj,aC,Ik hg (AB _) (fun b h=>by cases h),.inr (fun ad hp=>by subst hp;exact A1.from aD ad.block rfl)⟩
  cases p with
  |some ad=>
   obtain⟨v',w',dj,aD,hg⟩:=run_append_arg_grows (P:=P) w t ty e i z k bytes ht hi hz cv iu iz ao ad n n (l.flatMap enc) (by rw [DO hk,hr.len]) (VS hk ao hr.row) ad' m c (l'.flatMap enc) (by rw [DO hk,bW.len]) lT (by omega) (by unfold maxLen;omega) av;exact fin v' w' dj (by unfold A1;rw [Ci];exact aD) hg
  |none=>
   have ei:=hr.nil rfl;subst ei;have iZ:l=[]:=BA.1 hr.len;subst iZ;obtain⟨v',w',dj,aD,hg,_,_⟩:=run_append_own_at (P:=P) w w.heap.size t ty e i z k bytes ht hi hz cv iu iz ao (.slice none 0 0) 0 [] (World.ownsRow_nil _ _ _ _) ad' m c (l'.flatMap enc) (by rw [DO hk,bW.len]) lT sd (by unfold maxLen;omega) av (AB _);exact fin v' w' dj (by unfold A1;simpa using aD) hg
theorem Jz(bM:o.guard=none)(s x:Operand)(t:TypeId)(ho:o.op=.call { callee:=.builtin .append,args:=#[s,x],argTypes:=#[t,t] })(enc:α->List Value)(k:Nat)(hk:∀x,(enc x).length=k)(ao:0<k)(h1:∀y,∀u∈enc y,u.oneCell'=true)(e:TypeId)(z:Value)(bytes:Nat)(ht:P.underlying t=some (.slice e))(ct:(P.info? e).map (fun i=>(i.zero,i.size,i.bytes))=some (some z,k,bytes))(iz:z.cells.size=k)(p q:Option Addr)(n m c:Nat)(l l':List α)(hs:a.eval s=.slice p n n)(hx:a.eval x=.slice q m c)(hr:Ax enc k w p n n l)(bW:Ax enc k w q m c l')(av:(n+m) * bytes<=140737488355328)(mZ:n+m<=1000000)(h:∀p' c' w',Ax enc k w' p' (n+m) c' (l++l')->Below w.heap.size w w'->(l'=[]/\p'=p\/∀ad,p'=some ad->w.heap.size<=ad.block)->wpList P ops Q rest (a.put o.dst (.slice p' (n+m) c')) w'):wpList P ops Q (o::rest) a w:=by refine wpList_plain bM fun K' mb=>?_;obtain⟨p',c',w',dj,aC,hb,cM⟩:=Pe (P:=P) hk ao h1 t o.type e z bytes ht ct iz hr bW av mZ;unfold Oper.wp execOp;simp only [ho,resolve,invoke,builtin,Do,Sem.run_pure,Result.andThen_ok,List.map_toArray,AV,Am,hs,hx,dj];exact mb _ _ (h p' c' w' aC hb cM)
theorem YP(hr:Ax DE 1 w p n c l):Calls prog 184 #[.slice p n c] w fun e w'=>e=.returned (.slice p n n)/\w=w':=by
 have HR:=AF hr;have di:=hr.le;have hm:=hr.max;clear hr;cases p with
 |none=>
  have hc:=HR.o.nil rfl;subst hc;obtain rfl:n=0:=by omega
  go_enter func184,ntmps184;go_wp2_with fail;go_ret;exact⟨rfl,rfl⟩
 |some ad=>
  obtain⟨b,o,s⟩:=ad;go_enter func184,ntmps184;go_wp2_with fail;go_ret;exact⟨rfl,rfl⟩
theorem YO(hr:Ax JN 6 w p n c l):Calls prog 190 #[.slice p n c] w fun e w'=>e=.returned (.slice p n n)/\w=w':=by
 have HR:=AF hr;have di:=hr.le;have hm:=hr.max;clear hr;cases p with
 |none=>
  have hc:=HR.o.nil rfl;subst hc;obtain rfl:n=0:=by omega
  go_enter func190,ntmps190;go_wp2_with fail;go_ret;exact⟨rfl,rfl⟩
 |some ad=>
  obtain⟨b,o,s⟩:=ad;go_enter func190,ntmps190;go_wp2_with fail;go_ret;exact⟨rfl,rfl⟩
theorem Ax.clip(h:Ax enc k w p n c l):Ax enc k w p n n l:=⟨h.len,h.max,AB _,fun e=>by have:=h.nil e;have:=h.le;omega,h.row⟩
theorem ZDB:(prog.info? 145).map (fun i=>(i.zero,i.size,i.bytes))=some (some (.agg #[.string .empty,.int .u8 0,.int .i64 0,.slice none 0 0,.slice none 0 0,.pointer none]),6,88):=by kernel_rfl
structure UQ(w W:World)(x y:Value):Prop where
 b0:W.heap[w.heap.size]?=some (.cells #[x,y] 84 (0,0))
 b1:W.heap[w.heap.size+1]?=some (.cells #[.slice none 0 0,.slice none 0 0] 84 (0,0))
 below:Below w.heap.size w W
theorem VZ(w:World)(x y:Value):UQ w ((w.alloc (.cells #[x,y] 84)).alloc (.cells #[.slice none 0 0,.slice none 0 0] 84)) x y:=by have e1:=AG (w.alloc (.cells #[x,y] 84)) (.cells #[.slice none 0 0,.slice none 0 0] 84);simp only [AN] at e1;refine⟨?_,e1,((AA w.heap.size w).alloc (AB _) _).alloc (by simp) _⟩;rw [AP _ _ _ (by simp)];exact AG w _
theorem UQ.step(h:UQ w W x y)(hb:Below W.heap.size W W'):UQ w W' x y:=⟨(hb.block _ (AO.1 h.b0).1).trans h.b0,(hb.block _ (AO.1 h.b1).1).trans h.b1,h.below.trans (hb.mono h.below.size)⟩
theorem UQ.cells(h:UQ w W x y):W.cell? ⟨w.heap.size,0,none⟩=some x/\W.cell? ⟨w.heap.size,1,none⟩=some y/\W.frozen? ⟨w.heap.size,0,none⟩=false/\W.frozen? ⟨w.heap.size,1,none⟩=false:=by refine⟨?_,?_,?_,?_⟩<;>simp only [World.cell?,World.frozen?,h.b0]<;>rfl
theorem UQ.set(h:UQ w W x y):(W.setCell ⟨w.heap.size,i,none⟩ x').heap[w.heap.size+1]?=some (.cells #[.slice none 0 0,.slice none 0 0] 84 (0,0))/\Below w.heap.size w (W.setCell ⟨w.heap.size,i,none⟩ x')/\W.grownBy (W.setCell ⟨w.heap.size,i,none⟩ x') (some w.heap.size):=
 have hg:=Ar W w.heap.size i x'
 ⟨(hg.block _ (AO.1 h.b1).1 (fun e=>by injection e with e;omega)).trans h.b1,h.below.grown hg h.below.size (fun k e=>by cases e;exact AB _),hg⟩
theorem JR(h:Ax enc k w p n c l)(hg:w.grownBy w' (some r))(hr:l≠[]->∀ad,p=some ad->ad.block≠r):Ax enc k w' p n c l:=Ca hg (fun hl ad hp e=>by injection e with e;exact hr hl ad hp e.symm) h
theorem FC{W:World}{r:Nat}{cs:Array Value}:W.grownBy (W.setRow r cs) (some r):=⟨rfl,rfl,rfl,by simp,fun k hk aM=>AR _ _ _ _ (fun e=>aM (by rw [e]))⟩
theorem GH(hr:Ax JN 6 w p n c l)(rp:Option Addr)(rn rc:Nat)(bW:Ax JN 6 w q m mc l')(h:n+m<=1000000):Calls prog 139 #[.agg #[.slice p n c,.slice rp rn rc],.slice q m mc] w fun e w'=>∃p' c',e=.returned (.agg #[.slice p' (n+m) c',.slice rp rn rc])/\Ax JN 6 w' p' (n+m) c' (l++l')/\Below w.heap.size w w'/\(l'=[]/\p'=p\/∀ad,p'=some ad->w.heap.size<=ad.block):=by
 have hs:=VZ w (.slice p n c) (.slice rp rn rc);have HS:=AF hs;have gl:=AF hr;have HR:=AF (hr.below hs.below);have gW:=AF (bW.below hs.below);have aI:((w.alloc (.cells #[.slice p n c,.slice rp rn rc] 84)).alloc (.cells #[.slice none 0 0,.slice none 0 0] 84)).heap.size=w.heap.size+2:=by simp
 clear hr bW hs;go_enter func139,ntmps139;go_wp2_with fail;refine(YO HR.o).mono ?_;rintro e w1 ⟨rfl,rfl⟩;generalize (w.alloc (.cells #[.slice p n c,.slice rp rn rc] 84)).alloc (.cells #[.slice none 0 0,.slice none 0 0] 84)=W1 at *
 go_wp2_with (first
  |(refine Jz rfl _ _ 82 rfl JN 6 Ig (by decide) YV 145 _ 88 underlying82 ZDB rfl p q n m mc l l' rfl rfl HR.o.clip gW.out (by omega) (by omega) ?_;intro p' c' w2 aC hb cM;have a6:=AF aC;have jP:=AF cM;have bc:=AF (HS.o.step hb);obtain⟨x0,x1,x2,x3⟩:=bc.o.cells;clear aC hb cM)
  |(refine sw #[.slice p' (n+m) c',.slice rp rn rc] (bc.o.set).1 ?_))
 refine br (AL _ _ _ _ _ _ (bc.o.set).1) underlying84 ?_
 have aM:l++l'≠[]->∀ad,p'=some ad->ad.block≠w.heap.size/\ad.block≠w.heap.size+1:=fun hl ad hp=>by
  rcases jP.o with⟨h1,h2⟩|h2
  ·subst h1;have aG:=FM gl.o.row (by simpa using hl) (h2▸hp);omega
  ·have:=h2 ad hp;omega
 have hg:=(bc.o.set (i:=0) (x':=.slice p' (n+m) c'));exact⟨p',c',rfl,JR (JR a6.o hg.2.2 (fun hl ad hp=>(aM hl ad hp).1)) FC (fun hl ad hp=>(aM hl ad hp).2),hg.2.1.grown FC hg.2.1.size (fun k e=>by cases e;omega),jP.o.imp id (fun h ad hp=>by have:=h ad hp;omega)⟩
theorem IX(hr:Ax DE 1 w p n c l)(rp:Option Addr)(rn rc:Nat)(bW:Ax DE 1 w q m mc l')(h:n+m<=1000000):Calls prog 131 #[.agg #[.slice rp rn rc,.slice p n c],.slice q m mc] w fun e w'=>∃p' c',e=.returned (.agg #[.slice rp rn rc,.slice p' (n+m) c'])/\Ax DE 1 w' p' (n+m) c' (l++l')/\Below w.heap.size w w'/\(l'=[]/\p'=p\/∀ad,p'=some ad->w.heap.size<=ad.block):=by
 have hs:=VZ w (.slice rp rn rc) (.slice p n c);have HS:=AF hs;have gl:=AF hr;have HR:=AF (hr.below hs.below);have gW:=AF (bW.below hs.below);have aI:((w.alloc (.cells #[.slice rp rn rc,.slice p n c] 84)).alloc (.cells #[.slice none 0 0,.slice none 0 0] 84)).heap.size=w.heap.size+2:=by simp
 clear hr bW hs;go_enter func131,ntmps131;go_wp2_with fail;refine(YP HR.o).mono ?_;rintro e w1 ⟨rfl,rfl⟩;generalize (w.alloc (.cells #[.slice rp rn rc,.slice p n c] 84)).alloc (.cells #[.slice none 0 0,.slice none 0 0] 84)=W1 at *
 go_wp2_with (first
  |(refine Jz rfl _ _ 24 rfl DE 1 DR (by decide) Kd 3 _ 8 underlying24 Qf rfl p q n m mc l l' rfl rfl HR.o.clip gW.out (by omega) (by omega) ?_;intro p' c' w2 aC hb cM;have a6:=AF aC;have jP:=AF cM;have bc:=AF (HS.o.step hb);obtain⟨x0,x1,x2,x3⟩:=bc.o.cells;clear aC hb cM)
  |(refine sw #[.slice rp rn rc,.slice p' (n+m) c'] (bc.o.set).1 ?_))
 refine br (AL _ _ _ _ _ _ (bc.o.set).1) underlying84 ?_
 have aM:l++l'≠[]->∀ad,p'=some ad->ad.block≠w.heap.size/\ad.block≠w.heap.size+1:=fun hl ad hp=>by
  rcases jP.o with⟨h1,h2⟩|h2
  ·subst h1;have aG:=FM gl.o.row (by simpa using hl) (h2▸hp);omega
  ·have:=h2 ad hp;omega
 have hg:=(bc.o.set (i:=1) (x':=.slice p' (n+m) c'));exact⟨p',c',rfl,JR (JR a6.o hg.2.2 (fun hl ad hp=>(aM hl ad hp).1)) FC (fun hl ad hp=>(aM hl ad hp).2),hg.2.1.grown FC hg.2.1.size (fun k e=>by cases e;omega),jP.o.imp id (fun h ad hp=>by have:=h ad hp;omega)⟩
section
open Go.Shelf
theorem ZAL(x:Int)(hc:W.cell? ⟨g,1,none⟩=some (.slice q m mc))(hr:Ax DE 1 W q m mc rhos):Calls prog 182 #[.int .i64 x,.pointer (some ⟨g,0,none⟩)] W fun e w'=>e=.returned (.bool (!Kp rhos x))/\w'=W:=by have HC:=AF (Jo hr x);clear hr;go_enter func182,ntmps182;go_wp2_with fail;refine HC.o.mono ?_;rintro e w1 ⟨rfl,rfl⟩;go_wp2_with fail;go_ret;exact⟨rfl,rfl⟩
theorem YJ(hr:Ax DE 1 W p n c l)(hc:W.cell? ⟨g,1,none⟩=some (.slice q m mc))(hq:Ax DE 1 W q m mc rhos):Calls prog 122 #[.slice p n c,.func (.func 182) #[] #[.pointer (some ⟨g,0,none⟩)]] W fun e w'=>e=.returned (.bool (l.any (fun x=>!Kp rhos x)))/\Below W.heap.size W w':=by
 have cu:=hr.len;have uy:=hr.max;rcases hr.row with h|⟨b,o,hp,hb,am⟩
 ·subst h;obtain rfl:n=0:=by simpa using cu.symm
  refine(GI (α:=Int) p c _ W).mono ?_;rintro e w' ⟨rfl,rfl⟩;exact⟨rfl,AA _ _⟩
 ·subst hp;have f9:∀j,j<l.length->W.cell? ⟨b,o+j,none⟩=some (Value.int .i64 (l[j]!)):=fun j hj=>by have:=am j (l[j]!) (by rw [AI hj,Bw l j hj]) 0 (.int .i64 (l[j]!)) rfl;simpa using this
  refine(Hm (α:=Int) (Value.int .i64) (fun x:Int=>!Kp rhos x) 182 #[.pointer (some ⟨g,0,none⟩)] (fun args w=>rfl) b o n c l W ?_ (by omega) (by omega) f9).mono ?_
  ·intro W' x ab;refine(ZAL x (W:=W') (g:=g) (by rw [ab.cell (D9 hc)];exact hc) (hq.below ab)).mono ?_;rintro e w' ⟨rfl,rfl⟩;exact⟨rfl,0,rfl⟩
  ·rintro e w' ⟨rfl,q,rfl⟩;rw [BU (by omega)];exact⟨rfl,rfl,rfl,rfl,AB _,fun _ _=>rfl⟩
theorem ZBq(rhos l:List Int):(!l.any (fun x=>!Kp rhos x))=GB rhos l:=by unfold GB;rw [List.not_any_eq_all_not];simp
theorem R3(hr:Ax DE 1 w p n c l)(ep:Option Addr)(en ec:Nat)(hq:Ax DE 1 w q m mc rhos):Calls prog 130 #[.agg #[.slice ep en ec,.slice q m mc],.slice p n c] w (RB w (.bool (GB rhos l))):=by have hb:Below w.heap.size w (w.alloc (.cells #[.slice ep en ec,.slice q m mc] 84)):=bA;have HC:=AF (YJ (hr.below hb) (g:=w.heap.size) (q:=q) (m:=m) (mc:=mc) (rhos:=rhos) (by rw [Bq];rfl) (hq.below hb));have HB:=AF hb;have HE:=AF (ZBq rhos l);generalize l.any (fun x=>!Kp rhos x)=r at HC HE;clear hr hq hb;go_enter func130,ntmps130;go_wp2_with fail;refine HC.o.mono ?_;rintro e w1 ⟨rfl,hb⟩;have aF:=bt HB hb;clear hb;go_wp2_with fail;go_ret;exact⟨Af HE.o,aF.o⟩
end
theorem tk{P:Program}{ops:Array Oper}{Q:Exit->Act->World->Prop}{md:Region.Mode}{S:World->Prop}{i:Nat}{oi:Oper}{v:Value}{fuel:Nat}{listed:Array Bool}{a:Act}{w:World}(hi:ops[i]?=some oi)(hy:YieldsIf P ops S oi v a)(h:wpAnyH P md ops Q S fuel (listed.setIfInBounds i true) (a.put oi.dst v) w)(hs:Region.noSelect ops=true:=by kernel_rfl)(hf:Region.free md ops listed i=true:=by kernel_rfl)(hr:(Region.ready md ops listed).contains i=true:=by kernel_rfl)(hQ:∀c a w,Q (.panic c) (a.put oi.dst v) w->Q (.panic c) a w:=by exact fun _ _ _ h=>h)(hS:S w:=by assumption):wpAnyH P md ops Q S (fuel+1) listed a w:=Cn hi hs hf hr hQ hy hS h
theorem ZBF(h:Ax Fm 5 w p n cap l)(hx:l[j]?=some t) :
 ∃b o,p=some ⟨b,o,none⟩/\b<w.heap.size/\w.cell? ⟨b,o+j * 5,none⟩=some (.int .u8 t.ty.head.kind)/\w.cell? ⟨b,o+j * 5+1,none⟩=some (.int .i64 t.ty.head.rho) /\
  w.cell? ⟨b,o+j * 5+2,none⟩=some (.slice t.ty.head.ep t.ty.head.en t.ty.head.ec)/\w.cell? ⟨b,o+j * 5+3,none⟩=some (.slice t.ty.head.kp t.ty.head.kn t.ty.head.kc)/\w.cell? ⟨b,o+j * 5+4,none⟩=some (.slice t.ep t.en t.ec):=by
 obtain⟨b,o,hp,hb,hc⟩:=h.row.elem hx
 exact⟨b,o,hp,hb,hc 0 _ rfl,hc 1 _ rfl,hc 2 _ rfl,hc 3 _ rfl,hc 4 _ rfl⟩
def Xa(fid:FuncId)(caps:Array Value)(w:World)(l:List RV)(q:RV->Bool):Prop:=∀x∈l,∀W,Below w.heap.size w W->Calls prog fid (#[Ou x]++caps) W fun e w'=>e=.returned (.bool (q x))/\Below W.heap.size W w'
theorem Xa.is(h:Xa fid caps w l q)(hx:x∈l)(hq:q x=r)(hb:Below w.heap.size w W):Calls prog fid (#[Ou x]++caps) W fun e w'=>e=.returned (.bool r)/\Below W.heap.size W w':=by subst hq;exact h x hx W hb
theorem Ph(fid:FuncId)(caps:Array Value)(q:RV->Bool)(ay:Hv fid)(hr:Ax Fm 5 w p n cap l)(hf:Xa fid caps w l q) :
 Calls prog 219 #[.slice p n cap,.func (.func fid) #[] caps] w fun e w'=>(∃r:Int,e=.returned (.int .i64 r)/\UI q l r)/\Below w.heap.size w w':=by
 unfold Hv at ay
 have hm:=hr.max
 have HR:=AF hr
 have HF:=AF hf
 clear hr hf
 go_enter func219,ntmps219
 go_wp2_with fail
 go_loopw [5,8] (fun _ i wr=>∃k:Nat,k<=n/\i=.int .i64 k/\(l.take k).any q=false/\Below w.heap.size w wr) (fun _ i _=>n-(intOf i).toNat)
 case atStart=>exact⟨0,by omega,rfl,by simp,AA _ _⟩
 case round=>
  obtain⟨k,hk,rfl,an,hb⟩:=hrel;have ax:=AF an;have HB:=AF hb;clear an hb;by_cases aG:k<n
  ·obtain⟨x,hx⟩:=Bh (l:=l) (j:=k) (by rw [HR.o.len];exact aG);have HE:=AF hx;obtain⟨b,o,rfl,bB,d0,d1,d2,d3,d4⟩:=ZBF (HR.o.below HB.o) hx;clear hx bB;cases hq:q x
   ·have HQ:=AF hq;clear hq;go_wp2_with fail;refine(HF.o.is (AE HE.o) HQ.o HB.o).mono ?_;rintro e w1 ⟨rfl,hb⟩;have aH:=bt HB hb;clear hb;clear d0 d1 d2 d3 d4;go_wp2_with fail;go_roundw
    case rel=>exact⟨k+1,by omega,by go_num,by rw [FA HE.o,ax.o,HQ.o];rfl,aH.o⟩
    case measure=>simp [intOf];omega
   ·have HQ:=AF hq;clear hq;go_wp2_with fail;refine(HF.o.is (AE HE.o) HQ.o HB.o).mono ?_;rintro e w1 ⟨rfl,hb⟩;have aH:=bt HB hb;clear hb;clear d0 d1 d2 d3 d4;go_wp2_with fail;go_ret;exact⟨⟨k,rfl,.inr ⟨k,x,rfl,HE.o,HQ.o,ax.o⟩⟩,aH.o⟩
  ·go_wp2_with fail;go_ret;have h:=ax.o;rw [Bb (by rw [HR.o.len];omega)] at h;exact⟨⟨-1,rfl,.inl ⟨rfl,h⟩⟩,HB.o⟩
theorem NQ(fid:FuncId)(caps:Array Value)(q:RV->Bool)(ay:Hv fid)(hr:Ax Fm 5 w p n cap l)(hf:Xa fid caps w l q):Calls prog 193 #[.slice p n cap,.func (.func fid) #[] caps] w (RB w (.bool (l.any q))):=by
 have hc:Calls prog 219 #[.slice p n cap,.func (.func fid) #[] caps] w fun e w'=>
  (∃r:Int,e=.returned (.int .i64 r)/\l.any q=decide (0<=r))/\Below w.heap.size w w':=
  (Ph fid caps q ay hr hf).mono fun _ _ ⟨⟨r,he,hr⟩,hb⟩=>⟨⟨r,he,hr.any⟩,hb⟩
 generalize l.any q=r at hc ⊢;clear hr hf ay;go_enter func193,ntmps193;go_wp2_with fail;refine hc.mono ?_;rintro e w1 ⟨⟨r,rfl,hr⟩,hb⟩;have HR:=AF hr;have HB:=AF hb;clear hr hb hc;go_wp2_with fail;go_ret;exact⟨Af HR.o.symm,HB.o⟩
def isV(k:Int)(r:RV):Bool:=r.ty.head.kind==k
theorem Ym(r:RV)(w:World):Calls prog 194 #[Ou r] w (RB w (.bool (!isV 1 r))):=by have hb:Below w.heap.size w (w.alloc (.cells #[.int .u8 r.ty.head.kind,.int .i64 r.ty.head.rho,.slice r.ty.head.ep r.ty.head.en r.ty.head.ec,.slice r.ty.head.kp r.ty.head.kn r.ty.head.kc,.slice r.ep r.en r.ec] 81)):=bA;have HB:=AF hb;clear hb;go_enter func194,ntmps194;go_wp2_with fail;refine(Mn r 1 _).mono ?_;rintro e w1 ⟨rfl,hb⟩;have aF:=bt HB hb;clear hb;go_wp2_with fail;go_ret;exact⟨Af rfl,aF.o⟩
theorem QH(hr:Ax Fm 5 w p n c l):Calls prog 143 #[.slice p n c] w (RB w (.bool (l.all (isV 1)))):=by
 have HC:=AF (NQ 194 #[] (fun r=>!isV 1 r) (fun args w=>rfl) hr (fun x hx W hb=>Ym x W));have HE:Hd ((!l.any (fun r=>!isV 1 r))=l.all (isV 1)):=by show _=_;rw [List.not_any_eq_all_not];simp
 generalize l.any (fun r=>!isV 1 r)=b at HC HE;clear hr;go_enter func143,ntmps143;go_wp2_with fail;refine HC.o.mono ?_;rintro e w1 ⟨rfl,hb⟩;have aF:=AF hb;clear hb;go_wp2_with fail;go_ret;exact⟨Af HE.o,aF.o⟩
def slR(r:RV):SF BB:=⟨r.ep,r.en,r.ec,r.eff⟩
theorem ZDD:(prog.info? 25).map (fun i=>(i.zero,i.size,i.bytes))=some (some (.slice none 0 0),1,24):=by kernel_rfl
theorem Ku(r:SF BB):(J7 r).length=1:=rfl
theorem WN:∀r:SF BB,∀u∈J7 r,u.oneCell'=true:=by intro r u hu;simp [J7] at hu;subst hu;rfl
theorem Zq(q:Option Addr)(m mc:Nat)(more:List BB)(l:List RV):GV (((⟨q,m,mc,more⟩:SF BB)::l.map slR).flatMap (·.l))=Ee (Em l) more:=by
 unfold Ee Em;have h:(l.map slR).flatMap (·.l)=(l.map RV.er).flatMap (·.2):=by rw [List.flatMap_map,List.flatMap_map];rfl
 rw [Br,h]
theorem Dj(hr:Ax Fm 5 w p n c l)(he:∀r∈l,Ax Ce 3 w r.ep r.en r.ec r.eff)(hm:Ax Ce 3 w q m mc more)(hn:n<=1000)(eD:m+(l.map (·.en)).sum<=1000000):Calls prog 140 #[.slice p n c,.slice q m mc] w fun e w'=>∃v k,e=.returned v/\A1 Ce 3 w' w.heap.size 59 v k (Ee (Em l) more)/\Below w.heap.size w w':=by
 have HR:=AF hr;have lj:=AF he;have HM:=AF hm;clear hr he hm;go_enter func140,ntmps140;go_wp2_with fail;have wW:Hd (A1 J7 1 (w.alloc (.cells #[.slice q m mc] 25)) w.heap.size 25 (.slice (some ⟨w.heap.size,0,none⟩) 1 1) 1 [(⟨q,m,mc,more⟩:SF BB)]):=Nv Ku w w.heap.size _ [(⟨q,m,mc,more⟩:SF BB)] 1 _ rfl rfl (by decide) (AB _);have cg:=AF ((AA w.heap.size w).alloc (AB _) (.cells #[.slice q m mc] 25));have pR:=HR.o.max;go_loopw [5,7,12] (fun u _ i wr=>∃(k:Nat) (v0:Value),k<=n/\i=.int .i64 k/\v0=u/\A1 J7 1 wr w.heap.size 25 v0 (k+1) ((⟨q,m,mc,more⟩:SF BB)::(l.take k).map slR)/\Below w.heap.size w wr) (fun _ _ i _=>n-(intOf i).toNat)
 case atStart=>exact⟨0,_,by omega,rfl,rfl,by simpa using wW.o,cg.o⟩
 case round=>
  obtain⟨k,v0,hk,rfl,rfl,hv,hb⟩:=hrel;have HV:=AF hv;have HB:=AF hb;clear hv hb;by_cases aG:k<n
  ·obtain⟨x,hx⟩:=Bh (l:=l) (j:=k) (by rw [HR.o.len];exact aG);have HT:=AF (BG hx);obtain⟨b,o,rfl,bB,d0,d1,d2,d3,d4⟩:=ZBF (HR.o.below HB.o) hx;clear hx bB;have oS:Hd (Below wr.heap.size wr (wr.alloc (.cells #[.int .u8 x.ty.head.kind,.int .i64 x.ty.head.rho,.slice x.ty.head.ep x.ty.head.en x.ty.head.ec,.slice x.ty.head.kp x.ty.head.kn x.ty.head.kc,.slice x.ep x.en x.ec] 81))):=bA;have oM:=AF (Bo Ku (by omega) (wr.alloc (.cells #[.int .u8 x.ty.head.kind,.int .i64 x.ty.head.rho,.slice x.ty.head.ep x.ty.head.en x.ty.head.ec,.slice x.ty.head.kp x.ty.head.kn x.ty.head.kc,.slice x.ep x.en x.ec] 81)) 25 [slR x] 1 #[.slice x.ep x.en x.ec] rfl rfl (by decide));have xW:=HB.o.size;go_wp2_with (at_builtin;(refine GK rfl _ _ 66 rfl w.heap.size 25 _ 1 24 underlying66 ZDD rfl (by decide) J7 Ku WN [slR x] _ _ _ (Cm (Cm HV.o _) _) (some ⟨wr.heap.size+1,0,none⟩) 1 1 rfl rfl rfl (by intro h;cases h) (by simpa using oM.o.row) (by omega) (by omega) (by simp<;>omega) ?_;intro v3 w3 aR bT;have wX:=AF aR;have aL:=AF (Below.own ((HB.o.alloc xW _).alloc (by simp<;>omega) _) bT (by simp<;>omega) (Cm (Cm HV.o _) _));clear aR bT));go_roundw
   case rel=>exact⟨k+1,_,by omega,by go_num,rfl,by rw [HT.o,Ah];exact wX.o,aL.o⟩
   case measure=>simp [intOf];omega
  ·obtain rfl:k=n:=by omega
   have bp:l.take k=l:=Bb (by rw [HR.o.len];exact AB _);rw [bp] at HV;obtain⟨q2,c2,rfl,aC⟩:=A1.isRow Ku (by omega) HV.o
   have bh:∀r∈(⟨q,m,mc,more⟩:SF BB)::l.map slR,r.Ok Ce 3 wr:=fun r hr=>by
    rcases AS.1 hr with rfl|hr
    ·have h:=HM.o.below HB.o;exact⟨h.len,h.le,h.nil,h.row⟩
    ·obtain⟨x,hx,rfl⟩:=BI.1 hr;have h:=(lj.o x hx).below HB.o;exact⟨h.len,h.le,h.nil,h.row⟩
   have vN:(((⟨q,m,mc,more⟩:SF BB)::l.map slR).map (·.n)).sum<=1000000:=by rw [AV,A0,CS];exact eD
   have HU:=AF (G3 q2 (k+1) c2 _ wr aC.len (by omega) aC.row bh vN);clear aC bh vN bp;go_wp2_with fail;refine HU.o.mono ?_;rintro e w3 ⟨v,j,rfl,_,aD,bF⟩;have HO:=AF aD;have aL:=bt HB bF;clear aD bF;go_wp2_with fail;go_ret;exact⟨v,j,rfl,by rw [<-Zq q m mc more l];exact HO.o.lower HB.o.size,aL.o⟩
structure Vv(w W:World)(a:AH)(x y:Value):Prop where
 b0:W.heap[w.heap.size]?=some (.cells #[x,y] 84 (0,0))
 b1:JB W (w.heap.size+1) a
 below:Below w.heap.size w W
theorem Ts(w:World)(a:AH)(x y:Value):Vv w ((w.alloc (.cells #[x,y] 84)).alloc (Bt a)) a x y:=by have e1:=C8 (w.alloc (.cells #[x,y] 84)) a;rw [show (w.alloc (.cells #[x,y] 84)).heap.size=w.heap.size+1 by simp] at e1;refine⟨?_,e1,((AA w.heap.size w).alloc (AB _) _).alloc (by simp) _⟩;rw [AP _ _ _ (by simp)];exact AG w _
theorem Vv.step(h:Vv w W a x y)(hb:Below W.heap.size W W'):Vv w W' a x y:=⟨(hb.block _ (AO.1 h.b0).1).trans h.b0,h.b1.below hb,h.below.trans (hb.mono h.below.size)⟩
theorem Vv.scells(h:Vv w W a x y):W.cell? ⟨w.heap.size,0,none⟩=some x/\W.cell? ⟨w.heap.size,1,none⟩=some y:=by constructor<;>simp only [World.cell?,h.b0]<;>rfl
theorem Vv.set(h:Vv w W a x y)(y':Value):Vv w (W.setRow w.heap.size #[x',y']) a x' y':=⟨AL _ _ _ _ _ _ h.b0,⟨(AR _ _ _ _ (by omega)).trans h.b1.blk⟩,h.below.grown FC h.below.size (fun k e=>by cases e;exact AB _)⟩
theorem JB.lt(h:JB W g a):g<W.heap.size:=(AO.1 h.blk).1
theorem ZDL{W:World}{g:Nat}{x y:Value}{t:TypeId}(h:W.heap[g]?=some (.cells #[x,y] t (0,0))):W.rangeAt g 0 [x,y]:=fun j v hj=>by rw [BP,AD h];simpa using hj
theorem Vv.r0(h:Vv w W a x y):W.rangeAt w.heap.size 0 [x,y]:=ZDL h.b0
theorem IW(hu:GB rhos l=u)(hr:Ax DE 1 w p n c l)(ep:Option Addr)(en ec:Nat)(hq:Ax DE 1 w q m mc rhos):Calls prog 130 #[.agg #[.slice ep en ec,.slice q m mc],.slice p n c] w (RB w (.bool u)):=by subst hu;exact R3 hr ep en ec hq
theorem Fw(h:JB W g a)(o n:Nat)(hc:cs=((FS a).drop o).take n):W.rangeAt g o cs:=fun j v hj=>by
 subst hc;rw [Ei] at hj;split at hj
 ·rw [List.getElem?_drop] at hj;exact h.c (o+j) v hj
 ·cases hj
theorem Ny(hx:LR.lies w x)(hy:LR.lies w y)(e:Nat):G0 (w.alloc (.cells #[.int .u8 x.head.kind,.int .i64 x.head.rho,.slice x.head.ep x.head.en x.head.ec,.slice x.head.kp x.head.kn x.head.kc,.int .u8 y.head.kind,.int .i64 y.head.rho,.slice y.head.ep y.head.en y.head.ec,.slice y.head.kp y.head.kn y.head.kc] e)) (some ⟨w.heap.size,0,none⟩) 2 2 [x,y]:=by
 refine⟨Bo Oq (by omega) w e [x,y] 2 _ ?_ rfl (by decide),fun t ht=>?_⟩
 ·simp [LS.encT,LR,QT]
 ·have hb:Below w.heap.size w (w.alloc (.cells #[.int .u8 x.head.kind,.int .i64 x.head.rho,.slice x.head.ep x.head.en x.head.ec,.slice x.head.kp x.head.kn x.head.kc,.int .u8 y.head.kind,.int .i64 y.head.rho,.slice y.head.ep y.head.en y.head.ec,.slice y.head.kp y.head.kn y.head.kc] e)):=bA;simp only [AS,Al,BN] at ht;rcases ht with rfl|rfl
  ·exact LR.lies_below hb _ hx
  ·exact LR.lies_below hb _ hy
def V6(a:AH)(b:Bool)(e:Ending):Prop:=(b=true->e=.returned (.tuple #[]))/\(b=false->e=.panicked [{ v:=NS a.at_ 4,recovered:=false }])
theorem XA(h:b=true):V6 a b (.returned (.tuple #[])):=⟨fun _=>rfl,fun h'=>(by rw [h] at h';cases h')⟩
theorem MT(h:b=false):V6 a b (.panicked [{ v:=NS a.at_ 4,recovered:=false }]):=⟨fun h'=>(by rw [h] at h';cases h'),fun _=>rfl⟩
theorem Fy(ha:AH.Own w a)(hs:GP a)(ep:Option Addr)(en ec:Nat)(hq:Ax DE 1 w q m mc rhos)(hm:m<=900000):Calls prog 95 #[.agg #[.slice ep en ec,.slice q m mc],DP a] w fun e w'=>V6 a (GZ a.plain rhos) e/\Below w.heap.size w w':=by
 have HX:=AF (Ts w a (.slice ep en ec) (.slice q m mc));have HQ:=AF hq;have oK:=AF ha.rhos;have jp:=AF ha.eff;have wT:=AF ha.ty;have jK:=AF ha.res;have lB:a.en<=1000000:=by have h1:=ha.eff.len;have h2:=Ii hs.eff;omega
 have na:a.rn<=50:=hs.rhos;have fb:=AF lB;have bN:(Dg [a.ty,a.res]).length<=1000000:=by have h1:=TP _ hs.ty.effs;have h2:=TP _ hs.res.effs;have h3:=hs.ty.size;have h4:=hs.res.size;simp only [Dg,Br,Dq,B6,As];omega
 have rB:=AF bN
 have nz:Hd (ZBu [a.ty,a.res]):=fun x hx=>by
  simp only [AS,Al,BN] at hx;rcases hx with rfl|rfl
  ·exact QS _ ha.ty hs.ty.effs
  ·exact QS _ ha.res hs.res.effs
 obtain⟨u1,m9⟩:∃u1,GB rhos [a.rho]=u1:=⟨_,rfl⟩;obtain⟨u2,ni⟩:∃u2,GB rhos a.rhos=u2:=⟨_,rfl⟩;have wU:=AF m9;have nL:=AF ni;have jJ:Hd (GZ a.plain rhos=((decide (a.kind=17)||u1)&&(!decide (a.kind=18)||u2)&&(GB (if a.kind=13 then rhos++a.rhos else rhos) (FQ a.eff)&&GB (if a.kind=13 then rhos++a.rhos else rhos) (FN (Dg [a.ty,a.res]))))):=by show _=_;rw [<-m9,<-ni];simp [GZ,GB,AH.plain,Dg];rfl
 clear hq ha hs lB bN m9 ni;have c0:=HX.o.b1.c 0 _ rfl;go_enter func95,ntmps95;go_upto_if 7 with fail;go_cut [] from 4 to 15 (fun wx=>Vv w wx a (.slice ep en ec) (.slice q m mc)/\(decide (a.kind=17)||u1)=true)
 case first=>
  by_cases k17:a.kind=17
  ·have e17:(a.kind != 17)=false:=by simp [k17]
   go_wp2_with fail;go_meet
   case rel=>exact⟨HX.o,by simp [k17]⟩
  ·have e17:(a.kind != 17)=true:=by simp [k17]
   have rE:=AF k17;have gl:=jJ;clear c0;go_upto_region 2 with fail;generalize (w.alloc (.cells #[.slice ep en ec,.slice q m mc] 84)).alloc (Bt a)=W1 at *
   refine rg (fun W'=>Below W1.heap.size W1 W') (At W1) fun aA=>?_;refine tm 0 8 [.slice ep en ec,.slice q m mc] 84 w.heap.size 0 (fun W' aB=>(HX.o.step aB).r0) underlying84 ?_;refine tp 1 9 ?_;refine tp 2 10 ?_ (hy:=fun w aB=>by(try dsimp only at aB);have q7:=(HX.o.step aB).b1.c 7 _ rfl;go_simp;try with_reducible rfl);refine ta 5 13 a (w.heap.size+1) 0 (fun W' aB=>(HX.o.step aB).b1.range) ?_;refine tr 3 11 fun K hK=>?_;go_simp;refine tn hK (Ay aA _) ?_;clear aA hK K;intro aA;refine tr 4 12 fun K hK=>?_;go_simp;go_at_call 130;refine(IW wU.o ((Bo DR (by omega) W1 3 [a.rho] 1 #[.int .i64 a.rho] rfl rfl (by decide)).below (At _)) ep en ec (HQ.o.below (HX.o.below.trans (aA.mono HX.o.below.size)))).mono ?_;rintro e w8 ⟨rfl,hb⟩;try go_wp2_with fail
   refine tn hK (An aA hb) ?_;clear aA hK K;intro aA;refine tr 6 14 fun K hK=>?_;go_simp;cases u1
   ·go_at_call 64;refine(D3 a 4 _).mono ?_;rintro e w9 ⟨rfl,hb⟩;exact⟨rfl,MT (gl.o.trans (by simp [rE.o])),HX.o.below.trans ((An aA hb).mono HX.o.below.size)⟩
   go_at_call 64;refine(Dw a 4 _).mono ?_;rintro e w9 ⟨rfl,hb⟩;try go_wp2_with fail
   refine tn hK (An aA hb) ?_;clear aA hK K;intro aA;refine dn ?_;have aQ:=AF (HX.o.step aA);clear aA;go_wp2_with fail;go_meet
   case rel=>exact⟨aQ.o,by simp⟩
 case rest=>
  obtain⟨hx,sD⟩:=hcut;clear HX c0;have HX:=AF hx;have ki:=AF sD;have c0:=HX.o.b1.c 0 _ rfl;clear hx sD;go_upto_if 18 with fail;go_cut [] from 4 to 24 (fun wx=>Vv w wx a (.slice ep en ec) (.slice q m mc)/\(!decide (a.kind=18)||u2)=true)
  case first=>
   by_cases k18:a.kind=18
   ·have e18:(a.kind==18)=true:=by simp [k18]
    have rF:=AF k18;have gl:=jJ;clear c0 k18;go_upto_region 4 with fail;refine rg (fun W'=>Below wc.heap.size wc W') (At wc) fun aA=>?_;refine tm 0 19 [.slice ep en ec,.slice q m mc] 84 w.heap.size 0 (fun W' aB=>(HX.o.step aB).r0) underlying84 ?_;refine tp 1 20 ?_;refine tp 2 21 ?_ (hy:=fun w aB=>by(try dsimp only at aB);have q8:=(HX.o.step aB).b1.c 8 _ rfl;go_simp;try with_reducible rfl);refine ta 4 23 a (w.heap.size+1) 0 (fun W' aB=>(HX.o.step aB).b1.range) ?_;refine tr 3 22 fun K hK=>?_;go_simp;go_at_call 130;refine(IW nL.o (oK.o.below (HX.o.below.trans (aA.mono HX.o.below.size))) ep en ec (HQ.o.below (HX.o.below.trans (aA.mono HX.o.below.size)))).mono ?_;rintro e w8 ⟨rfl,hb⟩;try go_wp2_with fail
    refine tn hK (An aA hb) ?_;clear aA hK K;intro aA;refine tr 5 24 fun K hK=>?_;go_simp;cases u2
    ·go_at_call 64;refine(D3 a 4 _).mono ?_;rintro e w9 ⟨rfl,hb⟩;exact⟨rfl,MT (gl.o.trans (by simp [rF.o])),HX.o.below.trans ((An aA hb).mono HX.o.below.size)⟩
    go_at_call 64;refine(Dw a 4 _).mono ?_;rintro e w9 ⟨rfl,hb⟩;try go_wp2_with fail
    refine tn hK (An aA hb) ?_;clear aA hK K;intro aA;refine dn ?_;have aQ:=AF (HX.o.step aA);clear aA;go_wp2_with fail;go_meet
    case rel=>exact⟨aQ.o,by simp⟩
   ·have e18:(a.kind==18)=false:=by simp [k18]
    go_wp2_with fail;go_meet
    case rel=>exact⟨HX.o,by simp [k18]⟩
  case rest=>
   obtain⟨hx,fJ⟩:=hcut;clear HX c0;have HX:=AF hx;have dZ:=AF fJ;have c0:=HX.o.b1.c 0 _ rfl;clear hx fJ;go_upto_if 28 with fail;go_cut [] from 4 to 33 (fun wx=>∃(q7:Option Addr) (m7 c7:Nat),Vv w wx a (.slice ep en ec) (.slice q7 m7 c7)/\Ax DE 1 wx q7 m7 c7 (if a.kind=13 then rhos++a.rhos else rhos))
   case first=>
    by_cases k13:a.kind=13
    ·have e13:(a.kind==13)=true:=by simp [k13]
     have rD:=AF k13;have c8:=HX.o.b1.c 8 _ rfl;obtain⟨s0,s1⟩:=HX.o.scells;clear k13
     go_wp2_with (first
      |(refine sw #[.slice ep en ec,.slice p' (m+a.rn) c'] tc.o.b0 ?_)
      |(go_at_call 131;refine(IX (HQ.o.below HX.o.below) ep en ec (oK.o.below HX.o.below) (by omega)).mono ?_;rintro e wA ⟨p',c',rfl,aC,hb,cM⟩;have a6:=AF aC;have jP:=AF cM;have tc:=AF (HX.o.step hb);have xT:=HX.o.b1.lt;clear aC hb cM))
     go_meet
     case rel=>
      refine⟨p',_,c',tc.o.set _,?_⟩;rw [AJ rD.o];refine JR a6.o FC (fun hl ad hp e=>?_);rcases jP.o with⟨h1,h2⟩|h2
      ·have aG:=FM HQ.o.row (by intro h0;apply hl;rw [h0,h1];rfl) (h2▸hp);omega
      ·have:=h2 ad hp;omega
    ·have e13:(a.kind==13)=false:=by simp [k13]
     go_wp2_with fail;go_meet
     case rel=>exact⟨q,m,mc,HX.o,by rw [AC k13];exact HQ.o.below HX.o.below⟩
   case rest=>
    obtain⟨q7,m7,c7,hx,aC⟩:=hcut;clear HX c0;have HX:=AF hx;have nH:=AF aC;clear hx aC;obtain⟨R,hR⟩:∃R,(if a.kind=13 then rhos++a.rhos else rhos)=R:=⟨_,rfl⟩;rw [hR] at jJ nH;clear hR;have gl:Hd (GZ a.plain rhos=(GB R (FQ a.eff)&&GB R (FN (Dg [a.ty,a.res])))):=by show _=_;rw [jJ.o,ki.o,dZ.o];simp
    obtain⟨u3,so⟩:∃u3,GB R (FQ a.eff)=u3:=⟨_,rfl⟩;obtain⟨u4,sp⟩:∃u4,GB R (FN (Dg [a.ty,a.res]))=u4:=⟨_,rfl⟩;rw [so,sp] at gl;have tZ:=AF so;have wV:=AF sp;clear so sp jJ;go_upto_region 7 with fail;cases u3
    ·skip;refine rg (fun W'=>Below wc.heap.size wc W') (At wc) fun aA=>?_;refine tm 0 33 [.slice ep en ec,.slice q7 m7 c7] 84 w.heap.size 0 (fun W' aB=>(HX.o.step aB).r0) underlying84 ?_;refine tp 1 34 ?_;refine tp 2 35 ?_ (hy:=fun w aB=>by(try dsimp only at aB);have q9:=(HX.o.step aB).b1.c 9 _ rfl;go_simp;try with_reducible rfl);refine ta 16 49 a (w.heap.size+1) 0 (fun W' aB=>(HX.o.step aB).b1.range) ?_;refine tr 3 36 fun K hK=>?_;go_simp;refine tn hK (Ay aA _) ?_;clear aA hK K;intro aA;refine tr 4 37 fun K hK=>?_;go_simp;go_at_call 132;refine(JH _ 1 1 [⟨a.ep,a.en,a.ec,a.eff⟩] _ rfl (by decide) ((Xy (w:=wc) a.eff 25).below (At _)) (ZAs (jp.o.below (HX.o.below.trans (aA.mono HX.o.below.size)))) (by simpa using fb.o)).mono ?_;rintro e w3 ⟨q3,m3,c3,rfl,_,aC,hb⟩;have a6:Hd (Ax DE 1 w3 q3 m3 c3 (FQ a.eff)):=by have h:=aC;simp only [Br,Dq,B6] at h;exact h
     clear aC;try go_wp2_with fail
     refine tn hK (An aA hb) ?_;clear aA hK K;intro aA;refine tr 5 38 fun K hK=>?_;go_simp;go_at_call 130;refine(IW tZ.o a6.o ep en ec (nH.o.below aA)).mono ?_;rintro e w8 ⟨rfl,hb⟩;try go_wp2_with fail
     refine tn hK (An aA hb) ?_;clear aA hK K;intro aA;refine tp 6 39 ?_;refine J1 7 40 6 true ?_;refine J1 8 41 6 true ?_;refine J1 9 42 6 true ?_;refine J1 10 43 6 true ?_;refine J1 11 44 6 true ?_;refine ZT 12 45 6 true fun K hK=>?_;go_simp;refine tn hK (aA) ?_;clear aA hK K;intro aA;refine ZT 13 46 6 true fun K hK=>?_;go_simp;refine tn hK (aA) ?_;clear aA hK K;intro aA;refine ZT 14 47 6 true fun K hK=>?_;go_simp;refine tn hK (aA) ?_;clear aA hK K;intro aA;refine tp 15 48 ?_;refine tr 17 50 fun K hK=>?_;go_simp;go_at_call 64;refine(D3 a 4 _).mono ?_;rintro e w9 ⟨rfl,hb⟩;exact⟨rfl,MT (gl.o.trans (by simp)),HX.o.below.trans ((An aA hb).mono HX.o.below.size)⟩
    ·skip;refine rg (fun W'=>Below wc.heap.size wc W') (At wc) fun aA=>?_;refine tm 0 33 [.slice ep en ec,.slice q7 m7 c7] 84 w.heap.size 0 (fun W' aB=>(HX.o.step aB).r0) underlying84 ?_;refine tp 1 34 ?_;refine tp 2 35 ?_ (hy:=fun w aB=>by(try dsimp only at aB);have q9:=(HX.o.step aB).b1.c 9 _ rfl;go_simp;try with_reducible rfl);refine ta 16 49 a (w.heap.size+1) 0 (fun W' aB=>(HX.o.step aB).b1.range) ?_;refine tr 3 36 fun K hK=>?_;go_simp;refine tn hK (Ay aA _) ?_;clear aA hK K;intro aA;refine tr 4 37 fun K hK=>?_;go_simp;go_at_call 132;refine(JH _ 1 1 [⟨a.ep,a.en,a.ec,a.eff⟩] _ rfl (by decide) ((Xy (w:=wc) a.eff 25).below (At _)) (ZAs (jp.o.below (HX.o.below.trans (aA.mono HX.o.below.size)))) (by simpa using fb.o)).mono ?_;rintro e w3 ⟨q3,m3,c3,rfl,_,aC,hb⟩;have a6:Hd (Ax DE 1 w3 q3 m3 c3 (FQ a.eff)):=by have h:=aC;simp only [Br,Dq,B6] at h;exact h
     clear aC;try go_wp2_with fail
     refine tn hK (An aA hb) ?_;clear aA hK K;intro aA;refine tr 5 38 fun K hK=>?_;go_simp;go_at_call 130;refine(IW tZ.o a6.o ep en ec (nH.o.below aA)).mono ?_;rintro e w8 ⟨rfl,hb⟩;have oO:=AF (An aA hb);try go_wp2_with fail
     refine tn hK (An aA hb) ?_;clear aA hK K;intro aA;refine tp 6 39 ?_;refine tmH 7 40 6 true [.slice ep en ec,.slice q7 m7 c7] 84 w.heap.size 0 (fun W' aB=>(HX.o.step aB).r0) underlying84 ?_;refine LZ 8 41 6 true ?_;refine t4H 9 42 6 true a.ty (w.heap.size+1) 10 (fun W' aB=>Fw (HX.o.step aB).b1 10 4 rfl) ?_;refine LZ 10 43 6 true ?_;refine t4H 11 44 6 true a.res (w.heap.size+1) 14 (fun W' aB=>Fw (HX.o.step aB).b1 14 4 rfl) ?_;refine ZT 12 45 6 true fun K hK=>?_;go_simp;refine tn hK (Ay aA _) ?_;clear aA hK K;intro aA;refine ZT 13 46 6 true fun K hK=>?_;go_simp;go_at_call 133;refine(MD (Ny (LR.lies_below (HX.o.below.trans (oO.o.mono HX.o.below.size)) _ wT.o) (LR.lies_below (HX.o.below.trans (oO.o.mono HX.o.below.size)) _ jK.o) _) rB.o nz.o).mono ?_;rintro e w5 ⟨q5,m5,c5,rfl,_,aC,hb⟩;have oL:=AF aC;clear aC;try go_wp2_with fail
     refine tn hK (An aA hb) ?_;clear aA hK K;intro aA;refine ZT 14 47 6 true fun K hK=>?_;go_simp;go_at_call 130;refine(IW wV.o oL.o ep en ec (nH.o.below aA)).mono ?_;rintro e w8 ⟨rfl,hb⟩;try go_wp2_with fail
     refine tn hK (An aA hb) ?_;clear aA hK K;intro aA;refine tp 15 48 ?_;refine tr 17 50 fun K hK=>?_;go_simp;cases u4
     ·go_at_call 64;refine(D3 a 4 _).mono ?_;rintro e w9 ⟨rfl,hb⟩;exact⟨rfl,MT (gl.o.trans (by simp)),HX.o.below.trans ((An aA hb).mono HX.o.below.size)⟩
     go_at_call 64;refine(Dw a 4 _).mono ?_;rintro e w9 ⟨rfl,hb⟩;try go_wp2_with fail
     refine tn hK (An aA hb) ?_;clear aA hK K;intro aA;refine dn ?_;have aQ:=AF (HX.o.step aA);clear aA;go_wp2_with fail;go_end0;exact⟨XA (gl.o.trans (by simp)),aQ.o.below⟩
structure JM(w:World)(a:AH)(W:World):Prop where
 box:JB W w.heap.size a
 res:∃cs:Array Value,cs.size=5/\W.heap[w.heap.size+1]?=some (.cells cs 81 (0,0))
 below:Below w.heap.size w W
 size:w.heap.size+2<=W.heap.size
theorem Fx(w:World)(a:AH):JM w a ((w.alloc (Bt a)).alloc (.cells #[.int .u8 0,.int .i64 0,.slice none 0 0,.slice none 0 0,.slice none 0 0] 81)):=by have e:=AG (w.alloc (Bt a)) (.cells #[.int .u8 0,.int .i64 0,.slice none 0 0,.slice none 0 0,.slice none 0 0] 81);simp only [AN] at e;exact⟨(C8 w a).below bA,⟨_,rfl,e⟩,((AA w.heap.size w).alloc (AB _) _).alloc (by simp) _,by simp⟩
theorem JM.step(h:JM w a W)(hb:Below W.heap.size W W'):JM w a W':=by obtain⟨cs,h1,h2⟩:=h.res;exact⟨h.box.below hb,⟨cs,h1,(hb.block _ (AO.1 h2).1).trans h2⟩,h.below.trans (hb.mono h.below.size),AM h.size hb.size⟩
theorem JM.alloc(h:JM w a W)(o:Obj):JM w a (W.alloc o):=h.step bA
theorem JM.drew(h:JM w a W):JM w a W.drew:=h.step (At W)
theorem JM.store(h:JM w a W)(hc:cs.size=5):JM w a (W.setRow (w.heap.size+1) cs):=by obtain⟨cs',h1,h2⟩:=h.res;exact⟨⟨(AR _ _ _ _ (by omega)).trans h.box.blk⟩,⟨cs,hc,AL _ _ _ _ _ _ h2⟩,h.below.grown FC h.below.size (fun k e=>by cases e;omega),by have:=h.size;simpa using this⟩
theorem Ip(bM:o.guard=none)(ty:TypeId)(x y:Operand)(ho:o.op=.store ty x y)(h:JM w a W)(cells:Array Value)(hx:act.eval x=.pointer (some ⟨w.heap.size+1,0,none⟩))(hy:act.eval y=.agg cells)(hi:(P.info? ty).map (·.size)=some cells.size)(h5:cells.size=5)(h1:cells.all (·.oneCell')=true)(hK:wpList P ops Q rest (act.put o.dst undef) (W.setRow (w.heap.size+1) cells)):wpList P ops Q (o::rest) act W:=by obtain⟨cs,e1,e2⟩:=h.res;exact Ap bM ty x y ho (w.heap.size+1) cells hx hy 81 cs e2 hi (by omega) h1 hK
theorem DJ(bM:o.guard=none)(ty:TypeId)(x y:Operand)(ho:o.op=.store ty x y)(h:JM w a W)(cells:Array Value)(hx:act.eval x=.pointer (some ⟨w.heap.size+1,0,none⟩))(hy:act.eval y=.agg cells)(hi:(P.info? ty).map (·.size)=some cells.size)(h5:cells.size=5)(h1:cells.all (·.oneCell')=true)(hK:K (act.put o.dst undef) (W.setRow (w.heap.size+1) cells)):if Region.wanted o (yielded ops act.tmps)=true then Oper.wp P o act W K Q else E:=by obtain⟨cs,e1,e2⟩:=h.res;rw [AJ (by simp [Region.wanted,bM])];exact DV ty x y ho (w.heap.size+1) cells hx hy 81 cs e2 hi (by omega) h1 hK
theorem ZBG{w W:World}{a:AH}(h:JM w a W){S:Nat->Prop}(hS:¬S (w.heap.size+1)){y:RV}(hy:y.Ok W S)(cs:Array Value):y.Ok (W.setRow (w.heap.size+1) cs) S:=hy.grown FC (fun b e=>by cases e;exact hS)
def Sn(w:World)(S:Nat->Prop)(b:Nat):Prop:=(b<w.heap.size/\S b)\/w.heap.size+2<=b
theorem JM.heap(h:JM w a W)(cs:Array Value):(W.setRow (w.heap.size+1) cs).heap[w.heap.size+1]?=some (.cells cs 81 (0,0)):=by obtain⟨cs',_,h2⟩:=h.res;exact AL _ _ _ _ _ _ h2
abbrev FV(y:RV):Array Value:=#[.int .u8 y.ty.head.kind,.int .i64 y.ty.head.rho,.slice y.ty.head.ep y.ty.head.en y.ty.head.ec,.slice y.ty.head.kp y.ty.head.kn y.ty.head.kc,.slice y.ep y.en y.ec]
theorem Hy(h:JM w a W)(hS:∀b,w.heap.size<=b->S b)(hy:y.Ok W (Sn w S))(hx:y.er=x):Gm w S (.ok x) (.returned (Ou y)) (W.setRow (w.heap.size+1) (FV y)):=by
 have hn:¬Sn w S (w.heap.size+1):=by rintro(⟨h1,_⟩|h1)<;>omega
 refine⟨⟨y,rfl,hx,(ZBG h hn hy _).weak (fun b _ hb=>?_)⟩,(h.store (cs:=FV y) rfl).below⟩;rcases hb with⟨_,h2⟩|h2
 ·exact h2
 ·exact hS b (by omega)
theorem Io(h:NZ w S p n c l)(hb:Below w.heap.size w W):NZ W (Sn w S) p n c l:=⟨h.row.below hb,fun r hr=>((h.each r hr).weak (fun b h1 h2=>.inl ⟨h1,h2⟩)).below hb⟩
theorem G1(hl:∀r∈l,∀x∈r.eff,LT x)(hm:∀x∈more,LT x):∀x∈Ee (Em l) more,LT x:=fun x hx=>by
 rcases (UU hx).1 with h|⟨y,hy,h⟩
 ·exact hm x h
 ·obtain⟨r,hr,rfl⟩:=BI.1 hy;exact hl r hr x h
structure Id(w:World)(S:Nat->Prop)(a:AH)(p:Option Addr)(n c:Nat)(l:List RV):Prop where
 own:AH.Own w a
 small:GP a
 res:NZ w S p n c l
 new:∀b,w.heap.size<=b->S b
 ty:∀b∈Dy a.ty,S b
 few:n<=1000
 sum:(l.map (·.en)).sum<=900000
 good:∀r∈l,FK r.ty.er=true/\FG r.ty.er=true/\r.ty.size<=1000
theorem Wm(h:JM w a W)(hS:∀b,w.heap.size<=b->S b)(aC:Ax Ce 3 W q m qc [])(bw:Ax Ce 3 W q3 k c3 eff)(cB:∀ad,q3=some ad->w.heap.size+2<=ad.block)(aW:∀x∈eff,LT x):Gm w S (.ok (NN,eff)) (.returned (.agg #[.int .u8 1,.int .i64 0,.slice q m qc,.slice none 0 0,.slice q3 k c3])) (W.setRow (w.heap.size+1) #[.int .u8 1,.int .i64 0,.slice q m qc,.slice none 0 0,.slice q3 k c3]):=by have hl:LR.lies W (.node ⟨1,0,q,m,qc,[],none,0,0⟩ []):=Dz.lies ⟨⟨aC,(fun x hx=>(nomatch hx)),by dsimp only;decide,by dsimp only;decide,by dsimp only;decide,by dsimp only;decide,by dsimp only;decide,by dsimp only;decide,fun _=>rfl⟩,Ax.none _ _ _,fun t ht=>by cases ht⟩;exact Hy (y:=⟨.node ⟨1,0,q,m,qc,[],none,0,0⟩ [],q3,k,c3,eff⟩) h hS ⟨hl,fun b hb=>by simp [H4] at hb,bw,aW,fun _ ad hp=>.inr (cB ad hp)⟩ rfl
theorem VV(h:Ax Fm 5 W (some ⟨b,o,none⟩) n c l)(hx:l[j]?=some x):W.rangeAt b (o+j * 5) (Fm x):=fun i v hv=>by obtain⟨b',o',hp,_,hc⟩:=h.row.elem hx;cases hp;exact hc i v hv
theorem NF{W:World}{b o:Nat}{cs:List Value}(h:W.rangeAt b o cs)(k:Nat):W.rangeAt b o (cs.take k):=fun i v hv=>by
 rw [Ei] at hv;split at hv
 ·exact h i v hv
 ·cases hv
theorem K3(h:Ax Fm 5 W (some ⟨b,o,none⟩) n c (x::l)):W.rangeAt b o [.int .u8 x.ty.head.kind,.int .i64 x.ty.head.rho,.slice x.ty.head.ep x.ty.head.en x.ty.head.ec,.slice x.ty.head.kp x.ty.head.kn x.ty.head.kc]:=by have:=NF (VV h (j:=0) rfl) 4;simpa [Fm] using this
theorem ME(h:Ax Fm 5 W (some ⟨b,o,none⟩) n c (x::y::l)):W.rangeAt b (o+5) [.int .u8 y.ty.head.kind,.int .i64 y.ty.head.rho,.slice y.ty.head.ep y.ty.head.en y.ty.head.ec,.slice y.ty.head.kp y.ty.head.kn y.ty.head.kc]:=by have:=NF (VV h (j:=1) rfl) 4;simpa [Fm] using this
theorem ZDM(h:Ax Fm 5 W (some ⟨b,o,none⟩) n c (x::y::z::l)):W.rangeAt b (o+10) [.int .u8 z.ty.head.kind,.int .i64 z.ty.head.rho,.slice z.ty.head.ep z.ty.head.en z.ty.head.ec,.slice z.ty.head.kp z.ty.head.kn z.ty.head.kc]:=by have:=NF (VV h (j:=2) rfl) 4;simpa [Fm] using this
theorem Iw(h:Ax Fm 5 W (some ⟨b,o,none⟩) n c (x::l)):W.rangeAt b o (Fm x):=by simpa using VV h (j:=0) rfl
theorem Kk(h0:-9223372036854775808<=r)(h1:r<=9223372036854775807):LT (Fu r):=⟨by show (0:Int)<=2;decide,by show (2:Int)<=255;decide,h0,h1,by show (ByteArray.size ⟨#[]⟩)<=_;decide⟩
theorem L7(h0:-9223372036854775808<=r)(h1:r<=9223372036854775807):LT (Hw r):=⟨by show (0:Int)<=1;decide,by show (1:Int)<=255;decide,h0,h1,by show (ByteArray.size ⟨#[]⟩)<=_;decide⟩
theorem Iu(w:World)(x:BB):Ax Ce 3 (w.alloc (.cells #[.int .u8 x.kind,.int .i64 x.rho,.string x.exn] 59)) (some ⟨w.heap.size,0,none⟩) 1 1 [x]:=Bo BF (by omega) w 59 [x] 1 _ rfl rfl (by decide)
theorem Oa(hk:0<=k/\k<=255)(hr:RX rho)(aC:Ax Ce 3 W q m qc eff)(aW:∀x∈eff,LT x)(ht:G0 W (some ⟨g,0,none⟩) 2 2 [x,y]):LR.lies W (.node ⟨k,rho,q,m,qc,eff,some ⟨g,0,none⟩,2,2⟩ [x,y]):=Dz.lies ⟨⟨aC,aW,hk.1,hk.2,hr.1,hr.2,by dsimp only;decide,by dsimp only;decide,fun h=>(nomatch h)⟩,ht.row,ht.each⟩
theorem Ob{T:Nat->Prop}{k rho:Int}{q:Option Addr}{m qc g:Nat}{eff:List BB}{x y:PT}(hx:∀b∈Dy x,T b)(hy:∀b∈Dy y,T b)(hg:T g)(hq:eff≠[]->∀ad,q=some ad->T ad.block):∀b∈Dy (.node ⟨k,rho,q,m,qc,eff,some ⟨g,0,none⟩,2,2⟩ [x,y]),T b:=fun b hb=>by
 rcases JA hb with⟨_,ad,hp,rfl⟩|⟨he,ad,hp,rfl⟩|⟨t,ht,qQ⟩
 ·cases hp;exact hg
 ·exact hq he ad hp
 ·simp only [AS,Al,BN] at ht;rcases ht with rfl|rfl
  ·exact hx b qQ
  ·exact hy b qQ
theorem Nf(t:PT):(PT.er t).head=t.head.plain:=by cases t;rw [PT.er_node];rfl
theorem ZBx(t:PT):(PT.er t).kids=t.kids.map PT.er:=by cases t;rw [PT.er_node];rfl
theorem M9(k:Int)(r:RV):OS k r.er=(r.ty.head.kind==k):=by unfold OS RV.er;rw [Nf];rfl
theorem Zp(k:Int)(l:List RV):(Em l).all (OS k)=l.all (fun r=>r.ty.head.kind==k):=by unfold Em;rw [CD];congr 1;funext r;exact M9 k r
theorem ZAr(hk:0<=k/\k<=255)(hr:RX rho)(aC:Ax Ce 3 W q m qc eff)(aW:∀x∈eff,LT x)(ht:G0 W (some ⟨g,0,none⟩) 1 1 [x]):LR.lies W (.node ⟨k,rho,q,m,qc,eff,some ⟨g,0,none⟩,1,1⟩ [x]):=Dz.lies ⟨⟨aC,aW,hk.1,hk.2,hr.1,hr.2,by dsimp only;decide,by dsimp only;decide,fun h=>(nomatch h)⟩,ht.row,ht.each⟩
theorem ZAt{T:Nat->Prop}{k rho:Int}{q:Option Addr}{m qc g:Nat}{eff:List BB}{x:PT}(hx:∀b∈Dy x,T b)(hg:T g)(hq:eff≠[]->∀ad,q=some ad->T ad.block):∀b∈Dy (.node ⟨k,rho,q,m,qc,eff,some ⟨g,0,none⟩,1,1⟩ [x]),T b:=fun b hb=>by
 rcases JA hb with⟨_,ad,hp,rfl⟩|⟨he,ad,hp,rfl⟩|⟨t,ht,qQ⟩
 ·cases hp;exact hg
 ·exact hq he ad hp
 ·rw [AQ] at ht;subst ht;exact hx b qQ
theorem OO(x:RV):(Ad.head x.er.1).rho=x.ty.head.rho:=by unfold RV.er;rw [Nf];rfl
theorem ZC9(x:RV):(Ad.head x.er.1).eff=x.ty.head.eff:=by unfold RV.er;rw [Nf];rfl
theorem Q7(h:Ax Fm 5 W (some ⟨b,o,none⟩) n c (x::l))(i:Nat)(v:Value)(hv:(Fm x)[i]?=some v):W.cell? ⟨b,o+i,none⟩=some v:=Iw h i v hv
structure ZCx(w:World)(b o b1 o1 n kc:Nat)(x:RV)(ts:List PT):Prop where
 kids:x.ty.kids=ts
 cell:∀W,Below w.heap.size w W->W.cell? ⟨b,o+3,none⟩=some (.slice (some ⟨b1,o1,none⟩) n kc)
 row:G0 w (some ⟨b1,o1,none⟩) n kc ts
theorem ZCx.at(h:ZCx w b o b1 o1 n kc x ts)(ht:ts[j]?=some t)(hb:Below w.heap.size w W):W.rangeAt b1 (o1+j * 4) [.int .u8 t.head.kind,.int .i64 t.head.rho,.slice t.head.ep t.head.en t.head.ec,.slice t.head.kp t.head.kn t.head.kc]:=fun i v hv=>by obtain⟨b',o',hp,_,hc⟩:=(h.row.below hb).row.row.elem ht;cases hp;exact hc i v hv
theorem No(h:Id w S a (some ⟨b,o,none⟩) n c (x::l))(hk:x.ty.head.kind=k)(cz:k=2\/k=3\/k=4):∃b1 o1 kc ts,ZCx w b o b1 o1 ts.length kc x ts/\ts.length=if k=3 then 1 else 2:=by
 have hx:=h.res.each x (by simp);have hm:=(h.good x (by simp)).1;have hn:Dz w x.ty.head x.ty.kids:=Fs (by rw [<-Ad.eta];exact hx.ty)
 have aJ:x.ty.kids.length=if k=3 then 1 else 2:=by
  rw [Ad.eta x.ty,Ti,AK] at hm;have h1:=hm.1;unfold DY at h1;have e:x.ty.head.plain.kind=k:=hk;rcases cz with rfl|rfl|rfl
  ·simp [e] at h1;simp [h1]
  ·simp [e] at h1;simp [h1]
  ·simp [e] at h1;simp [h1]
 have aM:x.ty.kids≠[]:=by intro e;rw [e] at aJ;simp at aJ;split at aJ<;>omega
 have ai:=hn.kids.len;rcases hn.kids.row with h0|⟨b1,o1,hp,_,_⟩
 ·exact absurd h0 aM
 ·refine⟨b1,o1,x.ty.head.kc,x.ty.kids,⟨rfl,fun W hb=>?_,?_⟩,aJ⟩
  ·rw [Q7 (h.res.row.below hb) 3 _ rfl,hp,ai]
  ·rw [<-hp,ai];exact hn.rowT
theorem Nn{x:PT}{S:Nat->Prop}(h:∀b∈Dy x,S b){t:PT}(ht:t∈x.kids):∀b∈Dy t,S b:=fun b hb=>h b (by rw [Ad.eta x];exact Ss ht hb)
theorem OV(h:x.kids=ts)(j:Nat):(PT.er x).kids.getD j EQ=((ts.map PT.er)[j]?).getD EQ:=by rw [ZBx,h,AX]
end Go.Proofs.YtkdjnegfnhldpaaGreatDoor
