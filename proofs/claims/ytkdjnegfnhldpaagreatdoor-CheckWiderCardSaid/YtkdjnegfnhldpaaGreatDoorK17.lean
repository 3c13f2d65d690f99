/- Part 17. -/
import Derived.ArgAppend
import Derived.Deep.Upon
import Derived.Test.YtkdjnegfnhldpaaGreatDoorK16
set_option linter.unusedVariables false
set_option maxRecDepth 100000
set_option linter.unusedSimpArgs false
set_option maxHeartbeats 40000000
namespace Go.Proofs.YtkdjnegfnhldpaaGreatDoor
open Go.Proofs.Tryz Go.RowKit
theorem Oa{α:Type}{enc:α→List Value}{k:Nat}(hk:∀x,(enc x).length=k)(bC:0<k){w:World}{ad:Addr}{l:List α}(h:At enc k w (some ad) l):∀j u,(l.flatMap enc)[j]?=some u→w.cell? (ad.add j)=some u:=by
 intro j u hj;rcases h with h0|⟨b,o',hb,aG,hc⟩
 ·subst h0;simp at hj
 ·cases hb
  have fy:j<l.length * k:=by rw [←Aj hk];exact CD hj
  have hq:j / k<l.length:=Nat.div_lt_of_lt_mul (by rw [Nat.mul_comm];exact fy);have hm:j % k<k:=Nat.mod_lt _ bC;have hf:=CY hk l (j / k) _ (j % k) (List.getElem?_eq_getElem hq) hm;rw [Nat.div_add_mod' j k,hj] at hf;have:=hc (j / k) _ (List.getElem?_eq_getElem hq) (j % k) u hf.symm;rw [D3,←Nat.div_add_mod' j k,←Nat.add_assoc];exact this
theorem Jt{P:Program}{α:Type}{enc:α→List Value}{k:Nat}(hk:∀x,(enc x).length=k)(bC:0<k)(h1:∀y,∀u∈enc y,u.oneCell'=true)(t ty e:TypeId)(z:Value)(bytes:Nat)(ht:P.underlying t=some (.slice e))(bu:(P.info? e).map (fun i=>(i.zero,i.size,i.bytes))=some (some z,k,bytes))(et:z.cells.size=k){w:World}{p q:Option Addr}{n m c:Nat}{l l':List α}(hr:AF enc k w p n n l)(ah:AF enc k w q m c l')(ac:(n+m) * bytes≤140737488355328)(ic:n+m≤1000000):∃p' c' w',(Builtin.append_ #[t,t] ty #[.slice p n n,.slice q m c]).run P w=.ok (.slice p' (n+m) c') w'∧AF enc k w' p' (n+m) c' (l++l')∧Below w.heap.size w w'∧(l'=[]∧p'=p∨∀ad,p'=some ad→w.heap.size≤ad.block):=by
 obtain⟨i,hi,hz,bW,eL⟩:=info_parts bu;rcases Nat.eq_zero_or_pos m with h0|eF
 ·subst h0;have fN:l'=[]:=List.length_eq_zero_iff.1 ah.len;subst fN
  have hs:Src P i.size t (.slice q 0 c) 0 [] w:=by
   cases q with
   |none=>exact Src.ofNil w ht c
   |some ad=>exact Src.ofSlice w ht ad 0 c [] (by simp) (by intro j u h;simp at h) (by simp)
  exact⟨p,n,w,run_append_nothing w t t ty e i ht hi p n n (Nat.le_refl _) _ hs,by simpa using hr,Below.refl _ _,.inl ⟨rfl,rfl⟩⟩
 ·have hq:∃ad,q=some ad:=by
   cases q with
   |none=>have:=ah.nil rfl;have:=ah.le;omega
   |some ad=>exact⟨ad,rfl⟩
  obtain⟨ad',rfl⟩:=hq;have ga:=Oa hk bC ah.row;have l2:∀u∈l'.flatMap enc,u.oneCell'=true:=fun u hu=>by obtain⟨y,_,hy⟩:=List.mem_flatMap.1 hu;exact h1 y u hy
  have fin:∀v' w',(Builtin.append_ #[t,t] ty #[.slice p n n,.slice (some ad') m c]).run P w=.ok v' w'→AI enc k w' w.heap.size e v' (n+m) (l++l')→w.grownBy w' none→∃p' c' w',(Builtin.append_ #[t,t] ty #[.slice p n n,.slice (some ad') m c]).run P w=.ok (.slice p' (n+m) c') w'∧AF enc k w' p' (n+m) c' (l++l')∧Below w.heap.size w w'∧(l'=[]∧p'=p∨∀ad,p'=some ad→w.heap.size≤ad.block):=fun v' w' bx aD hg=>by obtain⟨p',c',rfl,aB⟩:=AI.isRow hk bC aD;exact⟨p',c',w',bx,aB,Ds hg (Nat.le_refl _) (fun b h=>by cases h),.inr (fun ad hp=>by subst hp;exact AI.from aD ad.block rfl)⟩
  cases p with
  |some ad=>
   obtain⟨v',w',bx,aD,hg⟩:=run_append_arg_grows (P:=P) w t ty e i z k bytes ht hi hz bW eL et bC ad n n (l.flatMap enc) (by rw [Aj hk,hr.len]) (Oa hk bC hr.row) ad' m c (l'.flatMap enc) (by rw [Aj hk,ah.len]) ga (by omega) (by unfold maxLen;omega) ac;exact fin v' w' bx (by unfold AI;rw [List.flatMap_append];exact aD) hg
  |none=>
   have jv:=hr.nil rfl;subst jv;have fN:l=[]:=List.length_eq_zero_iff.1 hr.len;subst fN;obtain⟨v',w',bx,aD,hg,_,_⟩:=run_append_own_at (P:=P) w w.heap.size t ty e i z k bytes ht hi hz bW eL et bC (.slice none 0 0) 0 [] (World.ownsRow_nil _ _ _ _) ad' m c (l'.flatMap enc) (by rw [Aj hk,ah.len]) ga l2 (by unfold maxLen;omega) ac (Nat.le_refl _);exact fin v' w' bx (by unfold AI;simpa using aD) hg
theorem Eo{P:Program}{α:Type}{ops:Array Oper}{rest:List Oper}{o:Oper}{a:Act}{Q:Exit→Act→World→Prop}(bG:o.guard=none)(s x:Operand)(t:TypeId)(ho:o.op=.call { callee:=.builtin .append,args:=#[s,x],argTypes:=#[t,t] })(enc:α→List Value)(k:Nat)(hk:∀x,(enc x).length=k)(bC:0<k)(h1:∀y,∀u∈enc y,u.oneCell'=true)(e:TypeId)(z:Value)(bytes:Nat)(ht:P.underlying t=some (.slice e))(bu:(P.info? e).map (fun i=>(i.zero,i.size,i.bytes))=some (some z,k,bytes))(et:z.cells.size=k){w:World}(p q:Option Addr)(n m c:Nat)(l l':List α)(hs:a.eval s=.slice p n n)(hx:a.eval x=.slice q m c)(hr:AF enc k w p n n l)(ah:AF enc k w q m c l')(ac:(n+m) * bytes≤140737488355328)(ic:n+m≤1000000)(h:∀p' c' w',AF enc k w' p' (n+m) c' (l++l')→Below w.heap.size w w'→(l'=[]∧p'=p∨∀ad,p'=some ad→w.heap.size≤ad.block)→wpList P ops Q rest (a.put o.dst (.slice p' (n+m) c')) w'):wpList P ops Q (o::rest) a w:=by refine wpList_plain bG fun K' jP=>?_;obtain⟨p',c',w',bx,aB,hb,bh⟩:=Jt (P:=P) hk bC h1 t o.type e z bytes ht bu et hr ah ac ic;unfold Oper.wp execOp;simp only [ho,resolve,invoke,builtin,Sem.run_bind,Sem.run_pure,Result.andThen_ok,List.map_toArray,List.map_cons,List.map_nil,hs,hx,bx];exact jP _ _ (h p' c' w' aB hb bh)
theorem RA{w:World}{p:Option Addr}{n c:Nat}{l:List Int}(hr:AF Am 1 w p n c l):Calls prog 184 #[.slice p n c] w fun e w'=>e=.returned (.slice p n n)∧w=w':=by
 have HR:=AA hr;have dC:=hr.le;have hm:=hr.max;clear hr;cases p with
 |none=>
  have hc:=HR.o.nil rfl;subst hc;obtain rfl:n=0:=by omega
  go_enter func184,ntmps184;go_wp2_with fail;go_ret;exact⟨rfl,rfl⟩
 |some ad=>
  obtain⟨b,o,s⟩:=ad;go_enter func184,ntmps184;go_wp2_with fail;go_ret;exact⟨rfl,rfl⟩
theorem Q9{w:World}{p:Option Addr}{n c:Nat}{l:List BV}(hr:AF EK 6 w p n c l):Calls prog 190 #[.slice p n c] w fun e w'=>e=.returned (.slice p n n)∧w=w':=by
 have HR:=AA hr;have dC:=hr.le;have hm:=hr.max;clear hr;cases p with
 |none=>
  have hc:=HR.o.nil rfl;subst hc;obtain rfl:n=0:=by omega
  go_enter func190,ntmps190;go_wp2_with fail;go_ret;exact⟨rfl,rfl⟩
 |some ad=>
  obtain⟨b,o,s⟩:=ad;go_enter func190,ntmps190;go_wp2_with fail;go_ret;exact⟨rfl,rfl⟩
theorem AF.clip{α:Type}{enc:α→List Value}{k:Nat}{w:World}{p:Option Addr}{n c:Nat}{l:List α}(h:AF enc k w p n c l):AF enc k w p n n l:=⟨h.len,h.max,Nat.le_refl _,fun e=>by have:=h.nil e;have:=h.le;omega,h.row⟩
theorem VA:(prog.info? 145).map (fun i=>(i.zero,i.size,i.bytes))=some (some (.agg #[.string .empty,.int .u8 0,.int .i64 0,.slice none 0 0,.slice none 0 0,.pointer none]),6,88):=by kernel_rfl
structure Na(w W:World)(x y:Value):Prop where
 b0:W.heap[w.heap.size]?=some (.cells #[x,y] 84 (0,0))
 b1:W.heap[w.heap.size+1]?=some (.cells #[.slice none 0 0,.slice none 0 0] 84 (0,0))
 below:Below w.heap.size w W
theorem Of(w:World)(x y:Value):Na w ((w.alloc (.cells #[x,y] 84)).alloc (.cells #[.slice none 0 0,.slice none 0 0] 84)) x y:=by have e1:=heap_alloc_new (w.alloc (.cells #[x,y] 84)) (.cells #[.slice none 0 0,.slice none 0 0] 84);simp only [World.size_alloc] at e1;refine⟨?_,e1,((Below.refl w.heap.size w).alloc (Nat.le_refl _) _).alloc (by simp) _⟩;rw [Below.heap_alloc _ _ _ (by simp)];exact heap_alloc_new w _
theorem Na.step{w W W':World}{x y:Value}(h:Na w W x y)(hb:Below W.heap.size W W'):Na w W' x y:=⟨(hb.block _ (Array.getElem?_eq_some_iff.1 h.b0).1).trans h.b0,(hb.block _ (Array.getElem?_eq_some_iff.1 h.b1).1).trans h.b1,h.below.trans (hb.mono h.below.size)⟩
theorem Na.cells{w W:World}{x y:Value}(h:Na w W x y):W.cell? ⟨w.heap.size,0,none⟩=some x∧W.cell? ⟨w.heap.size,1,none⟩=some y∧W.frozen? ⟨w.heap.size,0,none⟩=false∧W.frozen? ⟨w.heap.size,1,none⟩=false:=by refine⟨?_,?_,?_,?_⟩<;>simp only [World.cell?,World.frozen?,h.b0]<;>rfl
theorem Na.set{w W:World}{x y x':Value}{i:Nat}(h:Na w W x y):(W.setCell ⟨w.heap.size,i,none⟩ x').heap[w.heap.size+1]?=some (.cells #[.slice none 0 0,.slice none 0 0] 84 (0,0))∧Below w.heap.size w (W.setCell ⟨w.heap.size,i,none⟩ x')∧W.grownBy (W.setCell ⟨w.heap.size,i,none⟩ x') (some w.heap.size):=
 have hg:=AG W w.heap.size i x'
 ⟨(hg.block _ (Array.getElem?_eq_some_iff.1 h.b1).1 (fun e=>by injection e with e;omega)).trans h.b1,h.below.grown hg h.below.size (fun k e=>by cases e;exact Nat.le_refl _),hg⟩
theorem ER{α:Type}{enc:α→List Value}{k:Nat}{w w':World}{r:Nat}{p:Option Addr}{n c:Nat}{l:List α}(h:AF enc k w p n c l)(hg:w.grownBy w' (some r))(hr:l≠[]→∀ad,p=some ad→ad.block≠r):AF enc k w' p n c l:=Ab hg (fun hl ad hp e=>by injection e with e;exact hr hl ad hp e.symm) h
theorem BP{W:World}{r:Nat}{cs:Array Value}:W.grownBy (W.setRow r cs) (some r):=⟨rfl,rfl,rfl,by simp,fun k hk aR=>setRow_other _ _ _ _ (fun e=>aR (by rw [e]))⟩
theorem CG{w:World}{p:Option Addr}{n c:Nat}{l:List BV}(hr:AF EK 6 w p n c l)(rp:Option Addr)(rn rc:Nat){q:Option Addr}{m mc:Nat}{l':List BV}(ah:AF EK 6 w q m mc l')(h:n+m≤1000000):Calls prog 139 #[.agg #[.slice p n c,.slice rp rn rc],.slice q m mc] w fun e w'=>∃p' c',e=.returned (.agg #[.slice p' (n+m) c',.slice rp rn rc])∧AF EK 6 w' p' (n+m) c' (l++l')∧Below w.heap.size w w'∧(l'=[]∧p'=p∨∀ad,p'=some ad→w.heap.size≤ad.block):=by
 have hs:=Of w (.slice p n c) (.slice rp rn rc);have HS:=AA hs;have ef:=AA hr;have HR:=AA (hr.below hs.below);have dF:=AA (ah.below hs.below);have aL:((w.alloc (.cells #[.slice p n c,.slice rp rn rc] 84)).alloc (.cells #[.slice none 0 0,.slice none 0 0] 84)).heap.size=w.heap.size+2:=by simp
 clear hr ah hs;go_enter func139,ntmps139;go_wp2_with fail;refine(Q9 HR.o).mono ?_;rintro e w1 ⟨rfl,rfl⟩;generalize (w.alloc (.cells #[.slice p n c,.slice rp rn rc] 84)).alloc (.cells #[.slice none 0 0,.slice none 0 0] 84)=W1 at *
 go_wp2_with (first
  |(refine Eo rfl _ _ 82 rfl EK 6 Do (by decide) RF 145 _ 88 underlying82 VA rfl p q n m mc l l' rfl rfl HR.o.clip dF.out (by omega) (by omega) ?_;intro p' c' w2 aB hb bh;have aa:=AA aB;have hM:=AA bh;have dW:=AA (HS.o.step hb);obtain⟨x0,x1,x2,x3⟩:=dW.o.cells;clear aB hb bh)
  |(refine sw #[.slice p' (n+m) c',.slice rp rn rc] (dW.o.set).1 ?_))
 refine br (setRow_heap _ _ _ _ _ _ (dW.o.set).1) underlying84 ?_
 have aR:l++l'≠[]→∀ad,p'=some ad→ad.block≠w.heap.size∧ad.block≠w.heap.size+1:=fun hl ad hp=>by
  rcases hM.o with⟨h1,h2⟩|h2
  ·subst h1;have aG:=BD ef.o.row (by simpa using hl) (h2▸hp);omega
  ·have:=h2 ad hp;omega
 have hg:=(dW.o.set (i:=0) (x':=.slice p' (n+m) c'));exact⟨p',c',rfl,ER (ER aa.o hg.2.2 (fun hl ad hp=>(aR hl ad hp).1)) BP (fun hl ad hp=>(aR hl ad hp).2),hg.2.1.grown BP hg.2.1.size (fun k e=>by cases e;omega),hM.o.imp id (fun h ad hp=>by have:=h ad hp;omega)⟩
theorem Dj{w:World}{p:Option Addr}{n c:Nat}{l:List Int}(hr:AF Am 1 w p n c l)(rp:Option Addr)(rn rc:Nat){q:Option Addr}{m mc:Nat}{l':List Int}(ah:AF Am 1 w q m mc l')(h:n+m≤1000000):Calls prog 131 #[.agg #[.slice rp rn rc,.slice p n c],.slice q m mc] w fun e w'=>∃p' c',e=.returned (.agg #[.slice rp rn rc,.slice p' (n+m) c'])∧AF Am 1 w' p' (n+m) c' (l++l')∧Below w.heap.size w w'∧(l'=[]∧p'=p∨∀ad,p'=some ad→w.heap.size≤ad.block):=by
 have hs:=Of w (.slice rp rn rc) (.slice p n c);have HS:=AA hs;have ef:=AA hr;have HR:=AA (hr.below hs.below);have dF:=AA (ah.below hs.below);have aL:((w.alloc (.cells #[.slice rp rn rc,.slice p n c] 84)).alloc (.cells #[.slice none 0 0,.slice none 0 0] 84)).heap.size=w.heap.size+2:=by simp
 clear hr ah hs;go_enter func131,ntmps131;go_wp2_with fail;refine(RA HR.o).mono ?_;rintro e w1 ⟨rfl,rfl⟩;generalize (w.alloc (.cells #[.slice rp rn rc,.slice p n c] 84)).alloc (.cells #[.slice none 0 0,.slice none 0 0] 84)=W1 at *
 go_wp2_with (first
  |(refine Eo rfl _ _ 24 rfl Am 1 Ap (by decide) FI 3 _ 8 underlying24 Kc rfl p q n m mc l l' rfl rfl HR.o.clip dF.out (by omega) (by omega) ?_;intro p' c' w2 aB hb bh;have aa:=AA aB;have hM:=AA bh;have dW:=AA (HS.o.step hb);obtain⟨x0,x1,x2,x3⟩:=dW.o.cells;clear aB hb bh)
  |(refine sw #[.slice rp rn rc,.slice p' (n+m) c'] (dW.o.set).1 ?_))
 refine br (setRow_heap _ _ _ _ _ _ (dW.o.set).1) underlying84 ?_
 have aR:l++l'≠[]→∀ad,p'=some ad→ad.block≠w.heap.size∧ad.block≠w.heap.size+1:=fun hl ad hp=>by
  rcases hM.o with⟨h1,h2⟩|h2
  ·subst h1;have aG:=BD ef.o.row (by simpa using hl) (h2▸hp);omega
  ·have:=h2 ad hp;omega
 have hg:=(dW.o.set (i:=1) (x':=.slice p' (n+m) c'));exact⟨p',c',rfl,ER (ER aa.o hg.2.2 (fun hl ad hp=>(aR hl ad hp).1)) BP (fun hl ad hp=>(aR hl ad hp).2),hg.2.1.grown BP hg.2.1.size (fun k e=>by cases e;omega),hM.o.imp id (fun h ad hp=>by have:=h ad hp;omega)⟩
section
open Go.Shelf
theorem Sv(x:Int){g:Nat}{q:Option Addr}{m mc:Nat}{rhos:List Int}{W:World}(hc:W.cell? ⟨g,1,none⟩=some (.slice q m mc))(hr:AF Am 1 W q m mc rhos):Calls prog 182 #[.int .i64 x,.pointer (some ⟨g,0,none⟩)] W fun e w'=>e=.returned (.bool (!FA rhos x))∧w'=W:=by have HC:=AA (Eg hr x);clear hr;go_enter func182,ntmps182;go_wp2_with fail;refine HC.o.mono ?_;rintro e w1 ⟨rfl,rfl⟩;go_wp2_with fail;go_ret;exact⟨rfl,rfl⟩
theorem Q5{W:World}{p:Option Addr}{n c:Nat}{l:List Int}(hr:AF Am 1 W p n c l){g:Nat}{q:Option Addr}{m mc:Nat}{rhos:List Int}(hc:W.cell? ⟨g,1,none⟩=some (.slice q m mc))(hq:AF Am 1 W q m mc rhos):Calls prog 122 #[.slice p n c,.func (.func 182) #[] #[.pointer (some ⟨g,0,none⟩)]] W fun e w'=>e=.returned (.bool (l.any (fun x=>!FA rhos x)))∧Below W.heap.size W w':=by
 have cP:=hr.len;have pT:=hr.max;rcases hr.row with h|⟨b,o,hp,hb,ao⟩
 ·subst h;obtain rfl:n=0:=by simpa using cP.symm
  refine(CJ (α:=Int) p c _ W).mono ?_;rintro e w' ⟨rfl,rfl⟩;exact⟨rfl,Below.refl _ _⟩
 ·subst hp;have eA:∀j,j<l.length→W.cell? ⟨b,o+j,none⟩=some (Value.int .i64 (l[j]!)):=fun j hj=>by have:=ao j (l[j]!) (by rw [List.getElem?_eq_getElem hj,getElem!_pos l j hj]) 0 (.int .i64 (l[j]!)) rfl;simpa using this
  refine(DG (α:=Int) (Value.int .i64) (fun x:Int=>!FA rhos x) 182 #[.pointer (some ⟨g,0,none⟩)] (fun args w=>rfl) b o n c l W ?_ (by omega) (by omega) eA).mono ?_
  ·intro W' x bB;refine(Sv x (W:=W') (g:=g) (by rw [bB.cell (BC hc)];exact hc) (hq.below bB)).mono ?_;rintro e w' ⟨rfl,rfl⟩;exact⟨rfl,0,rfl⟩
  ·rintro e w' ⟨rfl,q,rfl⟩;rw [List.take_of_length_le (by omega)];exact⟨rfl,rfl,rfl,rfl,Nat.le_refl _,fun _ _=>rfl⟩
theorem UJ(rhos l:List Int):(!l.any (fun x=>!FA rhos x))=Br rhos l:=by unfold Br;rw [List.not_any_eq_all_not];simp
theorem Le{w:World}{p:Option Addr}{n c:Nat}{l:List Int}(hr:AF Am 1 w p n c l)(ep:Option Addr)(en ec:Nat){q:Option Addr}{m mc:Nat}{rhos:List Int}(hq:AF Am 1 w q m mc rhos):Calls prog 130 #[.agg #[.slice ep en ec,.slice q m mc],.slice p n c] w (RB w (.bool (Br rhos l))):=by have hb:Below w.heap.size w (w.alloc (.cells #[.slice ep en ec,.slice q m mc] 84)):=bA;have HC:=AA (Q5 (hr.below hb) (g:=w.heap.size) (q:=q) (m:=m) (mc:=mc) (rhos:=rhos) (by rw [AU];rfl) (hq.below hb));have HB:=AA hb;have HE:=AA (UJ rhos l);generalize l.any (fun x=>!FA rhos x)=r at HC HE;clear hr hq hb;go_enter func130,ntmps130;go_wp2_with fail;refine HC.o.mono ?_;rintro e w1 ⟨rfl,hb⟩;have aI:=bt HB hb;clear hb;go_wp2_with fail;go_ret;exact⟨AE HE.o,aI.o⟩
end
theorem tk{P:Program}{ops:Array Oper}{Q:Exit→Act→World→Prop}{md:Region.Mode}{S:World→Prop}{i:Nat}{oi:Oper}{v:Value}{fuel:Nat}{listed:Array Bool}{a:Act}{w:World}(hi:ops[i]?=some oi)(hy:YieldsIf P ops S oi v a)(h:wpAnyH P md ops Q S fuel (listed.setIfInBounds i true) (a.put oi.dst v) w)(hs:Region.noSelect ops=true:=by kernel_rfl)(hf:Region.free md ops listed i=true:=by kernel_rfl)(hr:(Region.ready md ops listed).contains i=true:=by kernel_rfl)(hQ:∀c a w,Q (.panic c) (a.put oi.dst v) w→Q (.panic c) a w:=by exact fun _ _ _ h=>h)(hS:S w:=by assumption):wpAnyH P md ops Q S (fuel+1) listed a w:=wpAnyH_take hi hs hf hr hQ hy hS h
theorem Tc{w:World}{p:Option Addr}{n cap:Nat}{l:List RV}(h:AF Bt 5 w p n cap l){j:Nat}{t:RV}(hx:l[j]?=some t) :
 ∃b o,p=some ⟨b,o,none⟩∧b<w.heap.size∧w.cell? ⟨b,o+j * 5,none⟩=some (.int .u8 t.ty.head.kind)∧w.cell? ⟨b,o+j * 5+1,none⟩=some (.int .i64 t.ty.head.rho) ∧
  w.cell? ⟨b,o+j * 5+2,none⟩=some (.slice t.ty.head.ep t.ty.head.en t.ty.head.ec)∧w.cell? ⟨b,o+j * 5+3,none⟩=some (.slice t.ty.head.kp t.ty.head.kn t.ty.head.kc)∧w.cell? ⟨b,o+j * 5+4,none⟩=some (.slice t.ep t.en t.ec):=by
 obtain⟨b,o,hp,hb,hc⟩:=h.row.elem hx
 exact⟨b,o,hp,hb,hc 0 _ rfl,hc 1 _ rfl,hc 2 _ rfl,hc 3 _ rfl,hc 4 _ rfl⟩
def QW(fid:FuncId)(caps:Array Value)(w:World)(l:List RV)(q:RV→Bool):Prop:=∀x∈l,∀W,Below w.heap.size w W→Calls prog fid (#[JJ x]++caps) W fun e w'=>e=.returned (.bool (q x))∧Below W.heap.size W w'
theorem QW.is{fid:FuncId}{caps:Array Value}{w:World}{l:List RV}{q:RV→Bool}(h:QW fid caps w l q){x:RV}(hx:x∈l){r:Bool}(hq:q x=r){W:World}(hb:Below w.heap.size w W):Calls prog fid (#[JJ x]++caps) W fun e w'=>e=.returned (.bool r)∧Below W.heap.size W w':=by subst hq;exact h x hx W hb
theorem Jw(fid:FuncId)(caps:Array Value)(q:RV→Bool)(ag:DJ fid){p:Option Addr}{n cap:Nat}{l:List RV}{w:World}(hr:AF Bt 5 w p n cap l)(hf:QW fid caps w l q) :
 Calls prog 219 #[.slice p n cap,.func (.func fid) #[] caps] w fun e w'=>(∃r:Int,e=.returned (.int .i64 r)∧NV q l r)∧Below w.heap.size w w':=by
 unfold DJ at ag
 have hm:=hr.max
 have HR:=AA hr
 have HF:=AA hf
 clear hr hf
 go_enter func219,ntmps219
 go_wp2_with fail
 go_loopw [5,8] (fun _ i wr=>∃k:Nat,k≤n∧i=.int .i64 k∧(l.take k).any q=false∧Below w.heap.size w wr) (fun _ i _=>n-(intOf i).toNat)
 case atStart=>exact⟨0,by omega,rfl,by simp,Below.refl _ _⟩
 case round=>
  obtain⟨k,hk,rfl,aw,hb⟩:=hrel;have a8:=AA aw;have HB:=AA hb;clear aw hb;by_cases aG:k<n
  ·obtain⟨x,hx⟩:=Ac (l:=l) (j:=k) (by rw [HR.o.len];exact aG);have HE:=AA hx;obtain⟨b,o,rfl,al,d0,d1,d2,d3,d4⟩:=Tc (HR.o.below HB.o) hx;clear hx al;cases hq:q x
   ·have HQ:=AA hq;clear hq;go_wp2_with fail;refine(HF.o.is (List.mem_of_getElem? HE.o) HQ.o HB.o).mono ?_;rintro e w1 ⟨rfl,hb⟩;have aO:=bt HB hb;clear hb;clear d0 d1 d2 d3 d4;go_wp2_with fail;go_roundw
    case rel=>exact⟨k+1,by omega,by go_num,by rw [BF HE.o,a8.o,HQ.o];rfl,aO.o⟩
    case measure=>simp [intOf];omega
   ·have HQ:=AA hq;clear hq;go_wp2_with fail;refine(HF.o.is (List.mem_of_getElem? HE.o) HQ.o HB.o).mono ?_;rintro e w1 ⟨rfl,hb⟩;have aO:=bt HB hb;clear hb;clear d0 d1 d2 d3 d4;go_wp2_with fail;go_ret;exact⟨⟨k,rfl,.inr ⟨k,x,rfl,HE.o,HQ.o,a8.o⟩⟩,aO.o⟩
  ·go_wp2_with fail;go_ret;have h:=a8.o;rw [AY (by rw [HR.o.len];omega)] at h;exact⟨⟨-1,rfl,.inl ⟨rfl,h⟩⟩,HB.o⟩
theorem IA(fid:FuncId)(caps:Array Value)(q:RV→Bool)(ag:DJ fid){p:Option Addr}{n cap:Nat}{l:List RV}{w:World}(hr:AF Bt 5 w p n cap l)(hf:QW fid caps w l q):Calls prog 193 #[.slice p n cap,.func (.func fid) #[] caps] w (RB w (.bool (l.any q))):=by
 have hc:Calls prog 219 #[.slice p n cap,.func (.func fid) #[] caps] w fun e w'=>
  (∃r:Int,e=.returned (.int .i64 r)∧l.any q=decide (0≤r))∧Below w.heap.size w w':=
  (Jw fid caps q ag hr hf).mono fun _ _ ⟨⟨r,he,hr⟩,hb⟩=>⟨⟨r,he,hr.any⟩,hb⟩
 generalize l.any q=r at hc ⊢;clear hr hf ag;go_enter func193,ntmps193;go_wp2_with fail;refine hc.mono ?_;rintro e w1 ⟨⟨r,rfl,hr⟩,hb⟩;have HR:=AA hr;have HB:=AA hb;clear hr hb hc;go_wp2_with fail;go_ret;exact⟨AE HR.o.symm,HB.o⟩
def VW(k:Int)(r:RV):Bool:=r.ty.head.kind==k
theorem Rd(r:RV)(w:World):Calls prog 194 #[JJ r] w (RB w (.bool (!VW 1 r))):=by have hb:Below w.heap.size w (w.alloc (.cells #[.int .u8 r.ty.head.kind,.int .i64 r.ty.head.rho,.slice r.ty.head.ep r.ty.head.en r.ty.head.ec,.slice r.ty.head.kp r.ty.head.kn r.ty.head.kc,.slice r.ep r.en r.ec] 81)):=bA;have HB:=AA hb;clear hb;go_enter func194,ntmps194;go_wp2_with fail;refine(G7 r 1 _).mono ?_;rintro e w1 ⟨rfl,hb⟩;have aI:=bt HB hb;clear hb;go_wp2_with fail;go_ret;exact⟨AE rfl,aI.o⟩
theorem KI{p:Option Addr}{n c:Nat}{l:List RV}{w:World}(hr:AF Bt 5 w p n c l):Calls prog 143 #[.slice p n c] w (RB w (.bool (l.all (VW 1)))):=by
 have HC:=AA (IA 194 #[] (fun r=>!VW 1 r) (fun args w=>rfl) hr (fun x hx W hb=>Rd x W));have HE:Hd ((!l.any (fun r=>!VW 1 r))=l.all (VW 1)):=by show _=_;rw [List.not_any_eq_all_not];simp
 generalize l.any (fun r=>!VW 1 r)=b at HC HE;clear hr;go_enter func143,ntmps143;go_wp2_with fail;refine HC.o.mono ?_;rintro e w1 ⟨rfl,hb⟩;have aI:=AA hb;clear hb;go_wp2_with fail;go_ret;exact⟨AE HE.o,aI.o⟩
def VL(r:RV):Lq AB:=⟨r.ep,r.en,r.ec,r.eff⟩
theorem VC:(prog.info? 25).map (fun i=>(i.zero,i.size,i.bytes))=some (some (.slice none 0 0),1,24):=by kernel_rfl
theorem FZ(r:Lq AB):(Eu r).length=1:=rfl
theorem PU:∀r:Lq AB,∀u∈Eu r,u.oneCell'=true:=by intro r u hu;simp [Eu] at hu;subst hu;rfl
theorem SO(q:Option Addr)(m mc:Nat)(more:List AB)(l:List RV):BE (((⟨q,m,mc,more⟩:Lq AB)::l.map VL).flatMap (·.l))=A1 (BM l) more:=by
 unfold A1 BM;have h:(l.map VL).flatMap (·.l)=(l.map RV.er).flatMap (·.2):=by rw [List.flatMap_map,List.flatMap_map];rfl
 rw [List.flatMap_cons,h]
theorem Ax{p:Option Addr}{n c:Nat}{l:List RV}{w:World}(hr:AF Bt 5 w p n c l)(he:∀r∈l,AF AP 3 w r.ep r.en r.ec r.eff){q:Option Addr}{m mc:Nat}{more:List AB}(hm:AF AP 3 w q m mc more)(hn:n≤1000)(cW:m+(l.map (·.en)).sum≤1000000):Calls prog 140 #[.slice p n c,.slice q m mc] w fun e w'=>∃v k,e=.returned v∧AI AP 3 w' w.heap.size 59 v k (A1 (BM l) more)∧Below w.heap.size w w':=by
 have HR:=AA hr;have nw:=AA he;have HM:=AA hm;clear hr he hm;go_enter func140,ntmps140;go_wp2_with fail;have oj:Hd (AI Eu 1 (w.alloc (.cells #[.slice q m mc] 25)) w.heap.size 25 (.slice (some ⟨w.heap.size,0,none⟩) 1 1) 1 [(⟨q,m,mc,more⟩:Lq AB)]):=Km FZ w w.heap.size _ [(⟨q,m,mc,more⟩:Lq AB)] 1 _ rfl rfl (by decide) (Nat.le_refl _);have dU:=AA ((Below.refl w.heap.size w).alloc (Nat.le_refl _) (.cells #[.slice q m mc] 25));have pS:=HR.o.max;go_loopw [5,7,12] (fun u _ i wr=>∃(k:Nat) (v0:Value),k≤n∧i=.int .i64 k∧v0=u∧AI Eu 1 wr w.heap.size 25 v0 (k+1) ((⟨q,m,mc,more⟩:Lq AB)::(l.take k).map VL)∧Below w.heap.size w wr) (fun _ _ i _=>n-(intOf i).toNat)
 case atStart=>exact⟨0,_,by omega,rfl,rfl,by simpa using oj.o,dU.o⟩
 case round=>
  obtain⟨k,v0,hk,rfl,rfl,hv,hb⟩:=hrel;have HV:=AA hv;have HB:=AA hb;clear hv hb;by_cases aG:k<n
  ·obtain⟨x,hx⟩:=Ac (l:=l) (j:=k) (by rw [HR.o.len];exact aG);have HT:=AA (AJ hx);obtain⟨b,o,rfl,al,d0,d1,d2,d3,d4⟩:=Tc (HR.o.below HB.o) hx;clear hx al;have mZ:Hd (Below wr.heap.size wr (wr.alloc (.cells #[.int .u8 x.ty.head.kind,.int .i64 x.ty.head.rho,.slice x.ty.head.ep x.ty.head.en x.ty.head.ec,.slice x.ty.head.kp x.ty.head.kn x.ty.head.kc,.slice x.ep x.en x.ec] 81))):=bA;have d9:=AA (AW FZ (by omega) (wr.alloc (.cells #[.int .u8 x.ty.head.kind,.int .i64 x.ty.head.rho,.slice x.ty.head.ep x.ty.head.en x.ty.head.ec,.slice x.ty.head.kp x.ty.head.kn x.ty.head.kc,.slice x.ep x.en x.ec] 81)) 25 [VL x] 1 #[.slice x.ep x.en x.ec] rfl rfl (by decide));have pj:=HB.o.size;go_wp2_with (at_builtin;(refine Cx rfl _ _ 66 rfl w.heap.size 25 _ 1 24 underlying66 VC rfl (by decide) Eu FZ PU [VL x] _ _ _ (BB (BB HV.o _) _) (some ⟨wr.heap.size+1,0,none⟩) 1 1 rfl rfl rfl (by intro h;cases h) (by simpa using d9.o.row) (by omega) (by omega) (by simp<;>omega) ?_;intro v3 w3 aE aP;have ol:=AA aE;have aT:=AA (Below.own ((HB.o.alloc pj _).alloc (by simp<;>omega) _) aP (by simp<;>omega) (BB (BB HV.o _) _));clear aE aP));go_roundw
   case rel=>exact⟨k+1,_,by omega,by go_num,rfl,by rw [HT.o,List.map_append];exact ol.o,aT.o⟩
   case measure=>simp [intOf];omega
  ·obtain rfl:k=n:=by omega
   have bc:l.take k=l:=AY (by rw [HR.o.len];exact Nat.le_refl _);rw [bc] at HV;obtain⟨q2,c2,rfl,aB⟩:=AI.isRow FZ (by omega) HV.o
   have bg:∀r∈(⟨q,m,mc,more⟩:Lq AB)::l.map VL,r.Ok AP 3 wr:=fun r hr=>by
    rcases List.mem_cons.1 hr with rfl|hr
    ·have h:=HM.o.below HB.o;exact⟨h.len,h.le,h.nil,h.row⟩
    ·obtain⟨x,hx,rfl⟩:=List.mem_map.1 hr;have h:=(nw.o x hx).below HB.o;exact⟨h.len,h.le,h.nil,h.row⟩
   have nb:(((⟨q,m,mc,more⟩:Lq AB)::l.map VL).map (·.n)).sum≤1000000:=by rw [List.map_cons,List.sum_cons,List.map_map];exact cW
   have HU:=AA (C4 q2 (k+1) c2 _ wr aB.len (by omega) aB.row bg nb);clear aB bg nb bc;go_wp2_with fail;refine HU.o.mono ?_;rintro e w3 ⟨v,j,rfl,_,aD,dN⟩;have HO:=AA aD;have aT:=bt HB dN;clear aD dN;go_wp2_with fail;go_ret;exact⟨v,j,rfl,by rw [←SO q m mc more l];exact HO.o.lower HB.o.size,aT.o⟩
structure O5(w W:World)(a:AH)(x y:Value):Prop where
 b0:W.heap[w.heap.size]?=some (.cells #[x,y] 84 (0,0))
 b1:CW W (w.heap.size+1) a
 below:Below w.heap.size w W
theorem M7(w:World)(a:AH)(x y:Value):O5 w ((w.alloc (.cells #[x,y] 84)).alloc (AO a)) a x y:=by have e1:=Ah (w.alloc (.cells #[x,y] 84)) a;rw [show (w.alloc (.cells #[x,y] 84)).heap.size=w.heap.size+1 by simp] at e1;refine⟨?_,e1,((Below.refl w.heap.size w).alloc (Nat.le_refl _) _).alloc (by simp) _⟩;rw [Below.heap_alloc _ _ _ (by simp)];exact heap_alloc_new w _
theorem O5.step{w W W':World}{a:AH}{x y:Value}(h:O5 w W a x y)(hb:Below W.heap.size W W'):O5 w W' a x y:=⟨(hb.block _ (Array.getElem?_eq_some_iff.1 h.b0).1).trans h.b0,h.b1.below hb,h.below.trans (hb.mono h.below.size)⟩
theorem O5.scells{w W:World}{a:AH}{x y:Value}(h:O5 w W a x y):W.cell? ⟨w.heap.size,0,none⟩=some x∧W.cell? ⟨w.heap.size,1,none⟩=some y:=by constructor<;>simp only [World.cell?,h.b0]<;>rfl
theorem O5.set{w W:World}{a:AH}{x y x':Value}(h:O5 w W a x y)(y':Value):O5 w (W.setRow w.heap.size #[x',y']) a x' y':=⟨setRow_heap _ _ _ _ _ _ h.b0,⟨(setRow_other _ _ _ _ (by omega)).trans h.b1.blk⟩,h.below.grown BP h.below.size (fun k e=>by cases e;exact Nat.le_refl _)⟩
theorem CW.lt{W:World}{g:Nat}{a:AH}(h:CW W g a):g<W.heap.size:=(Array.getElem?_eq_some_iff.1 h.blk).1
theorem VJ{W:World}{g:Nat}{x y:Value}{t:TypeId}(h:W.heap[g]?=some (.cells #[x,y] t (0,0))):W.rangeAt g 0 [x,y]:=fun j v hj=>by rw [Nat.zero_add,Lib.cell_of_heap h];simpa using hj
theorem O5.r0{w W:World}{a:AH}{x y:Value}(h:O5 w W a x y):W.rangeAt w.heap.size 0 [x,y]:=VJ h.b0
theorem Di{w:World}{p:Option Addr}{n c:Nat}{l:List Int}{q:Option Addr}{m mc:Nat}{rhos:List Int}{u:Bool}(hu:Br rhos l=u)(hr:AF Am 1 w p n c l)(ep:Option Addr)(en ec:Nat)(hq:AF Am 1 w q m mc rhos):Calls prog 130 #[.agg #[.slice ep en ec,.slice q m mc],.slice p n c] w (RB w (.bool u)):=by subst hu;exact Le hr ep en ec hq
theorem BO{W:World}{g:Nat}{a:AH}(h:CW W g a)(o n:Nat){cs:List Value}(hc:cs=((Bg a).drop o).take n):W.rangeAt g o cs:=fun j v hj=>by
 subst hc;rw [List.getElem?_take] at hj;split at hj
 ·rw [List.getElem?_drop] at hj;exact h.c (o+j) v hj
 ·cases hj
theorem IZ{w:World}{x y:PT}(hx:LR.lies w x)(hy:LR.lies w y)(e:Nat):Cy (w.alloc (.cells #[.int .u8 x.head.kind,.int .i64 x.head.rho,.slice x.head.ep x.head.en x.head.ec,.slice x.head.kp x.head.kn x.head.kc,.int .u8 y.head.kind,.int .i64 y.head.rho,.slice y.head.ep y.head.en y.head.ec,.slice y.head.kp y.head.kn y.head.kc] e)) (some ⟨w.heap.size,0,none⟩) 2 2 [x,y]:=by
 refine⟨AW DW (by omega) w e [x,y] 2 _ ?_ rfl (by decide),fun t ht=>?_⟩
 ·simp [F7.encT,LR,KV]
 ·have hb:Below w.heap.size w (w.alloc (.cells #[.int .u8 x.head.kind,.int .i64 x.head.rho,.slice x.head.ep x.head.en x.head.ec,.slice x.head.kp x.head.kn x.head.kc,.int .u8 y.head.kind,.int .i64 y.head.rho,.slice y.head.ep y.head.en y.head.ec,.slice y.head.kp y.head.kn y.head.kc] e)):=bA;simp only [List.mem_cons,List.not_mem_nil,or_false] at ht;rcases ht with rfl|rfl
  ·exact LR.lies_below hb _ hx
  ·exact LR.lies_below hb _ hy
def PD(a:AH)(b:Bool)(e:Ending):Prop:=(b=true→e=.returned (.tuple #[]))∧(b=false→e=.panicked [{ v:=IB a.at_ 4,recovered:=false }])
theorem P3{a:AH}{b:Bool}(h:b=true):PD a b (.returned (.tuple #[])):=⟨fun _=>rfl,fun h'=>(by rw [h] at h';cases h')⟩
theorem Gt{a:AH}{b:Bool}(h:b=false):PD a b (.panicked [{ v:=IB a.at_ 4,recovered:=false }]):=⟨fun h'=>(by rw [h] at h';cases h'),fun _=>rfl⟩
theorem B4{w:World}{a:AH}(ha:AH.Own w a)(hs:CB a)(ep:Option Addr)(en ec:Nat){q:Option Addr}{m mc:Nat}{rhos:List Int}(hq:AF Am 1 w q m mc rhos)(hm:m≤900000):Calls prog 95 #[.agg #[.slice ep en ec,.slice q m mc],An a] w fun e w'=>PD a (Bh a.plain rhos) e∧Below w.heap.size w w':=by
 have HX:=AA (M7 w a (.slice ep en ec) (.slice q m mc));have HQ:=AA hq;have jI:=AA ha.rhos;have ev:=AA ha.eff;have kT:=AA ha.ty;have fa:=AA ha.res;have gS:a.en≤1000000:=by have h1:=ha.eff.len;have h2:=Dq hs.eff;omega
 have it:a.rn≤50:=hs.rhos;have iU:=AA gS;have eX:(Au [a.ty,a.res]).length≤1000000:=by have h1:=Mh _ hs.ty.effs;have h2:=Mh _ hs.res.effs;have h3:=hs.ty.size;have h4:=hs.res.size;simp only [Au,List.flatMap_cons,List.flatMap_nil,List.append_nil,List.length_append];omega
 have lD:=AA eX
 have lE:Hd (UN [a.ty,a.res]):=fun x hx=>by
  simp only [List.mem_cons,List.not_mem_nil,or_false] at hx;rcases hx with rfl|rfl
  ·exact KU _ ha.ty hs.ty.effs
  ·exact KU _ ha.res hs.res.effs
 obtain⟨u1,kh⟩:∃u1,Br rhos [a.rho]=u1:=⟨_,rfl⟩;obtain⟨u2,iv⟩:∃u2,Br rhos a.rhos=u2:=⟨_,rfl⟩;have oe:=AA kh;have ia:=AA iv;have fE:Hd (Bh a.plain rhos=((decide (a.kind=17)||u1)&&(!decide (a.kind=18)||u2)&&(Br (if a.kind=13 then rhos++a.rhos else rhos) (BN a.eff)&&Br (if a.kind=13 then rhos++a.rhos else rhos) (BU (Au [a.ty,a.res]))))):=by show _=_;rw [←kh,←iv];simp [Bh,Br,AH.plain,Au];rfl
 clear hq ha hs gS eX kh iv;have c0:=HX.o.b1.c 0 _ rfl;go_enter func95,ntmps95;go_upto_if 7 with fail;go_cut [] from 4 to 15 (fun wx=>O5 w wx a (.slice ep en ec) (.slice q m mc)∧(decide (a.kind=17)||u1)=true)
 case first=>
  by_cases k17:a.kind=17
  ·have e17:(a.kind != 17)=false:=by simp [k17]
   go_wp2_with fail;go_meet
   case rel=>exact⟨HX.o,by simp [k17]⟩
  ·have e17:(a.kind != 17)=true:=by simp [k17]
   have lI:=AA k17;have ef:=fE;clear c0;go_upto_region 2 with fail;generalize (w.alloc (.cells #[.slice ep en ec,.slice q m mc] 84)).alloc (AO a)=W1 at *
   refine rg (fun W'=>Below W1.heap.size W1 W') (AR W1) fun aA=>?_;refine tm 0 8 [.slice ep en ec,.slice q m mc] 84 w.heap.size 0 (fun W' aC=>(HX.o.step aC).r0) underlying84 ?_;refine tp 1 9 ?_;refine tp 2 10 ?_ (hy:=fun w aC=>by(try dsimp only at aC);have q7:=(HX.o.step aC).b1.c 7 _ rfl;go_simp;try with_reducible rfl);refine ta 5 13 a (w.heap.size+1) 0 (fun W' aC=>(HX.o.step aC).b1.range) ?_;refine tr 3 11 fun K hK=>?_;go_simp;refine tn hK (AQ aA _) ?_;clear aA hK K;intro aA;refine tr 4 12 fun K hK=>?_;go_simp;go_at_call 130;refine(Di oe.o ((AW Ap (by omega) W1 3 [a.rho] 1 #[.int .i64 a.rho] rfl rfl (by decide)).below (AR _)) ep en ec (HQ.o.below (HX.o.below.trans (aA.mono HX.o.below.size)))).mono ?_;rintro e w8 ⟨rfl,hb⟩;try go_wp2_with fail
   refine tn hK (AL aA hb) ?_;clear aA hK K;intro aA;refine tr 6 14 fun K hK=>?_;go_simp;cases u1
   ·go_at_call 64;refine(BA a 4 _).mono ?_;rintro e w9 ⟨rfl,hb⟩;exact⟨rfl,Gt (ef.o.trans (by simp [lI.o])),HX.o.below.trans ((AL aA hb).mono HX.o.below.size)⟩
   go_at_call 64;refine(A7 a 4 _).mono ?_;rintro e w9 ⟨rfl,hb⟩;try go_wp2_with fail
   refine tn hK (AL aA hb) ?_;clear aA hK K;intro aA;refine dn ?_;have aV:=AA (HX.o.step aA);clear aA;go_wp2_with fail;go_meet
   case rel=>exact⟨aV.o,by simp⟩
 case rest=>
  obtain⟨hx,ll⟩:=hcut;clear HX c0;have HX:=AA hx;have iz:=AA ll;have c0:=HX.o.b1.c 0 _ rfl;clear hx ll;go_upto_if 18 with fail;go_cut [] from 4 to 24 (fun wx=>O5 w wx a (.slice ep en ec) (.slice q m mc)∧(!decide (a.kind=18)||u2)=true)
  case first=>
   by_cases k18:a.kind=18
   ·have e18:(a.kind==18)=true:=by simp [k18]
    have lJ:=AA k18;have ef:=fE;clear c0 k18;go_upto_region 4 with fail;refine rg (fun W'=>Below wc.heap.size wc W') (AR wc) fun aA=>?_;refine tm 0 19 [.slice ep en ec,.slice q m mc] 84 w.heap.size 0 (fun W' aC=>(HX.o.step aC).r0) underlying84 ?_;refine tp 1 20 ?_;refine tp 2 21 ?_ (hy:=fun w aC=>by(try dsimp only at aC);have q8:=(HX.o.step aC).b1.c 8 _ rfl;go_simp;try with_reducible rfl);refine ta 4 23 a (w.heap.size+1) 0 (fun W' aC=>(HX.o.step aC).b1.range) ?_;refine tr 3 22 fun K hK=>?_;go_simp;go_at_call 130;refine(Di ia.o (jI.o.below (HX.o.below.trans (aA.mono HX.o.below.size))) ep en ec (HQ.o.below (HX.o.below.trans (aA.mono HX.o.below.size)))).mono ?_;rintro e w8 ⟨rfl,hb⟩;try go_wp2_with fail
    refine tn hK (AL aA hb) ?_;clear aA hK K;intro aA;refine tr 5 24 fun K hK=>?_;go_simp;cases u2
    ·go_at_call 64;refine(BA a 4 _).mono ?_;rintro e w9 ⟨rfl,hb⟩;exact⟨rfl,Gt (ef.o.trans (by simp [lJ.o])),HX.o.below.trans ((AL aA hb).mono HX.o.below.size)⟩
    go_at_call 64;refine(A7 a 4 _).mono ?_;rintro e w9 ⟨rfl,hb⟩;try go_wp2_with fail
    refine tn hK (AL aA hb) ?_;clear aA hK K;intro aA;refine dn ?_;have aV:=AA (HX.o.step aA);clear aA;go_wp2_with fail;go_meet
    case rel=>exact⟨aV.o,by simp⟩
   ·have e18:(a.kind==18)=false:=by simp [k18]
    go_wp2_with fail;go_meet
    case rel=>exact⟨HX.o,by simp [k18]⟩
  case rest=>
   obtain⟨hx,mv⟩:=hcut;clear HX c0;have HX:=AA hx;have fk:=AA mv;have c0:=HX.o.b1.c 0 _ rfl;clear hx mv;go_upto_if 28 with fail;go_cut [] from 4 to 33 (fun wx=>∃(q7:Option Addr) (m7 c7:Nat),O5 w wx a (.slice ep en ec) (.slice q7 m7 c7)∧AF Am 1 wx q7 m7 c7 (if a.kind=13 then rhos++a.rhos else rhos))
   case first=>
    by_cases k13:a.kind=13
    ·have e13:(a.kind==13)=true:=by simp [k13]
     have lH:=AA k13;have c8:=HX.o.b1.c 8 _ rfl;obtain⟨s0,s1⟩:=HX.o.scells;clear k13
     go_wp2_with (first
      |(refine sw #[.slice ep en ec,.slice p' (m+a.rn) c'] bI.o.b0 ?_)
      |(go_at_call 131;refine(Dj (HQ.o.below HX.o.below) ep en ec (jI.o.below HX.o.below) (by omega)).mono ?_;rintro e wA ⟨p',c',rfl,aB,hb,bh⟩;have aa:=AA aB;have hM:=AA bh;have bI:=AA (HX.o.step hb);have pd:=HX.o.b1.lt;clear aB hb bh))
     go_meet
     case rel=>
      refine⟨p',_,c',bI.o.set _,?_⟩;rw [if_pos lH.o];refine ER aa.o BP (fun hl ad hp e=>?_);rcases hM.o with⟨h1,h2⟩|h2
      ·have aG:=BD HQ.o.row (by intro h0;apply hl;rw [h0,h1];rfl) (h2▸hp);omega
      ·have:=h2 ad hp;omega
    ·have e13:(a.kind==13)=false:=by simp [k13]
     go_wp2_with fail;go_meet
     case rel=>exact⟨q,m,mc,HX.o,by rw [if_neg k13];exact HQ.o.below HX.o.below⟩
   case rest=>
    obtain⟨q7,m7,c7,hx,aB⟩:=hcut;clear HX c0;have HX:=AA hx;have kR:=AA aB;clear hx aB;obtain⟨R,hR⟩:∃R,(if a.kind=13 then rhos++a.rhos else rhos)=R:=⟨_,rfl⟩;rw [hR] at fE kR;clear hR;have ef:Hd (Bh a.plain rhos=(Br R (BN a.eff)&&Br R (BU (Au [a.ty,a.res])))):=by show _=_;rw [fE.o,iz.o,fk.o];simp
    obtain⟨u3,l9⟩:∃u3,Br R (BN a.eff)=u3:=⟨_,rfl⟩;obtain⟨u4,mA⟩:∃u4,Br R (BU (Au [a.ty,a.res]))=u4:=⟨_,rfl⟩;rw [l9,mA] at ef;have mY:=AA l9;have og:=AA mA;clear l9 mA fE;go_upto_region 7 with fail;cases u3
    ·skip;refine rg (fun W'=>Below wc.heap.size wc W') (AR wc) fun aA=>?_;refine tm 0 33 [.slice ep en ec,.slice q7 m7 c7] 84 w.heap.size 0 (fun W' aC=>(HX.o.step aC).r0) underlying84 ?_;refine tp 1 34 ?_;refine tp 2 35 ?_ (hy:=fun w aC=>by(try dsimp only at aC);have q9:=(HX.o.step aC).b1.c 9 _ rfl;go_simp;try with_reducible rfl);refine ta 16 49 a (w.heap.size+1) 0 (fun W' aC=>(HX.o.step aC).b1.range) ?_;refine tr 3 36 fun K hK=>?_;go_simp;refine tn hK (AQ aA _) ?_;clear aA hK K;intro aA;refine tr 4 37 fun K hK=>?_;go_simp;go_at_call 132;refine(EG _ 1 1 [⟨a.ep,a.en,a.ec,a.eff⟩] _ rfl (by decide) ((Qo (w:=wc) a.eff 25).below (AR _)) (TH (ev.o.below (HX.o.below.trans (aA.mono HX.o.below.size)))) (by simpa using iU.o)).mono ?_;rintro e w3 ⟨q3,m3,c3,rfl,_,aB,hb⟩;have aa:Hd (AF Am 1 w3 q3 m3 c3 (BN a.eff)):=by have h:=aB;simp only [List.flatMap_cons,List.flatMap_nil,List.append_nil] at h;exact h
     clear aB;try go_wp2_with fail
     refine tn hK (AL aA hb) ?_;clear aA hK K;intro aA;refine tr 5 38 fun K hK=>?_;go_simp;go_at_call 130;refine(Di mY.o aa.o ep en ec (kR.o.below aA)).mono ?_;rintro e w8 ⟨rfl,hb⟩;try go_wp2_with fail
     refine tn hK (AL aA hb) ?_;clear aA hK K;intro aA;refine tp 6 39 ?_;refine Er 7 40 6 true ?_;refine Er 8 41 6 true ?_;refine Er 9 42 6 true ?_;refine Er 10 43 6 true ?_;refine Er 11 44 6 true ?_;refine Jb 12 45 6 true fun K hK=>?_;go_simp;refine tn hK (aA) ?_;clear aA hK K;intro aA;refine Jb 13 46 6 true fun K hK=>?_;go_simp;refine tn hK (aA) ?_;clear aA hK K;intro aA;refine Jb 14 47 6 true fun K hK=>?_;go_simp;refine tn hK (aA) ?_;clear aA hK K;intro aA;refine tp 15 48 ?_;refine tr 17 50 fun K hK=>?_;go_simp;go_at_call 64;refine(BA a 4 _).mono ?_;rintro e w9 ⟨rfl,hb⟩;exact⟨rfl,Gt (ef.o.trans (by simp)),HX.o.below.trans ((AL aA hb).mono HX.o.below.size)⟩
    ·skip;refine rg (fun W'=>Below wc.heap.size wc W') (AR wc) fun aA=>?_;refine tm 0 33 [.slice ep en ec,.slice q7 m7 c7] 84 w.heap.size 0 (fun W' aC=>(HX.o.step aC).r0) underlying84 ?_;refine tp 1 34 ?_;refine tp 2 35 ?_ (hy:=fun w aC=>by(try dsimp only at aC);have q9:=(HX.o.step aC).b1.c 9 _ rfl;go_simp;try with_reducible rfl);refine ta 16 49 a (w.heap.size+1) 0 (fun W' aC=>(HX.o.step aC).b1.range) ?_;refine tr 3 36 fun K hK=>?_;go_simp;refine tn hK (AQ aA _) ?_;clear aA hK K;intro aA;refine tr 4 37 fun K hK=>?_;go_simp;go_at_call 132;refine(EG _ 1 1 [⟨a.ep,a.en,a.ec,a.eff⟩] _ rfl (by decide) ((Qo (w:=wc) a.eff 25).below (AR _)) (TH (ev.o.below (HX.o.below.trans (aA.mono HX.o.below.size)))) (by simpa using iU.o)).mono ?_;rintro e w3 ⟨q3,m3,c3,rfl,_,aB,hb⟩;have aa:Hd (AF Am 1 w3 q3 m3 c3 (BN a.eff)):=by have h:=aB;simp only [List.flatMap_cons,List.flatMap_nil,List.append_nil] at h;exact h
     clear aB;try go_wp2_with fail
     refine tn hK (AL aA hb) ?_;clear aA hK K;intro aA;refine tr 5 38 fun K hK=>?_;go_simp;go_at_call 130;refine(Di mY.o aa.o ep en ec (kR.o.below aA)).mono ?_;rintro e w8 ⟨rfl,hb⟩;have mW:=AA (AL aA hb);try go_wp2_with fail
     refine tn hK (AL aA hb) ?_;clear aA hK K;intro aA;refine tp 6 39 ?_;refine V5 7 40 6 true [.slice ep en ec,.slice q7 m7 c7] 84 w.heap.size 0 (fun W' aC=>(HX.o.step aC).r0) underlying84 ?_;refine FR 8 41 6 true ?_;refine Uy 9 42 6 true a.ty (w.heap.size+1) 10 (fun W' aC=>BO (HX.o.step aC).b1 10 4 rfl) ?_;refine FR 10 43 6 true ?_;refine Uy 11 44 6 true a.res (w.heap.size+1) 14 (fun W' aC=>BO (HX.o.step aC).b1 14 4 rfl) ?_;refine Jb 12 45 6 true fun K hK=>?_;go_simp;refine tn hK (AQ aA _) ?_;clear aA hK K;intro aA;refine Jb 13 46 6 true fun K hK=>?_;go_simp;go_at_call 133;refine(Ga (IZ (LR.lies_below (HX.o.below.trans (mW.o.mono HX.o.below.size)) _ kT.o) (LR.lies_below (HX.o.below.trans (mW.o.mono HX.o.below.size)) _ fa.o) _) lD.o lE.o).mono ?_;rintro e w5 ⟨q5,m5,c5,rfl,_,aB,hb⟩;have jJ:=AA aB;clear aB;try go_wp2_with fail
     refine tn hK (AL aA hb) ?_;clear aA hK K;intro aA;refine Jb 14 47 6 true fun K hK=>?_;go_simp;go_at_call 130;refine(Di og.o jJ.o ep en ec (kR.o.below aA)).mono ?_;rintro e w8 ⟨rfl,hb⟩;try go_wp2_with fail
     refine tn hK (AL aA hb) ?_;clear aA hK K;intro aA;refine tp 15 48 ?_;refine tr 17 50 fun K hK=>?_;go_simp;cases u4
     ·go_at_call 64;refine(BA a 4 _).mono ?_;rintro e w9 ⟨rfl,hb⟩;exact⟨rfl,Gt (ef.o.trans (by simp)),HX.o.below.trans ((AL aA hb).mono HX.o.below.size)⟩
     go_at_call 64;refine(A7 a 4 _).mono ?_;rintro e w9 ⟨rfl,hb⟩;try go_wp2_with fail
     refine tn hK (AL aA hb) ?_;clear aA hK K;intro aA;refine dn ?_;have aV:=AA (HX.o.step aA);clear aA;go_wp2_with fail;go_end0;exact⟨P3 (ef.o.trans (by simp)),aV.o.below⟩
end Go.Proofs.YtkdjnegfnhldpaaGreatDoor
