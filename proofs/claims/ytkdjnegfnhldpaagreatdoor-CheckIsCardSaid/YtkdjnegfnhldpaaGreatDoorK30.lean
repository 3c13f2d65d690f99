/- Part 30. -/
import Derived.Test.YtkdjnegfnhldpaaGreatDoorK29
set_option linter.unusedVariables false
set_option maxRecDepth 100000
set_option linter.unusedSimpArgs false
set_option maxHeartbeats 40000000
namespace Go.Proofs.YtkdjnegfnhldpaaGreatDoor
open Go.Proofs.Tryz Go.RowKit
theorem H9{w:World}(hv:Vr w):Calls prog 11 #[] w (RB w (.bool true)):=by
 have HV:=AA hv;clear hv;go_enter func11,ntmps11
 go_upto_region 2 with(first
  |(go_at_call 34;refine(VD 1 ⟨by omega,by omega⟩).mono ?_;rintro e w1 ⟨g1,rfl,pI,hb⟩;have oW:=AA pI;have aJ:=AA hb;clear pI hb)
  |(refine sn #[.int .u8 4,.int .u8 0,.int .i64 0,.int .i64 0,.string ⟨#[]⟩,.string ⟨#[]⟩,.string ⟨#[]⟩,.int .i64 0,.slice none 0 0,.slice none 0 0,.int .u8 0,.int .i64 0,.slice none 0 0,.slice none 0 0,.int .u8 0,.int .i64 0,.slice none 0 0,.slice none 0 0,.slice (some ⟨w1.heap.size,0,none⟩) 1 1] ?_))
 have bQ:Below w1.heap.size w1 (w1.alloc (.cells #[.int .u8 3,.int .u8 0,.int .i64 0,.int .i64 0,.string ⟨#[]⟩,.string ⟨#[]⟩,.string ⟨#[]⟩,.int .i64 1,.slice none 0 0,.slice none 0 0,.int .u8 0,.int .i64 0,.slice none 0 0,.slice none 0 0,.int .u8 0,.int .i64 0,.slice none 0 0,.slice none 0 0,.slice (some ⟨g1,0,none⟩) 2 2] 31)):=bA;have aK:=bt aJ bQ;have bv:=AA (show Ds (w1.alloc (.cells #[.int .u8 3,.int .u8 0,.int .i64 0,.int .i64 0,.string ⟨#[]⟩,.string ⟨#[]⟩,.string ⟨#[]⟩,.int .i64 1,.slice none 0 0,.slice none 0 0,.int .u8 0,.int .i64 0,.slice none 0 0,.slice none 0 0,.int .u8 0,.int .i64 0,.slice none 0 0,.slice none 0 0,.slice (some ⟨g1,0,none⟩) 2 2] 31)) (some ⟨w1.heap.size,0,none⟩) 1 1 [So g1 1] from Ji oW.o 31 _ rfl);have fa:(w1.alloc (.cells #[.int .u8 3,.int .u8 0,.int .i64 0,.int .i64 0,.string ⟨#[]⟩,.string ⟨#[]⟩,.string ⟨#[]⟩,.int .i64 1,.slice none 0 0,.slice none 0 0,.int .u8 0,.int .i64 0,.slice none 0 0,.slice none 0 0,.int .u8 0,.int .i64 0,.slice none 0 0,.slice none 0 0,.slice (some ⟨g1,0,none⟩) 2 2] 31)).heap.size=w1.heap.size+1:=by simp
 clear bQ;generalize w1.alloc (.cells #[.int .u8 3,.int .u8 0,.int .i64 0,.int .i64 0,.string ⟨#[]⟩,.string ⟨#[]⟩,.string ⟨#[]⟩,.int .i64 1,.slice none 0 0,.slice none 0 0,.int .u8 0,.int .i64 0,.slice none 0 0,.slice none 0 0,.int .u8 0,.int .i64 0,.slice none 0 0,.slice none 0 0,.slice (some ⟨g1,0,none⟩) 2 2] 31)=W2 at *
 rw [←fa];obtain⟨g2,a8⟩:∃g2,w1.heap.size=g2:=⟨_,rfl⟩;rw [a8] at bv ⊢;clear fa a8;have aR:=AA (Ap W2 #[.int .u8 4,.int .u8 0,.int .i64 0,.int .i64 0,.string ⟨#[]⟩,.string ⟨#[]⟩,.string ⟨#[]⟩,.int .i64 0,.slice none 0 0,.slice none 0 0,.int .u8 0,.int .i64 0,.slice none 0 0,.slice none 0 0,.int .u8 0,.int .i64 0,.slice none 0 0,.slice none 0 0,.slice (some ⟨g2,0,none⟩) 1 1] 31 _ rfl);have dq:Below W2.heap.size W2 (W2.alloc (.cells #[.int .u8 4,.int .u8 0,.int .i64 0,.int .i64 0,.string ⟨#[]⟩,.string ⟨#[]⟩,.string ⟨#[]⟩,.int .i64 0,.slice none 0 0,.slice none 0 0,.int .u8 0,.int .i64 0,.slice none 0 0,.slice none 0 0,.int .u8 0,.int .i64 0,.slice none 0 0,.slice none 0 0,.slice (some ⟨g2,0,none⟩) 1 1] 31)):=bA;have aV:=bt aK dq;have pm:=AA (show LA.lies (W2.alloc (.cells #[.int .u8 4,.int .u8 0,.int .i64 0,.int .i64 0,.string ⟨#[]⟩,.string ⟨#[]⟩,.string ⟨#[]⟩,.int .i64 0,.slice none 0 0,.slice none 0 0,.int .u8 0,.int .i64 0,.slice none 0 0,.slice none 0 0,.int .u8 0,.int .i64 0,.slice none 0 0,.slice none 0 0,.slice (some ⟨g2,0,none⟩) 1 1] 31)) (TW g1 g2) from KD (by omega) (by omega) ⟨by omega,by omega⟩ ⟨by omega,by omega⟩ (bv.o.below dq));clear dq;obtain⟨g3,bM⟩:∃g3,W2.heap.size=g3:=⟨_,rfl⟩;rw [bM] at aR ⊢;generalize W2.alloc (.cells #[.int .u8 4,.int .u8 0,.int .i64 0,.int .i64 0,.string ⟨#[]⟩,.string ⟨#[]⟩,.string ⟨#[]⟩,.int .i64 0,.slice none 0 0,.slice none 0 0,.int .u8 0,.int .i64 0,.slice none 0 0,.slice none 0 0,.int .u8 0,.int .i64 0,.slice none 0 0,.slice none 0 0,.slice (some ⟨g2,0,none⟩) 1 1] 31)=W3 at *
 clear bM aK bv;have dX:Below W3.heap.size W3 (W3.alloc (.cells #[.int .u8 4,.int .u8 0,.int .i64 0,.int .i64 0,.string ⟨#[]⟩,.string ⟨#[]⟩,.string ⟨#[]⟩,.int .i64 0,.slice none 0 0,.slice none 0 0,.int .u8 0,.int .i64 0,.slice none 0 0,.slice none 0 0,.int .u8 0,.int .i64 0,.slice none 0 0,.slice none 0 0,.slice (some ⟨g2,0,none⟩) 1 1] 31)):=bA;have av:=bt aV dX;have dK:=AA ((dX.block _ (AW aR.o)).trans aR.o);have pn:=AA (LA.lies_below dX _ pm.o);have dv:=AA (show Ds (W3.alloc (.cells #[.int .u8 4,.int .u8 0,.int .i64 0,.int .i64 0,.string ⟨#[]⟩,.string ⟨#[]⟩,.string ⟨#[]⟩,.int .i64 0,.slice none 0 0,.slice none 0 0,.int .u8 0,.int .i64 0,.slice none 0 0,.slice none 0 0,.int .u8 0,.int .i64 0,.slice none 0 0,.slice none 0 0,.slice (some ⟨g2,0,none⟩) 1 1] 31)) (some ⟨W3.heap.size,0,none⟩) 1 1 [TW g1 g2] from Ji pm.o 31 _ rfl);have po:=AA (show LA.lies (W3.alloc (.cells #[.int .u8 4,.int .u8 0,.int .i64 0,.int .i64 0,.string ⟨#[]⟩,.string ⟨#[]⟩,.string ⟨#[]⟩,.int .i64 0,.slice none 0 0,.slice none 0 0,.int .u8 0,.int .i64 0,.slice none 0 0,.slice none 0 0,.int .u8 0,.int .i64 0,.slice none 0 0,.slice none 0 0,.slice (some ⟨g2,0,none⟩) 1 1] 31)) (WI g1 g2 W3.heap.size) from KD (by omega) (by omega) ⟨by omega,by omega⟩ ⟨by omega,by omega⟩ dv.o);clear dX;have jf:=AA (D8 (t:=WI g1 g2 W3.heap.size) po.o (R7 _ _ _) (show (5:Nat)≤1000 by omega) (HV.o.below av.o));rw [R6] at jf
 go_upto_region 3 with(first
  |(refine lw aR.o underlying31 ?_)
  |(go_at_call 12;refine jf.o.mono ?_;rintro e w5 ⟨⟨y,q,m,qc,rfl,gj,gN,aD⟩,hb⟩;have aw:=bt av hb;have ck:=AA ((hb.block _ (AW dK.o)).trans dK.o);have rV:=AA (LA.lies_below hb _ pn.o);obtain rfl:m=0:=aD.len.symm;have qj:y.head.kind=1:=(by have h1:=J7 y;rw [gN] at h1;exact(congrArg LH.kind h1).symm);have rU:=AA qj;clear gj gN aD hb qj)
  |(refine n4 y ?_))
 clear jf po dv av dK pn;have eN:Below w5.heap.size w5 (w5.alloc (.cells #[.int .u8 y.head.kind,.int .i64 y.head.rho,.slice y.head.ep y.head.en y.head.ec,.slice y.head.kp y.head.kn y.head.kc] 28)):=bA;have fm:=bt aw eN;have dw:=AA ((eN.block _ (AW ck.o)).trans ck.o);have kf:=AA (Ap w5 #[.int .u8 y.head.kind,.int .i64 y.head.rho,.slice y.head.ep y.head.en y.head.ec,.slice y.head.kp y.head.kn y.head.kc] 28 _ rfl);have fc:=AA (D8 (t:=TW g1 g2) (LA.lies_below eN _ rV.o) (Mf _ _) (show (4:Nat)≤1000 by omega) (HV.o.below fm.o));rw [Rk] at fc;clear eN;obtain⟨g6,bV⟩:∃g6,w5.heap.size=g6:=⟨_,rfl⟩;rw [bV] at kf ⊢;generalize w5.alloc (.cells #[.int .u8 y.head.kind,.int .i64 y.head.rho,.slice y.head.ep y.head.en y.head.ec,.slice y.head.kp y.head.kn y.head.kc] 28)=W6 at *
 clear bV
 go_upto_region 4 with(first
  |(refine lw dw.o underlying31 ?_)
  |(go_at_call 12;refine fc.o.mono ?_;rintro e w7 ⟨he,hb⟩;obtain rfl:=he;have pb:=bt fm hb;have jQ:=AA ((hb.block _ (AW kf.o)).trans kf.o);clear hb)
  |(refine sn #[.int .u8 0,.int .i64 0,.slice none 0 0,.slice none 0 0] ?_))
 have gK:Below w7.heap.size w7 (w7.alloc (.cells #[.int .u8 0,.int .i64 0,.slice none 0 0,.slice none 0 0] 28)):=bA;have dB:=bt pb gK;have c0:(w7.alloc (.cells #[.int .u8 0,.int .i64 0,.slice none 0 0,.slice none 0 0] 28)).cell? ⟨g6,0,none⟩=some (.int .u8 1):=by rw [Lib.cell_of_heap ((gK.block _ (AW jQ.o)).trans jQ.o),←rU.o];rfl
 clear gK;go_wp2_with fail;go_ret;exact⟨AB (by decide),dB.o⟩
theorem WM{x y:PT}(h:PT.er x=PT.er y):Bk x y=true:=by have e:=SI y;unfold Bk at e ⊢;rw [h];exact e
theorem Id{p:Option Addr}{n cap:Nat}{l:List AD}{q:Option Addr}{m mc:Nat}{w:World}(hr:AE AS 3 w p n cap l)(aT:AE AS 3 w q m mc l):Calls prog 14 #[.slice p n cap,.slice q m mc] w (RB w (.bool true)):=by refine(Nu p n cap l q m mc l w hr.len hr.max hr.row aT.len aT.max aT.row).mono ?_;rintro e w' ⟨rfl,j,rfl⟩;exact⟨by simp [Vy],below_drewN (Below.refl _ _) _⟩
theorem TD{t:PA}{x:TE}(h:DF t=.ok x):Gx t=true∧IE (PA.er t)=.ok x:=by
 unfold DF at h;cases hm:Gx t with
 |true=>rw [hm,if_pos rfl] at h;exact⟨rfl,h⟩
 |false=>rw [hm,if_neg Bool.false_ne_true] at h;cases h
theorem MQ{w:World}{t:PA}{x:TE}(hl:LA.lies w t)(hs:BR t)(hz:t.size≤1000)(hr:DF t=.ok x):x.2.length≤102000:=by obtain⟨hm,hc⟩:=TD hr;have hg:=J0 (PA.er t) [] [0] x (GN t hl hs hm) (fun b hb=>by cases hb) (TC.1 hc).2;have h2:(PA.er t).size=t.size:=AG.size_map _ _;have h3:=hg.len;omega
theorem Am{P:Program}{α:Type}{ops:Array Oper}{rest:List Oper}{o:Oper}{a:Act}{Q:Exit→Act→World→Prop}(au:o.guard=none)(s x:Operand)(t:TypeId)(ho:o.op=.call { callee:=.builtin .append,args:=#[s,x],argTypes:=#[t,t] })(base:Nat)(e:TypeId)(z:Value)(k bytes:Nat)(ht:P.underlying t=some (.slice e))(bd:(P.info? e).map (fun i=>(i.zero,i.size,i.bytes))=some (some z,k,bytes))(fK:z.cells.size=k)(aU:0<k)(enc:α→List Value)(hk:∀x,(enc x).length=k)(h1:∀y,∀u∈enc y,u.oneCell'=true)(l' l:List α)(n:Nat){w:World}(v:Value)(aB:AJ enc k w base e v n l)(p:Option Addr)(m c:Nat)(hs:a.eval s=v)(hx:a.eval x=.slice p m c)(hl:l'.length=m)(hp:p=none→c=0)(hr:Au enc k w p l')(aj:(n+m) * bytes≤140737488355328)(gz:n+m≤9223372036854775807)(cm:base≤w.heap.size)(h:∀v' w',AJ enc k w' base e v' (n+m) (l++l')→w.grownBy w' v.ownBlock→(∀b,b<w.heap.size→v'.ownBlock=some b→v.ownBlock=some b)→wpList P ops Q rest (a.put o.dst v') w'):wpList P ops Q (o::rest) a w:=by refine wpList_plain au fun K' ko=>?_;have:=BC (K:=K') (Q:=Q) (ops:=ops) (E:=True) au s x t ho base e z k bytes ht bd fK aU enc hk h1 l' l n v aB p m c hs hx hl hp hr aj gz cm (fun v' w' a1 a2 a3=>ko _ _ (h v' w' a1 a2 a3));rwa [if_pos (by simp [Region.wanted,au])] at this
def Dw(l:List AH):List Int:=l.flatMap (fun a=>BP a.plain)
theorem RU{l:List AH}(h:∀a∈l,a.rhos.length≤50):(Dw l).length≤50 * l.length:=by
 induction l with
 |nil=>simp [Dw]
 |cons a l ih=>
  have h1:=ih (fun x hx=>h x (by simp [hx]));have h2:=JT (h a (by simp)) (by decide);simp only [Dw,List.flatMap_cons,List.length_append,List.length_cons] at h1 ⊢;omega
structure WQ(w W1 w2:World)(p2:Option Addr)(n2 c2:Nat)(l:List AH)(u:Value)(k:Nat)(wr:World):Prop where
 own:AJ Ab 1 wr (w.heap.size+1) 3 u (Dw (l.take k)).length (Dw (l.take k))
 far:∀b,u.ownBlock=some b→b<W1.heap.size∨w2.heap.size≤b
 row:AE Bn 19 wr p2 n2 c2 l
 below:Below w.heap.size w wr
 size:w2.heap.size≤wr.heap.size
theorem WQ.step{w W1 w2:World}{p2:Option Addr}{n2 c2:Nat}{l:List AH}{u:Value}{k:Nat}{wr wr':World}(h:WQ w W1 w2 p2 n2 c2 l u k wr)(hb:Below wr.heap.size wr wr'):WQ w W1 w2 p2 n2 c2 l u k wr':=⟨h.own.below hb,h.far,h.row.below hb,h.below.trans (hb.mono h.below.size),Nat.le_trans h.size hb.size⟩
theorem WQ.base{w W1 w2:World}{p2:Option Addr}{n2 c2:Nat}{l:List AH}{u:Value}{k:Nat}{wr:World}(h:WQ w W1 w2 p2 n2 c2 l u k wr)(hs:w.heap.size+1≤w2.heap.size):w.heap.size+1≤wr.heap.size:=Nat.le_trans hs h.size
theorem WQ.add{w W1 w2:World}{p2:Option Addr}{n2 c2:Nat}{l:List AH}{u v:Value}{k m:Nat}{wr wr':World}{x:AH}(h:WQ w W1 w2 p2 n2 c2 l u k wr)(ev:∀b:Addr,p2=some b→W1.heap.size≤b.block∧b.block<w2.heap.size)(hx:l[k]?=some x)(hm:(BP x.plain).length=m)(aB:AJ Ab 1 wr' (w.heap.size+1) 3 v ((Dw (l.take k)).length+m) (Dw (l.take k)++BP x.plain))(hg:wr.grownBy wr' u.ownBlock)(hf:∀b,b<wr.heap.size→v.ownBlock=some b→u.ownBlock=some b):WQ w W1 w2 p2 n2 c2 l v (k+1) wr':=by
 have e:Dw (l.take (k+1))=Dw (l.take k)++BP x.plain:=by rw [AI hx];simp [Dw]
 refine⟨?_,fun b hb=>?_,BY hg (fun _ ad hp e=>?_) h.row,h.below.grown hg h.below.size (fun b hb=>by have:=(World.ownsRow.lt h.own b hb).1;omega),Nat.le_trans h.size hg.size⟩
 ·rw [e,List.length_append,hm];exact aB
 ·by_cases aF:b<wr.heap.size
  ·exact h.far b (hf b aF hb)
  ·have:=h.size;exact .inr (by omega)
 ·have h1:=ev ad hp;have h2:=h.far ad.block e;omega
section
open Go.Sort Go.Lib
end
section
open Go.Sort Go.Lib
theorem XC(f t:List Int)(l:List AD):Kb f t l=EP ((l.filter AX).map (Ga f t)):=by rw [Gk];unfold Kb;refine La (fun a=>?_);simp only [List.mem_filter,List.mem_map,CV]
end
section
open Go.Sort Go.Lib
structure FW(B:Nat){α:Type}(enc:α→List Value)(k:Nat)(w:World)(p:Option Addr)(n c:Nat)(l:List α):Prop where
 own:AJ enc k w B 59 (.slice p n c) n l
 lk:∀x,(enc x).length=k
 k0:0<k
section
variable {B:Nat} {α:Type} {enc:α→List Value} {k:Nat} {w:World} {p:Option Addr} {n c:Nat} {l:List α}
theorem FW.row(h:FW B enc k w p n c l):AE enc k w p n c l:=by obtain⟨q,c',hq,aD⟩:=h.own.isRow h.lk h.k0;cases hq;exact aD
theorem FW.far(h:FW B enc k w p n c l):∀ad,p=some ad→B≤ad.block:=fun ad hp=>by subst hp;exact(World.ownsRow.lt h.own ad.block rfl).1
theorem FW.below{w':World}(h:FW B enc k w p n c l)(hb:Below w.heap.size w w'):FW B enc k w' p n c l:=⟨h.own.below hb,h.lk,h.k0⟩
theorem FW.len(h:FW B enc k w p n c l):l.length=n:=h.row.len
theorem FW.mono{B':Nat}(h:FW B enc k w p n c l)(hB:B'≤B):FW B' enc k w p n c l:=⟨h.own.lower hB,h.lk,h.k0⟩
end
theorem KT(w:World){B:Nat}(hB:B≤w.heap.size):FW B AS 3 (w.alloc (.cells #[] 59)) (some ⟨w.heap.size,0,none⟩) 0 0 []:=⟨AJ.lit AS w B 59 3 hB,AF,by omega⟩
theorem VH{B base:Nat}{α:Type}{enc:α→List Value}{k:Nat}{w:World}{p:Option Addr}{n c:Nat}{l:List α}(hk:∀x,(enc x).length=k)(h0:0<k)(h:AJ enc k w base 59 (.slice p n c) n l)(hB:B≤base):FW B enc k w p n c l:=⟨h.lower hB,hk,h0⟩
def ET(B:Nat){α:Type}(enc:α→List Value)(k:Nat)(w:World)(e:Ending)(l:List α):Prop:=∃p n c,e=.returned (.slice p n c)∧FW B enc k w p n c l
theorem ET.mk{B:Nat}{α:Type}{enc:α→List Value}{k:Nat}{w:World}{p:Option Addr}{n c:Nat}{l:List α}(h:FW B enc k w p n c l):ET B enc k w (.returned (.slice p n c)) l:=⟨p,n,c,rfl,h⟩
theorem EQ{B:Nat}{p:Option Addr}{n cap:Nat}{l:List AD}{w:World}(hr:FW B AS 3 w p n cap l)(hB:B≤w.heap.size)(hm:n≤1000000)(a:AD):Calls prog 52 #[.slice p n cap,.agg #[.int .u8 a.kind,.int .i64 a.rho,.string a.exn]] w fun e w'=>ET B AS 3 w' e (D3 a l)∧Below w.heap.size w w':=by
 by_cases ha:AX a=true
 ·by_cases hi:LP l a=true
  ·have hp:Hd (D3 a l=l):=by show D3 a l=l;simp [D3,ha,hi]
   have HR:=AA hr;clear hr;go_enter func52,ntmps52;go_wp2_with fail;refine(DK a _).mono ?_;rintro e w1 ⟨rfl,hb⟩;have H1:Hd (Below w.heap.size w w1):=((Below.refl _ w).alloc (Nat.le_refl _) _).trans (hb.mono (by simp));have c0:w1.cell? ⟨w.heap.size,0,none⟩=some (.int .u8 a.kind):=by rw [hb.cell (by simp),AR];rfl
   have c1:w1.cell? ⟨w.heap.size,1,none⟩=some (.int .i64 a.rho):=by rw [hb.cell (by simp),AR];rfl
   have c2:w1.cell? ⟨w.heap.size,2,none⟩=some (.string a.exn):=by rw [hb.cell (by simp),AR];rfl
   rw [ha];clear hb ha;go_wp2_with fail;refine(G5 p n cap l a w1 HR.o.len (by omega) (HR.o.below H1.o).row.row).mono ?_;rintro e w2 ⟨rfl,hb⟩;have H2:=bt H1 hb;rw [hi];clear hb hi;go_wp2_with fail;go_ret;exact⟨by rw [hp.out];exact ET.mk (HR.o.below H2.o),H2.o⟩
  ·have mb:LP l a=false:=by simpa using hi
   refine(KR p n cap l a w hr.len hm hr.row.row ha mb).mono ?_;rintro e w' ⟨v,he,ho,hb⟩;obtain⟨p',c',rfl,_⟩:=ho.isRow AF (by omega);have aD:=VH AF (by omega) ho hB;exact⟨by rw [he,show D3 a l=CS a l from by simp [D3,ha,mb]];exact ET.mk aD,hb⟩
 ·have i7:AX a=false:=by simpa using ha
  have hp:Hd (D3 a l=l):=by show D3 a l=l;simp [D3,i7]
  have HR:=AA hr;clear hr;clear ha;go_enter func52,ntmps52;go_wp2_with fail;refine(DK a _).mono ?_;rintro e w1 ⟨rfl,hb⟩;have H1:Hd (Below w.heap.size w w1):=((Below.refl _ w).alloc (Nat.le_refl _) _).trans (hb.mono (by simp));rw [i7];clear hb i7;go_wp2_with fail;go_ret;exact⟨by rw [hp.out];exact ET.mk (HR.o.below H1.o),H1.o⟩
theorem BI{p:Option Addr}{n cap:Nat}{l:List AD}{w:World}(hr:AE AS 3 w p n cap l)(hm:n≤1000000):Calls prog 50 #[.slice p n cap] w fun e w'=>ET w.heap.size AS 3 w' e (A2 l)∧Below w.heap.size w w':=by
 have kG:=AA (Gk l);have HR:=AA hr;clear hr;go_enter func50,ntmps50;go_wp2_with fail;go_loopw [3,8] (fun u i wr=>∃(k:Nat) (q:Option Addr) (m mc:Nat),k≤n∧i=.int .i64 k∧u=.slice q m mc∧m≤k∧FW w.heap.size AS 3 wr q m mc (EP (l.take k))∧Below w.heap.size w wr) (fun _ i _=>n-(intOf i).toNat)
 case atStart=>exact⟨0,_,_,_,by omega,rfl,rfl,by omega,KT _ (Nat.le_refl _),bA⟩
 case round=>
  obtain⟨k,q,m,mc,hk,rfl,rfl,j0,aD,hb⟩:=hrel;have aL:=AA aD;have HB:=AA hb;clear aD hb;by_cases aF:k<n
  ·obtain⟨x,hx⟩:=AM (l:=l) (j:=k) (by rw [HR.o.len];exact aF);have HE:=AA hx;obtain⟨b,o,rfl,aP,d0,d1,d2⟩:=CX.atom (HR.o.below HB.o).row hx;clear hx aP;go_wp2_with fail;refine(EQ aL.o HB.o.size (by omega) x).mono ?_;rintro e w1 ⟨⟨q',m',mc',rfl,aT⟩,hb⟩;have aJ:=bt HB hb;have co:m'≤k+1:=by have h1:=EO x (EP (l.take k));have h2:=aT.len;have h3:=aL.o.len;omega
   have cD:=AA aT;clear hb d0 d1 d2 aT;go_wp2_with fail;go_roundw
   case rel=>exact⟨k+1,q',m',mc',by omega,by go_num,rfl,co,by rw [AI HE.o,EH];exact cD.out,aJ.o⟩
   case measure=>simp [intOf];omega
  ·have ao:k=n:=by omega
   subst ao;go_wp2_with fail;go_ret;have h2:=aL.o;rw [AP (by rw [HR.o.len];omega),kG.o] at h2;exact⟨ET.mk h2,HB.o⟩
theorem Lw{p:Option Addr}{n cap:Nat}{l:List AD}{p1:Option Addr}{n1 c1:Nat}{rhos:List Int}{w:World}(hr:AE AS 3 w p n cap l)(hm:n≤1000000)(d7:AE Ab 1 w p1 n1 c1 rhos):Calls prog 165 #[.slice p n cap,.slice p1 n1 c1] w fun e w'=>ET w.heap.size AS 3 w' e (B6 l rhos)∧Below w.heap.size w w':=by
 have kG:Hd (EP (l.filter (fun x=>!Ee rhos x))=B6 l rhos):=by show _=_;rw [Gk];exact(FE _ l).symm
 have HR:=AA hr;have dQ:=AA d7;clear hr d7;go_enter func165,ntmps165;go_wp2_with fail;go_loopw [5,6,10] (fun u _ i wr=>∃(k:Nat) (q:Option Addr) (m mc:Nat),k≤n∧i=.int .i64 k∧u=.slice q m mc∧m≤k∧FW w.heap.size AS 3 wr q m mc (EP ((l.take k).filter (fun x=>!Ee rhos x)))∧Below w.heap.size w wr) (fun _ _ i _=>n-(intOf i).toNat)
 case atStart=>exact⟨0,_,_,_,by omega,rfl,rfl,by omega,KT _ (Nat.le_refl _),bA⟩
 case round=>
  obtain⟨k,q,m,mc,hk,rfl,rfl,j0,aD,hb⟩:=hrel;have aL:=AA aD;have HB:=AA hb;clear aD hb;by_cases aF:k<n
  ·obtain⟨x,hx⟩:=AM (l:=l) (j:=k) (by rw [HR.o.len];exact aF);have HE:=AA hx;obtain⟨b,o,rfl,aP,d0,d1,d2⟩:=CX.atom (HR.o.below HB.o).row hx;clear hx aP;by_cases h3:x.kind=3
   ·have i6:(x.kind==3)=true:=by simpa using h3
    have HQ:Hd ((!Ee rhos x)=true):=by show _=_;simp [Ee,h3]
    clear h3;go_wp2_with fail;refine(EQ aL.o HB.o.size (by omega) x).mono ?_;rintro e w1 ⟨⟨q',m',mc',rfl,aT⟩,hb⟩;have aJ:=bt HB hb;have co:m'≤k+1:=by have h1:=EO x (EP ((l.take k).filter (fun x=>!Ee rhos x)));have h2:=aT.len;have h3:=aL.o.len;omega
    have cD:=AA aT;clear hb d0 d1 d2 aT;go_wp2_with fail;go_roundw
    case rel=>exact⟨k+1,q',m',mc',by omega,by go_num,rfl,co,by rw [AI HE.o,List.filter_append];simp only [List.filter_cons,List.filter_nil,HQ.o,if_true];rw [EH];exact cD.out,aJ.o⟩
    case measure=>simp [intOf];omega
   ·have i6:(x.kind==3)=false:=by rw [beq_eq_false_iff_ne];exact h3
    cases hi:Du rhos x.rho
    ·have HI:=AA hi;have HQ:Hd ((!Ee rhos x)=true):=by show _=_;simp [Ee,h3,hi]
     clear h3 hi;go_wp2_with fail;refine(Cs HI.o (dQ.o.below HB.o)).mono ?_;rintro e w0 ⟨rfl,rfl⟩;go_wp2_with fail;refine(EQ aL.o HB.o.size (by omega) x).mono ?_;rintro e w1 ⟨⟨q',m',mc',rfl,aT⟩,hb⟩;have aJ:=bt HB hb;have co:m'≤k+1:=by have h1:=EO x (EP ((l.take k).filter (fun x=>!Ee rhos x)));have h2:=aT.len;have h3:=aL.o.len;omega
     have cD:=AA aT;clear hb d0 d1 d2 aT;go_wp2_with fail;go_roundw
     case rel=>exact⟨k+1,q',m',mc',by omega,by go_num,rfl,co,by rw [AI HE.o,List.filter_append];simp only [List.filter_cons,List.filter_nil,HQ.o,if_true];rw [EH];exact cD.out,aJ.o⟩
     case measure=>simp [intOf];omega
    ·have HI:=AA hi;have HQ:Hd ((!Ee rhos x)=false):=by show _=_;simp [Ee,h3,hi]
     clear h3 hi;go_wp2_with fail;refine(Cs HI.o (dQ.o.below HB.o)).mono ?_;rintro e w0 ⟨rfl,rfl⟩;go_wp2_with fail;go_roundw
     case rel=>exact⟨k+1,q,m,mc,by omega,by go_num,rfl,by omega,by rw [AI HE.o,List.filter_append];simp only [List.filter_cons,List.filter_nil,HQ.o,List.append_nil,Bool.false_eq_true,if_false];exact aL.o,HB.o⟩
     case measure=>simp [intOf];omega
  ·have ao:k=n:=by omega
   subst ao;go_wp2_with fail;go_ret;have h2:=aL.o;rw [AP (by rw [HR.o.len];omega),kG.o] at h2;exact⟨ET.mk h2,HB.o⟩
theorem Lu{p:Option Addr}{n cap:Nat}{l:List AD}{p1:Option Addr}{n1 c1:Nat}{exns:List ByteArray}{w:World}(hr:AE AS 3 w p n cap l)(hm:n≤1000000)(d7:AE EC 1 w p1 n1 c1 exns):Calls prog 164 #[.slice p n cap,.slice p1 n1 c1] w fun e w'=>ET w.heap.size AS 3 w' e (CP l exns)∧Below w.heap.size w w':=by
 have kG:Hd (EP (l.filter (fun x=>!DE exns x))=CP l exns):=by show _=_;rw [Gk];exact(FE _ l).symm
 have jX:=d7.max;have HR:=AA hr;have dQ:=AA d7;clear hr d7;go_enter func164,ntmps164;go_wp2_with fail;go_loopw [5,6,7,8,12,17] (fun u _ _ _ i _ wr=>∃(k:Nat) (q:Option Addr) (m mc:Nat),k≤n∧i=.int .i64 k∧u=.slice q m mc∧m≤k∧FW w.heap.size AS 3 wr q m mc (EP ((l.take k).filter (fun x=>!DE exns x)))∧Below w.heap.size w wr) (fun _ _ _ _ i _ _=>n-(intOf i).toNat)
 case atStart=>exact⟨0,_,_,_,by omega,rfl,rfl,by omega,KT _ (Nat.le_refl _),bA⟩
 case round=>
  obtain⟨k,q,m,mc,hk,rfl,rfl,j0,aD,hb⟩:=hrel;have aL:=AA aD;have HB:=AA hb;clear aD hb;by_cases aF:k<n
  ·obtain⟨x,hx⟩:=AM (l:=l) (j:=k) (by rw [HR.o.len];exact aF);have HE:=AA hx;obtain⟨b,o,rfl,aP,d0,d1,d2⟩:=CX.atom (HR.o.below HB.o).row hx;obtain⟨kd,rr,ss⟩:=x;simp only at d0 d1 d2;clear hx aP;obtain⟨wo,rfl⟩:∃wo:World,wo=wr:=⟨_,rfl⟩;go_wp2_with fail;go_loopw [7,8,17] (fun t _ i wi=>∃(j:Nat),j≤n1∧i=.int .i64 j∧t=.bool (DE (exns.take j) ⟨kd,rr,ss⟩)∧∃z,wi=wo.drewN z) (fun _ _ i _=>n1-(intOf i).toNat)
   case atStart=>exact⟨0,by omega,rfl,by simp [DE,WW],0,rfl⟩
   case round=>
    obtain⟨j,hj,rfl,rfl,z,rfl⟩:=hrel;by_cases gi:j<n1
    ·obtain⟨s,hs⟩:=AM (l:=exns) (j:=j) (by rw [dQ.o.len];exact gi);have HS:=AA hs;have HT:=AA (Ro hs ⟨kd,rr,ss⟩);obtain⟨b2,o2,rfl,e0⟩:=(dQ.o.below HB.o).row.str hs;clear hs;cases hg:DE (exns.take j) ⟨kd,rr,ss⟩
     ·have HG:=AA hg;clear hg;by_cases h3:kd=3
      ·subst h3;by_cases iB:s=ss
       ·have hb:(s.toList==ss.toList)=true:=by rw [Dm];simpa using iB
        have HN:Hd (DE (exns.take (j+1)) ⟨3,rr,ss⟩=true):=by show _=_;rw [HT.o];simp [iB]
        clear iB;go_wp2_with fail;go_quiet (fail);go_wp2_with fail;go_roundw
        case rel=>exact⟨j+1,by omega,by go_num,by rw [HN.o],_,rfl⟩
        case measure=>simp [intOf];omega
       ·have hb:(s.toList==ss.toList)=false:=by rw [Dm];simpa using iB
        have HN:Hd (DE (exns.take (j+1)) ⟨3,rr,ss⟩=false):=by show _=_;rw [HT.o,HG.o];simp [iB]
        clear iB;go_wp2_with fail;go_quiet (fail);go_wp2_with fail;go_roundw
        case rel=>exact⟨j+1,by omega,by go_num,by rw [HN.o],_,rfl⟩
        case measure=>simp [intOf];omega
      ·have i6:(kd==3)=false:=by rw [beq_eq_false_iff_ne];exact h3
       have HN:Hd (DE (exns.take (j+1)) ⟨kd,rr,ss⟩=false):=by show _=_;rw [HT.o,HG.o];simp [h3]
       clear h3;go_wp2_with fail;go_quiet (fail);go_wp2_with fail;go_roundw
       case rel=>exact⟨j+1,by omega,by go_num,by rw [HN.o],_,rfl⟩
       case measure=>simp [intOf];omega
     ·have HN:Hd (DE (exns.take (j+1)) ⟨kd,rr,ss⟩=true):=by show _=_;rw [HT.o,hg];rfl
      clear hg;go_wp2_with fail;go_quiet (fail);go_wp2_with fail;go_roundw
      case rel=>exact⟨j+1,by omega,by go_num,by rw [HN.o],_,rfl⟩
      case measure=>simp [intOf];omega
    ·have ex:j=n1:=by omega
     have HT:Hd (exns.take j=exns):=AP (by rw [dQ.o.len];omega);rw [HT.o];generalize lc:wo.drewN z=wz;have ek:Hd (Below w.heap.size w wz):=by show Below _ _ _;rw [←lc];exact below_drewN HB.o z
     have HROWz:Hd (FW w.heap.size AS 3 wz q m mc (EP ((l.take k).filter (fun x=>!DE exns x)))):=by show FW _ _ _ _ _ _ _ _;rw [←lc];exact aL.o.below (below_drewN (Below.refl _ _) z)
     have e0:wz.cell? ⟨b,o+k * 3,none⟩=some (.int .u8 kd):=by rw [←lc];exact d0
     have e1:wz.cell? ⟨b,o+k * 3+1,none⟩=some (.int .i64 rr):=by rw [←lc];exact d1
     have e2:wz.cell? ⟨b,o+k * 3+2,none⟩=some (.string ss):=by rw [←lc];exact d2
     clear d0 d1 d2 lc;cases hg:DE exns ⟨kd,rr,ss⟩
     ·have HQ:Hd ((!DE exns ⟨kd,rr,ss⟩)=true):=by show _=_;rw [hg];rfl
      clear hg;go_wp2_with fail;refine(EQ HROWz.o ek.o.size (by omega) ⟨kd,rr,ss⟩).mono ?_;rintro e w1 ⟨⟨q',m',mc',rfl,aT⟩,hb⟩;have aJ:=bt ek hb;have co:m'≤k+1:=by have h1:=EO ⟨kd,rr,ss⟩ (EP ((l.take k).filter (fun x=>!DE exns x)));have h2:=aT.len;have h3:=HROWz.o.len;omega
      have cD:=AA aT;clear hb e0 e1 e2 aT;go_wp2_with fail;go_roundw
      case rel=>exact⟨k+1,q',m',mc',by omega,by go_num,rfl,co,by rw [AI HE.o,List.filter_append];simp only [List.filter_cons,List.filter_nil,HQ.o,if_true];rw [EH];exact cD.out,aJ.o⟩
      case measure=>simp [intOf];omega
     ·have HQ:Hd ((!DE exns ⟨kd,rr,ss⟩)=false):=by show _=_;rw [hg];rfl
      clear hg;go_wp2_with fail;go_roundw
      case rel=>exact⟨k+1,q,m,mc,by omega,by go_num,rfl,by omega,by rw [AI HE.o,List.filter_append];simp only [List.filter_cons,List.filter_nil,HQ.o,List.append_nil,Bool.false_eq_true,if_false];exact HROWz.o,ek.o⟩
      case measure=>simp [intOf];omega
  ·have ao:k=n:=by omega
   subst ao;go_wp2_with fail;go_ret;have h2:=aL.o;rw [AP (by rw [HR.o.len];omega),kG.o] at h2;exact⟨ET.mk h2,HB.o⟩
theorem KO(p:Option Addr)(n cap:Nat)(l:List AD)(p1:Option Addr)(n1 c1:Nat)(f:List Int)(p2:Option Addr)(n2 c2:Nat)(t:List Int)(w:World)(hn:l.length=n)(hm:n≤1000000)(hr:CX w p l)(jX:f.length=n1)(hX:n1≤1000000)(d7:Au Ab 1 w p1 f)(jD:t.length=n2)(jC:n2≤1000000)(eI:Au Ab 1 w p2 t):Calls prog 157 #[.slice p n cap,.slice p1 n1 c1,.slice p2 n2 c2] w fun e w'=>ET w.heap.size AS 3 w' e (Kb f t l)∧Below w.heap.size w w':=by
 have HR:=AA hr;have HN:=AA hn;have dQ:=AA d7;have fd:=AA jX;have bv:=AA eI;have iz:=AA jD;clear hr hn d7 jX eI jD;go_enter func157,ntmps157;go_wp2_with fail;go_loopw [7,8,13] (fun u _ i wr=>∃(k:Nat) (q:Option Addr) (m mc:Nat),k≤n∧i=.int .i64 k∧u=.slice q m mc∧FW w.heap.size AS 3 wr q m mc (EP (((l.take k).filter AX).map (Ga f t)))∧Below w.heap.size w wr) (fun _ _ i _=>n-(intOf i).toNat)
 case atStart=>exact⟨0,_,_,_,by omega,rfl,rfl,KT _ (Nat.le_refl _),bA⟩
 case round=>
  obtain⟨k,q,m,mc,hk,rfl,rfl,aD,hb⟩:=hrel;have aG:=aD.len;have aL:=AA aD;have HB:=AA hb;have j0:m≤k:=by have:=KL (((l.take k).filter AX).map (Ga f t));have h2:=List.length_filter_le AX (l.take k);rw [aG,List.length_map] at this;rw [List.length_take] at h2;omega
  clear aG aD hb;by_cases aF:k<n
  ·obtain⟨x,hx⟩:=AM (l:=l) (j:=k) (by rw [HN.o];exact aF);have HE:=AA hx;obtain⟨b,o,rfl,aP,d0,d1,d2⟩:=CX.atom (HR.o.below HB.o) hx;have pc:=AA aP;have dG:Hd (∀W,Below wr.heap.size wr W→W.cell? ⟨b,o+k * 3,none⟩=some (.int .u8 x.kind)∧W.cell? ⟨b,o+k * 3+1,none⟩=some (.int .i64 x.rho)∧W.cell? ⟨b,o+k * 3+2,none⟩=some (.string x.exn)):=fun W h=>⟨by rw [h.cell aP];exact d0,by rw [h.cell aP];exact d1,by rw [h.cell aP];exact d2⟩;clear hx aP;cases ha:AX x
   ·have HA:=AA ha;clear ha;go_wp2_with fail;refine(Bp HA.o _).mono ?_;rintro e w1 ⟨rfl,hb⟩;have aJ:Hd (Below wr.heap.size wr w1):=((Below.refl _ wr).alloc (Nat.le_refl _) _).trans (hb.mono (by simp));clear hb d0 d1 d2;obtain⟨d0,d1,d2⟩:=dG.o w1 aJ.o;go_wp2_with fail;refine(Bp HA.o _).mono ?_;rintro e w2 ⟨rfl,hb⟩;have aK:Hd (Below w.heap.size w w2):=(HB.o.trans (aJ.o.mono HB.o.size)).trans (hb.mono (by have:=HB.o.size;have:=aJ.o.size;omega));have aV:Hd (Below wr.heap.size wr w2):=aJ.o.trans (hb.mono aJ.o.size);clear hb d0 d1 d2;go_wp2_with fail;go_roundw
    case rel=>
     have e1:(l.take (k+1)).filter AX=(l.take k).filter AX:=by rw [AI HE.o,List.filter_append];simp [HA.o]
     exact⟨k+1,q,m,mc,by omega,by go_num,rfl,by rw [e1];exact aL.o.below aV.o,aK.o⟩
    case measure=>simp [intOf];omega
   ·obtain⟨kd,rr,ss⟩:=x;simp only at d0 d1 d2 dG;have HA:=AA ha;clear ha;by_cases gA:kd=3
    ·subst gA;go_wp2_with fail;refine(Bp HA.o _).mono ?_;rintro e w1 ⟨rfl,hb⟩;have v0:w1.cell? ⟨wr.heap.size,0,none⟩=some (.int .u8 3):=by rw [hb.cell (by simp),AR];rfl
     have v1:w1.cell? ⟨wr.heap.size,1,none⟩=some (.int .i64 rr):=by rw [hb.cell (by simp),AR];rfl
     have v2:w1.cell? ⟨wr.heap.size,2,none⟩=some (.string ss):=by rw [hb.cell (by simp),AR];rfl
     have aJ:Hd (Below wr.heap.size wr w1):=((Below.refl _ wr).alloc (Nat.le_refl _) _).trans (hb.mono (by simp));have eQ:wr.heap.size<w1.heap.size:=by have:=hb.size;simp at this;omega
     have eK:Hd ((3:Int)=3):=rfl;clear hb d0 d1 d2;obtain⟨d0,d1,d2⟩:=dG.o w1 aJ.o;go_wp2_with fail;refine(Bp HA.o _).mono ?_;rintro e w3 ⟨rfl,hb⟩;have u0:w3.cell? ⟨wr.heap.size,0,none⟩=some (.int .u8 3):=by rw [hb.cell (by simpa using eQ)];exact v0
     have u1:w3.cell? ⟨wr.heap.size,1,none⟩=some (.int .i64 rr):=by rw [hb.cell (by simpa using eQ)];exact v1
     have u2:w3.cell? ⟨wr.heap.size,2,none⟩=some (.string ss):=by rw [hb.cell (by simpa using eQ)];exact v2
     have ek:Hd (Below wr.heap.size wr w3):=aJ.o.trans (hb.mono aJ.o.size);clear hb d0 d1 d2 v0 v1 v2;have av:Hd (Below w.heap.size w w3):=HB.o.trans (ek.o.mono HB.o.size);go_wp2_with fail;refine(EQ (aL.o.below ek.o) (Nat.le_trans HB.o.size ek.o.size) (by omega) (⟨3,rr,ss⟩:AD)).mono ?_;rintro e w4 ⟨⟨q',m',mc',rfl,aT⟩,hb⟩;have aw:=bt av hb;have cD:=AA aT;clear hb aT u0 u1 u2;go_wp2_with fail;go_roundw
     case rel=>
      have e1:((l.take (k+1)).filter AX).map (Ga f t)=((l.take k).filter AX).map (Ga f t)++[(⟨3,rr,ss⟩:AD)]:=by rw [AI HE.o,List.filter_append,List.map_append];simp [HA.o,Ga,eK.o]
      exact⟨k+1,q',m',mc',by omega,by go_num,rfl,by rw [e1,EH];exact cD.out,aw.o⟩
     case measure=>simp [intOf];omega
    ·have eK:=AA gA;have qi:decide (kd=3)=false:=by simp [gA]
     go_wp2_with fail;refine(Bp HA.o _).mono ?_;rintro e w1 ⟨rfl,hb⟩;have v0:w1.cell? ⟨wr.heap.size,0,none⟩=some (.int .u8 kd):=by rw [hb.cell (by simp),AR];rfl
     have v1:w1.cell? ⟨wr.heap.size,1,none⟩=some (.int .i64 rr):=by rw [hb.cell (by simp),AR];rfl
     have v2:w1.cell? ⟨wr.heap.size,2,none⟩=some (.string ss):=by rw [hb.cell (by simp),AR];rfl
     have f1:w1.frozen? ⟨wr.heap.size,1,none⟩=false:=by
      have hh:(wr.alloc (.cells #[.int .u8 kd,.int .i64 rr,.string ss] 59)).heap[wr.heap.size]?=some (.cells #[.int .u8 kd,.int .i64 rr,.string ss] 59):=by show (wr.heap.push _)[wr.heap.size]?=_;simp
      rw [World.frozen?_of_block (hb.block wr.heap.size (by simp))];simp only [World.frozen?,hh];rfl
     have aJ:Hd (Below wr.heap.size wr w1):=((Below.refl _ wr).alloc (Nat.le_refl _) _).trans (hb.mono (by simp));have eQ:wr.heap.size<w1.heap.size:=by have:=hb.size;simp at this;omega
     clear hb d0 d1 d2;go_wp2_with fail;refine(KQ rr p1 n1 c1 f p2 n2 c2 t w1 fd.o (by omega) (dQ.o.below (HB.o.trans (aJ.o.mono HB.o.size))) iz.o (by omega) (bv.o.below (HB.o.trans (aJ.o.mono HB.o.size)))).mono ?_;rintro e w2 ⟨rfl,rfl⟩;have oE:Hd (Below wr.heap.size wr (w1.setCell ⟨wr.heap.size,1,none⟩ (.int .i64 (BS rr f t)))):=AJ.drop_base (enc:=AS) (k:=3) (AL _ _ _ _) (Nat.le_refl _) aJ.o aJ.o.size;obtain⟨d0,d1,d2⟩:=dG.o _ oE.o;have x0:(w1.setCell ⟨wr.heap.size,1,none⟩ (.int .i64 (BS rr f t))).cell? ⟨wr.heap.size,0,none⟩=some (.int .u8 kd):=by rw [World.cell?_setCell_other _ _ _ _ (by simp)];exact v0
     have x1:(w1.setCell ⟨wr.heap.size,1,none⟩ (.int .i64 (BS rr f t))).cell? ⟨wr.heap.size,1,none⟩=some (.int .i64 (BS rr f t)):=World.cell?_setCell_same _ _ _ v1;have x2:(w1.setCell ⟨wr.heap.size,1,none⟩ (.int .i64 (BS rr f t))).cell? ⟨wr.heap.size,2,none⟩=some (.string ss):=by rw [World.cell?_setCell_other _ _ _ _ (by simp)];exact v2
     have fa:wr.heap.size<(w1.setCell ⟨wr.heap.size,1,none⟩ (.int .i64 (BS rr f t))).heap.size:=by simpa [World.setCell] using eQ
     go_wp2_with fail;refine(Bp HA.o _).mono ?_;rintro e w3 ⟨rfl,hb⟩;have u0:w3.cell? ⟨wr.heap.size,0,none⟩=some (.int .u8 kd):=by rw [hb.cell fa];exact x0
     have u1:w3.cell? ⟨wr.heap.size,1,none⟩=some (.int .i64 (BS rr f t)):=by rw [hb.cell fa];exact x1
     have u2:w3.cell? ⟨wr.heap.size,2,none⟩=some (.string ss):=by rw [hb.cell fa];exact x2
     have ek:Hd (Below wr.heap.size wr w3):=oE.o.trans (hb.mono oE.o.size);clear hb d0 d1 d2 v0 v1 v2 x0 x1 x2;have av:Hd (Below w.heap.size w w3):=HB.o.trans (ek.o.mono HB.o.size);go_wp2_with fail;refine(EQ (aL.o.below ek.o) (Nat.le_trans HB.o.size ek.o.size) (by omega) (⟨kd,BS rr f t,ss⟩:AD)).mono ?_;rintro e w4 ⟨⟨q',m',mc',rfl,aT⟩,hb⟩;have aw:=bt av hb;have cD:=AA aT;clear hb aT u0 u1 u2;go_wp2_with fail;go_roundw
     case rel=>
      have e1:((l.take (k+1)).filter AX).map (Ga f t)=((l.take k).filter AX).map (Ga f t)++[(⟨kd,BS rr f t,ss⟩:AD)]:=by rw [AI HE.o,List.filter_append,List.map_append];simp [HA.o,Ga,eK.o]
      exact⟨k+1,q',m',mc',by omega,by go_num,rfl,by rw [e1,EH];exact cD.out,aw.o⟩
     case measure=>simp [intOf];omega
  ·have ao:k=n:=by omega
   subst ao;go_wp2_with fail;go_ret;have h2:=aL.o;rw [AP (by rw [HN.o];omega),←XC] at h2;exact⟨ET.mk h2,HB.o⟩
end
def zs(l:List Int):Prop:=l=[]∨l=[0]
end Go.Proofs.YtkdjnegfnhldpaaGreatDoor
