/- Part 11. -/
import Derived.Deep.CutRange
import Derived.Test.YtkdjnegfnhldpaaGreatDoorK10
set_option linter.unusedVariables false
set_option maxRecDepth 100000
set_option linter.unusedSimpArgs false
set_option maxHeartbeats 40000000
namespace Go.Proofs.YtkdjnegfnhldpaaGreatDoor
open Go.Proofs.Tryz Go.RowKit
section
open Go.Sort Go.Lib
theorem Lj(p:Option Addr)(n cap:Nat)(l:List AD)(p1:Option Addr)(n1 c1:Nat)(f:List Int)(p2:Option Addr)(n2 c2:Nat)(t:List Int)(w:World)(hn:l.length=n)(hm:n≤1000000)(hr:CX w p l)(jX:f.length=n1)(hX:n1≤1000000)(d7:Au Ab 1 w p1 f)(jD:t.length=n2)(jC:n2≤1000000)(eI:Au Ab 1 w p2 t):Calls prog 66 #[.slice p n cap,.slice p1 n1 c1,.slice p2 n2 c2] w fun e w'=>∃v m,e=.returned v∧m≤n∧AJ AS 3 w' w.heap.size 59 v m (Kb f t l)∧Below w.heap.size w w':=by
 have HR:=AA hr;have HN:=AA hn;have dQ:=AA d7;have fd:=AA jX;have bv:=AA eI;have iz:=AA jD;clear hr hn d7 jX eI jD;go_enter func66,ntmps66;go_wp2_with fail;refine(CJ p n cap l _ HN.o hm HR.o).mono ?_;rintro e w1 ⟨v,m,rfl,gB,aB,hb⟩;obtain⟨q,mc,rfl,mI,mn,aD,_⟩:=aB.row AF (by omega);have aL:=AA aD;have kU:=AA mI;have aJ:=AA hb;generalize hS:DR (l.filter AX)=S at aL kU;have HS:=AA hS;clear aB hb aD mI hS;go_wp2_with fail;go_loopw [7,10,14] (fun u _ i wr=>∃k:Nat,k≤m∧i=.int .i64 k∧AJ AS 3 wr w1.heap.size 59 u k ((S.take k).map (Ga f t))∧Below w1.heap.size w1 wr) (fun _ _ i _=>m-(intOf i).toNat)
 case atStart=>exact⟨0,by omega,rfl,AJ.nil _ _ _ _ _,Below.refl _ _⟩
 case round=>
  obtain⟨k,hk,rfl,aB,hb⟩:=hrel;have aO:=AA aB;have HB:=AA hb;clear aB hb;by_cases aF:k<m
  ·obtain⟨x,hx⟩:=AM (l:=S) (j:=k) (by rw [kU.o];exact aF);have HE:=AA hx;obtain⟨b,o,rfl,aP,d0,d1,d2⟩:=CX.atom (aL.o.below HB.o) hx;clear hx aP;obtain⟨kd,rr,ss⟩:=x;simp only at d0 d1 d2;have HW:=AA (aJ.o.trans (HB.o.mono aJ.o.size));by_cases gA:kd=3
   ·subst gA;have az:=AA (aO.o.below ((Below.refl _ wr).alloc (Nat.le_refl _) (.cells #[.int .u8 3,.int .i64 rr,.string ss] 59)));have aK:Hd (Below w1.heap.size w1 (wr.alloc (.cells #[.int .u8 3,.int .i64 rr,.string ss] 59))):=HB.o.alloc HB.o.size _;go_wp2_with fail;refine(Di rr p1 n1 c1 f _ _ rfl fd.o (by omega) ((dQ.o.below HW.o).alloc _)).mono ?_;rintro e w2 ⟨rfl,rfl⟩;generalize Lib.idxOf f rr=c;go_wp2_with (at_builtin;refine Ae rfl _ _ 25 rfl w1.heap.size 59 _ 3 32 underlying25 CQ rfl (by decide) AS AF As (⟨3,rr,ss⟩:AD) _ _ _ az.o rfl (by refine Eq.trans (b:=Value.slice (some ⟨wr.heap.size+1,0,none⟩) 1 1) rfl ?_;simp) ?c1 ?c2 ?c3 ?_)
    case c1=>omega
    case c2=>omega
    case c3=>exact aK.o.size
    ·intro v' w4 aH hg;have HO:=AA aH;have av:=AA (Below.own aK.o hg aK.o.size az.o);clear aH hg;go_wp2_with fail;go_roundw
     case rel=>exact⟨k+1,by omega,by go_num,by
      have e1:(S.take (k+1)).map (Ga f t)=(S.take k).map (Ga f t)++[(⟨3,rr,ss⟩:AD)]:=by rw [AI HE.o,List.map_append];simp only [List.map_cons,List.map_nil];rw [Gn (.inl rfl)]
      rw [e1,List.map_take];exact HO.o,av.o⟩
     case measure=>simp [intOf];omega
   ·have eK:=AA gA;have qi:decide (kd=3)=false:=by simp [gA]
    rcases J9 rr f t with⟨hi,ht⟩|⟨j,hj,hi,ht⟩
    ·have HI:=AA hi;have HT:=AA ht;clear hi ht;have az:=AA (aO.o.below ((Below.refl _ wr).alloc (Nat.le_refl _) (.cells #[.int .u8 kd,.int .i64 rr,.string ss] 59)));have aK:Hd (Below w1.heap.size w1 (wr.alloc (.cells #[.int .u8 kd,.int .i64 rr,.string ss] 59))):=HB.o.alloc HB.o.size _;go_wp2_with fail;refine(Di rr p1 n1 c1 f _ (-1) HI.o fd.o (by omega) ((dQ.o.below HW.o).alloc _)).mono ?_;rintro e w2 ⟨rfl,rfl⟩;go_wp2_with (at_builtin;refine Ae rfl _ _ 25 rfl w1.heap.size 59 _ 3 32 underlying25 CQ rfl (by decide) AS AF As (⟨kd,rr,ss⟩:AD) _ _ _ az.o rfl (by refine Eq.trans (b:=Value.slice (some ⟨wr.heap.size+1,0,none⟩) 1 1) rfl ?_;simp) ?c1 ?c2 ?c3 ?_)
     case c1=>omega
     case c2=>omega
     case c3=>exact aK.o.size
     ·intro v' w4 aH hg;have HO:=AA aH;have av:=AA (Below.own aK.o hg aK.o.size az.o);clear aH hg;go_wp2_with fail;go_roundw
      case rel=>exact⟨k+1,by omega,by go_num,by
       have e1:(S.take (k+1)).map (Ga f t)=(S.take k).map (Ga f t)++[(⟨kd,rr,ss⟩:AD)]:=by rw [AI HE.o,List.map_append];simp only [List.map_cons,List.map_nil];rw [Gn (.inr HT.o)]
       rw [e1,List.map_take];exact HO.o,av.o⟩
      case measure=>simp [intOf];omega
    ·have HI:=AA hi;have HT:=AA ht;clear hi ht;have qd:j<n1:=by have:=fd.o;omega
     by_cases me:j<n2
     ·obtain⟨z,hz⟩:=AM (l:=t) (j:=j) (by rw [iz.o];exact me);have mB:Hd (BS rr f t=z):=by show BS rr f t=z;rw [HT.o,hz];rfl
      obtain⟨b',o',rfl,e0⟩:=(((bv.o.below HW.o).alloc (.cells #[.int .u8 kd,.int .i64 rr,.string ss] 59))).num hz;clear hz;have az:=AA (aO.o.below ((Below.refl _ wr).alloc (Nat.le_refl _) (.cells #[.int .u8 kd,.int .i64 z,.string ss] 59)));have aK:Hd (Below w1.heap.size w1 (wr.alloc (.cells #[.int .u8 kd,.int .i64 z,.string ss] 59))):=HB.o.alloc HB.o.size _;go_wp2_with fail;refine(Di rr p1 n1 c1 f _ (j:Int) HI.o fd.o (by omega) ((dQ.o.below HW.o).alloc _)).mono ?_;rintro e w2 ⟨rfl,rfl⟩;go_wp2_with (at_builtin;refine Ae rfl _ _ 25 rfl w1.heap.size 59 _ 3 32 underlying25 CQ rfl (by decide) AS AF As (⟨kd,z,ss⟩:AD) _ _ _ az.o rfl (by refine Eq.trans (b:=Value.slice (some ⟨wr.heap.size+1,0,none⟩) 1 1) rfl ?_;simp) ?c1 ?c2 ?c3 ?_)
      case c1=>omega
      case c2=>omega
      case c3=>exact aK.o.size
      ·intro v' w4 aH hg;have HO:=AA aH;have av:=AA (Below.own aK.o hg aK.o.size az.o);clear aH hg;go_wp2_with fail;go_roundw
       case rel=>exact⟨k+1,by omega,by go_num,by
        have e1:(S.take (k+1)).map (Ga f t)=(S.take k).map (Ga f t)++[(⟨kd,z,ss⟩:AD)]:=by rw [AI HE.o,List.map_append];simp only [List.map_cons,List.map_nil];rw [Vf eK.o mB.o]
        rw [e1,List.map_take];exact HO.o,av.o⟩
       case measure=>simp [intOf];omega
     ·have HZ:Hd (BS rr f t=rr):=by show BS rr f t=rr;rw [HT.o,List.getElem?_eq_none (by rw [iz.o];omega)];rfl
      have az:=AA (aO.o.below ((Below.refl _ wr).alloc (Nat.le_refl _) (.cells #[.int .u8 kd,.int .i64 rr,.string ss] 59)));have aK:Hd (Below w1.heap.size w1 (wr.alloc (.cells #[.int .u8 kd,.int .i64 rr,.string ss] 59))):=HB.o.alloc HB.o.size _;go_wp2_with fail;refine(Di rr p1 n1 c1 f _ (j:Int) HI.o fd.o (by omega) ((dQ.o.below HW.o).alloc _)).mono ?_;rintro e w2 ⟨rfl,rfl⟩;go_wp2_with (at_builtin;refine Ae rfl _ _ 25 rfl w1.heap.size 59 _ 3 32 underlying25 CQ rfl (by decide) AS AF As (⟨kd,rr,ss⟩:AD) _ _ _ az.o rfl (by refine Eq.trans (b:=Value.slice (some ⟨wr.heap.size+1,0,none⟩) 1 1) rfl ?_;simp) ?c1 ?c2 ?c3 ?_)
      case c1=>omega
      case c2=>omega
      case c3=>exact aK.o.size
      ·intro v' w4 aH hg;have HO:=AA aH;have av:=AA (Below.own aK.o hg aK.o.size az.o);clear aH hg;go_wp2_with fail;go_roundw
       case rel=>exact⟨k+1,by omega,by go_num,by
        have e1:(S.take (k+1)).map (Ga f t)=(S.take k).map (Ga f t)++[(⟨kd,rr,ss⟩:AD)]:=by rw [AI HE.o,List.map_append];simp only [List.map_cons,List.map_nil];rw [Gn (.inr HZ.o)]
        rw [e1,List.map_take];exact HO.o,av.o⟩
       case measure=>simp [intOf];omega
  ·obtain rfl:k=m:=by omega
   have aB:=aO.o;have HE:Hd (DR ((S.map (Ga f t)).filter AX)=Kb f t l):=by show _=Kb f t l;unfold Kb;rw [HS.o]
   rw [AP (by rw [kU.o];exact Nat.le_refl _)] at aB;obtain⟨q',c',rfl,jv,jU,aT,_⟩:=aB.row AF (by omega);have oV:=AA jv;have cD:=AA aT;clear aB jv aT;go_wp2_with fail;refine(CJ q' k c' (S.map (Ga f t)) wr oV.out (by omega) cD.out).mono ?_;rintro e w3 ⟨v,m',rfl,jC,aB,hb⟩;rw [HE.o] at aB;have HO:=AA (aB.lower (aJ.o.trans (HB.o.mono aJ.o.size)).size);have aV:=AA ((aJ.o.trans (HB.o.mono aJ.o.size)).trans (hb.mono (aJ.o.trans (HB.o.mono aJ.o.size)).size));clear aB hb;go_wp2_with fail;go_ret;exact⟨_,_,rfl,by omega,HO.o,aV.o⟩
def Q3(f t:List Int)(a:LH):LH:=if a.kind=1 then a else⟨a.kind,BS a.rho f t,Kb f t a.eff⟩
def Bz(f t:List Int):RT→RT:=AG.map (Q3 f t)
theorem Vg(f t:List Int)(a:RH)(l:List PT):Bz f t (PT.er (.node a l))=.node (Q3 f t a.plain) (l.map (fun x=>Bz f t (PT.er x))):=by rw [PT.er_node];unfold Bz;rw [AG.map_node,List.map_map];rfl
theorem Q5(r:Int)(f t:List Int):BS r f t=r∨BS r f t∈t:=by
 rcases J9 r f t with⟨_,h⟩|⟨k,_,_,h⟩
 ·exact .inl h
 ·cases hk:t[k]? with
  |none=>left;rw [h,hk];rfl
  |some z=>right;rw [h,hk];exact List.mem_of_getElem? hk
def WC(z:Int):Prop:=-9223372036854775808≤z∧z≤9223372036854775807
theorem Q6{r:Int}{f t:List Int}(hr:WC r)(ht:∀z∈t,WC z):WC (BS r f t):=by
 rcases Q5 r f t with h|h
 ·rw [h];exact hr
 ·exact ht _ h
theorem XD{f t:List Int}{l:List AD}(hl:∀x∈l,Cq x)(ht:∀z∈t,WC z):∀x∈Kb f t l,Cq x:=by
 intro x hx;unfold Kb at hx;rw [CV,List.mem_filter,List.mem_map] at hx;obtain⟨⟨y,hy,rfl⟩,_⟩:=hx;rw [CV,List.mem_filter] at hy;have h:=hl y hy.1;unfold Ga;split
 ·exact h
 ·have:=Q6 (f:=f) ⟨h.r0,h.r1⟩ ht;exact⟨h.k0,h.k1,this.1,this.2,h.s1⟩
theorem XB{f t:List Int}{a:LH}(hr:WC a.rho)(ha:∀x∈a.eff,Cq x)(ht:∀z∈t,WC z):WC (Q3 f t a).rho∧∀x∈(Q3 f t a).eff,Cq x:=by
 unfold Q3;split
 ·exact⟨hr,ha⟩
 ·exact⟨Q6 hr ht,XD ha ht⟩
def Dt(N B E:Nat)(t:PT):Prop:=∀a∈t.nodes,(∀ad,a.kp=some ad→B≤ad.block∧ad.block<E)∧(a.eff≠[]→∀ad,a.ep=some ad→(ad.block<N∨B≤ad.block)∧ad.block<E)
theorem Dt.mono{N B E B' E':Nat}{t:PT}(h:Dt N B E t)(hB:B'≤B)(hE:E≤E'):Dt N B' E' t:=fun a ha=>⟨fun ad hp=>by have:=(h a ha).1 ad hp;omega,fun he ad hp=>by have:=(h a ha).2 he ad hp;omega⟩
theorem Dt.node{N B E:Nat}{a:RH}{l:List PT}(ha:∀ad,a.kp=some ad→B≤ad.block∧ad.block<E)(he:a.eff≠[]→∀ad,a.ep=some ad→(ad.block<N∨B≤ad.block)∧ad.block<E)(hl:∀t∈l,Dt N B E t):Dt N B E (.node a l):=by
 intro x hx;rw [AG.nodes_node,List.mem_cons] at hx;rcases hx with rfl|hx
 ·exact⟨ha,he⟩
 ·rw [List.mem_flatten] at hx;obtain⟨m,hm,hx⟩:=hx;obtain⟨t,ht,rfl⟩:=List.mem_map.1 hm;exact hl t ht x hx
def Sw(r:Option Nat)(t:PT):Prop:=∀a∈t.nodes,(∀ad,a.kp=some ad→r≠some ad.block)∧(a.eff≠[]→∀ad,a.ep=some ad→r≠some ad.block)
theorem BY{α:Type}{enc:α→List Value}{k:Nat}{w w':World}{r:Option Nat}{p:Option Addr}{n c:Nat}{l:List α}(hg:w.grownBy w' r)(aS:l≠[]→∀ad,p=some ad→r≠some ad.block)(h:AE enc k w p n c l):AE enc k w' p n c l:=by
 refine⟨h.len,h.max,h.le,h.nil,?_⟩;by_cases hl:l=[]
 ·exact .inl hl
 ·exact SD hg (aS hl) h.row
theorem IQ{w w':World}{r:Option Nat}(hg:w.grownBy w' r)(t:PT):Sw r t→LR.lies w t→LR.lies w' t:=by refine AG.ind (P:=fun(t:PT)=>Sw r t→LR.lies w t→LR.lies w' t) (fun a l ih ho h=>?_) t;have hn:=BD h;have h0:=ho a (by rw [AG.nodes_node];simp);refine BK.lies ⟨⟨BY hg h0.2 hn.own.eff,hn.own.ok,hn.own.k0,hn.own.k1,hn.own.r0,hn.own.r1,hn.own.kmax,hn.own.kle,hn.own.knil⟩,BY hg (fun _=>h0.1) hn.kids,fun t ht=>ih t ht (fun x hx=>ho x ?_) (hn.each t ht)⟩;rw [AG.nodes_node,List.mem_cons,List.mem_flatten];exact .inr ⟨t.nodes,List.mem_map_of_mem ht,hx⟩
theorem Dt.off{N B E:Nat}{r:Nat}{t:PT}(h:Dt N B E t)(hr:N≤r∧r<B∨E≤r)(tX:N≤E):Sw (some r) t:=fun a ha=>⟨fun ad hp e=>by have:=(h a ha).1 ad hp;injection e with e;omega,fun he ad hp e=>by have:=(h a ha).2 he ad hp;injection e with e;omega⟩
def Oi(N:Nat)(f t:List Int)(x:PT)(W:World)(e:Ending)(w':World):Prop:=(∃y:PT,e=.returned (Ci y.head)∧LR.lies w' y∧Dt N W.heap.size w'.heap.size y∧PT.er y=Bz f t (PT.er x))∧Below W.heap.size W w'
structure Vs(w:World)(p1:Option Addr)(n1 c1:Nat)(f:List Int)(p2:Option Addr)(n2 c2:Nat)(t:List Int):Prop where
 rf:AE Ab 1 w p1 n1 c1 f
 rt:AE Ab 1 w p2 n2 c2 t
 m1:n1≤1000000
 m2:n2≤1000000
 ok:∀z∈t,WC z
theorem Vs.below{w w':World}{p1:Option Addr}{n1 c1:Nat}{f:List Int}{p2:Option Addr}{n2 c2:Nat}{t:List Int}(h:Vs w p1 n1 c1 f p2 n2 c2 t)(hb:Below w.heap.size w w'):Vs w' p1 n1 c1 f p2 n2 c2 t:=⟨h.rf.below hb,h.rt.below hb,h.m1,h.m2,h.ok⟩
theorem WX:(prog.info? 28).map (fun i=>(i.zero,i.size,i.bytes))=some (some (.agg #[.int .u8 0,.int .i64 0,.slice none 0 0,.slice none 0 0]),4,64):=by kernel_rfl
theorem WS:∀t:PT,∀u∈LR.encT t,u.oneCell'=true:=by intro t u hu;have:u∈Ma t.head:=hu;simp [Ma] at this;rcases this with rfl|rfl|rfl|rfl<;>rfl
structure Dk(w:World)(g:Nat)(x y z u:Value):Prop where
 blk:w.heap[g]?=some (.cells #[x,y,z,u] 28 (0,0))
theorem Dk.cells{w:World}{g:Nat}{x y z u:Value}(h:Dk w g x y z u):w.cell? ⟨g,0,none⟩=some x∧w.cell? ⟨g,1,none⟩=some y∧w.cell? ⟨g,2,none⟩=some z∧w.cell? ⟨g,3,none⟩=some u∧w.frozen? ⟨g,0,none⟩=false∧w.frozen? ⟨g,1,none⟩=false∧w.frozen? ⟨g,2,none⟩=false∧w.frozen? ⟨g,3,none⟩=false:=by have hb:=h.blk;refine⟨?_,?_,?_,?_,?_,?_,?_,?_⟩<;>simp [World.cell?,World.frozen?,hb]
theorem Dk.lt{w:World}{g:Nat}{x y z u:Value}(h:Dk w g x y z u):g<w.heap.size:=(Array.getElem?_eq_some_iff.1 h.blk).1
theorem Dk.grown{w w':World}{g:Nat}{x y z u:Value}{r:Option Nat}(h:Dk w g x y z u)(hg:w.grownBy w' r)(hr:r≠some g):Dk w' g x y z u:=⟨by rw [hg.block g h.lt hr.symm];exact h.blk⟩
theorem Dk.below{w w':World}{g:Nat}{x y z u:Value}(h:Dk w g x y z u)(hb:Below w.heap.size w w'):Dk w' g x y z u:=⟨by rw [hb.block g h.lt];exact h.blk⟩
theorem Gb(w:World)(x y z u:Value):Dk (w.alloc (.cells #[x,y,z,u] 28)) w.heap.size x y z u:=⟨heap_alloc_new w _⟩
theorem P6{w:World}{g:Nat}{x y z u:Value}(h:Dk w g x y z u)(x' y' z' u':Value):Dk ((((w.setCell ⟨g,0,none⟩ x').setCell ⟨g,1,none⟩ y').setCell ⟨g,2,none⟩ z').setCell ⟨g,3,none⟩ u') g x' y' z' u'∧w.grownBy ((((w.setCell ⟨g,0,none⟩ x').setCell ⟨g,1,none⟩ y').setCell ⟨g,2,none⟩ z').setCell ⟨g,3,none⟩ u') (some g):=by have h1:=AZ (o:=3) u' (AZ (o:=2) z' (AZ (o:=1) y' (AZ (o:=0) x' h.blk)));refine⟨⟨by simpa using h1⟩,?_⟩;exact D1 (D1 (D1 (AL w g 0 x') (AL _ g 1 y') (fun b _ h=>h)) (AL _ g 2 z') (fun b _ h=>h)) (AL _ g 3 u') (fun b _ h=>h)
theorem UT{w:World}{g:Nat}{x y z u:Value}(h:Dk w g x y z u)(v:Value):Dk (w.setCell ⟨g,1,none⟩ v) g x v z u:=⟨by simpa using AZ (o:=1) v h.blk⟩
theorem P7{w:World}{g:Nat}{x y z u:Value}(h:Dk w g x y z u)(v:Value):Dk (w.setCell ⟨g,2,none⟩ v) g x y v u:=⟨by simpa using AZ (o:=2) v h.blk⟩
theorem JU{w:World}{g:Nat}{x y z u:Value}(h:Dk w g x y z u)(v:Value):Dk (w.setCell ⟨g,3,none⟩ v) g x y z v:=⟨by simpa using AZ (o:=3) v h.blk⟩
structure S3(N B:Nat)(w wx:World)(a:RH)(f t:List Int)(z:Int)(ep:Option Addr)(en ec:Nat)(eff:List AD):Prop where
 b0:Dk wx B (.int .u8 a.kind) (.int .i64 a.rho) (.slice a.ep a.en a.ec) (.slice a.kp a.kn a.kc)
 b1:Dk wx (B+1) (.int .u8 0) (.int .i64 0) (.slice none 0 0) (.slice none 0 0)
 size:B+3≤wx.heap.size
 below:Below B w wx
 row:AE AS 3 wx ep en ec eff
 span:eff≠[]→∀ad,ep=some ad→(ad.block<N∨B+3≤ad.block)∧ad.block<wx.heap.size
 is:(⟨a.kind,z,eff⟩:LH)=Q3 f t a.plain
theorem S3.grown{N B:Nat}{w wx w':World}{a:RH}{f t:List Int}{z:Int}{ep:Option Addr}{en ec:Nat}{eff:List AD}{r:Option Nat}(h:S3 N B w wx a f t z ep en ec eff)(hg:wx.grownBy w' r)(hr:∀b,r=some b→B+1+1≤b)(pA:eff≠[]→∀ad,ep=some ad→r≠some ad.block):S3 N B w w' a f t z ep en ec eff:=⟨h.b0.grown hg (fun e=>by have:=hr _ e;omega),h.b1.grown hg (fun e=>by have:=hr _ e;omega),Nat.le_trans h.size hg.size,h.below.grown hg (by have:=h.size;omega) (fun j hj=>by have:=hr _ hj;omega),BY hg pA h.row,fun he ad hp=>by have:=h.span he ad hp;have:=hg.size;omega,h.is⟩
theorem S3.drop{N B:Nat}{w wx w':World}{a:RH}{f t:List Int}{z:Int}{ep:Option Addr}{en ec:Nat}{eff:List AD}(h:S3 N B w wx a f t z ep en ec eff)(hb:Below wx.heap.size wx w'):S3 N B w w' a f t z ep en ec eff:=⟨h.b0.below hb,h.b1.below hb,Nat.le_trans h.size hb.size,h.below.trans (hb.mono (by have:=h.size;omega)),h.row.below hb,fun he ad hp=>by have:=h.span he ad hp;have:=hb.size;omega,h.is⟩
structure UL(N B:Nat)(w wx:World)(a:RH)(f t:List Int)(z:Int)(ep:Option Addr)(en ec:Nat)(eff:List AD)(v:Value)(k:Nat)(ys:List PT):Prop where
 own:AJ LR.encT 4 wx (B+3) 28 v k ys
 r:S3 N B w wx a f t z ep en ec eff
 b2:Dk wx (B+1+1) (.int .u8 a.kind) (.int .i64 z) (.slice ep en ec) v
 eoff:eff≠[]→∀ad,ep=some ad→v.ownBlock≠some ad.block
 ys:∀y∈ys,LR.lies wx y∧Sw v.ownBlock y∧Dt N (B+3) wx.heap.size y
section
variable {N B:Nat} {w wx w' w3:World} {a:RH} {f t:List Int} {z:Int} {ep:Option Addr} {en ec:Nat} {eff:List AD} {v:Value} {k:Nat} {ys:List PT}
theorem UL.drop(h:UL N B w wx a f t z ep en ec eff v k ys)(hb:Below wx.heap.size wx w'):UL N B w w' a f t z ep en ec eff v k ys:=⟨h.own.below hb,h.r.drop hb,h.b2.below hb,h.eoff,fun y hy=>⟨LR.lies_below hb y (h.ys y hy).1,(h.ys y hy).2.1,(h.ys y hy).2.2.mono (Nat.le_refl _) hb.size⟩⟩
theorem UL.add(h:UL N B w wx a f t z ep en ec eff v k ys){y:PT}(hl:LR.lies wx y)(ho:Sw v.ownBlock y)(hs:Dt N (B+3) wx.heap.size y){p3:Option Addr}{c3:Nat}(aX:AJ LR.encT 4 w3 (B+3) 28 (.slice p3 (k+1) c3) (k+1) (ys++[y]))(bM:wx.grownBy w3 v.ownBlock)(gO:∀b,b<wx.heap.size→(Value.slice p3 (k+1) c3).ownBlock=some b→v.ownBlock=some b)(hN:N≤B):UL N B w (w3.setCell ⟨B+1+1,3,none⟩ (.slice p3 (k+1) c3)) a f t z ep en ec eff (.slice p3 (k+1) c3) (k+1) (ys++[y]):=by
 have bn:w3.grownBy (w3.setCell ⟨B+1+1,3,none⟩ (.slice p3 (k+1) c3)) (some (B+1+1)):=AL _ _ _ _;have ev:∀b,v.ownBlock=some b→B+3≤b:=fun b hb=>AJ.from h.own b hb;have kz:∀b,(Value.slice p3 (k+1) c3).ownBlock=some b→B+3≤b:=fun b hb=>AJ.from aX b hb
 have bR:∀y'∈ys++[y],LR.lies wx y'∧Sw v.ownBlock y'∧Dt N (B+3) wx.heap.size y':=fun y' eh=>by
  rcases List.mem_append.1 eh with eh|eh
  ·exact h.ys y' eh
  ·rw [List.mem_singleton] at eh;subst eh;exact⟨hl,ho,hs⟩
 refine⟨aX.other bn (fun b hb e=>by have:=kz b hb;cases e;omega),(h.r.grown bM (fun b hb=>by have:=ev b hb;omega) h.eoff).grown bn (fun b hb=>by cases hb;omega) (fun he ad hp e=>?_),JU (h.b2.grown bM (fun e=>by have:=ev _ e;omega)) _,fun he ad hp e=>?_,fun y' eh=>?_⟩
 ·have:=h.r.span he ad hp;injection e with e;omega
 ·exact h.eoff he ad hp (gO _ (h.r.span he ad hp).2 e)
 ·obtain⟨h1,h2,h3⟩:=bR y' eh;have aU:=Nat.le_trans bM.size bn.size;have hB:=h.r.size;refine⟨IQ bn y' (Dt.off h3 (by omega) (by omega)) (IQ bM y' h2 h1),fun a' ha=>⟨fun ad hp e=>?_,fun he ad hp e=>?_⟩,h3.mono (Nat.le_refl _) aU⟩
  ·exact(h2 a' ha).1 ad hp (gO _ ((h3 a' ha).1 ad hp).2 e)
  ·exact(h2 a' ha).2 he ad hp (gO _ ((h3 a' ha).2 he ad hp).2 e)
theorem Q4{l:List PT}{W:World}{p:Option Addr}{c:Nat}(hI:UL N w.heap.size w wx a f t z ep en ec eff (.slice p k c) k ys)(hN:N≤w.heap.size)(hk:k=l.length)(ha:RH.Own w a)(ht:∀z∈t,WC z)(hm:k≤1000)(ky:ys.map PT.er=(l.take k).map (fun x=>Bz f t (PT.er x)))(hg:wx.grownBy W (some (w.heap.size+1))):Oi N f t (.node a l) w (.returned (Ci ⟨a.kind,z,ep,en,ec,eff,p,k,c⟩)) W:=by
 obtain⟨q,c',hq,aD⟩:=hI.own.isRow Hi (by omega);cases hq;have jE:∀ad,p=some ad→w.heap.size+3≤ad.block∧ad.block<wx.heap.size:=fun ad hp=>by subst hp;exact World.ownsRow.lt hI.own ad.block rfl
 have hB:=hI.r.size;have qb:=hI.r.is;obtain⟨hz,bY⟩:=XB (f:=f) (a:=a.plain) ⟨ha.r0,ha.r1⟩ ha.ok ht;rw [←qb] at hz bY;refine⟨⟨.node ⟨a.kind,z,ep,en,ec,eff,p,k,c⟩ ys,rfl,?_,Dt.node (fun ad hp=>by have:=jE ad hp;have:=hg.size;omega) (fun he ad hp=>by have:=hI.r.span he ad hp;have:=hg.size;omega) (fun y hy=>(hI.ys y hy).2.2.mono (by omega) hg.size),?_⟩,?_⟩
 ·refine BK.lies ⟨⟨BY hg (fun he ad hp e=>by have:=hI.r.span he ad hp;injection e with e;omega) hI.r.row,bY,ha.k0,ha.k1,hz.1,hz.2,by show k≤_;omega,aD.le,aD.nil⟩,BY hg (fun _ ad hp e=>by have:=jE ad hp;injection e with e;omega) aD,fun y hy=>?_⟩;exact IQ hg y (Dt.off (hI.ys y hy).2.2 (by omega) (by omega)) (hI.ys y hy).1
 ·rw [PT.er_node,Vg,ky,AP (by omega)];show AG.node (⟨a.kind,z,eff⟩:LH) _=_;rw [qb]
 ·exact hI.r.below.grown hg (by omega) (fun j hj=>by injection hj with hj;omega)
end
abbrev Fw(a:RH):Obj:=.cells #[.int .u8 a.kind,.int .i64 a.rho,.slice a.ep a.en a.ec,.slice a.kp a.kn a.kc] 28
abbrev Kh:Obj:=.cells #[.int .u8 0,.int .i64 0,.slice none 0 0,.slice none 0 0] 28
abbrev IB(w:World)(a:RH):World:=((w.alloc (Fw a)).alloc Kh).alloc (Fw a)
theorem Jy(w:World)(a:RH):Below w.heap.size w (IB w a):=(((Below.refl w.heap.size w).alloc (Nat.le_refl _) _).alloc (by simp) _).alloc (by simp;omega) _
theorem P9(w:World)(a:RH):Dk (IB w a) w.heap.size (.int .u8 a.kind) (.int .i64 a.rho) (.slice a.ep a.en a.ec) (.slice a.kp a.kn a.kc):=by refine Dk.below (w:=w.alloc (Fw a)) ?_ (bA.alloc (by simp) _);exact Gb w _ _ _ _
theorem QA(w:World)(a:RH):Dk (IB w a) (w.heap.size+1) (.int .u8 0) (.int .i64 0) (.slice none 0 0) (.slice none 0 0):=by refine Dk.below (w:=(w.alloc (Fw a)).alloc Kh) ?_ bA;have:=Gb (w.alloc (Fw a)) (.int .u8 0) (.int .i64 0) (.slice none 0 0) (.slice none 0 0);simpa using this
theorem QB(w:World)(a:RH):Dk (IB w a) (w.heap.size+1+1) (.int .u8 a.kind) (.int .i64 a.rho) (.slice a.ep a.en a.ec) (.slice a.kp a.kn a.kc):=by have:=Gb ((w.alloc (Fw a)).alloc Kh) (.int .u8 a.kind) (.int .i64 a.rho) (.slice a.ep a.en a.ec) (.slice a.kp a.kn a.kc);simpa using this
def Hy(N:Nat)(p1:Option Addr)(n1 c1:Nat)(f:List Int)(p2:Option Addr)(n2 c2:Nat)(t:List Int)(x:PT)(W:World):Prop:=Calls prog 39 #[Ci x.head,.slice p1 n1 c1,.slice p2 n2 c2] W (Oi N f t x W)
theorem N0{N:Nat}{a:RH}{l:List PT}{w:World}{p1:Option Addr}{n1 c1:Nat}{f:List Int}{p2:Option Addr}{n2 c2:Nat}{t:List Int}(hN:BK w a l)(mF:N≤w.heap.size)(he:a.eff≠[]→∀ad,a.ep=some ad→ad.block<N)(lW:a.en≤1000)(h2:Vs w p1 n1 c1 f p2 n2 c2 t)(hl:a.kn≤1000)(hf:∀x∈l,∀W,Below w.heap.size w W→Hy N p1 n1 c1 f p2 n2 c2 t x W):Hy N p1 n1 c1 f p2 n2 c2 t (.node a l) w:=by
 have HN:=AA hN;have HF:=AA hf;have H2:=AA h2;have HE:=AA he;have bL:=AA mF;have dr:=hN.own.kmax;have hX:=h2.m1;have jC:=h2.m2;have aJ:=AA (Jy w a);have lQ:=AA (P9 w a);have kY:=AA (QA w a);have ah:=AA (QB w a);show Calls _ _ #[Ci a,.slice p1 n1 c1,.slice p2 n2 c2] w _;clear hN hf h2 he mF;go_enter func39,ntmps39;go_upto_if 14 with fail;go_cut [] from 8 to 37 (fun wx=>∃(z:Int) (ep:Option Addr) (en ec:Nat) (eff:List AD),S3 N w.heap.size w wx a f t z ep en ec eff∧Dk wx (w.heap.size+1+1) (.int .u8 a.kind) (.int .i64 z) (.slice ep en ec) (.slice a.kp a.kn a.kc))
 case first=>
  by_cases cQ:a.kind=1
  ·have kM:=AA cQ;have b1:(a.kind != 1)=false:=by simpa using cQ
   clear cQ;go_wp2_with fail;go_meet
   case rel=>exact⟨a.rho,a.ep,a.en,a.ec,a.eff,⟨lQ.o,kY.o,by simp,aJ.o,HN.o.own.eff.below aJ.o,fun he ad hp=>⟨.inl (HE.o he ad hp),by have:=HE.o he ad hp;have:=bL.o;simp;omega⟩,by unfold Q3;rw [if_pos (show a.plain.kind=1 from kM.o)];rfl⟩,ah.o⟩
  ·have kM:=AA cQ;have b1:(a.kind != 1)=true:=by simpa using cQ
   have aq:=AA (HN.o.own.eff.below aJ.o);have jF:=AA (H2.o.below aJ.o);clear cQ;go_wp2_with fail;refine(Lj a.ep a.en a.ec a.eff p1 n1 c1 f p2 n2 c2 t (IB w a) aq.o.len (by omega) aq.o.row jF.o.rf.len hX jF.o.rf.row jF.o.rt.len jC jF.o.rt.row).mono ?_;rintro e w2 ⟨v,m,rfl,hm,aB,hb⟩;obtain⟨q,qc,rfl,aD⟩:=aB.isRow AF (by omega);have jS:Below w.heap.size w w2:=aJ.o.trans (hb.mono aJ.o.size);have aR:=AA (ah.o.below hb);have ds:=aR.o.lt;have bn:=AL w2 (w.heap.size+1+1) 2 (.slice q m qc);have jE:∀ad,q=some ad→w.heap.size+3≤ad.block∧ad.block<w2.heap.size:=fun ad hp=>by subst hp;have:=World.ownsRow.lt aB ad.block rfl;simpa using this
   have cN:Hd (S3 N w.heap.size w (w2.setCell ⟨w.heap.size+1+1,2,none⟩ (.slice q m qc)) a f t (BS a.rho f t) q m qc (Kb f t a.eff)):=S3.grown
    ⟨lQ.o.below hb,kY.o.below hb,by omega,jS,aD,fun _ ad hp=>by have:=jE ad hp;omega,by unfold Q3;rw [if_neg (show ¬a.plain.kind=1 from kM.o)];rfl⟩ bn (fun b hb=>by cases hb;omega) (fun _ ad hp e=>by have:=jE ad hp;injection e with e;omega)
   have dK:=AA (P7 aR.o (.slice q m qc));obtain⟨x0,x1,x2,x3,x4,x5,x6,x7⟩:=aR.o.cells;obtain⟨y0,y1,y2,y3,y4,y5,y6,y7⟩:=(lQ.o.below hb).cells;clear hb aB aD jS bn jE;go_wp2_with fail;clear x0 x1 x2 x3 x4 x5 x6 x7 y0 y1 y2 y3 y4 y5 y6 y7;generalize w2.setCell ⟨w.heap.size+1+1,2,none⟩ (.slice q m qc)=W3 at *
   have iv:=AA (H2.o.below cN.o.below);obtain⟨x0,x1,x2,x3,x4,x5,x6,x7⟩:=dK.o.cells;obtain⟨y0,y1,y2,y3,y4,y5,y6,y7⟩:=cN.o.b0.cells;have pK:=dK.o.lt;rcases J9 a.rho f t with⟨hi,ht⟩|⟨j,hj,hi,ht⟩
   ·have HI:=AA hi;have HT:=AA ht;clear hi ht;refine(Di a.rho p1 n1 c1 f _ (-1) HI.o iv.o.rf.len (by omega) iv.o.rf.row).mono ?_;rintro e w3 ⟨rfl,rfl⟩;go_wp2_with fail;go_meet
    case rel=>exact⟨_,_,_,_,_,cN.o,by rw [HT.o];exact dK.o⟩
   ·have HI:=AA hi;have HT:=AA ht;clear hi ht;have qd:j<n1:=by have:=iv.o.rf.len;omega
    by_cases me:j<n2
    ·obtain⟨z,hz⟩:=AM (l:=t) (j:=j) (by rw [iv.o.rt.len];exact me);have mB:Hd (BS a.rho f t=z):=by show BS a.rho f t=z;rw [HT.o,hz];rfl
     obtain⟨b',o',rfl,e0⟩:=iv.o.rt.row.num hz;clear hz;refine(Di a.rho p1 n1 c1 f _ (j:Int) HI.o iv.o.rf.len (by omega) iv.o.rf.row).mono ?_;rintro e w3 ⟨rfl,rfl⟩;go_wp2_with fail;go_meet
     case rel=>exact⟨z,_,_,_,_,by have:=cN.o;rw [mB.o] at this;exact this.grown (AL _ _ _ _) (fun b hb=>by cases hb;omega) (fun he ad hp e=>by have h:=cN.o.span he ad hp;have:=bL.o;injection e with e;omega),UT dK.o _⟩
    ·have r9:Hd (BS a.rho f t=a.rho):=by show BS a.rho f t=a.rho;rw [HT.o,List.getElem?_eq_none (by rw [iv.o.rt.len];omega)];rfl
     refine(Di a.rho p1 n1 c1 f _ (j:Int) HI.o iv.o.rf.len (by omega) iv.o.rf.row).mono ?_;rintro e w3 ⟨rfl,rfl⟩;go_wp2_with fail;go_meet
     case rel=>exact⟨_,_,_,_,_,cN.o,by rw [r9.o];exact dK.o⟩
 case rest=>
  obtain⟨z,ep,en,ec,eff,hr,bQ⟩:=hcut;have HR:=AA hr;have aK:=AA bQ;clear hr bQ;obtain⟨x0,x1,x2,x3,x4,x5,x6,x7⟩:=aK.o.cells;obtain⟨y0,y1,y2,y3,y4,y5,y6,y7⟩:=HR.o.b0.cells;have ds:=aK.o.lt;go_wp2_with fail;have nY:Hd (UL N w.heap.size w (wc.setCell ⟨w.heap.size+1+1,3,none⟩ (.slice none 0 0)) a f t z ep en ec eff (.slice none 0 0) 0 []):=⟨AJ.nil _ _ _ _ _,HR.o.grown (AL _ _ _ _) (fun b hb=>by cases hb;omega) (fun he ad hp e=>by have h:=HR.o.span he ad hp;have:=bL.o;injection e with e;omega),JU aK.o _,(fun _ _ _ e=>by cases e),(fun y hy=>by cases hy)⟩;clear x0 x1 x2 x3 x4 x5 x6 x7 y0 y1 y2 y3 y4 y5 y6 y7 ds;generalize wc.setCell ⟨w.heap.size+1+1,3,none⟩ (.slice none 0 0)=W1 at *
  go_loopw [10,42] (fun _ i wr=>∃(k:Nat) (v:Value) (ys:List PT),k≤a.kn∧i=.int .i64 k∧UL N w.heap.size w wr a f t z ep en ec eff v k ys∧ys.map PT.er=(l.take k).map (fun x=>Bz f t (PT.er x))) (fun _ i _=>a.kn-(intOf i).toNat)
  case atStart=>exact⟨0,_,[],by omega,rfl,nY.o,by simp⟩
  case round=>
   obtain⟨k,v,ys,hk,rfl,nD,ky⟩:=hrel;have cN:=AA nD;have ll:=AA ky;clear nD ky;have HB:=AA cN.o.r.below;by_cases aF:k<a.kn
   ·obtain⟨x,hx⟩:=HN.o.rowT.at (j:=k) aF;have lL:=AA hx;obtain⟨g,o,bF,aP,d0,d1,d2,d3⟩:=(HN.o.rowT.below HB.o).kid hx;have qE:Below wr.heap.size wr (wr.alloc (.cells #[.int .u8 x.head.kind,.int .i64 x.head.rho,.slice x.head.ep x.head.en x.head.ec,.slice x.head.kp x.head.kn x.head.kc] 28)):=(Below.refl _ wr).alloc (Nat.le_refl _) _;have fF:=AA (cN.o.drop qE);have oK:Hd (∀W,Below (wr.heap.size+1) (wr.alloc (.cells #[.int .u8 x.head.kind,.int .i64 x.head.rho,.slice x.head.ep x.head.en x.head.ec,.slice x.head.kp x.head.kn x.head.kc] 28)) W→Hy N p1 n1 c1 f p2 n2 c2 t x W):=fun W h=>HF.o x (List.mem_of_getElem? hx) W (fF.o.r.below.trans (h.mono (by have:=HB.o.size;omega)));have tq:(wr.alloc (.cells #[.int .u8 x.head.kind,.int .i64 x.head.rho,.slice x.head.ep x.head.en x.head.ec,.slice x.head.kp x.head.kn x.head.kc] 28)).heap.size=wr.heap.size+1:=by simp
    obtain⟨e0,e1,e2,e3⟩:=RX (w:=wr) (t:=x) (Below.refl _ _);rw [bF];clear hx;go_wp2_with fail;clear d0 d1 d2 d3 bF qE;obtain⟨x0,x1,x2,x3,x4,x5,x6,x7⟩:=fF.o.b2.cells;generalize wr.alloc (.cells #[.int .u8 x.head.kind,.int .i64 x.head.rho,.slice x.head.ep x.head.en x.head.ec,.slice x.head.kp x.head.kn x.head.kc] 28)=W0 at *
    have l0:Hd (∀g,g<w.heap.size+3→v.ownBlock≠some g):=fun g hg h=>by have:=AJ.from fF.o.own g h;omega
    go_region_law (first
     |(
      refine BC (by rfl) _ _ 26 (by rfl) (w.heap.size+3) 28 _ 4 64 underlying26 WX rfl (by decide) LR.encT Hi WS [y] ys k v (A5 dV.o.own _) _ 1 _ (by rfl) (by rfl) rfl (by intro h;cases h) gG.o.row (by omega) (by omega) (by simp;have:=dV.o.r.size;omega) ?_;intro v3 w3 aX bM gO;obtain⟨p3,c3,rfl,bP⟩:=AJ.isRow Hi (by omega) aX;obtain⟨x0,x1,x2,x3,x4,x5,x6,x7⟩:=((dV.o.b2.below ((Below.refl _ w2).alloc (Nat.le_refl _) _)).grown bM (l0.o _ (by omega))).cells)
     |(
      go_simp;go_at_call 39;refine(oK.o _ (by first|exact⟨rfl,rfl,rfl,Nat.le_refl _,fun _ _=>rfl⟩)).mono ?_;rintro e w2 ⟨⟨y,rfl,gj,iC,gN⟩,bQ⟩;have iT:Below W0.heap.size W0 w2:=AK (AC W0) bQ;have dV:=AA (fF.o.drop iT);have gG:=AA (Al Hi (by omega) w2 28 [y] 1 #[.int .u8 y.head.kind,.int .i64 y.head.rho,.slice y.head.ep y.head.en y.head.ec,.slice y.head.kp y.head.kn y.head.kc] rfl rfl (by decide));have ds:w.heap.size+1+1<w2.heap.size:=dV.o.b2.lt;obtain⟨x0,x1,x2,x3,x4,x5,x6,x7⟩:=dV.o.b2.cells;go_wp2_with fail))
    all_goals (
     have hA:=(Below.refl _ w2).alloc (Nat.le_refl _) (.cells #[.int .u8 y.head.kind,.int .i64 y.head.rho,.slice y.head.ep y.head.en y.head.ec,.slice y.head.kp y.head.kn y.head.kc] 28)
     have cj:=AA ((dV.o.drop hA).add (LR.lies_below hA y gj) (fun a ha=>⟨fun ad hp e=>by have h1:=((iC a ha).1 ad hp).1;have h5:=AJ.under cN.o.own _ e;simp at h1;omega,fun he ad hp e=>by
      have h1:=((iC a ha).2 he ad hp).1;have h5:=AJ.under cN.o.own _ e;have h6:=AJ.from cN.o.own _ e;have:=bL.o;simp at h1;omega⟩) (iC.mono (by have:=cN.o.r.size;simp;omega) (by simp)) aX bM gO bL.o)
     have kJ:Hd ((ys++[y]).map PT.er=(l.take (k+1)).map (fun x=>Bz f t (PT.er x))):=by show _=_;rw [AI lL.o,List.map_append,List.map_append,ll.o];simp [gN]
     clear hA aX bM gO bQ iT gj iC gN bP x0 x1 x2 x3 x4 x5 x6 x7)
    all_goals (
     go_wp2_with fail;go_roundw
     case rel=>exact⟨k+1,_,ys++[y],by omega,by go_num,cj.o,kJ.o⟩
     case measure=>simp [intOf];omega)
   ·obtain⟨p',c',rfl,aD⟩:=cN.o.own.isRow Hi (by omega);have ao:k=a.kn:=by omega
    have HS:=AA (P6 cN.o.r.b1 (.int .u8 a.kind) (.int .i64 z) (.slice ep en ec) (.slice p' k c'));have kI:=AA (Q4 (l:=l) cN.o bL.o (by rw [ao];exact HN.o.kids.len.symm) HN.o.own H2.o.ok (by omega) ll.o HS.o.2);obtain⟨x0,x1,x2,x3,x4,x5,x6,x7⟩:=cN.o.b2.cells;obtain⟨y0,y1,y2,y3,y4,y5,y6,y7⟩:=cN.o.r.b1.cells;clear aD ao;go_wp2_with fail;(try simp only [Exit.inBlock,Exit.then]);refine br HS.o.1.blk underlying28 ?_;exact kI.o
theorem Jm{w0:World}{p1:Option Addr}{n1 c1:Nat}{f:List Int}{p2:Option Addr}{n2 c2:Nat}{t:List Int}(h2:Vs w0 p1 n1 c1 f p2 n2 c2 t)(x:PT):LR.lies w0 x→BG x.er=true→x.size≤1000→∀W,Below w0.heap.size w0 W→Hy w0.heap.size p1 n1 c1 f p2 n2 c2 t x W:=by
 refine AG.ind (P:=fun(x:PT)=>LR.lies w0 x→BG x.er=true→x.size≤1000→∀W,Below w0.heap.size w0 W→Hy w0.heap.size p1 n1 c1 f p2 n2 c2 t x W) (fun a l ih=>?_) x;intro hl he hs W hW;have HN:=BD hl;rw [PT.er_node,Bi,Bool.and_eq_true,List.all_map,List.all_eq_true] at he;have aU:C4 l+1=(AG.node a l).size:=GG (.node a l);have aG:=Dg (show BU a.eff=false by simpa [RH.plain] using he.1);refine N0 (HN.below hW) hW.size (fun aS ad hp=>?_) (by have:=HN.own.eff.len;omega) (h2.below hW) ?_ (fun x hx W' mJ=>ih x hx (HN.each x hx) (he.2 x hx) ?_ W' (hW.trans (mJ.mono hW.size)))
 ·rcases HN.own.eff.row with h|⟨b,o,lE,hb,_⟩
  ·exact absurd h aS
  ·rw [lE] at hp;cases hp;exact hb
 ·have h1:=Sd l;have h2:=HN.kids.len;omega
 ·have h2:x.size≤C4 l:=BN (List.mem_map_of_mem hx);omega
end
def O4(z:Int):Prop:=-9223372036854775808≤z∧z≤9223372036854775807
structure GT where
 kind:Int
 op:Int
 at_:Int
 n:Int
 name:ByteArray
 arg:ByteArray
 exn:ByteArray
 rho:Int
 rhos:List Int
 eff:List AD
 ty:RT
 res:RT
structure AH where
 kind:Int
 op:Int
 at_:Int
 n:Int
 name:ByteArray
 arg:ByteArray
 exn:ByteArray
 rho:Int
 rp:Option Addr
 rn:Nat
 rc:Nat
 rhos:List Int
 ep:Option Addr
 en:Nat
 ec:Nat
 eff:List AD
 ty:PT
 res:PT
 kp:Option Addr
 kn:Nat
 kc:Nat
abbrev PA:=AG AH
abbrev AT:=AG GT
def AH.plain(a:AH):GT:=⟨a.kind,a.op,a.at_,a.n,a.name,a.arg,a.exn,a.rho,a.rhos,a.eff,a.ty.er,a.res.er⟩
def PA.er(t:PA):AT:=AG.map AH.plain t
theorem PA.er_node(a:AH)(l:List PA):PA.er (.node a l)=.node a.plain (l.map PA.er):=AG.map_node _ a l
def Bn(a:AH):List Value:=[.int .u8 a.kind,.int .u8 a.op,.int .i64 a.at_,.int .i64 a.n,.string a.name,.string a.arg,.string a.exn,.int .i64 a.rho,.slice a.rp a.rn a.rc,.slice a.ep a.en a.ec,
 .int .u8 a.ty.head.kind,.int .i64 a.ty.head.rho,.slice a.ty.head.ep a.ty.head.en a.ty.head.ec,.slice a.ty.head.kp a.ty.head.kn a.ty.head.kc,
 .int .u8 a.res.head.kind,.int .i64 a.res.head.rho,.slice a.res.head.ep a.res.head.en a.res.head.ec,.slice a.res.head.kp a.res.head.kn a.res.head.kc,.slice a.kp a.kn a.kc]
structure AH.Own(w:World)(a:AH):Prop where
 k0:0≤a.kind
 k1:a.kind≤255
 o0:0≤a.op
 o1:a.op≤255
 at_:O4 a.at_
 n:O4 a.n
 name:a.name.size≤9223372036854775807
 arg:a.arg.size≤9223372036854775807
 exn:a.exn.size≤9223372036854775807
 rho:O4 a.rho
 rhos:AE Ab 1 w a.rp a.rn a.rc a.rhos
 rok:∀z∈a.rhos,O4 z
 eff:AE AS 3 w a.ep a.en a.ec a.eff
 eok:∀x∈a.eff,Cq x
 ty:LR.lies w a.ty
 res:LR.lies w a.res
 kmax:a.kn≤9223372036854775807
 kle:a.kn≤a.kc
 knil:a.kp=none→a.kc=0
def LA:Hw AH where
 enc:=Bn
 k:=19
 own:=AH.Own
 kp:=AH.kp
 kn:=AH.kn
 len:=fun _=>rfl
 below:=fun h hb=>⟨h.k0,h.k1,h.o0,h.o1,h.at_,h.n,h.name,h.arg,h.exn,h.rho,h.rhos.below hb,h.rok,h.eff.below hb,h.eok,LR.lies_below hb _ h.ty,LR.lies_below hb _ h.res,h.kmax,h.kle,h.knil⟩
theorem SS:∀t:PA,(LA.encT t).length=19:=fun _=>rfl
abbrev Aj(a:AH):Value:=.agg #[.int .u8 a.kind,.int .u8 a.op,.int .i64 a.at_,.int .i64 a.n,.string a.name,.string a.arg,.string a.exn,.int .i64 a.rho,.slice a.rp a.rn a.rc,.slice a.ep a.en a.ec,
 .int .u8 a.ty.head.kind,.int .i64 a.ty.head.rho,.slice a.ty.head.ep a.ty.head.en a.ty.head.ec,.slice a.ty.head.kp a.ty.head.kn a.ty.head.kc,
 .int .u8 a.res.head.kind,.int .i64 a.res.head.rho,.slice a.res.head.ep a.res.head.en a.res.head.ec,.slice a.res.head.kp a.res.head.kn a.res.head.kc,.slice a.kp a.kn a.kc]
abbrev AO(a:AH):Obj:=.cells #[.int .u8 a.kind,.int .u8 a.op,.int .i64 a.at_,.int .i64 a.n,.string a.name,.string a.arg,.string a.exn,.int .i64 a.rho,.slice a.rp a.rn a.rc,.slice a.ep a.en a.ec,
 .int .u8 a.ty.head.kind,.int .i64 a.ty.head.rho,.slice a.ty.head.ep a.ty.head.en a.ty.head.ec,.slice a.ty.head.kp a.ty.head.kn a.ty.head.kc,
 .int .u8 a.res.head.kind,.int .i64 a.res.head.rho,.slice a.res.head.ep a.res.head.en a.res.head.ec,.slice a.res.head.kp a.res.head.kn a.res.head.kc,.slice a.kp a.kn a.kc] 31
structure Ht(w:World)(b o:Nat)(a:AH):Prop where
 c:∀i u,(Bn a)[i]?=some u→w.cell? ⟨b,o+i,none⟩=some u
theorem Ht.below{w w':World}{b o:Nat}{a:AH}(h:Ht w b o a)(hb:Below w.heap.size w w')(aF:b<w.heap.size):Ht w' b o a:=⟨fun i u hu=>by rw [hb.cell aF];exact h.c i u hu⟩
structure Fr(w:World)(a:AH)(l:List PA):Prop where
 own:AH.Own w a
 kids:AE LA.encT 19 w a.kp a.kn a.kc l
 each:∀t∈l,LA.lies w t
theorem DP{w:World}{a:AH}{l:List PA}(h:LA.lies w (.node a l)):Fr w a l:=by rw [Hw.lies_node] at h;exact⟨h.1,⟨h.2.1,h.1.kmax,h.1.kle,h.1.knil,h.2.2.1⟩,h.2.2.2⟩
theorem Fr.lies{w:World}{a:AH}{l:List PA}(h:Fr w a l):LA.lies w (.node a l):=by rw [Hw.lies_node];exact⟨h.own,h.kids.len,h.kids.row,h.each⟩
theorem Fr.below{w w':World}{a:AH}{l:List PA}(h:Fr w a l)(hb:Below w.heap.size w w'):Fr w' a l:=DP (LA.lies_below hb _ h.lies)
theorem Fr.alloc{w:World}{a:AH}{l:List PA}(h:Fr w a l)(o:Obj):Fr (w.alloc o) a l:=h.below bA
structure Ds(w:World)(p:Option Addr)(n cap:Nat)(l:List PA):Prop where
 row:AE LA.encT 19 w p n cap l
 each:∀t∈l,LA.lies w t
theorem Fr.rowT{w:World}{a:AH}{l:List PA}(h:Fr w a l):Ds w a.kp a.kn a.kc l:=⟨h.kids,h.each⟩
theorem Ds.below{w w':World}{p:Option Addr}{n cap:Nat}{l:List PA}(h:Ds w p n cap l)(hb:Below w.heap.size w w'):Ds w' p n cap l:=⟨h.row.below hb,fun t ht=>LA.lies_below hb t (h.each t ht)⟩
theorem Ds.kid{w:World}{p:Option Addr}{n cap:Nat}{l:List PA}(h:Ds w p n cap l){j:Nat}{t:PA}(hx:l[j]?=some t):∃b o,p=some ⟨b,o,none⟩∧b<w.heap.size∧Ht w b (o+j * 19) t.head:=by obtain⟨b,o,hp,hb,hc⟩:=h.row.row.elem hx;exact⟨b,o,hp,hb,⟨fun i u hu=>hc i u hu⟩⟩
theorem Ds.at{w:World}{p:Option Addr}{n cap:Nat}{l:List PA}(h:Ds w p n cap l){j:Nat}(hj:j<n):∃t,l[j]?=some t:=AM (by rw [h.row.len];exact hj)
theorem Ds.lies{w:World}{p:Option Addr}{n cap:Nat}{l:List PA}(h:Ds w p n cap l){j:Nat}{t:PA}(hx:l[j]?=some t):LA.lies w t:=h.each t (List.mem_of_getElem? hx)
end Go.Proofs.YtkdjnegfnhldpaaGreatDoor
