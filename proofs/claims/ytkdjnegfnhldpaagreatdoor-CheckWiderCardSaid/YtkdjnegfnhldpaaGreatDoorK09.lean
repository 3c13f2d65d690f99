/- Part 09. -/
import Derived.Deep.CutRange
import Derived.Test.YtkdjnegfnhldpaaGreatDoorK08
set_option linter.unusedVariables false
set_option maxRecDepth 100000
set_option linter.unusedSimpArgs false
set_option maxHeartbeats 40000000
namespace Go.Proofs.YtkdjnegfnhldpaaGreatDoor
open Go.Proofs.Tryz Go.RowKit
section
open Go.Sort Go.Lib
theorem Jm(p:Option Addr)(n cap:Nat)(l:List AB)(p1:Option Addr)(n1 c1:Nat)(f:List Int)(p2:Option Addr)(n2 c2:Nat)(t:List Int)(w:World)(hn:l.length=n)(hm:n≤1000000)(hr:Cm w p l)(jw:f.length=n1)(iN:n1≤1000000)(eN:At Am 1 w p1 f)(iP:t.length=n2)(il:n2≤1000000)(dL:At Am 1 w p2 t):Calls prog 66 #[.slice p n cap,.slice p1 n1 c1,.slice p2 n2 c2] w fun e w'=>∃v m,e=.returned v∧m≤n∧AI AP 3 w' w.heap.size 59 v m (Ig f t l)∧Below w.heap.size w w':=by
 have HR:=AA hr;have HN:=AA hn;have fq:=AA eN;have eJ:=AA jw;have bK:=AA dL;have jE:=AA iP;clear hr hn eN jw dL iP;go_enter func66,ntmps66;go_wp2_with fail;refine(BW p n cap l _ HN.o hm HR.o).mono ?_;rintro e w1 ⟨v,m,rfl,eY,aD,hb⟩;obtain⟨q,mc,rfl,jR,js,aB,_⟩:=aD.row AC (by omega);have aa:=AA aB;have gz:=AA jR;have aO:=AA hb;generalize hS:Cv (l.filter AM)=S at aa gz;have HS:=AA hS;clear aD hb aB jR hS;go_wp2_with fail;go_loopw [7,10,14] (fun u _ i wr=>∃k:Nat,k≤m∧i=.int .i64 k∧AI AP 3 wr w1.heap.size 59 u k ((S.take k).map (Fw f t))∧Below w1.heap.size w1 wr) (fun _ _ i _=>m-(intOf i).toNat)
 case atStart=>exact⟨0,by omega,rfl,AI.nil _ _ _ _ _,Below.refl _ _⟩
 case round=>
  obtain⟨k,hk,rfl,aD,hb⟩:=hrel;have aS:=AA aD;have HB:=AA hb;clear aD hb;by_cases aG:k<m
  ·obtain⟨x,hx⟩:=Ac (l:=S) (j:=k) (by rw [gz.o];exact aG);have HE:=AA hx;obtain⟨b,o,rfl,al,d0,d1,d2⟩:=Cm.atom (aa.o.below HB.o) hx;clear hx al;obtain⟨kd,rr,ss⟩:=x;simp only at d0 d1 d2;have HW:=AA (aO.o.trans (HB.o.mono aO.o.size));by_cases fM:kd=3
   ·subst fM;have an:=AA (aS.o.below ((Below.refl _ wr).alloc (Nat.le_refl _) (.cells #[.int .u8 3,.int .i64 rr,.string ss] 59)));have aI:Hd (Below w1.heap.size w1 (wr.alloc (.cells #[.int .u8 3,.int .i64 rr,.string ss] 59))):=HB.o.alloc HB.o.size _;go_wp2_with fail;refine(Cr rr p1 n1 c1 f _ _ rfl eJ.o (by omega) ((fq.o.below HW.o).alloc _)).mono ?_;rintro e w2 ⟨rfl,rfl⟩;generalize Lib.idxOf f rr=c;go_wp2_with (at_builtin;refine Ae rfl _ _ 25 rfl w1.heap.size 59 _ 3 32 underlying25 BK rfl (by decide) AP AC AZ (⟨3,rr,ss⟩:AB) _ _ _ an.o rfl (by refine Eq.trans (b:=Value.slice (some ⟨wr.heap.size+1,0,none⟩) 1 1) rfl ?_;simp) ?c1 ?c2 ?c3 ?_)
    case c1=>omega
    case c2=>omega
    case c3=>exact aI.o.size
    ·intro v' w4 aH hg;have HO:=AA aH;have bQ:=AA (Below.own aI.o hg aI.o.size an.o);clear aH hg;go_wp2_with fail;go_roundw
     case rel=>exact⟨k+1,by omega,by go_num,by
      have e1:(S.take (k+1)).map (Fw f t)=(S.take k).map (Fw f t)++[(⟨3,rr,ss⟩:AB)]:=by rw [AJ HE.o,List.map_append];simp only [List.map_cons,List.map_nil];rw [FP (.inl rfl)]
      rw [e1,List.map_take];exact HO.o,bQ.o⟩
     case measure=>simp [intOf];omega
   ·have gJ:=AA fM;have pO:decide (kd=3)=false:=by simp [fM]
    rcases IQ rr f t with⟨hi,ht⟩|⟨j,hj,hi,ht⟩
    ·have HI:=AA hi;have HT:=AA ht;clear hi ht;have an:=AA (aS.o.below ((Below.refl _ wr).alloc (Nat.le_refl _) (.cells #[.int .u8 kd,.int .i64 rr,.string ss] 59)));have aI:Hd (Below w1.heap.size w1 (wr.alloc (.cells #[.int .u8 kd,.int .i64 rr,.string ss] 59))):=HB.o.alloc HB.o.size _;go_wp2_with fail;refine(Cr rr p1 n1 c1 f _ (-1) HI.o eJ.o (by omega) ((fq.o.below HW.o).alloc _)).mono ?_;rintro e w2 ⟨rfl,rfl⟩;go_wp2_with (at_builtin;refine Ae rfl _ _ 25 rfl w1.heap.size 59 _ 3 32 underlying25 BK rfl (by decide) AP AC AZ (⟨kd,rr,ss⟩:AB) _ _ _ an.o rfl (by refine Eq.trans (b:=Value.slice (some ⟨wr.heap.size+1,0,none⟩) 1 1) rfl ?_;simp) ?c1 ?c2 ?c3 ?_)
     case c1=>omega
     case c2=>omega
     case c3=>exact aI.o.size
     ·intro v' w4 aH hg;have HO:=AA aH;have bQ:=AA (Below.own aI.o hg aI.o.size an.o);clear aH hg;go_wp2_with fail;go_roundw
      case rel=>exact⟨k+1,by omega,by go_num,by
       have e1:(S.take (k+1)).map (Fw f t)=(S.take k).map (Fw f t)++[(⟨kd,rr,ss⟩:AB)]:=by rw [AJ HE.o,List.map_append];simp only [List.map_cons,List.map_nil];rw [FP (.inr HT.o)]
       rw [e1,List.map_take];exact HO.o,bQ.o⟩
      case measure=>simp [intOf];omega
    ·have HI:=AA hi;have HT:=AA ht;clear hi ht;have nI:j<n1:=by have:=eJ.o;omega
     by_cases jl:j<n2
     ·obtain⟨z,hz⟩:=Ac (l:=t) (j:=j) (by rw [jE.o];exact jl);have jK:Hd (CK rr f t=z):=by show CK rr f t=z;rw [HT.o,hz];rfl
      obtain⟨b',o',rfl,e0⟩:=(((bK.o.below HW.o).alloc (.cells #[.int .u8 kd,.int .i64 rr,.string ss] 59))).num hz;clear hz;have an:=AA (aS.o.below ((Below.refl _ wr).alloc (Nat.le_refl _) (.cells #[.int .u8 kd,.int .i64 z,.string ss] 59)));have aI:Hd (Below w1.heap.size w1 (wr.alloc (.cells #[.int .u8 kd,.int .i64 z,.string ss] 59))):=HB.o.alloc HB.o.size _;go_wp2_with fail;refine(Cr rr p1 n1 c1 f _ (j:Int) HI.o eJ.o (by omega) ((fq.o.below HW.o).alloc _)).mono ?_;rintro e w2 ⟨rfl,rfl⟩;go_wp2_with (at_builtin;refine Ae rfl _ _ 25 rfl w1.heap.size 59 _ 3 32 underlying25 BK rfl (by decide) AP AC AZ (⟨kd,z,ss⟩:AB) _ _ _ an.o rfl (by refine Eq.trans (b:=Value.slice (some ⟨wr.heap.size+1,0,none⟩) 1 1) rfl ?_;simp) ?c1 ?c2 ?c3 ?_)
      case c1=>omega
      case c2=>omega
      case c3=>exact aI.o.size
      ·intro v' w4 aH hg;have HO:=AA aH;have bQ:=AA (Below.own aI.o hg aI.o.size an.o);clear aH hg;go_wp2_with fail;go_roundw
       case rel=>exact⟨k+1,by omega,by go_num,by
        have e1:(S.take (k+1)).map (Fw f t)=(S.take k).map (Fw f t)++[(⟨kd,z,ss⟩:AB)]:=by rw [AJ HE.o,List.map_append];simp only [List.map_cons,List.map_nil];rw [Tp gJ.o jK.o]
        rw [e1,List.map_take];exact HO.o,bQ.o⟩
       case measure=>simp [intOf];omega
     ·have HZ:Hd (CK rr f t=rr):=by show CK rr f t=rr;rw [HT.o,List.getElem?_eq_none (by rw [jE.o];omega)];rfl
      have an:=AA (aS.o.below ((Below.refl _ wr).alloc (Nat.le_refl _) (.cells #[.int .u8 kd,.int .i64 rr,.string ss] 59)));have aI:Hd (Below w1.heap.size w1 (wr.alloc (.cells #[.int .u8 kd,.int .i64 rr,.string ss] 59))):=HB.o.alloc HB.o.size _;go_wp2_with fail;refine(Cr rr p1 n1 c1 f _ (j:Int) HI.o eJ.o (by omega) ((fq.o.below HW.o).alloc _)).mono ?_;rintro e w2 ⟨rfl,rfl⟩;go_wp2_with (at_builtin;refine Ae rfl _ _ 25 rfl w1.heap.size 59 _ 3 32 underlying25 BK rfl (by decide) AP AC AZ (⟨kd,rr,ss⟩:AB) _ _ _ an.o rfl (by refine Eq.trans (b:=Value.slice (some ⟨wr.heap.size+1,0,none⟩) 1 1) rfl ?_;simp) ?c1 ?c2 ?c3 ?_)
      case c1=>omega
      case c2=>omega
      case c3=>exact aI.o.size
      ·intro v' w4 aH hg;have HO:=AA aH;have bQ:=AA (Below.own aI.o hg aI.o.size an.o);clear aH hg;go_wp2_with fail;go_roundw
       case rel=>exact⟨k+1,by omega,by go_num,by
        have e1:(S.take (k+1)).map (Fw f t)=(S.take k).map (Fw f t)++[(⟨kd,rr,ss⟩:AB)]:=by rw [AJ HE.o,List.map_append];simp only [List.map_cons,List.map_nil];rw [FP (.inr HZ.o)]
        rw [e1,List.map_take];exact HO.o,bQ.o⟩
       case measure=>simp [intOf];omega
  ·obtain rfl:k=m:=by omega
   have aD:=aS.o;have HE:Hd (Cv ((S.map (Fw f t)).filter AM)=Ig f t l):=by show _=Ig f t l;unfold Ig;rw [HS.o]
   rw [AY (by rw [gz.o];exact Nat.le_refl _)] at aD;obtain⟨q',c',rfl,eo,fK,ah,_⟩:=aD.row AC (by omega);have lL:=AA eo;have dF:=AA ah;clear aD eo ah;go_wp2_with fail;refine(BW q' k c' (S.map (Fw f t)) wr lL.out (by omega) dF.out).mono ?_;rintro e w3 ⟨v,m',rfl,il,aD,hb⟩;rw [HE.o] at aD;have HO:=AA (aD.lower (aO.o.trans (HB.o.mono aO.o.size)).size);have aT:=AA ((aO.o.trans (HB.o.mono aO.o.size)).trans (hb.mono (aO.o.trans (HB.o.mono aO.o.size)).size));clear aD hb;go_wp2_with fail;go_ret;exact⟨_,_,rfl,by omega,HO.o,aT.o⟩
def NE(f t:List Int)(a:LH):LH:=if a.kind=1 then a else⟨a.kind,CK a.rho f t,Ig f t a.eff⟩
def BQ(f t:List Int):RT→RT:=AD.map (NE f t)
theorem Tq(f t:List Int)(a:RH)(l:List PT):BQ f t (PT.er (.node a l))=.node (NE f t a.plain) (l.map (fun x=>BQ f t (PT.er x))):=by rw [PT.er_node];unfold BQ;rw [AD.map_node,List.map_map];rfl
theorem Oo(r:Int)(f t:List Int):CK r f t=r∨CK r f t∈t:=by
 rcases IQ r f t with⟨_,h⟩|⟨k,_,_,h⟩
 ·exact .inl h
 ·cases hk:t[k]? with
  |none=>left;rw [h,hk];rfl
  |some z=>right;rw [h,hk];exact List.mem_of_getElem? hk
def TC(z:Int):Prop:=-9223372036854775808≤z∧z≤9223372036854775807
theorem Oq{r:Int}{f t:List Int}(hr:TC r)(ht:∀z∈t,TC z):TC (CK r f t):=by
 rcases Oo r f t with h|h
 ·rw [h];exact hr
 ·exact ht _ h
theorem VN{f t:List Int}{l:List AB}(hl:∀x∈l,DD x)(ht:∀z∈t,TC z):∀x∈Ig f t l,DD x:=by
 intro x hx;unfold Ig at hx;rw [By,List.mem_filter,List.mem_map] at hx;obtain⟨⟨y,hy,rfl⟩,_⟩:=hx;rw [By,List.mem_filter] at hy;have h:=hl y hy.1;unfold Fw;split
 ·exact h
 ·have:=Oq (f:=f) ⟨h.r0,h.r1⟩ ht;exact⟨h.k0,h.k1,this.1,this.2,h.s1⟩
theorem VM{f t:List Int}{a:LH}(hr:TC a.rho)(ha:∀x∈a.eff,DD x)(ht:∀z∈t,TC z):TC (NE f t a).rho∧∀x∈(NE f t a).eff,DD x:=by
 unfold NE;split
 ·exact⟨hr,ha⟩
 ·exact⟨Oq hr ht,VN ha ht⟩
def Bz(N B E:Nat)(t:PT):Prop:=∀a∈t.nodes,(∀ad,a.kp=some ad→B≤ad.block∧ad.block<E)∧(a.eff≠[]→∀ad,a.ep=some ad→(ad.block<N∨B≤ad.block)∧ad.block<E)
theorem Bz.mono{N B E B' E':Nat}{t:PT}(h:Bz N B E t)(hB:B'≤B)(hE:E≤E'):Bz N B' E' t:=fun a ha=>⟨fun ad hp=>by have:=(h a ha).1 ad hp;omega,fun he ad hp=>by have:=(h a ha).2 he ad hp;omega⟩
theorem Bz.node{N B E:Nat}{a:RH}{l:List PT}(ha:∀ad,a.kp=some ad→B≤ad.block∧ad.block<E)(he:a.eff≠[]→∀ad,a.ep=some ad→(ad.block<N∨B≤ad.block)∧ad.block<E)(hl:∀t∈l,Bz N B E t):Bz N B E (.node a l):=by
 intro x hx;rw [AD.nodes_node,List.mem_cons] at hx;rcases hx with rfl|hx
 ·exact⟨ha,he⟩
 ·rw [List.mem_flatten] at hx;obtain⟨m,hm,hx⟩:=hx;obtain⟨t,ht,rfl⟩:=List.mem_map.1 hm;exact hl t ht x hx
def MQ(r:Option Nat)(t:PT):Prop:=∀a∈t.nodes,(∀ad,a.kp=some ad→r≠some ad.block)∧(a.eff≠[]→∀ad,a.ep=some ad→r≠some ad.block)
theorem Ab{α:Type}{enc:α→List Value}{k:Nat}{w w':World}{r:Option Nat}{p:Option Addr}{n c:Nat}{l:List α}(hg:w.grownBy w' r)(aR:l≠[]→∀ad,p=some ad→r≠some ad.block)(h:AF enc k w p n c l):AF enc k w' p n c l:=by
 refine⟨h.len,h.max,h.le,h.nil,?_⟩;by_cases hl:l=[]
 ·exact .inl hl
 ·exact P7 hg (aR hl) h.row
theorem DS{w w':World}{r:Option Nat}(hg:w.grownBy w' r)(t:PT):MQ r t→LR.lies w t→LR.lies w' t:=by refine AD.ind (P:=fun(t:PT)=>MQ r t→LR.lies w t→LR.lies w' t) (fun a l ih ho h=>?_) t;have hn:=Bb h;have h0:=ho a (by rw [AD.nodes_node];simp);refine A4.lies ⟨⟨Ab hg h0.2 hn.own.eff,hn.own.ok,hn.own.k0,hn.own.k1,hn.own.r0,hn.own.r1,hn.own.kmax,hn.own.kle,hn.own.knil⟩,Ab hg (fun _=>h0.1) hn.kids,fun t ht=>ih t ht (fun x hx=>ho x ?_) (hn.each t ht)⟩;rw [AD.nodes_node,List.mem_cons,List.mem_flatten];exact .inr ⟨t.nodes,List.mem_map_of_mem ht,hx⟩
theorem Bz.off{N B E:Nat}{r:Nat}{t:PT}(h:Bz N B E t)(hr:N≤r∧r<B∨E≤r)(pt:N≤E):MQ (some r) t:=fun a ha=>⟨fun ad hp e=>by have:=(h a ha).1 ad hp;injection e with e;omega,fun he ad hp e=>by have:=(h a ha).2 he ad hp;injection e with e;omega⟩
def QX(N:Nat)(f t:List Int)(x:PT)(W:World)(e:Ending)(w':World):Prop:=(∃y:PT,e=.returned (C9 y.head)∧LR.lies w' y∧Bz N W.heap.size w'.heap.size y∧PT.er y=BQ f t (PT.er x))∧Below W.heap.size W w'
structure VU(w:World)(p1:Option Addr)(n1 c1:Nat)(f:List Int)(p2:Option Addr)(n2 c2:Nat)(t:List Int):Prop where
 rf:AF Am 1 w p1 n1 c1 f
 rt:AF Am 1 w p2 n2 c2 t
 m1:n1≤1000000
 m2:n2≤1000000
 ok:∀z∈t,TC z
theorem VU.below{w w':World}{p1:Option Addr}{n1 c1:Nat}{f:List Int}{p2:Option Addr}{n2 c2:Nat}{t:List Int}(h:VU w p1 n1 c1 f p2 n2 c2 t)(hb:Below w.heap.size w w'):VU w' p1 n1 c1 f p2 n2 c2 t:=⟨h.rf.below hb,h.rt.below hb,h.m1,h.m2,h.ok⟩
theorem Qf:(prog.info? 28).map (fun i=>(i.zero,i.size,i.bytes))=some (some (.agg #[.int .u8 0,.int .i64 0,.slice none 0 0,.slice none 0 0]),4,64):=by kernel_rfl
theorem QU:∀t:PT,∀u∈LR.encT t,u.oneCell'=true:=by intro t u hu;have:u∈KV t.head:=hu;simp [KV] at this;rcases this with rfl|rfl|rfl|rfl<;>rfl
structure Cf(w:World)(g:Nat)(x y z u:Value):Prop where
 blk:w.heap[g]?=some (.cells #[x,y,z,u] 28 (0,0))
theorem Cf.cells{w:World}{g:Nat}{x y z u:Value}(h:Cf w g x y z u):w.cell? ⟨g,0,none⟩=some x∧w.cell? ⟨g,1,none⟩=some y∧w.cell? ⟨g,2,none⟩=some z∧w.cell? ⟨g,3,none⟩=some u∧w.frozen? ⟨g,0,none⟩=false∧w.frozen? ⟨g,1,none⟩=false∧w.frozen? ⟨g,2,none⟩=false∧w.frozen? ⟨g,3,none⟩=false:=by have hb:=h.blk;refine⟨?_,?_,?_,?_,?_,?_,?_,?_⟩<;>simp [World.cell?,World.frozen?,hb]
theorem Cf.lt{w:World}{g:Nat}{x y z u:Value}(h:Cf w g x y z u):g<w.heap.size:=(Array.getElem?_eq_some_iff.1 h.blk).1
theorem Cf.grown{w w':World}{g:Nat}{x y z u:Value}{r:Option Nat}(h:Cf w g x y z u)(hg:w.grownBy w' r)(hr:r≠some g):Cf w' g x y z u:=⟨by rw [hg.block g h.lt hr.symm];exact h.blk⟩
theorem Cf.below{w w':World}{g:Nat}{x y z u:Value}(h:Cf w g x y z u)(hb:Below w.heap.size w w'):Cf w' g x y z u:=⟨by rw [hb.block g h.lt];exact h.blk⟩
theorem FB(w:World)(x y z u:Value):Cf (w.alloc (.cells #[x,y,z,u] 28)) w.heap.size x y z u:=⟨heap_alloc_new w _⟩
theorem Nm{w:World}{g:Nat}{x y z u:Value}(h:Cf w g x y z u)(x' y' z' u':Value):Cf ((((w.setCell ⟨g,0,none⟩ x').setCell ⟨g,1,none⟩ y').setCell ⟨g,2,none⟩ z').setCell ⟨g,3,none⟩ u') g x' y' z' u'∧w.grownBy ((((w.setCell ⟨g,0,none⟩ x').setCell ⟨g,1,none⟩ y').setCell ⟨g,2,none⟩ z').setCell ⟨g,3,none⟩ u') (some g):=by have h1:=AK (o:=3) u' (AK (o:=2) z' (AK (o:=1) y' (AK (o:=0) x' h.blk)));refine⟨⟨by simpa using h1⟩,?_⟩;exact DB (DB (DB (AG w g 0 x') (AG _ g 1 y') (fun b _ h=>h)) (AG _ g 2 z') (fun b _ h=>h)) (AG _ g 3 u') (fun b _ h=>h)
theorem SS{w:World}{g:Nat}{x y z u:Value}(h:Cf w g x y z u)(v:Value):Cf (w.setCell ⟨g,1,none⟩ v) g x v z u:=⟨by simpa using AK (o:=1) v h.blk⟩
theorem GG{w:World}{g:Nat}{x y z u:Value}(h:Cf w g x y z u)(v:Value):Cf (w.setCell ⟨g,2,none⟩ v) g x y v u:=⟨by simpa using AK (o:=2) v h.blk⟩
theorem FW{w:World}{g:Nat}{x y z u:Value}(h:Cf w g x y z u)(v:Value):Cf (w.setCell ⟨g,3,none⟩ v) g x y z v:=⟨by simpa using AK (o:=3) v h.blk⟩
structure UA(N B:Nat)(w wx:World)(a:RH)(f t:List Int)(z:Int)(ep:Option Addr)(en ec:Nat)(eff:List AB):Prop where
 b0:Cf wx B (.int .u8 a.kind) (.int .i64 a.rho) (.slice a.ep a.en a.ec) (.slice a.kp a.kn a.kc)
 b1:Cf wx (B+1) (.int .u8 0) (.int .i64 0) (.slice none 0 0) (.slice none 0 0)
 size:B+3≤wx.heap.size
 below:Below B w wx
 row:AF AP 3 wx ep en ec eff
 span:eff≠[]→∀ad,ep=some ad→(ad.block<N∨B+3≤ad.block)∧ad.block<wx.heap.size
 is:(⟨a.kind,z,eff⟩:LH)=NE f t a.plain
theorem UA.grown{N B:Nat}{w wx w':World}{a:RH}{f t:List Int}{z:Int}{ep:Option Addr}{en ec:Nat}{eff:List AB}{r:Option Nat}(h:UA N B w wx a f t z ep en ec eff)(hg:wx.grownBy w' r)(hr:∀b,r=some b→B+1+1≤b)(iK:eff≠[]→∀ad,ep=some ad→r≠some ad.block):UA N B w w' a f t z ep en ec eff:=⟨h.b0.grown hg (fun e=>by have:=hr _ e;omega),h.b1.grown hg (fun e=>by have:=hr _ e;omega),Nat.le_trans h.size hg.size,h.below.grown hg (by have:=h.size;omega) (fun j hj=>by have:=hr _ hj;omega),Ab hg iK h.row,fun he ad hp=>by have:=h.span he ad hp;have:=hg.size;omega,h.is⟩
theorem UA.drop{N B:Nat}{w wx w':World}{a:RH}{f t:List Int}{z:Int}{ep:Option Addr}{en ec:Nat}{eff:List AB}(h:UA N B w wx a f t z ep en ec eff)(hb:Below wx.heap.size wx w'):UA N B w w' a f t z ep en ec eff:=⟨h.b0.below hb,h.b1.below hb,Nat.le_trans h.size hb.size,h.below.trans (hb.mono (by have:=h.size;omega)),h.row.below hb,fun he ad hp=>by have:=h.span he ad hp;have:=hb.size;omega,h.is⟩
structure UF(N B:Nat)(w wx:World)(a:RH)(f t:List Int)(z:Int)(ep:Option Addr)(en ec:Nat)(eff:List AB)(v:Value)(k:Nat)(ys:List PT):Prop where
 own:AI LR.encT 4 wx (B+3) 28 v k ys
 r:UA N B w wx a f t z ep en ec eff
 b2:Cf wx (B+1+1) (.int .u8 a.kind) (.int .i64 z) (.slice ep en ec) v
 eoff:eff≠[]→∀ad,ep=some ad→v.ownBlock≠some ad.block
 ys:∀y∈ys,LR.lies wx y∧MQ v.ownBlock y∧Bz N (B+3) wx.heap.size y
section
variable {N B:Nat} {w wx w' w3:World} {a:RH} {f t:List Int} {z:Int} {ep:Option Addr} {en ec:Nat} {eff:List AB} {v:Value} {k:Nat} {ys:List PT}
theorem UF.drop(h:UF N B w wx a f t z ep en ec eff v k ys)(hb:Below wx.heap.size wx w'):UF N B w w' a f t z ep en ec eff v k ys:=⟨h.own.below hb,h.r.drop hb,h.b2.below hb,h.eoff,fun y hy=>⟨LR.lies_below hb y (h.ys y hy).1,(h.ys y hy).2.1,(h.ys y hy).2.2.mono (Nat.le_refl _) hb.size⟩⟩
theorem UF.add(h:UF N B w wx a f t z ep en ec eff v k ys){y:PT}(hl:LR.lies wx y)(ho:MQ v.ownBlock y)(hs:Bz N (B+3) wx.heap.size y){p3:Option Addr}{c3:Nat}(aE:AI LR.encT 4 w3 (B+3) 28 (.slice p3 (k+1) c3) (k+1) (ys++[y]))(aP:wx.grownBy w3 v.ownBlock)(a7:∀b,b<wx.heap.size→(Value.slice p3 (k+1) c3).ownBlock=some b→v.ownBlock=some b)(hN:N≤B):UF N B w (w3.setCell ⟨B+1+1,3,none⟩ (.slice p3 (k+1) c3)) a f t z ep en ec eff (.slice p3 (k+1) c3) (k+1) (ys++[y]):=by
 have bF:w3.grownBy (w3.setCell ⟨B+1+1,3,none⟩ (.slice p3 (k+1) c3)) (some (B+1+1)):=AG _ _ _ _;have cw:∀b,v.ownBlock=some b→B+3≤b:=fun b hb=>AI.from h.own b hb;have eB:∀b,(Value.slice p3 (k+1) c3).ownBlock=some b→B+3≤b:=fun b hb=>AI.from aE b hb
 have bg:∀y'∈ys++[y],LR.lies wx y'∧MQ v.ownBlock y'∧Bz N (B+3) wx.heap.size y':=fun y' b9=>by
  rcases List.mem_append.1 b9 with b9|b9
  ·exact h.ys y' b9
  ·rw [List.mem_singleton] at b9;subst b9;exact⟨hl,ho,hs⟩
 refine⟨aE.other bF (fun b hb e=>by have:=eB b hb;cases e;omega),(h.r.grown aP (fun b hb=>by have:=cw b hb;omega) h.eoff).grown bF (fun b hb=>by cases hb;omega) (fun he ad hp e=>?_),FW (h.b2.grown aP (fun e=>by have:=cw _ e;omega)) _,fun he ad hp e=>?_,fun y' b9=>?_⟩
 ·have:=h.r.span he ad hp;injection e with e;omega
 ·exact h.eoff he ad hp (a7 _ (h.r.span he ad hp).2 e)
 ·obtain⟨h1,h2,h3⟩:=bg y' b9;have aL:=Nat.le_trans aP.size bF.size;have hB:=h.r.size;refine⟨DS bF y' (Bz.off h3 (by omega) (by omega)) (DS aP y' h2 h1),fun a' ha=>⟨fun ad hp e=>?_,fun he ad hp e=>?_⟩,h3.mono (Nat.le_refl _) aL⟩
  ·exact(h2 a' ha).1 ad hp (a7 _ ((h3 a' ha).1 ad hp).2 e)
  ·exact(h2 a' ha).2 he ad hp (a7 _ ((h3 a' ha).2 he ad hp).2 e)
theorem Tr{l:List PT}{W:World}{p:Option Addr}{c:Nat}(hI:UF N w.heap.size w wx a f t z ep en ec eff (.slice p k c) k ys)(hN:N≤w.heap.size)(hk:k=l.length)(ha:RH.Own w a)(ht:∀z∈t,TC z)(hm:k≤1000)(eM:ys.map PT.er=(l.take k).map (fun x=>BQ f t (PT.er x)))(hg:wx.grownBy W (some (w.heap.size+1))):QX N f t (.node a l) w (.returned (C9 ⟨a.kind,z,ep,en,ec,eff,p,k,c⟩)) W:=by
 obtain⟨q,c',hq,aB⟩:=hI.own.isRow DW (by omega);cases hq;have cb:∀ad,p=some ad→w.heap.size+3≤ad.block∧ad.block<wx.heap.size:=fun ad hp=>by subst hp;exact World.ownsRow.lt hI.own ad.block rfl
 have hB:=hI.r.size;have jj:=hI.r.is;obtain⟨hz,ax⟩:=VM (f:=f) (a:=a.plain) ⟨ha.r0,ha.r1⟩ ha.ok ht;rw [←jj] at hz ax;refine⟨⟨.node ⟨a.kind,z,ep,en,ec,eff,p,k,c⟩ ys,rfl,?_,Bz.node (fun ad hp=>by have:=cb ad hp;have:=hg.size;omega) (fun he ad hp=>by have:=hI.r.span he ad hp;have:=hg.size;omega) (fun y hy=>(hI.ys y hy).2.2.mono (by omega) hg.size),?_⟩,?_⟩
 ·refine A4.lies ⟨⟨Ab hg (fun he ad hp e=>by have:=hI.r.span he ad hp;injection e with e;omega) hI.r.row,ax,ha.k0,ha.k1,hz.1,hz.2,by show k≤_;omega,aB.le,aB.nil⟩,Ab hg (fun _ ad hp e=>by have:=cb ad hp;injection e with e;omega) aB,fun y hy=>?_⟩;exact DS hg y (Bz.off (hI.ys y hy).2.2 (by omega) (by omega)) (hI.ys y hy).1
 ·rw [PT.er_node,Tq,eM,AY (by omega)];show AD.node (⟨a.kind,z,eff⟩:LH) _=_;rw [jj]
 ·exact hI.r.below.grown hg (by omega) (fun j hj=>by injection hj with hj;omega)
end
abbrev Bn(a:RH):Obj:=.cells #[.int .u8 a.kind,.int .i64 a.rho,.slice a.ep a.en a.ec,.slice a.kp a.kn a.kc] 28
abbrev E4:Obj:=.cells #[.int .u8 0,.int .i64 0,.slice none 0 0,.slice none 0 0] 28
abbrev KG(w:World)(a:RH):World:=((w.alloc (Bn a)).alloc E4).alloc (Bn a)
theorem Mb(w:World)(a:RH):Below w.heap.size w (KG w a):=(((Below.refl w.heap.size w).alloc (Nat.le_refl _) _).alloc (by simp) _).alloc (by simp;omega) _
theorem SX(w:World)(a:RH):Cf (KG w a) w.heap.size (.int .u8 a.kind) (.int .i64 a.rho) (.slice a.ep a.en a.ec) (.slice a.kp a.kn a.kc):=by refine Cf.below (w:=w.alloc (Bn a)) ?_ (bA.alloc (by simp) _);exact FB w _ _ _ _
theorem SY(w:World)(a:RH):Cf (KG w a) (w.heap.size+1) (.int .u8 0) (.int .i64 0) (.slice none 0 0) (.slice none 0 0):=by refine Cf.below (w:=(w.alloc (Bn a)).alloc E4) ?_ bA;have:=FB (w.alloc (Bn a)) (.int .u8 0) (.int .i64 0) (.slice none 0 0) (.slice none 0 0);simpa using this
theorem SZ(w:World)(a:RH):Cf (KG w a) (w.heap.size+1+1) (.int .u8 a.kind) (.int .i64 a.rho) (.slice a.ep a.en a.ec) (.slice a.kp a.kn a.kc):=by have:=FB ((w.alloc (Bn a)).alloc E4) (.int .u8 a.kind) (.int .i64 a.rho) (.slice a.ep a.en a.ec) (.slice a.kp a.kn a.kc);simpa using this
def F9(N:Nat)(p1:Option Addr)(n1 c1:Nat)(f:List Int)(p2:Option Addr)(n2 c2:Nat)(t:List Int)(x:PT)(W:World):Prop:=Calls prog 39 #[C9 x.head,.slice p1 n1 c1,.slice p2 n2 c2] W (QX N f t x W)
theorem Lc{N:Nat}{a:RH}{l:List PT}{w:World}{p1:Option Addr}{n1 c1:Nat}{f:List Int}{p2:Option Addr}{n2 c2:Nat}{t:List Int}(hN:A4 w a l)(jQ:N≤w.heap.size)(he:a.eff≠[]→∀ad,a.ep=some ad→ad.block<N)(bP:a.en≤1000)(h2:VU w p1 n1 c1 f p2 n2 c2 t)(hl:a.kn≤1000)(hf:∀x∈l,∀W,Below w.heap.size w W→F9 N p1 n1 c1 f p2 n2 c2 t x W):F9 N p1 n1 c1 f p2 n2 c2 t (.node a l) w:=by
 have HN:=AA hN;have HF:=AA hf;have H2:=AA h2;have HE:=AA he;have bS:=AA jQ;have fd:=hN.own.kmax;have iN:=h2.m1;have il:=h2.m2;have aO:=AA (Mb w a);have lY:=AA (SX w a);have jM:=AA (SY w a);have aV:=AA (SZ w a);show Calls _ _ #[C9 a,.slice p1 n1 c1,.slice p2 n2 c2] w _;clear hN hf h2 he jQ;go_enter func39,ntmps39;go_upto_if 14 with fail;go_cut [] from 8 to 37 (fun wx=>∃(z:Int) (ep:Option Addr) (en ec:Nat) (eff:List AB),UA N w.heap.size w wx a f t z ep en ec eff∧Cf wx (w.heap.size+1+1) (.int .u8 a.kind) (.int .i64 z) (.slice ep en ec) (.slice a.kp a.kn a.kc))
 case first=>
  by_cases cZ:a.kind=1
  ·have lG:=AA cZ;have b1:(a.kind != 1)=false:=by simpa using cZ
   clear cZ;go_wp2_with fail;go_meet
   case rel=>exact⟨a.rho,a.ep,a.en,a.ec,a.eff,⟨lY.o,jM.o,by simp,aO.o,HN.o.own.eff.below aO.o,fun he ad hp=>⟨.inl (HE.o he ad hp),by have:=HE.o he ad hp;have:=bS.o;simp;omega⟩,by unfold NE;rw [if_pos (show a.plain.kind=1 from lG.o)];rfl⟩,aV.o⟩
  ·have lG:=AA cZ;have b1:(a.kind != 1)=true:=by simpa using cZ
   have ev:=AA (HN.o.own.eff.below aO.o);have kK:=AA (H2.o.below aO.o);clear cZ;go_wp2_with fail;refine(Jm a.ep a.en a.ec a.eff p1 n1 c1 f p2 n2 c2 t (KG w a) ev.o.len (by omega) ev.o.row kK.o.rf.len iN kK.o.rf.row kK.o.rt.len il kK.o.rt.row).mono ?_;rintro e w2 ⟨v,m,rfl,hm,aD,hb⟩;obtain⟨q,qc,rfl,aB⟩:=aD.isRow AC (by omega);have ie:Below w.heap.size w w2:=aO.o.trans (hb.mono aO.o.size);have bH:=AA (aV.o.below hb);have dQ:=bH.o.lt;have bF:=AG w2 (w.heap.size+1+1) 2 (.slice q m qc);have cb:∀ad,q=some ad→w.heap.size+3≤ad.block∧ad.block<w2.heap.size:=fun ad hp=>by subst hp;have:=World.ownsRow.lt aD ad.block rfl;simpa using this
   have ap:Hd (UA N w.heap.size w (w2.setCell ⟨w.heap.size+1+1,2,none⟩ (.slice q m qc)) a f t (CK a.rho f t) q m qc (Ig f t a.eff)):=UA.grown
    ⟨lY.o.below hb,jM.o.below hb,by omega,ie,aB,fun _ ad hp=>by have:=cb ad hp;omega,by unfold NE;rw [if_neg (show ¬a.plain.kind=1 from lG.o)];rfl⟩ bF (fun b hb=>by cases hb;omega) (fun _ ad hp e=>by have:=cb ad hp;injection e with e;omega)
   have b7:=AA (GG bH.o (.slice q m qc));obtain⟨x0,x1,x2,x3,x4,x5,x6,x7⟩:=bH.o.cells;obtain⟨y0,y1,y2,y3,y4,y5,y6,y7⟩:=(lY.o.below hb).cells;clear hb aD aB ie bF cb;go_wp2_with fail;clear x0 x1 x2 x3 x4 x5 x6 x7 y0 y1 y2 y3 y4 y5 y6 y7;generalize w2.setCell ⟨w.heap.size+1+1,2,none⟩ (.slice q m qc)=W3 at *
   have fX:=AA (H2.o.below ap.o.below);obtain⟨x0,x1,x2,x3,x4,x5,x6,x7⟩:=b7.o.cells;obtain⟨y0,y1,y2,y3,y4,y5,y6,y7⟩:=ap.o.b0.cells;have l0:=b7.o.lt;rcases IQ a.rho f t with⟨hi,ht⟩|⟨j,hj,hi,ht⟩
   ·have HI:=AA hi;have HT:=AA ht;clear hi ht;refine(Cr a.rho p1 n1 c1 f _ (-1) HI.o fX.o.rf.len (by omega) fX.o.rf.row).mono ?_;rintro e w3 ⟨rfl,rfl⟩;go_wp2_with fail;go_meet
    case rel=>exact⟨_,_,_,_,_,ap.o,by rw [HT.o];exact b7.o⟩
   ·have HI:=AA hi;have HT:=AA ht;clear hi ht;have nI:j<n1:=by have:=fX.o.rf.len;omega
    by_cases jl:j<n2
    ·obtain⟨z,hz⟩:=Ac (l:=t) (j:=j) (by rw [fX.o.rt.len];exact jl);have jK:Hd (CK a.rho f t=z):=by show CK a.rho f t=z;rw [HT.o,hz];rfl
     obtain⟨b',o',rfl,e0⟩:=fX.o.rt.row.num hz;clear hz;refine(Cr a.rho p1 n1 c1 f _ (j:Int) HI.o fX.o.rf.len (by omega) fX.o.rf.row).mono ?_;rintro e w3 ⟨rfl,rfl⟩;go_wp2_with fail;go_meet
     case rel=>exact⟨z,_,_,_,_,by have:=ap.o;rw [jK.o] at this;exact this.grown (AG _ _ _ _) (fun b hb=>by cases hb;omega) (fun he ad hp e=>by have h:=ap.o.span he ad hp;have:=bS.o;injection e with e;omega),SS b7.o _⟩
    ·have od:Hd (CK a.rho f t=a.rho):=by show CK a.rho f t=a.rho;rw [HT.o,List.getElem?_eq_none (by rw [fX.o.rt.len];omega)];rfl
     refine(Cr a.rho p1 n1 c1 f _ (j:Int) HI.o fX.o.rf.len (by omega) fX.o.rf.row).mono ?_;rintro e w3 ⟨rfl,rfl⟩;go_wp2_with fail;go_meet
     case rel=>exact⟨_,_,_,_,_,ap.o,by rw [od.o];exact b7.o⟩
 case rest=>
  obtain⟨z,ep,en,ec,eff,hr,aj⟩:=hcut;have HR:=AA hr;have aI:=AA aj;clear hr aj;obtain⟨x0,x1,x2,x3,x4,x5,x6,x7⟩:=aI.o.cells;obtain⟨y0,y1,y2,y3,y4,y5,y6,y7⟩:=HR.o.b0.cells;have dQ:=aI.o.lt;go_wp2_with fail;have lS:Hd (UF N w.heap.size w (wc.setCell ⟨w.heap.size+1+1,3,none⟩ (.slice none 0 0)) a f t z ep en ec eff (.slice none 0 0) 0 []):=⟨AI.nil _ _ _ _ _,HR.o.grown (AG _ _ _ _) (fun b hb=>by cases hb;omega) (fun he ad hp e=>by have h:=HR.o.span he ad hp;have:=bS.o;injection e with e;omega),FW aI.o _,(fun _ _ _ e=>by cases e),(fun y hy=>by cases hy)⟩;clear x0 x1 x2 x3 x4 x5 x6 x7 y0 y1 y2 y3 y4 y5 y6 y7 dQ;generalize wc.setCell ⟨w.heap.size+1+1,3,none⟩ (.slice none 0 0)=W1 at *
  go_loopw [10,42] (fun _ i wr=>∃(k:Nat) (v:Value) (ys:List PT),k≤a.kn∧i=.int .i64 k∧UF N w.heap.size w wr a f t z ep en ec eff v k ys∧ys.map PT.er=(l.take k).map (fun x=>BQ f t (PT.er x))) (fun _ i _=>a.kn-(intOf i).toNat)
  case atStart=>exact⟨0,_,[],by omega,rfl,lS.o,by simp⟩
  case round=>
   obtain⟨k,v,ys,hk,rfl,gA,eM⟩:=hrel;have ap:=AA gA;have ea:=AA eM;clear gA eM;have HB:=AA ap.o.r.below;by_cases aG:k<a.kn
   ·obtain⟨x,hx⟩:=HN.o.rowT.at (j:=k) aG;have fZ:=AA hx;obtain⟨g,o,b8,al,d0,d1,d2,d3⟩:=(HN.o.rowT.below HB.o).kid hx;have mj:Below wr.heap.size wr (wr.alloc (.cells #[.int .u8 x.head.kind,.int .i64 x.head.rho,.slice x.head.ep x.head.en x.head.ec,.slice x.head.kp x.head.kn x.head.kc] 28)):=(Below.refl _ wr).alloc (Nat.le_refl _) _;have dv:=AA (ap.o.drop mj);have gn:Hd (∀W,Below (wr.heap.size+1) (wr.alloc (.cells #[.int .u8 x.head.kind,.int .i64 x.head.rho,.slice x.head.ep x.head.en x.head.ec,.slice x.head.kp x.head.kn x.head.kc] 28)) W→F9 N p1 n1 c1 f p2 n2 c2 t x W):=fun W h=>HF.o x (List.mem_of_getElem? hx) W (dv.o.r.below.trans (h.mono (by have:=HB.o.size;omega)));have qF:(wr.alloc (.cells #[.int .u8 x.head.kind,.int .i64 x.head.rho,.slice x.head.ep x.head.en x.head.ec,.slice x.head.kp x.head.kn x.head.kc] 28)).heap.size=wr.heap.size+1:=by simp
    obtain⟨e0,e1,e2,e3⟩:=PM (w:=wr) (t:=x) (Below.refl _ _);rw [b8];clear hx;go_wp2_with fail;clear d0 d1 d2 d3 b8 mj;obtain⟨x0,x1,x2,x3,x4,x5,x6,x7⟩:=dv.o.b2.cells;generalize wr.alloc (.cells #[.int .u8 x.head.kind,.int .i64 x.head.rho,.slice x.head.ep x.head.en x.head.ec,.slice x.head.kp x.head.kn x.head.kc] 28)=W0 at *
    have lO:Hd (∀g,g<w.heap.size+3→v.ownBlock≠some g):=fun g hg h=>by have:=AI.from dv.o.own g h;omega
    go_region_law (first
     |(
      refine AS (by rfl) _ _ 26 (by rfl) (w.heap.size+3) 28 _ 4 64 underlying26 Qf rfl (by decide) LR.encT DW QU [y] ys k v (BB dW.o.own _) _ 1 _ (by rfl) (by rfl) rfl (by intro h;cases h) d9.o.row (by omega) (by omega) (by simp;have:=dW.o.r.size;omega) ?_;intro v3 w3 aE aP a7;obtain⟨p3,c3,rfl,ab⟩:=AI.isRow DW (by omega) aE;obtain⟨x0,x1,x2,x3,x4,x5,x6,x7⟩:=((dW.o.b2.below ((Below.refl _ w2).alloc (Nat.le_refl _) _)).grown aP (lO.o _ (by omega))).cells)
     |(
      go_simp;go_at_call 39;refine(gn.o _ (by first|exact⟨rfl,rfl,rfl,Nat.le_refl _,fun _ _=>rfl⟩)).mono ?_;rintro e w2 ⟨⟨y,rfl,bv,cx,cA⟩,aj⟩;have jT:Below W0.heap.size W0 w2:=AL (AR W0) aj;have dW:=AA (dv.o.drop jT);have d9:=AA (AW DW (by omega) w2 28 [y] 1 #[.int .u8 y.head.kind,.int .i64 y.head.rho,.slice y.head.ep y.head.en y.head.ec,.slice y.head.kp y.head.kn y.head.kc] rfl rfl (by decide));have dQ:w.heap.size+1+1<w2.heap.size:=dW.o.b2.lt;obtain⟨x0,x1,x2,x3,x4,x5,x6,x7⟩:=dW.o.b2.cells;go_wp2_with fail))
    all_goals (
     have hA:=(Below.refl _ w2).alloc (Nat.le_refl _) (.cells #[.int .u8 y.head.kind,.int .i64 y.head.rho,.slice y.head.ep y.head.en y.head.ec,.slice y.head.kp y.head.kn y.head.kc] 28)
     have au:=AA ((dW.o.drop hA).add (LR.lies_below hA y bv) (fun a ha=>⟨fun ad hp e=>by have h1:=((cx a ha).1 ad hp).1;have h5:=AI.under ap.o.own _ e;simp at h1;omega,fun he ad hp e=>by
      have h1:=((cx a ha).2 he ad hp).1;have h5:=AI.under ap.o.own _ e;have h6:=AI.from ap.o.own _ e;have:=bS.o;simp at h1;omega⟩) (cx.mono (by have:=ap.o.r.size;simp;omega) (by simp)) aE aP a7 bS.o)
     have cM:Hd ((ys++[y]).map PT.er=(l.take (k+1)).map (fun x=>BQ f t (PT.er x))):=by show _=_;rw [AJ fZ.o,List.map_append,List.map_append,ea.o];simp [cA]
     clear hA aE aP a7 aj jT bv cx cA ab x0 x1 x2 x3 x4 x5 x6 x7)
    all_goals (
     go_wp2_with fail;go_roundw
     case rel=>exact⟨k+1,_,ys++[y],by omega,by go_num,au.o,cM.o⟩
     case measure=>simp [intOf];omega)
   ·obtain⟨p',c',rfl,aB⟩:=ap.o.own.isRow DW (by omega);have bV:k=a.kn:=by omega
    have HS:=AA (Nm ap.o.r.b1 (.int .u8 a.kind) (.int .i64 z) (.slice ep en ec) (.slice p' k c'));have ew:=AA (Tr (l:=l) ap.o bS.o (by rw [bV];exact HN.o.kids.len.symm) HN.o.own H2.o.ok (by omega) ea.o HS.o.2);obtain⟨x0,x1,x2,x3,x4,x5,x6,x7⟩:=ap.o.b2.cells;obtain⟨y0,y1,y2,y3,y4,y5,y6,y7⟩:=ap.o.r.b1.cells;clear aB bV;go_wp2_with fail;(try simp only [Exit.inBlock,Exit.then]);refine br HS.o.1.blk underlying28 ?_;exact ew.o
theorem H6{w0:World}{p1:Option Addr}{n1 c1:Nat}{f:List Int}{p2:Option Addr}{n2 c2:Nat}{t:List Int}(h2:VU w0 p1 n1 c1 f p2 n2 c2 t)(x:PT):LR.lies w0 x→BL x.er=true→x.size≤1000→∀W,Below w0.heap.size w0 W→F9 w0.heap.size p1 n1 c1 f p2 n2 c2 t x W:=by
 refine AD.ind (P:=fun(x:PT)=>LR.lies w0 x→BL x.er=true→x.size≤1000→∀W,Below w0.heap.size w0 W→F9 w0.heap.size p1 n1 c1 f p2 n2 c2 t x W) (fun a l ih=>?_) x;intro hl he hs W hW;have HN:=Bb hl;rw [PT.er_node,BG,Bool.and_eq_true,List.all_map,List.all_eq_true] at he;have aL:CS l+1=(AD.node a l).size:=Ff (.node a l);have aJ:=Cp (show BS a.eff=false by simpa [RH.plain] using he.1);refine Lc (HN.below hW) hW.size (fun aR ad hp=>?_) (by have:=HN.own.eff.len;omega) (h2.below hW) ?_ (fun x hx W' iE=>ih x hx (HN.each x hx) (he.2 x hx) ?_ W' (hW.trans (iE.mono hW.size)))
 ·rcases HN.own.eff.row with h|⟨b,o,fg,hb,_⟩
  ·exact absurd h aR
  ·rw [fg] at hp;cases hp;exact hb
 ·have h1:=Qg l;have h2:=HN.kids.len;omega
 ·have h2:x.size≤CS l:=Ay (List.mem_map_of_mem hx);omega
end
def Mn(z:Int):Prop:=-9223372036854775808≤z∧z≤9223372036854775807
structure CL where
 kind:Int
 op:Int
 at_:Int
 n:Int
 name:ByteArray
 arg:ByteArray
 exn:ByteArray
 rho:Int
 rhos:List Int
 eff:List AB
 ty:RT
 res:RT
structure AH where
 kind:Int
 op:Int
 at_:Int
 n:Int
 name:ByteArray
 arg:ByteArray
 exn:ByteArray
 rho:Int
 rp:Option Addr
 rn:Nat
 rc:Nat
 rhos:List Int
 ep:Option Addr
 en:Nat
 ec:Nat
 eff:List AB
 ty:PT
 res:PT
 kp:Option Addr
 kn:Nat
 kc:Nat
abbrev PA:=AD AH
abbrev AT:=AD CL
def AH.plain(a:AH):CL:=⟨a.kind,a.op,a.at_,a.n,a.name,a.arg,a.exn,a.rho,a.rhos,a.eff,a.ty.er,a.res.er⟩
def PA.er(t:PA):AT:=AD.map AH.plain t
theorem PA.er_node(a:AH)(l:List PA):PA.er (.node a l)=.node a.plain (l.map PA.er):=AD.map_node _ a l
def Bg(a:AH):List Value:=[.int .u8 a.kind,.int .u8 a.op,.int .i64 a.at_,.int .i64 a.n,.string a.name,.string a.arg,.string a.exn,.int .i64 a.rho,.slice a.rp a.rn a.rc,.slice a.ep a.en a.ec,
 .int .u8 a.ty.head.kind,.int .i64 a.ty.head.rho,.slice a.ty.head.ep a.ty.head.en a.ty.head.ec,.slice a.ty.head.kp a.ty.head.kn a.ty.head.kc,
 .int .u8 a.res.head.kind,.int .i64 a.res.head.rho,.slice a.res.head.ep a.res.head.en a.res.head.ec,.slice a.res.head.kp a.res.head.kn a.res.head.kc,.slice a.kp a.kn a.kc]
structure AH.Own(w:World)(a:AH):Prop where
 k0:0≤a.kind
 k1:a.kind≤255
 o0:0≤a.op
 o1:a.op≤255
 at_:Mn a.at_
 n:Mn a.n
 name:a.name.size≤9223372036854775807
 arg:a.arg.size≤9223372036854775807
 exn:a.exn.size≤9223372036854775807
 rho:Mn a.rho
 rhos:AF Am 1 w a.rp a.rn a.rc a.rhos
 rok:∀z∈a.rhos,Mn z
 eff:AF AP 3 w a.ep a.en a.ec a.eff
 eok:∀x∈a.eff,DD x
 ty:LR.lies w a.ty
 res:LR.lies w a.res
 kmax:a.kn≤9223372036854775807
 kle:a.kn≤a.kc
 knil:a.kp=none→a.kc=0
def LA:F7 AH where
 enc:=Bg
 k:=19
 own:=AH.Own
 kp:=AH.kp
 kn:=AH.kn
 len:=fun _=>rfl
 below:=fun h hb=>⟨h.k0,h.k1,h.o0,h.o1,h.at_,h.n,h.name,h.arg,h.exn,h.rho,h.rhos.below hb,h.rok,h.eff.below hb,h.eok,LR.lies_below hb _ h.ty,LR.lies_below hb _ h.res,h.kmax,h.kle,h.knil⟩
theorem Et:∀t:PA,(LA.encT t).length=19:=fun _=>rfl
abbrev An(a:AH):Value:=.agg #[.int .u8 a.kind,.int .u8 a.op,.int .i64 a.at_,.int .i64 a.n,.string a.name,.string a.arg,.string a.exn,.int .i64 a.rho,.slice a.rp a.rn a.rc,.slice a.ep a.en a.ec,
 .int .u8 a.ty.head.kind,.int .i64 a.ty.head.rho,.slice a.ty.head.ep a.ty.head.en a.ty.head.ec,.slice a.ty.head.kp a.ty.head.kn a.ty.head.kc,
 .int .u8 a.res.head.kind,.int .i64 a.res.head.rho,.slice a.res.head.ep a.res.head.en a.res.head.ec,.slice a.res.head.kp a.res.head.kn a.res.head.kc,.slice a.kp a.kn a.kc]
abbrev AO(a:AH):Obj:=.cells #[.int .u8 a.kind,.int .u8 a.op,.int .i64 a.at_,.int .i64 a.n,.string a.name,.string a.arg,.string a.exn,.int .i64 a.rho,.slice a.rp a.rn a.rc,.slice a.ep a.en a.ec,
 .int .u8 a.ty.head.kind,.int .i64 a.ty.head.rho,.slice a.ty.head.ep a.ty.head.en a.ty.head.ec,.slice a.ty.head.kp a.ty.head.kn a.ty.head.kc,
 .int .u8 a.res.head.kind,.int .i64 a.res.head.rho,.slice a.res.head.ep a.res.head.en a.res.head.ec,.slice a.res.head.kp a.res.head.kn a.res.head.kc,.slice a.kp a.kn a.kc] 31
structure Fx(w:World)(b o:Nat)(a:AH):Prop where
 c:∀i u,(Bg a)[i]?=some u→w.cell? ⟨b,o+i,none⟩=some u
theorem Fx.below{w w':World}{b o:Nat}{a:AH}(h:Fx w b o a)(hb:Below w.heap.size w w')(aG:b<w.heap.size):Fx w' b o a:=⟨fun i u hu=>by rw [hb.cell aG];exact h.c i u hu⟩
structure Dl(w:World)(a:AH)(l:List PA):Prop where
 own:AH.Own w a
 kids:AF LA.encT 19 w a.kp a.kn a.kc l
 each:∀t∈l,LA.lies w t
theorem Cb{w:World}{a:AH}{l:List PA}(h:LA.lies w (.node a l)):Dl w a l:=by rw [F7.lies_node] at h;exact⟨h.1,⟨h.2.1,h.1.kmax,h.1.kle,h.1.knil,h.2.2.1⟩,h.2.2.2⟩
theorem Dl.lies{w:World}{a:AH}{l:List PA}(h:Dl w a l):LA.lies w (.node a l):=by rw [F7.lies_node];exact⟨h.own,h.kids.len,h.kids.row,h.each⟩
theorem Dl.below{w w':World}{a:AH}{l:List PA}(h:Dl w a l)(hb:Below w.heap.size w w'):Dl w' a l:=Cb (LA.lies_below hb _ h.lies)
theorem Dl.alloc{w:World}{a:AH}{l:List PA}(h:Dl w a l)(o:Obj):Dl (w.alloc o) a l:=h.below bA
structure C7(w:World)(p:Option Addr)(n cap:Nat)(l:List PA):Prop where
 row:AF LA.encT 19 w p n cap l
 each:∀t∈l,LA.lies w t
theorem Dl.rowT{w:World}{a:AH}{l:List PA}(h:Dl w a l):C7 w a.kp a.kn a.kc l:=⟨h.kids,h.each⟩
theorem C7.below{w w':World}{p:Option Addr}{n cap:Nat}{l:List PA}(h:C7 w p n cap l)(hb:Below w.heap.size w w'):C7 w' p n cap l:=⟨h.row.below hb,fun t ht=>LA.lies_below hb t (h.each t ht)⟩
theorem C7.kid{w:World}{p:Option Addr}{n cap:Nat}{l:List PA}(h:C7 w p n cap l){j:Nat}{t:PA}(hx:l[j]?=some t):∃b o,p=some ⟨b,o,none⟩∧b<w.heap.size∧Fx w b (o+j * 19) t.head:=by obtain⟨b,o,hp,hb,hc⟩:=h.row.row.elem hx;exact⟨b,o,hp,hb,⟨fun i u hu=>hc i u hu⟩⟩
theorem C7.at{w:World}{p:Option Addr}{n cap:Nat}{l:List PA}(h:C7 w p n cap l){j:Nat}(hj:j<n):∃t,l[j]?=some t:=Ac (by rw [h.row.len];exact hj)
theorem C7.lies{w:World}{p:Option Addr}{n cap:Nat}{l:List PA}(h:C7 w p n cap l){j:Nat}{t:PA}(hx:l[j]?=some t):LA.lies w t:=h.each t (List.mem_of_getElem? hx)
end Go.Proofs.YtkdjnegfnhldpaaGreatDoor
