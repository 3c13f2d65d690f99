/- Part 06. -/
import Derived.Lib.ItoaNum
import Derived.Lib.Join
import Derived.Lib.ItoaMem
import Derived.Lib.ItoaLen
import Derived.Deep.AppendSrc
import Derived.Test.YtkdjnegfnhldpaaGreatDoorK05
set_option linter.unusedVariables false
set_option maxRecDepth 100000
set_option linter.unusedSimpArgs false
set_option maxHeartbeats 40000000
namespace Go.Proofs.YtkdjnegfnhldpaaGreatDoor
open Go.Proofs.Tryz Go.RowKit
section
open Go.Sort Go.Lib
structure E2(q:AB→Bool)(l:List AB)(j i:Nat)(dk:List AB):Prop where
 size:dk.length=l.length
 low:dk.take i=(l.take j).filter (fun x=>!q x)
 high:∀t,j≤t→dk[t]?=l[t]?
 lt:i<j
theorem E2.start{q:AB→Bool}{l:List AB}{k:Nat}{x:AB}(hx:l[k]?=some x)(hq:q x=true)(aw:(l.take k).any q=false):E2 q l (k+1) k l:=by
 refine⟨rfl,?_,fun _ _=>rfl,by omega⟩;rw [AJ hx,List.filter_append];have h1:(l.take k).filter (fun x=>!q x)=l.take k:=by rw [List.filter_eq_self];intro a ha;have:=List.any_eq_false.1 aw a ha;simpa using this
 rw [h1];simp [hq]
theorem E2.skip{q:AB→Bool}{l dk:List AB}{j i:Nat}{x:AB}(h:E2 q l j i dk)(hx:l[j]?=some x)(hq:q x=true):E2 q l (j+1) i dk:=by refine⟨h.size,?_,fun t ht=>h.high t (by omega),by have:=h.lt;omega⟩;rw [AJ hx,List.filter_append,h.low];simp [hq]
theorem E2.keep{q:AB→Bool}{l dk:List AB}{j i:Nat}{x:AB}(h:E2 q l j i dk)(hx:l[j]?=some x)(hq:q x=false):E2 q l (j+1) (i+1) (dk.set i x):=by
 have hj:=CD hx;have hi:i<dk.length:=by have:=h.lt;have:=h.size;omega
 refine⟨by rw [List.length_set];exact h.size,?_,fun t ht=>?_,by have:=h.lt;omega⟩
 ·rw [AJ hx,List.filter_append,←h.low];rw [AJ (List.getElem?_set_self hi),List.take_set_of_le (Nat.le_refl _)];simp [hq]
 ·rw [List.getElem?_set_ne (by have:=h.lt;omega)];exact h.high t (by omega)
theorem KQ(fid:FuncId)(caps:Array Value)(q:AB→Bool)(ag:DJ fid)(g cap n:Nat)(l:List AB)(base:Nat)(w:World)(h:AI AP 3 w base 59 (.slice (some ⟨g,0,none⟩) n cap) n l)(ci:n≤cap)(hn:n≤1000000)(iH:base≤w.heap.size)(hf:IF fid caps base w l q) :
 Calls prog 250 #[.slice (some ⟨g,0,none⟩) n cap,.func (.func fid) #[] caps] w fun e w'=>∃m,e=.returned (.slice (some ⟨g,0,none⟩) m cap)∧m≤n∧AI AP 3 w' base 59 (.slice (some ⟨g,0,none⟩) m cap) m (l.filter (fun x=>!q x))∧Below base w w':=by
 have hl:l.length=n:=h.len AC (by omega)
 have aB:Cm w (some ⟨g,0,none⟩) l:=by obtain⟨p',c',hv,_,_,hr,_⟩:=h.row AC (by omega);cases hv;exact hr
 have lF:=AA (EB fid caps q ag (some ⟨g,0,none⟩) n cap l w hl (by omega) aB (hf.a (Below.refl _ _) iH))
 have jb:=ag
 unfold DJ at jb
 have HO:=AA h
 have HL:=AA hl
 have HF:=AA hf
 clear h hl hf
 clear aB
 go_enter func250,ntmps250
 go_wp2_with fail
 refine lF.o.mono ?_
 rintro e w1 ⟨⟨r,rfl,hr⟩,hb⟩
 have aO:=AA (hb.mono iH)
 have fC:=AA (HO.o.below hb)
 clear hb
 rcases hr with⟨rfl,aw⟩|⟨k,x,rfl,hx,hq,aw⟩
 ·have a8:=AA aw;clear aw;go_wp2_with fail;go_ret;refine⟨n,rfl,Nat.le_refl _,?_,aO.o⟩;have e1:l.filter (fun x=>!q x)=l:=by rw [List.filter_eq_self];intro a ha;have:=List.any_eq_false.1 a8.o a ha;simpa using this
  rw [e1];exact fC.o
 ·have hk:=CD hx;have bV:k<n:=by have:=HL.o;omega
  have au:=AA (E2.start hx hq aw);have nL:((k:Int)==-1)=false:=by rw [beq_eq_false_iff_ne];omega
  clear hx hq aw hk;go_wp2_with fail;go_loopw [5,6] (fun si sj wr=>∃(i j:Nat) (dk:List AB),si=.int .i64 i∧sj=.int .i64 j∧j≤n∧i<j∧E2 q l j i dk∧AI AP 3 wr base 59 (.slice (some ⟨g,0,none⟩) n cap) n dk∧Below base w wr) (fun _ sj _=>n-(intOf sj).toNat)
  case atStart=>exact⟨k,k+1,l,rfl,by go_num,by omega,by omega,au.o,fC.o,aO.o⟩
  case round=>
   obtain⟨i,j,dk,rfl,rfl,hj,kb,hI,aD,hb⟩:=hrel;have HI:=AA hI;have aS:=AA aD;have HB:=AA hb;clear hI aD hb;by_cases aG:j<n
   ·obtain⟨x,hx⟩:=Ac (l:=l) (j:=j) (by rw [HL.o];exact aG);have HE:=AA hx;have kY:dk[j]?=some x:=by rw [HI.o.high j (Nat.le_refl _)];exact hx
    have d0:=(aS.o.at AC kY (i:=0) (by omega)).1;have d1:=(aS.o.at AC kY (i:=1) (by omega)).1;have d2:=(aS.o.at AC kY (i:=2) (by omega)).1;simp only [AP,List.getElem?_cons_zero,List.getElem?_cons_succ,Nat.add_zero] at d0 d1 d2;clear hx kY;have eO:base≤wr.heap.size:=Nat.le_trans iH HB.o.size;cases hq:q x
    ·have HQ:=AA hq;clear hq;go_wp2_with fail;refine(HF.o.is (List.mem_of_getElem? HE.o) HQ.o (HB.o.alloc eO _)).mono ?_;rintro e w2 ⟨rfl,hb⟩;have aI:=AA ((HB.o.alloc eO (.cells #[.int .u8 x.kind,.int .i64 x.rho,.string x.exn] 59)).trans (hb.mono (by simp;omega)));have an:=AA ((aS.o.below ((Below.refl _ wr).alloc (Nat.le_refl _) (.cells #[.int .u8 x.kind,.int .i64 x.rho,.string x.exn] 59))).below hb);have f0:w2.cell? ⟨wr.heap.size,0,none⟩=some (.int .u8 x.kind):=by rw [hb.cell (by simp),AU];rfl
     have f1:w2.cell? ⟨wr.heap.size,1,none⟩=some (.int .i64 x.rho):=by rw [hb.cell (by simp),AU];rfl
     have f2:w2.cell? ⟨wr.heap.size,2,none⟩=some (.string x.exn):=by rw [hb.cell (by simp),AU];rfl
     obtain⟨o0,g0⟩:=an.o.cellSome (o:=i * 3) (by omega);obtain⟨o1,g1⟩:=an.o.cellSome (o:=i * 3+1) (by omega);obtain⟨o2,g2⟩:=an.o.cellSome (o:=i * 3+2) (by omega);obtain⟨u0,o0⟩:=Option.isSome_iff_exists.1 o0;obtain⟨u1,o1⟩:=Option.isSome_iff_exists.1 o1;obtain⟨u2,o2⟩:=Option.isSome_iff_exists.1 o2;clear hb d0 d1 d2;go_wp2_with fail;go_roundw
     case rel=>
      refine⟨i+1,j+1,dk.set i x,by go_num,by go_num,by omega,by omega,HI.o.keep HE.o HQ.o,an.o.setA i x (by omega),?_⟩
      have ej:base≤g:=by
       rcases an.o.2 with⟨h0,_⟩|⟨g',cap',cur,hv,hb,_⟩
       ·cases h0
       ·cases hv;exact hb
      exact((aI.o.setCell (p:=⟨g,i * 3,none⟩) ej _).setCell (p:=⟨g,i * 3+1,none⟩) ej _).setCell (p:=⟨g,i * 3+2,none⟩) ej _
     case measure=>simp [intOf];omega
    ·have HQ:=AA hq;clear hq;go_wp2_with fail;refine(HF.o.is (List.mem_of_getElem? HE.o) HQ.o (HB.o.alloc eO _)).mono ?_;rintro e w2 ⟨rfl,hb⟩;have aI:=AA ((HB.o.alloc eO (.cells #[.int .u8 x.kind,.int .i64 x.rho,.string x.exn] 59)).trans (hb.mono (by simp;omega)));have an:=AA ((aS.o.below ((Below.refl _ wr).alloc (Nat.le_refl _) (.cells #[.int .u8 x.kind,.int .i64 x.rho,.string x.exn] 59))).below hb);clear hb d0 d1 d2;go_wp2_with fail;go_roundw
     case rel=>exact⟨i,j+1,dk,rfl,by go_num,by omega,by omega,HI.o.skip HE.o HQ.o,an.o,aI.o⟩
     case measure=>simp [intOf];omega
   ·have iL:j=n:=by omega
    have cj:=fun ty=>Ft wr ty g (i * 3) (n-i) (cap-i) (by omega) (fun t ht=>(aS.o.cellSome (by omega)).1) (fun t ht=>(aS.o.cellSome (by omega)).2);go_wp2_with fail;go_ret;have fP:=HI.o.low;rw [iL,AY (l:=l) (by rw [HL.o];omega)] at fP;refine⟨i,rfl,by omega,?_,?_⟩
    ·have:=(AI.cut (n:=n) (m:=i) AC aS.o (by rw [HI.o.size,HL.o]) (by omega)).clearBehind AC (i * 3) (List.replicate (n-i) [Value.int .u8 0,.int .i64 0,.string .empty]).flatten (Nat.le_refl _);rw [fP] at this;exact this
    ·have ej:base≤g:=by
      rcases aS.o.2 with⟨h0,_⟩|⟨g',cap',cur,hv,hb,_⟩
      ·cases h0
      ·cases hv;exact hb
     exact AI.drop_base (enc:=AP) (k:=3) (Cq g _ _ _) ej HB.o (Nat.le_trans iH HB.o.size)
end
structure AF{α:Type}(enc:α→List Value)(k:Nat)(w:World)(p:Option Addr)(n cap:Nat)(l:List α):Prop where
 len:l.length=n
 max:n≤9223372036854775807
 le:n≤cap
 nil:p=none→cap=0
 row:At enc k w p l
section
variable {α:Type} {enc:α→List Value} {k:Nat} {w w':World} {p:Option Addr} {n cap:Nat} {l:List α}
theorem AF.below(h:AF enc k w p n cap l)(hb:Below w.heap.size w w'):AF enc k w' p n cap l:=⟨h.1,h.2,h.3,h.4,h.5.below hb⟩
theorem AF.alloc(h:AF enc k w p n cap l)(o:Obj):AF enc k (w.alloc o) p n cap l:=h.below bA
theorem AI.isRow{base e:Nat}{v:Value}(hk:∀x,(enc x).length=k)(bC:0<k)(h:AI enc k w base e v n l):∃p cap,v=.slice p n cap∧AF enc k w p n cap l:=by obtain⟨p,cap,hv,hl,hc,hr,hm,hn,_⟩:=h.row hk bC;unfold maxLen at hm;exact⟨p,cap,hv,hl,by omega,hc,fun e=>(hn e).2,hr⟩
theorem AF.none(enc:α→List Value)(k:Nat)(w:World):AF enc k w Option.none 0 0 []:=⟨rfl,by omega,by omega,fun _=>rfl,.inl rfl⟩
end
section
open Go.Sort Go.Lib
end
section
open Go.Sort Go.Lib
def CK(r:Int):List Int→List Int→Int
 |[],_=>r
 |f::fs,t=>if f=r then(t[0]?).getD r else CK r fs (t.drop 1)
def Fw(f t:List Int)(a:AB):AB:=if a.kind=3 then a else { a with rho:=CK a.rho f t }
end
section
open Go.Sort Go.Lib
theorem RZ(x:Int)(p:Option Addr)(n cap:Nat)(l:List Int)(w:World)(hn:l.length=n)(hm:n≤9223372036854775807)(hr:At Am 1 w p l):Calls prog 67 #[.slice p n cap,.int .i64 x] w fun e w'=>e=.returned (.int .i64 (Lib.idxOf l x))∧w'=w:=by
 by_cases h0:n=0
 ·subst h0;have:l=[]:=List.length_eq_zero_iff.1 hn;subst this;exact slices_Index_int_empty p cap x w
 ·obtain⟨b,o,rfl,_,hc⟩:=hr.at (by omega)
  have:=slices_Index_int b o n cap l x w (by omega) hm (fun j hj=>by
   have:=hc j (l[j]) (List.getElem?_eq_getElem hj) 0 _ rfl;simpa [List.getD,hj] using this)
  rw [List.take_of_length_le (by omega)] at this;exact this
theorem IP(x:Int):∀(f t:List Int) (i:Nat),(Lib.idxFrom f x i=-1∧CK x f t=x)∨∃k:Nat,k<f.length∧Lib.idxFrom f x i=((i+k:Nat):Int)∧CK x f t=(t[k]?).getD x
 |[],_,_=>.inl ⟨rfl,rfl⟩
 |y::f,t,i=>by
  unfold Lib.idxFrom CK;by_cases h:y=x
  ·rw [if_pos h,if_pos h];exact .inr ⟨0,by simp,rfl,rfl⟩
  ·rw [if_neg h,if_neg h];rcases IP x f (t.drop 1) (i+1) with h1|⟨k,hk,h1,h2⟩
   ·exact .inl h1
   ·refine .inr ⟨k+1,by simpa using hk,by rw [h1];congr 1;omega,?_⟩;rw [h2];simp [Nat.add_comm]
theorem IQ(x:Int)(f t:List Int):(Lib.idxOf f x=-1∧CK x f t=x)∨∃k:Nat,k<f.length∧Lib.idxOf f x=k∧CK x f t=(t[k]?).getD x:=by have:=IP x f t 0;simpa [Lib.idxOf] using this
theorem Cr(x:Int)(p:Option Addr)(n cap:Nat)(l:List Int)(w:World)(i:Int)(hi:Lib.idxOf l x=i)(hn:l.length=n)(hm:n≤9223372036854775807)(hr:At Am 1 w p l):Calls prog 67 #[.slice p n cap,.int .i64 x] w fun e w'=>e=.returned (.int .i64 i)∧w'=w:=by subst hi;exact RZ x p n cap l w hn hm hr
theorem Tp{f t:List Int}{kd rr z:Int}{ss:ByteArray}(h3:kd≠3)(h:CK rr f t=z):Fw f t ⟨kd,rr,ss⟩=⟨kd,z,ss⟩:=by subst h;unfold Fw;rw [if_neg h3]
theorem FP{f t:List Int}{kd rr:Int}{ss:ByteArray}(h:kd=3∨CK rr f t=rr):Fw f t ⟨kd,rr,ss⟩=⟨kd,rr,ss⟩:=by
 unfold Fw;by_cases h3:kd=3
 ·rw [if_pos h3]
 ·rw [if_neg h3,h.resolve_left h3]
def Ig(f t:List Int)(l:List AB):List AB:=Cv (((Cv (l.filter AM)).map (Fw f t)).filter AM)
theorem Jl(p:Option Addr)(n cap:Nat)(l:List AB)(p1:Option Addr)(n1 c1:Nat)(f:List Int)(p2:Option Addr)(n2 c2:Nat)(t:List Int)(w:World)(hn:l.length=n)(hm:n≤1000000)(hr:Cm w p l)(jw:f.length=n1)(iN:n1≤1000000)(eN:At Am 1 w p1 f)(iP:t.length=n2)(il:n2≤1000000)(dL:At Am 1 w p2 t):Calls prog 66 #[.slice p n cap,.slice p1 n1 c1,.slice p2 n2 c2] w fun e w'=>∃v,e=.returned v∧Sl AP 3 w' v (Ig f t l)∧Below w.heap.size w w':=by
 have HR:=AA hr;have HN:=AA hn;have fq:=AA eN;have eJ:=AA jw;have bK:=AA dL;have jE:=AA iP;clear hr hn eN jw dL iP;go_enter func66,ntmps66;go_wp2_with fail;refine(BW p n cap l _ HN.o hm HR.o).mono ?_;rintro e w1 ⟨v,m,rfl,eY,aD,hb⟩;obtain⟨q,mc,rfl,jR,js,aB,_⟩:=aD.row AC (by omega);have aa:=AA aB;have gz:=AA jR;have aO:=AA hb;generalize hS:Cv (l.filter AM)=S at aa gz;have HS:=AA hS;clear aD hb aB jR hS;go_wp2_with fail;go_loopw [7,10,14] (fun u _ i wr=>∃k:Nat,k≤m∧i=.int .i64 k∧AI AP 3 wr w1.heap.size 59 u k ((S.take k).map (Fw f t))∧Below w1.heap.size w1 wr) (fun _ _ i _=>m-(intOf i).toNat)
 case atStart=>exact⟨0,by omega,rfl,AI.nil _ _ _ _ _,Below.refl _ _⟩
 case round=>
  obtain⟨k,hk,rfl,aD,hb⟩:=hrel;have aS:=AA aD;have HB:=AA hb;clear aD hb;by_cases aG:k<m
  ·obtain⟨x,hx⟩:=Ac (l:=S) (j:=k) (by rw [gz.o];exact aG);have HE:=AA hx;obtain⟨b,o,rfl,al,d0,d1,d2⟩:=Cm.atom (aa.o.below HB.o) hx;clear hx al;obtain⟨kd,rr,ss⟩:=x;simp only at d0 d1 d2;have HW:=AA (aO.o.trans (HB.o.mono aO.o.size));by_cases fM:kd=3
   ·subst fM;have an:=AA (aS.o.below ((Below.refl _ wr).alloc (Nat.le_refl _) (.cells #[.int .u8 3,.int .i64 rr,.string ss] 59)));have aI:Hd (Below w1.heap.size w1 (wr.alloc (.cells #[.int .u8 3,.int .i64 rr,.string ss] 59))):=HB.o.alloc HB.o.size _;go_wp2_with fail;refine(Cr rr p1 n1 c1 f _ _ rfl eJ.o (by omega) ((fq.o.below HW.o).alloc _)).mono ?_;rintro e w2 ⟨rfl,rfl⟩;generalize Lib.idxOf f rr=c;go_wp2_with (at_builtin;refine Ae rfl _ _ 25 rfl w1.heap.size 59 _ 3 32 underlying25 BK rfl (by decide) AP AC AZ (⟨3,rr,ss⟩:AB) _ _ _ an.o rfl (by refine Eq.trans (b:=Value.slice (some ⟨wr.heap.size+1,0,none⟩) 1 1) rfl ?_;simp) ?c1 ?c2 ?c3 ?_)
    case c1=>omega
    case c2=>omega
    case c3=>exact aI.o.size
    ·intro v' w4 aH hg;have HO:=AA aH;have bQ:=AA (Below.own aI.o hg aI.o.size an.o);clear aH hg;go_wp2_with fail;go_roundw
     case rel=>exact⟨k+1,by omega,by go_num,by
      have e1:(S.take (k+1)).map (Fw f t)=(S.take k).map (Fw f t)++[(⟨3,rr,ss⟩:AB)]:=by rw [AJ HE.o,List.map_append];simp only [List.map_cons,List.map_nil];rw [FP (.inl rfl)]
      rw [e1,List.map_take];exact HO.o,bQ.o⟩
     case measure=>simp [intOf];omega
   ·have gJ:=AA fM;have pO:decide (kd=3)=false:=by simp [fM]
    rcases IQ rr f t with⟨hi,ht⟩|⟨j,hj,hi,ht⟩
    ·have HI:=AA hi;have HT:=AA ht;clear hi ht;have an:=AA (aS.o.below ((Below.refl _ wr).alloc (Nat.le_refl _) (.cells #[.int .u8 kd,.int .i64 rr,.string ss] 59)));have aI:Hd (Below w1.heap.size w1 (wr.alloc (.cells #[.int .u8 kd,.int .i64 rr,.string ss] 59))):=HB.o.alloc HB.o.size _;go_wp2_with fail;refine(Cr rr p1 n1 c1 f _ (-1) HI.o eJ.o (by omega) ((fq.o.below HW.o).alloc _)).mono ?_;rintro e w2 ⟨rfl,rfl⟩;go_wp2_with (at_builtin;refine Ae rfl _ _ 25 rfl w1.heap.size 59 _ 3 32 underlying25 BK rfl (by decide) AP AC AZ (⟨kd,rr,ss⟩:AB) _ _ _ an.o rfl (by refine Eq.trans (b:=Value.slice (some ⟨wr.heap.size+1,0,none⟩) 1 1) rfl ?_;simp) ?c1 ?c2 ?c3 ?_)
     case c1=>omega
     case c2=>omega
     case c3=>exact aI.o.size
     ·intro v' w4 aH hg;have HO:=AA aH;have bQ:=AA (Below.own aI.o hg aI.o.size an.o);clear aH hg;go_wp2_with fail;go_roundw
      case rel=>exact⟨k+1,by omega,by go_num,by
       have e1:(S.take (k+1)).map (Fw f t)=(S.take k).map (Fw f t)++[(⟨kd,rr,ss⟩:AB)]:=by rw [AJ HE.o,List.map_append];simp only [List.map_cons,List.map_nil];rw [FP (.inr HT.o)]
       rw [e1,List.map_take];exact HO.o,bQ.o⟩
      case measure=>simp [intOf];omega
    ·have HI:=AA hi;have HT:=AA ht;clear hi ht;have nI:j<n1:=by have:=eJ.o;omega
     by_cases jl:j<n2
     ·obtain⟨z,hz⟩:=Ac (l:=t) (j:=j) (by rw [jE.o];exact jl);have jK:Hd (CK rr f t=z):=by show CK rr f t=z;rw [HT.o,hz];rfl
      obtain⟨b',o',rfl,e0⟩:=(((bK.o.below HW.o).alloc (.cells #[.int .u8 kd,.int .i64 rr,.string ss] 59))).num hz;clear hz;have an:=AA (aS.o.below ((Below.refl _ wr).alloc (Nat.le_refl _) (.cells #[.int .u8 kd,.int .i64 z,.string ss] 59)));have aI:Hd (Below w1.heap.size w1 (wr.alloc (.cells #[.int .u8 kd,.int .i64 z,.string ss] 59))):=HB.o.alloc HB.o.size _;go_wp2_with fail;refine(Cr rr p1 n1 c1 f _ (j:Int) HI.o eJ.o (by omega) ((fq.o.below HW.o).alloc _)).mono ?_;rintro e w2 ⟨rfl,rfl⟩;go_wp2_with (at_builtin;refine Ae rfl _ _ 25 rfl w1.heap.size 59 _ 3 32 underlying25 BK rfl (by decide) AP AC AZ (⟨kd,z,ss⟩:AB) _ _ _ an.o rfl (by refine Eq.trans (b:=Value.slice (some ⟨wr.heap.size+1,0,none⟩) 1 1) rfl ?_;simp) ?c1 ?c2 ?c3 ?_)
      case c1=>omega
      case c2=>omega
      case c3=>exact aI.o.size
      ·intro v' w4 aH hg;have HO:=AA aH;have bQ:=AA (Below.own aI.o hg aI.o.size an.o);clear aH hg;go_wp2_with fail;go_roundw
       case rel=>exact⟨k+1,by omega,by go_num,by
        have e1:(S.take (k+1)).map (Fw f t)=(S.take k).map (Fw f t)++[(⟨kd,z,ss⟩:AB)]:=by rw [AJ HE.o,List.map_append];simp only [List.map_cons,List.map_nil];rw [Tp gJ.o jK.o]
        rw [e1,List.map_take];exact HO.o,bQ.o⟩
       case measure=>simp [intOf];omega
     ·have HZ:Hd (CK rr f t=rr):=by show CK rr f t=rr;rw [HT.o,List.getElem?_eq_none (by rw [jE.o];omega)];rfl
      have an:=AA (aS.o.below ((Below.refl _ wr).alloc (Nat.le_refl _) (.cells #[.int .u8 kd,.int .i64 rr,.string ss] 59)));have aI:Hd (Below w1.heap.size w1 (wr.alloc (.cells #[.int .u8 kd,.int .i64 rr,.string ss] 59))):=HB.o.alloc HB.o.size _;go_wp2_with fail;refine(Cr rr p1 n1 c1 f _ (j:Int) HI.o eJ.o (by omega) ((fq.o.below HW.o).alloc _)).mono ?_;rintro e w2 ⟨rfl,rfl⟩;go_wp2_with (at_builtin;refine Ae rfl _ _ 25 rfl w1.heap.size 59 _ 3 32 underlying25 BK rfl (by decide) AP AC AZ (⟨kd,rr,ss⟩:AB) _ _ _ an.o rfl (by refine Eq.trans (b:=Value.slice (some ⟨wr.heap.size+1,0,none⟩) 1 1) rfl ?_;simp) ?c1 ?c2 ?c3 ?_)
      case c1=>omega
      case c2=>omega
      case c3=>exact aI.o.size
      ·intro v' w4 aH hg;have HO:=AA aH;have bQ:=AA (Below.own aI.o hg aI.o.size an.o);clear aH hg;go_wp2_with fail;go_roundw
       case rel=>exact⟨k+1,by omega,by go_num,by
        have e1:(S.take (k+1)).map (Fw f t)=(S.take k).map (Fw f t)++[(⟨kd,rr,ss⟩:AB)]:=by rw [AJ HE.o,List.map_append];simp only [List.map_cons,List.map_nil];rw [FP (.inr HZ.o)]
        rw [e1,List.map_take];exact HO.o,bQ.o⟩
       case measure=>simp [intOf];omega
  ·obtain rfl:k=m:=by omega
   have aD:=aS.o;have HE:Hd (Cv ((S.map (Fw f t)).filter AM)=Ig f t l):=by show _=Ig f t l;unfold Ig;rw [HS.o]
   rw [AY (by rw [gz.o];exact Nat.le_refl _)] at aD;obtain⟨q',c',rfl,eo,fK,ah,_⟩:=aD.row AC (by omega);have lL:=AA eo;have dF:=AA ah;clear aD eo ah;go_wp2_with fail;refine(BW q' k c' (S.map (Fw f t)) wr lL.out (by omega) dF.out).mono ?_;rintro e w3 ⟨v,m',rfl,_,aD,hb⟩;rw [HE.o] at aD;have HO:=AA (aD.sl AC (by omega));have aT:=AA ((aO.o.trans (HB.o.mono aO.o.size)).trans (hb.mono (aO.o.trans (HB.o.mono aO.o.size)).size));clear aD hb;go_wp2_with fail;go_ret;exact⟨_,rfl,HO.o,aT.o⟩
end
section
open Go.Sort Go.Lib
def VV(l:List ByteArray)(x:ByteArray):Bool:=l.any (fun y=>decide (y=x))
theorem UR(l:List ByteArray)(x:ByteArray):VV l x=true↔x∈l:=by
 unfold VV;rw [List.any_eq_true];constructor
 ·rintro⟨y,hy,h⟩;have:y=x:=by simpa using h
  subst this;exact hy
 ·intro h;exact⟨x,h,by simp⟩
theorem UQ(l:List Int)(x:Int):FA l x=true↔x∈l:=by
 unfold FA;rw [List.any_eq_true];constructor
 ·rintro⟨y,hy,h⟩;have:y=x:=by simpa using h
  subst this;exact hy
 ·intro h;exact⟨x,h,by simp⟩
theorem Eg{p:Option Addr}{n cap:Nat}{l:List Int}{w:World}(h:AF Am 1 w p n cap l)(x:Int):Calls prog 183 #[.slice p n cap,.int .i64 x] w fun e w'=>e=.returned (.bool (FA l x))∧w=w':=by
 have e1:FA l x=l.contains x:=by rw [Bool.eq_iff_iff,UQ];simp
 by_cases h0:n=0
 ·subst h0;have:l=[]:=List.length_eq_zero_iff.1 h.len;subst this;exact(slices_Contains_int_empty p cap x w).mono fun _ _ ⟨he,hw⟩=>⟨he,hw.symm⟩
 ·obtain⟨b,o,rfl,_,hc⟩:=h.row.at (by rw [h.len];omega)
  have:=slices_Contains_int b o n cap l x w (by rw [h.len];omega) h.max (fun j hj=>by
   have:=hc j (l[j]) (List.getElem?_eq_getElem hj) 0 _ rfl;simpa [List.getD,hj] using this)
  rw [List.take_of_length_le (by rw [h.len];omega),←e1] at this;exact this.mono fun _ _ ⟨he,hw⟩=>⟨he,hw.symm⟩
theorem Ky{p:Option Addr}{n cap:Nat}{l:List ByteArray}{w:World}(h:AF Gx 1 w p n cap l)(x:ByteArray):Calls prog 222 #[.slice p n cap,.string x] w fun e w'=>e=.returned (.bool (VV l x))∧w=w':=by
 have e1:VV l x=Lib.containsS l x:=by rw [Bool.eq_iff_iff,Lib.containsS_iff,UR]
 by_cases h0:n=0
 ·subst h0;have:l=[]:=List.length_eq_zero_iff.1 h.len;subst this;exact(slices_Contains_string_empty p cap x w).mono fun _ _ ⟨he,hw⟩=>⟨he,hw.symm⟩
 ·obtain⟨b,o,rfl,_,hc⟩:=h.row.at (by rw [h.len];omega)
  have:=slices_Contains_string b o n cap l x w (by rw [h.len];omega) h.max (fun j hj=>by
   have:=hc j (l[j]) (List.getElem?_eq_getElem hj) 0 _ rfl;simpa [List.getD,hj] using this)
  rw [List.take_of_length_le (by rw [h.len];omega),←e1] at this;exact this.mono fun _ _ ⟨he,hw⟩=>⟨he,hw.symm⟩
theorem KR(fid:FuncId)(caps:Array Value)(ag:DJ fid)(w:World):Calls prog 250 #[.slice none 0 0,.func (.func fid) #[] caps] w (RB w (.slice none 0 0)):=by
 have lF:=AA (EB fid caps (fun _=>true) ag none 0 0 [] w rfl (by omega) (.inl rfl) (fun x hx=>by cases hx));clear ag;go_enter func250,ntmps250;go_wp2_with fail;refine lF.o.mono ?_;rintro e w1 ⟨⟨r,rfl,hr⟩,hb⟩
 have eN:r=-1:=by
  rcases hr with⟨h,_⟩|⟨k,x,_,hx,_⟩
  ·exact h
  ·simp at hx
 subst eN;have HB:=AA hb;clear hb;clear hr;go_wp2_with fail;go_ret;exact⟨rfl,HB.o⟩
theorem IF.trans{fid:FuncId}{caps:Array Value}{B:Nat}{w w':World}{l:List AB}{q:AB→Bool}(h:IF fid caps B w l q)(hb:Below B w w'):IF fid caps B w' l q:=fun x hx W hW=>h x hx W (hb.trans hW)
theorem Nx(fid:FuncId)(caps:Array Value)(q:AB→Bool)(ag:DJ fid){p:Option Addr}{n cap:Nat}{l:List AB}{w:World}(hr:AF AP 3 w p n cap l)(hm:n≤1000000)(hf:IF fid caps w.heap.size w (Cv (l.filter AM)) q):Calls prog 220 #[.slice p n cap,.func (.func fid) #[] caps] w fun e w'=>∃v m,e=.returned v∧m≤n∧AI AP 3 w' w.heap.size 59 v m ((Cv (l.filter AM)).filter (fun x=>!q x))∧Below w.heap.size w w':=by
 have HR:=AA hr;have HF:=AA hf;clear hr hf;have ns:=AA (fun W=>KR fid caps ag W)
 have HD:=AA (fun(g c m:Nat) (W:World) (h:AI AP 3 W w.heap.size 59 (.slice (some ⟨g,0,none⟩) m c) m (Cv (l.filter AM))) (h1:m≤c) (h2:m≤1000000) (hb:Below w.heap.size w W)=>
  KQ fid caps q ag g c m _ w.heap.size W h h1 h2 hb.size (HF.o.trans hb))
 clear ag;go_enter func220,ntmps220;go_wp2_with fail;refine(BW p n cap l _ HR.o.len hm HR.o.row).mono ?_;rintro e w1 ⟨v,m,rfl,eY,aD,hb⟩;rcases aD.split AC (by omega) with⟨rfl,rfl,aY⟩|⟨g,cp,rfl,iI,fJ⟩
 ·have d7:=AA aY;have HB:=AA hb;clear hb;clear aD aY;go_wp2_with fail;refine(ns.o _).mono ?_;rintro e w2 ⟨rfl,hb⟩;have aI:=bt HB hb;clear hb;go_wp2_with fail;go_ret;exact⟨_,0,rfl,by omega,by rw [d7.o];exact AI.nil _ _ _ _ _,aI.o⟩
 ·have HO:=AA aD;have HB:=AA hb;clear hb;clear aD;go_wp2_with fail;refine(HD.o g cp m _ HO.o iI (by omega) HB.o).mono ?_;rintro e w2 ⟨m',rfl,cq,eZ,hb⟩;have an:=AA eZ;have aI:=AA (HB.o.trans hb);clear hb eZ;go_wp2_with fail;go_ret;exact⟨_,m',rfl,by omega,an.o,aI.o⟩
def L0(rhos:List Int)(x:AB):Bool:=decide (x.kind≠3)&&FA rhos x.rho
theorem NP(x:AB)(ad:Addr)(q:Option Addr)(m mc:Nat)(l:List Int)(w:World)(af:w.cell? ad=some (.slice q m mc))(hr:AF Am 1 w q m mc l):Calls prog 223 #[MT x,.pointer (some ad)] w (RB w (.bool (L0 l x))):=by
 have dP:(w.alloc (.cells #[.int .u8 x.kind,.int .i64 x.rho,.string x.exn] 59)).cell? ad=some (.slice q m mc):=by rw [GH (BC af)];exact af
 obtain⟨kd,rr,ss⟩:=x;have HR:=AA hr;clear hr;clear af;by_cases h3:kd=3
 ·subst h3;go_enter func223,ntmps223;go_wp2_with fail;go_ret;exact⟨rfl,bA⟩
 ·have lc:(kd != 3)=true:=by simpa using h3
  have HG:Hd (L0 l ⟨kd,rr,ss⟩=FA l rr):=by show _=_;simp [L0,h3]
  clear h3;go_enter func223,ntmps223;go_wp2_with fail;refine(Eg (HR.o.alloc _) rr).mono ?_;rintro e w1 ⟨rfl,rfl⟩;go_wp2_with fail;go_ret;exact⟨AE HG.o.symm,bA⟩
def Cw(l:List AB)(rhos:List Int):List AB:=(Cv (l.filter AM)).filter (fun x=>!L0 rhos x)
theorem Hn{p:Option Addr}{n cap:Nat}{l:List AB}{q:Option Addr}{m mc:Nat}{rhos:List Int}{w:World}(hr:AF AP 3 w p n cap l)(hm:n≤1000000)(ah:AF Am 1 w q m mc rhos):Calls prog 196 #[.slice p n cap,.slice q m mc] w fun e w'=>∃v k,e=.returned v∧k≤n∧AI AP 3 w' w.heap.size 59 v k (Cw l rhos)∧Below w.heap.size w w':=by
 have HD:=AA (fun t=>Nx 223 #[.pointer (some ⟨w.heap.size,0,none⟩)] (L0 rhos) (fun a w=>call223 a w) (hr.alloc (.cells #[.slice q m mc] t)) hm
  (fun x _ W hW=>by
   have:=NP x ⟨w.heap.size,0,none⟩ q m mc rhos W (by rw [hW.cell (by simp),AU];rfl) ((ah.alloc _).below hW);simpa using this))
 clear hr ah;go_enter func196,ntmps196;go_wp2_with fail;refine(HD.o _).mono ?_;rintro e w1 ⟨v,k,rfl,hk,aD,hb⟩;have HB:=AA (((Below.refl _ w).alloc (Nat.le_refl _) _).trans (hb.mono (by simp)));have HO:=AA (aD.lower (base':=w.heap.size) (by simp));clear hb aD;go_wp2_with fail;go_ret;exact⟨_,k,rfl,hk,HO.o,HB.o⟩
def JS(exns:List ByteArray)(x:AB):Bool:=decide (x.kind=3)&&VV exns x.exn
theorem Mj(x:AB)(ad:Addr)(q:Option Addr)(m mc:Nat)(l:List ByteArray)(w:World)(af:w.cell? ad=some (.slice q m mc))(hr:AF Gx 1 w q m mc l):Calls prog 221 #[MT x,.pointer (some ad)] w (RB w (.bool (JS l x))):=by
 have dP:(w.alloc (.cells #[.int .u8 x.kind,.int .i64 x.rho,.string x.exn] 59)).cell? ad=some (.slice q m mc):=by rw [GH (BC af)];exact af
 obtain⟨kd,rr,ss⟩:=x;have HR:=AA hr;clear hr;clear af;by_cases h3:kd=3
 ·subst h3;have HG:Hd (JS l ⟨3,rr,ss⟩=VV l ss):=by show _=_;simp [JS]
  go_enter func221,ntmps221;go_wp2_with fail;refine(Ky (HR.o.alloc _) ss).mono ?_;rintro e w1 ⟨rfl,rfl⟩;go_wp2_with fail;go_ret;exact⟨AE HG.o.symm,bA⟩
 ·have lc:(kd==3)=false:=by rw [beq_eq_false_iff_ne];exact h3
  have HG:Hd (JS l ⟨kd,rr,ss⟩=false):=by show _=_;simp [JS,h3]
  clear h3;go_enter func221,ntmps221;go_wp2_with fail;go_ret;exact⟨AE HG.o.symm,bA⟩
def CZ(l:List AB)(exns:List ByteArray):List AB:=(Cv (l.filter AM)).filter (fun x=>!JS exns x)
theorem Hm{p:Option Addr}{n cap:Nat}{l:List AB}{q:Option Addr}{m mc:Nat}{exns:List ByteArray}{w:World}(hr:AF AP 3 w p n cap l)(hm:n≤1000000)(ah:AF Gx 1 w q m mc exns):Calls prog 195 #[.slice p n cap,.slice q m mc] w fun e w'=>∃v k,e=.returned v∧k≤n∧AI AP 3 w' w.heap.size 59 v k (CZ l exns)∧Below w.heap.size w w':=by
 have HD:=AA (fun t=>Nx 221 #[.pointer (some ⟨w.heap.size,0,none⟩)] (JS exns) (fun a w=>call221 a w) (hr.alloc (.cells #[.slice q m mc] t)) hm
  (fun x _ W hW=>by
   have:=Mj x ⟨w.heap.size,0,none⟩ q m mc exns W (by rw [hW.cell (by simp),AU];rfl) ((ah.alloc _).below hW);simpa using this))
 clear hr ah;go_enter func195,ntmps195;go_wp2_with fail;refine(HD.o _).mono ?_;rintro e w1 ⟨v,k,rfl,hk,aD,hb⟩;have HB:=AA (((Below.refl _ w).alloc (Nat.le_refl _) _).trans (hb.mono (by simp)));have HO:=AA (aD.lower (base':=w.heap.size) (by simp));clear hb aD;go_wp2_with fail;go_ret;exact⟨_,k,rfl,hk,HO.o,HB.o⟩
end
section
open Go.Sort Go.Lib
theorem Dq{l:List AB}(h:BS l=false):l.length≤200:=by unfold BS at h;simp only [Bool.or_eq_false_iff,decide_eq_false_iff_not] at h;have:=h.1;omega
theorem Or{w:World}{p q:Option Addr}{n m nc mc:Nat}(l l':List AB)(t:TypeId):At Eu 1 (w.alloc (.cells #[.slice p n nc,.slice q m mc] t)) (some ⟨w.heap.size,0,none⟩) [⟨p,n,nc,l⟩,⟨q,m,mc,l'⟩]:=At.newAt Lv w _ _ rfl _ _ _ rfl
theorem Tt{w:World}{p q:Option Addr}{n m nc mc:Nat}{l l':List AB}(h:AF AP 3 w p n nc l)(h':AF AP 3 w q m mc l'):∀r∈[(⟨p,n,nc,l⟩:Lq AB),⟨q,m,mc,l'⟩],r.Ok AP 3 w:=by
 intro r hr;simp only [List.mem_cons,List.not_mem_nil,or_false] at hr;rcases hr with rfl|rfl
 ·exact⟨h.len,h.le,h.nil,h.row⟩
 ·exact⟨h'.len,h'.le,h'.nil,h'.row⟩
theorem De(l:List AB)(rhos:List Int)(x:AB):x∈Cw l rhos↔x∈l∧AM x=true∧L0 rhos x=false:=by unfold Cw;rw [List.mem_filter,By,List.mem_filter];simp [and_assoc]
theorem Dd(l:List AB)(exns:List ByteArray)(x:AB):x∈CZ l exns↔x∈l∧AM x=true∧JS exns x=false:=by unfold CZ;rw [List.mem_filter,By,List.mem_filter];simp [and_assoc]
abbrev BE(l:List AB):List AB:=Cv (l.filter AM)
theorem Qo{w:World}{p:Option Addr}{n nc:Nat}(l:List AB)(t:TypeId):At Eu 1 (w.alloc (.cells #[.slice p n nc] t)) (some ⟨w.heap.size,0,none⟩) [⟨p,n,nc,l⟩]:=At.newAt Lv w _ _ rfl _ _ _ rfl
theorem TH{w:World}{p:Option Addr}{n nc:Nat}{l:List AB}(h:AF AP 3 w p n nc l):∀r∈[(⟨p,n,nc,l⟩:Lq AB)],r.Ok AP 3 w:=by intro r hr;simp only [List.mem_cons,List.not_mem_nil,or_false] at hr;subst hr;exact⟨h.len,h.le,h.nil,h.row⟩
end
def Dg(a:Int):List Int→List Int
 |[]=>[a]
 |b::l=>if IU a b then a::b::l else b::Dg a l
def Hx(a:Int)(e:List Int):List Int:=if FA e a then e else Dg a e
theorem Ei(a:Int):∀l:List Int,(Dg a l).length=l.length+1
 |[]=>rfl
 |b::l=>by
  simp only [Dg];split
  ·rfl
  ·simp [Ei a l]
theorem GS(a x:Int):∀l:List Int,x∈Dg a l↔x=a∨x∈l
 |[]=>by simp [Dg]
 |b::l=>by
  unfold Dg;by_cases h:IU a b=true
  ·rw [if_pos h];simp
  ·rw [if_neg h,List.mem_cons,GS a x l,List.mem_cons];constructor
   ·rintro(h|h|h)
    ·exact .inr (.inl h)
    ·exact .inl h
    ·exact .inr (.inr h)
   ·rintro(h|h|h)
    ·exact .inr (.inl h)
    ·exact .inl h
    ·exact .inr (.inr h)
theorem GZ(a:Int):∀l:List Int,A9 IU l→a∉l→A9 IU (Dg a l)
 |[],_,_=>by simp [Dg,A9]
 |b::l,hr,hn=>by
  obtain⟨hb,hl⟩:=List.pairwise_cons.1 hr;unfold Dg;by_cases h:IU a b=true
  ·rw [if_pos h];refine List.pairwise_cons.2 ⟨fun x hx=>?_,hr⟩;rcases List.mem_cons.1 hx with rfl|hx
   ·exact h
   ·exact I6 _ _ _ h (hb x hx)
  ·rw [if_neg h];refine List.pairwise_cons.2 ⟨fun x hx=>?_,GZ a l hl (fun h=>hn (List.mem_cons_of_mem _ h))⟩;rcases (GS a x l).1 hx with rfl|hx
   ·cases e:IU b x with
    |true=>rfl
    |false=>exact absurd (List.mem_cons.2 (.inl (J5 _ _ (by simpa using h) e))) hn
   ·exact hb x hx
theorem D5(l:List Int)(x:Int):FA l x=true↔x∈l:=by
 unfold FA;rw [List.any_eq_true];constructor
 ·rintro⟨y,hy,h⟩;have:y=x:=by simpa using h
  subst this;exact hy
 ·intro h;exact⟨x,h,by simp⟩
theorem S8(a x:Int)(l:List Int):x∈Hx a l↔x=a∨x∈l:=by
 unfold Hx;by_cases h:FA l a=true
 ·rw [if_pos h];constructor
  ·exact .inr
  ·rintro(rfl|h')
   ·exact(D5 _ _).1 h
   ·exact h'
 ·rw [if_neg h,GS]
theorem OZ(a:Int)(l:List Int)(hr:A9 IU l):A9 IU (Hx a l):=by
 unfold Hx;by_cases h:FA l a=true
 ·rw [if_pos h];exact hr
 ·rw [if_neg h];exact GZ a l hr (fun hm=>h ((D5 l a).2 hm))
theorem OT(a:Int)(l:List Int):(Hx a l).length≤l.length+1:=by
 unfold Hx;split
 ·omega
 ·rw [Ei];omega
theorem Kc:(prog.info? 3).map (fun i=>(i.zero,i.size,i.bytes))=some (some (.int .i64 0),1,8):=by kernel_rfl
theorem FI(y:Int):∀u∈Am y,u.oneCell'=true:=by intro u hu;simp [Am] at hu;subst hu;rfl
theorem Q3(a b:ByteArray):(a.toList==b.toList)=decide (a=b):=by
 by_cases h:a=b
 ·subst h;simp
 ·rw [decide_eq_false h,beq_eq_false_iff_ne];exact fun e=>h (Fk e)
section
open Go.Sort Go.Lib
theorem Qe(l:List Int):l.flatMap Am=l.map (Value.int .i64):=by
 induction l with
 |nil=>rfl
 |cons a l ih=>rw [List.flatMap_cons,ih];rfl
theorem Ph{w:World}{g:Nat}{cur:Array Value}{e:TypeId}{ss:List Int}(hb:w.heap[g]?=some (.cells cur e (0,0)))(ht:cur.toList.take ss.length=ss.map (Value.int .i64)):Holds (Value.int .i64) w g 0 ss.toArray:=by
 intro j hj;have eC:j<ss.length:=by simpa using hj
 refine⟨?_,by simp [World.frozen?,hb]⟩;have h1:(cur.toList.take ss.length)[j]?=(ss.map (Value.int .i64))[j]?:=by rw [ht]
 rw [List.getElem?_take_of_lt eC] at h1;simp only [World.cell?,hb,Nat.zero_add];simp only [Option.isSome_none,Bool.false_eq_true,if_false];rw [←Array.getElem?_toList,h1];simp [eC]
theorem NG(cur:Array Value)(ts:List Int)(h:ts.length≤cur.size):(putCells (Value.int .i64) 0 ts.toArray cur).toList.take ts.length=ts.map (Value.int .i64):=by
 apply List.ext_getElem?;intro j;by_cases hj:j<ts.length
 ·rw [List.getElem?_take_of_lt hj,Array.getElem?_toList];simp [putCells,hj,show j<cur.size by omega]
 ·rw [List.getElem?_take_eq_none (by omega),List.getElem?_eq_none (by simp;omega)]
theorem Ml{w:World}{g n:Nat}{os:Array Obj}{cur:Array Value}{e:TypeId}{fr:Nat×Nat}(d:Array Int)(hb:w.heap[g]?=some (.cells cur e fr)):(grow (putRow (Value.int .i64) (Sort.ahead w n) g 0 d) os).heap[g]?=some (.cells (putCells (Value.int .i64) 0 d cur) e fr):=by have hg:g<w.heap.size:=(Array.getElem?_eq_some_iff.1 hb).1;rw [heap_grow_old _ _ (by simpa using hg)];simp [putRow,mapBlock,Sort.ahead,Array.getElem?_modify,hb,onCells]
theorem Jo{w:World}{g n:Nat}{os:Array Obj}(d:Array Int):w.grownBy (grow (putRow (Value.int .i64) (Sort.ahead w n) g 0 d) os) (some g):=by refine⟨rfl,rfl,rfl,by simp,fun k hk aR=>?_⟩;rw [heap_grow_old _ _ (by simpa using hk)];have:g≠k:=fun e=>aR (by rw [e]);simp [putRow,mapBlock,Sort.ahead,Array.getElem?_modify,this]
theorem AI.holdsN{w:World}{base e n g cap:Nat}{l:List Int}(h:AI Am 1 w base e (.slice (some ⟨g,0,none⟩) n cap) n l):Holds (Value.int .i64) w g 0 l.toArray∧g<w.heap.size:=by
 have cP:=h.len Ap (by omega);rcases h.2 with⟨h0,_⟩|⟨g',cap',cur,hv,hb,hg,hn,hm,hs,ht⟩
 ·cases h0
 ·cases hv
  refine⟨Ph hg ?_,(Array.getElem?_eq_some_iff.1 hg).1⟩;rw [←Qe,cP];simpa using ht
theorem AI.putN{w:World}{base e n g cap:Nat}{l l':List Int}(h:AI Am 1 w base e (.slice (some ⟨g,0,none⟩) n cap) n l)(hl:l'.length=l.length)(m:Nat)(os:Array Obj):AI Am 1 (grow (putRow (Value.int .i64) (Sort.ahead w m) g 0 l'.toArray) os) base e (.slice (some ⟨g,0,none⟩) n cap) n l'∧w.grownBy (grow (putRow (Value.int .i64) (Sort.ahead w m) g 0 l'.toArray) os) (some g):=by
 have cP:=h.len Ap (by omega);rcases h.2 with⟨h0,_⟩|⟨g',cap',cur,hv,hb,hg,hn,hm,hs,ht⟩
 ·cases h0
 ·cases hv
  refine⟨⟨by rw [Qe];simp [hl,cP],.inr ⟨g,cap,_,rfl,hb,Ml _ hg,hn,hm,by simp [putCells,hs],?_⟩⟩,Jo _⟩;rw [Qe,Nat.mul_one,←cP,←hl];exact NG cur l' (by rw [hl,cP,hs];omega)
theorem Pe(w:World):grow w #[]=w:=by simp [grow]
theorem EH{d:Array Int}(h:∀i j,i<j→j<d.size→IU d[j]! d[i]! = false):∀m,m≤d.size→A9 IU (compactUpTo d m)
 |0,_=>by simp [compactUpTo,A9]
 |m+1,hm=>by
  rw [compactUpTo_succ];by_cases c:keeps d m=true
  ·rw [if_pos c];refine List.pairwise_append.2 ⟨EH h m (by omega),by simp,?_⟩;intro x hx y hy;obtain⟨j,hj,rfl⟩:=(Ca d x m).1 hx;have:y=d[m]!:=by simpa using hy
   subst this;have hc:m=0∨d[m]!≠d[m-1]!:=by simpa [keeps] using c
   have aR:d[m]!≠d[m-1]!:=hc.resolve_left (by omega);have h1:=h (m-1) m (by omega) (by omega)
   have h2:j=m-1∨IU d[m-1]! d[j]! = false:=by
    by_cases e:j=m-1
    ·exact .inl e
    ·exact .inr (h j (m-1) (by omega) (by omega))
   unfold IU at h1 h2 ⊢;simp only [decide_eq_true_eq,decide_eq_false_iff_not] at h1 h2 ⊢;rcases h2 with e|h2
   ·rw [e];omega
   ·omega
  ·rw [if_neg c,List.append_nil];exact EH h m (by omega)
abbrev Dt(l:List Int):List Int:=l.mergeSort fun x y=>decide (x≤y)
theorem LU(l:List Int):(Dt l).Pairwise (fun a b=>IU b a=false):=by have:=List.pairwise_mergeSort (le:=fun x y:Int=>decide (x≤y)) (fun a b c h1 h2=>by simp at *;omega) (fun a b=>by simp;omega) l;refine this.imp ?_;intro a b h;unfold IU;simp at h ⊢;omega
theorem Eb(l:List Int):compact (Dt l)=BU l:=by
 refine KW ?_ ?_
 ·unfold compact;refine EH ?_ _ (by simp);intro i j kb hj;have eC:j<(Dt l).length:=by simpa using hj
  rw [getElem!_pos _ j hj,getElem!_pos _ i (by omega)];simpa using List.pairwise_iff_getElem.1 (LU l) i j (by omega) eC kb
 ·intro a;unfold compact;rw [Ca];constructor
  ·rintro⟨j,hj,rfl⟩;rw [getElem!_pos _ j (by simpa using hj)];exact List.mem_mergeSort.1 (List.getElem_mem (l:=Dt l) (by simpa using hj))
  ·intro ha;have:a∈Dt l:=by simpa [Dt] using ha
   obtain⟨j,hj,e⟩:=List.getElem_of_mem this;exact⟨j,hj,by rw [getElem!_pos _ j (by simpa using hj)];simpa using e⟩
theorem JC(g cap n:Nat)(l:List Int)(base:Nat)(w:World)(h:AI Am 1 w base 3 (.slice (some ⟨g,0,none⟩) n cap) n l)(hn:n≤1000000000):Calls prog 172 #[.slice (some ⟨g,0,none⟩) n cap] w fun e w'=>e=.returned (.tuple #[])∧AI Am 1 w' base 3 (.slice (some ⟨g,0,none⟩) n cap) n (Dt l)∧w.grownBy w' (some g):=by obtain⟨hH,hb⟩:=h.holdsN;have cP:=h.len Ap (by omega);have:=slices_Sort_int g 0 cap l w hH hb (by omega);rw [cP] at this;refine this.mono ?_;rintro e w' ⟨he,m,os,rfl⟩;obtain⟨h1,h2⟩:=h.putN (l':=Dt l) (by simp) m os;exact⟨he,h1,h2⟩
theorem FX(g cap n:Nat)(l:List Int)(base:Nat)(w:World)(h:AI Am 1 w base 3 (.slice (some ⟨g,0,none⟩) n cap) n l)(ci:n≤cap)(hn:n≤1000000000) :
 Calls prog 126 #[.slice (some ⟨g,0,none⟩) n cap] w fun e w'=>∃m,e=.returned (.slice (some ⟨g,0,none⟩) m cap)∧m≤n∧AI Am 1 w' base 3 (.slice (some ⟨g,0,none⟩) m cap) m (compact l)∧w.grownBy w' (some g):=by
 obtain⟨hH,hb⟩:=h.holdsN
 have cP:=h.len Ap (by omega)
 have:=slices_Compact_int g 0 cap l w hH (by omega) (by omega)
 rw [cP] at this
 have dC:(compact l).length≤n:=by rw [←cP];exact compact_length_le l
 refine this.mono ?_
 rintro e w' ⟨he,q,rfl⟩
 obtain⟨h1,h2⟩:=h.putN (l':=compact l++List.replicate (n-(compact l).length) 0) (by simp;omega) q #[]
 rw [Pe] at h1 h2
 refine⟨(compact l).length,he,dC,?_,h2⟩
 have h3:=AI.cut (m:=(compact l).length) Ap h1 (by simp;omega) dC
 rw [List.take_append_of_le_length (Nat.le_refl _),List.take_length] at h3
 exact h3
end
section
open Go.Sort Go.Lib
def Um{α:Type}(enc:α→List Value)(k:Nat)(w:World)(e:Ending)(l:List α):Prop:=∃p n c,e=.returned (.slice p n c)∧AF enc k w p n c l
theorem Um.mk{α:Type}{enc:α→List Value}{k:Nat}{w:World}{p:Option Addr}{n c:Nat}{l:List α}(h:AF enc k w p n c l):Um enc k w (.returned (.slice p n c)) l:=⟨p,n,c,rfl,h⟩
end
def Gw{α:Type}(enc:α→List Value)(k:Nat)(w:World)(base:Nat)(e:TypeId)(v:Value)(n:Nat)(l:List α):Prop:=AI enc k w base e v n l∨∃p,v=.slice p 0 0∧n=0∧l=[]
section
variable {α:Type} {enc:α→List Value} {k:Nat} {w w':World} {base base' e n:Nat} {v:Value} {l:List α}
theorem AI.z(h:AI enc k w base e v n l):Gw enc k w base e v n l:=.inl h
theorem Gw.lit(enc:α→List Value)(k:Nat)(w:World)(base:Nat)(e:TypeId)(p:Option Addr):Gw enc k w base e (.slice p 0 0) 0 []:=.inr ⟨p,rfl,rfl,rfl⟩
theorem Gw.below(h:Gw enc k w base e v n l)(hb:Below w.heap.size w w'):Gw enc k w' base e v n l:=h.elim (fun h=>.inl (h.below hb)) .inr
theorem Gw.lower(h:Gw enc k w base e v n l)(hb:base'≤base):Gw enc k w base' e v n l:=h.elim (fun h=>.inl (h.lower hb)) .inr
theorem Gw.drewN(h:Gw enc k w base e v n l)(m:Nat):Gw enc k (w.drewN m) base e v n l:=h
theorem Gw.isRow(h:Gw enc k w base e v n l)(hk:∀x,(enc x).length=k)(bC:0<k):∃p cap,v=.slice p n cap∧l.length=n∧n≤cap∧At enc k w p l∧cap≤maxLen∧(p=none→cap=0):=by
 rcases h with h|⟨p,rfl,rfl,rfl⟩
 ·obtain⟨p,cap,hv,hl,hc,hr,hm,hn,_⟩:=h.row hk bC;exact⟨p,cap,hv,hl,hc,hr,hm,fun e=>(hn e).2⟩
 ·exact⟨p,0,rfl,rfl,by omega,.inl rfl,by unfold maxLen;omega,fun _=>rfl⟩
theorem Gw.len(h:Gw enc k w base e v n l)(hk:∀x,(enc x).length=k)(bC:0<k):l.length=n:=by obtain⟨_,_,_,h,_⟩:=h.isRow hk bC;exact h
end
end Go.Proofs.YtkdjnegfnhldpaaGreatDoor
