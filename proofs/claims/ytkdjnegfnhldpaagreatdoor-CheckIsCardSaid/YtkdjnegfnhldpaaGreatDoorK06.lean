/- Part 06. -/
import Derived.Lib.ItoaNum
import Derived.Lib.Join
import Derived.Lib.ItoaMem
import Derived.Lib.ItoaLen
import Derived.Test.YtkdjnegfnhldpaaGreatDoorK05
set_option linter.unusedVariables false
set_option maxRecDepth 100000
set_option linter.unusedSimpArgs false
set_option maxHeartbeats 40000000
namespace Go.Proofs.YtkdjnegfnhldpaaGreatDoor
open Go.Proofs.Tryz Go.RowKit
section
open Go.Sort Go.Lib
structure GS(q:AD→Bool)(l:List AD)(j i:Nat)(dk:List AD):Prop where
 size:dk.length=l.length
 low:dk.take i=(l.take j).filter (fun x=>!q x)
 high:∀t,j≤t→dk[t]?=l[t]?
 lt:i<j
theorem GS.start{q:AD→Bool}{l:List AD}{k:Nat}{x:AD}(hx:l[k]?=some x)(hq:q x=true)(ac:(l.take k).any q=false):GS q l (k+1) k l:=by
 refine⟨rfl,?_,fun _ _=>rfl,by omega⟩;rw [AI hx,List.filter_append];have h1:(l.take k).filter (fun x=>!q x)=l.take k:=by rw [List.filter_eq_self];intro a ha;have:=List.any_eq_false.1 ac a ha;simpa using this
 rw [h1];simp [hq]
theorem GS.skip{q:AD→Bool}{l dk:List AD}{j i:Nat}{x:AD}(h:GS q l j i dk)(hx:l[j]?=some x)(hq:q x=true):GS q l (j+1) i dk:=by refine⟨h.size,?_,fun t ht=>h.high t (by omega),by have:=h.lt;omega⟩;rw [AI hx,List.filter_append,h.low];simp [hq]
theorem GS.keep{q:AD→Bool}{l dk:List AD}{j i:Nat}{x:AD}(h:GS q l j i dk)(hx:l[j]?=some x)(hq:q x=false):GS q l (j+1) (i+1) (dk.set i x):=by
 have hj:=Bh hx;have hi:i<dk.length:=by have:=h.lt;have:=h.size;omega
 refine⟨by rw [List.length_set];exact h.size,?_,fun t ht=>?_,by have:=h.lt;omega⟩
 ·rw [AI hx,List.filter_append,←h.low];rw [AI (List.getElem?_set_self hi),List.take_set_of_le (Nat.le_refl _)];simp [hq]
 ·rw [List.getElem?_set_ne (by have:=h.lt;omega)];exact h.high t (by omega)
theorem MV(fid:FuncId)(caps:Array Value)(q:AD→Bool)(a7:EA fid)(g cap n:Nat)(l:List AD)(base:Nat)(w:World)(h:AJ AS 3 w base 59 (.slice (some ⟨g,0,none⟩) n cap) n l)(eH:n≤cap)(hn:n≤1000000)(kt:base≤w.heap.size)(hf:Jv fid caps base w l q) :
 Calls prog 250 #[.slice (some ⟨g,0,none⟩) n cap,.func (.func fid) #[] caps] w fun e w'=>∃m,e=.returned (.slice (some ⟨g,0,none⟩) m cap)∧m≤n∧AJ AS 3 w' base 59 (.slice (some ⟨g,0,none⟩) m cap) m (l.filter (fun x=>!q x))∧Below base w w':=by
 have hl:l.length=n:=h.len AF (by omega)
 have aD:CX w (some ⟨g,0,none⟩) l:=by obtain⟨p',c',hv,_,_,hr,_⟩:=h.row AF (by omega);cases hv;exact hr
 have oR:=AA (FK fid caps q a7 (some ⟨g,0,none⟩) n cap l w hl (by omega) aD (hf.a (Below.refl _ _) kt))
 have mU:=a7
 unfold EA at mU
 have HO:=AA h
 have HL:=AA hl
 have HF:=AA hf
 clear h hl hf
 clear aD
 go_enter func250,ntmps250
 go_wp2_with fail
 refine oR.o.mono ?_
 rintro e w1 ⟨⟨r,rfl,hr⟩,hb⟩
 have aJ:=AA (hb.mono kt)
 have dN:=AA (HO.o.below hb)
 clear hb
 rcases hr with⟨rfl,ac⟩|⟨k,x,rfl,hx,hq,ac⟩
 ·have an:=AA ac;clear ac;go_wp2_with fail;go_ret;refine⟨n,rfl,Nat.le_refl _,?_,aJ.o⟩;have e1:l.filter (fun x=>!q x)=l:=by rw [List.filter_eq_self];intro a ha;have:=List.any_eq_false.1 an.o a ha;simpa using this
  rw [e1];exact dN.o
 ·have hk:=Bh hx;have ao:k<n:=by have:=HL.o;omega
  have cj:=AA (GS.start hx hq ac);have qh:((k:Int)==-1)=false:=by rw [beq_eq_false_iff_ne];omega
  clear hx hq ac hk;go_wp2_with fail;go_loopw [5,6] (fun si sj wr=>∃(i j:Nat) (dk:List AD),si=.int .i64 i∧sj=.int .i64 j∧j≤n∧i<j∧GS q l j i dk∧AJ AS 3 wr base 59 (.slice (some ⟨g,0,none⟩) n cap) n dk∧Below base w wr) (fun _ sj _=>n-(intOf sj).toNat)
  case atStart=>exact⟨k,k+1,l,rfl,by go_num,by omega,by omega,cj.o,dN.o,aJ.o⟩
  case round=>
   obtain⟨i,j,dk,rfl,rfl,hj,nk,hI,aB,hb⟩:=hrel;have HI:=AA hI;have aO:=AA aB;have HB:=AA hb;clear hI aB hb;by_cases aF:j<n
   ·obtain⟨x,hx⟩:=AM (l:=l) (j:=j) (by rw [HL.o];exact aF);have HE:=AA hx;have ng:dk[j]?=some x:=by rw [HI.o.high j (Nat.le_refl _)];exact hx
    have d0:=(aO.o.at AF ng (i:=0) (by omega)).1;have d1:=(aO.o.at AF ng (i:=1) (by omega)).1;have d2:=(aO.o.at AF ng (i:=2) (by omega)).1;simp only [AS,List.getElem?_cons_zero,List.getElem?_cons_succ,Nat.add_zero] at d0 d1 d2;clear hx ng;have gT:base≤wr.heap.size:=Nat.le_trans kt HB.o.size;cases hq:q x
    ·have HQ:=AA hq;clear hq;go_wp2_with fail;refine(HF.o.is (List.mem_of_getElem? HE.o) HQ.o (HB.o.alloc gT _)).mono ?_;rintro e w2 ⟨rfl,hb⟩;have aK:=AA ((HB.o.alloc gT (.cells #[.int .u8 x.kind,.int .i64 x.rho,.string x.exn] 59)).trans (hb.mono (by simp;omega)));have az:=AA ((aO.o.below ((Below.refl _ wr).alloc (Nat.le_refl _) (.cells #[.int .u8 x.kind,.int .i64 x.rho,.string x.exn] 59))).below hb);have f0:w2.cell? ⟨wr.heap.size,0,none⟩=some (.int .u8 x.kind):=by rw [hb.cell (by simp),AR];rfl
     have f1:w2.cell? ⟨wr.heap.size,1,none⟩=some (.int .i64 x.rho):=by rw [hb.cell (by simp),AR];rfl
     have f2:w2.cell? ⟨wr.heap.size,2,none⟩=some (.string x.exn):=by rw [hb.cell (by simp),AR];rfl
     obtain⟨o0,g0⟩:=az.o.cellSome (o:=i * 3) (by omega);obtain⟨o1,g1⟩:=az.o.cellSome (o:=i * 3+1) (by omega);obtain⟨o2,g2⟩:=az.o.cellSome (o:=i * 3+2) (by omega);obtain⟨u0,o0⟩:=Option.isSome_iff_exists.1 o0;obtain⟨u1,o1⟩:=Option.isSome_iff_exists.1 o1;obtain⟨u2,o2⟩:=Option.isSome_iff_exists.1 o2;clear hb d0 d1 d2;go_wp2_with fail;go_roundw
     case rel=>
      refine⟨i+1,j+1,dk.set i x,by go_num,by go_num,by omega,by omega,HI.o.keep HE.o HQ.o,az.o.setA i x (by omega),?_⟩
      have eV:base≤g:=by
       rcases az.o.2 with⟨h0,_⟩|⟨g',cap',cur,hv,hb,_⟩
       ·cases h0
       ·cases hv;exact hb
      exact((aK.o.setCell (p:=⟨g,i * 3,none⟩) eV _).setCell (p:=⟨g,i * 3+1,none⟩) eV _).setCell (p:=⟨g,i * 3+2,none⟩) eV _
     case measure=>simp [intOf];omega
    ·have HQ:=AA hq;clear hq;go_wp2_with fail;refine(HF.o.is (List.mem_of_getElem? HE.o) HQ.o (HB.o.alloc gT _)).mono ?_;rintro e w2 ⟨rfl,hb⟩;have aK:=AA ((HB.o.alloc gT (.cells #[.int .u8 x.kind,.int .i64 x.rho,.string x.exn] 59)).trans (hb.mono (by simp;omega)));have az:=AA ((aO.o.below ((Below.refl _ wr).alloc (Nat.le_refl _) (.cells #[.int .u8 x.kind,.int .i64 x.rho,.string x.exn] 59))).below hb);clear hb d0 d1 d2;go_wp2_with fail;go_roundw
     case rel=>exact⟨i,j+1,dk,rfl,by go_num,by omega,by omega,HI.o.skip HE.o HQ.o,az.o,aK.o⟩
     case measure=>simp [intOf];omega
   ·have kx:j=n:=by omega
    have de:=fun ty=>Ho wr ty g (i * 3) (n-i) (cap-i) (by omega) (fun t ht=>(aO.o.cellSome (by omega)).1) (fun t ht=>(aO.o.cellSome (by omega)).2);go_wp2_with fail;go_ret;have ib:=HI.o.low;rw [kx,AP (l:=l) (by rw [HL.o];omega)] at ib;refine⟨i,rfl,by omega,?_,?_⟩
    ·have:=(AJ.cut (n:=n) (m:=i) AF aO.o (by rw [HI.o.size,HL.o]) (by omega)).clearBehind AF (i * 3) (List.replicate (n-i) [Value.int .u8 0,.int .i64 0,.string .empty]).flatten (Nat.le_refl _);rw [ib] at this;exact this
    ·have eV:base≤g:=by
      rcases aO.o.2 with⟨h0,_⟩|⟨g',cap',cur,hv,hb,_⟩
      ·cases h0
      ·cases hv;exact hb
     exact AJ.drop_base (enc:=AS) (k:=3) (Fz g _ _ _) eV HB.o (Nat.le_trans kt HB.o.size)
end
structure AE{α:Type}(enc:α→List Value)(k:Nat)(w:World)(p:Option Addr)(n cap:Nat)(l:List α):Prop where
 len:l.length=n
 max:n≤9223372036854775807
 le:n≤cap
 nil:p=none→cap=0
 row:Au enc k w p l
section
variable {α:Type} {enc:α→List Value} {k:Nat} {w w':World} {p:Option Addr} {n cap:Nat} {l:List α}
theorem AE.below(h:AE enc k w p n cap l)(hb:Below w.heap.size w w'):AE enc k w' p n cap l:=⟨h.1,h.2,h.3,h.4,h.5.below hb⟩
theorem AE.alloc(h:AE enc k w p n cap l)(o:Obj):AE enc k (w.alloc o) p n cap l:=h.below bA
theorem AJ.isRow{base e:Nat}{v:Value}(hk:∀x,(enc x).length=k)(ba:0<k)(h:AJ enc k w base e v n l):∃p cap,v=.slice p n cap∧AE enc k w p n cap l:=by obtain⟨p,cap,hv,hl,hc,hr,hm,hn,_⟩:=h.row hk ba;unfold maxLen at hm;exact⟨p,cap,hv,hl,by omega,hc,fun e=>(hn e).2,hr⟩
theorem AE.none(enc:α→List Value)(k:Nat)(w:World):AE enc k w Option.none 0 0 []:=⟨rfl,by omega,by omega,fun _=>rfl,.inl rfl⟩
end
section
open Go.Sort Go.Lib
theorem WY:(prog.info? 9).map (fun i=>(i.zero,i.size,i.bytes))=some (some (.string .empty),1,16):=by kernel_rfl
theorem QK(y:ByteArray):∀u∈EC y,u.oneCell'=true:=by intro u hu;simp [EC] at hu;subst hu;rfl
end
section
open Go.Sort Go.Lib
def BS(r:Int):List Int→List Int→Int
 |[],_=>r
 |f::fs,t=>if f=r then(t[0]?).getD r else BS r fs (t.drop 1)
theorem OY(r:Int):∀(f t:List Int) (k:Nat),(f.take k).any (·==r)=false→f[k]?=some r→BS r f t=(t[k]?).getD r
 |[],_,k,_,h=>by simp at h
 |x::f,t,0,_,h=>by simp at h;subst h;simp [BS]
 |x::f,t,k+1,ac,h=>by
  simp only [List.take_succ_cons,List.any_cons,Bool.or_eq_false_iff] at ac;have hx:¬x=r:=by simpa using ac.1
  unfold BS;rw [if_neg hx,OY r f (t.drop 1) k ac.2 (by simpa using h)];simp [Nat.add_comm]
theorem NS(r:Int):∀(f t:List Int),f.any (·==r)=false→BS r f t=r
 |[],_,_=>rfl
 |x::f,t,ac=>by
  simp only [List.any_cons,Bool.or_eq_false_iff] at ac;have hx:¬x=r:=by simpa using ac.1
  unfold BS;rw [if_neg hx,NS r f _ ac.2]
theorem PR{a b:Int}(h:a=b):Ending.returned (.int .i64 a)=.returned (.int .i64 b):=by rw [h]
theorem KQ(x:Int)(p:Option Addr)(n cap:Nat)(l:List Int)(q:Option Addr)(m mc:Nat)(t:List Int)(w:World)(hn:l.length=n)(hm:n≤9223372036854775807)(hr:Au Ab 1 w p l)(ed:t.length=m)(co:m≤9223372036854775807)(aT:Au Ab 1 w q t):Calls prog 202 #[.int .i64 x,.slice p n cap,.slice q m mc] w fun e w'=>e=.returned (.int .i64 (BS x l t))∧w=w':=by
 have HR:=AA hr;have HN:=AA hn;have cD:=AA aT;have iN:=AA ed;clear hr hn aT ed;go_enter func202,ntmps202;go_wp2_with fail;go_loop [7,10] (fun _ i=>∃k:Nat,k≤n∧i=.int .i64 k∧(l.take k).any (·==x)=false) (fun _ i=>n-(intOf i).toNat)
 case atStart=>exact⟨0,by omega,rfl,by simp⟩
 case round=>
  obtain⟨k,hk,rfl,ac⟩:=hrel;have an:=AA ac;clear ac;by_cases aF:k<n
  ·obtain⟨y,hy⟩:=AM (l:=l) (j:=k) (by rw [HN.o];exact aF);have HE:=AA hy;obtain⟨b,o,rfl,d0⟩:=HR.o.num hy;clear hy;cases hq:(y==x)
   ·go_wp2_with fail;go_round
    case rel=>exact⟨k+1,by omega,by go_num,by rw [Av HE.o,an.o,hq];rfl⟩
    case measure=>simp [intOf];omega
   ·have cM:y=x:=by simpa using hq
    have HH:=AA (OY x l t k an.o (by rw [HE.o,cM]));by_cases dr:k<m
    ·obtain⟨z,hz⟩:=AM (l:=t) (j:=k) (by rw [iN.out];exact dr);obtain⟨b',o',rfl,e0⟩:=cD.out.num hz;have HZ:=AA hz;clear hz cM;go_wp2_with fail;go_ret;exact⟨PR (by rw [HH.o,HZ.o];rfl),rfl⟩
    ·have HZ:Hd (t[k]?=none):=List.getElem?_eq_none (by rw [iN.out];omega);clear cM;go_wp2_with fail;go_ret;exact⟨PR (by rw [HH.o,HZ.o];rfl),rfl⟩
  ·go_wp2_with fail;go_ret;have h:=an.o;rw [AP (by rw [HN.o];omega)] at h;exact⟨PR (NS x l t h).symm,rfl⟩
def Ga(f t:List Int)(a:AD):AD:=if a.kind=3 then a else { a with rho:=BS a.rho f t }
end
section
open Go.Sort Go.Lib
theorem Td(x:Int)(p:Option Addr)(n cap:Nat)(l:List Int)(w:World)(hn:l.length=n)(hm:n≤9223372036854775807)(hr:Au Ab 1 w p l):Calls prog 67 #[.slice p n cap,.int .i64 x] w fun e w'=>e=.returned (.int .i64 (Lib.idxOf l x))∧w'=w:=by
 by_cases h0:n=0
 ·subst h0;have:l=[]:=List.length_eq_zero_iff.1 hn;subst this;exact slices_Index_int_empty p cap x w
 ·obtain⟨b,o,rfl,_,hc⟩:=hr.at (by omega)
  have:=slices_Index_int b o n cap l x w (by omega) hm (fun j hj=>by
   have:=hc j (l[j]) (List.getElem?_eq_getElem hj) 0 _ rfl;simpa [List.getD,hj] using this)
  rw [List.take_of_length_le (by omega)] at this;exact this
theorem J8(x:Int):∀(f t:List Int) (i:Nat),(Lib.idxFrom f x i=-1∧BS x f t=x)∨∃k:Nat,k<f.length∧Lib.idxFrom f x i=((i+k:Nat):Int)∧BS x f t=(t[k]?).getD x
 |[],_,_=>.inl ⟨rfl,rfl⟩
 |y::f,t,i=>by
  unfold Lib.idxFrom BS;by_cases h:y=x
  ·rw [if_pos h,if_pos h];exact .inr ⟨0,by simp,rfl,rfl⟩
  ·rw [if_neg h,if_neg h];rcases J8 x f (t.drop 1) (i+1) with h1|⟨k,hk,h1,h2⟩
   ·exact .inl h1
   ·refine .inr ⟨k+1,by simpa using hk,by rw [h1];congr 1;omega,?_⟩;rw [h2];simp [Nat.add_comm]
theorem J9(x:Int)(f t:List Int):(Lib.idxOf f x=-1∧BS x f t=x)∨∃k:Nat,k<f.length∧Lib.idxOf f x=k∧BS x f t=(t[k]?).getD x:=by have:=J8 x f t 0;simpa [Lib.idxOf] using this
theorem Di(x:Int)(p:Option Addr)(n cap:Nat)(l:List Int)(w:World)(i:Int)(hi:Lib.idxOf l x=i)(hn:l.length=n)(hm:n≤9223372036854775807)(hr:Au Ab 1 w p l):Calls prog 67 #[.slice p n cap,.int .i64 x] w fun e w'=>e=.returned (.int .i64 i)∧w'=w:=by subst hi;exact Td x p n cap l w hn hm hr
theorem Vf{f t:List Int}{kd rr z:Int}{ss:ByteArray}(h3:kd≠3)(h:BS rr f t=z):Ga f t ⟨kd,rr,ss⟩=⟨kd,z,ss⟩:=by subst h;unfold Ga;rw [if_neg h3]
theorem Gn{f t:List Int}{kd rr:Int}{ss:ByteArray}(h:kd=3∨BS rr f t=rr):Ga f t ⟨kd,rr,ss⟩=⟨kd,rr,ss⟩:=by
 unfold Ga;by_cases h3:kd=3
 ·rw [if_pos h3]
 ·rw [if_neg h3,h.resolve_left h3]
def Kb(f t:List Int)(l:List AD):List AD:=DR (((DR (l.filter AX)).map (Ga f t)).filter AX)
theorem Li(p:Option Addr)(n cap:Nat)(l:List AD)(p1:Option Addr)(n1 c1:Nat)(f:List Int)(p2:Option Addr)(n2 c2:Nat)(t:List Int)(w:World)(hn:l.length=n)(hm:n≤1000000)(hr:CX w p l)(jX:f.length=n1)(hX:n1≤1000000)(d7:Au Ab 1 w p1 f)(jD:t.length=n2)(jC:n2≤1000000)(eI:Au Ab 1 w p2 t):Calls prog 66 #[.slice p n cap,.slice p1 n1 c1,.slice p2 n2 c2] w fun e w'=>∃v,e=.returned v∧Sl AS 3 w' v (Kb f t l)∧Below w.heap.size w w':=by
 have HR:=AA hr;have HN:=AA hn;have dQ:=AA d7;have fd:=AA jX;have bv:=AA eI;have iz:=AA jD;clear hr hn d7 jX eI jD;go_enter func66,ntmps66;go_wp2_with fail;refine(CJ p n cap l _ HN.o hm HR.o).mono ?_;rintro e w1 ⟨v,m,rfl,gB,aB,hb⟩;obtain⟨q,mc,rfl,mI,mn,aD,_⟩:=aB.row AF (by omega);have aL:=AA aD;have kU:=AA mI;have aJ:=AA hb;generalize hS:DR (l.filter AX)=S at aL kU;have HS:=AA hS;clear aB hb aD mI hS;go_wp2_with fail;go_loopw [7,10,14] (fun u _ i wr=>∃k:Nat,k≤m∧i=.int .i64 k∧AJ AS 3 wr w1.heap.size 59 u k ((S.take k).map (Ga f t))∧Below w1.heap.size w1 wr) (fun _ _ i _=>m-(intOf i).toNat)
 case atStart=>exact⟨0,by omega,rfl,AJ.nil _ _ _ _ _,Below.refl _ _⟩
 case round=>
  obtain⟨k,hk,rfl,aB,hb⟩:=hrel;have aO:=AA aB;have HB:=AA hb;clear aB hb;by_cases aF:k<m
  ·obtain⟨x,hx⟩:=AM (l:=S) (j:=k) (by rw [kU.o];exact aF);have HE:=AA hx;obtain⟨b,o,rfl,aP,d0,d1,d2⟩:=CX.atom (aL.o.below HB.o) hx;clear hx aP;obtain⟨kd,rr,ss⟩:=x;simp only at d0 d1 d2;have HW:=AA (aJ.o.trans (HB.o.mono aJ.o.size));by_cases gA:kd=3
   ·subst gA;have az:=AA (aO.o.below ((Below.refl _ wr).alloc (Nat.le_refl _) (.cells #[.int .u8 3,.int .i64 rr,.string ss] 59)));have aK:Hd (Below w1.heap.size w1 (wr.alloc (.cells #[.int .u8 3,.int .i64 rr,.string ss] 59))):=HB.o.alloc HB.o.size _;go_wp2_with fail;refine(Di rr p1 n1 c1 f _ _ rfl fd.o (by omega) ((dQ.o.below HW.o).alloc _)).mono ?_;rintro e w2 ⟨rfl,rfl⟩;generalize Lib.idxOf f rr=c;go_wp2_with (at_builtin;refine Ae rfl _ _ 25 rfl w1.heap.size 59 _ 3 32 underlying25 CQ rfl (by decide) AS AF As (⟨3,rr,ss⟩:AD) _ _ _ az.o rfl (by refine Eq.trans (b:=Value.slice (some ⟨wr.heap.size+1,0,none⟩) 1 1) rfl ?_;simp) ?c1 ?c2 ?c3 ?_)
    case c1=>omega
    case c2=>omega
    case c3=>exact aK.o.size
    ·intro v' w4 aH hg;have HO:=AA aH;have av:=AA (Below.own aK.o hg aK.o.size az.o);clear aH hg;go_wp2_with fail;go_roundw
     case rel=>exact⟨k+1,by omega,by go_num,by
      have e1:(S.take (k+1)).map (Ga f t)=(S.take k).map (Ga f t)++[(⟨3,rr,ss⟩:AD)]:=by rw [AI HE.o,List.map_append];simp only [List.map_cons,List.map_nil];rw [Gn (.inl rfl)]
      rw [e1,List.map_take];exact HO.o,av.o⟩
     case measure=>simp [intOf];omega
   ·have eK:=AA gA;have qi:decide (kd=3)=false:=by simp [gA]
    rcases J9 rr f t with⟨hi,ht⟩|⟨j,hj,hi,ht⟩
    ·have HI:=AA hi;have HT:=AA ht;clear hi ht;have az:=AA (aO.o.below ((Below.refl _ wr).alloc (Nat.le_refl _) (.cells #[.int .u8 kd,.int .i64 rr,.string ss] 59)));have aK:Hd (Below w1.heap.size w1 (wr.alloc (.cells #[.int .u8 kd,.int .i64 rr,.string ss] 59))):=HB.o.alloc HB.o.size _;go_wp2_with fail;refine(Di rr p1 n1 c1 f _ (-1) HI.o fd.o (by omega) ((dQ.o.below HW.o).alloc _)).mono ?_;rintro e w2 ⟨rfl,rfl⟩;go_wp2_with (at_builtin;refine Ae rfl _ _ 25 rfl w1.heap.size 59 _ 3 32 underlying25 CQ rfl (by decide) AS AF As (⟨kd,rr,ss⟩:AD) _ _ _ az.o rfl (by refine Eq.trans (b:=Value.slice (some ⟨wr.heap.size+1,0,none⟩) 1 1) rfl ?_;simp) ?c1 ?c2 ?c3 ?_)
     case c1=>omega
     case c2=>omega
     case c3=>exact aK.o.size
     ·intro v' w4 aH hg;have HO:=AA aH;have av:=AA (Below.own aK.o hg aK.o.size az.o);clear aH hg;go_wp2_with fail;go_roundw
      case rel=>exact⟨k+1,by omega,by go_num,by
       have e1:(S.take (k+1)).map (Ga f t)=(S.take k).map (Ga f t)++[(⟨kd,rr,ss⟩:AD)]:=by rw [AI HE.o,List.map_append];simp only [List.map_cons,List.map_nil];rw [Gn (.inr HT.o)]
       rw [e1,List.map_take];exact HO.o,av.o⟩
      case measure=>simp [intOf];omega
    ·have HI:=AA hi;have HT:=AA ht;clear hi ht;have qd:j<n1:=by have:=fd.o;omega
     by_cases me:j<n2
     ·obtain⟨z,hz⟩:=AM (l:=t) (j:=j) (by rw [iz.o];exact me);have mB:Hd (BS rr f t=z):=by show BS rr f t=z;rw [HT.o,hz];rfl
      obtain⟨b',o',rfl,e0⟩:=(((bv.o.below HW.o).alloc (.cells #[.int .u8 kd,.int .i64 rr,.string ss] 59))).num hz;clear hz;have az:=AA (aO.o.below ((Below.refl _ wr).alloc (Nat.le_refl _) (.cells #[.int .u8 kd,.int .i64 z,.string ss] 59)));have aK:Hd (Below w1.heap.size w1 (wr.alloc (.cells #[.int .u8 kd,.int .i64 z,.string ss] 59))):=HB.o.alloc HB.o.size _;go_wp2_with fail;refine(Di rr p1 n1 c1 f _ (j:Int) HI.o fd.o (by omega) ((dQ.o.below HW.o).alloc _)).mono ?_;rintro e w2 ⟨rfl,rfl⟩;go_wp2_with (at_builtin;refine Ae rfl _ _ 25 rfl w1.heap.size 59 _ 3 32 underlying25 CQ rfl (by decide) AS AF As (⟨kd,z,ss⟩:AD) _ _ _ az.o rfl (by refine Eq.trans (b:=Value.slice (some ⟨wr.heap.size+1,0,none⟩) 1 1) rfl ?_;simp) ?c1 ?c2 ?c3 ?_)
      case c1=>omega
      case c2=>omega
      case c3=>exact aK.o.size
      ·intro v' w4 aH hg;have HO:=AA aH;have av:=AA (Below.own aK.o hg aK.o.size az.o);clear aH hg;go_wp2_with fail;go_roundw
       case rel=>exact⟨k+1,by omega,by go_num,by
        have e1:(S.take (k+1)).map (Ga f t)=(S.take k).map (Ga f t)++[(⟨kd,z,ss⟩:AD)]:=by rw [AI HE.o,List.map_append];simp only [List.map_cons,List.map_nil];rw [Vf eK.o mB.o]
        rw [e1,List.map_take];exact HO.o,av.o⟩
       case measure=>simp [intOf];omega
     ·have HZ:Hd (BS rr f t=rr):=by show BS rr f t=rr;rw [HT.o,List.getElem?_eq_none (by rw [iz.o];omega)];rfl
      have az:=AA (aO.o.below ((Below.refl _ wr).alloc (Nat.le_refl _) (.cells #[.int .u8 kd,.int .i64 rr,.string ss] 59)));have aK:Hd (Below w1.heap.size w1 (wr.alloc (.cells #[.int .u8 kd,.int .i64 rr,.string ss] 59))):=HB.o.alloc HB.o.size _;go_wp2_with fail;refine(Di rr p1 n1 c1 f _ (j:Int) HI.o fd.o (by omega) ((dQ.o.below HW.o).alloc _)).mono ?_;rintro e w2 ⟨rfl,rfl⟩;go_wp2_with (at_builtin;refine Ae rfl _ _ 25 rfl w1.heap.size 59 _ 3 32 underlying25 CQ rfl (by decide) AS AF As (⟨kd,rr,ss⟩:AD) _ _ _ az.o rfl (by refine Eq.trans (b:=Value.slice (some ⟨wr.heap.size+1,0,none⟩) 1 1) rfl ?_;simp) ?c1 ?c2 ?c3 ?_)
      case c1=>omega
      case c2=>omega
      case c3=>exact aK.o.size
      ·intro v' w4 aH hg;have HO:=AA aH;have av:=AA (Below.own aK.o hg aK.o.size az.o);clear aH hg;go_wp2_with fail;go_roundw
       case rel=>exact⟨k+1,by omega,by go_num,by
        have e1:(S.take (k+1)).map (Ga f t)=(S.take k).map (Ga f t)++[(⟨kd,rr,ss⟩:AD)]:=by rw [AI HE.o,List.map_append];simp only [List.map_cons,List.map_nil];rw [Gn (.inr HZ.o)]
        rw [e1,List.map_take];exact HO.o,av.o⟩
       case measure=>simp [intOf];omega
  ·obtain rfl:k=m:=by omega
   have aB:=aO.o;have HE:Hd (DR ((S.map (Ga f t)).filter AX)=Kb f t l):=by show _=Kb f t l;unfold Kb;rw [HS.o]
   rw [AP (by rw [kU.o];exact Nat.le_refl _)] at aB;obtain⟨q',c',rfl,jv,jU,aT,_⟩:=aB.row AF (by omega);have oV:=AA jv;have cD:=AA aT;clear aB jv aT;go_wp2_with fail;refine(CJ q' k c' (S.map (Ga f t)) wr oV.out (by omega) cD.out).mono ?_;rintro e w3 ⟨v,m',rfl,_,aB,hb⟩;rw [HE.o] at aB;have HO:=AA (aB.sl AF (by omega));have aV:=AA ((aJ.o.trans (HB.o.mono aJ.o.size)).trans (hb.mono (aJ.o.trans (HB.o.mono aJ.o.size)).size));clear aB hb;go_wp2_with fail;go_ret;exact⟨_,rfl,HO.o,aV.o⟩
end
section
open Go.Sort Go.Lib
def WW(l:List ByteArray)(x:ByteArray):Bool:=l.any (fun y=>decide (y=x))
theorem V2(l:List ByteArray)(x:ByteArray):WW l x=true↔x∈l:=by
 unfold WW;rw [List.any_eq_true];constructor
 ·rintro⟨y,hy,h⟩;have:y=x:=by simpa using h
  subst this;exact hy
 ·intro h;exact⟨x,h,by simp⟩
theorem V1(l:List Int)(x:Int):Du l x=true↔x∈l:=by
 unfold Du;rw [List.any_eq_true];constructor
 ·rintro⟨y,hy,h⟩;have:y=x:=by simpa using h
  subst this;exact hy
 ·intro h;exact⟨x,h,by simp⟩
theorem GA{p:Option Addr}{n cap:Nat}{l:List Int}{w:World}(h:AE Ab 1 w p n cap l)(x:Int):Calls prog 183 #[.slice p n cap,.int .i64 x] w fun e w'=>e=.returned (.bool (Du l x))∧w=w':=by
 have e1:Du l x=l.contains x:=by rw [Bool.eq_iff_iff,V1];simp
 by_cases h0:n=0
 ·subst h0;have:l=[]:=List.length_eq_zero_iff.1 h.len;subst this;exact(slices_Contains_int_empty p cap x w).mono fun _ _ ⟨he,hw⟩=>⟨he,hw.symm⟩
 ·obtain⟨b,o,rfl,_,hc⟩:=h.row.at (by rw [h.len];omega)
  have:=slices_Contains_int b o n cap l x w (by rw [h.len];omega) h.max (fun j hj=>by
   have:=hc j (l[j]) (List.getElem?_eq_getElem hj) 0 _ rfl;simpa [List.getD,hj] using this)
  rw [List.take_of_length_le (by rw [h.len];omega),←e1] at this;exact this.mono fun _ _ ⟨he,hw⟩=>⟨he,hw.symm⟩
theorem NI{p:Option Addr}{n cap:Nat}{l:List ByteArray}{w:World}(h:AE EC 1 w p n cap l)(x:ByteArray):Calls prog 222 #[.slice p n cap,.string x] w fun e w'=>e=.returned (.bool (WW l x))∧w=w':=by
 have e1:WW l x=Lib.containsS l x:=by rw [Bool.eq_iff_iff,Lib.containsS_iff,V2]
 by_cases h0:n=0
 ·subst h0;have:l=[]:=List.length_eq_zero_iff.1 h.len;subst this;exact(slices_Contains_string_empty p cap x w).mono fun _ _ ⟨he,hw⟩=>⟨he,hw.symm⟩
 ·obtain⟨b,o,rfl,_,hc⟩:=h.row.at (by rw [h.len];omega)
  have:=slices_Contains_string b o n cap l x w (by rw [h.len];omega) h.max (fun j hj=>by
   have:=hc j (l[j]) (List.getElem?_eq_getElem hj) 0 _ rfl;simpa [List.getD,hj] using this)
  rw [List.take_of_length_le (by rw [h.len];omega),←e1] at this;exact this.mono fun _ _ ⟨he,hw⟩=>⟨he,hw.symm⟩
theorem MW(fid:FuncId)(caps:Array Value)(a7:EA fid)(w:World):Calls prog 250 #[.slice none 0 0,.func (.func fid) #[] caps] w (RB w (.slice none 0 0)):=by
 have oR:=AA (FK fid caps (fun _=>true) a7 none 0 0 [] w rfl (by omega) (.inl rfl) (fun x hx=>by cases hx));clear a7;go_enter func250,ntmps250;go_wp2_with fail;refine oR.o.mono ?_;rintro e w1 ⟨⟨r,rfl,hr⟩,hb⟩
 have d7:r=-1:=by
  rcases hr with⟨h,_⟩|⟨k,x,_,hx,_⟩
  ·exact h
  ·simp at hx
 subst d7;have HB:=AA hb;clear hb;clear hr;go_wp2_with fail;go_ret;exact⟨rfl,HB.o⟩
theorem Jv.trans{fid:FuncId}{caps:Array Value}{B:Nat}{w w':World}{l:List AD}{q:AD→Bool}(h:Jv fid caps B w l q)(hb:Below B w w'):Jv fid caps B w' l q:=fun x hx W hW=>h x hx W (hb.trans hW)
theorem QI(fid:FuncId)(caps:Array Value)(q:AD→Bool)(a7:EA fid){p:Option Addr}{n cap:Nat}{l:List AD}{w:World}(hr:AE AS 3 w p n cap l)(hm:n≤1000000)(hf:Jv fid caps w.heap.size w (DR (l.filter AX)) q):Calls prog 220 #[.slice p n cap,.func (.func fid) #[] caps] w fun e w'=>∃v m,e=.returned v∧m≤n∧AJ AS 3 w' w.heap.size 59 v m ((DR (l.filter AX)).filter (fun x=>!q x))∧Below w.heap.size w w':=by
 have HR:=AA hr;have HF:=AA hf;clear hr hf;have rF:=AA (fun W=>MW fid caps a7 W)
 have HD:=AA (fun(g c m:Nat) (W:World) (h:AJ AS 3 W w.heap.size 59 (.slice (some ⟨g,0,none⟩) m c) m (DR (l.filter AX))) (h1:m≤c) (h2:m≤1000000) (hb:Below w.heap.size w W)=>
  MV fid caps q a7 g c m _ w.heap.size W h h1 h2 hb.size (HF.o.trans hb))
 clear a7;go_enter func220,ntmps220;go_wp2_with fail;refine(CJ p n cap l _ HR.o.len hm HR.o.row).mono ?_;rintro e w1 ⟨v,m,rfl,gB,aB,hb⟩;rcases aB.split AF (by omega) with⟨rfl,rfl,ag⟩|⟨g,cp,rfl,kv,iU⟩
 ·have fp:=AA ag;have HB:=AA hb;clear hb;clear aB ag;go_wp2_with fail;refine(rF.o _).mono ?_;rintro e w2 ⟨rfl,hb⟩;have aK:=bt HB hb;clear hb;go_wp2_with fail;go_ret;exact⟨_,0,rfl,by omega,by rw [fp.o];exact AJ.nil _ _ _ _ _,aK.o⟩
 ·have HO:=AA aB;have HB:=AA hb;clear hb;clear aB;go_wp2_with fail;refine(HD.o g cp m _ HO.o kv (by omega) HB.o).mono ?_;rintro e w2 ⟨m',rfl,co,gm,hb⟩;have az:=AA gm;have aK:=AA (HB.o.trans hb);clear hb gm;go_wp2_with fail;go_ret;exact⟨_,m',rfl,by omega,az.o,aK.o⟩
def Ee(rhos:List Int)(x:AD):Bool:=decide (x.kind≠3)&&Du rhos x.rho
theorem Pi(x:AD)(ad:Addr)(q:Option Addr)(m mc:Nat)(l:List Int)(w:World)(a6:w.cell? ad=some (.slice q m mc))(hr:AE Ab 1 w q m mc l):Calls prog 223 #[MJ x,.pointer (some ad)] w (RB w (.bool (Ee l x))):=by
 have eO:(w.alloc (.cells #[.int .u8 x.kind,.int .i64 x.rho,.string x.exn] 59)).cell? ad=some (.slice q m mc):=by rw [IC (An a6)];exact a6
 obtain⟨kd,rr,ss⟩:=x;have HR:=AA hr;clear hr;clear a6;by_cases h3:kd=3
 ·subst h3;go_enter func223,ntmps223;go_wp2_with fail;go_ret;exact⟨rfl,bA⟩
 ·have i6:(kd != 3)=true:=by simpa using h3
  have HG:Hd (Ee l ⟨kd,rr,ss⟩=Du l rr):=by show _=_;simp [Ee,h3]
  clear h3;go_enter func223,ntmps223;go_wp2_with fail;refine(GA (HR.o.alloc _) rr).mono ?_;rintro e w1 ⟨rfl,rfl⟩;go_wp2_with fail;go_ret;exact⟨AB HG.o.symm,bA⟩
def B6(l:List AD)(rhos:List Int):List AD:=(DR (l.filter AX)).filter (fun x=>!Ee rhos x)
theorem JZ{p:Option Addr}{n cap:Nat}{l:List AD}{q:Option Addr}{m mc:Nat}{rhos:List Int}{w:World}(hr:AE AS 3 w p n cap l)(hm:n≤1000000)(aT:AE Ab 1 w q m mc rhos):Calls prog 196 #[.slice p n cap,.slice q m mc] w fun e w'=>∃v k,e=.returned v∧k≤n∧AJ AS 3 w' w.heap.size 59 v k (B6 l rhos)∧Below w.heap.size w w':=by
 have HD:=AA (fun t=>QI 223 #[.pointer (some ⟨w.heap.size,0,none⟩)] (Ee rhos) (fun a w=>call223 a w) (hr.alloc (.cells #[.slice q m mc] t)) hm
  (fun x _ W hW=>by
   have:=Pi x ⟨w.heap.size,0,none⟩ q m mc rhos W (by rw [hW.cell (by simp),AR];rfl) ((aT.alloc _).below hW);simpa using this))
 clear hr aT;go_enter func196,ntmps196;go_wp2_with fail;refine(HD.o _).mono ?_;rintro e w1 ⟨v,k,rfl,hk,aB,hb⟩;have HB:=AA (((Below.refl _ w).alloc (Nat.le_refl _) _).trans (hb.mono (by simp)));have HO:=AA (aB.lower (base':=w.heap.size) (by simp));clear hb aB;go_wp2_with fail;go_ret;exact⟨_,k,rfl,hk,HO.o,HB.o⟩
def DE(exns:List ByteArray)(x:AD):Bool:=decide (x.kind=3)&&WW exns x.exn
theorem O0(x:AD)(ad:Addr)(q:Option Addr)(m mc:Nat)(l:List ByteArray)(w:World)(a6:w.cell? ad=some (.slice q m mc))(hr:AE EC 1 w q m mc l):Calls prog 221 #[MJ x,.pointer (some ad)] w (RB w (.bool (DE l x))):=by
 have eO:(w.alloc (.cells #[.int .u8 x.kind,.int .i64 x.rho,.string x.exn] 59)).cell? ad=some (.slice q m mc):=by rw [IC (An a6)];exact a6
 obtain⟨kd,rr,ss⟩:=x;have HR:=AA hr;clear hr;clear a6;by_cases h3:kd=3
 ·subst h3;have HG:Hd (DE l ⟨3,rr,ss⟩=WW l ss):=by show _=_;simp [DE]
  go_enter func221,ntmps221;go_wp2_with fail;refine(NI (HR.o.alloc _) ss).mono ?_;rintro e w1 ⟨rfl,rfl⟩;go_wp2_with fail;go_ret;exact⟨AB HG.o.symm,bA⟩
 ·have i6:(kd==3)=false:=by rw [beq_eq_false_iff_ne];exact h3
  have HG:Hd (DE l ⟨kd,rr,ss⟩=false):=by show _=_;simp [DE,h3]
  clear h3;go_enter func221,ntmps221;go_wp2_with fail;go_ret;exact⟨AB HG.o.symm,bA⟩
def CP(l:List AD)(exns:List ByteArray):List AD:=(DR (l.filter AX)).filter (fun x=>!DE exns x)
theorem JY{p:Option Addr}{n cap:Nat}{l:List AD}{q:Option Addr}{m mc:Nat}{exns:List ByteArray}{w:World}(hr:AE AS 3 w p n cap l)(hm:n≤1000000)(aT:AE EC 1 w q m mc exns):Calls prog 195 #[.slice p n cap,.slice q m mc] w fun e w'=>∃v k,e=.returned v∧k≤n∧AJ AS 3 w' w.heap.size 59 v k (CP l exns)∧Below w.heap.size w w':=by
 have HD:=AA (fun t=>QI 221 #[.pointer (some ⟨w.heap.size,0,none⟩)] (DE exns) (fun a w=>call221 a w) (hr.alloc (.cells #[.slice q m mc] t)) hm
  (fun x _ W hW=>by
   have:=O0 x ⟨w.heap.size,0,none⟩ q m mc exns W (by rw [hW.cell (by simp),AR];rfl) ((aT.alloc _).below hW);simpa using this))
 clear hr aT;go_enter func195,ntmps195;go_wp2_with fail;refine(HD.o _).mono ?_;rintro e w1 ⟨v,k,rfl,hk,aB,hb⟩;have HB:=AA (((Below.refl _ w).alloc (Nat.le_refl _) _).trans (hb.mono (by simp)));have HO:=AA (aB.lower (base':=w.heap.size) (by simp));clear hb aB;go_wp2_with fail;go_ret;exact⟨_,k,rfl,hk,HO.o,HB.o⟩
def IK(S:List AD):List ByteArray:=(S.filter (fun x=>decide (x.kind=3))).map (·.exn)
theorem Hj(p:Option Addr)(n cap:Nat)(rows:List (Kc AD))(w:World)(hn:rows.length=n)(hm:n≤1000000)(hr:Au Fy 1 w p rows)(bY:∀r∈rows,r.Ok AS 3 w)(dA:(rows.map (·.n)).sum≤1000000):Calls prog 56 #[.slice p n cap] w fun e w'=>∃v m,e=.returned v∧m≤1000000∧AJ EC 1 w' w.heap.size 9 v m (IK (DR ((rows.flatMap (·.l)).filter AX)))∧Below w.heap.size w w':=by
 have HU:=AA (C6 p n cap rows w hn hm hr bY dA);have HT:=AA dA;clear hn hr bY dA;go_enter func56,ntmps56;go_wp2_with fail;refine HU.o.mono ?_;rintro e w1 ⟨v,m,rfl,gB,aB,hb⟩;obtain⟨q,mc,rfl,aD⟩:=aB.isRow AF (by omega);have hX:m≤1000000:=by have:=HT.o;omega
 generalize hS:DR ((rows.flatMap (·.l)).filter AX)=S at aD;have HS:=AA hS;have HR:=AA aD;have HB:=AA hb;clear aD hb;clear aB hS gB;go_wp2_with fail;go_loopw [3,5,9] (fun u _ i wr=>∃k t:Nat,k≤m∧i=.int .i64 k∧t≤k∧AJ EC 1 wr w1.heap.size 9 u t (IK (S.take k))∧Below w1.heap.size w1 wr) (fun _ _ i _=>m-(intOf i).toNat)
 case atStart=>exact⟨0,0,by omega,rfl,by omega,AJ.nil _ _ _ _ _,Below.refl _ _⟩
 case round=>
  obtain⟨k,t,hk,rfl,ja,aB,hb⟩:=hrel;have aO:=AA aB;have ay:=AA hb;clear aB hb;by_cases aF:k<m
  ·obtain⟨x,hx⟩:=AM (l:=S) (j:=k) (by rw [HR.o.len];exact aF);have HE:=AA hx;obtain⟨b,o,rfl,aP,d0,d1,d2⟩:=CX.atom (HR.o.below ay.o).row hx;obtain⟨kd,rr,ss⟩:=x;simp only at d0 d1 d2;clear hx aP;by_cases h3:kd=3
   ·subst h3;have aE:=AA (ay.o.alloc ay.o.size (.cells #[.int .u8 3,.int .i64 rr,.string ss] 59));have az:=AA (aO.o.below ((Below.refl _ wr).alloc (Nat.le_refl _) (.cells #[.int .u8 3,.int .i64 rr,.string ss] 59)));go_wp2_with (at_builtin;refine Ae rfl _ _ 72 rfl w1.heap.size 9 _ 1 16 underlying72 WY rfl (by decide) EC De QK ss _ _ _ az.o rfl (by refine Eq.trans (b:=Value.slice (some ⟨wr.heap.size+1,0,none⟩) 1 1) rfl ?_;simp) ?c1 ?c2 ?c3 ?_)
    case c1=>omega
    case c2=>omega
    case c3=>have:=aE.o.size;simp at this ⊢;omega
    ·intro v' w4 aH hg;have gu:=AA aH;have av:=AA (Below.own aE.o hg (by have:=aE.o.size;simp at this ⊢;omega) az.o);clear aH hg d0 d1 d2;go_wp2_with fail;go_roundw
     case rel=>exact⟨k+1,t+1,by omega,by go_num,by omega,by rw [AI HE.o];unfold IK at gu ⊢;rw [List.filter_append,List.map_append];exact gu.o,av.o⟩
     case measure=>simp [intOf];omega
   ·have i6:(kd==3)=false:=by rw [beq_eq_false_iff_ne];exact h3
    have fE:=AA h3;have aE:=AA (ay.o.alloc ay.o.size (.cells #[.int .u8 kd,.int .i64 rr,.string ss] 59));have az:=AA (aO.o.below ((Below.refl _ wr).alloc (Nat.le_refl _) (.cells #[.int .u8 kd,.int .i64 rr,.string ss] 59)));clear h3;go_wp2_with fail;go_roundw
    case rel=>exact⟨k+1,t,by omega,by go_num,by omega,by rw [AI HE.o];have:=az.o;unfold IK at this ⊢;rw [List.filter_append,List.map_append];simpa [fE.o] using this,aE.o⟩
    case measure=>simp [intOf];omega
  ·have dr:k=m:=by omega
   subst dr;go_wp2_with fail;go_ret;have h1:=aO.o;rw [AP (by rw [HR.o.len];omega)] at h1;exact⟨_,t,rfl,by omega,by rw [HS.o];exact h1.lower HB.o.size,HB.o.trans (ay.o.mono HB.o.size)⟩
end
section
open Go.Sort Go.Lib
theorem RD(a b:List AD):A1 a b=true↔∀x∈a,AX x=true→x∈b:=by
 unfold A1;rw [List.all_eq_true];constructor
 ·intro h x hx ha;have:=h x hx;rw [ha] at this;exact(L9 b x).1 (by simpa using this)
 ·intro h x hx;cases ha:AX x
  ·rfl
  ·simp [(L9 b x).2 (h x hx ha)]
theorem Ph(a:List AD):A1 a a=true:=(RD a a).2 (fun x hx _=>hx)
theorem CD{l:List AD}(h:BU l=false):l.length≤100:=by unfold BU at h;simp only [Bool.or_eq_false_iff,decide_eq_false_iff_not] at h;have:=h.1;omega
theorem Q7{w:World}{p q:Option Addr}{n m nc mc:Nat}(l l':List AD)(t:TypeId):Au Fy 1 (w.alloc (.cells #[.slice p n nc,.slice q m mc] t)) (some ⟨w.heap.size,0,none⟩) [⟨p,n,nc,l⟩,⟨q,m,mc,l'⟩]:=Au.newAt Ir w _ _ rfl _ _ _ rfl
theorem Vj{w:World}{p q:Option Addr}{n m nc mc:Nat}{l l':List AD}(h:AE AS 3 w p n nc l)(h':AE AS 3 w q m mc l'):∀r∈[(⟨p,n,nc,l⟩:Kc AD),⟨q,m,mc,l'⟩],r.Ok AS 3 w:=by
 intro r hr;simp only [List.mem_cons,List.not_mem_nil,or_false] at hr;rcases hr with rfl|rfl
 ·exact⟨h.len,h.le,h.nil,h.row⟩
 ·exact⟨h'.len,h'.le,h'.nil,h'.row⟩
theorem G0(l:List AD)(rhos:List Int)(x:AD):x∈B6 l rhos↔x∈l∧AX x=true∧Ee rhos x=false:=by unfold B6;rw [List.mem_filter,CV,List.mem_filter];simp [and_assoc]
theorem Gy(l:List AD)(exns:List ByteArray)(x:AD):x∈CP l exns↔x∈l∧AX x=true∧DE exns x=false:=by unfold CP;rw [List.mem_filter,CV,List.mem_filter];simp [and_assoc]
abbrev A2(l:List AD):List AD:=DR (l.filter AX)
theorem Sm{w:World}{p:Option Addr}{n nc:Nat}(l:List AD)(t:TypeId):Au Fy 1 (w.alloc (.cells #[.slice p n nc] t)) (some ⟨w.heap.size,0,none⟩) [⟨p,n,nc,l⟩]:=Au.newAt Ir w _ _ rfl _ _ _ rfl
theorem U9{w:World}{p:Option Addr}{n nc:Nat}{l:List AD}(h:AE AS 3 w p n nc l):∀r∈[(⟨p,n,nc,l⟩:Kc AD)],r.Ok AS 3 w:=by intro r hr;simp only [List.mem_cons,List.not_mem_nil,or_false] at hr;subst hr;exact⟨h.len,h.le,h.nil,h.row⟩
end
end Go.Proofs.YtkdjnegfnhldpaaGreatDoor
