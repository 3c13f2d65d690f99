/- Part 15. -/
import Derived.Deep.MidRow
import Derived.Test.YtkdjnegfnhldpaaGreatDoorK14
set_option linter.unusedVariables false
set_option maxRecDepth 100000
set_option linter.unusedSimpArgs false
set_option maxHeartbeats 40000000
namespace Go.Proofs.YtkdjnegfnhldpaaGreatDoor
open Go.Proofs.Tryz Go.RowKit
def Uf(x:Int×ByteArray):List Value:=[.int .i64 x.1,.string x.2]
theorem TQ(x:Int×ByteArray):(Uf x).length=2:=rfl
def MD:List (Int×ByteArray):=[(0,⟨#[110]⟩),(0,⟨#[109]⟩),(2,⟨#[]⟩),(1,⟨#[]⟩),(1,⟨#[]⟩),(1,⟨#[]⟩),(1,⟨#[]⟩),(2,⟨#[]⟩),(2,⟨#[111]⟩),(2,⟨#[]⟩),(1,⟨#[97]⟩),(2,⟨#[109]⟩),(2,⟨#[109,97]⟩),(3,⟨#[]⟩),(1,⟨#[101]⟩),(2,⟨#[101,97]⟩)]
theorem NL(w:World):Calls prog 204 #[] w fun e w'=>e=.returned (.slice (some ⟨w.heap.size,0,none⟩) 16 16)∧Au Uf 2 w' (some ⟨w.heap.size,0,none⟩) MD∧Below w.heap.size w w':=by go_enter func204,ntmps204;go_wp2_with fail;go_ret;exact⟨rfl,Au.newAt TQ _ MD _ (by simp [Uf,MD]) _ _ _ rfl,bA⟩
structure WU(k:Int)(kd:Int)(s:ByteArray):Prop where
 kids:Bb k=kd
 k0:0≤kd
 k3:kd≤3
 size:s.size≤1000
 o:F7 s 111=(k==9)
 n:F7 s 110=(k==1)
 m:F7 s 109=Ec k
 a:F7 s 97=Hg k
 e:F7 s 101=Il k
theorem VY(j:Nat)(h:j<16):∃kd s,MD[j]?=some (kd,s)∧WU ((j:Int)+1) kd s:=by
 rcases (by omega:j=0∨j=1∨j=2∨j=3∨j=4∨j=5∨j=6∨j=7∨j=8∨j=9∨j=10∨j=11∨j=12∨j=13∨j=14∨j=15) with rfl|rfl|rfl|rfl|rfl|rfl|rfl|rfl|rfl|rfl|rfl|rfl|rfl|rfl|rfl|rfl <;>
  exact⟨_,_,rfl,by decide,by decide,by decide,by decide,by decide,by decide,by decide,by decide,by decide⟩
theorem R2{h:CT}(n:Nat)(hk:h.kind<1∨16<h.kind∨h.at_<0):Be h n=false:=by
 unfold Be;rcases hk with hk|hk|hk
 ·have:Bb h.kind=-1:=by unfold Bb;rw [if_neg (by omega),if_neg (by omega),if_neg (by omega),if_neg (by omega)]
  rw [this];simp
 ·have:Bb h.kind=-1:=by unfold Bb;rw [if_neg (by omega),if_neg (by omega),if_neg (by omega),if_neg (by omega)]
  rw [this];simp
 ·have:decide (h.at_<0)=true:=by simpa using hk
  rw [this];simp
def VA(o:Int):Bool:=decide (1≤o)&&decide (o≤5)
theorem Tp{k op at_ m:Int}{name arg exn:ByteArray}{n:Nat}{kd:Int}{s:ByteArray}(hS:WU k kd s)(h3:0≤at_):Be ⟨k,op,at_,m,name,arg,exn⟩ n=(!(((n:Int) != kd)||(F7 s 111&&!VA op||!F7 s 111&&(op != 0)))&&!(decide (m<0)||decide (m > 2147483647)||!F7 s 110&&(m != 0))&&(Ek (F7 s 109) Ba name&&Ek (F7 s 97) Ba arg&&Ek (F7 s 101) DC exn)):=by
 have hf:∀(b:Bool) (q:ByteArray→Bool) (t:ByteArray),D0 b t (q t)=Ek b q t:=by
  intro b q t;cases b
  ·unfold D0 Ek
   have:t.toList.isEmpty=decide (t.size=0):=by
    rw [Lib.toList_data];obtain⟨⟨l⟩⟩:=t;cases l with
    |nil=>rfl
    |cons b l=>show false=decide (l.length+1=0);simp
   simp [this]
  ·simp [D0,Ek]
 have ba:decide (Bb k<0)=false:=by rw [hS.kids];have:=hS.k0;simp;omega
 have ha:decide (at_<0)=false:=by simp;omega
 have ho:(decide (op<1)||decide (5<op))=!VA op:=by unfold VA;rw [Bool.eq_iff_iff];simp
 show (!(decide (Bb k<0)||((n:Int) != Bb k)||decide (at_<0))&&!((k==9)&&(decide (op<1)||decide (5<op))||(k != 9)&&(op != 0)) &&
  !(decide (m<0)||decide (2147483647<m)||(k != 1)&&(m != 0))&&(D0 (Ec k) name (Ba name)&&D0 (Hg k) arg (Ba arg)&&D0 (Il k) exn (DC exn)))=_
 rw [ba,ha,hf,hf,hf,ho,hS.kids,hS.o,hS.n,hS.m,hS.a,hS.e];have e9:(k != 9)=!(k==9):=rfl;have e1:(k != 1)=!(k==1):=rfl;rw [e9,e1];simp only [Bool.false_or,Bool.or_false,Bool.not_or,gt_iff_lt]
theorem N9(h:CT)(p:Option Addr)(n c:Nat)(ba:0≤h.kind)(cQ:h.kind≤255)(w:World)(hk:h.kind<1∨16<h.kind∨h.at_<0):Calls prog 169 #[OE h p n c] w (RB w (.bool (Be h n))):=by
 have HR:=AA (R2 n hk);have aE:=AA ((Below.refl w.heap.size w).alloc (Nat.le_refl _) (I9 h p n c));have HC:=AA (ID w h p n c);have gT:IntKind.i64.wrap h.kind=h.kind:=IntWalk.i64_in _ (by omega);go_enter func169,ntmps169;go_wp2_with (go_at_call 204;refine(NL _).mono ?_;rintro e w2 ⟨rfl,eI,hb⟩;have fc:=AA (HC.o.below hb);have aK:=bt aE hb;clear eI hb;obtain⟨q0,q1,q2,q3,q4,q5,q6,q7⟩:=fc.o)
 all_goals (go_ret;exact⟨AB HR.o.symm,aK.o⟩)
structure Sv(w W:World)(g:Nat)(h:CT)(p:Option Addr)(n c:Nat)(kd:Int)(s:ByteArray):Prop where
 tm:Jr W w.heap.size h p n c
 s0:W.cell? ⟨g,0,none⟩=some (.int .i64 kd)
 s1:W.cell? ⟨g,1,none⟩=some (.string s)
 below:Below w.heap.size w W
theorem Sv.drop{w W W':World}{g:Nat}{h:CT}{p:Option Addr}{n c:Nat}{kd:Int}{s:ByteArray}(hi:Sv w W g h p n c kd s)(hb:Below W.heap.size W W'):Sv w W' g h p n c kd s:=by have aF:g<W.heap.size:=An hi.s0;exact⟨hi.tm.below hb,by rw [hb.cell aF];exact hi.s0,by rw [hb.cell aF];exact hi.s1,hi.below.trans (hb.mono hi.below.size)⟩
theorem KV{k:Int}{s:ByteArray}{x:Int}{r:Bool}(h:F7 s x=r)(hs:s.size≤1000)(w:World):Calls prog 205 #[.agg #[.int .i64 k,.string s],.int .u8 x] w (RB w (.bool r)):=by subst h;exact GZ k s x hs w
theorem NR(j:Nat)(hj:j<16)(op at_ m:Int)(name arg exn:ByteArray)(p:Option Addr)(n c:Nat)(hn:n≤1000000)(h3:0≤at_)(w:World)(hv:Vr w):Calls prog 169 #[OE ⟨(j:Int)+1,op,at_,m,name,arg,exn⟩ p n c] w (RB w (.bool (Be ⟨(j:Int)+1,op,at_,m,name,arg,exn⟩ n))):=by
 obtain⟨kd,s,qs,hS⟩:=VY j hj;have HR:=AA (Tp (op:=op) (m:=m) (name:=name) (arg:=arg) (exn:=exn) (n:=n) hS h3);have aE:=AA ((Below.refl w.heap.size w).alloc (Nat.le_refl _) (I9 ⟨(j:Int)+1,op,at_,m,name,arg,exn⟩ p n c));have HC:=AA (ID w ⟨(j:Int)+1,op,at_,m,name,arg,exn⟩ p n c);have iB:=hS.size;have HV:=AA hv;have r5:=AA qs;clear hv qs hS;have gT:IntKind.i64.wrap ((j:Int)+1)=(j:Int)+1:=IntWalk.i64_in _ (by omega);have ns:IntKind.u8.wrap ((j:Int)+1-1)=(j:Int):=by rw [show (j:Int)+1-1=(j:Int) by omega];exact IntWalk.u8_in _ (by omega)
 have j8:IntKind.u8.wrap (j:Int)=(j:Int):=IntWalk.u8_in _ (by omega);have d1:decide ((j:Int)+1<1)=false:=by simp;omega
 have d2:decide ((16:Int)<(j:Int)+1)=false:=by simp;omega
 have d3:decide (at_<0)=false:=by simp;omega
 go_enter func169,ntmps169;go_upto_region 2 with(go_at_call 204;refine(NL _).mono ?_;rintro e w2 ⟨rfl,eI,hb⟩;have fc:=AA (HC.o.below hb);have aK:=bt aE hb;have bv:=AA eI;clear eI hb)
 obtain⟨b,o,bF,aP,am⟩:=bv.o.elem r5.o;have o8:b=w.heap.size+1∧o=0:=by injection bF with h1;injection h1 with h1 h2;exact⟨by rw [←h1];simp,h2.symm⟩
 obtain⟨rfl,rfl⟩:=o8;have r0:w2.cell? ⟨w.heap.size+1,j * 2,none⟩=some (.int .i64 kd):=by simpa using am 0 _ rfl
 have r1:w2.cell? ⟨w.heap.size+1,j * 2+1,none⟩=some (.string s):=by simpa using am 1 _ rfl
 have HN:Hd (Sv w (w2.alloc (.cells #[.int .i64 kd,.string s] 244)) w2.heap.size ⟨(j:Int)+1,op,at_,m,name,arg,exn⟩ p n c kd s):=AA ⟨fc.o.below bA,by rw [AR];rfl,by rw [AR];rfl,aK.o.alloc aK.o.size _⟩;obtain⟨q0,q1,q2,q3,q4,q5,q6,q7⟩:=fc.o;clear bF aP am;go_upto_region 5 with fail;generalize w2.alloc (.cells #[.int .i64 kd,.string s] 244)=W1 at *
 clear q0 q1 q2 q3 q4 q5 q6 q7 r0 r1;obtain⟨⟨q0,q1,q2,q3,q4,q5,q6,q7⟩,r0,r1,bJ⟩:=HN.o;go_cut [5] from 33 to 42 (fun s5 wx=>s5=.bool (VA op)∧wx=W1)
 case first=>
  by_cases o1:1≤op
  ·have e1:decide (op≥1)=true:=by simpa using o1
   by_cases o5:op≤5
   ·have e2:decide (op≤5)=true:=by simpa using o5
    have HB:Hd (VA op=true):=by show _=_;simp [VA,o1,o5]
    clear o1 o5;go_wp2_with fail;go_meet
    case rel=>exact⟨by rw [HB.o],rfl⟩
   ·have e2:decide (op≤5)=false:=by simpa using o5
    have HB:Hd (VA op=false):=by show _=_;simp [VA,o5]
    clear o1 o5;go_wp2_with fail;go_meet
    case rel=>exact⟨by rw [HB.o],rfl⟩
  ·have e1:decide (op≥1)=false:=by simpa using o1
   have HB:Hd (VA op=false):=by show _=_;simp [VA,o1]
   clear o1;go_wp2_with fail;go_meet
   case rel=>exact⟨by rw [HB.o],rfl⟩
 case rest=>
  obtain⟨rfl,rfl⟩:=hcut;generalize VA op=B5 at *
  have HasO:=AA (fun w=>KV (k:=kd) (s:=s) (x:=111) rfl iB w);have HasN:=AA (fun w=>KV (k:=kd) (s:=s) (x:=110) rfl iB w);generalize F7 s 111=O at *
  generalize F7 s 110=N at *
  by_cases lY:(n:Int)=kd
  ·have f1:((n:Int) != kd)=false:=by simpa using lY
   have f2:decide ((n:Int)=kd)=true:=by simpa using lY
   have iy:=AA f1;clear lY;go_upto_region 7 with fail;go_cut [43] from 50 to 66 (fun s43 wx=>s43=.bool (O&&!B5||!O&&(op != 0))∧Sv w wx w2.heap.size ⟨(j:Int)+1,op,at_,m,name,arg,exn⟩ p n c kd s)
   case first=>
    cases O
    ·by_cases o0:op=0
     ·have e0:(op != 0)=false:=by simpa using o0
      have HB:=AA e0;clear o0;go_wp2_with (go_at_call 205;refine(HasO.o _).mono ?_;rintro e w8 ⟨rfl,hb⟩;have HN:=AA (HN.o.drop hb);clear hb q0 q1 q2 q3 q4 q5 q6 q7 r0 r1 bJ;obtain⟨⟨q0,q1,q2,q3,q4,q5,q6,q7⟩,r0,r1,bJ⟩:=HN.o);go_meet
      case rel=>exact⟨by rw [HB.o];rfl,HN.o⟩
     ·have e0:(op != 0)=true:=by simpa using o0
      have HB:=AA e0;clear o0;go_wp2_with (go_at_call 205;refine(HasO.o _).mono ?_;rintro e w8 ⟨rfl,hb⟩;have HN:=AA (HN.o.drop hb);clear hb q0 q1 q2 q3 q4 q5 q6 q7 r0 r1 bJ;obtain⟨⟨q0,q1,q2,q3,q4,q5,q6,q7⟩,r0,r1,bJ⟩:=HN.o);go_meet
      case rel=>exact⟨by rw [HB.o];rfl,HN.o⟩
    ·cases B5
     ·go_wp2_with (go_at_call 205;refine(HasO.o _).mono ?_;rintro e w8 ⟨rfl,hb⟩;have HN:=AA (HN.o.drop hb);clear hb q0 q1 q2 q3 q4 q5 q6 q7 r0 r1 bJ;obtain⟨⟨q0,q1,q2,q3,q4,q5,q6,q7⟩,r0,r1,bJ⟩:=HN.o);go_meet
      case rel=>exact⟨rfl,HN.o⟩
     ·go_wp2_with (go_at_call 205;refine(HasO.o _).mono ?_;rintro e w8 ⟨rfl,hb⟩;have HN:=AA (HN.o.drop hb);clear hb q0 q1 q2 q3 q4 q5 q6 q7 r0 r1 bJ;obtain⟨⟨q0,q1,q2,q3,q4,q5,q6,q7⟩,r0,r1,bJ⟩:=HN.o);go_meet
      case rel=>exact⟨rfl,HN.o⟩
   case rest=>
    obtain⟨rfl,qF⟩:=hcut;have fd:=AA qF;clear qF q0 q1 q2 q3 q4 q5 q6 q7 r0 r1 bJ;obtain⟨⟨q0,q1,q2,q3,q4,q5,q6,q7⟩,r0,r1,bJ⟩:=fd.o;generalize mM:(O&&!B5||!O&&(op != 0))=B7 at *
    have pb:=AA mM;clear mM;cases B7
    ·go_upto_region 9 with fail;have HN:=fd;go_cut [67] from 68 to 88 (fun s67 wx=>s67=.bool (decide (m<0)||decide (m > 2147483647)||!N&&(m != 0))∧Sv w wx w2.heap.size ⟨(j:Int)+1,op,at_,m,name,arg,exn⟩ p n c kd s)
     case first=>
      by_cases m0:m<0
      ·have e0:decide (m<0)=true:=by simpa using m0
       have HB:=AA e0;clear m0;go_wp2_with fail;go_meet
       case rel=>exact⟨by rw [HB.o];rfl,HN.o⟩
      ·have e0:decide (m<0)=false:=by simpa using m0
       have HB:=AA e0;by_cases m1:m > 2147483647
       ·have e1:decide (m > 2147483647)=true:=by simpa using m1
        have aJ:=AA e1;clear m0 m1;go_wp2_with fail;go_meet
        case rel=>exact⟨by rw [HB.o,aJ.o];rfl,HN.o⟩
       ·have e1:decide (m > 2147483647)=false:=by simpa using m1
        have aJ:=AA e1;clear m0 m1;cases N
        ·by_cases mz:m=0
         ·have e2:(m != 0)=false:=by simpa using mz
          have kE:=AA e2;clear mz;go_wp2_with (go_at_call 205;refine(HasN.o _).mono ?_;rintro e w8 ⟨rfl,hb⟩;have HN:=AA (HN.o.drop hb);clear hb q0 q1 q2 q3 q4 q5 q6 q7 r0 r1 bJ;obtain⟨⟨q0,q1,q2,q3,q4,q5,q6,q7⟩,r0,r1,bJ⟩:=HN.o);go_meet
          case rel=>exact⟨by rw [HB.o,aJ.o,kE.out];rfl,HN.o⟩
         ·have e2:(m != 0)=true:=by simpa using mz
          have kE:=AA e2;clear mz;go_wp2_with (go_at_call 205;refine(HasN.o _).mono ?_;rintro e w8 ⟨rfl,hb⟩;have HN:=AA (HN.o.drop hb);clear hb q0 q1 q2 q3 q4 q5 q6 q7 r0 r1 bJ;obtain⟨⟨q0,q1,q2,q3,q4,q5,q6,q7⟩,r0,r1,bJ⟩:=HN.o);go_meet
          case rel=>exact⟨by rw [HB.o,aJ.o,kE.out];rfl,HN.o⟩
        ·go_wp2_with (go_at_call 205;refine(HasN.o _).mono ?_;rintro e w8 ⟨rfl,hb⟩;have HN:=AA (HN.o.drop hb);clear hb q0 q1 q2 q3 q4 q5 q6 q7 r0 r1 bJ;obtain⟨⟨q0,q1,q2,q3,q4,q5,q6,q7⟩,r0,r1,bJ⟩:=HN.o);go_meet
         case rel=>exact⟨by rw [HB.o,aJ.o];rfl,HN.o⟩
     case rest=>
      obtain⟨rfl,qG⟩:=hcut;have HN:=AA qG;clear qG q0 q1 q2 q3 q4 q5 q6 q7 r0 r1 bJ;obtain⟨⟨q0,q1,q2,q3,q4,q5,q6,q7⟩,r0,r1,bJ⟩:=HN.o;generalize qL:(decide (m<0)||decide (m > 2147483647)||!N&&(m != 0))=B9 at *
      have gU:=AA qL;clear qL;cases B9
      ·have r6:=AA (fun(W:World) (hb:Below w.heap.size w W)=>FS (fid:=207) (q:=Ba) (fun args w=>by kernel_rfl) kd s 109 name iB (OV (HV.o.below hb)));have fF:=AA (fun(W:World) (hb:Below w.heap.size w W)=>FS (fid:=207) (q:=Ba) (fun args w=>by kernel_rfl) kd s 97 arg iB (OV (HV.o.below hb)));have oh:=AA (fun(W:World) (hb:Below w.heap.size w W)=>FS (fid:=174) (q:=DC) (fun args w=>by kernel_rfl) kd s 101 exn iB (VW W));have aa:=AA (show Be ⟨(j:Int)+1,op,at_,m,name,arg,exn⟩ n=(Ek (F7 s 109) Ba name&&Ek (F7 s 97) Ba arg&&Ek (F7 s 101) DC exn) by rw [HR.o,iy.o];simp);generalize Ek (F7 s 109) Ba name=F1 at *
       generalize Ek (F7 s 97) Ba arg=F2 at *
       generalize Ek (F7 s 101) DC exn=F3 at *
       have HX:=r6;have HY:=fF;have HZ:=oh;go_upto_region 11 with fail;cases F1
       ·go_wp2_with (go_at_call 206;refine(HX.o _ bJ).mono ?_;rintro e w8 ⟨rfl,hb⟩;have HN:=AA (HN.o.drop hb);clear hb q0 q1 q2 q3 q4 q5 q6 q7 r0 r1 bJ;obtain⟨⟨q0,q1,q2,q3,q4,q5,q6,q7⟩,r0,r1,bJ⟩:=HN.o;have HX:=HY;have HY:=HZ);go_ret;exact⟨AB (by rw [aa.o];rfl),bJ⟩
       ·cases F2
        ·go_wp2_with (go_at_call 206;refine(HX.o _ bJ).mono ?_;rintro e w8 ⟨rfl,hb⟩;have HN:=AA (HN.o.drop hb);clear hb q0 q1 q2 q3 q4 q5 q6 q7 r0 r1 bJ;obtain⟨⟨q0,q1,q2,q3,q4,q5,q6,q7⟩,r0,r1,bJ⟩:=HN.o;have HX:=HY;have HY:=HZ);go_ret;exact⟨AB (by rw [aa.o];rfl),bJ⟩
        ·go_wp2_with (go_at_call 206;refine(HX.o _ bJ).mono ?_;rintro e w8 ⟨rfl,hb⟩;have HN:=AA (HN.o.drop hb);clear hb q0 q1 q2 q3 q4 q5 q6 q7 r0 r1 bJ;obtain⟨⟨q0,q1,q2,q3,q4,q5,q6,q7⟩,r0,r1,bJ⟩:=HN.o;have HX:=HY;have HY:=HZ);go_ret;exact⟨AB (by rw [aa.o];rfl),bJ⟩
      ·go_wp2_with fail;go_ret;exact⟨AB (by rw [HR.o];simp),bJ⟩
    ·go_wp2_with fail;go_ret;exact⟨AB (by rw [HR.o,iy.o];simp),bJ⟩
  ·have f1:((n:Int) != kd)=true:=by simpa using lY
   have f2:decide ((n:Int)=kd)=false:=by simpa using lY
   have iy:=AA f1;clear lY;go_wp2_with fail;go_ret;exact⟨AB (by rw [HR.o,iy.o];simp),bJ⟩
theorem N8(h:CT)(ba:0≤h.kind)(cQ:h.kind≤255)(p:Option Addr)(n c:Nat)(hn:n≤1000000)(w:World)(hv:Vr w):Calls prog 169 #[OE h p n c] w (RB w (.bool (Be h n))):=by
 by_cases hk:h.kind<1∨16<h.kind∨h.at_<0
 ·exact N9 h p n c ba cQ w hk
 ·obtain⟨k,op,at_,m,name,arg,exn⟩:=h;simp only [not_or] at hk;obtain⟨j,hj⟩:∃j:Nat,k=(j:Int)+1:=⟨(k-1).toNat,by omega⟩;subst hj;exact NR j (by omega) op at_ m name arg exn p n c hn (by omega) w hv
theorem Fl(a:AH):(Bn a).length=19:=rfl
theorem EM:∀a:AH,∀u∈Bn a,u.oneCell'=true:=by intro a u hu;simp [Bn] at hu;rcases hu with rfl|rfl|rfl|rfl|rfl|rfl|rfl|rfl|rfl|rfl|rfl|rfl|rfl|rfl|rfl|rfl|rfl|rfl|rfl<;>rfl
abbrev Xl:Value:=.agg #[.int .u8 0,.int .u8 0,.int .i64 0,.int .i64 0,.string .empty,.string .empty,.string .empty,.int .i64 0,.slice none 0 0,.slice none 0 0,.int .u8 0,.int .i64 0,.slice none 0 0,.slice none 0 0,.int .u8 0,.int .i64 0,.slice none 0 0,.slice none 0 0,.slice none 0 0]
theorem Wq:(prog.info? 31).map (fun i=>(i.zero,i.size,i.bytes))=some (some Xl,19,280):=by kernel_rfl
theorem DH(t:PA):(AG.nodes t).length=t.size:=by refine AG.ind (P:=fun(t:PA)=>(AG.nodes t).length=t.size) (fun a l ih=>?_) t;rw [AG.nodes_node,AG.size_node,List.length_cons,List.length_flatten,List.map_map];have:l.map (List.length ∘ AG.nodes)=l.map AG.size:=List.map_congr_left ih;rw [this];omega
def A6(l:List PA)(k:Nat):List AH:=((l.take k).map AG.nodes).flatten
theorem Fd{l:List PA}{k:Nat}{x:PA}(h:l[k]?=some x):A6 l (k+1)=A6 l k++AG.nodes x:=by unfold A6;rw [AI h,List.map_append,List.flatten_append];simp
theorem Qz{l:List PA}{k:Nat}:((l.take k).map AG.size).sum≤(l.map AG.size).sum:=by
 induction k generalizing l with
 |zero=>simp
 |succ k ih=>cases l with
  |nil=>simp
  |cons y l=>have:=ih (l:=l);simp only [List.take_succ_cons,List.map_cons,List.sum_cons] at this ⊢;omega
theorem IU(l:List PA)(k:Nat):(A6 l k).length=((l.take k).map AG.size).sum:=by unfold A6;rw [List.length_flatten,List.map_map];congr 1;exact List.map_congr_left (fun t _=>DH t)
theorem Ts{a:AH}{l:List PA}{k:Nat}{x:PA}(h:l[k]?=some x):a::(A6 l k++AG.nodes x)=a::A6 l (k+1):=by rw [Fd h]
def SP(t:PA)(w:World):Prop:=Calls prog 26 #[Aj t.head] w fun e w'=>(∃p c,e=.returned (.slice p t.size c)∧AJ Bn 19 w' w.heap.size 31 (.slice p t.size c) t.size (AG.nodes t))∧Below w.heap.size w w'
theorem PI{a:AH}{l:List PA}{w:World}(hN:Fr w a l)(hs:(AG.node a l).size≤1000)(hf:∀x∈l,∀W,Below w.heap.size w W→SP x W):SP (.node a l) w:=by
 have HN:=AA hN;have HF:=AA hf;have HS:=AA hs;have dr:=hN.own.kmax;have HA:=AA (Aa w a);have aE:=AA ((Below.refl w.heap.size w).alloc (Nat.le_refl _) (AO a));have fq:=AA (IX Fl (w.alloc (AO a)) (w.heap.size+1) 31 [a] 1 #[.int .u8 a.kind,.int .u8 a.op,.int .i64 a.at_,.int .i64 a.n,.string a.name,.string a.arg,.string a.exn,.int .i64 a.rho,.slice a.rp a.rn a.rc,.slice a.ep a.en a.ec,.int .u8 a.ty.head.kind,.int .i64 a.ty.head.rho,.slice a.ty.head.ep a.ty.head.en a.ty.head.ec,.slice a.ty.head.kp a.ty.head.kn a.ty.head.kc,.int .u8 a.res.head.kind,.int .i64 a.res.head.rho,.slice a.res.head.ep a.res.head.en a.res.head.ec,.slice a.res.head.kp a.res.head.kn a.res.head.kc,.slice a.kp a.kn a.kc] rfl rfl (by decide) (by simp));show Calls _ _ #[Aj a] w _;clear hN hf hs;go_enter func26,ntmps26;go_wp2_with (refine lw (HA.o.blk) underlying31 ?_);have lI:=AA (HA.o.below ((Below.refl (w.alloc (AO a)).heap.size (w.alloc (AO a))).alloc (Nat.le_refl _) (.cells #[.int .u8 a.kind,.int .u8 a.op,.int .i64 a.at_,.int .i64 a.n,.string a.name,.string a.arg,.string a.exn,.int .i64 a.rho,.slice a.rp a.rn a.rc,.slice a.ep a.en a.ec,.int .u8 a.ty.head.kind,.int .i64 a.ty.head.rho,.slice a.ty.head.ep a.ty.head.en a.ty.head.ec,.slice a.ty.head.kp a.ty.head.kn a.ty.head.kc,.int .u8 a.res.head.kind,.int .i64 a.res.head.rho,.slice a.res.head.ep a.res.head.en a.res.head.ec,.slice a.res.head.kp a.res.head.kn a.res.head.kc,.slice a.kp a.kn a.kc] 31)));have aK:=AA (aE.o.alloc aE.o.size (.cells #[.int .u8 a.kind,.int .u8 a.op,.int .i64 a.at_,.int .i64 a.n,.string a.name,.string a.arg,.string a.exn,.int .i64 a.rho,.slice a.rp a.rn a.rc,.slice a.ep a.en a.ec,.int .u8 a.ty.head.kind,.int .i64 a.ty.head.rho,.slice a.ty.head.ep a.ty.head.en a.ty.head.ec,.slice a.ty.head.kp a.ty.head.kn a.ty.head.kc,.int .u8 a.res.head.kind,.int .i64 a.res.head.rho,.slice a.res.head.ep a.res.head.en a.res.head.ec,.slice a.res.head.kp a.res.head.kn a.res.head.kc,.slice a.kp a.kn a.kc] 31));have aU:((w.alloc (AO a)).alloc (.cells #[.int .u8 a.kind,.int .u8 a.op,.int .i64 a.at_,.int .i64 a.n,.string a.name,.string a.arg,.string a.exn,.int .i64 a.rho,.slice a.rp a.rn a.rc,.slice a.ep a.en a.ec,.int .u8 a.ty.head.kind,.int .i64 a.ty.head.rho,.slice a.ty.head.ep a.ty.head.en a.ty.head.ec,.slice a.ty.head.kp a.ty.head.kn a.ty.head.kc,.int .u8 a.res.head.kind,.int .i64 a.res.head.rho,.slice a.res.head.ep a.res.head.en a.res.head.ec,.slice a.res.head.kp a.res.head.kn a.res.head.kc,.slice a.kp a.kn a.kc] 31)).heap.size=w.heap.size+2:=by simp
 have eQ:(w.alloc (AO a)).heap.size=w.heap.size+1:=by simp
 rw [eQ] at fq;generalize (w.alloc (AO a)).alloc (AO a)=W2 at *
 clear eQ;go_loopw [3,10] (fun u i wr=>∃(k:Nat) (p:Option Addr) (c:Nat),k≤a.kn∧i=.int .i64 k∧u=.slice p (1+(A6 l k).length) c∧AJ Bn 19 wr (w.heap.size+1) 31 u (1+(A6 l k).length) (a::A6 l k)∧Fq wr w.heap.size a∧Below w.heap.size w wr) (fun _ i _=>a.kn-(intOf i).toNat)
 case atStart=>exact⟨0,some ⟨w.heap.size+1,0,none⟩,1,by omega,rfl,rfl,fq.o,lI.o,aK.o⟩
 case round=>
  obtain⟨k,p,c,hk,rfl,rfl,aB,a6,hb⟩:=hrel;have aO:=AA aB;have fb:=AA a6;have HB:=AA hb;clear aB a6 hb;have q18:wr.cell? ⟨w.heap.size,18,none⟩=some (.slice a.kp a.kn a.kc):=fb.o.c 18 _ rfl;by_cases aF:k<a.kn
  ·obtain⟨x,hx⟩:=(HN.o.rowT).at (j:=k) aF;have HE:=AA hx;obtain⟨b,o,bF,aP,am⟩:=(HN.o.rowT.below HB.o).kid hx;have dC:=AA am;rw [bF] at q18;clear hx aP bF am
   have gZ:=AA (show 1+(A6 l k).length+x.size≤1000 by
    have h1:=congrArg List.length (Fd HE.o);rw [List.length_append,DH,IU l (k+1)] at h1;have h2:=Qz (l:=l) (k:=k+1);have h3:=HS.o;rw [AG.size_node] at h3;omega)
   go_wp2_with (refine lm (Bn x.head) dC.o.c underlying31 ?_);refine Calls.mono (HF.o x (List.mem_of_getElem? HE.o) wr HB.o) ?_;rintro e w2 ⟨⟨p2,c2,rfl,cC⟩,hb⟩;have dN:=AA (aO.o.below hb);have aJ:=bt HB hb;have kF:=AA (fb.o.below hb);obtain⟨q,cc,hv,aD⟩:=cC.isRow Fl (by omega);cases hv;have bv:=AA aD;have qm:w.heap.size+1≤w2.heap.size:=by have:=(Array.getElem?_eq_some_iff.1 kF.o.blk).1;omega
   have rZ:=AA qm;clear cC aD hb qm q18;go_wp2_with (at_builtin;refine Cj rfl _ _ 29 rfl (w.heap.size+1) 31 Xl 19 280 underlying29 Wq rfl (by decide) Bn Fl EM (AG.nodes x) (a::A6 l k) (1+(A6 l k).length) _ dN.o _ x.size _ rfl rfl bv.o.len bv.o.nil bv.o.row ?c1 ?c2 ?c3 ?_)
   case c1=>have:=gZ.o;omega
   case c2=>have:=gZ.o;omega
   case c3=>exact rZ.o
   ·intro v3 w3 aX bM;obtain⟨p3,c3,rfl,bP⟩:=AJ.isRow Fl (by omega) aX;have ev:∀g,(Value.slice p (1+(A6 l k).length) c).ownBlock=some g→w.heap.size+1≤g:=fun g hg=>(World.ownsRow.lt dN.o g hg).1;have aV:=AA (aJ.o.grown bM aJ.o.size (fun g hg=>by have:=ev g hg;omega));have oD:Hd (Fq w3 w.heap.size a):=⟨by rw [bM.block w.heap.size (Array.getElem?_eq_some_iff.1 kF.o.blk).1 (fun e=>by have:=ev _ e.symm;omega)];exact kF.o.blk⟩;have oJ:Hd (1+(A6 l k).length+x.size=1+(A6 l (k+1)).length):=by show _=_;rw [Fd HE.o,List.length_append,DH];omega
    rw [Ts HE.o,oJ.o] at aX;have gt:=AA aX;clear aX bM ev bP;go_wp2_with fail;go_roundw
    case rel=>exact⟨k+1,p3,c3,by omega,by go_num,by rw [oJ.o],by rw [oJ.o];exact gt.o,oD.o,aV.o⟩
    case measure=>simp [intOf];omega
  ·have ao:k=a.kn:=by omega
   have cA:l.take k=l:=AP (by rw [ao,HN.o.kids.len];exact Nat.le_refl _);have fi:Hd (1+(A6 l k).length=(AG.node a l).size):=by show _=_;rw [IU,cA,AG.size_node]
   have ri:Hd (a::A6 l k=AG.nodes (AG.node a l)):=by show _=_;rw [AG.nodes_node];unfold A6;rw [cA]
   clear ao cA;go_wp2_with fail;go_ret;refine⟨⟨p,c,by rw [←fi.o];rfl,?_⟩,HB.o⟩;have h:=aO.o;rw [ri.o,fi.o] at h;exact h.lower (Nat.le_succ _)
theorem Uz(l:List PA):l.length≤(l.map AG.size).sum:=by
 induction l with
 |nil=>simp
 |cons x l ih=>have:=AG.size_pos x;simp only [List.length_cons,List.map_cons,List.sum_cons];omega
theorem Kd(t:PA):∀w,LA.lies w t→t.size≤1000→SP t w:=by refine AG.ind (P:=fun(t:PA)=>∀w,LA.lies w t→t.size≤1000→SP t w) (fun a l ih=>?_) t;intro w hl hs;have HN:=DP hl;refine PI HN hs (fun x hx W hW=>ih x hx W (LA.lies_below hW x (HN.each x hx)) ?_);have h1:=hs;rw [AG.size_node] at h1;have h2:x.size≤(l.map AG.size).sum:=BN (List.mem_map_of_mem hx);omega
def AU{α σ:Type}(st:α→σ→Bool×σ):List α→σ→Bool×σ
 |[],s=>(true,s)
 |a::l,s=>if(st a s).1 then AU st l (st a s).2 else(false,(st a s).2)
theorem FI{α σ:Type}(st:α→σ→Bool×σ):∀(l m:List α) (s:σ),AU st (l++m) s=if(AU st l s).1 then AU st m (AU st l s).2 else AU st l s
 |[],m,s=>by simp [AU]
 |a::l,m,s=>by
  have e:∀n,AU st (a::n) s=if(st a s).1 then AU st n (st a s).2 else(false,(st a s).2):=fun _=>rfl;rw [List.cons_append,e,e];by_cases h:(st a s).1=true
  ·simp only [h,if_true];exact FI st l m _
  ·simp [h]
def Ai(l:List PA):List AH:=(l.map AG.nodes).flatten
theorem PH(l:List PA)(k:Nat):Ai l=A6 l k++Ai (l.drop k):=by unfold Ai A6;rw [←List.flatten_append,←List.map_append,List.take_append_drop]
theorem GB(x:PA):AG.nodes x=x.head::Ai x.kids:=by cases x;rw [AG.nodes_node];rfl
theorem Sr{σ:Type}(st:AH→σ→Bool×σ)(s:σ){l:List PA}{k:Nat}{x:PA}(h:l[k]?=some x)(hb:(AU st (A6 l k) s).1=true):AU st (A6 l (k+1)) s=if(st x.head (AU st (A6 l k) s).2).1 then AU st (Ai x.kids) (st x.head (AU st (A6 l k) s).2).2 else(false,(st x.head (AU st (A6 l k) s).2).2):=by rw [Fd h,FI,if_pos hb,GB];rfl
theorem MC{σ:Type}(st:AH→σ→Bool×σ)(s:σ)(l:List PA)(k:Nat)(hb:(AU st (A6 l k) s).1=false):AU st (Ai l) s=AU st (A6 l k) s:=by rw [PH l k,FI,if_neg (by rw [hb];exact Bool.false_ne_true)]
theorem VV(l:List PA)(k:Nat)(h:l.length≤k):A6 l k=Ai l:=by unfold A6 Ai;rw [List.take_of_length_le h]
structure XZ(w0:World)(row:Option Nat)(g:Nat)(lb:Array Value){σ:Type}(Inv:σ→World→Prop)(ok:AH→Prop)(st:AH→σ→Bool×σ):Prop where
 eg:∀args w,(callFunc g args).run prog w=.ok (.enter g args) w
 hb:∀b,row=some b→w0.heap.size≤b
 lt:∀b,row=some b→∀s W,Inv s W→b<W.heap.size
 inv:∀s W W',Inv s W→Below W.heap.size W W'→Inv s W'
 call:∀a s W,ok a→Below w0.heap.size w0 W→Inv s W→Calls prog g (#[Aj a]++lb) W fun e w'=>e=.returned (.bool (st a s).1)∧Inv (st a s).2 w'∧W.grownBy w' row
def ME(w0:World)(row:Option Nat)(g:Nat)(lb:Array Value){σ:Type}(Inv:σ→World→Prop)(ok:AH→Prop)(st:AH→σ→Bool×σ)(l:List PA):Prop:=∀p n c,Ds w0 p n c l→(∀a∈Ai l,ok a)→∀s W,Below w0.heap.size w0 W→Inv s W→Calls prog 59 #[.func (.func g) #[] lb,.slice p n c] W fun e w'=>e=.returned (.bool (AU st (Ai l) s).1)∧Inv (AU st (Ai l) s).2 w'∧W.grownBy w' row
theorem Gz{l:List PA}{x:PA}(hx:x∈l){a:AH}(ha:a∈AG.nodes x):a∈Ai l:=List.mem_flatten.2 ⟨_,List.mem_map_of_mem hx,ha⟩
theorem SR{w:World}{x:PA}(h:LA.lies w x):Ds w x.head.kp x.head.kn x.head.kc x.kids:=by cases x;exact(DP h).rowT
theorem I8{w0:World}{row:Option Nat}{g:Nat}{lb:Array Value}{σ:Type}{Inv:σ→World→Prop}{ok:AH→Prop}{st:AH→σ→Bool×σ}(F:XZ w0 row g lb Inv ok st)(l:List PA)(ih:∀x∈l,ME w0 row g lb Inv ok st x.kids):ME w0 row g lb Inv ok st l:=by
 intro p n c hR bY s W jn fX;have eg:=F.eg;have HF:=AA F;have HI:=AA ih;have HR:=AA hR;have dc:=AA bY;have ay:=AA jn;have HV:=AA fX;have gl:n≤9223372036854775807:=hR.row.max;clear F ih hR bY jn fX;go_enter func59,ntmps59;go_wp2_with fail;go_loopw [9] (fun i wr=>∃(k:Nat) (S:Bool×σ),k≤n∧i=.int .i64 k∧Hd (AU st (A6 l k) s=S)∧S.1=true∧Inv S.2 wr∧W.grownBy wr row) (fun i _=>n-(intOf i).toNat)
 case atStart=>exact⟨0,(true,s),by omega,rfl,AA rfl,rfl,HV.o,World.grownBy.refl _ _⟩
 case round=>
  obtain⟨k,S,hk,rfl,HS,hs,ju,hg⟩:=hrel;have gq:=AA ju;have HG:=AA hg;have cj:=AA hs;have HB:=AA (ay.o.grown hg ay.o.size HF.o.hb);clear ju hg hs;by_cases aF:k<n
  ·obtain⟨x,hx⟩:=HR.o.at (j:=k) aF;obtain⟨b,o,bF,aP,am⟩:=(HR.o.below HB.o).kid hx;obtain⟨a,m,nu⟩:∃a m,x=AG.node a m:=⟨x.head,x.kids,AG.eta x⟩;subst nu;have dC:=AA (show Ht wr b (o+k * 19) a from am);subst bF;have hE:=List.mem_of_getElem? hx;have fG:=AA (show ME w0 row g lb Inv ok st m from HI.o _ hE);have jL:=AA (show Ds w0 a.kp a.kn a.kc m from SR (HR.o.lies hx));have jh:=AA (show ∀a'∈Ai m,ok a' from fun a' ha=>dc.o a' (Gz hE (by rw [GB];exact List.mem_cons_of_mem _ ha)));have fY:ok a:=dc.o a (Gz hE (by rw [GB];exact List.mem_cons_self))
   have bx:=AA (show AU st (A6 l (k+1)) s=if(st a S.2).1 then AU st (Ai m) (st a S.2).2 else(false,(st a S.2).2) by
    have h:=Sr st s hx (by rw [HS.o];exact cj.o);rw [HS.o] at h;exact h)
   clear hx aP am hE;have aE:=AA (Aa wr a);have bz:Below wr.heap.size wr (wr.alloc (AO a)):=bA;have aJ:=bt HB bz;have iK:=AA (HF.o.inv _ _ _ gq.o bz);have bb:=AA (HF.o.call a S.2 _ fY aJ.o iK.o);have iI:=AA (HG.o.trans ((World.grownBy_alloc wr (AO a) row)));clear bz fY;have jm:(wr.alloc (.cells #[.int .u8 0,.int .u8 0,.int .i64 0,.int .i64 0,.string ⟨#[]⟩,.string ⟨#[]⟩,.string ⟨#[]⟩,.int .i64 0,.slice none 0 0,.slice none 0 0,.int .u8 0,.int .i64 0,.slice none 0 0,.slice none 0 0,.int .u8 0,.int .i64 0,.slice none 0 0,.slice none 0 0,.slice none 0 0] 31)).heap[wr.heap.size]?=some (.cells #[.int .u8 0,.int .u8 0,.int .i64 0,.int .i64 0,.string ⟨#[]⟩,.string ⟨#[]⟩,.string ⟨#[]⟩,.int .i64 0,.slice none 0 0,.slice none 0 0,.int .u8 0,.int .i64 0,.slice none 0 0,.slice none 0 0,.int .u8 0,.int .i64 0,.slice none 0 0,.slice none 0 0,.slice none 0 0] 31 (0,0)):=heap_alloc_new wr _;have cF:=AA jm;clear jm;cases hq:(st a S.2).1 with
   |false=>
    rw [hq] at bb bx;have HQ:=AA hq;clear hq
    go_wp2_with (first
     |(refine lm (Bn a) dC.o.c underlying31 ?_)
     |(refine wpList_store_row rfl 31 _ _ rfl wr.heap.size (Bn a).toArray rfl rfl 31 _ cF.o (by kernel_rfl) rfl (all_oneCell_toArray (EM a)) ?_;rw [World.setRow_alloc_new])
     |(refine lw aE.o.blk underlying31 ?_)
     |(go_at_fn g;refine bb.o.mono ?_;rintro e w2 ⟨rfl,cG,a8⟩;have bi:=AA cG;have eT:=AA (iI.o.trans a8);clear cG a8))
    go_ret;have bg:AU st (Ai l) s=(false,(st a S.2).2):=by rw [MC st s l (k+1) (by rw [bx.o];rfl),bx.o];rfl
    exact⟨AB (by rw [bg]),by rw [bg];exact bi.o,eT.o⟩
   |true=>
    rw [hq] at bb bx;have HQ:=AA hq;clear hq;have HM:=AA (HF.o.hb);have q18:∀w2,(wr.alloc (AO a)).grownBy w2 row→Inv (st a S.2).2 w2→w2.cell? ⟨wr.heap.size,18,none⟩=some (.slice a.kp a.kn a.kc)∧Below w0.heap.size w0 w2:=fun w2 a8 cG=>⟨a8.cell (a:=⟨wr.heap.size,18,none⟩) (aE.o.c 18 _ rfl) (fun e=>by have:=HF.o.lt _ e.symm _ _ gq.o;exact Nat.lt_irrefl _ this),aJ.o.grown a8 aJ.o.size HM.o⟩;have fR:=AA q18;clear q18;cases ee:(AU st (Ai m) (st a S.2).2).1 with
    |false=>
     have du:=AA ee;clear ee
     go_wp2_with (first
      |(refine lm (Bn a) dC.o.c underlying31 ?_)
      |(refine wpList_store_row rfl 31 _ _ rfl wr.heap.size (Bn a).toArray rfl rfl 31 _ cF.o (by kernel_rfl) rfl (all_oneCell_toArray (EM a)) ?_;rw [World.setRow_alloc_new])
      |(refine lw aE.o.blk underlying31 ?_)
      |(first|(go_at_fn g;refine bb.o.mono ?_;rintro e w2 ⟨rfl,cG,a8⟩;obtain⟨c18,bQ⟩:=fR.o _ a8 cG;have bi:=AA cG;have eT:=AA (iI.o.trans a8);have aK:=AA bQ;clear cG a8 bQ)|(go_at_call 59;refine(fG.o _ _ _ jL.o jh.o _ _ aK.o bi.o).mono ?_;rw [du.o];rintro e w3 ⟨rfl,fW,bM⟩;have cb:=AA fW;have cy:=AA (eT.o.trans bM);clear fW bM)))
     go_ret;have bg:AU st (Ai l) s=AU st (Ai m) (st a S.2).2:=by rw [MC st s l (k+1) (by rw [bx.o];exact du.o),bx.o];rfl
     exact⟨AB (by rw [bg,du.o]),by rw [bg];exact cb.o,cy.o⟩
    |true=>
     have du:=AA ee;clear ee
     go_wp2_with (first
      |(refine lm (Bn a) dC.o.c underlying31 ?_)
      |(refine wpList_store_row rfl 31 _ _ rfl wr.heap.size (Bn a).toArray rfl rfl 31 _ cF.o (by kernel_rfl) rfl (all_oneCell_toArray (EM a)) ?_;rw [World.setRow_alloc_new])
      |(refine lw aE.o.blk underlying31 ?_)
      |(first|(go_at_fn g;refine bb.o.mono ?_;rintro e w2 ⟨rfl,cG,a8⟩;obtain⟨c18,bQ⟩:=fR.o _ a8 cG;have bi:=AA cG;have eT:=AA (iI.o.trans a8);have aK:=AA bQ;clear cG a8 bQ)|(go_at_call 59;refine(fG.o _ _ _ jL.o jh.o _ _ aK.o bi.o).mono ?_;rw [du.o];rintro e w3 ⟨rfl,fW,bM⟩;have cb:=AA fW;have cy:=AA (eT.o.trans bM);clear fW bM)))
     go_roundw
     case rel=>exact⟨k+1,_,by omega,by go_num,bx,by show (AU st (Ai m) (st a S.2).2).1=true;exact du.o,cb.o,cy.o⟩
     case measure=>simp [intOf];omega
  ·have ao:k=n:=by omega
   have cA:A6 l k=Ai l:=VV l k (by rw [HR.o.row.len,ao];exact Nat.le_refl _);rw [cA] at HS;go_wp2_with fail;go_ret;exact⟨AB (by rw [HS.o,cj.o]),by rw [HS.o];exact gq.o,HG.o⟩
theorem H6{w0:World}{row:Option Nat}{g:Nat}{lb:Array Value}{σ:Type}{Inv:σ→World→Prop}{ok:AH→Prop}{st:AH→σ→Bool×σ}(F:XZ w0 row g lb Inv ok st)(l:List PA):ME w0 row g lb Inv ok st l:=I8 F l (fun x _=>AG.ind (P:=fun(x:PA)=>ME w0 row g lb Inv ok st x.kids) (fun a m ih=>I8 F m ih) x)
def Ng(_:Unit):List Value:=[.int .u8 1,.int .u8 0,.int .i64 0,.int .i64 0,.string ⟨#[]⟩,.string ⟨#[]⟩,.string ⟨#[]⟩,.slice none 0 0]
theorem J5:∀x,(Ng x).length=8:=fun _=>rfl
theorem Ue:∀y,∀u∈Ng y,u.oneCell'=true:=by intro y u hu;simp [Ng] at hu;rcases hu with rfl|rfl|rfl|rfl|rfl|rfl<;>rfl
abbrev OB:Obj:=.cells #[.int .u8 0,.int .u8 0,.int .i64 0,.int .i64 0,.string ⟨#[]⟩,.string ⟨#[]⟩,.string ⟨#[]⟩,.slice none 0 0] 53
structure UK(w wr:World)(h:CT)(a:AH)(v:Value)(k:Nat):Prop where
 own:AJ Ng 8 wr (w.heap.size+3) 53 v k (List.replicate k ())
 box:Gp wr (w.heap.size+2) h v
 res:wr.heap[w.heap.size+1]?=some OB
 size:w.heap.size+3≤wr.heap.size
 below:Below w.heap.size w wr
theorem UK.add{w wr w3:World}{h:CT}{a:AH}{v v3:Value}{k:Nat}(hi:UK w wr h a v k)(aB:AJ Ng 8 w3 (w.heap.size+3) 53 v3 (k+1) (List.replicate k ()++[()]))(f7:wr.grownBy w3 v.ownBlock):UK w (w3.setCell ⟨w.heap.size+2,7,none⟩ v3) h a v3 (k+1):=by
 have ev:∀b,v.ownBlock=some b→w.heap.size+3≤b:=fun b hb=>(World.ownsRow.lt hi.own b hb).1;have kz:∀b,v3.ownBlock=some b→w.heap.size+3≤b:=fun b hb=>(World.ownsRow.lt aB b hb).1;have bn:w3.grownBy (w3.setCell ⟨w.heap.size+2,7,none⟩ v3) (some (w.heap.size+2)):=AL _ _ _ _;have aF:=hi.size;refine⟨?_,(hi.box.grown f7 (fun e=>by have:=ev _ e;omega)).set v3,?_,Nat.le_trans hi.size (Nat.le_trans f7.size bn.size),?_⟩
 ·refine⟨by rw [List.replicate_succ'];exact aB.1,?_⟩;rw [List.replicate_succ'];rcases aB.2 with h0|⟨g,cap,cur,rfl,h1,h2,rest⟩
  ·exact .inl h0
  ·refine .inr ⟨g,cap,cur,rfl,h1,?_,rest⟩;rw [bn.block g (Array.getElem?_eq_some_iff.1 h2).1 (fun e=>by injection e with e;omega)];exact h2
 ·have h1:=hi.res;rw [bn.block _ (by have:=f7.size;omega) (fun e=>by injection e with e;omega),f7.block _ (by omega) (fun e=>by have:=ev _ e.symm;omega)];exact h1
 ·exact(hi.below.grown f7 (by omega) (fun b hb=>by have:=ev b hb;omega)).grown bn (by have:=f7.size;omega) (fun b hb=>by injection hb with hb;omega)
theorem H8(a:AH)(hk:a.kn≤1000)(w:World):Calls prog 121 #[Aj a] w fun e w'=>(∃p c,e=.returned (OE a.hd p a.kn c)∧AE Ng 8 w' p a.kn c (List.replicate a.kn ()))∧Below w.heap.size w w':=by
 have HA:=AA (Aa w a);have HB:=AA (((Below.refl w.heap.size w).alloc (Nat.le_refl _) (AO a)))
 have hz:UK w (((w.alloc (AO a)).alloc OB).alloc (.cells #[.int .u8 a.kind,.int .u8 a.op,.int .i64 a.at_,.int .i64 a.n,.string a.name,.string a.arg,.string a.exn,.slice none 0 0] 53)) a.hd a (.slice none 0 0) 0:=by
  have h1:=P8 ((w.alloc (AO a)).alloc OB) a.hd (.slice none 0 0);refine⟨AJ.nil _ _ _ _ _,?_,?_,by simp,(HB.o.alloc (by simp) _).alloc (by simp;omega) _⟩
  ·rw [show ((w.alloc (AO a)).alloc OB).heap.size=w.heap.size+2 by simp] at h1;exact h1
  ·rw [bA.block _ (by simp)];have:=heap_alloc_new (w.alloc (AO a)) OB;simpa using this
 have hq:((w.alloc (AO a)).alloc OB).cell? ⟨w.heap.size,18,none⟩=some (.slice a.kp a.kn a.kc)∧(((w.alloc (AO a)).alloc OB).alloc (.cells #[.int .u8 a.kind,.int .u8 a.op,.int .i64 a.at_,.int .i64 a.n,.string a.name,.string a.arg,.string a.exn,.slice none 0 0] 53)).cell? ⟨w.heap.size,18,none⟩=some (.slice a.kp a.kn a.kc):=by
  have h0:=HA.o.c 18 _ rfl;have bz:Below (w.alloc (AO a)).heap.size (w.alloc (AO a)) ((w.alloc (AO a)).alloc OB):=bA;constructor
  ·rw [bz.cell (by simp)];exact h0
  ·rw [(bz.alloc bz.size _).cell (by simp)];exact h0
 obtain⟨tC,ee⟩:=hq;have HZ:=AA hz;have du:=AA ee;clear hz tC ee;go_enter func121,ntmps121;go_upto_region 2 with fail;rw [show w.heap.size+1+1=w.heap.size+2 from rfl];generalize (((w.alloc (AO a)).alloc OB).alloc (.cells #[.int .u8 a.kind,.int .u8 a.op,.int .i64 a.at_,.int .i64 a.n,.string a.name,.string a.arg,.string a.exn,.slice none 0 0] 53))=W3 at *
 have q18:=du.o;go_wp2_with fail;clear q18;go_loopw [10] (fun i wr=>∃(k:Nat) (v:Value),k≤a.kn∧i=.int .i64 k∧UK w wr a.hd a v k) (fun i _=>a.kn-(intOf i).toNat)
 case atStart=>exact⟨0,_,by omega,rfl,HZ.o⟩
 case round=>
  obtain⟨k,v,cQ,rfl,hz⟩:=hrel;have eF:=AA hz;have fi:=AA hz.size;obtain⟨x0,x1,x2,x3,x4,x5,x6,x7,x8⟩:=hz.box.cells;have ds:=hz.box.lt;clear hz;by_cases aF:k<a.kn
  ·go_wp2_with (at_builtin;refine Ae rfl _ _ 51 rfl (w.heap.size+3) 53 _ 8 96 underlying51 Uu rfl (by decide) Ng J5 Ue () _ _ _ eF.o.own rfl rfl ?c1 ?c2 ?c3 ?_)
   case c1=>omega
   case c2=>omega
   case c3=>have:=fi.o;omega
   ·intro v3 w3 aX bM;obtain⟨p3,c3,rfl,bP⟩:=AJ.isRow J5 (by omega) aX;clear bP;have ei:=AA (eF.o.add aX bM);have dB:=AA (eF.o.box.grown bM (fun e=>by have:=(World.ownsRow.lt eF.o.own _ e).1;omega));clear x0 x1 x2 x3 x4 x5 x6 x7 x8 aX bM;obtain⟨x0,x1,x2,x3,x4,x5,x6,x7,x8⟩:=dB.o.cells;go_wp2_with fail;go_roundw
    case rel=>exact⟨k+1,_,by omega,by go_num,ei.o⟩
    case measure=>simp [intOf];omega
  ·obtain rfl:k=a.kn:=by omega
   clear aF cQ;obtain⟨p',c',rfl,aD⟩:=eF.o.own.isRow J5 (by omega);have aL:=AA aD;clear aD
   go_wp2_with (first
    |(refine lw eF.o.box.blk underlying53 ?_)
    |(refine sw #[.int .u8 a.hd.kind,.int .u8 a.hd.op,.int .i64 a.hd.at_,.int .i64 a.hd.n,.string a.hd.name,.string a.hd.arg,.string a.hd.exn,.slice p' a.kn c'] eF.o.res ?_))
   have cE:=setRow_heap wr (w.heap.size+1) _ #[.int .u8 a.hd.kind,.int .u8 a.hd.op,.int .i64 a.hd.at_,.int .i64 a.hd.n,.string a.hd.name,.string a.hd.arg,.string a.hd.exn,.slice p' a.kn c'] _ _ eF.o.res;have pK:w.heap.size+1<wr.heap.size:=by have:=fi.o;omega
   (try simp only [Exit.inBlock,Exit.then]);refine br cE underlying53 ?_;have hg:wr.grownBy (wr.setRow (w.heap.size+1) #[.int .u8 a.hd.kind,.int .u8 a.hd.op,.int .i64 a.hd.at_,.int .i64 a.hd.n,.string a.hd.name,.string a.hd.arg,.string a.hd.exn,.slice p' a.kn c']) (some (w.heap.size+1)):=⟨rfl,rfl,rfl,by simp,fun i hi aS=>setRow_other _ _ _ _ (fun e=>aS (by rw [e]))⟩;obtain⟨p2,c2,iu,dE⟩:=(eF.o.own.other hg (fun b hb e=>by have:=(World.ownsRow.lt eF.o.own b hb).1;injection e with e;omega)).isRow J5 (by omega);cases iu;refine⟨⟨p',c',rfl,dE⟩,eF.o.below.grown hg (by omega) (fun b hb=>by injection hb with hb;omega)⟩
end Go.Proofs.YtkdjnegfnhldpaaGreatDoor
