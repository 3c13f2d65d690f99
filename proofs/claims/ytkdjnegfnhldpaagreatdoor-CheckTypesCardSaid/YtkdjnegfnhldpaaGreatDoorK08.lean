/- Part 08. -/
import Derived.Test.YtkdjnegfnhldpaaGreatDoorK07
set_option linter.unusedVariables false
set_option maxRecDepth 100000
set_option linter.unusedSimpArgs false
set_option maxHeartbeats 40000000
set_option autoImplicit true
set_option relaxedAutoImplicit true
namespace Go.Proofs.YtkdjnegfnhldpaaGreatDoor
open Go.Proofs.Tryz Go.RowKit
def ZAA(x:Int×ByteArray):List Value:=[.int .i64 x.1,.string x.2]
theorem YX(x:Int×ByteArray):(ZAA x).length=2:=rfl
def Ps:List (Int×ByteArray):=[(0,⟨#[110]⟩),(0,⟨#[109]⟩),(2,⟨#[]⟩),(1,⟨#[]⟩),(1,⟨#[]⟩),(1,⟨#[]⟩),(1,⟨#[]⟩),(2,⟨#[]⟩),(2,⟨#[111]⟩),(2,⟨#[]⟩),(1,⟨#[97]⟩),(2,⟨#[109]⟩),(2,⟨#[109,97]⟩),(3,⟨#[]⟩),(1,⟨#[101]⟩),(2,⟨#[101,97]⟩)]
theorem RC(w:World):Calls prog 204 #[] w fun e w'=>e=.returned (.slice (some ⟨w.heap.size,0,none⟩) 16 16)/\DK ZAA 2 w' (some ⟨w.heap.size,0,none⟩) Ps/\Below w.heap.size w w':=by go_enter func204,ntmps204;go_wp2_with fail;go_ret;exact⟨rfl,DK.newAt YX _ Ps _ (by simp [ZAA,Ps]) _ _ _ rfl,bA⟩
structure ZCj(k:Int)(kd:Int)(s:ByteArray):Prop where
 kids:DU k=kd
 k0:0<=kd
 k3:kd<=3
 size:s.size<=1000
 o:Jj s 111=(k==9)
 n:Jj s 110=(k==1)
 m:Jj s 109=IB k
 a:Jj s 97=Kn k
 e:Jj s 101=LW k
theorem ZBL(j:Nat)(h:j<16):∃kd s,Ps[j]?=some (kd,s)/\ZCj ((j:Int)+1) kd s:=by
 rcases (by omega:j=0\/j=1\/j=2\/j=3\/j=4\/j=5\/j=6\/j=7\/j=8\/j=9\/j=10\/j=11\/j=12\/j=13\/j=14\/j=15) with rfl|rfl|rfl|rfl|rfl|rfl|rfl|rfl|rfl|rfl|rfl|rfl|rfl|rfl|rfl|rfl <;>
  exact⟨_,_,rfl,by decide,by decide,by decide,by decide,by decide,by decide,by decide,by decide,by decide⟩
theorem Wt(n:Nat)(hk:h.kind<1\/16<h.kind\/h.at_<0):DN h n=false:=by
 unfold DN;rcases hk with hk|hk|hk
 ·have:DU h.kind=-1:=by unfold DU;rw [AC (by omega),AC (by omega),AC (by omega),AC (by omega)]
  rw [this];simp
 ·have:DU h.kind=-1:=by unfold DU;rw [AC (by omega),AC (by omega),AC (by omega),AC (by omega)]
  rw [this];simp
 ·have:decide (h.at_<0)=true:=by simpa using hk
  rw [this];simp
def opB(o:Int):Bool:=decide (1<=o)&&decide (o<=5)
theorem Yz(hS:ZCj k kd s)(h3:0<=at_):DN ⟨k,op,at_,m,name,arg,exn⟩ n=(!(((n:Int) != kd)||(Jj s 111&&!opB op||!Jj s 111&&(op != 0)))&&!(decide (m<0)||decide (m > 2147483647)||!Jj s 110&&(m != 0))&&(Ih (Jj s 109) D5 name&&Ih (Jj s 97) D5 arg&&Ih (Jj s 101) GR exn)):=by
 have hf:∀(b:Bool) (q:ByteArray->Bool) (t:ByteArray),Hf b t (q t)=Ih b q t:=by
  intro b q t;cases b
  ·unfold Hf Ih
   have:t.toList.isEmpty=decide (t.size=0):=by
    rw [CN];obtain⟨⟨l⟩⟩:=t;cases l with
    |nil=>rfl
    |cons b l=>show false=decide (l.length+1=0);simp
   simp [this]
  ·simp [Hf,Ih]
 have ao:decide (DU k<0)=false:=by rw [hS.kids];have:=hS.k0;simp;omega
 have ha:decide (at_<0)=false:=by simp;omega
 have ho:(decide (op<1)||decide (5<op))=!opB op:=by unfold opB;rw [Bu];simp
 show (!(decide (DU k<0)||((n:Int) != DU k)||decide (at_<0))&&!((k==9)&&(decide (op<1)||decide (5<op))||(k != 9)&&(op != 0)) &&
  !(decide (m<0)||decide (2147483647<m)||(k != 1)&&(m != 0))&&(Hf (IB k) name (D5 name)&&Hf (Kn k) arg (D5 arg)&&Hf (LW k) exn (GR exn)))=_
 rw [ao,ha,hf,hf,hf,ho,hS.kids,hS.o,hS.n,hS.m,hS.a,hS.e];have e9:(k != 9)=!(k==9):=rfl;have e1:(k != 1)=!(k==1):=rfl;rw [e9,e1];simp only [ER,Fv,Bool.not_or,gt_iff_lt]
theorem SA(h:By)(p:Option Addr)(n c:Nat)(ao:0<=h.kind)(dS:h.kind<=255)(w:World)(hk:h.kind<1\/16<h.kind\/h.at_<0):Calls prog 169 #[SH h p n c] w (RB w (.bool (DN h n))):=by
 have HR:=AF (Wt n hk);have aK:=AF ((AA w.heap.size w).alloc (AB _) (Me h p n c));have HC:=AF (Ln w h p n c);have fm:IntKind.i64.wrap h.kind=h.kind:=Bi _ (by omega);go_enter func169,ntmps169;go_wp2_with (go_at_call 204;refine(RC _).mono ?_;rintro e w2 ⟨rfl,dx,hb⟩;have dZ:=AF (HC.o.below hb);have aF:=bt aK hb;clear dx hb;obtain⟨q0,q1,q2,q3,q4,q5,q6,q7⟩:=dZ.o)
 all_goals (go_ret;exact⟨Af HR.o.symm,aF.o⟩)
structure X7(w W:World)(g:Nat)(h:By)(p:Option Addr)(n c:Nat)(kd:Int)(s:ByteArray):Prop where
 tm:NT W w.heap.size h p n c
 s0:W.cell? ⟨g,0,none⟩=some (.int .i64 kd)
 s1:W.cell? ⟨g,1,none⟩=some (.string s)
 below:Below w.heap.size w W
theorem X7.drop(hi:X7 w W g h p n c kd s)(hb:Below W.heap.size W W'):X7 w W' g h p n c kd s:=by have aG:g<W.heap.size:=D9 hi.s0;exact⟨hi.tm.below hb,by rw [hb.cell aG];exact hi.s0,by rw [hb.cell aG];exact hi.s1,hi.below.trans (hb.mono hi.below.size)⟩
theorem N2(h:Jj s x=r)(hs:s.size<=1000)(w:World):Calls prog 205 #[.agg #[.int .i64 k,.string s],.int .u8 x] w (RB w (.bool r)):=by subst h;exact KU k s x hs w
theorem RK(j:Nat)(hj:j<16)(op at_ m:Int)(name arg exn:ByteArray)(p:Option Addr)(n c:Nat)(hn:n<=1000000)(h3:0<=at_)(w:World)(hv:Vr w):Calls prog 169 #[SH ⟨(j:Int)+1,op,at_,m,name,arg,exn⟩ p n c] w (RB w (.bool (DN ⟨(j:Int)+1,op,at_,m,name,arg,exn⟩ n))):=by
 obtain⟨kd,s,vI,hS⟩:=ZBL j hj;have HR:=AF (Yz (op:=op) (m:=m) (name:=name) (arg:=arg) (exn:=exn) (n:=n) hS h3);have aK:=AF ((AA w.heap.size w).alloc (AB _) (Me ⟨(j:Int)+1,op,at_,m,name,arg,exn⟩ p n c));have HC:=AF (Ln w ⟨(j:Int)+1,op,at_,m,name,arg,exn⟩ p n c);have pj:=hS.size;have HV:=AF hv;have wN:=AF vI;clear hv vI hS;have fm:IntKind.i64.wrap ((j:Int)+1)=(j:Int)+1:=Bi _ (by omega);have m9:IntKind.u8.wrap ((j:Int)+1-1)=(j:Int):=by rw [show (j:Int)+1-1=(j:Int) by omega];exact IntWalk.u8_in _ (by omega)
 have ni:IntKind.u8.wrap (j:Int)=(j:Int):=IntWalk.u8_in _ (by omega);have d1:decide ((j:Int)+1<1)=false:=by simp;omega
 have d2:decide ((16:Int)<(j:Int)+1)=false:=by simp;omega
 have d3:decide (at_<0)=false:=by simp;omega
 go_enter func169,ntmps169;go_upto_region 2 with(go_at_call 204;refine(RC _).mono ?_;rintro e w2 ⟨rfl,dx,hb⟩;have dZ:=AF (HC.o.below hb);have aF:=bt aK hb;have bQ:=AF dx;clear dx hb)
 obtain⟨b,o,bV,bB,am⟩:=bQ.o.elem wN.o;have sC:b=w.heap.size+1/\o=0:=by injection bV with h1;injection h1 with h1 h2;exact⟨by rw [<-h1];simp,h2.symm⟩
 obtain⟨rfl,rfl⟩:=sC;have r0:w2.cell? ⟨w.heap.size+1,j * 2,none⟩=some (.int .i64 kd):=by simpa using am 0 _ rfl
 have r1:w2.cell? ⟨w.heap.size+1,j * 2+1,none⟩=some (.string s):=by simpa using am 1 _ rfl
 have HN:Hd (X7 w (w2.alloc (.cells #[.int .i64 kd,.string s] 244)) w2.heap.size ⟨(j:Int)+1,op,at_,m,name,arg,exn⟩ p n c kd s):=AF ⟨dZ.o.below bA,by rw [Bq];rfl,by rw [Bq];rfl,aF.o.alloc aF.o.size _⟩;obtain⟨q0,q1,q2,q3,q4,q5,q6,q7⟩:=dZ.o;clear bV bB am;go_upto_region 5 with fail;generalize w2.alloc (.cells #[.int .i64 kd,.string s] 244)=W1 at *
 clear q0 q1 q2 q3 q4 q5 q6 q7 r0 r1;obtain⟨⟨q0,q1,q2,q3,q4,q5,q6,q7⟩,r0,r1,au⟩:=HN.o;go_cut [5] from 33 to 42 (fun s5 wx=>s5=.bool (opB op)/\wx=W1)
 case first=>
  by_cases o1:1<=op
  ·have e1:decide (op>=1)=true:=by simpa using o1
   by_cases o5:op<=5
   ·have e2:decide (op<=5)=true:=by simpa using o5
    have HB:Hd (opB op=true):=by show _=_;simp [opB,o1,o5]
    clear o1 o5;go_wp2_with fail;go_meet
    case rel=>exact⟨by rw [HB.o],rfl⟩
   ·have e2:decide (op<=5)=false:=by simpa using o5
    have HB:Hd (opB op=false):=by show _=_;simp [opB,o5]
    clear o1 o5;go_wp2_with fail;go_meet
    case rel=>exact⟨by rw [HB.o],rfl⟩
  ·have e1:decide (op>=1)=false:=by simpa using o1
   have HB:Hd (opB op=false):=by show _=_;simp [opB,o1]
   clear o1;go_wp2_with fail;go_meet
   case rel=>exact⟨by rw [HB.o],rfl⟩
 case rest=>
  obtain⟨rfl,rfl⟩:=hcut;generalize opB op=B5 at *
  have HasO:=AF (fun w=>N2 (k:=kd) (s:=s) (x:=111) rfl pj w);have HasN:=AF (fun w=>N2 (k:=kd) (s:=s) (x:=110) rfl pj w);generalize Jj s 111=O at *
  generalize Jj s 110=N at *
  by_cases nY:(n:Int)=kd
  ·have f1:((n:Int) != kd)=false:=by simpa using nY
   have f2:decide ((n:Int)=kd)=true:=by simpa using nY
   have jq:=AF f1;clear nY;go_upto_region 7 with fail;go_cut [43] from 50 to 66 (fun s43 wx=>s43=.bool (O&&!B5||!O&&(op != 0))/\X7 w wx w2.heap.size ⟨(j:Int)+1,op,at_,m,name,arg,exn⟩ p n c kd s)
   case first=>
    cases O
    ·by_cases o0:op=0
     ·have e0:(op != 0)=false:=by simpa using o0
      have HB:=AF e0;clear o0;go_wp2_with (go_at_call 205;refine(HasO.o _).mono ?_;rintro e w8 ⟨rfl,hb⟩;have HN:=AF (HN.o.drop hb);clear hb q0 q1 q2 q3 q4 q5 q6 q7 r0 r1 au;obtain⟨⟨q0,q1,q2,q3,q4,q5,q6,q7⟩,r0,r1,au⟩:=HN.o);go_meet
      case rel=>exact⟨by rw [HB.o];rfl,HN.o⟩
     ·have e0:(op != 0)=true:=by simpa using o0
      have HB:=AF e0;clear o0;go_wp2_with (go_at_call 205;refine(HasO.o _).mono ?_;rintro e w8 ⟨rfl,hb⟩;have HN:=AF (HN.o.drop hb);clear hb q0 q1 q2 q3 q4 q5 q6 q7 r0 r1 au;obtain⟨⟨q0,q1,q2,q3,q4,q5,q6,q7⟩,r0,r1,au⟩:=HN.o);go_meet
      case rel=>exact⟨by rw [HB.o];rfl,HN.o⟩
    ·cases B5
     ·go_wp2_with (go_at_call 205;refine(HasO.o _).mono ?_;rintro e w8 ⟨rfl,hb⟩;have HN:=AF (HN.o.drop hb);clear hb q0 q1 q2 q3 q4 q5 q6 q7 r0 r1 au;obtain⟨⟨q0,q1,q2,q3,q4,q5,q6,q7⟩,r0,r1,au⟩:=HN.o);go_meet
      case rel=>exact⟨rfl,HN.o⟩
     ·go_wp2_with (go_at_call 205;refine(HasO.o _).mono ?_;rintro e w8 ⟨rfl,hb⟩;have HN:=AF (HN.o.drop hb);clear hb q0 q1 q2 q3 q4 q5 q6 q7 r0 r1 au;obtain⟨⟨q0,q1,q2,q3,q4,q5,q6,q7⟩,r0,r1,au⟩:=HN.o);go_meet
      case rel=>exact⟨rfl,HN.o⟩
   case rest=>
    obtain⟨rfl,tw⟩:=hcut;have dE:=AF tw;clear tw q0 q1 q2 q3 q4 q5 q6 q7 r0 r1 au;obtain⟨⟨q0,q1,q2,q3,q4,q5,q6,q7⟩,r0,r1,au⟩:=dE.o;generalize ol:(O&&!B5||!O&&(op != 0))=B7 at *
    have az:=AF ol;clear ol;cases B7
    ·go_upto_region 9 with fail;have HN:=dE;go_cut [67] from 68 to 88 (fun s67 wx=>s67=.bool (decide (m<0)||decide (m > 2147483647)||!N&&(m != 0))/\X7 w wx w2.heap.size ⟨(j:Int)+1,op,at_,m,name,arg,exn⟩ p n c kd s)
     case first=>
      by_cases m0:m<0
      ·have e0:decide (m<0)=true:=by simpa using m0
       have HB:=AF e0;clear m0;go_wp2_with fail;go_meet
       case rel=>exact⟨by rw [HB.o];rfl,HN.o⟩
      ·have e0:decide (m<0)=false:=by simpa using m0
       have HB:=AF e0;by_cases m1:m > 2147483647
       ·have e1:decide (m > 2147483647)=true:=by simpa using m1
        have aH:=AF e1;clear m0 m1;go_wp2_with fail;go_meet
        case rel=>exact⟨by rw [HB.o,aH.o];rfl,HN.o⟩
       ·have e1:decide (m > 2147483647)=false:=by simpa using m1
        have aH:=AF e1;clear m0 m1;cases N
        ·by_cases mz:m=0
         ·have e2:(m != 0)=false:=by simpa using mz
          have lg:=AF e2;clear mz;go_wp2_with (go_at_call 205;refine(HasN.o _).mono ?_;rintro e w8 ⟨rfl,hb⟩;have HN:=AF (HN.o.drop hb);clear hb q0 q1 q2 q3 q4 q5 q6 q7 r0 r1 au;obtain⟨⟨q0,q1,q2,q3,q4,q5,q6,q7⟩,r0,r1,au⟩:=HN.o);go_meet
          case rel=>exact⟨by rw [HB.o,aH.o,lg.out];rfl,HN.o⟩
         ·have e2:(m != 0)=true:=by simpa using mz
          have lg:=AF e2;clear mz;go_wp2_with (go_at_call 205;refine(HasN.o _).mono ?_;rintro e w8 ⟨rfl,hb⟩;have HN:=AF (HN.o.drop hb);clear hb q0 q1 q2 q3 q4 q5 q6 q7 r0 r1 au;obtain⟨⟨q0,q1,q2,q3,q4,q5,q6,q7⟩,r0,r1,au⟩:=HN.o);go_meet
          case rel=>exact⟨by rw [HB.o,aH.o,lg.out];rfl,HN.o⟩
        ·go_wp2_with (go_at_call 205;refine(HasN.o _).mono ?_;rintro e w8 ⟨rfl,hb⟩;have HN:=AF (HN.o.drop hb);clear hb q0 q1 q2 q3 q4 q5 q6 q7 r0 r1 au;obtain⟨⟨q0,q1,q2,q3,q4,q5,q6,q7⟩,r0,r1,au⟩:=HN.o);go_meet
         case rel=>exact⟨by rw [HB.o,aH.o];rfl,HN.o⟩
     case rest=>
      obtain⟨rfl,tx⟩:=hcut;have HN:=AF tx;clear tx q0 q1 q2 q3 q4 q5 q6 q7 r0 r1 au;obtain⟨⟨q0,q1,q2,q3,q4,q5,q6,q7⟩,r0,r1,au⟩:=HN.o;generalize bi:(decide (m<0)||decide (m > 2147483647)||!N&&(m != 0))=B9 at *
      have ba:=AF bi;clear bi;cases B9
      ·have nJ:=AF (fun(W:World) (hb:Below w.heap.size w W)=>JL (fid:=207) (q:=D5) (fun args w=>by kernel_rfl) kd s 109 name pj (Sj (HV.o.below hb)));have gY:=AF (fun(W:World) (hb:Below w.heap.size w W)=>JL (fid:=207) (q:=D5) (fun args w=>by kernel_rfl) kd s 97 arg pj (Sj (HV.o.below hb)));have rT:=AF (fun(W:World) (hb:Below w.heap.size w W)=>JL (fid:=174) (q:=GR) (fun args w=>by kernel_rfl) kd s 101 exn pj (ZBJ W));have co:=AF (show DN ⟨(j:Int)+1,op,at_,m,name,arg,exn⟩ n=(Ih (Jj s 109) D5 name&&Ih (Jj s 97) D5 arg&&Ih (Jj s 101) GR exn) by rw [HR.o,jq.o];simp);generalize Ih (Jj s 109) D5 name=F1 at *
       generalize Ih (Jj s 97) D5 arg=F2 at *
       generalize Ih (Jj s 101) GR exn=F3 at *
       have HX:=nJ;have HY:=gY;have HZ:=rT;go_upto_region 11 with fail;cases F1
       ·go_wp2_with (go_at_call 206;refine(HX.o _ au).mono ?_;rintro e w8 ⟨rfl,hb⟩;have HN:=AF (HN.o.drop hb);clear hb q0 q1 q2 q3 q4 q5 q6 q7 r0 r1 au;obtain⟨⟨q0,q1,q2,q3,q4,q5,q6,q7⟩,r0,r1,au⟩:=HN.o;have HX:=HY;have HY:=HZ);go_ret;exact⟨Af (by rw [co.o];rfl),au⟩
       ·cases F2
        ·go_wp2_with (go_at_call 206;refine(HX.o _ au).mono ?_;rintro e w8 ⟨rfl,hb⟩;have HN:=AF (HN.o.drop hb);clear hb q0 q1 q2 q3 q4 q5 q6 q7 r0 r1 au;obtain⟨⟨q0,q1,q2,q3,q4,q5,q6,q7⟩,r0,r1,au⟩:=HN.o;have HX:=HY;have HY:=HZ);go_ret;exact⟨Af (by rw [co.o];rfl),au⟩
        ·go_wp2_with (go_at_call 206;refine(HX.o _ au).mono ?_;rintro e w8 ⟨rfl,hb⟩;have HN:=AF (HN.o.drop hb);clear hb q0 q1 q2 q3 q4 q5 q6 q7 r0 r1 au;obtain⟨⟨q0,q1,q2,q3,q4,q5,q6,q7⟩,r0,r1,au⟩:=HN.o;have HX:=HY;have HY:=HZ);go_ret;exact⟨Af (by rw [co.o];rfl),au⟩
      ·go_wp2_with fail;go_ret;exact⟨Af (by rw [HR.o];simp),au⟩
    ·go_wp2_with fail;go_ret;exact⟨Af (by rw [HR.o,jq.o];simp),au⟩
  ·have f1:((n:Int) != kd)=true:=by simpa using nY
   have f2:decide ((n:Int)=kd)=false:=by simpa using nY
   have jq:=AF f1;clear nY;go_wp2_with fail;go_ret;exact⟨Af (by rw [HR.o,jq.o];simp),au⟩
theorem R9(h:By)(ao:0<=h.kind)(dS:h.kind<=255)(p:Option Addr)(n c:Nat)(hn:n<=1000000)(w:World)(hv:Vr w):Calls prog 169 #[SH h p n c] w (RB w (.bool (DN h n))):=by
 by_cases hk:h.kind<1\/16<h.kind\/h.at_<0
 ·exact SA h p n c ao dS w hk
 ·obtain⟨k,op,at_,m,name,arg,exn⟩:=h;simp only [not_or] at hk;obtain⟨j,hj⟩:∃j:Nat,k=(j:Int)+1:=⟨(k-1).toNat,by omega⟩;subst hj;exact RK j (by omega) op at_ m name arg exn p n c hn (by omega) w hv
theorem MM(a:AH):(FS a).length=19:=rfl
theorem H8:∀a:AH,∀u∈FS a,u.oneCell'=true:=by intro a u hu;simp [FS] at hu;rcases hu with rfl|rfl|rfl|rfl|rfl|rfl|rfl|rfl|rfl|rfl|rfl|rfl|rfl|rfl|rfl|rfl|rfl|rfl|rfl<;>rfl
abbrev zAT:Value:=.agg #[.int .u8 0,.int .u8 0,.int .i64 0,.int .i64 0,.string .empty,.string .empty,.string .empty,.int .i64 0,.slice none 0 0,.slice none 0 0,.int .u8 0,.int .i64 0,.slice none 0 0,.slice none 0 0,.int .u8 0,.int .i64 0,.slice none 0 0,.slice none 0 0,.slice none 0 0]
theorem ZDA:(prog.info? 31).map (fun i=>(i.zero,i.size,i.bytes))=some (some zAT,19,280):=by kernel_rfl
theorem IS(t:PA):(Ad.nodes t).length=t.size:=by refine Ad.ind (P:=fun(t:PA)=>(Ad.nodes t).length=t.size) (fun a l ih=>?_) t;rw [Ad.nodes_node,Ad.size_node,Aq,Ej,CS];have:l.map (List.length ∘ Ad.nodes)=l.map Ad.size:=Bf ih;rw [this];omega
def C9(l:List PA)(k:Nat):List AH:=((l.take k).map Ad.nodes).flatten
theorem JP(h:l[k]?=some x):C9 l (k+1)=C9 l k++Ad.nodes x:=by unfold C9;rw [BG h,Ah,Dt];simp
theorem Vb{l:List PA}{k:Nat}:((l.take k).map Ad.size).sum<=(l.map Ad.size).sum:=by
 induction k generalizing l with
 |zero=>simp
 |succ k ih=>cases l with
  |nil=>simp
  |cons y l=>have:=ih (l:=l);simp only [Cj,AV,A0] at this ⊢;omega
theorem L6(l:List PA)(k:Nat):(C9 l k).length=((l.take k).map Ad.size).sum:=by unfold C9;rw [Ej,CS];congr 1;exact Bf (fun t _=>IS t)
theorem Y5(h:l[k]?=some x):a::(C9 l k++Ad.nodes x)=a::C9 l (k+1):=by rw [JP h]
def XU(t:PA)(w:World):Prop:=Calls prog 26 #[DP t.head] w fun e w'=>(∃p c,e=.returned (.slice p t.size c)/\A1 FS 19 w' w.heap.size 31 (.slice p t.size c) t.size (Ad.nodes t))/\Below w.heap.size w w'
theorem Tp(hN:JZ w a l)(hs:(Ad.node a l).size<=1000)(hf:∀x∈l,∀W,Below w.heap.size w W->XU x W):XU (.node a l) w:=by
 have HN:=AF hN;have HF:=AF hf;have HS:=AF hs;have fL:=hN.own.kmax;have HA:=AF (C8 w a);have aK:=AF ((AA w.heap.size w).alloc (AB _) (Bt a));have cH:=AF (Nv MM (w.alloc (Bt a)) (w.heap.size+1) 31 [a] 1 #[.int .u8 a.kind,.int .u8 a.op,.int .i64 a.at_,.int .i64 a.n,.string a.name,.string a.arg,.string a.exn,.int .i64 a.rho,.slice a.rp a.rn a.rc,.slice a.ep a.en a.ec,.int .u8 a.ty.head.kind,.int .i64 a.ty.head.rho,.slice a.ty.head.ep a.ty.head.en a.ty.head.ec,.slice a.ty.head.kp a.ty.head.kn a.ty.head.kc,.int .u8 a.res.head.kind,.int .i64 a.res.head.rho,.slice a.res.head.ep a.res.head.en a.res.head.ec,.slice a.res.head.kp a.res.head.kn a.res.head.kc,.slice a.kp a.kn a.kc] rfl rfl (by decide) (by simp));show Calls _ _ #[DP a] w _;clear hN hf hs;go_enter func26,ntmps26;go_wp2_with (refine lw (HA.o.blk) underlying31 ?_);have iC:=AF (HA.o.below ((AA (w.alloc (Bt a)).heap.size (w.alloc (Bt a))).alloc (AB _) (.cells #[.int .u8 a.kind,.int .u8 a.op,.int .i64 a.at_,.int .i64 a.n,.string a.name,.string a.arg,.string a.exn,.int .i64 a.rho,.slice a.rp a.rn a.rc,.slice a.ep a.en a.ec,.int .u8 a.ty.head.kind,.int .i64 a.ty.head.rho,.slice a.ty.head.ep a.ty.head.en a.ty.head.ec,.slice a.ty.head.kp a.ty.head.kn a.ty.head.kc,.int .u8 a.res.head.kind,.int .i64 a.res.head.rho,.slice a.res.head.ep a.res.head.en a.res.head.ec,.slice a.res.head.kp a.res.head.kn a.res.head.kc,.slice a.kp a.kn a.kc] 31)));have aF:=AF (aK.o.alloc aK.o.size (.cells #[.int .u8 a.kind,.int .u8 a.op,.int .i64 a.at_,.int .i64 a.n,.string a.name,.string a.arg,.string a.exn,.int .i64 a.rho,.slice a.rp a.rn a.rc,.slice a.ep a.en a.ec,.int .u8 a.ty.head.kind,.int .i64 a.ty.head.rho,.slice a.ty.head.ep a.ty.head.en a.ty.head.ec,.slice a.ty.head.kp a.ty.head.kn a.ty.head.kc,.int .u8 a.res.head.kind,.int .i64 a.res.head.rho,.slice a.res.head.ep a.res.head.en a.res.head.ec,.slice a.res.head.kp a.res.head.kn a.res.head.kc,.slice a.kp a.kn a.kc] 31));have aI:((w.alloc (Bt a)).alloc (.cells #[.int .u8 a.kind,.int .u8 a.op,.int .i64 a.at_,.int .i64 a.n,.string a.name,.string a.arg,.string a.exn,.int .i64 a.rho,.slice a.rp a.rn a.rc,.slice a.ep a.en a.ec,.int .u8 a.ty.head.kind,.int .i64 a.ty.head.rho,.slice a.ty.head.ep a.ty.head.en a.ty.head.ec,.slice a.ty.head.kp a.ty.head.kn a.ty.head.kc,.int .u8 a.res.head.kind,.int .i64 a.res.head.rho,.slice a.res.head.ep a.res.head.en a.res.head.ec,.slice a.res.head.kp a.res.head.kn a.res.head.kc,.slice a.kp a.kn a.kc] 31)).heap.size=w.heap.size+2:=by simp
 have dy:(w.alloc (Bt a)).heap.size=w.heap.size+1:=by simp
 rw [dy] at cH;generalize (w.alloc (Bt a)).alloc (Bt a)=W2 at *
 clear dy;go_loopw [3,10] (fun u i wr=>∃(k:Nat) (p:Option Addr) (c:Nat),k<=a.kn/\i=.int .i64 k/\u=.slice p (1+(C9 l k).length) c/\A1 FS 19 wr (w.heap.size+1) 31 u (1+(C9 l k).length) (a::C9 l k)/\JB wr w.heap.size a/\Below w.heap.size w wr) (fun _ i _=>a.kn-(intOf i).toNat)
 case atStart=>exact⟨0,some ⟨w.heap.size+1,0,none⟩,1,by omega,rfl,rfl,cH.o,iC.o,aF.o⟩
 case round=>
  obtain⟨k,p,c,hk,rfl,rfl,aD,ac,hb⟩:=hrel;have aZ:=AF aD;have iO:=AF ac;have HB:=AF hb;clear aD ac hb;have q18:wr.cell? ⟨w.heap.size,18,none⟩=some (.slice a.kp a.kn a.kc):=iO.o.c 18 _ rfl;by_cases aG:k<a.kn
  ·obtain⟨x,hx⟩:=(HN.o.rowT).at (j:=k) aG;have HE:=AF hx;obtain⟨b,o,bV,bB,am⟩:=(HN.o.rowT.below HB.o).kid hx;have dc:=AF am;rw [bV] at q18;clear hx bB bV am
   have cD:=AF (show 1+(C9 l k).length+x.size<=1000 by
    have h1:=congrArg List.length (JP HE.o);rw [As,IS,L6 l (k+1)] at h1;have h2:=Vb (l:=l) (k:=k+1);have h3:=HS.o;rw [Ad.size_node] at h3;omega)
   go_wp2_with (refine lm (FS x.head) dc.o.c underlying31 ?_);refine Calls.mono (HF.o x (AE HE.o) wr HB.o) ?_;rintro e w2 ⟨⟨p2,c2,rfl,aV⟩,hb⟩;have iF:=AF (aZ.o.below hb);have aH:=bt HB hb;have gb:=AF (iO.o.below hb);obtain⟨q,cc,hv,aC⟩:=aV.isRow MM (by omega);cases hv;have bQ:=AF aC;have sY:w.heap.size+1<=w2.heap.size:=by have:=(AO.1 gb.o.blk).1;omega
   have mE:=AF sY;clear aV aC hb sY q18;go_wp2_with (at_builtin;refine GK rfl _ _ 29 rfl (w.heap.size+1) 31 zAT 19 280 underlying29 ZDA rfl (by decide) FS MM H8 (Ad.nodes x) (a::C9 l k) (1+(C9 l k).length) _ iF.o _ x.size _ rfl rfl bQ.o.len bQ.o.nil bQ.o.row ?c1 ?c2 ?c3 ?_)
   case c1=>have:=cD.o;omega
   case c2=>have:=cD.o;omega
   case c3=>exact mE.o
   ·intro v3 w3 aR bT;obtain⟨p3,c3,rfl,bw⟩:=A1.isRow MM (by omega) aR;have eB:∀g,(Value.slice p (1+(C9 l k).length) c).ownBlock=some g->w.heap.size+1<=g:=fun g hg=>(Aa iF.o g hg).1;have aL:=AF (aH.o.grown bT aH.o.size (fun g hg=>by have:=eB g hg;omega));have lh:Hd (JB w3 w.heap.size a):=⟨by rw [bT.block w.heap.size (AO.1 gb.o.blk).1 (fun e=>by have:=eB _ e.symm;omega)];exact gb.o.blk⟩;have lk:Hd (1+(C9 l k).length+x.size=1+(C9 l (k+1)).length):=by show _=_;rw [JP HE.o,As,IS];omega
    rw [Y5 HE.o,lk.o] at aR;have iG:=AF aR;clear aR bT eB bw;go_wp2_with fail;go_roundw
    case rel=>exact⟨k+1,p3,c3,by omega,by go_num,by rw [lk.o],by rw [lk.o];exact iG.o,lh.o,aL.o⟩
    case measure=>simp [intOf];omega
  ·have ai:k=a.kn:=by omega
   have bp:l.take k=l:=Bb (by rw [ai,HN.o.kids.len];exact AB _);have bz:Hd (1+(C9 l k).length=(Ad.node a l).size):=by show _=_;rw [L6,bp,Ad.size_node]
   have rN:Hd (a::C9 l k=Ad.nodes (Ad.node a l)):=by show _=_;rw [Ad.nodes_node];unfold C9;rw [bp]
   clear ai bp;go_wp2_with fail;go_ret;refine⟨⟨p,c,by rw [<-bz.o];rfl,?_⟩,HB.o⟩;have h:=aZ.o;rw [rN.o,bz.o] at h;exact h.lower (Nat.le_succ _)
theorem ZAW(l:List PA):l.length<=(l.map Ad.size).sum:=by
 induction l with
 |nil=>simp
 |cons x l ih=>have:=Ad.size_pos x;simp only [Aq,AV,A0];omega
theorem YD(t:PA):∀w,LA.lies w t->t.size<=1000->XU t w:=by refine Ad.ind (P:=fun(t:PA)=>∀w,LA.lies w t->t.size<=1000->XU t w) (fun a l ih=>?_) t;intro w hl hs;have HN:=Gh hl;refine Tp HN hs (fun x hx W hW=>ih x hx W (LA.lies_below hW x (HN.each x hx)) ?_);have h1:=hs;rw [Ad.size_node] at h1;have h2:x.size<=(l.map Ad.size).sum:=EG (Au hx);omega
def BR{α σ:Type}(st:α->σ->Bool×σ):List α->σ->Bool×σ
 |[],s=>(true,s)
 |a::l,s=>if(st a s).1 then BR st l (st a s).2 else(false,(st a s).2)
theorem I8(st:α->σ->Bool×σ):∀(l m:List α) (s:σ),BR st (l++m) s=if(BR st l s).1 then BR st m (BR st l s).2 else BR st l s
 |[],m,s=>by simp [BR]
 |a::l,m,s=>by
  have e:∀n,BR st (a::n) s=if(st a s).1 then BR st n (st a s).2 else(false,(st a s).2):=fun _=>rfl;rw [BK,e,e];by_cases h:(st a s).1=true
  ·simp only [h,if_true];exact I8 st l m _
  ·simp [h]
def B8(l:List PA):List AH:=(l.map Ad.nodes).flatten
theorem Tm(l:List PA)(k:Nat):B8 l=C9 l k++B8 (l.drop k):=by unfold B8 C9;rw [<-Dt,<-Ah,BY]
theorem Jq(x:PA):Ad.nodes x=x.head::B8 x.kids:=by cases x;rw [Ad.nodes_node];rfl
theorem X4(st:AH->σ->Bool×σ)(s:σ)(h:l[k]?=some x)(hb:(BR st (C9 l k) s).1=true):BR st (C9 l (k+1)) s=if(st x.head (BR st (C9 l k) s).2).1 then BR st (B8 x.kids) (st x.head (BR st (C9 l k) s).2).2 else(false,(st x.head (BR st (C9 l k) s).2).2):=by rw [JP h,I8,AJ hb,Jq];rfl
theorem Pr(st:AH->σ->Bool×σ)(s:σ)(l:List PA)(k:Nat)(hb:(BR st (C9 l k) s).1=false):BR st (B8 l) s=BR st (C9 l k) s:=by rw [Tm l k,I8,AC (by rw [hb];exact Co)]
theorem ZBI(l:List PA)(k:Nat)(h:l.length<=k):C9 l k=B8 l:=by unfold C9 B8;rw [BU h]
structure FvA(w0:World)(row:Option Nat)(g:Nat)(lb:Array Value){σ:Type}(Inv:σ->World->Prop)(ok:AH->Prop)(st:AH->σ->Bool×σ):Prop where
 eg:∀args w,(callFunc g args).run prog w=.ok (.enter g args) w
 hb:∀b,row=some b->w0.heap.size<=b
 lt:∀b,row=some b->∀s W,Inv s W->b<W.heap.size
 inv:∀s W W',Inv s W->Below W.heap.size W W'->Inv s W'
 call:∀a s W,ok a->Below w0.heap.size w0 W->Inv s W->Calls prog g (#[DP a]++lb) W fun e w'=>e=.returned (.bool (st a s).1)/\Inv (st a s).2 w'/\W.grownBy w' row
def Pv(w0:World)(row:Option Nat)(g:Nat)(lb:Array Value){σ:Type}(Inv:σ->World->Prop)(ok:AH->Prop)(st:AH->σ->Bool×σ)(l:List PA):Prop:=∀p n c,Hc w0 p n c l->(∀a∈B8 l,ok a)->∀s W,Below w0.heap.size w0 W->Inv s W->Calls prog 59 #[.func (.func g) #[] lb,.slice p n c] W fun e w'=>e=.returned (.bool (BR st (B8 l) s).1)/\Inv (BR st (B8 l) s).2 w'/\W.grownBy w' row
theorem K0(hx:x∈l)(ha:a∈Ad.nodes x):a∈B8 l:=BS.2 ⟨_,Au hx,ha⟩
theorem XW(h:LA.lies w x):Hc w x.head.kp x.head.kn x.head.kc x.kids:=by cases x;exact(Gh h).rowT
theorem Md{w0:World}{row:Option Nat}{g:Nat}{lb:Array Value}{σ:Type}{Inv:σ->World->Prop}{ok:AH->Prop}{st:AH->σ->Bool×σ}(F:FvA w0 row g lb Inv ok st)(l:List PA)(ih:∀x∈l,Pv w0 row g lb Inv ok st x.kids):Pv w0 row g lb Inv ok st l:=by
 intro p n c hR aW s W kz gF;have eg:=F.eg;have HF:=AF F;have HI:=AF ih;have HR:=AF hR;have bP:=AF aW;have dq:=AF kz;have HV:=AF gF;have kX:n<=9223372036854775807:=hR.row.max;clear F ih hR aW kz gF;go_enter func59,ntmps59;go_wp2_with fail;go_loopw [9] (fun i wr=>∃(k:Nat) (S:Bool×σ),k<=n/\i=.int .i64 k/\Hd (BR st (C9 l k) s=S)/\S.1=true/\Inv S.2 wr/\W.grownBy wr row) (fun i _=>n-(intOf i).toNat)
 case atStart=>exact⟨0,(true,s),by omega,rfl,AF rfl,rfl,HV.o,Cd _ _⟩
 case round=>
  obtain⟨k,S,hk,rfl,HS,hs,lH,hg⟩:=hrel;have il:=AF lH;have HG:=AF hg;have cx:=AF hs;have HB:=AF (dq.o.grown hg dq.o.size HF.o.hb);clear lH hg hs;by_cases aG:k<n
  ·obtain⟨x,hx⟩:=HR.o.at (j:=k) aG;obtain⟨b,o,bV,bB,am⟩:=(HR.o.below HB.o).kid hx;obtain⟨a,m,s6⟩:∃a m,x=Ad.node a m:=⟨x.head,x.kids,Ad.eta x⟩;subst s6;have dc:=AF (show La wr b (o+k * 19) a from am);subst bV;have hE:=AE hx;have iW:=AF (show Pv w0 row g lb Inv ok st m from HI.o _ hE);have gT:=AF (show Hc w0 a.kp a.kn a.kc m from XW (HR.o.lies hx));have kq:=AF (show ∀a'∈B8 m,ok a' from fun a' ha=>bP.o a' (K0 hE (by rw [Jq];exact Cu _ ha)));have gI:ok a:=bP.o a (K0 hE (by rw [Jq];exact BL))
   have cJ:=AF (show BR st (C9 l (k+1)) s=if(st a S.2).1 then BR st (B8 m) (st a S.2).2 else(false,(st a S.2).2) by
    have h:=X4 st s hx (by rw [HS.o];exact cx.o);rw [HS.o] at h;exact h)
   clear hx bB am hE;have aK:=AF (C8 wr a);have ap:Below wr.heap.size wr (wr.alloc (Bt a)):=bA;have aH:=bt HB ap;have jC:=AF (HF.o.inv _ _ _ il.o ap);have bY:=AF (HF.o.call a S.2 _ gI aH.o jC.o);have fc:=AF (HG.o.trans ((C4 wr (Bt a) row)));clear ap gI;have kw:(wr.alloc (.cells #[.int .u8 0,.int .u8 0,.int .i64 0,.int .i64 0,.string ⟨#[]⟩,.string ⟨#[]⟩,.string ⟨#[]⟩,.int .i64 0,.slice none 0 0,.slice none 0 0,.int .u8 0,.int .i64 0,.slice none 0 0,.slice none 0 0,.int .u8 0,.int .i64 0,.slice none 0 0,.slice none 0 0,.slice none 0 0] 31)).heap[wr.heap.size]?=some (.cells #[.int .u8 0,.int .u8 0,.int .i64 0,.int .i64 0,.string ⟨#[]⟩,.string ⟨#[]⟩,.string ⟨#[]⟩,.int .i64 0,.slice none 0 0,.slice none 0 0,.int .u8 0,.int .i64 0,.slice none 0 0,.slice none 0 0,.int .u8 0,.int .i64 0,.slice none 0 0,.slice none 0 0,.slice none 0 0] 31 (0,0)):=AG wr _;have cw:=AF kw;clear kw;cases hq:(st a S.2).1 with
   |false=>
    rw [hq] at bY cJ;have HQ:=AF hq;clear hq
    go_wp2_with (first
     |(refine lm (FS a) dc.o.c underlying31 ?_)
     |(refine Ap rfl 31 _ _ rfl wr.heap.size (FS a).toArray rfl rfl 31 _ cw.o (by kernel_rfl) rfl (Bl (H8 a)) ?_;rw [Av])
     |(refine lw aK.o.blk underlying31 ?_)
     |(go_at_fn g;refine bY.o.mono ?_;rintro e w2 ⟨rfl,cK,aa⟩;have cb:=AF cK;have dD:=AF (fc.o.trans aa);clear cK aa))
    go_ret;have bZ:BR st (B8 l) s=(false,(st a S.2).2):=by rw [Pr st s l (k+1) (by rw [cJ.o];rfl),cJ.o];rfl
    exact⟨Af (by rw [bZ]),by rw [bZ];exact cb.o,dD.o⟩
   |true=>
    rw [hq] at bY cJ;have HQ:=AF hq;clear hq;have HM:=AF (HF.o.hb);have q18:∀w2,(wr.alloc (Bt a)).grownBy w2 row->Inv (st a S.2).2 w2->w2.cell? ⟨wr.heap.size,18,none⟩=some (.slice a.kp a.kn a.kc)/\Below w0.heap.size w0 w2:=fun w2 aa cK=>⟨aa.cell (a:=⟨wr.heap.size,18,none⟩) (aK.o.c 18 _ rfl) (fun e=>by have:=HF.o.lt _ e.symm _ _ il.o;exact CU _ this),aH.o.grown aa aH.o.size HM.o⟩;have fw:=AF q18;clear q18;cases fN:(BR st (B8 m) (st a S.2).2).1 with
    |false=>
     have cE:=AF fN;clear fN
     go_wp2_with (first
      |(refine lm (FS a) dc.o.c underlying31 ?_)
      |(refine Ap rfl 31 _ _ rfl wr.heap.size (FS a).toArray rfl rfl 31 _ cw.o (by kernel_rfl) rfl (Bl (H8 a)) ?_;rw [Av])
      |(refine lw aK.o.blk underlying31 ?_)
      |(first|(go_at_fn g;refine bY.o.mono ?_;rintro e w2 ⟨rfl,cK,aa⟩;obtain⟨c18,aU⟩:=fw.o _ aa cK;have cb:=AF cK;have dD:=AF (fc.o.trans aa);have aF:=AF aU;clear cK aa aU)|(go_at_call 59;refine(iW.o _ _ _ gT.o kq.o _ _ aF.o cb.o).mono ?_;rw [cE.o];rintro e w3 ⟨rfl,gE,bT⟩;have ci:=AF gE;have iS:=AF (dD.o.trans bT);clear gE bT)))
     go_ret;have bZ:BR st (B8 l) s=BR st (B8 m) (st a S.2).2:=by rw [Pr st s l (k+1) (by rw [cJ.o];exact cE.o),cJ.o];rfl
     exact⟨Af (by rw [bZ,cE.o]),by rw [bZ];exact ci.o,iS.o⟩
    |true=>
     have cE:=AF fN;clear fN
     go_wp2_with (first
      |(refine lm (FS a) dc.o.c underlying31 ?_)
      |(refine Ap rfl 31 _ _ rfl wr.heap.size (FS a).toArray rfl rfl 31 _ cw.o (by kernel_rfl) rfl (Bl (H8 a)) ?_;rw [Av])
      |(refine lw aK.o.blk underlying31 ?_)
      |(first|(go_at_fn g;refine bY.o.mono ?_;rintro e w2 ⟨rfl,cK,aa⟩;obtain⟨c18,aU⟩:=fw.o _ aa cK;have cb:=AF cK;have dD:=AF (fc.o.trans aa);have aF:=AF aU;clear cK aa aU)|(go_at_call 59;refine(iW.o _ _ _ gT.o kq.o _ _ aF.o cb.o).mono ?_;rw [cE.o];rintro e w3 ⟨rfl,gE,bT⟩;have ci:=AF gE;have iS:=AF (dD.o.trans bT);clear gE bT)))
     go_roundw
     case rel=>exact⟨k+1,_,by omega,by go_num,cJ,by show (BR st (B8 m) (st a S.2).2).1=true;exact cE.o,ci.o,iS.o⟩
     case measure=>simp [intOf];omega
  ·have ai:k=n:=by omega
   have bp:C9 l k=B8 l:=ZBI l k (by rw [HR.o.row.len,ai];exact AB _);rw [bp] at HS;go_wp2_with fail;go_ret;exact⟨Af (by rw [HS.o,cx.o]),by rw [HS.o];exact il.o,HG.o⟩
theorem Lj{w0:World}{row:Option Nat}{g:Nat}{lb:Array Value}{σ:Type}{Inv:σ->World->Prop}{ok:AH->Prop}{st:AH->σ->Bool×σ}(F:FvA w0 row g lb Inv ok st)(l:List PA):Pv w0 row g lb Inv ok st l:=Md F l (fun x _=>Ad.ind (P:=fun(x:PA)=>Pv w0 row g lb Inv ok st x.kids) (fun a m ih=>Md F m ih) x)
def Rh(_:Unit):List Value:=[.int .u8 1,.int .u8 0,.int .i64 0,.int .i64 0,.string ⟨#[]⟩,.string ⟨#[]⟩,.string ⟨#[]⟩,.slice none 0 0]
theorem Nc:∀x,(Rh x).length=8:=fun _=>rfl
theorem Z9:∀y,∀u∈Rh y,u.oneCell'=true:=by intro y u hu;simp [Rh] at hu;rcases hu with rfl|rfl|rfl|rfl|rfl|rfl<;>rfl
abbrev SC:Obj:=.cells #[.int .u8 0,.int .u8 0,.int .i64 0,.int .i64 0,.string ⟨#[]⟩,.string ⟨#[]⟩,.string ⟨#[]⟩,.slice none 0 0] 53
structure Zk(w wr:World)(h:By)(a:AH)(v:Value)(k:Nat):Prop where
 own:A1 Rh 8 wr (w.heap.size+3) 53 v k (List.replicate k ())
 box:Kq wr (w.heap.size+2) h v
 res:wr.heap[w.heap.size+1]?=some SC
 size:w.heap.size+3<=wr.heap.size
 below:Below w.heap.size w wr
theorem Zk.add(hi:Zk w wr h a v k)(aD:A1 Rh 8 w3 (w.heap.size+3) 53 v3 (k+1) (List.replicate k ()++[()]))(iw:wr.grownBy w3 v.ownBlock):Zk w (w3.setCell ⟨w.heap.size+2,7,none⟩ v3) h a v3 (k+1):=by
 have eB:∀b,v.ownBlock=some b->w.heap.size+3<=b:=fun b hb=>(Aa hi.own b hb).1;have mp:∀b,v3.ownBlock=some b->w.heap.size+3<=b:=fun b hb=>(Aa aD b hb).1;have ag:w3.grownBy (w3.setCell ⟨w.heap.size+2,7,none⟩ v3) (some (w.heap.size+2)):=Ar _ _ _ _;have aG:=hi.size;refine⟨?_,(hi.box.grown iw (fun e=>by have:=eB _ e;omega)).set v3,?_,AM hi.size (AM iw.size ag.size),?_⟩
 ·refine⟨by rw [De];exact aD.1,?_⟩;rw [De];rcases aD.2 with h0|⟨g,cap,cur,rfl,h1,h2,rest⟩
  ·exact .inl h0
  ·refine .inr ⟨g,cap,cur,rfl,h1,?_,rest⟩;rw [ag.block g (AO.1 h2).1 (fun e=>by injection e with e;omega)];exact h2
 ·have h1:=hi.res;rw [ag.block _ (by have:=iw.size;omega) (fun e=>by injection e with e;omega),iw.block _ (by omega) (fun e=>by have:=eB _ e.symm;omega)];exact h1
 ·exact(hi.below.grown iw (by omega) (fun b hb=>by have:=eB b hb;omega)).grown ag (by have:=iw.size;omega) (fun b hb=>by injection hb with hb;omega)
theorem Ll(a:AH)(hk:a.kn<=1000)(w:World):Calls prog 121 #[DP a] w fun e w'=>(∃p c,e=.returned (SH a.hd p a.kn c)/\Ax Rh 8 w' p a.kn c (List.replicate a.kn ()))/\Below w.heap.size w w':=by
 have HA:=AF (C8 w a);have HB:=AF (((AA w.heap.size w).alloc (AB _) (Bt a)))
 have hz:Zk w (((w.alloc (Bt a)).alloc SC).alloc (.cells #[.int .u8 a.kind,.int .u8 a.op,.int .i64 a.at_,.int .i64 a.n,.string a.name,.string a.arg,.string a.exn,.slice none 0 0] 53)) a.hd a (.slice none 0 0) 0:=by
  have h1:=Zy ((w.alloc (Bt a)).alloc SC) a.hd (.slice none 0 0);refine⟨A1.nil _ _ _ _ _,?_,?_,by simp,(HB.o.alloc (by simp) _).alloc (by simp;omega) _⟩
  ·rw [show ((w.alloc (Bt a)).alloc SC).heap.size=w.heap.size+2 by simp] at h1;exact h1
  ·rw [bA.block _ (by simp)];have:=AG (w.alloc (Bt a)) SC;simpa using this
 have hq:((w.alloc (Bt a)).alloc SC).cell? ⟨w.heap.size,18,none⟩=some (.slice a.kp a.kn a.kc)/\(((w.alloc (Bt a)).alloc SC).alloc (.cells #[.int .u8 a.kind,.int .u8 a.op,.int .i64 a.at_,.int .i64 a.n,.string a.name,.string a.arg,.string a.exn,.slice none 0 0] 53)).cell? ⟨w.heap.size,18,none⟩=some (.slice a.kp a.kn a.kc):=by
  have h0:=HA.o.c 18 _ rfl;have ap:Below (w.alloc (Bt a)).heap.size (w.alloc (Bt a)) ((w.alloc (Bt a)).alloc SC):=bA;constructor
  ·rw [ap.cell (by simp)];exact h0
  ·rw [(ap.alloc ap.size _).cell (by simp)];exact h0
 obtain⟨ig,fN⟩:=hq;have HZ:=AF hz;have cE:=AF fN;clear hz ig fN;go_enter func121,ntmps121;go_upto_region 2 with fail;rw [show w.heap.size+1+1=w.heap.size+2 from rfl];generalize (((w.alloc (Bt a)).alloc SC).alloc (.cells #[.int .u8 a.kind,.int .u8 a.op,.int .i64 a.at_,.int .i64 a.n,.string a.name,.string a.arg,.string a.exn,.slice none 0 0] 53))=W3 at *
 have q18:=cE.o;go_wp2_with fail;clear q18;go_loopw [10] (fun i wr=>∃(k:Nat) (v:Value),k<=a.kn/\i=.int .i64 k/\Zk w wr a.hd a v k) (fun i _=>a.kn-(intOf i).toNat)
 case atStart=>exact⟨0,_,by omega,rfl,HZ.o⟩
 case round=>
  obtain⟨k,v,dS,rfl,hz⟩:=hrel;have jS:=AF hz;have bz:=AF hz.size;obtain⟨x0,x1,x2,x3,x4,x5,x6,x7,x8⟩:=hz.box.cells;have gv:=hz.box.lt;clear hz;by_cases aG:k<a.kn
  ·go_wp2_with (at_builtin;refine Dx rfl _ _ 51 rfl (w.heap.size+3) 53 _ 8 96 underlying51 ZDE rfl (by decide) Rh Nc Z9 () _ _ _ jS.o.own rfl rfl ?c1 ?c2 ?c3 ?_)
   case c1=>omega
   case c2=>omega
   case c3=>have:=bz.o;omega
   ·intro v3 w3 aR bT;obtain⟨p3,c3,rfl,bw⟩:=A1.isRow Nc (by omega) aR;clear bw;have gQ:=AF (jS.o.add aR bT);have fa:=AF (jS.o.box.grown bT (fun e=>by have:=(Aa jS.o.own _ e).1;omega));clear x0 x1 x2 x3 x4 x5 x6 x7 x8 aR bT;obtain⟨x0,x1,x2,x3,x4,x5,x6,x7,x8⟩:=fa.o.cells;go_wp2_with fail;go_roundw
    case rel=>exact⟨k+1,_,by omega,by go_num,gQ.o⟩
    case measure=>simp [intOf];omega
  ·obtain rfl:k=a.kn:=by omega
   clear aG dS;obtain⟨p',c',rfl,aC⟩:=jS.o.own.isRow Nc (by omega);have a6:=AF aC;clear aC
   go_wp2_with (first
    |(refine lw jS.o.box.blk underlying53 ?_)
    |(refine sw #[.int .u8 a.hd.kind,.int .u8 a.hd.op,.int .i64 a.hd.at_,.int .i64 a.hd.n,.string a.hd.name,.string a.hd.arg,.string a.hd.exn,.slice p' a.kn c'] jS.o.res ?_))
   have cF:=AL wr (w.heap.size+1) _ #[.int .u8 a.hd.kind,.int .u8 a.hd.op,.int .i64 a.hd.at_,.int .i64 a.hd.n,.string a.hd.name,.string a.hd.arg,.string a.hd.exn,.slice p' a.kn c'] _ _ jS.o.res;have sW:w.heap.size+1<wr.heap.size:=by have:=bz.o;omega
   (try simp only [Exit.inBlock,Exit.then]);refine br cF underlying53 ?_;have hg:wr.grownBy (wr.setRow (w.heap.size+1) #[.int .u8 a.hd.kind,.int .u8 a.hd.op,.int .i64 a.hd.at_,.int .i64 a.hd.n,.string a.hd.name,.string a.hd.arg,.string a.hd.exn,.slice p' a.kn c']) (some (w.heap.size+1)):=⟨rfl,rfl,rfl,by simp,fun i hi aM=>AR _ _ _ _ (fun e=>aM (by rw [e]))⟩;obtain⟨p2,c2,fX,eZ⟩:=(jS.o.own.other hg (fun b hb e=>by have:=(Aa jS.o.own b hb).1;injection e with e;omega)).isRow Nc (by omega);cases fX;refine⟨⟨p',c',rfl,eZ⟩,jS.o.below.grown hg (by omega) (fun b hb=>by injection hb with hb;omega)⟩
structure Ko where
 hd:By
 kp:Option Addr
 kn:Nat
 kc:Nat
def Iz(t:Ko):List Value:=[.int .u8 t.hd.kind,.int .u8 t.hd.op,.int .i64 t.hd.at_,.int .i64 t.hd.n,.string t.hd.name,.string t.hd.arg,.string t.hd.exn,.slice t.kp t.kn t.kc]
theorem YY(t:Ko):(Iz t).length=8:=rfl
theorem OM:∀t:Ko,∀u∈Iz t,u.oneCell'=true:=by intro y u hu;simp [Iz] at hu;rcases hu with rfl|rfl|rfl|rfl|rfl|rfl|rfl|rfl<;>rfl
abbrev ZC4(t:Ko):Value:=SH t.hd t.kp t.kn t.kc
def FX(kids:Ko->List Ko)(l:List Ko):List Ko:=(l.map (fun t=>t::kids t)).flatten
theorem Tl(kids:Ko->List Ko)(l:List Ko)(k:Nat):FX kids l=FX kids (l.take k)++FX kids (l.drop k):=by unfold FX;rw [<-Dt,<-Ah,BY]
theorem VH{kids:Ko->List Ko}{l:List Ko}{k:Nat}{x:Ko}(h:l[k]?=some x):FX kids (l.take (k+1))=FX kids (l.take k)++x::kids x:=by unfold FX;rw [List.take_add_one,h];simp
theorem ZBH{σ:Type}{kids:Ko->List Ko}(st:Ko->σ->Bool×σ)(s:σ){l:List Ko}{k:Nat}{x:Ko}(h:l[k]?=some x)(hb:(BR st (FX kids (l.take k)) s).1=true):BR st (FX kids (l.take (k+1))) s=if(st x (BR st (FX kids (l.take k)) s).2).1 then BR st (kids x) (st x (BR st (FX kids (l.take k)) s).2).2 else(false,(st x (BR st (FX kids (l.take k)) s).2).2):=by rw [VH h,I8,AJ hb];rfl
theorem VW(st:Ko->σ->Bool×σ)(s:σ)(l:List Ko)(k:Nat)(hb:(BR st (FX kids (l.take k)) s).1=false):BR st (FX kids l) s=BR st (FX kids (l.take k)) s:=by rw [Tl kids l k,I8,AC (by rw [hb];exact Co)]
structure FvT(w0:World)(row:Option Nat)(g:Nat)(lb:Array Value){σ:Type}(Inv:σ->World->Prop)(ok:Ko->Prop)(st:Ko->σ->Bool×σ):Prop where
 eg:∀args w,(callFunc g args).run prog w=.ok (.enter g args) w
 hb:∀b,row=some b->w0.heap.size<=b
 lt:∀b,row=some b->∀s W,Inv s W->b<W.heap.size
 inv:∀s W W',Inv s W->Below W.heap.size W W'->Inv s W'
 call:∀a s W,ok a->Below w0.heap.size w0 W->Inv s W->Calls prog g (#[ZC4 a]++lb) W fun e w'=>e=.returned (.bool (st a s).1)/\Inv (st a s).2 w'/\W.grownBy w' row
def UG(w0:World)(row:Option Nat)(g:Nat)(lb:Array Value){σ:Type}(Inv:σ->World->Prop)(ok:Ko->Prop)(st:Ko->σ->Bool×σ)(p:Option Addr)(n c:Nat)(L:List Ko):Prop:=(∀a∈L,ok a)->∀s W,Below w0.heap.size w0 W->Inv s W->Calls prog 168 #[.func (.func g) #[] lb,.slice p n c] W fun e w'=>e=.returned (.bool (BR st L s).1)/\Inv (BR st L s).2 w'/\W.grownBy w' row
theorem Qn(hx:x∈l)(ha:a∈x::kids x):a∈FX kids l:=BS.2 ⟨_,Au hx,ha⟩
theorem SJ(w:World)(t:Ko):Kq (w.alloc (Me t.hd t.kp t.kn t.kc)) w.heap.size t.hd (.slice t.kp t.kn t.kc):=⟨AG w _⟩
theorem K8{w0:World}{row:Option Nat}{g:Nat}{lb:Array Value}{σ:Type}{Inv:σ->World->Prop}{ok:Ko->Prop}{st:Ko->σ->Bool×σ}(F:FvT w0 row g lb Inv ok st)(kids:Ko->List Ko){p:Option Addr}{n c:Nat}{l:List Ko}(hR:Ax Iz 8 w0 p n c l)(ih:∀x∈l,UG w0 row g lb Inv ok st x.kp x.kn x.kc (kids x)):UG w0 row g lb Inv ok st p n c (FX kids l):=by
 intro aW s W kz gF;have eg:=F.eg;have HF:=AF F;have HI:=AF ih;have HR:=AF hR;have bP:=AF aW;have dq:=AF kz;have HV:=AF gF;have kX:n<=9223372036854775807:=hR.max;clear F ih hR aW kz gF;go_enter func168,ntmps168;go_wp2_with fail;go_loopw [9] (fun i wr=>∃(k:Nat) (S:Bool×σ),k<=n/\i=.int .i64 k/\Hd (BR st (FX kids (l.take k)) s=S)/\S.1=true/\Inv S.2 wr/\W.grownBy wr row) (fun i _=>n-(intOf i).toNat)
 case atStart=>exact⟨0,(true,s),by omega,rfl,AF rfl,rfl,HV.o,Cd _ _⟩
 case round=>
  obtain⟨k,S,hk,rfl,HS,hs,lH,hg⟩:=hrel;have il:=AF lH;have HG:=AF hg;have cx:=AF hs;have HB:=AF (dq.o.grown hg dq.o.size HF.o.hb);clear lH hg hs;by_cases aG:k<n
  ·obtain⟨a,hx⟩:=Bh (l:=l) (j:=k) (by rw [HR.o.len];exact aG);obtain⟨b,o,bV,bB,am⟩:=(HR.o.below HB.o).row.elem hx;have dc:=AF am;subst bV;have hE:=AE hx;have iW:=AF (show UG w0 row g lb Inv ok st a.kp a.kn a.kc (kids a) from HI.o _ hE);have kq:=AF (show ∀a'∈kids a,ok a' from fun a' ha=>bP.o a' (Qn hE (Cu _ ha)));have gI:ok a:=bP.o a (Qn hE BL)
   have cJ:=AF (show BR st (FX kids (l.take (k+1))) s=if(st a S.2).1 then BR st (kids a) (st a S.2).2 else(false,(st a S.2).2) by
    have h:=ZBH (kids:=kids) st s hx (by rw [HS.o];exact cx.o);rw [HS.o] at h;exact h)
   clear hx bB am hE;have aK:=AF (SJ wr a);have ap:Below wr.heap.size wr (wr.alloc (Me a.hd a.kp a.kn a.kc)):=bA;have aH:=bt HB ap;have jC:=AF (HF.o.inv _ _ _ il.o ap);have bY:=AF (HF.o.call a S.2 _ gI aH.o jC.o);have fc:=AF (HG.o.trans ((C4 wr (Me a.hd a.kp a.kn a.kc) row)));clear ap gI;have kw:(wr.alloc SC).heap[wr.heap.size]?=some (.cells #[.int .u8 0,.int .u8 0,.int .i64 0,.int .i64 0,.string ⟨#[]⟩,.string ⟨#[]⟩,.string ⟨#[]⟩,.slice none 0 0] 53 (0,0)):=AG wr _;have cw:=AF kw;clear kw;cases hq:(st a S.2).1 with
   |false=>
    rw [hq] at bY cJ;have HQ:=AF hq;clear hq
    go_wp2_with (first
     |(refine lm (Iz a) dc.o underlying53 ?_)
     |(refine Ap rfl 53 _ _ rfl wr.heap.size (Iz a).toArray rfl rfl 53 _ cw.o (by kernel_rfl) rfl (Bl (OM a)) ?_;rw [Av])
     |(refine lw aK.o.blk underlying53 ?_)
     |(go_at_fn g;refine bY.o.mono ?_;rintro e w2 ⟨rfl,cK,aa⟩;have cb:=AF cK;have dD:=AF (fc.o.trans aa);clear cK aa))
    go_ret;have bZ:BR st (FX kids l) s=(false,(st a S.2).2):=by rw [VW st s l (k+1) (by rw [cJ.o];rfl),cJ.o];rfl
    exact⟨Af (by rw [bZ]),by rw [bZ];exact cb.o,dD.o⟩
   |true=>
    rw [hq] at bY cJ;have HQ:=AF hq;clear hq;have HM:=AF (HF.o.hb);have q18:∀w2,(wr.alloc (Me a.hd a.kp a.kn a.kc)).grownBy w2 row->Inv (st a S.2).2 w2->w2.cell? ⟨wr.heap.size,7,none⟩=some (.slice a.kp a.kn a.kc)/\Below w0.heap.size w0 w2:=fun w2 aa cK=>⟨aa.cell (a:=⟨wr.heap.size,7,none⟩) (aK.o.cells.2.2.2.2.2.2.2.1) (fun e=>by have:=HF.o.lt _ e.symm _ _ il.o;exact CU _ this),aH.o.grown aa aH.o.size HM.o⟩;have fw:=AF q18;clear q18;cases fN:(BR st (kids a) (st a S.2).2).1 with
    |false=>
     have cE:=AF fN;clear fN
     go_wp2_with (first
      |(refine lm (Iz a) dc.o underlying53 ?_)
      |(refine Ap rfl 53 _ _ rfl wr.heap.size (Iz a).toArray rfl rfl 53 _ cw.o (by kernel_rfl) rfl (Bl (OM a)) ?_;rw [Av])
      |(refine lw aK.o.blk underlying53 ?_)
      |(first|(go_at_fn g;refine bY.o.mono ?_;rintro e w2 ⟨rfl,cK,aa⟩;obtain⟨c18,aU⟩:=fw.o _ aa cK;have cb:=AF cK;have dD:=AF (fc.o.trans aa);have aF:=AF aU;clear cK aa aU)|(go_at_call 168;refine(iW.o kq.o _ _ aF.o cb.o).mono ?_;rw [cE.o];rintro e w3 ⟨rfl,gE,bT⟩;have ci:=AF gE;have iS:=AF (dD.o.trans bT);clear gE bT)))
     go_ret;have bZ:BR st (FX kids l) s=BR st (kids a) (st a S.2).2:=by rw [VW st s l (k+1) (by rw [cJ.o];exact cE.o),cJ.o];rfl
     exact⟨Af (by rw [bZ,cE.o]),by rw [bZ];exact ci.o,iS.o⟩
    |true=>
     have cE:=AF fN;clear fN
     go_wp2_with (first
      |(refine lm (Iz a) dc.o underlying53 ?_)
      |(refine Ap rfl 53 _ _ rfl wr.heap.size (Iz a).toArray rfl rfl 53 _ cw.o (by kernel_rfl) rfl (Bl (OM a)) ?_;rw [Av])
      |(refine lw aK.o.blk underlying53 ?_)
      |(first|(go_at_fn g;refine bY.o.mono ?_;rintro e w2 ⟨rfl,cK,aa⟩;obtain⟨c18,aU⟩:=fw.o _ aa cK;have cb:=AF cK;have dD:=AF (fc.o.trans aa);have aF:=AF aU;clear cK aa aU)|(go_at_call 168;refine(iW.o kq.o _ _ aF.o cb.o).mono ?_;rw [cE.o];rintro e w3 ⟨rfl,gE,bT⟩;have ci:=AF gE;have iS:=AF (dD.o.trans bT);clear gE bT)))
     go_roundw
     case rel=>exact⟨k+1,_,by omega,by go_num,cJ,by show (BR st (kids a) (st a S.2).2).1=true;exact cE.o,ci.o,iS.o⟩
     case measure=>simp [intOf];omega
  ·have ai:k=n:=by omega
   have bp:l.take k=l:=Bb (by rw [HR.o.len,ai];exact AB _);rw [bp] at HS;go_wp2_with fail;go_ret;exact⟨Af (by rw [HS.o,cx.o]),by rw [HS.o];exact il.o,HG.o⟩
def KC:Ko:=⟨⟨1,0,0,0,⟨#[]⟩,⟨#[]⟩,⟨#[]⟩⟩,none,0,0⟩
theorem MH{w0:World}{row:Option Nat}{g:Nat}{lb:Array Value}{σ:Type}{Inv:σ->World->Prop}{ok:Ko->Prop}{st:Ko->σ->Bool×σ}(F:FvT w0 row g lb Inv ok st){t:Ko}{p:Option Addr}{c:Nat}(hk:Ax Rh 8 w0 t.kp t.kn t.kc (List.replicate t.kn ()))(ht:Ax Iz 8 w0 p 1 c [t]):UG w0 row g lb Inv ok st p 1 c (t::List.replicate t.kn KC):=by
 have h0:UG w0 row g lb Inv ok st none 0 0 []:=K8 F (fun _=>[]) (Ax.none _ _ _) (fun x hx=>absurd hx (by simp))
 have h1:Ax Iz 8 w0 t.kp t.kn t.kc (List.replicate t.kn KC):=by
  refine⟨by simp,hk.max,hk.le,hk.nil,?_⟩;rcases hk.row with h|⟨b,o,hp,hb,hc⟩
  ·left;have h2:t.kn=0:=by simpa using h
   simp [h2]
  ·refine .inr ⟨b,o,hp,hb,fun j x hx i v hv=>?_⟩;have hj:j<t.kn:=by have:=(BJ.1 hx).1;simpa using this
   have qg:x=KC:=(Fp.1 (AE hx)).2;subst qg;exact hc j () (by simp [hj]) i v hv
 have h2:=K8 F (fun _=>[]) h1 (fun x hx=>by
  rw [(Fp.1 hx).2];exact h0)
 have e2:FX (fun _=>[]) (List.replicate t.kn KC)=List.replicate t.kn KC:=by
  unfold FX;generalize t.kn=m;induction m with
  |zero=>rfl
  |succ m ih=>rw [List.replicate_succ,AV,List.flatten_cons,ih];rfl
 rw [e2] at h2
 have h3:=K8 F (fun _=>List.replicate t.kn KC) ht (fun x hx=>by
  rw [AQ.1 hx];exact h2)
 simpa [FX] using h3
theorem ZO(hw:Region.wanted op (yielded ops a.tmps)=true)(ty:TypeId)(x:Operand)(ho:op.op=.load ty x)(b o:Nat)(hx:a.eval x=.pointer (some ⟨b,o,none⟩))(cs:List Value)(d:TypeDesc)(hc:w.rangeAt b o cs)(hu:P.underlying ty=some d)(hd:d.isRow=true)(hi:(P.info? ty).map (·.size)=some cs.length)(h:wpList P ops Q rest (a.put op.dst (.agg cs.toArray)) w):wpList P ops Q (op::rest) a w:=by rw [wpList,AJ hw];exact .inl (wp_load_mid ty x ho b o hx cs d hc hu hd hi h)
theorem Kq.range(hb:Kq w g h (.slice p n c)):w.rangeAt g 0 (Iz ⟨h,p,n,c⟩):=by have hb:=hb.blk;intro i u hu;have:i<8:=(BJ.1 hu).1;rcases (by omega:i=0\/i=1\/i=2\/i=3\/i=4\/i=5\/i=6\/i=7) with rfl|rfl|rfl|rfl|rfl|rfl|rfl|rfl<;>(simp [Iz] at hu;subst hu;simp [World.cell?,hb])
def Fz(b:Nat)(z:Int)(W:World):Prop:=W.heap[b]?=some (.cells #[.int .i64 z] 3 (0,0))
theorem Fz.cells(h:Fz b z W):W.cell? ⟨b,0,none⟩=some (.int .i64 z)/\W.frozen? ⟨b,0,none⟩=false:=by unfold Fz at h;simp [World.cell?,World.frozen?,h]
theorem Fz.lt(h:Fz b z W):b<W.heap.size:=(AO.1 h).1
theorem Fz.below(h:Fz b z W)(hb:Below W.heap.size W W'):Fz b z W':=by unfold Fz;rw [hb.block b h.lt];exact h
theorem Fz.set(h:Fz b z W)(y:Int):Fz b y (W.setCell ⟨b,0,none⟩ (.int .i64 y)):=by unfold Fz at h ⊢;simpa using Aw (o:=0) (.int .i64 y) h
def LL{α:Type}(_:α)(z:Int):Bool×Int:=(true,IntKind.i64.wrap (z+1))
theorem Oc:∀(l:List α) (z:Int),0<=z->z+l.length<=1000000000->BR LL l z=(true,z+l.length)
 |[],z,_,_=>by simp [BR]
 |a::l,z,h0,h=>by
  have hl:((a::l).length:Int)=(l.length:Int)+1:=by simp
  have e:IntKind.i64.wrap (z+1)=z+1:=Bi _ (by omega);show (if true=true then BR LL l (IntKind.i64.wrap (z+1)) else _)=_;rw [AJ rfl,e,Oc l (z+1) (by omega) (by omega),hl];congr 1;omega
theorem RI(t:Ko)(b:Nat)(z:Int)(W:World)(h:Fz b z W):Calls prog 203 #[ZC4 t,.pointer (some ⟨b,0,none⟩)] W fun e w'=>e=.returned (.bool (LL t z).1)/\Fz b (LL t z).2 w'/\W.grownBy w' (some b):=by have HA:=AF (h.below ((AA _ _).alloc (AB _) (Me t.hd t.kp t.kn t.kc)));obtain⟨q0,qf⟩:=HA.o.cells;obtain⟨Z,hZ⟩:∃Z,IntKind.i64.wrap (z+1)=Z:=⟨_,rfl⟩;have HZ:Hd ((LL t z).2=Z):=hZ;clear h;go_enter func203,ntmps203;go_wp2_with fail;go_ret;refine⟨rfl,?_⟩;rw [HZ.o];exact⟨HA.o.set Z,(C4 W _ _).trans (Ar _ _ _ _)⟩
theorem ZAJ{w0:World}{b:Nat}(hb:w0.heap.size<=b):FvT w0 (some b) 203 #[.pointer (some ⟨b,0,none⟩)] (Fz b) (fun _=>True) LL where
 eg:=fun args w=>rfl
 hb:=fun b' h=>by injection h with h;omega
 lt:=fun b' h s W hi=>by injection h with h;rw [<-h];exact hi.lt
 inv:=fun s W W' hi bB=>hi.below bB
 call:=fun a s W _ _ hi=>RI a b s W hi
theorem RJ(hk:Ax Rh 8 w t.kp t.kn t.kc (List.replicate t.kn ()))(ht:Ax Iz 8 w p 1 c [t])(h3:t.kn<=1000):Calls prog 167 #[.slice p 1 c] w (RB w (.int .i64 (1+t.kn))):=by
 have HE:=AF (MH (ZAJ (w0:=w) (b:=w.heap.size) (AB _)) hk ht);have HP:Hd (BR LL (t::List.replicate t.kn KC) 0=(true,1+(t.kn:Int))):=by show _=_;rw [Oc (t::List.replicate t.kn KC) 0 (by omega) (by simp;omega)];congr 1;simp;omega
 have HI:Hd (Fz w.heap.size 0 (w.alloc (.cells #[.int .i64 0] 3))):=AG w _;have HB:=AF ((AA w.heap.size w).alloc (AB _) (.cells #[.int .i64 0] 3));have HG:=AF (C4 w (.cells #[.int .i64 0] 3) (some w.heap.size));clear hk ht;go_enter func167,ntmps167;go_wp2_with (go_at_call 168;refine(HE.o (fun _ _=>trivial) 0 _ HB.o HI.o).mono ?_;rw [HP.o];rintro e w2 ⟨rfl,cK,aa⟩;obtain⟨q0,qf⟩:=cK.cells;have dD:=AF (HG.o.trans aa);clear cK aa);go_ret;exact⟨rfl,Ik dD.o (AB _) (fun b hb=>by injection hb with hb;omega)⟩
theorem Yr:DN KC.hd 0=true:=by decide
def VG(t:Ko)(_:Unit):Bool×Unit:=(DN t.hd t.kn,())
theorem ZAK{w0:World}(hv:Vr w0):FvT w0 none 169 #[] (fun(_:Unit) _=>True) (fun t=>0<=t.hd.kind/\t.hd.kind<=255/\t.kn<=1000000) VG where
 eg:=fun args w=>rfl
 hb:=fun b' h=>by cases h
 lt:=fun b' h=>by cases h
 inv:=fun _ _ _ _ _=>trivial
 call:=fun a s W ok hb _=>by refine(R9 a.hd ok.1 ok.2.1 a.kp a.kn a.kc ok.2.2 W (hv.below hb)).mono ?_;rintro e w' ⟨rfl,ab⟩;exact⟨rfl,trivial,ab.os,ab.tape,ab.output,ab.size,fun k hk _=>ab.block k hk⟩
theorem N3:∀n,BR VG (List.replicate n KC) ()=(true,())
 |0=>rfl
 |n+1=>by rw [List.replicate_succ];show (if(DN KC.hd 0)=true then BR VG (List.replicate n KC) () else _)=_;rw [Yr,AJ rfl,N3 n]
theorem Ty(t:Ko)(n:Nat):(BR VG (t::List.replicate n KC) ()).1=DN t.hd t.kn:=by show (if(DN t.hd t.kn)=true then BR VG (List.replicate n KC) () else(false,())).1=_;rw [N3];cases DN t.hd t.kn<;>rfl
theorem Ms(hv:Vr w)(hk:Ax Rh 8 w t.kp t.kn t.kc (List.replicate t.kn ()))(h3:t.kn<=1000)(ao:0<=t.hd.kind)(dS:t.hd.kind<=255):Calls prog 120 #[ZC4 t] w (RB w (.bool (DN t.hd t.kn))):=by
 have HV:=AF hv;have HK:=AF hk;have aK:=AF (SJ w t);have HB:=AF ((AA w.heap.size w).alloc (AB _) (Me t.hd t.kp t.kn t.kc));have HS:=AF (Ty t t.kn);have aC:∀(W:World) (ty:TypeId) (gs:Nat),W.heap.size=gs->Ax Iz 8 (W.alloc (.cells #[.int .u8 t.hd.kind,.int .u8 t.hd.op,.int .i64 t.hd.at_,.int .i64 t.hd.n,.string t.hd.name,.string t.hd.arg,.string t.hd.exn,.slice t.kp t.kn t.kc] ty)) (some ⟨gs,0,none⟩) 1 1 [t]:=fun W ty gs ag=>⟨rfl,by decide,by decide,(by intro h;cases h),DK.newAt YY W [t] _ (by simp [Iz]) _ _ _ ag⟩;have a6:=AF aC;clear hv hk aC;go_enter func120,ntmps120;have di:decide (1+(t.kn:Int)<=4000)=true:=by simp;omega
 have xH:decide ((1:Int)+t.kn<=4000)=true:=di
 go_wp2_with (first
  |(refine lw aK.o.blk underlying53 ?_)
  |(refine lmg [.int .u8 t.hd.kind,.int .u8 t.hd.op,.int .i64 t.hd.at_,.int .i64 t.hd.n,.string t.hd.name,.string t.hd.arg,.string t.hd.exn,.slice t.kp t.kn t.kc] aK.o.range underlying53 ?_)
  |(go_at_call 167;refine(RJ (HK.o.below (HB.o.alloc HB.o.size _)) (a6.o _ _ _ (by simp)) (by omega)).mono ?_;rintro e w2 ⟨rfl,hb⟩;have aF:=AF ((HB.o.alloc HB.o.size _).trans (hb.mono (HB.o.alloc HB.o.size _).size));have aK:=AF ((aK.o.below bA).below hb);clear hb)
  |(go_at_call 168;refine(MH (ZAK (HV.o.below (aF.o.alloc aF.o.size _))) (HK.o.below (aF.o.alloc aF.o.size _)) (a6.o _ _ _ (by simp)) (by intro a ha;rcases AS.1 ha with rfl|ha;exact⟨ao,dS,by omega⟩;rw [(Fp.1 ha).2];exact⟨by decide,by decide,by decide⟩) () _ (AA _ _) trivial).mono ?_;rw [HS.o];rintro e w3 ⟨rfl,_,bT⟩;have aL:=AF (Ik bT (AB _) (fun b h=>by cases h));clear bT))
 go_ret;exact⟨rfl,aF.o.trans (((AA _ w2).alloc (AB _) _ |>.trans (aL.o.mono (by simp))).mono aF.o.size)⟩
end Go.Proofs.YtkdjnegfnhldpaaGreatDoor
