/- Part 11. -/
import Derived.Lib.ConvBytes
import Derived.Deep.MidRow
import Derived.Test.YtkdjnegfnhldpaaGreatDoorK10
set_option linter.unusedVariables false
set_option maxRecDepth 100000
set_option linter.unusedSimpArgs false
set_option maxHeartbeats 40000000
namespace Go.Proofs.YtkdjnegfnhldpaaGreatDoor
open Go.Proofs.Tryz Go.RowKit
theorem Ni{p:Option Addr}{n cap:Nat}{l:List Int}{w:World}(hn:l.length=n)(hm:n≤1000000)(hr:At RK 1 w p l)(x:Int):Calls prog 257 #[.slice p n cap,.int .u8 x] w fun e w'=>(∃r:Int,e=.returned (.int .i64 r)∧decide (r≥0)=Ee l x)∧w=w':=by
 have HR:=AA hr;have HN:=AA hn;clear hr hn;go_enter func257,ntmps257;go_wp2_with fail;go_loop [5,8] (fun _ i=>∃j:Nat,j≤n∧i=.int .i64 j∧(l.take j).any (·==x)=false) (fun _ i=>n-(intOf i).toNat)
 case atStart=>exact⟨0,by omega,rfl,by simp⟩
 case round=>
  obtain⟨j,hj,rfl,aw⟩:=hrel;have a8:=AA aw;clear aw;by_cases aG:j<n
  ·obtain⟨y,hy⟩:=Ac (l:=l) (j:=j) (by rw [HN.o];exact aG);have HE:=AA hy;obtain⟨b,o,rfl,d0⟩:=HR.o.u8 hy;clear hy;cases hq:(x==y)
   ·have HQ:=AA hq;go_wp2_with fail;go_round
    case rel=>exact⟨j+1,by omega,by go_num,by rw [BF HE.o,a8.o,BEq.comm,HQ.o];rfl⟩
    case measure=>simp [intOf];omega
   ·have HQ:=AA hq;go_wp2_with fail;go_ret;exact⟨⟨j,rfl,by rw [show Ee l x=true from FU HE.o (by rw [BEq.comm];exact HQ.o)];simp⟩,rfl⟩
  ·go_wp2_with fail;go_ret;have h:=a8.o;rw [AY (by rw [HN.o];omega)] at h;exact⟨⟨-1,rfl,by rw [show Ee l x=false from h];decide⟩,rfl⟩
theorem KE{p:Option Addr}{n cap:Nat}{l:List Int}{w:World}(hn:l.length=n)(hm:n≤1000000)(hr:At RK 1 w p l)(x:Int):Calls prog 234 #[.slice p n cap,.int .u8 x] w fun e w'=>e=.returned (.bool (Ee l x))∧w=w':=by
 have HC:=AA (Ni (cap:=cap) hn hm hr x);clear hr hn;go_enter func234,ntmps234;go_wp2_with fail;refine HC.o.mono ?_;rintro e w1 ⟨⟨r,rfl,hr⟩,rfl⟩;have HR:=AA hr;clear hr;go_wp2_with fail
 all_goals (try go_ret)
 all_goals exact⟨AE (by rw [←HR.o]),rfl⟩
def Hk(s:ByteArray):List Int:=s.data.toList.map (fun b=>(b.toNat:Int))
def Ed(s:ByteArray)(x:Int):Bool:=Ee (Hk s) x
theorem Q4(w:World)(e:TypeId)(s:ByteArray):At RK 1 (Lib.bytesWorld w e s) (some ⟨w.heap.size,0,none⟩) (Hk s):=by
 refine .inr ⟨_,0,rfl,by rw [Lib.bytesWorld_size];exact Nat.lt_succ_self _,fun j x hx i v hv=>?_⟩;have hj:j<s.size:=by have:=(List.getElem?_eq_some_iff.1 hx).1;simpa [Hk] using this
 have hi:i=0:=by
  cases i with
  |zero=>rfl
  |succ i=>simp [RK] at hv
 subst hi;have pg:v=.int .u8 x:=by simpa [RK] using hv.symm
 have:=Lib.bytesWorld_cell w e s j hj;rw [pg];simp only [Nat.zero_add,Nat.mul_one,Nat.add_zero];rw [this]
 have eH:((s.data.toList.getD j 0).toNat:Int)=x:=by
  have h2:(Hk s)[j]?=some ((s.data.toList.getD j 0).toNat:Int):=by unfold Hk;rw [List.getElem?_map,List.getD,List.getElem?_eq_getElem (by simpa using hj)];simp
  rw [h2] at hx;exact Option.some.inj hx
 rw [eH]
theorem Nk(w:World)(e:TypeId)(s:ByteArray):Below w.heap.size w (Lib.bytesWorld w e s):=⟨rfl,rfl,rfl,by rw [Lib.bytesWorld_size];omega,fun j hj=>Lib.bytesWorld_at_old w e s j hj⟩
theorem E9(k:Int)(s:ByteArray)(x:Int)(hs:s.size≤1000)(w:World):Calls prog 205 #[.agg #[.int .i64 k,.string s],.int .u8 x] w (RB w (.bool (Ed s x))):=by
 have HB:=AA (((Below.refl w.heap.size w).alloc (Nat.le_refl _) (.cells #[.int .i64 k,.string s] 244)));have hl:(Hk s).length=s.size:=by simp [Hk]
 go_enter func205,ntmps205;have pD:=Lib.run_convert_string_bytes (P:=prog) (w.alloc (.cells #[.int .i64 k,.string s] 244)) 9 166 5 s underlying9 underlying166 underlying5;have HR:=AA (Q4 (w.alloc (.cells #[.int .i64 k,.string s] 244)) 5 s);have aI:=AA (HB.o.trans ((Nk (w.alloc (.cells #[.int .i64 k,.string s] 244)) 5 s).mono HB.o.size));generalize Lib.bytesWorld (w.alloc (.cells #[.int .i64 k,.string s] 244)) 5 s=w2 at *
 generalize grownCap (w.alloc (.cells #[.int .i64 k,.string s] 244)) s.size 0 5=cp at *
 simp only [World.size_alloc] at pD HR;go_wp2_with fail;refine(KE hl (by omega) HR.o x).mono ?_;rintro e w3 ⟨rfl,rfl⟩;go_wp2_with fail;go_ret;exact⟨rfl,aI.o⟩
def Qw(fid:FuncId)(q:ByteArray→Bool)(w:World):Prop:=∀(s:ByteArray) (W:World) (g:Nat),Below w.heap.size w W→At Gx 1 W (some ⟨g,0,none⟩) [s]→Calls prog fid #[.slice (some ⟨g,0,none⟩) 1 1] W fun e w'=>e=.returned (.bool (q s))∧Below W.heap.size W w'
theorem Qw.below{fid:FuncId}{q:ByteArray→Bool}{w W:World}(h:Qw fid q w)(hb:Below w.heap.size w W):Qw fid q W:=fun s W' g bB hr=>h s W' g (hb.trans (bB.mono hb.size)) hr
theorem MC{w:World}(hv:Vr w):Qw 207 Bo w:=fun s W g hb hr=>by have:=LE (hv.below hb) (some ⟨g,0,none⟩) 1 1 [s] rfl (by decide) hr;simpa using this
theorem Tg(w:World):Qw 174 Cg w:=fun s W g hb hr=>by have:=Hf (some ⟨g,0,none⟩) 1 1 [s] W rfl (by decide) hr;simpa using this
def Dp(has:Bool)(q:ByteArray→Bool)(t:ByteArray):Bool:=if has then q t else t.toList.isEmpty
theorem EI{fid:FuncId}{q:ByteArray→Bool}(eg:∀args w,(callFunc fid args).run prog w=.ok (.enter fid args) w)(k:Int)(s:ByteArray)(x:Int)(t:ByteArray)(hs:s.size≤1000){w:World}(hq:Qw fid q w):Calls prog 206 #[.agg #[.int .i64 k,.string s],.int .u8 x,.string t,.func (.func fid) #[] #[]] w (RB w (.bool (Dp (Ed s x) q t))):=by
 have HB:=AA (((Below.refl w.heap.size w).alloc (Nat.le_refl _) (.cells #[.int .i64 k,.string s] 244)));have HQ:=AA (hq.below HB.o);clear hq;go_enter func206,ntmps206;cases hh:Ed s x
 ·have HH:=AA hh;have HC:=AA (E9 k s x hs (w.alloc (.cells #[.int .i64 k,.string s] 244)));rw [hh] at HC;clear hh;go_wp2_with (go_at_call 205;refine HC.o.mono ?_;rintro e w2 ⟨rfl,hb⟩;have aI:=bt HB hb;clear hb);go_ret;exact⟨AE rfl,aI.o⟩
 ·have HC:=AA (E9 k s x hs (w.alloc (.cells #[.int .i64 k,.string s] 244)));rw [hh] at HC;clear hh
  go_wp2_with (first
   |(go_at_call 205;refine HC.o.mono ?_;rintro e w2 ⟨rfl,hb⟩;have aI:=bt HB hb;have cX:=AA (HQ.o.below hb);clear hb)
   |(go_at_fn fid;refine(cX.o t _ _ bA (At.newAt IL _ [t] _ (by simp [Gx]) _ _ _ rfl)).mono ?_;rintro e w3 ⟨rfl,hb⟩;have aT:=AA (aI.o.trans ((((Below.refl _ w2).alloc (Nat.le_refl _) _).trans (hb.mono (by simp))).mono aI.o.size));clear hb))
  go_ret;exact⟨AE rfl,aT.o⟩
def Sk(x:Int×ByteArray):List Value:=[.int .i64 x.1,.string x.2]
theorem RI(x:Int×ByteArray):(Sk x).length=2:=rfl
def J7:List (Int×ByteArray):=[(0,⟨#[110]⟩),(0,⟨#[109]⟩),(2,⟨#[]⟩),(1,⟨#[]⟩),(1,⟨#[]⟩),(1,⟨#[]⟩),(1,⟨#[]⟩),(2,⟨#[]⟩),(2,⟨#[111]⟩),(2,⟨#[]⟩),(1,⟨#[97]⟩),(2,⟨#[109]⟩),(2,⟨#[109,97]⟩),(3,⟨#[]⟩),(1,⟨#[101]⟩),(2,⟨#[101,97]⟩)]
theorem K1(w:World):Calls prog 204 #[] w fun e w'=>e=.returned (.slice (some ⟨w.heap.size,0,none⟩) 16 16)∧At Sk 2 w' (some ⟨w.heap.size,0,none⟩) J7∧Below w.heap.size w w':=by go_enter func204,ntmps204;go_wp2_with fail;go_ret;exact⟨rfl,At.newAt RI _ J7 _ (by simp [Sk,J7]) _ _ _ rfl,bA⟩
structure Uo(k:Int)(kd:Int)(s:ByteArray):Prop where
 kids:BI k=kd
 k0:0≤kd
 k3:kd≤3
 size:s.size≤1000
 o:Ed s 111=(k==9)
 n:Ed s 110=(k==1)
 m:Ed s 109=Jd k
 a:Ed s 97=Ow k
 e:Ed s 101=Oy k
theorem Ti(j:Nat)(h:j<16):∃kd s,J7[j]?=some (kd,s)∧Uo ((j:Int)+1) kd s:=by
 rcases (by omega:j=0∨j=1∨j=2∨j=3∨j=4∨j=5∨j=6∨j=7∨j=8∨j=9∨j=10∨j=11∨j=12∨j=13∨j=14∨j=15) with rfl|rfl|rfl|rfl|rfl|rfl|rfl|rfl|rfl|rfl|rfl|rfl|rfl|rfl|rfl|rfl <;>
  exact⟨_,_,rfl,by decide,by decide,by decide,by decide,by decide,by decide,by decide,by decide,by decide⟩
theorem Pt{h:BY}(n:Nat)(hk:h.kind<1∨16<h.kind∨h.at_<0):Bp h n=false:=by
 unfold Bp;rcases hk with hk|hk|hk
 ·have:BI h.kind=-1:=by unfold BI;rw [if_neg (by omega),if_neg (by omega),if_neg (by omega),if_neg (by omega)]
  rw [this];simp
 ·have:BI h.kind=-1:=by unfold BI;rw [if_neg (by omega),if_neg (by omega),if_neg (by omega),if_neg (by omega)]
  rw [this];simp
 ·have:decide (h.at_<0)=true:=by simpa using hk
  rw [this];simp
def TJ(o:Int):Bool:=decide (1≤o)&&decide (o≤5)
theorem Rj{k op at_ m:Int}{name arg exn:ByteArray}{n:Nat}{kd:Int}{s:ByteArray}(hS:Uo k kd s)(h3:0≤at_):Bp ⟨k,op,at_,m,name,arg,exn⟩ n=(!(((n:Int) != kd)||(Ed s 111&&!TJ op||!Ed s 111&&(op != 0)))&&!(decide (m<0)||decide (m > 2147483647)||!Ed s 110&&(m != 0))&&(Dp (Ed s 109) Bo name&&Dp (Ed s 97) Bo arg&&Dp (Ed s 101) Cg exn)):=by
 have hf:∀(b:Bool) (q:ByteArray→Bool) (t:ByteArray),Ec b t (q t)=Dp b q t:=by
  intro b q t;cases b
  ·unfold Ec Dp
   have:t.toList.isEmpty=decide (t.size=0):=by
    rw [Lib.toList_data];obtain⟨⟨l⟩⟩:=t;cases l with
    |nil=>rfl
    |cons b l=>show false=decide (l.length+1=0);simp
   simp [this]
  ·simp [Ec,Dp]
 have bC:decide (BI k<0)=false:=by rw [hS.kids];have:=hS.k0;simp;omega
 have ha:decide (at_<0)=false:=by simp;omega
 have ho:(decide (op<1)||decide (5<op))=!TJ op:=by unfold TJ;rw [Bool.eq_iff_iff];simp
 show (!(decide (BI k<0)||((n:Int) != BI k)||decide (at_<0))&&!((k==9)&&(decide (op<1)||decide (5<op))||(k != 9)&&(op != 0)) &&
  !(decide (m<0)||decide (2147483647<m)||(k != 1)&&(m != 0))&&(Ec (Jd k) name (Bo name)&&Ec (Ow k) arg (Bo arg)&&Ec (Oy k) exn (Cg exn)))=_
 rw [bC,ha,hf,hf,hf,ho,hS.kids,hS.o,hS.n,hS.m,hS.a,hS.e];have e9:(k != 9)=!(k==9):=rfl;have e1:(k != 1)=!(k==1):=rfl;rw [e9,e1];simp only [Bool.false_or,Bool.or_false,Bool.not_or,gt_iff_lt]
theorem Lk(h:BY)(p:Option Addr)(n c:Nat)(bC:0≤h.kind)(cZ:h.kind≤255)(w:World)(hk:h.kind<1∨16<h.kind∨h.at_<0):Calls prog 169 #[Nc h p n c] w (RB w (.bool (Bp h n))):=by
 have HR:=AA (Pt n hk);have aM:=AA ((Below.refl w.heap.size w).alloc (Nat.le_refl _) (II h p n c));have HC:=AA (JN w h p n c);have eO:IntKind.i64.wrap h.kind=h.kind:=IntWalk.i64_in _ (by omega);go_enter func169,ntmps169;go_wp2_with (go_at_call 204;refine(K1 _).mono ?_;rintro e w2 ⟨rfl,dL,hb⟩;have fk:=AA (HC.o.below hb);have aI:=bt aM hb;clear dL hb;obtain⟨q0,q1,q2,q3,q4,q5,q6,q7⟩:=fk.o)
 all_goals (go_ret;exact⟨AE HR.o.symm,aI.o⟩)
structure Qv(w W:World)(g:Nat)(h:BY)(p:Option Addr)(n c:Nat)(kd:Int)(s:ByteArray):Prop where
 tm:IC W w.heap.size h p n c
 s0:W.cell? ⟨g,0,none⟩=some (.int .i64 kd)
 s1:W.cell? ⟨g,1,none⟩=some (.string s)
 below:Below w.heap.size w W
theorem Qv.drop{w W W':World}{g:Nat}{h:BY}{p:Option Addr}{n c:Nat}{kd:Int}{s:ByteArray}(hi:Qv w W g h p n c kd s)(hb:Below W.heap.size W W'):Qv w W' g h p n c kd s:=by have aG:g<W.heap.size:=BC hi.s0;exact⟨hi.tm.below hb,by rw [hb.cell aG];exact hi.s0,by rw [hb.cell aG];exact hi.s1,hi.below.trans (hb.mono hi.below.size)⟩
theorem Ic{k:Int}{s:ByteArray}{x:Int}{r:Bool}(h:Ed s x=r)(hs:s.size≤1000)(w:World):Calls prog 205 #[.agg #[.int .i64 k,.string s],.int .u8 x] w (RB w (.bool r)):=by subst h;exact E9 k s x hs w
theorem K7(j:Nat)(hj:j<16)(op at_ m:Int)(name arg exn:ByteArray)(p:Option Addr)(n c:Nat)(hn:n≤1000000)(h3:0≤at_)(w:World)(hv:Vr w):Calls prog 169 #[Nc ⟨(j:Int)+1,op,at_,m,name,arg,exn⟩ p n c] w (RB w (.bool (Bp ⟨(j:Int)+1,op,at_,m,name,arg,exn⟩ n))):=by
 obtain⟨kd,s,nX,hS⟩:=Ti j hj;have HR:=AA (Rj (op:=op) (m:=m) (name:=name) (arg:=arg) (exn:=exn) (n:=n) hS h3);have aM:=AA ((Below.refl w.heap.size w).alloc (Nat.le_refl _) (II ⟨(j:Int)+1,op,at_,m,name,arg,exn⟩ p n c));have HC:=AA (JN w ⟨(j:Int)+1,op,at_,m,name,arg,exn⟩ p n c);have kA:=hS.size;have HV:=AA hv;have oa:=AA nX;clear hv nX hS;have eO:IntKind.i64.wrap ((j:Int)+1)=(j:Int)+1:=IntWalk.i64_in _ (by omega);have kh:IntKind.u8.wrap ((j:Int)+1-1)=(j:Int):=by rw [show (j:Int)+1-1=(j:Int) by omega];exact IntWalk.u8_in _ (by omega)
 have iv:IntKind.u8.wrap (j:Int)=(j:Int):=IntWalk.u8_in _ (by omega);have d1:decide ((j:Int)+1<1)=false:=by simp;omega
 have d2:decide ((16:Int)<(j:Int)+1)=false:=by simp;omega
 have d3:decide (at_<0)=false:=by simp;omega
 go_enter func169,ntmps169;go_upto_region 2 with(go_at_call 204;refine(K1 _).mono ?_;rintro e w2 ⟨rfl,dL,hb⟩;have fk:=AA (HC.o.below hb);have aI:=bt aM hb;have bK:=AA dL;clear dL hb)
 obtain⟨b,o,b8,al,ao⟩:=bK.o.elem oa.o;have lj:b=w.heap.size+1∧o=0:=by injection b8 with h1;injection h1 with h1 h2;exact⟨by rw [←h1];simp,h2.symm⟩
 obtain⟨rfl,rfl⟩:=lj;have r0:w2.cell? ⟨w.heap.size+1,j * 2,none⟩=some (.int .i64 kd):=by simpa using ao 0 _ rfl
 have r1:w2.cell? ⟨w.heap.size+1,j * 2+1,none⟩=some (.string s):=by simpa using ao 1 _ rfl
 have HN:Hd (Qv w (w2.alloc (.cells #[.int .i64 kd,.string s] 244)) w2.heap.size ⟨(j:Int)+1,op,at_,m,name,arg,exn⟩ p n c kd s):=AA ⟨fk.o.below bA,by rw [AU];rfl,by rw [AU];rfl,aI.o.alloc aI.o.size _⟩;obtain⟨q0,q1,q2,q3,q4,q5,q6,q7⟩:=fk.o;clear b8 al ao;go_upto_region 5 with fail;generalize w2.alloc (.cells #[.int .i64 kd,.string s] 244)=W1 at *
 clear q0 q1 q2 q3 q4 q5 q6 q7 r0 r1;obtain⟨⟨q0,q1,q2,q3,q4,q5,q6,q7⟩,r0,r1,am⟩:=HN.o;go_cut [5] from 33 to 42 (fun s5 wx=>s5=.bool (TJ op)∧wx=W1)
 case first=>
  by_cases o1:1≤op
  ·have e1:decide (op≥1)=true:=by simpa using o1
   by_cases o5:op≤5
   ·have e2:decide (op≤5)=true:=by simpa using o5
    have HB:Hd (TJ op=true):=by show _=_;simp [TJ,o1,o5]
    clear o1 o5;go_wp2_with fail;go_meet
    case rel=>exact⟨by rw [HB.o],rfl⟩
   ·have e2:decide (op≤5)=false:=by simpa using o5
    have HB:Hd (TJ op=false):=by show _=_;simp [TJ,o5]
    clear o1 o5;go_wp2_with fail;go_meet
    case rel=>exact⟨by rw [HB.o],rfl⟩
  ·have e1:decide (op≥1)=false:=by simpa using o1
   have HB:Hd (TJ op=false):=by show _=_;simp [TJ,o1]
   clear o1;go_wp2_with fail;go_meet
   case rel=>exact⟨by rw [HB.o],rfl⟩
 case rest=>
  obtain⟨rfl,rfl⟩:=hcut;generalize TJ op=B5 at *
  have HasO:=AA (fun w=>Ic (k:=kd) (s:=s) (x:=111) rfl kA w);have HasN:=AA (fun w=>Ic (k:=kd) (s:=s) (x:=110) rfl kA w);generalize Ed s 111=O at *
  generalize Ed s 110=N at *
  by_cases io:(n:Int)=kd
  ·have f1:((n:Int) != kd)=false:=by simpa using io
   have f2:decide ((n:Int)=kd)=true:=by simpa using io
   have iV:=AA f1;clear io;go_upto_region 7 with fail;go_cut [43] from 50 to 66 (fun s43 wx=>s43=.bool (O&&!B5||!O&&(op != 0))∧Qv w wx w2.heap.size ⟨(j:Int)+1,op,at_,m,name,arg,exn⟩ p n c kd s)
   case first=>
    cases O
    ·by_cases o0:op=0
     ·have e0:(op != 0)=false:=by simpa using o0
      have HB:=AA e0;clear o0;go_wp2_with (go_at_call 205;refine(HasO.o _).mono ?_;rintro e w8 ⟨rfl,hb⟩;have HN:=AA (HN.o.drop hb);clear hb q0 q1 q2 q3 q4 q5 q6 q7 r0 r1 am;obtain⟨⟨q0,q1,q2,q3,q4,q5,q6,q7⟩,r0,r1,am⟩:=HN.o);go_meet
      case rel=>exact⟨by rw [HB.o];rfl,HN.o⟩
     ·have e0:(op != 0)=true:=by simpa using o0
      have HB:=AA e0;clear o0;go_wp2_with (go_at_call 205;refine(HasO.o _).mono ?_;rintro e w8 ⟨rfl,hb⟩;have HN:=AA (HN.o.drop hb);clear hb q0 q1 q2 q3 q4 q5 q6 q7 r0 r1 am;obtain⟨⟨q0,q1,q2,q3,q4,q5,q6,q7⟩,r0,r1,am⟩:=HN.o);go_meet
      case rel=>exact⟨by rw [HB.o];rfl,HN.o⟩
    ·cases B5
     ·go_wp2_with (go_at_call 205;refine(HasO.o _).mono ?_;rintro e w8 ⟨rfl,hb⟩;have HN:=AA (HN.o.drop hb);clear hb q0 q1 q2 q3 q4 q5 q6 q7 r0 r1 am;obtain⟨⟨q0,q1,q2,q3,q4,q5,q6,q7⟩,r0,r1,am⟩:=HN.o);go_meet
      case rel=>exact⟨rfl,HN.o⟩
     ·go_wp2_with (go_at_call 205;refine(HasO.o _).mono ?_;rintro e w8 ⟨rfl,hb⟩;have HN:=AA (HN.o.drop hb);clear hb q0 q1 q2 q3 q4 q5 q6 q7 r0 r1 am;obtain⟨⟨q0,q1,q2,q3,q4,q5,q6,q7⟩,r0,r1,am⟩:=HN.o);go_meet
      case rel=>exact⟨rfl,HN.o⟩
   case rest=>
    obtain⟨rfl,ml⟩:=hcut;have eJ:=AA ml;clear ml q0 q1 q2 q3 q4 q5 q6 q7 r0 r1 am;obtain⟨⟨q0,q1,q2,q3,q4,q5,q6,q7⟩,r0,r1,am⟩:=eJ.o;generalize jV:(O&&!B5||!O&&(op != 0))=B7 at *
    have mF:=AA jV;clear jV;cases B7
    ·go_upto_region 9 with fail;have HN:=eJ;go_cut [67] from 68 to 88 (fun s67 wx=>s67=.bool (decide (m<0)||decide (m > 2147483647)||!N&&(m != 0))∧Qv w wx w2.heap.size ⟨(j:Int)+1,op,at_,m,name,arg,exn⟩ p n c kd s)
     case first=>
      by_cases m0:m<0
      ·have e0:decide (m<0)=true:=by simpa using m0
       have HB:=AA e0;clear m0;go_wp2_with fail;go_meet
       case rel=>exact⟨by rw [HB.o];rfl,HN.o⟩
      ·have e0:decide (m<0)=false:=by simpa using m0
       have HB:=AA e0;by_cases m1:m > 2147483647
       ·have e1:decide (m > 2147483647)=true:=by simpa using m1
        have aO:=AA e1;clear m0 m1;go_wp2_with fail;go_meet
        case rel=>exact⟨by rw [HB.o,aO.o];rfl,HN.o⟩
       ·have e1:decide (m > 2147483647)=false:=by simpa using m1
        have aO:=AA e1;clear m0 m1;cases N
        ·by_cases mz:m=0
         ·have e2:(m != 0)=false:=by simpa using mz
          have gj:=AA e2;clear mz;go_wp2_with (go_at_call 205;refine(HasN.o _).mono ?_;rintro e w8 ⟨rfl,hb⟩;have HN:=AA (HN.o.drop hb);clear hb q0 q1 q2 q3 q4 q5 q6 q7 r0 r1 am;obtain⟨⟨q0,q1,q2,q3,q4,q5,q6,q7⟩,r0,r1,am⟩:=HN.o);go_meet
          case rel=>exact⟨by rw [HB.o,aO.o,gj.out];rfl,HN.o⟩
         ·have e2:(m != 0)=true:=by simpa using mz
          have gj:=AA e2;clear mz;go_wp2_with (go_at_call 205;refine(HasN.o _).mono ?_;rintro e w8 ⟨rfl,hb⟩;have HN:=AA (HN.o.drop hb);clear hb q0 q1 q2 q3 q4 q5 q6 q7 r0 r1 am;obtain⟨⟨q0,q1,q2,q3,q4,q5,q6,q7⟩,r0,r1,am⟩:=HN.o);go_meet
          case rel=>exact⟨by rw [HB.o,aO.o,gj.out];rfl,HN.o⟩
        ·go_wp2_with (go_at_call 205;refine(HasN.o _).mono ?_;rintro e w8 ⟨rfl,hb⟩;have HN:=AA (HN.o.drop hb);clear hb q0 q1 q2 q3 q4 q5 q6 q7 r0 r1 am;obtain⟨⟨q0,q1,q2,q3,q4,q5,q6,q7⟩,r0,r1,am⟩:=HN.o);go_meet
         case rel=>exact⟨by rw [HB.o,aO.o];rfl,HN.o⟩
     case rest=>
      obtain⟨rfl,mm⟩:=hcut;have HN:=AA mm;clear mm q0 q1 q2 q3 q4 q5 q6 q7 r0 r1 am;obtain⟨⟨q0,q1,q2,q3,q4,q5,q6,q7⟩,r0,r1,am⟩:=HN.o;generalize mr:(decide (m<0)||decide (m > 2147483647)||!N&&(m != 0))=B9 at *
      have pp:=AA mr;clear mr;cases B9
      ·have oc:=AA (fun(W:World) (hb:Below w.heap.size w W)=>EI (fid:=207) (q:=Bo) (fun args w=>by kernel_rfl) kd s 109 name kA (MC (HV.o.below hb)));have dv:=AA (fun(W:World) (hb:Below w.heap.size w W)=>EI (fid:=207) (q:=Bo) (fun args w=>by kernel_rfl) kd s 97 arg kA (MC (HV.o.below hb)));have lR:=AA (fun(W:World) (hb:Below w.heap.size w W)=>EI (fid:=174) (q:=Cg) (fun args w=>by kernel_rfl) kd s 101 exn kA (Tg W));have cI:=AA (show Bp ⟨(j:Int)+1,op,at_,m,name,arg,exn⟩ n=(Dp (Ed s 109) Bo name&&Dp (Ed s 97) Bo arg&&Dp (Ed s 101) Cg exn) by rw [HR.o,iV.o];simp);generalize Dp (Ed s 109) Bo name=F1 at *
       generalize Dp (Ed s 97) Bo arg=F2 at *
       generalize Dp (Ed s 101) Cg exn=F3 at *
       have HX:=oc;have HY:=dv;have HZ:=lR;go_upto_region 11 with fail;cases F1
       ·go_wp2_with (go_at_call 206;refine(HX.o _ am).mono ?_;rintro e w8 ⟨rfl,hb⟩;have HN:=AA (HN.o.drop hb);clear hb q0 q1 q2 q3 q4 q5 q6 q7 r0 r1 am;obtain⟨⟨q0,q1,q2,q3,q4,q5,q6,q7⟩,r0,r1,am⟩:=HN.o;have HX:=HY;have HY:=HZ);go_ret;exact⟨AE (by rw [cI.o];rfl),am⟩
       ·cases F2
        ·go_wp2_with (go_at_call 206;refine(HX.o _ am).mono ?_;rintro e w8 ⟨rfl,hb⟩;have HN:=AA (HN.o.drop hb);clear hb q0 q1 q2 q3 q4 q5 q6 q7 r0 r1 am;obtain⟨⟨q0,q1,q2,q3,q4,q5,q6,q7⟩,r0,r1,am⟩:=HN.o;have HX:=HY;have HY:=HZ);go_ret;exact⟨AE (by rw [cI.o];rfl),am⟩
        ·go_wp2_with (go_at_call 206;refine(HX.o _ am).mono ?_;rintro e w8 ⟨rfl,hb⟩;have HN:=AA (HN.o.drop hb);clear hb q0 q1 q2 q3 q4 q5 q6 q7 r0 r1 am;obtain⟨⟨q0,q1,q2,q3,q4,q5,q6,q7⟩,r0,r1,am⟩:=HN.o;have HX:=HY;have HY:=HZ);go_ret;exact⟨AE (by rw [cI.o];rfl),am⟩
      ·go_wp2_with fail;go_ret;exact⟨AE (by rw [HR.o];simp),am⟩
    ·go_wp2_with fail;go_ret;exact⟨AE (by rw [HR.o,iV.o];simp),am⟩
  ·have f1:((n:Int) != kd)=true:=by simpa using io
   have f2:decide ((n:Int)=kd)=false:=by simpa using io
   have iV:=AA f1;clear io;go_wp2_with fail;go_ret;exact⟨AE (by rw [HR.o,iV.o];simp),am⟩
theorem Lj(h:BY)(bC:0≤h.kind)(cZ:h.kind≤255)(p:Option Addr)(n c:Nat)(hn:n≤1000000)(w:World)(hv:Vr w):Calls prog 169 #[Nc h p n c] w (RB w (.bool (Bp h n))):=by
 by_cases hk:h.kind<1∨16<h.kind∨h.at_<0
 ·exact Lk h p n c bC cZ w hk
 ·obtain⟨k,op,at_,m,name,arg,exn⟩:=h;simp only [not_or] at hk;obtain⟨j,hj⟩:∃j:Nat,k=(j:Int)+1:=⟨(k-1).toNat,by omega⟩;subst hj;exact K7 j (by omega) op at_ m name arg exn p n c hn (by omega) w hv
theorem FG(a:AH):(Bg a).length=19:=rfl
theorem C5:∀a:AH,∀u∈Bg a,u.oneCell'=true:=by intro a u hu;simp [Bg] at hu;rcases hu with rfl|rfl|rfl|rfl|rfl|rfl|rfl|rfl|rfl|rfl|rfl|rfl|rfl|rfl|rfl|rfl|rfl|rfl|rfl<;>rfl
abbrev Vq:Value:=.agg #[.int .u8 0,.int .u8 0,.int .i64 0,.int .i64 0,.string .empty,.string .empty,.string .empty,.int .i64 0,.slice none 0 0,.slice none 0 0,.int .u8 0,.int .i64 0,.slice none 0 0,.slice none 0 0,.int .u8 0,.int .i64 0,.slice none 0 0,.slice none 0 0,.slice none 0 0]
theorem Mo:(prog.info? 31).map (fun i=>(i.zero,i.size,i.bytes))=some (some Vq,19,280):=by kernel_rfl
theorem Df(t:PA):(AD.nodes t).length=t.size:=by refine AD.ind (P:=fun(t:PA)=>(AD.nodes t).length=t.size) (fun a l ih=>?_) t;rw [AD.nodes_node,AD.size_node,List.length_cons,List.length_flatten,List.map_map];have:l.map (List.length ∘ AD.nodes)=l.map AD.size:=List.map_congr_left ih;rw [this];omega
def Ak(l:List PA)(k:Nat):List AH:=((l.take k).map AD.nodes).flatten
theorem EP{l:List PA}{k:Nat}{x:PA}(h:l[k]?=some x):Ak l (k+1)=Ak l k++AD.nodes x:=by unfold Ak;rw [AJ h,List.map_append,List.flatten_append];simp
theorem Oh{l:List PA}{k:Nat}:((l.take k).map AD.size).sum≤(l.map AD.size).sum:=by
 induction k generalizing l with
 |zero=>simp
 |succ k ih=>cases l with
  |nil=>simp
  |cons y l=>have:=ih (l:=l);simp only [List.take_succ_cons,List.map_cons,List.sum_cons] at this ⊢;omega
theorem GU(l:List PA)(k:Nat):(Ak l k).length=((l.take k).map AD.size).sum:=by unfold Ak;rw [List.length_flatten,List.map_map];congr 1;exact List.map_congr_left (fun t _=>Df t)
theorem Rm{a:AH}{l:List PA}{k:Nat}{x:PA}(h:l[k]?=some x):a::(Ak l k++AD.nodes x)=a::Ak l (k+1):=by rw [EP h]
def QS(t:PA)(w:World):Prop:=Calls prog 26 #[An t.head] w fun e w'=>(∃p c,e=.returned (.slice p t.size c)∧AI Bg 19 w' w.heap.size 31 (.slice p t.size c) t.size (AD.nodes t))∧Below w.heap.size w w'
theorem M0{a:AH}{l:List PA}{w:World}(hN:Dl w a l)(hs:(AD.node a l).size≤1000)(hf:∀x∈l,∀W,Below w.heap.size w W→QS x W):QS (.node a l) w:=by
 have HN:=AA hN;have HF:=AA hf;have HS:=AA hs;have fd:=hN.own.kmax;have HA:=AA (Ah w a);have aM:=AA ((Below.refl w.heap.size w).alloc (Nat.le_refl _) (AO a));have d8:=AA (Km FG (w.alloc (AO a)) (w.heap.size+1) 31 [a] 1 #[.int .u8 a.kind,.int .u8 a.op,.int .i64 a.at_,.int .i64 a.n,.string a.name,.string a.arg,.string a.exn,.int .i64 a.rho,.slice a.rp a.rn a.rc,.slice a.ep a.en a.ec,.int .u8 a.ty.head.kind,.int .i64 a.ty.head.rho,.slice a.ty.head.ep a.ty.head.en a.ty.head.ec,.slice a.ty.head.kp a.ty.head.kn a.ty.head.kc,.int .u8 a.res.head.kind,.int .i64 a.res.head.rho,.slice a.res.head.ep a.res.head.en a.res.head.ec,.slice a.res.head.kp a.res.head.kn a.res.head.kc,.slice a.kp a.kn a.kc] rfl rfl (by decide) (by simp));show Calls _ _ #[An a] w _;clear hN hf hs;go_enter func26,ntmps26;go_wp2_with (refine lw (HA.o.blk) underlying31 ?_);have kq:=AA (HA.o.below ((Below.refl (w.alloc (AO a)).heap.size (w.alloc (AO a))).alloc (Nat.le_refl _) (.cells #[.int .u8 a.kind,.int .u8 a.op,.int .i64 a.at_,.int .i64 a.n,.string a.name,.string a.arg,.string a.exn,.int .i64 a.rho,.slice a.rp a.rn a.rc,.slice a.ep a.en a.ec,.int .u8 a.ty.head.kind,.int .i64 a.ty.head.rho,.slice a.ty.head.ep a.ty.head.en a.ty.head.ec,.slice a.ty.head.kp a.ty.head.kn a.ty.head.kc,.int .u8 a.res.head.kind,.int .i64 a.res.head.rho,.slice a.res.head.ep a.res.head.en a.res.head.ec,.slice a.res.head.kp a.res.head.kn a.res.head.kc,.slice a.kp a.kn a.kc] 31)));have aI:=AA (aM.o.alloc aM.o.size (.cells #[.int .u8 a.kind,.int .u8 a.op,.int .i64 a.at_,.int .i64 a.n,.string a.name,.string a.arg,.string a.exn,.int .i64 a.rho,.slice a.rp a.rn a.rc,.slice a.ep a.en a.ec,.int .u8 a.ty.head.kind,.int .i64 a.ty.head.rho,.slice a.ty.head.ep a.ty.head.en a.ty.head.ec,.slice a.ty.head.kp a.ty.head.kn a.ty.head.kc,.int .u8 a.res.head.kind,.int .i64 a.res.head.rho,.slice a.res.head.ep a.res.head.en a.res.head.ec,.slice a.res.head.kp a.res.head.kn a.res.head.kc,.slice a.kp a.kn a.kc] 31));have aL:((w.alloc (AO a)).alloc (.cells #[.int .u8 a.kind,.int .u8 a.op,.int .i64 a.at_,.int .i64 a.n,.string a.name,.string a.arg,.string a.exn,.int .i64 a.rho,.slice a.rp a.rn a.rc,.slice a.ep a.en a.ec,.int .u8 a.ty.head.kind,.int .i64 a.ty.head.rho,.slice a.ty.head.ep a.ty.head.en a.ty.head.ec,.slice a.ty.head.kp a.ty.head.kn a.ty.head.kc,.int .u8 a.res.head.kind,.int .i64 a.res.head.rho,.slice a.res.head.ep a.res.head.en a.res.head.ec,.slice a.res.head.kp a.res.head.kn a.res.head.kc,.slice a.kp a.kn a.kc] 31)).heap.size=w.heap.size+2:=by simp
 have dM:(w.alloc (AO a)).heap.size=w.heap.size+1:=by simp
 rw [dM] at d8;generalize (w.alloc (AO a)).alloc (AO a)=W2 at *
 clear dM;go_loopw [3,10] (fun u i wr=>∃(k:Nat) (p:Option Addr) (c:Nat),k≤a.kn∧i=.int .i64 k∧u=.slice p (1+(Ak l k).length) c∧AI Bg 19 wr (w.heap.size+1) 31 u (1+(Ak l k).length) (a::Ak l k)∧CW wr w.heap.size a∧Below w.heap.size w wr) (fun _ i _=>a.kn-(intOf i).toNat)
 case atStart=>exact⟨0,some ⟨w.heap.size+1,0,none⟩,1,by omega,rfl,rfl,d8.o,kq.o,aI.o⟩
 case round=>
  obtain⟨k,p,c,hk,rfl,rfl,aD,af,hb⟩:=hrel;have aS:=AA aD;have eI:=AA af;have HB:=AA hb;clear aD af hb;have q18:wr.cell? ⟨w.heap.size,18,none⟩=some (.slice a.kp a.kn a.kc):=eI.o.c 18 _ rfl;by_cases aG:k<a.kn
  ·obtain⟨x,hx⟩:=(HN.o.rowT).at (j:=k) aG;have HE:=AA hx;obtain⟨b,o,b8,al,ao⟩:=(HN.o.rowT.below HB.o).kid hx;have dE:=AA ao;rw [b8] at q18;clear hx al b8 ao
   have fp:=AA (show 1+(Ak l k).length+x.size≤1000 by
    have h1:=congrArg List.length (EP HE.o);rw [List.length_append,Df,GU l (k+1)] at h1;have h2:=Oh (l:=l) (k:=k+1);have h3:=HS.o;rw [AD.size_node] at h3;omega)
   go_wp2_with (refine lm (Bg x.head) dE.o.c underlying31 ?_);refine Calls.mono (HF.o x (List.mem_of_getElem? HE.o) wr HB.o) ?_;rintro e w2 ⟨⟨p2,c2,rfl,bw⟩,hb⟩;have fC:=AA (aS.o.below hb);have aO:=bt HB hb;have gm:=AA (eI.o.below hb);obtain⟨q,cc,hv,aB⟩:=bw.isRow FG (by omega);cases hv;have bK:=AA aB;have nR:w.heap.size+1≤w2.heap.size:=by have:=(Array.getElem?_eq_some_iff.1 gm.o.blk).1;omega
   have oQ:=AA nR;clear bw aB hb nR q18;go_wp2_with (at_builtin;refine Cx rfl _ _ 29 rfl (w.heap.size+1) 31 Vq 19 280 underlying29 Mo rfl (by decide) Bg FG C5 (AD.nodes x) (a::Ak l k) (1+(Ak l k).length) _ fC.o _ x.size _ rfl rfl bK.o.len bK.o.nil bK.o.row ?c1 ?c2 ?c3 ?_)
   case c1=>have:=fp.o;omega
   case c2=>have:=fp.o;omega
   case c3=>exact oQ.o
   ·intro v3 w3 aE aP;obtain⟨p3,c3,rfl,ab⟩:=AI.isRow FG (by omega) aE;have cw:∀g,(Value.slice p (1+(Ak l k).length) c).ownBlock=some g→w.heap.size+1≤g:=fun g hg=>(World.ownsRow.lt fC.o g hg).1;have aT:=AA (aO.o.grown aP aO.o.size (fun g hg=>by have:=cw g hg;omega));have kw:Hd (CW w3 w.heap.size a):=⟨by rw [aP.block w.heap.size (Array.getElem?_eq_some_iff.1 gm.o.blk).1 (fun e=>by have:=cw _ e.symm;omega)];exact gm.o.blk⟩;have lA:Hd (1+(Ak l k).length+x.size=1+(Ak l (k+1)).length):=by show _=_;rw [EP HE.o,List.length_append,Df];omega
    rw [Rm HE.o,lA.o] at aE;have ee:=AA aE;clear aE aP cw ab;go_wp2_with fail;go_roundw
    case rel=>exact⟨k+1,p3,c3,by omega,by go_num,by rw [lA.o],by rw [lA.o];exact ee.o,kw.o,aT.o⟩
    case measure=>simp [intOf];omega
  ·have bV:k=a.kn:=by omega
   have bc:l.take k=l:=AY (by rw [bV,HN.o.kids.len];exact Nat.le_refl _);have bj:Hd (1+(Ak l k).length=(AD.node a l).size):=by show _=_;rw [GU,bc,AD.size_node]
   have oT:Hd (a::Ak l k=AD.nodes (AD.node a l)):=by show _=_;rw [AD.nodes_node];unfold Ak;rw [bc]
   clear bV bc;go_wp2_with fail;go_ret;refine⟨⟨p,c,by rw [←bj.o];rfl,?_⟩,HB.o⟩;have h:=aS.o;rw [oT.o,bj.o] at h;exact h.lower (Nat.le_succ _)
theorem OA(l:List PA):l.length≤(l.map AD.size).sum:=by
 induction l with
 |nil=>simp
 |cons x l ih=>have:=AD.size_pos x;simp only [List.length_cons,List.map_cons,List.sum_cons];omega
theorem Qy(t:PA):∀w,LA.lies w t→t.size≤1000→QS t w:=by refine AD.ind (P:=fun(t:PA)=>∀w,LA.lies w t→t.size≤1000→QS t w) (fun a l ih=>?_) t;intro w hl hs;have HN:=Cb hl;refine M0 HN hs (fun x hx W hW=>ih x hx W (LA.lies_below hW x (HN.each x hx)) ?_);have h1:=hs;rw [AD.size_node] at h1;have h2:x.size≤(l.map AD.size).sum:=Ay (List.mem_map_of_mem hx);omega
def AN{α σ:Type}(st:α→σ→Bool×σ):List α→σ→Bool×σ
 |[],s=>(true,s)
 |a::l,s=>if(st a s).1 then AN st l (st a s).2 else(false,(st a s).2)
theorem D7{α σ:Type}(st:α→σ→Bool×σ):∀(l m:List α) (s:σ),AN st (l++m) s=if(AN st l s).1 then AN st m (AN st l s).2 else AN st l s
 |[],m,s=>by simp [AN]
 |a::l,m,s=>by
  have e:∀n,AN st (a::n) s=if(st a s).1 then AN st n (st a s).2 else(false,(st a s).2):=fun _=>rfl;rw [List.cons_append,e,e];by_cases h:(st a s).1=true
  ·simp only [h,if_true];exact D7 st l m _
  ·simp [h]
def AX(l:List PA):List AH:=(l.map AD.nodes).flatten
theorem My(l:List PA)(k:Nat):AX l=Ak l k++AX (l.drop k):=by unfold AX Ak;rw [←List.flatten_append,←List.map_append,List.take_append_drop]
theorem Eh(x:PA):AD.nodes x=x.head::AX x.kids:=by cases x;rw [AD.nodes_node];rfl
theorem Qs{σ:Type}(st:AH→σ→Bool×σ)(s:σ){l:List PA}{k:Nat}{x:PA}(h:l[k]?=some x)(hb:(AN st (Ak l k) s).1=true):AN st (Ak l (k+1)) s=if(st x.head (AN st (Ak l k) s).2).1 then AN st (AX x.kids) (st x.head (AN st (Ak l k) s).2).2 else(false,(st x.head (AN st (Ak l k) s).2).2):=by rw [EP h,D7,if_pos hb,Eh];rfl
theorem J6{σ:Type}(st:AH→σ→Bool×σ)(s:σ)(l:List PA)(k:Nat)(hb:(AN st (Ak l k) s).1=false):AN st (AX l) s=AN st (Ak l k) s:=by rw [My l k,D7,if_neg (by rw [hb];exact Bool.false_ne_true)]
theorem Tf(l:List PA)(k:Nat)(h:l.length≤k):Ak l k=AX l:=by unfold Ak AX;rw [List.take_of_length_le h]
structure Vu(w0:World)(row:Option Nat)(g:Nat)(lb:Array Value){σ:Type}(Inv:σ→World→Prop)(ok:AH→Prop)(st:AH→σ→Bool×σ):Prop where
 eg:∀args w,(callFunc g args).run prog w=.ok (.enter g args) w
 hb:∀b,row=some b→w0.heap.size≤b
 lt:∀b,row=some b→∀s W,Inv s W→b<W.heap.size
 inv:∀s W W',Inv s W→Below W.heap.size W W'→Inv s W'
 call:∀a s W,ok a→Below w0.heap.size w0 W→Inv s W→Calls prog g (#[An a]++lb) W fun e w'=>e=.returned (.bool (st a s).1)∧Inv (st a s).2 w'∧W.grownBy w' row
def J9(w0:World)(row:Option Nat)(g:Nat)(lb:Array Value){σ:Type}(Inv:σ→World→Prop)(ok:AH→Prop)(st:AH→σ→Bool×σ)(l:List PA):Prop:=∀p n c,C7 w0 p n c l→(∀a∈AX l,ok a)→∀s W,Below w0.heap.size w0 W→Inv s W→Calls prog 59 #[.func (.func g) #[] lb,.slice p n c] W fun e w'=>e=.returned (.bool (AN st (AX l) s).1)∧Inv (AN st (AX l) s).2 w'∧W.grownBy w' row
theorem Fb{l:List PA}{x:PA}(hx:x∈l){a:AH}(ha:a∈AD.nodes x):a∈AX l:=List.mem_flatten.2 ⟨_,List.mem_map_of_mem hx,ha⟩
theorem QT{w:World}{x:PA}(h:LA.lies w x):C7 w x.head.kp x.head.kn x.head.kc x.kids:=by cases x;exact(Cb h).rowT
theorem G1{w0:World}{row:Option Nat}{g:Nat}{lb:Array Value}{σ:Type}{Inv:σ→World→Prop}{ok:AH→Prop}{st:AH→σ→Bool×σ}(F:Vu w0 row g lb Inv ok st)(l:List PA)(ih:∀x∈l,J9 w0 row g lb Inv ok st x.kids):J9 w0 row g lb Inv ok st l:=by
 intro p n c hR ax s W gR dj;have eg:=F.eg;have HF:=AA F;have HI:=AA ih;have HR:=AA hR;have cu:=AA ax;have cG:=AA gR;have HV:=AA dj;have iQ:n≤9223372036854775807:=hR.row.max;clear F ih hR ax gR dj;go_enter func59,ntmps59;go_wp2_with fail;go_loopw [9] (fun i wr=>∃(k:Nat) (S:Bool×σ),k≤n∧i=.int .i64 k∧Hd (AN st (Ak l k) s=S)∧S.1=true∧Inv S.2 wr∧W.grownBy wr row) (fun i _=>n-(intOf i).toNat)
 case atStart=>exact⟨0,(true,s),by omega,rfl,AA rfl,rfl,HV.o,World.grownBy.refl _ _⟩
 case round=>
  obtain⟨k,S,hk,rfl,HS,hs,gW,hg⟩:=hrel;have ed:=AA gW;have HG:=AA hg;have au:=AA hs;have HB:=AA (cG.o.grown hg cG.o.size HF.o.hb);clear gW hg hs;by_cases aG:k<n
  ·obtain⟨x,hx⟩:=HR.o.at (j:=k) aG;obtain⟨b,o,b8,al,ao⟩:=(HR.o.below HB.o).kid hx;obtain⟨a,m,mB⟩:∃a m,x=AD.node a m:=⟨x.head,x.kids,AD.eta x⟩;subst mB;have dE:=AA (show Fx wr b (o+k * 19) a from ao);subst b8;have hE:=List.mem_of_getElem? hx;have eV:=AA (show J9 w0 row g lb Inv ok st m from HI.o _ hE);have jA:=AA (show C7 w0 a.kp a.kn a.kc m from QT (HR.o.lies hx));have gK:=AA (show ∀a'∈AX m,ok a' from fun a' ha=>cu.o a' (Fb hE (by rw [Eh];exact List.mem_cons_of_mem _ ha)));have dl:ok a:=cu.o a (Fb hE (by rw [Eh];exact List.mem_cons_self))
   have bf:=AA (show AN st (Ak l (k+1)) s=if(st a S.2).1 then AN st (AX m) (st a S.2).2 else(false,(st a S.2).2) by
    have h:=Qs st s hx (by rw [HS.o];exact au.o);rw [HS.o] at h;exact h)
   clear hx al ao hE;have aM:=AA (Ah wr a);have bD:Below wr.heap.size wr (wr.alloc (AO a)):=bA;have aO:=bt HB bD;have fB:=AA (HF.o.inv _ _ _ ed.o bD);have az:=AA (HF.o.call a S.2 _ dl aO.o fB.o);have ey:=AA (HG.o.trans ((World.grownBy_alloc wr (AO a) row)));clear bD dl;have gQ:(wr.alloc (.cells #[.int .u8 0,.int .u8 0,.int .i64 0,.int .i64 0,.string ⟨#[]⟩,.string ⟨#[]⟩,.string ⟨#[]⟩,.int .i64 0,.slice none 0 0,.slice none 0 0,.int .u8 0,.int .i64 0,.slice none 0 0,.slice none 0 0,.int .u8 0,.int .i64 0,.slice none 0 0,.slice none 0 0,.slice none 0 0] 31)).heap[wr.heap.size]?=some (.cells #[.int .u8 0,.int .u8 0,.int .i64 0,.int .i64 0,.string ⟨#[]⟩,.string ⟨#[]⟩,.string ⟨#[]⟩,.int .i64 0,.slice none 0 0,.slice none 0 0,.int .u8 0,.int .i64 0,.slice none 0 0,.slice none 0 0,.int .u8 0,.int .i64 0,.slice none 0 0,.slice none 0 0,.slice none 0 0] 31 (0,0)):=heap_alloc_new wr _;have bd:=AA gQ;clear gQ;cases hq:(st a S.2).1 with
   |false=>
    rw [hq] at az bf;have HQ:=AA hq;clear hq
    go_wp2_with (first
     |(refine lm (Bg a) dE.o.c underlying31 ?_)
     |(refine wpList_store_row rfl 31 _ _ rfl wr.heap.size (Bg a).toArray rfl rfl 31 _ bd.o (by kernel_rfl) rfl (all_oneCell_toArray (C5 a)) ?_;rw [World.setRow_alloc_new])
     |(refine lw aM.o.blk underlying31 ?_)
     |(go_at_fn g;refine az.o.mono ?_;rintro e w2 ⟨rfl,bU,ai⟩;have bi:=AA bU;have cz:=AA (ey.o.trans ai);clear bU ai))
    go_ret;have a6:AN st (AX l) s=(false,(st a S.2).2):=by rw [J6 st s l (k+1) (by rw [bf.o];rfl),bf.o];rfl
    exact⟨AE (by rw [a6]),by rw [a6];exact bi.o,cz.o⟩
   |true=>
    rw [hq] at az bf;have HQ:=AA hq;clear hq;have HM:=AA (HF.o.hb);have q18:∀w2,(wr.alloc (AO a)).grownBy w2 row→Inv (st a S.2).2 w2→w2.cell? ⟨wr.heap.size,18,none⟩=some (.slice a.kp a.kn a.kc)∧Below w0.heap.size w0 w2:=fun w2 ai bU=>⟨ai.cell (a:=⟨wr.heap.size,18,none⟩) (aM.o.c 18 _ rfl) (fun e=>by have:=HF.o.lt _ e.symm _ _ ed.o;exact Nat.lt_irrefl _ this),aO.o.grown ai aO.o.size HM.o⟩;have db:=AA q18;clear q18;cases dK:(AN st (AX m) (st a S.2).2).1 with
    |false=>
     have cX:=AA dK;clear dK
     go_wp2_with (first
      |(refine lm (Bg a) dE.o.c underlying31 ?_)
      |(refine wpList_store_row rfl 31 _ _ rfl wr.heap.size (Bg a).toArray rfl rfl 31 _ bd.o (by kernel_rfl) rfl (all_oneCell_toArray (C5 a)) ?_;rw [World.setRow_alloc_new])
      |(refine lw aM.o.blk underlying31 ?_)
      |(first|(go_at_fn g;refine az.o.mono ?_;rintro e w2 ⟨rfl,bU,ai⟩;obtain⟨c18,aj⟩:=db.o _ ai bU;have bi:=AA bU;have cz:=AA (ey.o.trans ai);have aI:=AA aj;clear bU ai aj)|(go_at_call 59;refine(eV.o _ _ _ jA.o gK.o _ _ aI.o bi.o).mono ?_;rw [cX.o];rintro e w3 ⟨rfl,di,aP⟩;have bq:=AA di;have eR:=AA (cz.o.trans aP);clear di aP)))
     go_ret;have a6:AN st (AX l) s=AN st (AX m) (st a S.2).2:=by rw [J6 st s l (k+1) (by rw [bf.o];exact cX.o),bf.o];rfl
     exact⟨AE (by rw [a6,cX.o]),by rw [a6];exact bq.o,eR.o⟩
    |true=>
     have cX:=AA dK;clear dK
     go_wp2_with (first
      |(refine lm (Bg a) dE.o.c underlying31 ?_)
      |(refine wpList_store_row rfl 31 _ _ rfl wr.heap.size (Bg a).toArray rfl rfl 31 _ bd.o (by kernel_rfl) rfl (all_oneCell_toArray (C5 a)) ?_;rw [World.setRow_alloc_new])
      |(refine lw aM.o.blk underlying31 ?_)
      |(first|(go_at_fn g;refine az.o.mono ?_;rintro e w2 ⟨rfl,bU,ai⟩;obtain⟨c18,aj⟩:=db.o _ ai bU;have bi:=AA bU;have cz:=AA (ey.o.trans ai);have aI:=AA aj;clear bU ai aj)|(go_at_call 59;refine(eV.o _ _ _ jA.o gK.o _ _ aI.o bi.o).mono ?_;rw [cX.o];rintro e w3 ⟨rfl,di,aP⟩;have bq:=AA di;have eR:=AA (cz.o.trans aP);clear di aP)))
     go_roundw
     case rel=>exact⟨k+1,_,by omega,by go_num,bf,by show (AN st (AX m) (st a S.2).2).1=true;exact cX.o,bq.o,eR.o⟩
     case measure=>simp [intOf];omega
  ·have bV:k=n:=by omega
   have bc:Ak l k=AX l:=Tf l k (by rw [HR.o.row.len,bV];exact Nat.le_refl _);rw [bc] at HS;go_wp2_with fail;go_ret;exact⟨AE (by rw [HS.o,au.o]),by rw [HS.o];exact ed.o,HG.o⟩
theorem GD{w0:World}{row:Option Nat}{g:Nat}{lb:Array Value}{σ:Type}{Inv:σ→World→Prop}{ok:AH→Prop}{st:AH→σ→Bool×σ}(F:Vu w0 row g lb Inv ok st)(l:List PA):J9 w0 row g lb Inv ok st l:=G1 F l (fun x _=>AD.ind (P:=fun(x:PA)=>J9 w0 row g lb Inv ok st x.kids) (fun a m ih=>G1 F m ih) x)
end Go.Proofs.YtkdjnegfnhldpaaGreatDoor
