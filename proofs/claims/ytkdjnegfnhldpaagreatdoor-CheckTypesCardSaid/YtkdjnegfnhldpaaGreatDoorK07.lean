/- Part 07. -/
import Derived.Lib.ConvBytes
import Derived.Test.YtkdjnegfnhldpaaGreatDoorK06
set_option linter.unusedVariables false
set_option maxRecDepth 100000
set_option linter.unusedSimpArgs false
set_option maxHeartbeats 40000000
set_option autoImplicit true
set_option relaxedAutoImplicit true
namespace Go.Proofs.YtkdjnegfnhldpaaGreatDoor
open Go.Proofs.Tryz Go.RowKit
theorem ZBp(fid:FuncId)(q:ByteArray->Bool)(I:World->Prop)(hI:∀w w',I w->Below w.heap.size w w'->I w')(ay:∀args w,(callFunc fid args).run prog w=.ok (.enter fid args) w)(hq:∀s w,I w->Calls prog fid #[.string s] w fun e w'=>e=.returned (.bool (q s))/\Below w.heap.size w w')(s:ByteArray)(a:Addr)(w:World)(hw:I w)(ac:w.cell? a=some (.func (.func fid) #[] #[])):Calls prog 247 #[.string s,.pointer (some a)] w (RB w (.bool (!q s))):=by have HQ:=AF hq;have HW:=AF hw;clear hq hw hI;go_enter func247,ntmps247;go_wp2_with fail;refine(HQ.o s w HW.o).mono ?_;rintro e w1 ⟨rfl,hb⟩;have HB:=AF hb;clear hb;go_wp2_with fail;go_ret;exact⟨rfl,HB.o⟩
theorem On(fid:FuncId)(q:ByteArray->Bool)(I:World->Prop)(hI:∀w w',I w->Below w.heap.size w w'->I w')(ay:∀args w,(callFunc fid args).run prog w=.ok (.enter fid args) w)(hq:∀s w,I w->Calls prog fid #[.string s] w fun e w'=>e=.returned (.bool (q s))/\Below w.heap.size w w')(a:Addr)(p:Option Addr)(n cap:Nat)(l:List ByteArray)(w:World)(hw:I w)(hn:l.length=n)(hm:n<=9223372036854775807)(hr:DK Ib 1 w p l)(ac:w.cell? a=some (.func (.func fid) #[] #[])) :
 Calls prog 262 #[.slice p n cap,.func (.func 247) #[] #[.pointer (some a)]] w fun e w'=>(∃r:Int,e=.returned (.int .i64 r)/\(l.any (fun s=>!q s)=decide (0<=r)))/\Below w.heap.size w w':=by
 have HR:=AF hr
 have HN:=AF hn
 have HX:=AF ac
 have HA:=AF (fun x W hw h=>ZBp fid q I hI ay hq x a W hw h)
 have lu:=AF hI
 have HW:=AF hw
 clear hr hn ac hq ay hI hw
 go_enter func262,ntmps262
 go_wp2_with fail
 go_loopw [5,8] (fun _ i wr=>∃k:Nat,k<=n/\i=.int .i64 k/\(l.take k).any (fun s=>!q s)=false/\Below w.heap.size w wr) (fun _ i _=>n-(intOf i).toNat)
 case atStart=>exact⟨0,by omega,rfl,by simp,AA _ _⟩
 case round=>
  obtain⟨k,hk,rfl,an,hb⟩:=hrel;have ax:=AF an;have HB:=AF hb;clear an hb;by_cases aG:k<n
  ·obtain⟨x,hx⟩:=Bh (l:=l) (j:=k) (by rw [HN.o];exact aG);obtain⟨b,o,rfl,bv⟩:=(HR.o.below HB.o).str hx;have HE:=AF hx;have eU:wr.cell? a=some (.func (.func fid) #[] #[]):=by rw [HB.o.cell (D9 HX.o)];exact HX.o
   clear hx;by_cases hq:q x=true
   ·go_wp2_with fail;refine(HA.o x wr (lu.o _ _ HW.o HB.o) eU).mono ?_;rintro e w1 ⟨rfl,hb⟩;have aH:=bt HB hb;clear hb eU bv;go_wp2_with fail;go_roundw
    case rel=>exact⟨k+1,by omega,by go_num,by rw [FA HE.o,ax.o,hq];rfl,aH.o⟩
    case measure=>simp [intOf];omega
   ·have m6:q x=false:=by simpa using hq
    clear hq;go_wp2_with fail;refine(HA.o x wr (lu.o _ _ HW.o HB.o) eU).mono ?_;rintro e w1 ⟨rfl,hb⟩;have aH:=bt HB hb;clear hb eU bv;go_wp2_with fail;go_ret;exact⟨⟨k,rfl,by rw [J5 HE.o (by rw [m6];rfl)];simp⟩,aH.o⟩
  ·go_wp2_with fail;go_ret;have h:=ax.o;rw [Bb (by rw [HN.o];omega)] at h;exact⟨⟨-1,rfl,by rw [h];simp⟩,HB.o⟩
theorem MY(fid:FuncId)(q:ByteArray->Bool)(I:World->Prop)(hI:∀w w',I w->Below w.heap.size w w'->I w')(ay:∀args w,(callFunc fid args).run prog w=.ok (.enter fid args) w)(hq:∀s w,I w->Calls prog fid #[.string s] w fun e w'=>e=.returned (.bool (q s))/\Below w.heap.size w w')(a:Addr)(p:Option Addr)(n cap:Nat)(l:List ByteArray)(w:World)(hw:I w)(hn:l.length=n)(hm:n<=9223372036854775807)(hr:DK Ib 1 w p l)(ac:w.cell? a=some (.func (.func fid) #[] #[])) :
 Calls prog 246 #[.slice p n cap,.func (.func 247) #[] #[.pointer (some a)]] w (RB w (.bool (l.any (fun s=>!q s)))):=by
 have hc:=On fid q I hI ay hq a p n cap l w hw hn hm hr ac
 generalize l.any (fun s=>!q s)=r0 at hc ⊢
 clear hr hn ac hq ay hI hw
 go_enter func246,ntmps246
 go_wp2_with fail
 refine hc.mono ?_
 rintro e w1 ⟨⟨r,rfl,hr⟩,hb⟩
 have HR:=AF hr
 have HB:=AF hb
 clear hr hb hc
 go_wp2_with fail
 go_ret
 exact⟨Af HR.o.symm,HB.o⟩
theorem T8(fid:FuncId)(q:ByteArray->Bool)(I:World->Prop)(hI:∀w w',I w->Below w.heap.size w w'->I w')(ay:∀args w,(callFunc fid args).run prog w=.ok (.enter fid args) w)(hq:∀s w,I w->Calls prog fid #[.string s] w fun e w'=>e=.returned (.bool (q s))/\Below w.heap.size w w')(p:Option Addr)(n cap:Nat)(l:List ByteArray)(w:World)(hw:I w)(hn:l.length=n)(hm:n<=9223372036854775807)(hr:DK Ib 1 w p l):Calls prog 210 #[.func (.func fid) #[] #[],.slice p n cap] w (RB w (.bool (l.all q))):=by
 have hc:=fun o=>MY fid q I hI ay hq ⟨w.heap.size,0,none⟩ p n cap l (w.alloc o) (hI _ _ hw bA) hn hm (hr.alloc o);have he:Hd (l.all q=!l.any (fun s=>!q s)):=by show l.all q=!l.any (fun s=>!q s);rw [D1]
 have HC:=AF hc;clear hr hn hc hq ay hI hw;go_enter func210,ntmps210;go_wp2_with fail;refine(HC.o _ (by rw [Bq];rfl)).mono ?_;rintro e w1 ⟨rfl,hb⟩;have HB:Hd (Below w.heap.size w w1):=((AA _ w).alloc (AB _) _).trans (hb.mono (by simp));clear hb;generalize l.any (fun s=>!q s)=r0 at *
 go_wp2_with fail;go_ret;exact⟨Af he.out.symm,HB.o⟩
def Vr(w:World):Prop:=∃m:Int,w.cell? ⟨0,0,none⟩=some (.int .i64 m)
theorem Vr.below(h:Vr w)(hb:Below w.heap.size w w'):Vr w':=by obtain⟨m,h⟩:=h;exact⟨m,by rw [hb.cell (D9 h)];exact h⟩
def Yq:List ByteArray:=[⟨#[108,101,116]⟩,⟨#[108,101,116,114,101,99]⟩,⟨#[105,110]⟩,⟨#[102,110]⟩,⟨#[105,102]⟩,⟨#[116,104,101,110]⟩,⟨#[101,108,115,101]⟩,⟨#[114,97,105,115,101]⟩,⟨#[116,114,121]⟩,⟨#[119,105,116,104]⟩,⟨#[114,101,102]⟩,⟨#[102,115,116]⟩,⟨#[115,110,100]⟩,⟨#[101,120,110]⟩]
def kwB(s:ByteArray):Bool:=Yq.any (fun k=>decide (k=s))
def D5(s:ByteArray):Bool:=DX s 3&&!kwB s
abbrev Wp:ByteArray:=⟨#[32,108,101,116,32,108,101,116,114,101,99,32,105,110,32,102,110,32,105,102,32,116,104,101,110,32,101,108,115,101,32,114,97,105,115,101,32,116,114,121,32,119,105,116,104,32,114,101,102,32,102,115,116,32,115,110,100,32,101,120,110]⟩
theorem ZAZ:Lib.countB Wp ⟨#[32]⟩=14:=by decide +kernel
theorem ZAa:Lib.splitB ⟨#[32]⟩ 0 14 Wp=(⟨#[]⟩:ByteArray)::Yq:=by decide +kernel
theorem Tc(hv:Vr w):Calls prog 258 #[] w fun e w'=>e=.returned (.slice (some ⟨w.heap.size,0,none⟩) 15 15)/\DK Ib 1 w' (some ⟨w.heap.size,0,none⟩) ((⟨#[]⟩:ByteArray)::Yq)/\Below w.heap.size w w':=by obtain⟨m,hm⟩:=hv;have hc:=strings_Split Wp ⟨#[32]⟩ m w (by decide +kernel) hm (by decide +kernel);rw [ZAZ,ZAa] at hc;have HC:=AF hc;clear hc hm;go_enter func258,ntmps258;go_wp2_with fail;refine HC.o.mono ?_;rintro e w1 ⟨rfl,rfl⟩;go_wp2_with fail;go_ret;refine⟨rfl,?_,bA⟩;exact DK.newAt Hh w _ _ rfl _ _ _ rfl
theorem SU(x:ByteArray):∀(l:List ByteArray) (i:Nat),(l.any (fun y=>decide (y=x))=false/\Lib.idxFromS l x i=-1)\/∃k:Nat,k<l.length/\l.any (fun y=>decide (y=x))=true/\Lib.idxFromS l x i=((i+k:Nat):Int)
 |[],i=>.inl ⟨rfl,rfl⟩
 |y::l,i=>by
  unfold Lib.idxFromS;by_cases h:y=x
  ·subst h;exact .inr ⟨0,by simp,by simp,by simp⟩
  ·rw [AC h];rcases SU x l (i+1) with⟨h1,h2⟩|⟨k,hk,h1,h2⟩
   ·exact .inl ⟨by rw [List.any_cons,h1];simp [h],h2⟩
   ·exact .inr ⟨k+1,by simpa using hk,by rw [List.any_cons,h1];simp,by rw [h2];congr 1;omega⟩
theorem ZDG(h:s.size≠0):∃r:Int,Lib.idxOfS ((⟨#[]⟩:ByteArray)::Yq) s=r/\(kwB s=false/\r=-1\/kwB s=true/\1<=r/\r<=14):=by
 have h0:¬((⟨#[]⟩:ByteArray)=s):=by rintro rfl;exact h rfl
 refine⟨_,rfl,?_⟩;have e:Lib.idxOfS ((⟨#[]⟩:ByteArray)::Yq) s=Lib.idxFromS Yq s 1:=by show (if(⟨#[]⟩:ByteArray)=s then(0:Int) else Lib.idxFromS Yq s 1)=_;rw [AC h0]
 rw [e];rcases SU s Yq 1 with⟨h1,h2⟩|⟨k,hk,h1,h2⟩
 ·exact .inl ⟨h1,h2⟩
 ·have:Yq.length=14:=rfl;exact .inr ⟨h1,by rw [h2];omega,by rw [h2];omega⟩
theorem N6(hv:Vr w)(s:ByteArray):Calls prog 236 #[.string s] w fun e w'=>(∃r:Int,e=.returned (.int .i64 r)/\(s.size≠0->decide (r=0)=!kwB s))/\Below w.heap.size w w':=by
 have HV:=AF hv;clear hv;by_cases h0:s.size=0
 ·have hs:s=⟨#[]⟩:=by apply ByteArray.ext;exact D0 h0
  subst hs;clear h0;go_enter func236,ntmps236;go_wp2_with fail;go_ret;exact⟨⟨0,rfl,fun h=>absurd rfl h⟩,AA _ _⟩
 ·have aM:¬s=⟨#[]⟩:=by rintro rfl;exact h0 rfl
  have hb:s.toList.isEmpty=false:=by
   rw [CN];cases h:s.data.toList with
   |nil=>exact absurd (by show s.data.size=0;rw [<-Eg,h];rfl) h0
   |cons x l=>rfl
  clear aM;obtain⟨r,hr,vG⟩:=ZDG h0;have HR:=AF hr;have co:=AF vG;clear hr vG h0;go_enter func236,ntmps236;go_wp2_with fail;refine(Tc HV.o).mono ?_;rintro e w1 ⟨rfl,aC,hb⟩;have a6:=AF aC;have HB:=AF hb;clear aC hb;go_wp2_with fail
  have hc:=slices_Index_string w.heap.size 0 15 15 ((⟨#[]⟩:ByteArray)::Yq) s w1 (by decide) (by decide) (fun j hj=>by
   rcases a6.o with h|⟨b,o,he,_,bv⟩
   ·cases h
   ·cases he
    have:=bv j _ (AI hj) 0 _ rfl;rw [AX,AI hj];simpa using this)
  rw [BU (by decide),HR.o] at hc;refine hc.mono ?_;rintro e w2 ⟨rfl,rfl⟩;clear hc;rcases co.o with⟨h1,h2⟩|⟨h1,h2,h3⟩
  ·subst h2;go_wp2_with fail;go_ret;exact⟨⟨0,rfl,fun _=>by rw [h1];rfl⟩,HB.o⟩
  ·have hp:(0:Int)<r:=by omega
   go_wp2_with fail;go_ret;refine⟨⟨max 0 r,rfl,fun _=>?_⟩,HB.o⟩;rw [h1];have:¬(max 0 r=0):=by omega
   simp [this]
theorem Yw(hv:Vr w)(s:ByteArray):Calls prog 235 #[.string s] w (RB w (.bool (D5 s))):=by
 have HV:=AF hv;clear hv;cases h:DX s 3
 ·have H:=AF h;clear h;have HN:Hd (D5 s=false):=by show _=_;unfold D5;rw [H.o];rfl
  go_enter func235,ntmps235;go_wp2_with fail;refine(NJ s 3 _).mono ?_;rintro e w1 ⟨rfl,hb⟩;rw [H.o];have HB:=AF hb;clear hb;go_wp2_with fail;go_ret;exact⟨Af HN.o.symm,HB.o⟩
 ·have H:=AF h;have h0:s.size≠0:=by intro h0;unfold DX at h;rw [h0] at h;simp at h
  have H0:=AF h0;clear h h0;go_enter func235,ntmps235;go_wp2_with fail;refine(NJ s 3 _).mono ?_;rintro e w1 ⟨rfl,hb⟩;rw [H.o];have HB:=AF hb;clear hb;go_wp2_with fail;refine(N6 (HV.o.below HB.o) s).mono ?_;rintro e w2 ⟨⟨r,rfl,hr⟩,hb⟩;have aF:=bt HB hb;have HR:=AF (hr H0.o);clear hb hr;go_wp2_with fail;go_ret;refine⟨Af ?_,aF.o⟩;unfold D5;rw [H.o,<-HR.o];show (r==0)=_;by_cases fl:r=0<;>simp [fl]
theorem RU(hv:Vr w)(p:Option Addr)(n cap:Nat)(l:List ByteArray)(hn:l.length=n)(hm:n<=9223372036854775807)(hr:DK Ib 1 w p l):Calls prog 207 #[.slice p n cap] w (RB w (.bool (l.all D5))):=by
 have hc:=T8 235 D5 Vr (fun _ _ h hb=>h.below hb) (fun args w=>by kernel_rfl) (fun s w h=>Yw h s) p n cap l w hv hn hm hr;generalize l.all D5=r0 at *
 have HC:=AF hc;clear hr hn hc hv;go_enter func207,ntmps207;go_wp2_with fail;refine HC.o.mono ?_;rintro e w1 ⟨rfl,hb⟩;have HB:=AF hb;clear hb;go_wp2_with fail;go_ret;exact⟨rfl,HB.o⟩
theorem Pc(s:ByteArray)(w:World):Calls prog 147 #[.string s] w fun e w'=>(∃r:Int,e=.returned (.int .i64 r)/\decide (r=0)=!kwB s)/\Below w.heap.size w w':=by
 have HR:=AF (show DK Ib 1 (w.alloc (.cells #[.string ⟨#[108,101,116]⟩,.string ⟨#[108,101,116,114,101,99]⟩,.string ⟨#[105,110]⟩,.string ⟨#[102,110]⟩,.string ⟨#[105,102]⟩,.string ⟨#[116,104,101,110]⟩,.string ⟨#[101,108,115,101]⟩,.string ⟨#[114,97,105,115,101]⟩,.string ⟨#[116,114,121]⟩,.string ⟨#[119,105,116,104]⟩,.string ⟨#[114,101,102]⟩,.string ⟨#[102,115,116]⟩,.string ⟨#[115,110,100]⟩,.string ⟨#[101,120,110]⟩] 9)) (some ⟨w.heap.size,0,none⟩) Yq from DK.newAt Hh w _ _ rfl _ _ _ rfl);have aK:=AF ((AA w.heap.size w).alloc (AB _) (.cells #[.string ⟨#[108,101,116]⟩,.string ⟨#[108,101,116,114,101,99]⟩,.string ⟨#[105,110]⟩,.string ⟨#[102,110]⟩,.string ⟨#[105,102]⟩,.string ⟨#[116,104,101,110]⟩,.string ⟨#[101,108,115,101]⟩,.string ⟨#[114,97,105,115,101]⟩,.string ⟨#[116,114,121]⟩,.string ⟨#[119,105,116,104]⟩,.string ⟨#[114,101,102]⟩,.string ⟨#[102,115,116]⟩,.string ⟨#[115,110,100]⟩,.string ⟨#[101,120,110]⟩] 9));go_enter func147,ntmps147;go_wp2_with fail;have hc:Calls prog 199 #[] w fun e w'=>e=.returned (.slice (some ⟨w.heap.size,0,none⟩) 14 14)/\w'=w.alloc (.cells #[.string ⟨#[108,101,116]⟩,.string ⟨#[108,101,116,114,101,99]⟩,.string ⟨#[105,110]⟩,.string ⟨#[102,110]⟩,.string ⟨#[105,102]⟩,.string ⟨#[116,104,101,110]⟩,.string ⟨#[101,108,115,101]⟩,.string ⟨#[114,97,105,115,101]⟩,.string ⟨#[116,114,121]⟩,.string ⟨#[119,105,116,104]⟩,.string ⟨#[114,101,102]⟩,.string ⟨#[102,115,116]⟩,.string ⟨#[115,110,100]⟩,.string ⟨#[101,120,110]⟩] 9):=by clear HR aK;go_enter func199,ntmps199;go_wp2_with fail;go_ret;exact⟨rfl,rfl⟩
 refine hc.mono ?_;rintro e w1 ⟨rfl,rfl⟩;clear hc;generalize w.alloc (.cells #[.string ⟨#[108,101,116]⟩,.string ⟨#[108,101,116,114,101,99]⟩,.string ⟨#[105,110]⟩,.string ⟨#[102,110]⟩,.string ⟨#[105,102]⟩,.string ⟨#[116,104,101,110]⟩,.string ⟨#[101,108,115,101]⟩,.string ⟨#[114,97,105,115,101]⟩,.string ⟨#[116,114,121]⟩,.string ⟨#[119,105,116,104]⟩,.string ⟨#[114,101,102]⟩,.string ⟨#[102,115,116]⟩,.string ⟨#[115,110,100]⟩,.string ⟨#[101,120,110]⟩] 9)=W at *
 go_wp2_with fail;go_loopw [8] (fun i wr=>∃k:Nat,k<=14/\i=.int .i64 k/\(Yq.take k).any (fun y=>decide (y=s))=false/\wr=W) (fun i _=>14-(intOf i).toNat)
 case atStart=>exact⟨0,by omega,rfl,rfl,rfl⟩
 case round=>
  obtain⟨k,hk,rfl,an,rfl⟩:=hrel;have ax:=AF an;clear an;by_cases aG:k<14
  ·obtain⟨x,hx⟩:=Bh (l:=Yq) (j:=k) aG;obtain⟨b,o,bV,bv⟩:=HR.o.str hx;cases bV;rw [BP] at bv;have HE:=AF hx;clear hx;by_cases hq:x=s
   ·have hb:(x.toList==s.toList)=true:=by rw [Ie];simpa using hq
    have HQ:=AF hq;clear hq;go_wp2_with fail;go_ret;refine⟨⟨_,rfl,?_⟩,aK.o⟩;have h1:kwB s=true:=J5 HE.o (by simpa using HQ.o);rw [h1];simp;omega
   ·have hb:(x.toList==s.toList)=false:=by rw [Ie];simpa using hq
    have HQ:=AF hq;clear hq;go_wp2_with fail;go_roundw
    case rel=>exact⟨k+1,by omega,by go_num,by rw [FA HE.o,ax.o];simp [HQ.o],by first|rfl|trivial⟩
    case measure=>simp [intOf];omega
  ·have ai:k=14:=by omega
   subst ai;have h:=ax.o;rw [Bb (by decide)] at h;have H:=AF h;clear h;go_wp2_with fail;go_ret;exact⟨⟨0,rfl,by show decide _=!kwB s;unfold kwB;rw [H.o];rfl⟩,aK.o⟩
theorem IV(s:ByteArray)(w:World):Calls prog 103 #[.string s] w (RB w (.bool (D5 s))):=by
 cases h:DX s 3
 ·have H:=AF h;clear h;have HN:Hd (D5 s=false):=by show _=_;unfold D5;rw [H.o];rfl
  go_enter func103,ntmps103;go_wp2_with fail;refine(KT s 3 _).mono ?_;rintro e w1 ⟨rfl,hb⟩;rw [H.o];have HB:=AF hb;clear hb;go_wp2_with fail;go_ret;exact⟨Af HN.o.symm,HB.o⟩
 ·have H:=AF h;clear h;go_enter func103,ntmps103;go_wp2_with fail;refine(KT s 3 _).mono ?_;rintro e w1 ⟨rfl,hb⟩;rw [H.o];have HB:=AF hb;clear hb;go_wp2_with fail;refine(Pc s _).mono ?_;rintro e w2 ⟨⟨r,rfl,hr⟩,hb⟩;have aF:=bt HB hb;have HR:=AF hr;clear hb hr;go_wp2_with fail;go_ret;refine⟨Af ?_,aF.o⟩;unfold D5;rw [H.o,<-HR.o];show (r==0)=_;by_cases fl:r=0<;>simp [fl]
def DU(k:Int):Int:=
 if k=1\/k=2 then 0 else if k=4\/k=5\/k=6\/k=7\/k=11\/k=15 then 1
 else if k=3\/k=8\/k=9\/k=10\/k=12\/k=13\/k=16 then 2 else if k=14 then 3 else -1
theorem Qt(k:Int)(w:World):Calls prog 101 #[.int .u8 k] w fun e w'=>e=.returned (.int .i64 (DU k))/\w'=w:=by
 by_cases h1:k=1
 ·subst h1;go_enter func101,ntmps101;go_wp2_with fail;go_ret;exact⟨rfl,rfl⟩
 have b1:(k==1)=false:=by simpa using h1
 by_cases h2:k=2
 ·subst h2;go_enter func101,ntmps101;go_wp2_with fail;go_ret;exact⟨rfl,rfl⟩
 have b2:(k==2)=false:=by simpa using h2
 by_cases h3:k=3
 ·subst h3;go_enter func101,ntmps101;go_wp2_with fail;go_ret;exact⟨rfl,rfl⟩
 have b3:(k==3)=false:=by simpa using h3
 by_cases h4:k=4
 ·subst h4;go_enter func101,ntmps101;go_wp2_with fail;go_ret;exact⟨rfl,rfl⟩
 have b4:(k==4)=false:=by simpa using h4
 by_cases h5:k=5
 ·subst h5;go_enter func101,ntmps101;go_wp2_with fail;go_ret;exact⟨rfl,rfl⟩
 have b5:(k==5)=false:=by simpa using h5
 by_cases h6:k=6
 ·subst h6;go_enter func101,ntmps101;go_wp2_with fail;go_ret;exact⟨rfl,rfl⟩
 have b6:(k==6)=false:=by simpa using h6
 by_cases h7:k=7
 ·subst h7;go_enter func101,ntmps101;go_wp2_with fail;go_ret;exact⟨rfl,rfl⟩
 have b7:(k==7)=false:=by simpa using h7
 by_cases h8:k=8
 ·subst h8;go_enter func101,ntmps101;go_wp2_with fail;go_ret;exact⟨rfl,rfl⟩
 have b8:(k==8)=false:=by simpa using h8
 by_cases h9:k=9
 ·subst h9;go_enter func101,ntmps101;go_wp2_with fail;go_ret;exact⟨rfl,rfl⟩
 have b9:(k==9)=false:=by simpa using h9
 by_cases mU:k=10
 ·subst mU;go_enter func101,ntmps101;go_wp2_with fail;go_ret;exact⟨rfl,rfl⟩
 have b10:(k==10)=false:=by simpa using mU
 by_cases cR:k=11
 ·subst cR;go_enter func101,ntmps101;go_wp2_with fail;go_ret;exact⟨rfl,rfl⟩
 have b11:(k==11)=false:=by simpa using cR
 by_cases eH:k=12
 ·subst eH;go_enter func101,ntmps101;go_wp2_with fail;go_ret;exact⟨rfl,rfl⟩
 have b12:(k==12)=false:=by simpa using eH
 by_cases bf:k=13
 ·subst bf;go_enter func101,ntmps101;go_wp2_with fail;go_ret;exact⟨rfl,rfl⟩
 have b13:(k==13)=false:=by simpa using bf
 by_cases rh:k=14
 ·subst rh;go_enter func101,ntmps101;go_wp2_with fail;go_ret;exact⟨rfl,rfl⟩
 have b14:(k==14)=false:=by simpa using rh
 by_cases mW:k=15
 ·subst mW;go_enter func101,ntmps101;go_wp2_with fail;go_ret;exact⟨rfl,rfl⟩
 have b15:(k==15)=false:=by simpa using mW
 by_cases eS:k=16
 ·subst eS;go_enter func101,ntmps101;go_wp2_with fail;go_ret;exact⟨rfl,rfl⟩
 have b16:(k==16)=false:=by simpa using eS
 have hz:Hd (DU k=-1):=by show _=_;unfold DU;rw [AC (by omega),AC (by omega),AC (by omega),AC (by omega)]
 clear h1 h2 h3 h4 h5 h6 h7 h8 h9 mU cR eH bf rh mW eS;go_enter func101,ntmps101;go_wp2_with fail;go_ret;exact⟨E0 hz.out.symm,rfl⟩
def Hf(there:Bool)(s:ByteArray)(ok:Bool):Bool:=there&&ok||!there&&decide (s.size=0)
theorem Qv(there:Bool)(s:ByteArray)(ok:Bool)(w:World):Calls prog 102 #[.bool there,.string s,.bool ok] w fun e w'=>e=.returned (.bool (Hf there s ok))/\w'=w:=by
 by_cases hs:s.size=0
 ·have he:s=⟨#[]⟩:=by apply ByteArray.ext;exact D0 hs
  subst he;cases there<;>cases ok
  all_goals
   go_enter func102,ntmps102
   go_wp2_with fail
   go_ret
   exact⟨rfl,rfl⟩
 ·have hb:s.toList.isEmpty=false:=by
   rw [CN];cases h:s.data.toList with
   |nil=>exact absurd (by show s.data.size=0;rw [<-Eg,h];rfl) hs
   |cons x l=>rfl
  have HS:Hd (decide (s.size=0)=false):=by show _=_;simp [hs]
  clear hs;cases there<;>cases ok
  all_goals
   go_enter func102,ntmps102
   go_wp2_with fail
   go_ret
   refine⟨Af ?_,rfl⟩
   unfold Hf
   rw [HS.o]
   rfl
abbrev SH(h:By)(p:Option Addr)(n c:Nat):Value:=.agg #[.int .u8 h.kind,.int .u8 h.op,.int .i64 h.at_,.int .i64 h.n,.string h.name,.string h.arg,.string h.exn,.slice p n c]
theorem GS(k m:Int)(hm:DU k=m)(w:World):Calls prog 101 #[.int .u8 k] w (RB w (.int .i64 m)):=by subst hm;exact(Qt k w).mono (fun _ _ ⟨h1,h2⟩=>⟨h1,h2▸AA _ _⟩)
theorem K2(there:Bool)(s:ByteArray)(ok:Bool)(w:World):Calls prog 102 #[.bool there,.string s,.bool ok] w (RB w (.bool (Hf there s ok))):=(Qv there s ok w).mono (fun _ _ ⟨h1,h2⟩=>⟨h1,h2▸AA _ _⟩)
abbrev Me(h:By)(p:Option Addr)(n c:Nat):Obj:=.cells #[.int .u8 h.kind,.int .u8 h.op,.int .i64 h.at_,.int .i64 h.n,.string h.name,.string h.arg,.string h.exn,.slice p n c] 53
def NT(W:World)(b:Nat)(h:By)(p:Option Addr)(n c:Nat):Prop:=
 W.cell? ⟨b,0,none⟩=some (.int .u8 h.kind)/\W.cell? ⟨b,1,none⟩=some (.int .u8 h.op)/\W.cell? ⟨b,2,none⟩=some (.int .i64 h.at_)/\W.cell? ⟨b,3,none⟩=some (.int .i64 h.n) /\
  W.cell? ⟨b,4,none⟩=some (.string h.name)/\W.cell? ⟨b,5,none⟩=some (.string h.arg)/\W.cell? ⟨b,6,none⟩=some (.string h.exn)/\W.cell? ⟨b,7,none⟩=some (.slice p n c)
theorem NT.below(hc:NT W b h p n c)(hb:Below W.heap.size W W'):NT W' b h p n c:=by obtain⟨h0,h1,h2,h3,h4,h5,h6,h7⟩:=hc;have aG:b<W.heap.size:=D9 h0;exact⟨by rw [hb.cell aG];exact h0,by rw [hb.cell aG];exact h1,by rw [hb.cell aG];exact h2,by rw [hb.cell aG];exact h3,by rw [hb.cell aG];exact h4,by rw [hb.cell aG];exact h5,by rw [hb.cell aG];exact h6,by rw [hb.cell aG];exact h7⟩
theorem Ln(w:World)(h:By)(p:Option Addr)(n c:Nat):NT (w.alloc (Me h p n c)) w.heap.size h p n c:=by refine⟨?_,?_,?_,?_,?_,?_,?_,?_⟩<;>(rw [Bq];rfl)
def IB(k:Int):Bool:=k==2||k==12||k==13
def Kn(k:Int):Bool:=k==11||k==13||k==16
def LW(k:Int):Bool:=k==15||k==16
def DN(h:By)(n:Nat):Bool:=
 !(decide (DU h.kind<0)||((n:Int) != DU h.kind)||decide (h.at_<0))&&!((h.kind==9)&&(decide (h.op<1)||decide (5<h.op))||(h.kind != 9)&&(h.op != 0)) &&
 !(decide (h.n<0)||decide (2147483647<h.n)||(h.kind != 1)&&(h.n != 0))&&(Hf (IB h.kind) h.name (D5 h.name)&&Hf (Kn h.kind) h.arg (D5 h.arg)&&Hf (LW h.kind) h.exn (GR h.exn))
theorem Qu(h:By)(p:Option Addr)(n c:Nat)(hn:n<=9223372036854775807)(w:World):Calls prog 69 #[SH h p n c] w (RB w (.bool (DN h n))):=by
 have aK:=AF ((AA w.heap.size w).alloc (AB _) (Me h p n c));have HC:=AF (Ln w h p n c);have HM:∃m,DU h.kind=m:=⟨_,rfl⟩;obtain⟨m,hm⟩:=HM;have jG:=AF hm;clear hm;go_enter func69,ntmps69;go_upto_region 2 with fail;generalize w.alloc (.cells #[.int .u8 h.kind,.int .u8 h.op,.int .i64 h.at_,.int .i64 h.n,.string h.name,.string h.arg,.string h.exn,.slice p n c] 53)=W0 at *
 go_cut [26] from 10 to 26 (fun s26 wx=>s26=.bool (decide (m<0)||((n:Int) != m)||decide (h.at_<0))/\Below W0.heap.size W0 wx)
 case first=>
  obtain⟨q0,q1,q2,q3,q4,q5,q6,q7⟩:=HC.o;have g0:=fun g=>Ez q0 g;have g1:=fun g=>Ez q1 g;have g2:=fun g=>Ez q2 g;have g3:=fun g=>Ez q3 g;have g4:=fun g=>Ez q4 g;have g5:=fun g=>Ez q5 g;have g6:=fun g=>Ez q6 g;have g7:=fun g=>Ez q7 g;have hB:=Ji W0;by_cases h1:m<0
  ·have d1:decide (m<0)=true:=by simpa using h1
   have HB:Hd ((decide (m<0)||((n:Int) != m)||decide (h.at_<0))=true):=by show _=_;simp [h1]
   refine Es (by kernel_rfl) (by kernel_rfl) ?_;repeat ((with_reducible refine AZ (fun K hK=>?_));go_simp;refine hK _ ?_;clear hK K)
   refine AZ (fun K hK=>?_);go_simp;refine⟨(.int .i64 m),fun _=>Df (GS _ m jG.o _),hK _ ?_⟩;clear hK K;repeat ((with_reducible refine AZ (fun K hK=>?_));go_simp;refine hK _ ?_;clear hK K)
   clear h1;refine CX ?_;rintro w3 ⟨g,rfl⟩;go_wp2_with fail;go_meet
   case rel=>exact⟨by rw [HB.o],hB g⟩
  ·have d1:decide (m<0)=false:=by simpa using h1
   by_cases h2:(n:Int)=m
   ·have d2:((n:Int) != m)=false:=by simpa using h2
    by_cases h3:h.at_<0
    ·have d3:decide (h.at_<0)=true:=by simpa using h3
     have HB:Hd ((decide (m<0)||((n:Int) != m)||decide (h.at_<0))=true):=by show _=_;simp [h3]
     refine Es (by kernel_rfl) (by kernel_rfl) ?_;repeat ((with_reducible refine AZ (fun K hK=>?_));go_simp;refine hK _ ?_;clear hK K)
     refine AZ (fun K hK=>?_);go_simp;refine⟨(.int .i64 m),fun _=>Df (GS _ m jG.o _),hK _ ?_⟩;clear hK K;repeat ((with_reducible refine AZ (fun K hK=>?_));go_simp;refine hK _ ?_;clear hK K)
     clear h1 h2 h3;refine AZ (fun K hK=>?_);go_simp;refine⟨(.int .i64 m),fun _=>Df (GS _ m jG.o _),hK _ ?_⟩;clear hK K;repeat ((with_reducible refine AZ (fun K hK=>?_));go_simp;refine hK _ ?_;clear hK K)
     refine CX ?_;rintro w3 ⟨g,rfl⟩;go_wp2_with fail;go_meet
     case rel=>exact⟨by rw [HB.o],hB g⟩
    ·have d3:decide (h.at_<0)=false:=by simpa using h3
     have HB:Hd ((decide (m<0)||((n:Int) != m)||decide (h.at_<0))=false):=by show _=_;simp [h1,h2,h3]
     refine Es (by kernel_rfl) (by kernel_rfl) ?_;repeat ((with_reducible refine AZ (fun K hK=>?_));go_simp;refine hK _ ?_;clear hK K)
     refine AZ (fun K hK=>?_);go_simp;refine⟨(.int .i64 m),fun _=>Df (GS _ m jG.o _),hK _ ?_⟩;clear hK K;repeat ((with_reducible refine AZ (fun K hK=>?_));go_simp;refine hK _ ?_;clear hK K)
     clear h1 h2 h3;refine AZ (fun K hK=>?_);go_simp;refine⟨(.int .i64 m),fun _=>Df (GS _ m jG.o _),hK _ ?_⟩;clear hK K;repeat ((with_reducible refine AZ (fun K hK=>?_));go_simp;refine hK _ ?_;clear hK K)
     refine CX ?_;rintro w3 ⟨g,rfl⟩;go_wp2_with fail;go_meet
     case rel=>exact⟨by rw [HB.o],hB g⟩
   ·have d2:((n:Int) != m)=true:=by simpa using h2
    have HB:Hd ((decide (m<0)||((n:Int) != m)||decide (h.at_<0))=true):=by show _=_;simp [h2]
    refine Es (by kernel_rfl) (by kernel_rfl) ?_;repeat ((with_reducible refine AZ (fun K hK=>?_));go_simp;refine hK _ ?_;clear hK K)
    refine AZ (fun K hK=>?_);go_simp;refine⟨(.int .i64 m),fun _=>Df (GS _ m jG.o _),hK _ ?_⟩;clear hK K;repeat ((with_reducible refine AZ (fun K hK=>?_));go_simp;refine hK _ ?_;clear hK K)
    clear h1 h2;refine AZ (fun K hK=>?_);go_simp;refine⟨(.int .i64 m),fun _=>Df (GS _ m jG.o _),hK _ ?_⟩;clear hK K;repeat ((with_reducible refine AZ (fun K hK=>?_));go_simp;refine hK _ ?_;clear hK K)
    refine CX ?_;rintro w3 ⟨g,rfl⟩;go_wp2_with fail;go_meet
    case rel=>exact⟨by rw [HB.o],hB g⟩
 case rest=>
  obtain⟨rfl,hb⟩:=hcut;have cg:=bt aK hb;have ki:=AF (HC.o.below hb);clear hb;generalize ap:(decide (m<0)||((n:Int) != m)||decide (h.at_<0))=B1;have aH:=AF ap;clear ap;cases B1
  ·obtain⟨q0,q1,q2,q3,q4,q5,q6,q7⟩:=ki.o;go_upto_region 4 with fail;go_cut [50] from 27 to 50 (fun s50 wx=>s50=.bool ((h.kind==9)&&(decide (h.op<1)||decide (5<h.op))||(h.kind != 9)&&(h.op != 0))/\wx=wc)
   case first=>
    by_cases h9:h.kind=9
    ·have e1:(h.kind==9)=true:=by simpa using h9
     have e2:(h.kind != 9)=false:=by simpa using h9
     by_cases o1:h.op<1
     ·have f1:decide (h.op<1)=true:=by simpa using o1
      have HB:Hd (((h.kind==9)&&(decide (h.op<1)||decide (5<h.op))||(h.kind != 9)&&(h.op != 0))=true):=by show _=_;simp [h9,o1]
      clear h9 o1;go_wp2_with fail;go_meet
      case rel=>exact⟨by rw [HB.o];try rfl,rfl⟩
     ·have f1:decide (h.op<1)=false:=by simpa using o1
      by_cases o5:5<h.op
      ·have f5:decide (5<h.op)=true:=by simpa using o5
       have HB:Hd (((h.kind==9)&&(decide (h.op<1)||decide (5<h.op))||(h.kind != 9)&&(h.op != 0))=true):=by show _=_;simp [h9,o1,o5]
       clear h9 o1 o5;go_wp2_with fail;go_meet
       case rel=>exact⟨by rw [HB.o];try rfl,rfl⟩
      ·have f5:decide (5<h.op)=false:=by simpa using o5
       have HB:Hd (((h.kind==9)&&(decide (h.op<1)||decide (5<h.op))||(h.kind != 9)&&(h.op != 0))=false):=by show _=_;simp [h9,o1,o5]
       clear h9 o1 o5;go_wp2_with fail;go_meet
       case rel=>exact⟨by rw [HB.o];try rfl,rfl⟩
    ·have e1:(h.kind==9)=false:=by simpa using h9
     have e2:(h.kind != 9)=true:=by simpa using h9
     by_cases o0:h.op=0
     ·have f0:(h.op != 0)=false:=by simpa using o0
      have HB:Hd (((h.kind==9)&&(decide (h.op<1)||decide (5<h.op))||(h.kind != 9)&&(h.op != 0))=false):=by show _=_;simp [h9,o0]
      clear h9 o0;go_wp2_with fail;go_meet
      case rel=>exact⟨by rw [HB.o];try rfl,rfl⟩
     ·have f0:(h.op != 0)=true:=by simpa using o0
      have HB:Hd (((h.kind==9)&&(decide (h.op<1)||decide (5<h.op))||(h.kind != 9)&&(h.op != 0))=true):=by show _=_;simp [h9,o0]
      clear h9 o0;go_wp2_with fail;go_meet
      case rel=>exact⟨by rw [HB.o];try rfl,rfl⟩
   case rest=>
    obtain⟨rfl,rfl⟩:=hcut;generalize aU:((h.kind==9)&&(decide (h.op<1)||decide (5<h.op))||(h.kind != 9)&&(h.op != 0))=B2;have aF:=AF aU;clear aU;cases B2
    ·go_upto_region 6 with fail;go_cut [70] from 51 to 70 (fun s70 wx=>s70=.bool (decide (h.n<0)||decide (2147483647<h.n)||(h.kind != 1)&&(h.n != 0))/\wx=wc)
     case first=>
      by_cases n0:h.n<0
      ·have f1:decide (h.n<0)=true:=by simpa using n0
       have HB:Hd ((decide (h.n<0)||decide (2147483647<h.n)||(h.kind != 1)&&(h.n != 0))=true):=by show _=_;simp [n0]
       clear n0;go_wp2_with fail;go_meet
       case rel=>exact⟨by rw [HB.o];try rfl,rfl⟩
      ·have f1:decide (h.n<0)=false:=by simpa using n0
       by_cases n1:2147483647<h.n
       ·have f2:decide (2147483647<h.n)=true:=by simpa using n1
        have HB:Hd ((decide (h.n<0)||decide (2147483647<h.n)||(h.kind != 1)&&(h.n != 0))=true):=by show _=_;simp [n0,n1]
        clear n0 n1;go_wp2_with fail;go_meet
        case rel=>exact⟨by rw [HB.o];try rfl,rfl⟩
       ·have f2:decide (2147483647<h.n)=false:=by simpa using n1
        by_cases k1:h.kind=1
        ·have f3:(h.kind != 1)=false:=by simpa using k1
         have HB:Hd ((decide (h.n<0)||decide (2147483647<h.n)||(h.kind != 1)&&(h.n != 0))=false):=by show _=_;simp [n0,n1,k1]
         clear n0 n1 k1;go_wp2_with fail;go_meet
         case rel=>exact⟨by rw [HB.o];try rfl,rfl⟩
        ·have f3:(h.kind != 1)=true:=by simpa using k1
         by_cases z:h.n=0
         ·have f4:(h.n != 0)=false:=by simpa using z
          have HB:Hd ((decide (h.n<0)||decide (2147483647<h.n)||(h.kind != 1)&&(h.n != 0))=false):=by show _=_;simp [n0,n1,k1,z]
          clear n0 n1 k1 z;go_wp2_with fail;go_meet
          case rel=>exact⟨by rw [HB.o];try rfl,rfl⟩
         ·have f4:(h.n != 0)=true:=by simpa using z
          have HB:Hd ((decide (h.n<0)||decide (2147483647<h.n)||(h.kind != 1)&&(h.n != 0))=true):=by show _=_;simp [n0,n1,k1,z]
          clear n0 n1 k1 z;go_wp2_with fail;go_meet
          case rel=>exact⟨by rw [HB.o];try rfl,rfl⟩
     case rest=>
      obtain⟨rfl,rfl⟩:=hcut;generalize bF:(decide (h.n<0)||decide (2147483647<h.n)||(h.kind != 1)&&(h.n != 0))=B3;have aL:=AF bF;clear bF;cases B3
      ·go_upto_region 8 with fail;go_cut [4] from 71 to 80 (fun s wx=>s=.bool (IB h.kind)/\wx=wc)
       case first=>
        by_cases ka:h.kind=2
        ·have e1:(h.kind==2)=true:=by simpa using ka
         have HB:Hd (IB h.kind=true):=by show _=_;simp [IB,ka]
         clear ka;go_wp2_with fail;go_meet
         case rel=>exact⟨by rw [HB.o],rfl⟩
        ·have e1:(h.kind==2)=false:=by simpa using ka
         by_cases kb:h.kind=12
         ·have e2:(h.kind==12)=true:=by simpa using kb
          have HB:Hd (IB h.kind=true):=by show _=_;simp [IB,kb]
          clear ka kb;go_wp2_with fail;go_meet
          case rel=>exact⟨by rw [HB.o],rfl⟩
         ·have e2:(h.kind==12)=false:=by simpa using kb
          by_cases kc:h.kind=13
          ·have e3:(h.kind==13)=true:=by simpa using kc
           have HB:Hd (IB h.kind=true):=by show _=_;simp [IB,kc]
           clear ka kb kc;go_wp2_with fail;go_meet
           case rel=>exact⟨by rw [HB.o],rfl⟩
          ·have e3:(h.kind==13)=false:=by simpa using kc
           have HB:Hd (IB h.kind=false):=by show _=_;simp [IB,ka,kb,kc]
           clear ka kb kc;go_wp2_with fail;go_meet
           case rel=>exact⟨by rw [HB.o],rfl⟩
       case rest=>
        obtain⟨rfl,rfl⟩:=hcut;go_upto_region 9 with fail;go_cut [5] from 81 to 90 (fun s wx=>s=.bool (Kn h.kind)/\wx=wc)
        case first=>
         by_cases ka:h.kind=11
         ·have e1:(h.kind==11)=true:=by simpa using ka
          have HB:Hd (Kn h.kind=true):=by show _=_;simp [Kn,ka]
          clear ka;go_wp2_with fail;go_meet
          case rel=>exact⟨by rw [HB.o],rfl⟩
         ·have e1:(h.kind==11)=false:=by simpa using ka
          by_cases kb:h.kind=13
          ·have e2:(h.kind==13)=true:=by simpa using kb
           have HB:Hd (Kn h.kind=true):=by show _=_;simp [Kn,kb]
           clear ka kb;go_wp2_with fail;go_meet
           case rel=>exact⟨by rw [HB.o],rfl⟩
          ·have e2:(h.kind==13)=false:=by simpa using kb
           by_cases kc:h.kind=16
           ·have e3:(h.kind==16)=true:=by simpa using kc
            have HB:Hd (Kn h.kind=true):=by show _=_;simp [Kn,kc]
            clear ka kb kc;go_wp2_with fail;go_meet
            case rel=>exact⟨by rw [HB.o],rfl⟩
           ·have e3:(h.kind==16)=false:=by simpa using kc
            have HB:Hd (Kn h.kind=false):=by show _=_;simp [Kn,ka,kb,kc]
            clear ka kb kc;go_wp2_with fail;go_meet
            case rel=>exact⟨by rw [HB.o],rfl⟩
        case rest=>
         obtain⟨rfl,rfl⟩:=hcut;go_upto_region 10 with fail;go_cut [6] from 91 to 96 (fun s wx=>s=.bool (LW h.kind)/\wx=wc)
         case first=>
          by_cases ka:h.kind=15
          ·have e1:(h.kind==15)=true:=by simpa using ka
           have HB:Hd (LW h.kind=true):=by show _=_;simp [LW,ka]
           clear ka;go_wp2_with fail;go_meet
           case rel=>exact⟨by rw [HB.o],rfl⟩
          ·have e1:(h.kind==15)=false:=by simpa using ka
           by_cases kb:h.kind=16
           ·have e2:(h.kind==16)=true:=by simpa using kb
            have HB:Hd (LW h.kind=true):=by show _=_;simp [LW,kb]
            clear ka kb;go_wp2_with fail;go_meet
            case rel=>exact⟨by rw [HB.o],rfl⟩
           ·have e2:(h.kind==16)=false:=by simpa using kb
            have HB:Hd (LW h.kind=false):=by show _=_;simp [LW,ka,kb]
            clear ka kb;go_wp2_with fail;go_meet
            case rel=>exact⟨by rw [HB.o],rfl⟩
         case rest=>
          obtain⟨rfl,rfl⟩:=hcut;obtain⟨q0,q1,q2,q3,q4,q5,q6,q7⟩:=ki.o;have g0:=fun g=>Ez q0 g;have g1:=fun g=>Ez q1 g;have g2:=fun g=>Ez q2 g;have g3:=fun g=>Ez q3 g;have g4:=fun g=>Ez q4 g;have g5:=fun g=>Ez q5 g;have g6:=fun g=>Ez q6 g;have g7:=fun g=>Ez q7 g;have hB:=Ji wc;have jq:=AF (fun g=>K2 (IB h.kind) h.name (D5 h.name) (gw wc g));have ea:=AF (fun g=>K2 (Kn h.kind) h.arg (D5 h.arg) (gw wc g));have jA:=AF (fun g=>K2 (LW h.kind) h.exn (GR h.exn) (gw wc g));generalize kU:Hf (IB h.kind) h.name (D5 h.name)=f1 at *
          generalize fK:Hf (Kn h.kind) h.arg (D5 h.arg)=f2 at *
          generalize jY:Hf (LW h.kind) h.exn (GR h.exn)=f3 at *
          have HR:Hd (DN h n=(f1&&f2&&f3)):=by show _=_;unfold DN;rw [jG.o,aH.o,aF.o,aL.o,kU,fK,jY];rfl
          clear kU fK jY;go_upto_region 11 with fail;cases f1
          ·refine Es (by kernel_rfl) (by kernel_rfl) ?_;repeat ((with_reducible refine AZ (fun K hK=>?_));go_simp;refine hK _ ?_;clear hK K)
           refine AZ (fun K hK=>?_);go_simp;refine⟨(.bool (D5 h.name)),fun _=>Df (IV h.name _),hK _ ?_⟩;clear hK K;repeat ((with_reducible refine AZ (fun K hK=>?_));go_simp;refine hK _ ?_;clear hK K)
           refine AZ (fun K hK=>?_);go_simp;refine⟨(.bool false),fun _=>Df (jq.o _),hK _ ?_⟩;clear hK K;repeat ((with_reducible refine AZ (fun K hK=>?_));go_simp;refine hK _ ?_;clear hK K)
           refine CX ?_;rintro w3 ⟨g,rfl⟩;go_wp2_with fail;go_ret;exact⟨Af HR.o.symm,cg.o.trans ((hB _).mono cg.o.size)⟩
          ·cases f2
           ·refine Es (by kernel_rfl) (by kernel_rfl) ?_;repeat ((with_reducible refine AZ (fun K hK=>?_));go_simp;refine hK _ ?_;clear hK K)
            refine AZ (fun K hK=>?_);go_simp;refine⟨(.bool (D5 h.name)),fun _=>Df (IV h.name _),hK _ ?_⟩;clear hK K;repeat ((with_reducible refine AZ (fun K hK=>?_));go_simp;refine hK _ ?_;clear hK K)
            refine AZ (fun K hK=>?_);go_simp;refine⟨(.bool true),fun _=>Df (jq.o _),hK _ ?_⟩;clear hK K;repeat ((with_reducible refine AZ (fun K hK=>?_));go_simp;refine hK _ ?_;clear hK K)
            refine AZ (fun K hK=>?_);go_simp;refine⟨(.bool (D5 h.arg)),fun _=>Df (IV h.arg _),hK _ ?_⟩;clear hK K;repeat ((with_reducible refine AZ (fun K hK=>?_));go_simp;refine hK _ ?_;clear hK K)
            refine AZ (fun K hK=>?_);go_simp;refine⟨(.bool false),fun _=>Df (ea.o _),hK _ ?_⟩;clear hK K;repeat ((with_reducible refine AZ (fun K hK=>?_));go_simp;refine hK _ ?_;clear hK K)
            refine CX ?_;rintro w3 ⟨g,rfl⟩;go_wp2_with fail;go_ret;exact⟨Af HR.o.symm,cg.o.trans ((hB _).mono cg.o.size)⟩
           ·refine Es (by kernel_rfl) (by kernel_rfl) ?_;repeat ((with_reducible refine AZ (fun K hK=>?_));go_simp;refine hK _ ?_;clear hK K)
            refine AZ (fun K hK=>?_);go_simp;refine⟨(.bool (D5 h.name)),fun _=>Df (IV h.name _),hK _ ?_⟩;clear hK K;repeat ((with_reducible refine AZ (fun K hK=>?_));go_simp;refine hK _ ?_;clear hK K)
            refine AZ (fun K hK=>?_);go_simp;refine⟨(.bool true),fun _=>Df (jq.o _),hK _ ?_⟩;clear hK K;repeat ((with_reducible refine AZ (fun K hK=>?_));go_simp;refine hK _ ?_;clear hK K)
            refine AZ (fun K hK=>?_);go_simp;refine⟨(.bool (D5 h.arg)),fun _=>Df (IV h.arg _),hK _ ?_⟩;clear hK K;repeat ((with_reducible refine AZ (fun K hK=>?_));go_simp;refine hK _ ?_;clear hK K)
            refine AZ (fun K hK=>?_);go_simp;refine⟨(.bool true),fun _=>Df (ea.o _),hK _ ?_⟩;clear hK K;repeat ((with_reducible refine AZ (fun K hK=>?_));go_simp;refine hK _ ?_;clear hK K)
            refine AZ (fun K hK=>?_);go_simp;refine⟨(.bool (GR h.exn)),fun _=>Df (VL h.exn _),hK _ ?_⟩;clear hK K;repeat ((with_reducible refine AZ (fun K hK=>?_));go_simp;refine hK _ ?_;clear hK K)
            refine AZ (fun K hK=>?_);go_simp;refine⟨(.bool f3),fun _=>Df (jA.o _),hK _ ?_⟩;clear hK K;repeat ((with_reducible refine AZ (fun K hK=>?_));go_simp;refine hK _ ?_;clear hK K)
            refine CX ?_;rintro w3 ⟨g,rfl⟩;go_wp2_with fail;go_ret;exact⟨Af HR.o.symm,cg.o.trans ((hB _).mono cg.o.size)⟩
      ·have HR:Hd (DN h n=false):=by show _=_;unfold DN;rw [jG.o,aH.o,aF.o,aL.o];rfl
       go_wp2_with fail;go_ret;exact⟨Af HR.o.symm,cg.o⟩
    ·have HR:Hd (DN h n=false):=by show _=_;unfold DN;rw [jG.o,aH.o,aF.o];rfl
     go_wp2_with fail;go_ret;exact⟨Af HR.o.symm,cg.o⟩
  ·have HR:Hd (DN h n=false):=by show _=_;unfold DN;rw [jG.o,aH.o];rfl
   go_wp2_with fail;go_ret;exact⟨Af HR.o.symm,cg.o⟩
def AH.hd(a:AH):By:=⟨a.kind,a.op,a.at_,a.n,a.name,a.arg,a.exn⟩
def P9(h:By):Bool:=(h.op==0)&&(h.n==0)&&h.arg.toList.isEmpty&&h.exn.toList.isEmpty
def GD(h:By)(n:Nat):Bool:=
 if h.kind=17 then P9 h&&h.name.toList.isEmpty&&decide (0<=h.at_)&&((n:Int)==1)
 else if h.kind=18 then P9 h&&D5 h.name&&decide (0<=h.at_)&&((n:Int)==0)
 else DN h (min n 4)
abbrev zTm:List Value:=[.int .u8 0,.int .u8 0,.int .i64 0,.int .i64 0,.string ⟨#[]⟩,.string ⟨#[]⟩,.string ⟨#[]⟩,.slice none 0 0]
def ZDW(_:Unit):List Value:=zTm
theorem ZDE:(prog.info? 53).map (fun i=>(i.zero,i.size,i.bytes))=some (some (.agg #[.int .u8 0,.int .u8 0,.int .i64 0,.int .i64 0,.string .empty,.string .empty,.string .empty,.slice none 0 0]),8,96):=by kernel_rfl
structure Kq(w:World)(g:Nat)(h:By)(v:Value):Prop where
 blk:w.heap[g]?=some (.cells #[.int .u8 h.kind,.int .u8 h.op,.int .i64 h.at_,.int .i64 h.n,.string h.name,.string h.arg,.string h.exn,v] 53 (0,0))
theorem Kq.cells(hb:Kq w g h v):w.cell? ⟨g,0,none⟩=some (.int .u8 h.kind)/\w.cell? ⟨g,1,none⟩=some (.int .u8 h.op)/\w.cell? ⟨g,2,none⟩=some (.int .i64 h.at_)/\w.cell? ⟨g,3,none⟩=some (.int .i64 h.n)/\w.cell? ⟨g,4,none⟩=some (.string h.name)/\w.cell? ⟨g,5,none⟩=some (.string h.arg)/\w.cell? ⟨g,6,none⟩=some (.string h.exn)/\w.cell? ⟨g,7,none⟩=some v/\w.frozen? ⟨g,7,none⟩=false:=by have hb:=hb.blk;refine⟨?_,?_,?_,?_,?_,?_,?_,?_,?_⟩<;>simp [World.cell?,World.frozen?,hb]
theorem Kq.lt(hb:Kq w g h v):g<w.heap.size:=(AO.1 hb.blk).1
theorem Kq.grown(hb:Kq w g h v)(hg:w.grownBy w' r)(hr:r≠some g):Kq w' g h v:=⟨by rw [hg.block g hb.lt hr.symm];exact hb.blk⟩
theorem Kq.below(hb:Kq w g h v)(h':Below w.heap.size w w'):Kq w' g h v:=⟨by rw [h'.block g hb.lt];exact hb.blk⟩
theorem Kq.set(hb:Kq w g h v)(v':Value):Kq (w.setCell ⟨g,7,none⟩ v') g h v':=⟨by simpa using Aw (o:=7) v' hb.blk⟩
theorem Zy(w:World)(h:By)(v:Value):Kq (w.alloc (.cells #[.int .u8 h.kind,.int .u8 h.op,.int .i64 h.at_,.int .i64 h.n,.string h.name,.string h.arg,.string h.exn,v] 53)) w.heap.size h v:=⟨AG w _⟩
structure ZC3(w wr:World)(h:By)(a:AH)(v:Value)(k:Nat):Prop where
 own:A1 ZDW 8 wr (w.heap.size+3) 53 v k (List.replicate k ())
 box:Kq wr (w.heap.size+2) h v
 kids:wr.cell? ⟨w.heap.size,18,none⟩=some (.slice a.kp a.kn a.kc)
 size:w.heap.size+3<=wr.heap.size
 below:Below w.heap.size w wr
theorem ZC3.add(hi:ZC3 w wr h a v k)(aD:A1 ZDW 8 w3 (w.heap.size+3) 53 v3 (k+1) (List.replicate k ()++[()]))(iw:wr.grownBy w3 v.ownBlock):ZC3 w (w3.setCell ⟨w.heap.size+2,7,none⟩ v3) h a v3 (k+1):=by
 have eB:∀b,v.ownBlock=some b->w.heap.size+3<=b:=fun b hb=>(Aa hi.own b hb).1;have mp:∀b,v3.ownBlock=some b->w.heap.size+3<=b:=fun b hb=>(Aa aD b hb).1;have ag:w3.grownBy (w3.setCell ⟨w.heap.size+2,7,none⟩ v3) (some (w.heap.size+2)):=Ar _ _ _ _;have aG:=hi.size;refine⟨?_,(hi.box.grown iw (fun e=>by have:=eB _ e;omega)).set v3,?_,AM hi.size (AM iw.size ag.size),?_⟩
 ·refine⟨by rw [De];exact aD.1,?_⟩;rw [De];rcases aD.2 with h0|⟨g,cap,cur,rfl,h1,h2,rest⟩
  ·exact .inl h0
  ·refine .inr ⟨g,cap,cur,rfl,h1,?_,rest⟩;rw [ag.block g (AO.1 h2).1 (fun e=>by injection e with e;omega)];exact h2
 ·have h1:=hi.kids;refine Ij ag (fun e=>by injection e with e;have e':w.heap.size+2=w.heap.size:=e;omega) (Ij iw (fun e=>by have:=eB _ e;have:w.heap.size+3<=w.heap.size:=this;omega) h1)
 ·exact(hi.below.grown iw (by omega) (fun b hb=>by have:=eB b hb;omega)).grown ag (by have:=iw.size;omega) (fun b hb=>by injection hb with hb;omega)
structure ZDR(w W:World)(a:AH):Prop where
 h:W.cell? ⟨w.heap.size+1,0,none⟩=some (.int .u8 a.kind)/\W.cell? ⟨w.heap.size+1,1,none⟩=some (.int .u8 a.op)/\W.cell? ⟨w.heap.size+1,2,none⟩=some (.int .i64 a.at_)/\W.cell? ⟨w.heap.size+1,3,none⟩=some (.int .i64 a.n) /\
  W.cell? ⟨w.heap.size+1,4,none⟩=some (.string a.name)/\W.cell? ⟨w.heap.size+1,5,none⟩=some (.string a.arg)/\W.cell? ⟨w.heap.size+1,6,none⟩=some (.string a.exn)
 t:W.cell? ⟨w.heap.size,0,none⟩=some (.int .u8 a.kind)/\W.cell? ⟨w.heap.size,18,none⟩=some (.slice a.kp a.kn a.kc)
 below:Below w.heap.size w W
 size:W.heap.size=w.heap.size+2
theorem ZDR.drop(h:ZDR w W a)(hb:Below W.heap.size W W'):(W'.cell? ⟨w.heap.size+1,2,none⟩=some (.int .i64 a.at_))/\(W'.cell? ⟨w.heap.size,18,none⟩=some (.slice a.kp a.kn a.kc))/\Below w.heap.size w W':=⟨by rw [hb.cell (by rw [h.size];simp)];exact h.h.2.2.1,by rw [hb.cell (by rw [h.size];simp)];exact h.t.2,h.below.trans (hb.mono (by rw [h.size];omega))⟩
def WP(x:Int):List Value:=[.int .u8 x]
theorem DK.u8(h:DK WP 1 w p l)(hx:l[j]?=some x):∃b o,p=some ⟨b,o,none⟩/\w.cell? ⟨b,o+j,none⟩=some (.int .u8 x):=by obtain⟨b,o,hp,_,hc⟩:=h.elem hx;exact⟨b,o,hp,by simpa using hc 0 _ rfl⟩
def KL(l:List Int)(k:Int):Bool:=l.any (·==k)
def JI(a:RH):Bool:=(a.kind==0)&&(a.rho==0)&&((a.en:Int)==0)&&((a.kn:Int)==0)
structure JB(W:World)(b:Nat)(a:AH):Prop where
 blk:W.heap[b]?=some (.cells #[.int .u8 a.kind,.int .u8 a.op,.int .i64 a.at_,.int .i64 a.n,.string a.name,.string a.arg,.string a.exn,.int .i64 a.rho,.slice a.rp a.rn a.rc,.slice a.ep a.en a.ec,.int .u8 a.ty.head.kind,.int .i64 a.ty.head.rho,.slice a.ty.head.ep a.ty.head.en a.ty.head.ec,.slice a.ty.head.kp a.ty.head.kn a.ty.head.kc,.int .u8 a.res.head.kind,.int .i64 a.res.head.rho,.slice a.res.head.ep a.res.head.en a.res.head.ec,.slice a.res.head.kp a.res.head.kn a.res.head.kc,.slice a.kp a.kn a.kc] 31 (0,0))
theorem JB.c(h:JB W b a)(i:Nat)(u:Value)(hu:(FS a)[i]?=some u):W.cell? ⟨b,i,none⟩=some u:=by
 rw [AD h.blk];have:(FS a).toArray[i]?=some u:=by simpa using hu
 exact this
theorem JB.below(h:JB w b a)(hb:Below w.heap.size w w'):JB w' b a:=⟨by rw [hb.block b (AO.1 h.blk).1];exact h.blk⟩
theorem C8(w:World)(a:AH):JB (w.alloc (Bt a)) w.heap.size a:=⟨AG w _⟩
theorem JB.all(h:JB W b a):W.cell? ⟨b,0,none⟩=some (Value.int .u8 a.kind)/\W.cell? ⟨b,1,none⟩=some (Value.int .u8 a.op)/\W.cell? ⟨b,2,none⟩=some (Value.int .i64 a.at_)/\W.cell? ⟨b,3,none⟩=some (Value.int .i64 a.n)/\W.cell? ⟨b,4,none⟩=some (Value.string a.name)/\W.cell? ⟨b,5,none⟩=some (Value.string a.arg)/\W.cell? ⟨b,6,none⟩=some (Value.string a.exn)/\W.cell? ⟨b,7,none⟩=some (Value.int .i64 a.rho)/\W.cell? ⟨b,8,none⟩=some (Value.slice a.rp a.rn a.rc)/\W.cell? ⟨b,9,none⟩=some (Value.slice a.ep a.en a.ec)/\W.cell? ⟨b,10,none⟩=some (Value.int .u8 a.ty.head.kind)/\W.cell? ⟨b,11,none⟩=some (Value.int .i64 a.ty.head.rho)/\W.cell? ⟨b,12,none⟩=some (Value.slice a.ty.head.ep a.ty.head.en a.ty.head.ec)/\W.cell? ⟨b,13,none⟩=some (Value.slice a.ty.head.kp a.ty.head.kn a.ty.head.kc)/\W.cell? ⟨b,14,none⟩=some (Value.int .u8 a.res.head.kind)/\W.cell? ⟨b,15,none⟩=some (Value.int .i64 a.res.head.rho)/\W.cell? ⟨b,16,none⟩=some (Value.slice a.res.head.ep a.res.head.en a.res.head.ec)/\W.cell? ⟨b,17,none⟩=some (Value.slice a.res.head.kp a.res.head.kn a.res.head.kc)/\W.cell? ⟨b,18,none⟩=some (Value.slice a.kp a.kn a.kc):=⟨h.c 0 _ rfl,h.c 1 _ rfl,h.c 2 _ rfl,h.c 3 _ rfl,h.c 4 _ rfl,h.c 5 _ rfl,h.c 6 _ rfl,h.c 7 _ rfl,h.c 8 _ rfl,h.c 9 _ rfl,h.c 10 _ rfl,h.c 11 _ rfl,h.c 12 _ rfl,h.c 13 _ rfl,h.c 14 _ rfl,h.c 15 _ rfl,h.c 16 _ rfl,h.c 17 _ rfl,h.c 18 _ rfl⟩
def XD(k:Int)(l:List Int)(i:Nat)(x:Int):Bool:=!(decide (x<0)||(k==13)&&((x==0)||Kp (l.take i) x))
def X0(k:Int)(l:List Int)(n:Nat):Bool:=(List.range n).all (fun i=>match l[i]? with|some x=>XD k l i x|none=>true)
theorem ZCE(h:LR.lies w t):Dz w t.head t.kids:=by rw [Ad.eta t] at h;exact Fs h
def IR(a:AH):Bool:=!(!(GD a.hd a.kn)||decide (a.rho<0)||((a.kind==17)&&(a.rho==0))||(!(KL [3,6,11,13,17,18] a.kind)&&(a.rho != 0)))&&!((a.kind != 13)&&(a.kind != 18)&&decide (0<a.rn))&&X0 a.kind a.rhos a.rn&&!(!(KL [11,13,18] a.kind)&&decide (0<a.en)||!(ID a.eff))&&!(KL [11,13,15] a.kind&&!(FK a.ty.er)||!(KL [11,13,15] a.kind)&&!(JI a.ty.head))&&((a.kind==13)&&FK a.res.er||(a.kind != 13)&&JI a.res.head)
def rowU(W:World)(b:Nat)(l:List Int):Prop:=DK WP 1 W (some ⟨b,0,none⟩) l
theorem UX(hn:l.length=n)(hm:n<=1000000)(hr:DK WP 1 w p l)(x:Int):Calls prog 257 #[.slice p n cap,.int .u8 x] w fun e w'=>(∃r:Int,e=.returned (.int .i64 r)/\decide (r>=0)=KL l x)/\w=w':=by
 have HR:=AF hr;have HN:=AF hn;clear hr hn;go_enter func257,ntmps257;go_wp2_with fail;go_loop [5,8] (fun _ i=>∃j:Nat,j<=n/\i=.int .i64 j/\(l.take j).any (·==x)=false) (fun _ i=>n-(intOf i).toNat)
 case atStart=>exact⟨0,by omega,rfl,by simp⟩
 case round=>
  obtain⟨j,hj,rfl,an⟩:=hrel;have ax:=AF an;clear an;by_cases aG:j<n
  ·obtain⟨y,hy⟩:=Bh (l:=l) (j:=j) (by rw [HN.o];exact aG);have HE:=AF hy;obtain⟨b,o,rfl,d0⟩:=HR.o.u8 hy;clear hy;cases hq:(x==y)
   ·have HQ:=AF hq;go_wp2_with fail;go_round
    case rel=>exact⟨j+1,by omega,by go_num,by rw [FA HE.o,ax.o,Db,HQ.o];rfl⟩
    case measure=>simp [intOf];omega
   ·have HQ:=AF hq;go_wp2_with fail;go_ret;exact⟨⟨j,rfl,by rw [show KL l x=true from J5 HE.o (by rw [Db];exact HQ.o)];simp⟩,rfl⟩
  ·go_wp2_with fail;go_ret;have h:=ax.o;rw [Bb (by rw [HN.o];omega)] at h;exact⟨⟨-1,rfl,by rw [show KL l x=false from h];decide⟩,rfl⟩
theorem P7(hn:l.length=n)(hm:n<=1000000)(hr:DK WP 1 w p l)(x:Int):Calls prog 234 #[.slice p n cap,.int .u8 x] w fun e w'=>e=.returned (.bool (KL l x))/\w=w':=by
 have HC:=AF (UX (cap:=cap) hn hm hr x);clear hr hn;go_enter func234,ntmps234;go_wp2_with fail;refine HC.o.mono ?_;rintro e w1 ⟨⟨r,rfl,hr⟩,rfl⟩;have HR:=AF hr;clear hr;go_wp2_with fail
 all_goals (try go_ret)
 all_goals exact⟨Af (by rw [<-HR.o]),rfl⟩
def M0(s:ByteArray):List Int:=s.data.toList.map (fun b=>(b.toNat:Int))
def Jj(s:ByteArray)(x:Int):Bool:=KL (M0 s) x
theorem YI(w:World)(e:TypeId)(s:ByteArray):DK WP 1 (Lib.bytesWorld w e s) (some ⟨w.heap.size,0,none⟩) (M0 s):=by
 refine .inr ⟨_,0,rfl,by rw [Lib.bytesWorld_size];exact Nat.lt_succ_self _,fun j x hx i v hv=>?_⟩;have hj:j<s.size:=by have:=(BJ.1 hx).1;simpa [M0] using this
 have hi:i=0:=by
  cases i with
  |zero=>rfl
  |succ i=>simp [WP] at hv
 subst hi;have gN:v=.int .u8 x:=by simpa [WP] using hv.symm
 have:=Lib.bytesWorld_cell w e s j hj;rw [gN];simp only [BP,Nat.mul_one,Bd];rw [this]
 have fY:((s.data.toList.getD j 0).toNat:Int)=x:=by
  have h2:(M0 s)[j]?=some ((s.data.toList.getD j 0).toNat:Int):=by unfold M0;rw [A7,List.getD,AI (by simpa using hj)];simp
  rw [h2] at hx;exact A8 hx
 rw [fY]
theorem Ub(w:World)(e:TypeId)(s:ByteArray):Below w.heap.size w (Lib.bytesWorld w e s):=⟨rfl,rfl,rfl,by rw [Lib.bytesWorld_size];omega,fun j hj=>Lib.bytesWorld_at_old w e s j hj⟩
theorem KU(k:Int)(s:ByteArray)(x:Int)(hs:s.size<=1000)(w:World):Calls prog 205 #[.agg #[.int .i64 k,.string s],.int .u8 x] w (RB w (.bool (Jj s x))):=by
 have HB:=AF (((AA w.heap.size w).alloc (AB _) (.cells #[.int .i64 k,.string s] 244)));have hl:(M0 s).length=s.size:=by simp [M0]
 go_enter func205,ntmps205;have wy:=Lib.run_convert_string_bytes (P:=prog) (w.alloc (.cells #[.int .i64 k,.string s] 244)) 9 166 5 s underlying9 underlying166 underlying5;have HR:=AF (YI (w.alloc (.cells #[.int .i64 k,.string s] 244)) 5 s);have aF:=AF (HB.o.trans ((Ub (w.alloc (.cells #[.int .i64 k,.string s] 244)) 5 s).mono HB.o.size));generalize Lib.bytesWorld (w.alloc (.cells #[.int .i64 k,.string s] 244)) 5 s=w2 at *
 generalize grownCap (w.alloc (.cells #[.int .i64 k,.string s] 244)) s.size 0 5=cp at *
 simp only [AN] at wy HR;go_wp2_with fail;refine(P7 hl (by omega) HR.o x).mono ?_;rintro e w3 ⟨rfl,rfl⟩;go_wp2_with fail;go_ret;exact⟨rfl,aF.o⟩
def YB(fid:FuncId)(q:ByteArray->Bool)(w:World):Prop:=∀(s:ByteArray) (W:World) (g:Nat),Below w.heap.size w W->DK Ib 1 W (some ⟨g,0,none⟩) [s]->Calls prog fid #[.slice (some ⟨g,0,none⟩) 1 1] W fun e w'=>e=.returned (.bool (q s))/\Below W.heap.size W w'
theorem YB.below(h:YB fid q w)(hb:Below w.heap.size w W):YB fid q W:=fun s W' g ab hr=>h s W' g (hb.trans (ab.mono hb.size)) hr
theorem Sj(hv:Vr w):YB 207 D5 w:=fun s W g hb hr=>by have:=RU (hv.below hb) (some ⟨g,0,none⟩) 1 1 [s] rfl (by decide) hr;simpa using this
theorem ZBJ(w:World):YB 174 GR w:=fun s W g hb hr=>by have:=Mt (some ⟨g,0,none⟩) 1 1 [s] W rfl (by decide) hr;simpa using this
def Ih(has:Bool)(q:ByteArray->Bool)(t:ByteArray):Bool:=if has then q t else t.toList.isEmpty
theorem JL(eg:∀args w,(callFunc fid args).run prog w=.ok (.enter fid args) w)(k:Int)(s:ByteArray)(x:Int)(t:ByteArray)(hs:s.size<=1000)(hq:YB fid q w):Calls prog 206 #[.agg #[.int .i64 k,.string s],.int .u8 x,.string t,.func (.func fid) #[] #[]] w (RB w (.bool (Ih (Jj s x) q t))):=by
 have HB:=AF (((AA w.heap.size w).alloc (AB _) (.cells #[.int .i64 k,.string s] 244)));have HQ:=AF (hq.below HB.o);clear hq;go_enter func206,ntmps206;cases hh:Jj s x
 ·have HH:=AF hh;have HC:=AF (KU k s x hs (w.alloc (.cells #[.int .i64 k,.string s] 244)));rw [hh] at HC;clear hh;go_wp2_with (go_at_call 205;refine HC.o.mono ?_;rintro e w2 ⟨rfl,hb⟩;have aF:=bt HB hb;clear hb);go_ret;exact⟨Af rfl,aF.o⟩
 ·have HC:=AF (KU k s x hs (w.alloc (.cells #[.int .i64 k,.string s] 244)));rw [hh] at HC;clear hh
  go_wp2_with (first
   |(go_at_call 205;refine HC.o.mono ?_;rintro e w2 ⟨rfl,hb⟩;have aF:=bt HB hb;have cE:=AF (HQ.o.below hb);clear hb)
   |(go_at_fn fid;refine(cE.o t _ _ bA (DK.newAt Hh _ [t] _ (by simp [Ib]) _ _ _ rfl)).mono ?_;rintro e w3 ⟨rfl,hb⟩;have aL:=AF (aF.o.trans ((((AA _ w2).alloc (AB _) _).trans (hb.mono (by simp))).mono aF.o.size));clear hb))
  go_ret;exact⟨Af rfl,aL.o⟩
end Go.Proofs.YtkdjnegfnhldpaaGreatDoor
