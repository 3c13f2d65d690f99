/- Part 04. -/
import Derived.Deep.AppendSrc
import Derived.ProofKit
import Derived.OpenShut
import Derived.Deep.Slices
import Derived.Deep.SlicePairs
import Derived.Lib.SmallJoins
import Derived.ChangeOld
import Derived.Lib.LaidTab
import Derived.LaidLaws
import Derived.Stop.LaidErr
import Derived.Test.YtkdjnegfnhldpaaGreatDoorK03
set_option linter.unusedVariables false
set_option maxRecDepth 100000
set_option linter.unusedSimpArgs false
set_option maxHeartbeats 40000000
set_option autoImplicit true
set_option relaxedAutoImplicit true
namespace Go.Proofs.YtkdjnegfnhldpaaGreatDoor
open Go.Proofs.Tryz Go.RowKit
section
open Go.Sort Go.Lib
def inS(l:List ByteArray)(x:ByteArray):Bool:=l.any (fun y=>decide (y=x))
theorem ZB0(l:List ByteArray)(x:ByteArray):inS l x=true↔x∈l:=by
 unfold inS;rw [Dp];constructor
 ·rintro⟨y,hy,h⟩;have:y=x:=by simpa using h
  subst this;exact hy
 ·intro h;exact⟨x,h,by simp⟩
theorem ZBz(l:List Int)(x:Int):Kp l x=true↔x∈l:=by
 unfold Kp;rw [Dp];constructor
 ·rintro⟨y,hy,h⟩;have:y=x:=by simpa using h
  subst this;exact hy
 ·intro h;exact⟨x,h,by simp⟩
theorem Jo(h:Ax DE 1 w p n cap l)(x:Int):Calls prog 183 #[.slice p n cap,.int .i64 x] w fun e w'=>e=.returned (.bool (Kp l x))/\w=w':=by
 have e1:Kp l x=l.contains x:=by rw [Bu,ZBz];simp
 by_cases h0:n=0
 ·subst h0;have:l=[]:=BA.1 h.len;subst this;exact(slices_Contains_int_empty p cap x w).mono fun _ _ ⟨he,hw⟩=>⟨he,hw.symm⟩
 ·obtain⟨b,o,rfl,_,hc⟩:=h.row.at (by rw [h.len];omega)
  have:=slices_Contains_int b o n cap l x w (by rw [h.len];omega) h.max (fun j hj=>by
   have:=hc j (l[j]) (AI hj) 0 _ rfl;simpa [List.getD,hj] using this)
  rw [BU (by rw [h.len];omega),<-e1] at this;exact this.mono fun _ _ ⟨he,hw⟩=>⟨he,hw.symm⟩
theorem Q8(h:Ax Ib 1 w p n cap l)(x:ByteArray):Calls prog 222 #[.slice p n cap,.string x] w fun e w'=>e=.returned (.bool (inS l x))/\w=w':=by
 have e1:inS l x=Lib.containsS l x:=by rw [Bu,Lib.containsS_iff,ZB0]
 by_cases h0:n=0
 ·subst h0;have:l=[]:=BA.1 h.len;subst this;exact(slices_Contains_string_empty p cap x w).mono fun _ _ ⟨he,hw⟩=>⟨he,hw.symm⟩
 ·obtain⟨b,o,rfl,_,hc⟩:=h.row.at (by rw [h.len];omega)
  have:=slices_Contains_string b o n cap l x w (by rw [h.len];omega) h.max (fun j hj=>by
   have:=hc j (l[j]) (AI hj) 0 _ rfl;simpa [List.getD,hj] using this)
  rw [BU (by rw [h.len];omega),<-e1] at this;exact this.mono fun _ _ ⟨he,hw⟩=>⟨he,hw.symm⟩
theorem QP(fid:FuncId)(caps:Array Value)(ay:Hv fid)(w:World):Calls prog 250 #[.slice none 0 0,.func (.func fid) #[] caps] w (RB w (.slice none 0 0)):=by
 have kF:=AF (JC fid caps (fun _=>true) ay none 0 0 [] w rfl (by omega) (.inl rfl) (fun x hx=>by cases hx));clear ay;go_enter func250,ntmps250;go_wp2_with fail;refine kF.o.mono ?_;rintro e w1 ⟨⟨r,rfl,hr⟩,hb⟩
 have iN:r=-1:=by
  rcases hr with⟨h,_⟩|⟨k,x,_,hx,_⟩
  ·exact h
  ·simp at hx
 subst iN;have HB:=AF hb;clear hb;clear hr;go_wp2_with fail;go_ret;exact⟨rfl,HB.o⟩
theorem NY.trans(h:NY fid caps B w l q)(hb:Below B w w'):NY fid caps B w' l q:=fun x hx W hW=>h x hx W (hb.trans hW)
theorem Um(fid:FuncId)(caps:Array Value)(q:BB->Bool)(ay:Hv fid)(hr:Ax Ce 3 w p n cap l)(hm:n<=1000000)(hf:NY fid caps w.heap.size w (IA (l.filter DF)) q):Calls prog 220 #[.slice p n cap,.func (.func fid) #[] caps] w fun e w'=>∃v m,e=.returned v/\m<=n/\A1 Ce 3 w' w.heap.size 59 v m ((IA (l.filter DF)).filter (fun x=>!q x))/\Below w.heap.size w w':=by
 have HR:=AF hr;have HF:=AF hf;clear hr hf;have kC:=AF (fun W=>QP fid caps ay W)
 have HD:=AF (fun(g c m:Nat) (W:World) (h:A1 Ce 3 W w.heap.size 59 (.slice (some ⟨g,0,none⟩) m c) m (IA (l.filter DF))) (h1:m<=c) (h2:m<=1000000) (hb:Below w.heap.size w W)=>
  QO fid caps q ay g c m _ w.heap.size W h h1 h2 hb.size (HF.o.trans hb))
 clear ay;go_enter func220,ntmps220;go_wp2_with fail;refine(FB p n cap l _ HR.o.len hm HR.o.row).mono ?_;rintro e w1 ⟨v,m,rfl,ic,aD,hb⟩;rcases aD.split BF (by omega) with⟨rfl,rfl,aj⟩|⟨g,cp,rfl,ml,jU⟩
 ·have gj:=AF aj;have HB:=AF hb;clear hb;clear aD aj;go_wp2_with fail;refine(kC.o _).mono ?_;rintro e w2 ⟨rfl,hb⟩;have aF:=bt HB hb;clear hb;go_wp2_with fail;go_ret;exact⟨_,0,rfl,by omega,by rw [gj.o];exact A1.nil _ _ _ _ _,aF.o⟩
 ·have HO:=AF aD;have HB:=AF hb;clear hb;clear aD;go_wp2_with fail;refine(HD.o g cp m _ HO.o ml (by omega) HB.o).mono ?_;rintro e w2 ⟨m',rfl,eJ,ie,hb⟩;have af:=AF ie;have aF:=AF (HB.o.trans hb);clear hb ie;go_wp2_with fail;go_ret;exact⟨_,m',rfl,by omega,af.o,aF.o⟩
def SQ(rhos:List Int)(x:BB):Bool:=decide (x.kind≠3)&&Kp rhos x.rho
theorem T7(x:BB)(ad:Addr)(q:Option Addr)(m mc:Nat)(l:List Int)(w:World)(ac:w.cell? ad=some (.slice q m mc))(hr:Ax DE 1 w q m mc l):Calls prog 223 #[TC x,.pointer (some ad)] w (RB w (.bool (SQ l x))):=by
 have eU:(w.alloc (.cells #[.int .u8 x.kind,.int .i64 x.rho,.string x.exn] 59)).cell? ad=some (.slice q m mc):=by rw [Lm (D9 ac)];exact ac
 obtain⟨kd,rr,ss⟩:=x;have HR:=AF hr;clear hr;clear ac;by_cases h3:kd=3
 ·subst h3;go_enter func223,ntmps223;go_wp2_with fail;go_ret;exact⟨rfl,bA⟩
 ·have ri:(kd != 3)=true:=by simpa using h3
  have HG:Hd (SQ l ⟨kd,rr,ss⟩=Kp l rr):=by show _=_;simp [SQ,h3]
  clear h3;go_enter func223,ntmps223;go_wp2_with fail;refine(Jo (HR.o.alloc _) rr).mono ?_;rintro e w1 ⟨rfl,rfl⟩;go_wp2_with fail;go_ret;exact⟨Af HG.o.symm,bA⟩
def IY(l:List BB)(rhos:List Int):List BB:=(IA (l.filter DF)).filter (fun x=>!SQ rhos x)
theorem M3(hr:Ax Ce 3 w p n cap l)(hm:n<=1000000)(bW:Ax DE 1 w q m mc rhos):Calls prog 196 #[.slice p n cap,.slice q m mc] w fun e w'=>∃v k,e=.returned v/\k<=n/\A1 Ce 3 w' w.heap.size 59 v k (IY l rhos)/\Below w.heap.size w w':=by
 have HD:=AF (fun t=>Um 223 #[.pointer (some ⟨w.heap.size,0,none⟩)] (SQ rhos) (fun a w=>call223 a w) (hr.alloc (.cells #[.slice q m mc] t)) hm
  (fun x _ W hW=>by
   have:=T7 x ⟨w.heap.size,0,none⟩ q m mc rhos W (by rw [hW.cell (by simp),Bq];rfl) ((bW.alloc _).below hW);simpa using this))
 clear hr bW;go_enter func196,ntmps196;go_wp2_with fail;refine(HD.o _).mono ?_;rintro e w1 ⟨v,k,rfl,hk,aD,hb⟩;have HB:=AF (((AA _ w).alloc (AB _) _).trans (hb.mono (by simp)));have HO:=AF (aD.lower (base':=w.heap.size) (by simp));clear hb aD;go_wp2_with fail;go_ret;exact⟨_,k,rfl,hk,HO.o,HB.o⟩
def O0(exns:List ByteArray)(x:BB):Bool:=decide (x.kind=3)&&inS exns x.exn
theorem TS(x:BB)(ad:Addr)(q:Option Addr)(m mc:Nat)(l:List ByteArray)(w:World)(ac:w.cell? ad=some (.slice q m mc))(hr:Ax Ib 1 w q m mc l):Calls prog 221 #[TC x,.pointer (some ad)] w (RB w (.bool (O0 l x))):=by
 have eU:(w.alloc (.cells #[.int .u8 x.kind,.int .i64 x.rho,.string x.exn] 59)).cell? ad=some (.slice q m mc):=by rw [Lm (D9 ac)];exact ac
 obtain⟨kd,rr,ss⟩:=x;have HR:=AF hr;clear hr;clear ac;by_cases h3:kd=3
 ·subst h3;have HG:Hd (O0 l ⟨3,rr,ss⟩=inS l ss):=by show _=_;simp [O0]
  go_enter func221,ntmps221;go_wp2_with fail;refine(Q8 (HR.o.alloc _) ss).mono ?_;rintro e w1 ⟨rfl,rfl⟩;go_wp2_with fail;go_ret;exact⟨Af HG.o.symm,bA⟩
 ·have ri:(kd==3)=false:=by rw [AW];exact h3
  have HG:Hd (O0 l ⟨kd,rr,ss⟩=false):=by show _=_;simp [O0,h3]
  clear h3;go_enter func221,ntmps221;go_wp2_with fail;go_ret;exact⟨Af HG.o.symm,bA⟩
def Hi(l:List BB)(exns:List ByteArray):List BB:=(IA (l.filter DF)).filter (fun x=>!O0 exns x)
theorem M2(hr:Ax Ce 3 w p n cap l)(hm:n<=1000000)(bW:Ax Ib 1 w q m mc exns):Calls prog 195 #[.slice p n cap,.slice q m mc] w fun e w'=>∃v k,e=.returned v/\k<=n/\A1 Ce 3 w' w.heap.size 59 v k (Hi l exns)/\Below w.heap.size w w':=by
 have HD:=AF (fun t=>Um 221 #[.pointer (some ⟨w.heap.size,0,none⟩)] (O0 exns) (fun a w=>call221 a w) (hr.alloc (.cells #[.slice q m mc] t)) hm
  (fun x _ W hW=>by
   have:=TS x ⟨w.heap.size,0,none⟩ q m mc exns W (by rw [hW.cell (by simp),Bq];rfl) ((bW.alloc _).below hW);simpa using this))
 clear hr bW;go_enter func195,ntmps195;go_wp2_with fail;refine(HD.o _).mono ?_;rintro e w1 ⟨v,k,rfl,hk,aD,hb⟩;have HB:=AF (((AA _ w).alloc (AB _) _).trans (hb.mono (by simp)));have HO:=AF (aD.lower (base':=w.heap.size) (by simp));clear hb aD;go_wp2_with fail;go_ret;exact⟨_,k,rfl,hk,HO.o,HB.o⟩
end
section
open Go.Sort Go.Lib
theorem Ii(h:Fg l=false):l.length<=200:=by unfold Fg at h;simp only [A5,BE] at h;have:=h.1;omega
theorem Vi{w:World}{p q:Option Addr}{n m nc mc:Nat}(l l':List BB)(t:TypeId):DK J7 1 (w.alloc (.cells #[.slice p n nc,.slice q m mc] t)) (some ⟨w.heap.size,0,none⟩) [⟨p,n,nc,l⟩,⟨q,m,mc,l'⟩]:=DK.newAt SM w _ _ rfl _ _ _ rfl
theorem ZBd(h:Ax Ce 3 w p n nc l)(h':Ax Ce 3 w q m mc l'):∀r∈[(⟨p,n,nc,l⟩:SF BB),⟨q,m,mc,l'⟩],r.Ok Ce 3 w:=by
 intro r hr;simp only [AS,Al,BN] at hr;rcases hr with rfl|rfl
 ·exact⟨h.len,h.le,h.nil,h.row⟩
 ·exact⟨h'.len,h'.le,h'.nil,h'.row⟩
theorem Nt(l:List BB)(rhos:List Int)(x:BB):x∈IY l rhos↔x∈l/\DF x=true/\SQ rhos x=false:=by unfold IY;rw [Bg,Ha,Bg];simp [and_assoc]
theorem Ns(l:List BB)(exns:List ByteArray)(x:BB):x∈Hi l exns↔x∈l/\DF x=true/\O0 exns x=false:=by unfold Hi;rw [Bg,Ha,Bg];simp [and_assoc]
abbrev GV(l:List BB):List BB:=IA (l.filter DF)
theorem Xy{w:World}{p:Option Addr}{n nc:Nat}(l:List BB)(t:TypeId):DK J7 1 (w.alloc (.cells #[.slice p n nc] t)) (some ⟨w.heap.size,0,none⟩) [⟨p,n,nc,l⟩]:=DK.newAt SM w _ _ rfl _ _ _ rfl
theorem ZAs(h:Ax Ce 3 w p n nc l):∀r∈[(⟨p,n,nc,l⟩:SF BB)],r.Ok Ce 3 w:=by intro r hr;simp only [AS,Al,BN] at hr;subst hr;exact⟨h.len,h.le,h.nil,h.row⟩
end
def IT(a:Int):List Int->List Int
 |[]=>[a]
 |b::l=>if Nr a b then a::b::l else b::IT a l
def NE(a:Int)(e:List Int):List Int:=if Kp e a then e else IT a e
theorem Js(a:Int):∀l:List Int,(IT a l).length=l.length+1
 |[]=>rfl
 |b::l=>by
  simp only [IT];split
  ·rfl
  ·simp [Js a l]
theorem L4(a x:Int):∀l:List Int,x∈IT a l↔x=a\/x∈l
 |[]=>by simp [IT]
 |b::l=>by
  unfold IT;by_cases h:Nr a b=true
  ·rw [AJ h];simp
  ·rw [AC h,AS,L4 a x l,AS];constructor
   ·rintro(h|h|h)
    ·exact .inr (.inl h)
    ·exact .inl h
    ·exact .inr (.inr h)
   ·rintro(h|h|h)
    ·exact .inr (.inl h)
    ·exact .inl h
    ·exact .inr (.inr h)
theorem MB(a:Int):∀l:List Int,FD Nr l->a∉l->FD Nr (IT a l)
 |[],_,_=>by simp [IT,FD]
 |b::l,hr,hn=>by
  obtain⟨hb,hl⟩:=Bv.1 hr;unfold IT;by_cases h:Nr a b=true
  ·rw [AJ h];refine Bv.2 ⟨fun x hx=>?_,hr⟩;rcases AS.1 hx with rfl|hx
   ·exact h
   ·exact OY _ _ _ h (hb x hx)
  ·rw [AC h];refine Bv.2 ⟨fun x hx=>?_,MB a l hl (fun h=>hn (Cu _ h))⟩;rcases (L4 a x l).1 hx with rfl|hx
   ·cases e:Nr b x with
    |true=>rfl
    |false=>exact absurd (AS.2 (.inl (Pp _ _ (by simpa using h) e))) hn
   ·exact hb x hx
theorem Nj(l:List Int)(x:Int):Kp l x=true↔x∈l:=by
 unfold Kp;rw [Dp];constructor
 ·rintro⟨y,hy,h⟩;have:y=x:=by simpa using h
  subst this;exact hy
 ·intro h;exact⟨x,h,by simp⟩
theorem ZAj(a x:Int)(l:List Int):x∈NE a l↔x=a\/x∈l:=by
 unfold NE;by_cases h:Kp l a=true
 ·rw [AJ h];constructor
  ·exact .inr
  ·rintro(rfl|h')
   ·exact(Nj _ _).1 h
   ·exact h'
 ·rw [AC h,L4]
theorem VP(a:Int)(l:List Int)(hr:FD Nr l):FD Nr (NE a l):=by
 unfold NE;by_cases h:Kp l a=true
 ·rw [AJ h];exact hr
 ·rw [AC h];exact MB a l hr (fun hm=>h ((Nj l a).2 hm))
theorem VK(a:Int)(l:List Int):(NE a l).length<=l.length+1:=by
 unfold NE;split
 ·omega
 ·rw [Js];omega
theorem Qf:(prog.info? 3).map (fun i=>(i.zero,i.size,i.bytes))=some (some (.int .i64 0),1,8):=by kernel_rfl
theorem Kd(y:Int):∀u∈DE y,u.oneCell'=true:=by intro u hu;simp [DE] at hu;subst hu;rfl
theorem Ie(a b:ByteArray):(a.toList==b.toList)=decide (a=b):=by
 by_cases h:a=b
 ·subst h;simp
 ·rw [CY h,AW];exact fun e=>h (K9 e)
theorem VM(hr:Ax Ib 1 w p n cap l)(s:ByteArray):Calls prog 70 #[.slice p n cap,.string s] w fun e w'=>e=.returned (.bool (l.any (fun y=>decide (y=s))))/\w=w':=by
 have uy:=hr.max;have HR:=AF hr;clear hr;go_enter func70,ntmps70;go_wp2_with fail;go_loop [5,8] (fun _ i=>∃k:Nat,k<=n/\i=.int .i64 k/\(l.take k).any (fun y=>decide (y=s))=false) (fun _ i=>n-(intOf i).toNat)
 case atStart=>exact⟨0,by omega,rfl,by simp⟩
 case round=>
  obtain⟨k,hk,rfl,an⟩:=hrel;have ax:=AF an;clear an;by_cases aG:k<n
  ·obtain⟨y,hy⟩:=Bh (l:=l) (j:=k) (by rw [HR.o.len];exact aG);have HE:=AF hy;obtain⟨b,o,rfl,d0⟩:=HR.o.row.str hy;clear hy;by_cases hq:y=s
   ·have hb:(y.toList==s.toList)=true:=by rw [Ie];simpa using hq
    have HQ:=AF hq;clear hq;go_wp2_with fail;go_ret;exact⟨Af (by rw [J5 HE.o];simpa using HQ.o),rfl⟩
   ·have hb:(y.toList==s.toList)=false:=by rw [Ie];simpa using hq
    have HQ:=AF hq;clear hq;go_wp2_with fail;go_round
    case rel=>exact⟨k+1,by omega,by go_num,by rw [FA HE.o,ax.o];simpa using HQ.o⟩
    case measure=>simp [intOf];omega
  ·go_wp2_with fail;go_ret;have h:=ax.o;rw [Bb (by rw [HR.o.len];omega)] at h;exact⟨Af h.symm,rfl⟩
section
open Go.Sort Go.Lib
theorem Xk(l:List Int):l.flatMap DE=l.map (Value.int .i64):=by
 induction l with
 |nil=>rfl
 |cons a l ih=>rw [Br,ih];rfl
theorem Wh{w:World}{g:Nat}{cur:Array Value}{e:TypeId}{ss:List Int}(hb:w.heap[g]?=some (.cells cur e (0,0)))(ht:cur.toList.take ss.length=ss.map (Value.int .i64)):Holds (Value.int .i64) w g 0 ss.toArray:=by
 intro j hj;have gu:j<ss.length:=by simpa using hj
 refine⟨?_,by simp [World.frozen?,hb]⟩;have h1:(cur.toList.take ss.length)[j]?=(ss.map (Value.int .i64))[j]?:=by rw [ht]
 rw [BQ gu] at h1;simp only [World.cell?,hb,BP];simp only [Option.isSome_none,Ex,if_false];rw [<-Bj,h1];simp [gu]
theorem T3(cur:Array Value)(ts:List Int)(h:ts.length<=cur.size):(putCells (Value.int .i64) 0 ts.toArray cur).toList.take ts.length=ts.map (Value.int .i64):=by
 apply DA;intro j;by_cases hj:j<ts.length
 ·rw [BQ hj,Bj];simp [putCells,hj,show j<cur.size by omega]
 ·rw [CC (by omega),Bm (by simp;omega)]
theorem TW(d:Array Int)(hb:w.heap[g]?=some (.cells cur e fr)):(grow (putRow (Value.int .i64) (Sort.ahead w n) g 0 d) os).heap[g]?=some (.cells (putCells (Value.int .i64) 0 d cur) e fr):=by have hg:g<w.heap.size:=(AO.1 hb).1;rw [heap_grow_old _ _ (by simpa using hg)];simp [putRow,mapBlock,Sort.ahead,C5,hb,onCells]
theorem PP{w:World}{g n:Nat}{os:Array Obj}(d:Array Int):w.grownBy (grow (putRow (Value.int .i64) (Sort.ahead w n) g 0 d) os) (some g):=by refine⟨rfl,rfl,rfl,by simp,fun k hk aM=>?_⟩;rw [heap_grow_old _ _ (by simpa using hk)];have:g≠k:=fun e=>aM (by rw [e]);simp [putRow,mapBlock,Sort.ahead,C5,this]
theorem A1.holdsN(h:A1 DE 1 w base e (.slice (some ⟨g,0,none⟩) n cap) n l):Holds (Value.int .i64) w g 0 l.toArray/\g<w.heap.size:=by
 have cu:=h.len DR (by omega);rcases h.2 with⟨h0,_⟩|⟨g',cap',cur,hv,hb,hg,hn,hm,hs,ht⟩
 ·cases h0
 ·cases hv
  refine⟨Wh hg ?_,(AO.1 hg).1⟩;rw [<-Xk,cu];simpa using ht
theorem A1.putN(h:A1 DE 1 w base e (.slice (some ⟨g,0,none⟩) n cap) n l)(hl:l'.length=l.length)(m:Nat)(os:Array Obj):A1 DE 1 (grow (putRow (Value.int .i64) (Sort.ahead w m) g 0 l'.toArray) os) base e (.slice (some ⟨g,0,none⟩) n cap) n l'/\w.grownBy (grow (putRow (Value.int .i64) (Sort.ahead w m) g 0 l'.toArray) os) (some g):=by
 have cu:=h.len DR (by omega);rcases h.2 with⟨h0,_⟩|⟨g',cap',cur,hv,hb,hg,hn,hm,hs,ht⟩
 ·cases h0
 ·cases hv
  refine⟨⟨by rw [Xk];simp [hl,cu],.inr ⟨g,cap,_,rfl,hb,TW _ hg,hn,hm,by simp [putCells,hs],?_⟩⟩,PP _⟩;rw [Xk,Nat.mul_one,<-cu,<-hl];exact T3 cur l' (by rw [hl,cu,hs];omega)
theorem We(w:World):grow w #[]=w:=by simp [grow]
theorem JK(h:∀i j,i<j->j<d.size->Nr d[j]! d[i]! = false):∀m,m<=d.size->FD Nr (compactUpTo d m)
 |0,_=>by simp [compactUpTo,FD]
 |m+1,hm=>by
  rw [compactUpTo_succ];by_cases c:keeps d m=true
  ·rw [AJ c];refine List.pairwise_append.2 ⟨JK h m (by omega),by simp,?_⟩;intro x hx y hy;obtain⟨j,hj,rfl⟩:=(GY d x m).1 hx;have:y=d[m]!:=by simpa using hy
   subst this;have hc:m=0\/d[m]!≠d[m-1]!:=by simpa [keeps] using c
   have aM:d[m]!≠d[m-1]!:=hc.resolve_left (by omega);have h1:=h (m-1) m (by omega) (by omega)
   have h2:j=m-1\/Nr d[m-1]! d[j]! = false:=by
    by_cases e:j=m-1
    ·exact .inl e
    ·exact .inr (h j (m-1) (by omega) (by omega))
   unfold Nr at h1 h2 ⊢;simp only [Ai,BE] at h1 h2 ⊢;rcases h2 with e|h2
   ·rw [e];omega
   ·omega
  ·rw [AC c,B6];exact JK h m (by omega)
abbrev Im(l:List Int):List Int:=l.mergeSort fun x y=>decide (x<=y)
theorem Ro(l:List Int):(Im l).Pairwise (fun a b=>Nr b a=false):=by have:=List.pairwise_mergeSort (le:=fun x y:Int=>decide (x<=y)) (fun a b c h1 h2=>by simp at *;omega) (fun a b=>by simp;omega) l;refine this.imp ?_;intro a b h;unfold Nr;simp at h ⊢;omega
theorem Je(l:List Int):compact (Im l)=FN l:=by
 refine QV ?_ ?_
 ·unfold compact;refine JK ?_ _ (by simp);intro i j lG hj;have gu:j<(Im l).length:=by simpa using hj
  rw [Bw _ j hj,Bw _ i (by omega)];simpa using List.pairwise_iff_getElem.1 (Ro l) i j (by omega) gu lG
 ·intro a;unfold compact;rw [GY];constructor
  ·rintro⟨j,hj,rfl⟩;rw [Bw _ j (by simpa using hj)];exact List.mem_mergeSort.1 (Be (l:=Im l) (by simpa using hj))
  ·intro ha;have:a∈Im l:=by simpa [Im] using ha
   obtain⟨j,hj,e⟩:=List.getElem_of_mem this;exact⟨j,hj,by rw [Bw _ j (by simpa using hj)];simpa using e⟩
theorem Ol(g cap n:Nat)(l:List Int)(base:Nat)(w:World)(h:A1 DE 1 w base 3 (.slice (some ⟨g,0,none⟩) n cap) n l)(hn:n<=1000000000):Calls prog 172 #[.slice (some ⟨g,0,none⟩) n cap] w fun e w'=>e=.returned (.tuple #[])/\A1 DE 1 w' base 3 (.slice (some ⟨g,0,none⟩) n cap) n (Im l)/\w.grownBy w' (some g):=by obtain⟨hH,hb⟩:=h.holdsN;have cu:=h.len DR (by omega);have:=slices_Sort_int g 0 cap l w hH hb (by omega);rw [cu] at this;refine this.mono ?_;rintro e w' ⟨he,m,os,rfl⟩;obtain⟨h1,h2⟩:=h.putN (l':=Im l) (by simp) m os;exact⟨he,h1,h2⟩
theorem Ks(g cap n:Nat)(l:List Int)(base:Nat)(w:World)(h:A1 DE 1 w base 3 (.slice (some ⟨g,0,none⟩) n cap) n l)(eV:n<=cap)(hn:n<=1000000000) :
 Calls prog 126 #[.slice (some ⟨g,0,none⟩) n cap] w fun e w'=>∃m,e=.returned (.slice (some ⟨g,0,none⟩) m cap)/\m<=n/\A1 DE 1 w' base 3 (.slice (some ⟨g,0,none⟩) m cap) m (compact l)/\w.grownBy w' (some g):=by
 obtain⟨hH,hb⟩:=h.holdsN
 have cu:=h.len DR (by omega)
 have:=slices_Compact_int g 0 cap l w hH (by omega) (by omega)
 rw [cu] at this
 have di:(compact l).length<=n:=by rw [<-cu];exact compact_length_le l
 refine this.mono ?_
 rintro e w' ⟨he,q,rfl⟩
 obtain⟨h1,h2⟩:=h.putN (l':=compact l++List.replicate (n-(compact l).length) 0) (by simp;omega) q #[]
 rw [We] at h1 h2
 refine⟨(compact l).length,he,di,?_,h2⟩
 have h3:=A1.cut (m:=(compact l).length) DR h1 (by simp;omega) di
 rw [D8 (AB _),FL] at h3
 exact h3
end
section
open Go.Sort Go.Lib
def ZCh{α:Type}(enc:α->List Value)(k:Nat)(w:World)(e:Ending)(l:List α):Prop:=∃p n c,e=.returned (.slice p n c)/\Ax enc k w p n c l
theorem ZCh.mk(h:Ax enc k w p n c l):ZCh enc k w (.returned (.slice p n c)) l:=⟨p,n,c,rfl,h⟩
end
def MW{α:Type}(enc:α->List Value)(k:Nat)(w:World)(base:Nat)(e:TypeId)(v:Value)(n:Nat)(l:List α):Prop:=A1 enc k w base e v n l\/∃p,v=.slice p 0 0/\n=0/\l=[]
section
variable {α:Type} {enc:α->List Value} {k:Nat} {w w':World} {base base' e n:Nat} {v:Value} {l:List α}
theorem A1.z(h:A1 enc k w base e v n l):MW enc k w base e v n l:=.inl h
theorem MW.lit(enc:α->List Value)(k:Nat)(w:World)(base:Nat)(e:TypeId)(p:Option Addr):MW enc k w base e (.slice p 0 0) 0 []:=.inr ⟨p,rfl,rfl,rfl⟩
theorem MW.below(h:MW enc k w base e v n l)(hb:Below w.heap.size w w'):MW enc k w' base e v n l:=h.elim (fun h=>.inl (h.below hb)) .inr
theorem MW.lower(h:MW enc k w base e v n l)(hb:base'<=base):MW enc k w base' e v n l:=h.elim (fun h=>.inl (h.lower hb)) .inr
theorem MW.drewN(h:MW enc k w base e v n l)(m:Nat):MW enc k (w.drewN m) base e v n l:=h
theorem MW.isRow(h:MW enc k w base e v n l)(hk:∀x,(enc x).length=k)(ao:0<k):∃p cap,v=.slice p n cap/\l.length=n/\n<=cap/\DK enc k w p l/\cap<=maxLen/\(p=none->cap=0):=by
 rcases h with h|⟨p,rfl,rfl,rfl⟩
 ·obtain⟨p,cap,hv,hl,hc,hr,hm,hn,_⟩:=h.row hk ao;exact⟨p,cap,hv,hl,hc,hr,hm,fun e=>(hn e).2⟩
 ·exact⟨p,0,rfl,rfl,by omega,.inl rfl,by unfold maxLen;omega,fun _=>rfl⟩
theorem MW.len(h:MW enc k w base e v n l)(hk:∀x,(enc x).length=k)(ao:0<k):l.length=n:=by obtain⟨_,_,_,h,_⟩:=h.isRow hk ao;exact h
end
section
open Go.Sort Go.Lib
def Yg(x:BB):Bool:=DF x&&decide (x.kind≠3)
def FQ(l:List BB):List Int:=FN ((l.filter Yg).map (·.rho))
theorem ZCn:∀(l:List Int) (e:List Int),FD Nr e->FD Nr (l.foldl (fun e a=>NE a e) e)/\∀x,x∈l.foldl (fun e a=>NE a e) e↔x∈e\/x∈l
 |[],e,h=>⟨h,fun x=>by simp⟩
 |a::l,e,h=>by
  obtain⟨h1,h2⟩:=ZCn l (NE a e) (VP a e h);refine⟨h1,fun x=>?_⟩;rw [List.foldl_cons,h2,ZAj,AS];constructor
  ·rintro((rfl|h)|h)
   ·exact .inr (.inl rfl)
   ·exact .inl h
   ·exact .inr (.inr h)
  ·rintro(h|rfl|h)
   ·exact .inl (.inr h)
   ·exact .inl (.inl rfl)
   ·exact .inr h
theorem Lv(lt:α->α->Bool)(a:α):∀l:List α,(IP lt a l).length<=l.length+1
 |[]=>by simp [IP]
 |b::l=>by
  unfold IP;split
  ·simp
  ·split
   ·have:=Lv lt a l;simp;omega
   ·simp
theorem JS(lt:α->α->Bool):∀l:List α,(KG lt l).length<=l.length
 |[]=>by simp [KG]
 |a::l=>by have h1:=Lv lt a (KG lt l);have h2:=JS lt l;simp only [KG,Aq];omega
theorem Rv(l:List BB):(FQ l).length<=l.length:=by have h1:=JS Nr ((l.filter Yg).map (·.rho));have h2:=Dd Yg l;rw [Ba] at h1;exact AM h1 h2
theorem Qo(l:List BB)(r:Int):r∈FQ l↔∃x∈l,DF x=true/\x.kind≠3/\x.rho=r:=by
 unfold FQ;rw [Ki,BI];constructor
 ·rintro⟨x,hx,rfl⟩;rw [Bg] at hx;have h:=hx.2;unfold Yg at h;rw [AK] at h;exact⟨x,hx.1,h.1,of_decide_eq_true h.2,rfl⟩
 ·rintro⟨x,hx,h1,h2,rfl⟩;exact⟨x,Bg.2 ⟨hx,by unfold Yg;rw [h1,CV h2];rfl⟩,rfl⟩
theorem Tt(h:∀x,DF x=true->(x∈l↔x∈m)):FQ l=FQ m:=by
 refine Ve (fun r=>?_);have h1:=Qo l r;have h2:=Qo m r;unfold FQ at h1 h2;rw [Ki] at h1 h2;rw [h1,h2];constructor
 ·rintro⟨x,hx,ha,hk,hr⟩;exact⟨x,(h x ha).1 hx,ha,hk,hr⟩
 ·rintro⟨x,hx,ha,hk,hr⟩;exact⟨x,(h x ha).2 hx,ha,hk,hr⟩
theorem VO(l:List BB):FQ (GV l)=FQ l:=Tt (fun x hx=>by rw [Ha,Bg];simp [hx])
theorem JH(p:Option Addr)(n cap:Nat)(rows:List (SF BB))(w:World)(hn:rows.length=n)(hm:n<=1000000)(hr:DK J7 1 w p rows)(aW:∀r∈rows,r.Ok Ce 3 w)(eD:(rows.map (·.n)).sum<=1000000):Calls prog 132 #[.slice p n cap] w fun e w'=>∃q m c,e=.returned (.slice q m c)/\m<=1000000/\Ax DE 1 w' q m c (FQ (rows.flatMap (·.l)))/\Below w.heap.size w w':=by
 have HU:=AF (G3 p n cap rows w hn hm hr aW eD);have HT:=AF eD;have eq:Hd (FN (((IA ((rows.flatMap (·.l)).filter DF)).filter (fun x=>decide (x.kind≠3))).map (·.rho))=FQ (rows.flatMap (·.l))):=by show _=_;rw [<-VO];unfold FQ;congr 2;apply List.filter_congr;intro x hx;rw [Ha,Bg] at hx;simp [Yg,hx.2]
 clear hn hr aW eD;go_enter func132,ntmps132;go_wp2_with fail;refine HU.o.mono ?_;rintro e w1 ⟨v,m,rfl,ic,aD,hb⟩;obtain⟨q,mc,rfl,aC⟩:=aD.isRow BF (by omega);have kW:m<=1000000:=by have:=HT.o;omega
 generalize hS:IA ((rows.flatMap (·.l)).filter DF)=S at aC eq;have HS:=AF hS;have HR:=AF aC;have HB:=AF hb;clear aC hb;clear aD hS ic;go_wp2_with fail;go_loopw [3,5,9] (fun u _ i wr=>∃k t:Nat,k<=m/\i=.int .i64 k/\t<=k/\A1 DE 1 wr w1.heap.size 3 u t (((S.take k).filter (fun x=>decide (x.kind≠3))).map (·.rho))/\Below w1.heap.size w1 wr) (fun _ _ i _=>m-(intOf i).toNat)
 case atStart=>exact⟨0,0,by omega,rfl,by omega,A1.nil _ _ _ _ _,AA _ _⟩
 case round=>
  obtain⟨k,t,hk,rfl,ix,aD,hb⟩:=hrel;have aZ:=AF aD;have dq:=AF hb;clear aD hb;by_cases aG:k<m
  ·obtain⟨x,hx⟩:=Bh (l:=S) (j:=k) (by rw [HR.o.len];exact aG);have HE:=AF hx;obtain⟨b,o,rfl,bB,d0,d1,d2⟩:=Ia.atom (HR.o.below dq.o).row hx;obtain⟨kd,rr,ss⟩:=x;simp only at d0 d1 d2;clear hx bB;have aK:=AF (dq.o.alloc dq.o.size (.cells #[.int .u8 kd,.int .i64 rr,.string ss] 59));have af:=AF (aZ.o.below ((AA _ wr).alloc (AB _) (.cells #[.int .u8 kd,.int .i64 rr,.string ss] 59)));by_cases h3:kd=3
   ·have ri:(kd != 3)=false:=by simp [h3]
    have oF:=AF h3;clear h3;go_wp2_with fail;go_roundw
    case rel=>exact⟨k+1,t,by omega,by go_num,by omega,by rw [BG HE.o,DB,Ah];simpa [oF.o] using af.o,aK.o⟩
    case measure=>simp [intOf];omega
   ·have ri:(kd != 3)=true:=by simpa using h3
    have oF:=AF h3;clear h3;go_wp2_with (at_builtin;refine Dx rfl _ _ 24 rfl w1.heap.size 3 _ 1 8 underlying24 Qf rfl (by decide) DE DR Kd rr _ _ _ af.o rfl (by refine EL (b:=Value.slice (some ⟨wr.heap.size+1,0,none⟩) 1 1) rfl ?_;simp) ?c1 ?c2 ?c3 ?_)
    case c1=>omega
    case c2=>omega
    case c3=>have:=aK.o.size;simp at this ⊢;omega
    ·intro v' w4 aP hg;have rQ:=AF aP;have bJ:=AF (Below.own aK.o hg (by have:=aK.o.size;simp at this ⊢;omega) af.o);clear aP hg d0 d1 d2;go_wp2_with fail;go_roundw
     case rel=>exact⟨k+1,t+1,by omega,by go_num,by omega,by rw [BG HE.o,DB,Ah];simpa [oF.o] using rQ.o,bJ.o⟩
     case measure=>simp [intOf];omega
  ·have fL:k=m:=by omega
   subst fL;have h1:=aZ.o;rw [Bb (by rw [HR.o.len];omega)] at h1;have HO:=AF h1;clear h1;rcases HO.o.split DR (by omega) with⟨rfl,rfl,aj⟩|⟨g,cp,rfl,ml,jU⟩
   ·have gj:=AF aj;clear aj;go_wp2_with fail;refine(slices_Sort_int_none none 0 _).mono ?_;rintro e w2 ⟨rfl,rfl⟩;go_wp2_with fail;refine(slices_Compact_int_empty none 0 _).mono ?_;rintro e w3 ⟨rfl,rfl⟩;go_wp2_with fail;go_ret;exact⟨none,0,0,rfl,by omega,by rw [<-eq.o,gj.o];exact Ax.none _ _ _,HB.o.trans (dq.o.mono HB.o.size)⟩
   ·go_wp2_with fail;refine(Ol g cp t _ w1.heap.size wr HO.o (by omega)).mono ?_;rintro e w2 ⟨rfl,lU,gC⟩;have aH:=AF (A1.drop_base (enc:=DE) (k:=1) gC jU dq.o dq.o.size);have iF:=AF lU;clear lU gC;go_wp2_with fail;refine(Ks g cp t _ w1.heap.size w2 iF.o ml (by omega)).mono ?_;rintro e w3 ⟨m',rfl,eJ,ie,aa⟩;have aF:=AF (A1.drop_base (enc:=DE) (k:=1) aa jU aH.o aH.o.size);rw [Je,eq.o] at ie;obtain⟨p',c',hv,aC⟩:=ie.isRow DR (by omega);cases hv;have af:=AF aC;clear ie aa aC;go_wp2_with fail;go_ret;exact⟨_,m',_,rfl,by omega,af.o,HB.o.trans (aF.o.mono HB.o.size)⟩
end
section
open Go.ChangeShapes Go.WideShapes Go.ChangeAt Go.RowKit Go.Deep
variable {H:Type} {enc:TypeId×Value->H} {W:World} {base:Nat} {t e:TypeId} {v:Value} {d:DataW H} {ps:List MemPlace}
theorem VT(w:World)(b o:Nat)(hb:b<w.heap.size)(n:Nat)(q:Nat->α)(h:∀j,j<n->∀i u,(encE (q j))[i]?=some u->w.cell? ⟨b,o+j * k+i,none⟩=some u):DK encE k w (some ⟨b,o,none⟩) ((List.range n).map q):=by
 refine .inr ⟨b,o,rfl,hb,fun j x hx i u hu=>?_⟩;rw [A7] at hx;have hj:j<n:=by have:=(Ao.1 hx).choose_spec.1;have:=(BJ.1 this).1;simpa using this
 rw [List.getElem?_range hj] at hx;cases hx;exact h j hj i u hu
end
section
open Go.ChangeShapes Go.WideShapes Go.ChangeAt Go.RowKit Go.Deep
section
variable {H:Type} {enc:TypeId×Value->H} {W:World} {base:Nat} {t e:TypeId} {v:Value} {d:DataW H} {ps:List MemPlace}
end
end
section
open Go.ChangeShapes Go.WideShapes Go.ChangeAt Go.RowKit Go.Deep
variable {H:Type} {enc:TypeId×Value->H} {W:World} {base:Nat} {t e:TypeId} {v:Value} {d:DataW H} {ps:List MemPlace}
structure LT(x:BB):Prop where
 k0:0<=x.kind
 k1:x.kind<=255
 r0:-9223372036854775808<=x.rho
 r1:x.rho<=9223372036854775807
 s1:x.exn.size<=9223372036854775807
end
section
open Go.ChangeShapes Go.WideShapes Go.ChangeAt Go.RowKit Go.Deep
section
variable {H:Type} {enc:TypeId×Value->H} {W:World} {base:Nat} {t e:TypeId} {v:Value} {d:DataW H} {ps:List MemPlace}
def X6(enc:TypeId×Value->H)(W:World)(e:TypeId)(n:Nat){α:Type}(enc1:α->List Value)(Q:α->Prop):Prop:=∀cs' x,DataW.trod enc prog W 0 (fun _=>true) true n e cs'=some x->cs'.length=prog.cellsOf e->∃y:α,cs'=enc1 y/\Q y
theorem I6(enc1:α->List Value)(Q:α->Prop)(ht:prog.underlying t=some (.slice e))(hc:prog.cellsOf e=k)(ao:0<k)(ow:∀y,(enc1 y).length=k)(hf:DataW.trod enc prog W 0 (fun _=>true) true fuel t cs=some x)(he:∀n,n<fuel->X6 enc W e n enc1 Q):∃p n cap,∃l:List α,cs=[.slice p n cap]/\Ax enc1 k W p n cap l/\∀y∈l,Q y:=by
 rcases DataW.trod_slice ht hf with⟨am,_⟩|⟨a,len,cap,elems,rest,n,xy,am,_,_,hl,hm,aJ,nU,_,_⟩
 ·exact⟨none,0,0,[],am,Ax.none _ _ _,fun y hy=>by cases hy⟩
 ·unfold maxLen at hm
  have each:∀i,i<len->∃y:α,Q y/\∀j u,(enc1 y)[j]?=some u->W.cell? ((a.add (i * k)).add j)=some u:=by
   intro i hi;have h:=nU i hi;rw [AI (by omega)] at h;obtain⟨cs',h1,h2⟩:=Option.bind_eq_some_iff.1 h;rw [hc] at h1;obtain⟨_,iM,bv⟩:=World.cells?_some h1;obtain⟨y,rfl,hq⟩:=he n (by omega) cs' _ h2 (by rw [hc];exact iM);refine⟨y,hq,fun j u hu=>?_⟩;have hj:j<k:=by rw [<-ow y];exact DI hu
   rw [bv j hj];exact hu
  by_cases ei:len=0
  ·subst ei;exact⟨_,0,cap,[],am,⟨rfl,by omega,hl,(fun h=>by cases h),.inl rfl⟩,fun y hy=>by cases hy⟩
  ·obtain⟨y0,_⟩:=each 0 (by omega);haveI:Inhabited α:=⟨y0⟩;obtain⟨q,hq⟩:=choose_lt each;obtain⟨b,off,spot⟩:=a;obtain⟨u0,xU⟩:∃u,(enc1 (q 0))[0]?=some u:=Bh (by rw [ow];omega);have c0:=(hq 0 (by omega)).2 0 u0 xU;have pi:spot=none:=by simpa [Addr.add] using World.cell?_spot c0
   subst pi;have bB:b<W.heap.size:=by simpa [Addr.add] using D9 c0
   refine⟨_,len,cap,(List.range len).map q,am,⟨by simp,by omega,hl,(fun h=>by cases h),VT W b off bB len q (fun j hj i u hu=>?_)⟩,fun y hy=>?_⟩
   ·have:=(hq j hj).2 i u hu;rw [Ja,Ja] at this;exact this
   ·obtain⟨j,hj,rfl⟩:=BI.1 hy;exact(hq j (Fl.1 hj)).1
theorem Z8(n:Nat):X6 enc W 3 n DE (fun z:Int=>-9223372036854775808<=z/\z<=9223372036854775807):=by intro cs' x h _;obtain⟨z,rfl,_,hz⟩:=CF underlying3 h;exact⟨z,rfl,by simpa [Lit.wf,IntKind.min,IntKind.max,IntKind.signed,IntKind.bits] using hz⟩
theorem SK(n:Nat):X6 enc W 59 n Ce LT:=by
 intro cs' x h aJ;have he:prog.underlying 59=some (.struct (prog.fieldsOf 59)):=by kernel_rfl
 have ce:prog.cellsOf 59=3:=by kernel_rfl
 have F0:((prog.fieldsOf 59)[0]?).map (fun f=>(f.type,f.offset))=some (5,0):=by kernel_rfl
 have F1:((prog.fieldsOf 59)[1]?).map (fun f=>(f.type,f.offset))=some (3,1):=by kernel_rfl
 have F2:((prog.fieldsOf 59)[2]?).map (fun f=>(f.type,f.offset))=some (9,2):=by kernel_rfl
 have C0:prog.cellsOf 5=1:=by kernel_rfl
 have C1:prog.cellsOf 3=1:=by kernel_rfl
 have C2:prog.cellsOf 9=1:=by kernel_rfl
 rw [ce] at aJ;obtain⟨xs,k,hk,kg,_,tA,eI⟩:=EO he h;obtain⟨f0,e0,p0⟩:=Ao.1 F0;obtain⟨f1,e1,p1⟩:=Ao.1 F1;obtain⟨f2,e2,p2⟩:=Ao.1 F2;simp only [EE] at p0 p1 p2;have g0:=eI 0 f0 e0;have g1:=eI 1 f1 e1;have g2:=eI 2 f2 e2;rw [p0.1,p0.2,C0] at g0;rw [p1.1,p1.2,C1] at g1;rw [p2.1,p2.2,C2] at g2;have b0:=(AO.1 e0).1;have b1:=(AO.1 e1).1;have b2:=(AO.1 e2).1;match cs',aJ with
 |[v0,v1,v2],_=>
  rw [AI (show 0<xs.length by omega)] at g0;rw [AI (show 1<xs.length by omega)] at g1;rw [AI (show 2<xs.length by omega)] at g2;obtain⟨z0,q0,_,b0'⟩:=CF underlying5 g0;obtain⟨z1,q1,_,b1'⟩:=CF underlying3 g1;obtain⟨z2,q2,_,b2'⟩:=EM underlying9 g2;simp at q0 q1 q2;have h0:0<=z0/\z0<=255:=by simpa [Lit.wf,IntKind.min,IntKind.max,IntKind.signed,IntKind.bits] using b0'
  have h1:-9223372036854775808<=z1/\z1<=9223372036854775807:=by simpa [Lit.wf,IntKind.min,IntKind.max,IntKind.signed,IntKind.bits] using b1'
  unfold maxLen at b2';exact⟨⟨z0,z1,z2⟩,by rw [q0,q1,q2];rfl,h0.1,h0.2,h1.1,h1.2,by omega⟩
end
end
structure LH where
 kind:Int
 rho:Int
 eff:List BB
structure RH where
 kind:Int
 rho:Int
 ep:Option Addr
 en:Nat
 ec:Nat
 eff:List BB
 kp:Option Addr
 kn:Nat
 kc:Nat
abbrev PT:=Ad RH
abbrev RT:=Ad LH
def RH.plain(a:RH):LH:=⟨a.kind,a.rho,a.eff⟩
def PT.er(t:PT):RT:=Ad.map RH.plain t
theorem PT.er_node(a:RH)(l:List PT):PT.er (.node a l)=.node a.plain (l.map PT.er):=Ad.map_node _ a l
def QT(a:RH):List Value:=[.int .u8 a.kind,.int .i64 a.rho,.slice a.ep a.en a.ec,.slice a.kp a.kn a.kc]
structure RH.Own(w:World)(a:RH):Prop where
 eff:Ax Ce 3 w a.ep a.en a.ec a.eff
 ok:∀x∈a.eff,LT x
 k0:0<=a.kind
 k1:a.kind<=255
 r0:-9223372036854775808<=a.rho
 r1:a.rho<=9223372036854775807
 kmax:a.kn<=9223372036854775807
 kle:a.kn<=a.kc
 knil:a.kp=none->a.kc=0
def LR:LS RH where
 enc:=QT
 k:=4
 own:=RH.Own
 kp:=RH.kp
 kn:=RH.kn
 len:=fun _=>rfl
 below:=fun h hb=>⟨h.eff.below hb,h.ok,h.k0,h.k1,h.r0,h.r1,h.kmax,h.kle,h.knil⟩
theorem Xi(t:PT):LR.encT t=QT t.head:=rfl
theorem Oq:∀t:PT,(LR.encT t).length=4:=fun _=>rfl
abbrev IJ(a:RH):Value:=.agg #[.int .u8 a.kind,.int .i64 a.rho,.slice a.ep a.en a.ec,.slice a.kp a.kn a.kc]
structure Dz(w:World)(a:RH)(l:List PT):Prop where
 own:RH.Own w a
 kids:Ax LR.encT 4 w a.kp a.kn a.kc l
 each:∀t∈l,LR.lies w t
theorem Fs(h:LR.lies w (.node a l)):Dz w a l:=by rw [LS.lies_node] at h;exact⟨h.1,⟨h.2.1,h.1.kmax,h.1.kle,h.1.knil,h.2.2.1⟩,h.2.2.2⟩
theorem Dz.lies(h:Dz w a l):LR.lies w (.node a l):=by rw [LS.lies_node];exact⟨h.own,h.kids.len,h.kids.row,h.each⟩
theorem Dz.below(h:Dz w a l)(hb:Below w.heap.size w w'):Dz w' a l:=Fs (LR.lies_below hb _ h.lies)
theorem Dz.alloc(h:Dz w a l)(o:Obj):Dz (w.alloc o) a l:=h.below bA
structure G0(w:World)(p:Option Addr)(n cap:Nat)(l:List PT):Prop where
 row:Ax LR.encT 4 w p n cap l
 each:∀t∈l,LR.lies w t
theorem Dz.rowT(h:Dz w a l):G0 w a.kp a.kn a.kc l:=⟨h.kids,h.each⟩
theorem G0.below(h:G0 w p n cap l)(hb:Below w.heap.size w w'):G0 w' p n cap l:=⟨h.row.below hb,fun t ht=>LR.lies_below hb t (h.each t ht)⟩
theorem G0.alloc(h:G0 w p n cap l)(o:Obj):G0 (w.alloc o) p n cap l:=h.below bA
theorem G0.kid(h:G0 w p n cap l)(hx:l[j]?=some t) :
 ∃b o,p=some ⟨b,o,none⟩/\b<w.heap.size/\w.cell? ⟨b,o+j * 4,none⟩=some (.int .u8 t.head.kind)/\w.cell? ⟨b,o+j * 4+1,none⟩=some (.int .i64 t.head.rho) /\
  w.cell? ⟨b,o+j * 4+2,none⟩=some (.slice t.head.ep t.head.en t.head.ec)/\w.cell? ⟨b,o+j * 4+3,none⟩=some (.slice t.head.kp t.head.kn t.head.kc):=by
 obtain⟨b,o,hp,hb,hc⟩:=h.row.row.elem hx
 exact⟨b,o,hp,hb,by simpa using hc 0 _ rfl,hc 1 _ rfl,hc 2 _ rfl,hc 3 _ rfl⟩
theorem G0.at(h:G0 w p n cap l)(hj:j<n):∃t,l[j]?=some t:=Bh (by rw [h.row.len];exact hj)
theorem G0.lies{w:World}{p:Option Addr}{n cap:Nat}{l:List PT}(h:G0 w p n cap l){j:Nat}{t:PT}(hx:l[j]?=some t):LR.lies w t:=h.each t (AE hx)
theorem EG:∀{l:List Nat} {x:Nat},x∈l->x<=l.sum
 |[],_,h=>by cases h
 |y::l,x,h=>by
  rcases AS.1 h with rfl|h
  ·simp
  ·have:=EG h;simp;omega
def FG:RT->Bool:=Ad.all (fun a _=>!Fg a.eff)
theorem FI(a:LH)(l:List RT):FG (.node a l)=(!Fg a.eff&&l.all FG):=Ad.all_node _ a l
def Mf:RT->Bool:=Ad.all (fun a _=>!Gt a.eff)
theorem QR(a:LH)(l:List RT):Mf (.node a l)=(!Gt a.eff&&l.all Mf):=Ad.all_node _ a l
theorem YS(t:RT):Mf t=true->FG t=true:=by refine Ad.ind (P:=fun(t:RT)=>Mf t=true->FG t=true) (fun a l ih h=>?_) t;rw [QR,AK,Aj] at h;rw [FI,AK,Aj];refine⟨?_,fun x hx=>ih x hx (h.2 x hx)⟩;rw [SR (by simpa using h.1)];rfl
structure II(t:RT)(n:Nat):Prop where
 size:t.size<=n
 effs:FG t=true
theorem II.kid(h:II (.node a l) n)(ht:t∈l):II t n:=by
 refine⟨?_,?_⟩
 ·have h1:=h.size;rw [Ad.size_node] at h1;have h2:t.size<=(l.map Ad.size).sum:=by have:t.size∈l.map Ad.size:=Au ht;exact EG this
  omega
 ·have h1:=h.effs;rw [FI,AK,Aj] at h1;exact h1.2 t ht
theorem II.kids(h:II (.node a l) n):l.length<=n:=by
 have h1:=h.size;rw [Ad.size_node] at h1
 have:∀l:List RT,l.length<=(l.map Ad.size).sum:=by
  intro l;induction l with
  |nil=>simp
  |cons x l ih=>have:=Ad.size_pos x;simp only [Aq,AV,A0];omega
 have:=this l;omega
theorem II.eff(h:II (.node a l) n):Fg a.eff=false:=by have h1:=h.effs;rw [FI,AK] at h1;simpa using h1.1
theorem Mm(h:Gt a.eff=r)(ho:RH.Own w a):Calls prog 86 #[.slice a.ep a.en a.ec] w fun e w'=>e=.returned (.bool r)/\w=w':=by subst h;exact Ml _ _ _ _ w ho.eff.len ho.eff.max ho.eff.row
def V4(t:RT)(n r:Int):Prop:=-1<=r/\r<=n/\(0<=r->(t.size:Int)+r=n/\Mf t=true)
def S7(l:List RT)(n r:Int):Prop:=-1<=r/\r<=n/\(0<=r->((l.map Ad.size).sum:Int)+r=n/\l.all Mf=true)
theorem S7.step(h:S7 l n r)(h0:0<=r)(h':V4 t r r'):S7 (l++[t]) n r':=by refine⟨h'.1,by have:=h.2.1;have:=h'.2.1;omega,fun hr=>?_⟩;obtain⟨h1,h2⟩:=h.2.2 h0;obtain⟨h3,h4⟩:=h'.2.2 hr;refine⟨?_,by simp [h2,h4]⟩;simp only [Ah,AV,Am,Cv,A0,C7];omega
theorem Tq(t:PT):∀w,LR.lies w t->∀n:Int,0<=n->n<=1000000->Calls prog 119 #[IJ t.head,.int .i64 n] w fun e w'=>(∃r:Int,e=.returned (.int .i64 r)/\V4 t.er n r)/\Below w.heap.size w w':=by
 refine Ad.ind (P:=fun(t:PT)=>∀w,LR.lies w t->∀n:Int,0<=n->n<=1000000->Calls prog 119 #[IJ t.head,.int .i64 n] w fun e w'=>(∃r:Int,e=.returned (.int .i64 r)/\V4 t.er n r)/\Below w.heap.size w w') (fun a l ih=>?_) t;intro w hl n h0 hn;have HN:=AF (Fs hl);have IH:=AF ih;have fL:=HN.o.own.kmax;have aK:=AF ((AA w.heap.size w).alloc (AB _) (.cells #[.int .u8 a.kind,.int .i64 a.rho,.slice a.ep a.en a.ec,.slice a.kp a.kn a.kc] 28));show Calls _ _ #[IJ a,.int .i64 n] w _;clear hl ih;cases hg:Gt a.eff
 ·have HG:=AF hg;clear hg;obtain⟨kd,rr,ep,en,ec,eff,kp,kn,kc⟩:=a;simp only at fL;go_enter func119,ntmps119;go_wp2_with fail;refine(Mm HG.o (HN.o.alloc _).own).mono ?_;rintro e w1 ⟨rfl,rfl⟩;generalize hW:w.alloc (.cells #[.int .u8 kd,.int .i64 rr,.slice ep en ec,.slice kp kn kc] 28)=W at *
  have tF:Hd (∀wr,Below W.heap.size W wr->wr.cell? ⟨w.heap.size,3,none⟩=some (.slice kp kn kc)):=by show ∀wr,_;intro wr hb;rw [<-hW] at hb;rw [hb.cell (by simp),Bq];rfl
  have cL:Hd (Dz W ⟨kd,rr,ep,en,ec,eff,kp,kn,kc⟩ l):=by show Dz _ _ _;rw [<-hW];exact HN.o.alloc _
  clear hW;have wv:=tF.o W (AA _ _);go_wp2_with fail;clear wv;go_loopw [1,5] (fun u i wr=>∃(k:Nat) (r:Int),k<=kn/\i=.int .i64 k/\u=.int .i64 r/\S7 ((l.take k).map PT.er) (n-1) r/\Below W.heap.size W wr) (fun _ i _=>kn-(intOf i).toNat)
  case atStart=>exact⟨0,n-1,by omega,rfl,rfl,⟨by omega,by omega,fun _=>⟨by simp,by simp⟩⟩,AA _ _⟩
  case round=>
   obtain⟨k,r,hk,rfl,rfl,gM,hb⟩:=hrel;have iN:=gM.1;have dx:=gM.2.1;have mO:=AF gM;have HB:=AF hb;clear gM hb;have om:=tF.o wr HB.o;by_cases aG:k<kn
   ·by_cases fl:0<=r
    ·obtain⟨x,hx⟩:=(cL.o.rowT).at (j:=k) aG;have HE:=AF hx;obtain⟨b,o,rfl,bB,d0,d1,d2,d3⟩:=(cL.o.rowT.below HB.o).kid hx;clear hx bB;go_wp2_with fail;refine(IH.out x (AE HE.o) wr ((cL.o.rowT.below HB.o).lies HE.o) r fl (by omega)).mono ?_;rintro e w2 ⟨⟨r',rfl,aW⟩,hb⟩;have bP:=AF aW;have aF:=bt HB hb;clear aW hb d0 d1 d2 d3 om;go_wp2_with fail;go_roundw
     case rel=>exact⟨k+1,r',by omega,by go_num,rfl,by rw [BG HE.o,Ah];exact mO.o.step fl bP.o,aF.o⟩
     case measure=>simp [intOf];omega
    ·have hd:decide (0<=r)=false:=by simpa using fl
     go_wp2_with fail;go_ret;exact⟨⟨r,rfl,by have:=mO.o;refine⟨this.1,by omega,fun h=>absurd h (by omega)⟩⟩,aK.o.trans (HB.o.mono aK.o.size)⟩
   ·have ai:k=kn:=by omega
    subst ai;go_wp2_with fail;go_ret;have h:=mO.o;rw [Bb (by rw [cL.o.kids.len];omega)] at h;refine⟨⟨r,rfl,h.1,by omega,fun h0=>?_⟩,aK.o.trans (HB.o.mono aK.o.size)⟩;obtain⟨h1,h2⟩:=h.2.2 h0;rw [PT.er_node,Ad.size_node,QR];refine⟨by omega,?_⟩;rw [h2,Cy];show (!Gt eff)=true;rw [HG.o];rfl
 ·have HG:=AF hg;clear hg;go_enter func119,ntmps119;go_wp2_with fail;refine(Mm HG.o (HN.o.alloc _).own).mono ?_;rintro e w1 ⟨rfl,rfl⟩;go_wp2_with fail;go_ret;refine⟨⟨-1,rfl,by omega,by omega,fun h=>by omega⟩,aK.o⟩
theorem Q0{t:PT}{w:World}(hl:LR.lies w t):Calls prog 87 #[IJ t.head] w fun e w'=>(∃r,e=.returned (.bool r)/\(r=false->II t.er 100/\Mf t.er=true))/\Below w.heap.size w w':=by
 have HL:=AF (fun o=>Tq t (w.alloc o) (LR.lies_below bA t hl) 100 (by omega) (by omega));obtain⟨a,l⟩:=t;show Calls _ _ #[IJ a] w _;obtain⟨kd,rr,ep,en,ec,eff,kp,kn,kc⟩:=a;clear hl;go_enter func87,ntmps87;go_wp2_with fail;refine(HL.o _).mono ?_;rintro e w1 ⟨⟨r,rfl,aW⟩,hb⟩;have bP:=AF aW;have HB:=AF (((AA w.heap.size w).alloc (AB _) (.cells #[.int .u8 kd,.int .i64 rr,.slice ep en ec,.slice kp kn kc] 28)).trans (hb.mono (by simp)));clear aW hb;go_wp2_with fail;go_ret;refine⟨⟨_,rfl,fun h=>?_⟩,HB.o⟩;have h0:0<=r:=by simpa using h
 obtain⟨h1,h2⟩:=bP.o.2.2 h0;exact⟨⟨by omega,YS _ h2⟩,h2⟩
theorem VF:∀l:List BB,ID l=true↔UM l l.length
 |[]=>by simp [ID,UM]
 |[a]=>by
  simp only [ID,UM];constructor
  ·intro h;refine⟨by simp [h],fun j x y hj=>?_⟩;simp at hj
  ·intro h;have:=h.1;simpa using this
 |a::b::l=>by
  have ih:=VF (b::l);simp only [ID,AK,ih];constructor
  ·rintro⟨⟨h1,h2⟩,h3,h4⟩;refine⟨?_,fun j x y hj hx hy=>?_⟩
   ·rw [Bb (AB _)] at h3 ⊢;rw [FE,h1,h3];rfl
   ·cases j with
    |zero=>simp at hx hy;subst hx;subst hy;exact h2
    |succ j=>exact h4 j x y (by simpa using hj) (by simpa using hx) (by simpa using hy)
  ·rintro⟨h1,h2⟩;rw [Bb (AB _),FE,AK] at h1;refine⟨⟨h1.1,h2 0 a b (by simp) rfl rfl⟩,?_,fun j x y hj hx hy=>h2 (j+1) x y (by simpa using hj) (by simpa using hx) (by simpa using hy)⟩;rw [Bb (AB _)];exact h1.2
theorem Kt(h:ID l=r)(hr:Ax Ce 3 w p n cap l):Calls prog 93 #[.slice p n cap] w (RB w (.bool r)):=by
 refine(QQ p n cap l w hr.len hr.max hr.row).mono ?_;rintro e w' ⟨⟨r',rfl,bW⟩,hb⟩;have:r'=r:=by rw [<-h,Bu,bW,VF,hr.len]
 subst this;exact⟨rfl,hb⟩
def DY(a:LH)(n:Nat):Bool:=
 if a.kind=1 then decide (a.rho=0)&&decide (a.eff=[])&&decide (n=0)
 else if a.kind=2 then decide (0<=a.rho)&&decide (a.eff=[])&&decide (n=2)
 else if a.kind=3 then decide (0<=a.rho)&&decide (a.eff=[])&&decide (n=1)
 else if a.kind=4 then decide (0<=a.rho)&&ID a.eff&&decide (n=2)
 else false
def FK:RT->Bool:=Ad.all DY
theorem Gc(a:LH)(l:List RT):FK (.node a l)=(DY a l.length&&l.all FK):=Ad.all_node _ a l
theorem Ti(a:RH)(l:List PT):FK (PT.er (.node a l))=(DY a.plain l.length&&l.all (fun t=>FK (PT.er t))):=by rw [PT.er_node,Gc,Ba,CD];rfl
def UP(fid:FuncId)(caps:Array Value)(w:World)(l:List PT)(q:PT->Bool):Prop:=∀x∈l,∀W,Below w.heap.size w W->Calls prog fid (#[IJ x.head]++caps) W fun e w'=>e=.returned (.bool (q x))/\Below W.heap.size W w'
theorem UP.is(h:UP fid caps w l q)(hx:x∈l)(hq:q x=r)(hb:Below w.heap.size w W):Calls prog fid (#[IJ x.head]++caps) W fun e w'=>e=.returned (.bool r)/\Below W.heap.size W w':=by subst hq;exact h x hx W hb
theorem Pg(fid:FuncId)(caps:Array Value)(q:PT->Bool)(ay:Hv fid)(hr:G0 w p n cap l)(hf:UP fid caps w l q) :
 Calls prog 216 #[.slice p n cap,.func (.func fid) #[] caps] w fun e w'=>(∃r:Int,e=.returned (.int .i64 r)/\UI q l r)/\Below w.heap.size w w':=by
 unfold Hv at ay
 have hm:=hr.row.max
 have HR:=AF hr
 have HF:=AF hf
 clear hr hf
 go_enter func216,ntmps216
 go_wp2_with fail
 go_loopw [5,8] (fun _ i wr=>∃k:Nat,k<=n/\i=.int .i64 k/\(l.take k).any q=false/\Below w.heap.size w wr) (fun _ i _=>n-(intOf i).toNat)
 case atStart=>exact⟨0,by omega,rfl,by simp,AA _ _⟩
 case round=>
  obtain⟨k,hk,rfl,an,hb⟩:=hrel;have ax:=AF an;have HB:=AF hb;clear an hb;by_cases aG:k<n
  ·obtain⟨x,hx⟩:=HR.o.at (j:=k) aG;have HE:=AF hx;obtain⟨b,o,rfl,bB,d0,d1,d2,d3⟩:=(HR.o.below HB.o).kid hx;clear hx bB;cases hq:q x
   ·have HQ:=AF hq;clear hq;go_wp2_with fail;refine(HF.o.is (AE HE.o) HQ.o HB.o).mono ?_;rintro e w1 ⟨rfl,hb⟩;have aH:=bt HB hb;clear hb;clear d0 d1 d2 d3;go_wp2_with fail;go_roundw
    case rel=>exact⟨k+1,by omega,by go_num,by rw [FA HE.o,ax.o,HQ.o];rfl,aH.o⟩
    case measure=>simp [intOf];omega
   ·have HQ:=AF hq;clear hq;go_wp2_with fail;refine(HF.o.is (AE HE.o) HQ.o HB.o).mono ?_;rintro e w1 ⟨rfl,hb⟩;have aH:=bt HB hb;clear hb;clear d0 d1 d2 d3;go_wp2_with fail;go_ret;exact⟨⟨k,rfl,.inr ⟨k,x,rfl,HE.o,HQ.o,ax.o⟩⟩,aH.o⟩
  ·go_wp2_with fail;go_ret;have h:=ax.o;rw [Bb (by rw [HR.o.row.len];omega)] at h;exact⟨⟨-1,rfl,.inl ⟨rfl,h⟩⟩,HB.o⟩
theorem NO(fid:FuncId)(caps:Array Value)(q:PT->Bool)(ay:Hv fid)(hr:G0 w p n cap l)(hf:UP fid caps w l q):Calls prog 179 #[.slice p n cap,.func (.func fid) #[] caps] w (RB w (.bool (l.any q))):=by
 have hc:Calls prog 216 #[.slice p n cap,.func (.func fid) #[] caps] w fun e w'=>
  (∃r:Int,e=.returned (.int .i64 r)/\l.any q=decide (0<=r))/\Below w.heap.size w w':=
  (Pg fid caps q ay hr hf).mono fun _ _ ⟨⟨r,he,hr⟩,hb⟩=>⟨⟨r,he,hr.any⟩,hb⟩
 generalize l.any q=r at hc ⊢;clear hr hf ay;go_enter func179,ntmps179;go_wp2_with fail;refine hc.mono ?_;rintro e w1 ⟨⟨r,rfl,hr⟩,hb⟩;have HR:=AF hr;have HB:=AF hb;clear hr hb hc;go_wp2_with fail;go_ret;exact⟨Af HR.o.symm,HB.o⟩
theorem Q6(ho:RH.Own w a):Calls prog 181 #[IJ a] w (RB w (.bool (DY a.plain a.kn))):=by
 have aK:=AF ((AA w.heap.size w).alloc (AB _) (.cells #[.int .u8 a.kind,.int .i64 a.rho,.slice a.ep a.en a.ec,.slice a.kp a.kn a.kc] 28));have fL:=ho.kmax;have uT:=ho.eff.max;have HO:=AF ho;obtain⟨kd,rr,ep,en,ec,eff,kp,kn,kc⟩:=a;simp only at fL uT;have di:eff.length=en:=ho.eff.len;have aj:en=0->eff=[]:=fun h=>BA.1 (by omega);have aM:0<en->eff≠[]:=fun h e=>by rw [e] at di;simp at di;omega
 clear ho di;by_cases h1:kd=1
 ·subst h1;by_cases hr:rr=0
  ·subst hr;by_cases he:en=0
   ·subst he;obtain rfl:=aj rfl;by_cases hk:kn=0
    ·subst hk;have HF:Hd (DY (RH.plain ⟨1,0,ep,0,ec,[],kp,0,kc⟩) 0=true):=by show _=_;simp [DY,RH.plain]
     clear aM aj;go_enter func181,ntmps181;go_wp2_with fail;go_ret;exact⟨Af HF.o.symm,aK.o⟩
    ·have hb:((kn:Int)==0)=false:=by rw [AW];omega
     have HF:Hd (DY (RH.plain ⟨1,0,ep,0,ec,[],kp,kn,kc⟩) kn=false):=by show _=_;simp [DY,RH.plain,hk]
     clear aM aj hk;go_enter func181,ntmps181;go_wp2_with fail;go_ret;exact⟨Af HF.o.symm,aK.o⟩
   ·have hb:((en:Int)==0)=false:=by rw [AW];omega
    have fW:=aM (by omega);have HF:Hd (DY (RH.plain ⟨1,0,ep,en,ec,eff,kp,kn,kc⟩) kn=false):=by show _=_;simp [DY,RH.plain,fW]
    clear aM aj fW he;go_enter func181,ntmps181;go_wp2_with fail;go_ret;exact⟨Af HF.o.symm,aK.o⟩
  ·have hb:(rr==0)=false:=by rw [AW];exact hr
   have HF:Hd (DY (RH.plain ⟨1,rr,ep,en,ec,eff,kp,kn,kc⟩) kn=false):=by show _=_;simp [DY,RH.plain,hr]
   clear aM aj hr;go_enter func181,ntmps181;go_wp2_with fail;go_ret;exact⟨Af HF.o.symm,aK.o⟩
 by_cases h2:kd=2
 ·subst h2;by_cases hr:0<=rr
  ·by_cases he:en=0
   ·subst he;obtain rfl:=aj rfl;by_cases hk:kn=2
    ·subst hk;have HF:Hd (DY (RH.plain ⟨2,rr,ep,0,ec,[],kp,2,kc⟩) 2=true):=by show _=_;simp [DY,RH.plain,hr]
     clear aM aj;go_enter func181,ntmps181;go_wp2_with fail;go_ret;exact⟨Af HF.o.symm,aK.o⟩
    ·have hb:((kn:Int)==2)=false:=by rw [AW];omega
     have HF:Hd (DY (RH.plain ⟨2,rr,ep,0,ec,[],kp,kn,kc⟩) kn=false):=by show _=_;simp [DY,RH.plain,hk]
     clear aM aj hk;go_enter func181,ntmps181;go_wp2_with fail;go_ret;exact⟨Af HF.o.symm,aK.o⟩
   ·have hb:((en:Int)==0)=false:=by rw [AW];omega
    have fW:=aM (by omega);have HF:Hd (DY (RH.plain ⟨2,rr,ep,en,ec,eff,kp,kn,kc⟩) kn=false):=by show _=_;simp [DY,RH.plain,fW]
    clear aM aj fW he;go_enter func181,ntmps181;go_wp2_with fail;go_ret;exact⟨Af HF.o.symm,aK.o⟩
  ·have HF:Hd (DY (RH.plain ⟨2,rr,ep,en,ec,eff,kp,kn,kc⟩) kn=false):=by show _=_;simp [DY,RH.plain,hr]
   clear aM aj;go_enter func181,ntmps181;go_wp2_with fail;go_ret;exact⟨Af HF.o.symm,aK.o⟩
 by_cases h3:kd=3
 ·subst h3;by_cases hr:0<=rr
  ·by_cases he:en=0
   ·subst he;obtain rfl:=aj rfl;by_cases hk:kn=1
    ·subst hk;have HF:Hd (DY (RH.plain ⟨3,rr,ep,0,ec,[],kp,1,kc⟩) 1=true):=by show _=_;simp [DY,RH.plain,hr]
     clear aM aj;go_enter func181,ntmps181;go_wp2_with fail;go_ret;exact⟨Af HF.o.symm,aK.o⟩
    ·have hb:((kn:Int)==1)=false:=by rw [AW];omega
     have HF:Hd (DY (RH.plain ⟨3,rr,ep,0,ec,[],kp,kn,kc⟩) kn=false):=by show _=_;simp [DY,RH.plain,hk]
     clear aM aj hk;go_enter func181,ntmps181;go_wp2_with fail;go_ret;exact⟨Af HF.o.symm,aK.o⟩
   ·have hb:((en:Int)==0)=false:=by rw [AW];omega
    have fW:=aM (by omega);have HF:Hd (DY (RH.plain ⟨3,rr,ep,en,ec,eff,kp,kn,kc⟩) kn=false):=by show _=_;simp [DY,RH.plain,fW]
    clear aM aj fW he;go_enter func181,ntmps181;go_wp2_with fail;go_ret;exact⟨Af HF.o.symm,aK.o⟩
  ·have HF:Hd (DY (RH.plain ⟨3,rr,ep,en,ec,eff,kp,kn,kc⟩) kn=false):=by show _=_;simp [DY,RH.plain,hr]
   clear aM aj;go_enter func181,ntmps181;go_wp2_with fail;go_ret;exact⟨Af HF.o.symm,aK.o⟩
 by_cases h4:kd=4
 ·subst h4;by_cases hr:0<=rr
  ·cases hm:ID eff
   ·have HF:Hd (DY (RH.plain ⟨4,rr,ep,en,ec,eff,kp,kn,kc⟩) kn=false):=by show _=_;simp [DY,RH.plain,hm]
    have HM:=AF hm;clear hm aM aj;go_enter func181,ntmps181;go_wp2_with fail;refine(Kt HM.o (HO.o.eff.alloc _)).mono ?_;rintro e w1 ⟨rfl,hb⟩;have aH:=bt aK hb;clear hb;go_wp2_with fail;go_ret;exact⟨Af HF.o.symm,aH.o⟩
   ·have HM:=AF hm;by_cases hk:kn=2
    ·subst hk;have HF:Hd (DY (RH.plain ⟨4,rr,ep,en,ec,eff,kp,2,kc⟩) 2=true):=by show _=_;simp [DY,RH.plain,hm,hr]
     clear hm aM aj;go_enter func181,ntmps181;go_wp2_with fail;refine(Kt HM.o (HO.o.eff.alloc _)).mono ?_;rintro e w1 ⟨rfl,hb⟩;have aH:=bt aK hb;have om:w1.cell? ⟨w.heap.size,3,none⟩=some (.slice kp 2 kc):=by rw [hb.cell (by simp),Bq];rfl
     clear hb;go_wp2_with fail;go_ret;exact⟨Af HF.o.symm,aH.o⟩
    ·have aU:((kn:Int)==2)=false:=by rw [AW];omega
     have HF:Hd (DY (RH.plain ⟨4,rr,ep,en,ec,eff,kp,kn,kc⟩) kn=false):=by show _=_;simp [DY,RH.plain,hk]
     clear hm aM aj hk;go_enter func181,ntmps181;go_wp2_with fail;refine(Kt HM.o (HO.o.eff.alloc _)).mono ?_;rintro e w1 ⟨rfl,hb⟩;have aH:=bt aK hb;have om:w1.cell? ⟨w.heap.size,3,none⟩=some (.slice kp kn kc):=by rw [hb.cell (by simp),Bq];rfl
     clear hb;go_wp2_with fail;go_ret;exact⟨Af HF.o.symm,aH.o⟩
  ·have HF:Hd (DY (RH.plain ⟨4,rr,ep,en,ec,eff,kp,kn,kc⟩) kn=false):=by show _=_;simp [DY,RH.plain,hr]
   clear aM aj;go_enter func181,ntmps181;go_wp2_with fail;go_ret;exact⟨Af HF.o.symm,aK.o⟩
 ·have b1:(kd==1)=false:=by rw [AW];exact h1
  have b2:(kd==2)=false:=by rw [AW];exact h2
  have b3:(kd==3)=false:=by rw [AW];exact h3
  have b4:(kd==4)=false:=by rw [AW];exact h4
  have HF:Hd (DY (RH.plain ⟨kd,rr,ep,en,ec,eff,kp,kn,kc⟩) kn=false):=by show _=_;simp [DY,RH.plain,h1,h2,h3,h4]
  clear aM aj h1 h2 h3 h4;go_enter func181,ntmps181;go_wp2_with fail;go_ret;exact⟨Af HF.o.symm,aK.o⟩
theorem Mq(h:DY a.plain a.kn=r)(ho:RH.Own w a):Calls prog 181 #[IJ a] w (RB w (.bool r)):=by subst h;exact Q6 ho
theorem Nz(hr:G0 w p n cap l)(hf:UP 180 #[] w l (fun t=>!FK (PT.er t))):Calls prog 129 #[.slice p n cap] w fun e w'=>e=.returned (.bool (l.all (fun t=>FK (PT.er t))))/\Below w.heap.size w w':=by
 have hc:=NO 180 #[] _ (fun a w=>call180 a w) hr hf;have he:Hd (l.all (fun t=>FK (PT.er t))=!l.any (fun t=>!FK (PT.er t))):=by show _=_;rw [D1]
 generalize l.any (fun t=>!FK (PT.er t))=q at hc he;have HC:=AF hc;clear hr hf hc;go_enter func129,ntmps129;go_wp2_with fail;refine HC.o.mono ?_;rintro e w1 ⟨rfl,hb⟩;have HB:=AF hb;clear hb;go_wp2_with fail;go_ret;exact⟨Af he.out.symm,HB.o⟩
theorem Q3(t:PT):∀w,LR.lies w t->Calls prog 180 #[IJ t.head] w (RB w (.bool (!FK t.er))):=by
 refine Ad.ind (P:=fun(t:PT)=>∀w,LR.lies w t->Calls prog 180 #[IJ t.head] w fun e w'=>e=.returned (.bool (!FK t.er))/\Below w.heap.size w w') (fun a l ih=>?_) t;intro w hl;have HN:=AF (Fs hl);have HK:=AF (fun W (hW:Below w.heap.size w W)=>Nz ((HN.o.below hW).rowT) (fun x hx W' r6=>by simpa using ih x hx W' (LR.lies_below r6 x ((HN.o.below hW).each x hx))));have aK:=AF ((AA w.heap.size w).alloc (AB _) (.cells #[.int .u8 a.kind,.int .i64 a.rho,.slice a.ep a.en a.ec,.slice a.kp a.kn a.kc] 28));show Calls _ _ #[IJ a] w _;clear hl ih;cases hn:DY a.plain a.kn
 ·have HF:Hd (FK (PT.er (.node a l))=false):=by show _=_;rw [Ti,HN.o.kids.len,hn];rfl
  have bo:=AF hn;clear hn;go_enter func180,ntmps180;go_wp2_with fail;refine(Mq bo.o (HN.o.alloc _).own).mono ?_;rintro e w1 ⟨rfl,hb⟩;have aH:=bt aK hb;clear hb;go_wp2_with fail;go_ret;exact⟨by rw [HF.o];rfl,aH.o⟩
 ·have HF:Hd (FK (PT.er (.node a l))=l.all (fun t=>FK (PT.er t))):=by show _=_;rw [Ti,HN.o.kids.len,hn];rfl
  have bo:=AF hn;clear hn;go_enter func180,ntmps180;go_wp2_with fail;refine(Mq bo.o (HN.o.alloc _).own).mono ?_;rintro e w1 ⟨rfl,hb⟩;have aH:=bt aK hb;have om:w1.cell? ⟨w.heap.size,3,none⟩=some (.slice a.kp a.kn a.kc):=by rw [hb.cell (by simp),Bq];rfl
  clear hb;go_wp2_with fail;refine(HK.o w1 aH.o).mono ?_;rintro e w2 ⟨rfl,hb⟩;have aF:=bt aH hb;clear hb;go_wp2_with fail;go_ret;exact⟨by rw [HF.o];rfl,aF.o⟩
theorem Rw(hr:G0 w p n cap l):Calls prog 129 #[.slice p n cap] w fun e w'=>e=.returned (.bool (l.all (fun t=>FK (PT.er t))))/\Below w.heap.size w w':=Nz hr (fun x hx W hW=>by simpa using Q3 x W (LR.lies_below hW x (hr.each x hx)))
section
open Go.Sort Go.Lib
end
def Gj(l:List PT):Nat:=(l.map Ad.size).sum
theorem XN(h:l[k]?=some x):Gj (l.take (k+1))=Gj (l.take k)+x.size/\Gj (l.take k)+x.size<=Gj l:=JT Ad.size l k x h
theorem NK(t:PT):Gj t.kids+1=t.size:=by obtain⟨a,l⟩:=t;rw [Ad.size_node];show Gj l+1=_;unfold Gj;omega
def V7(x:PT)(W:World):Prop:=Calls prog 65 #[.slice x.head.kp x.head.kn x.head.kc] W fun e w'=>e=.returned (.int .i64 (Gj x.kids))/\Below W.heap.size W w'
theorem Mp(hr:G0 w p n cap l)(hs:Gj l<=1000000)(hf:∀x∈l,∀W,Below w.heap.size w W->V7 x W):Calls prog 65 #[.slice p n cap] w (RB w (.int .i64 (Gj l))):=by
 have hm:=hr.row.max;have HR:=AF hr;have HF:=AF hf;have HS:=AF hs;clear hr hf hs;go_enter func65,ntmps65;go_wp2_with fail;go_loopw [3,5,8] (fun s _ i wr=>∃k S:Nat,k<=n/\i=.int .i64 k/\Gj (l.take k)=S/\S<=1000000/\s=.int .i64 S/\Below w.heap.size w wr) (fun _ _ i _=>n-(intOf i).toNat)
 case atStart=>exact⟨0,0,by omega,rfl,rfl,by omega,rfl,AA _ _⟩
 case round=>
  obtain⟨k,S,hk,rfl,hS,t7,rfl,hb⟩:=hrel;have HSk:=AF hS;have HB:=AF hb;clear hS hb;by_cases aG:k<n
  ·obtain⟨x,hx⟩:=HR.o.at (j:=k) aG;have HE:=AF hx;obtain⟨b,o,rfl,bB,d0,d1,d2,d3⟩:=(HR.o.below HB.o).kid hx;have cx:=AF (XN hx);have rU:=AF (NK x);have ap:S+x.size<=1000000:=by have:=cx.o.2;have:=HS.o;have:=HSk.o;omega
   have aU:Gj x.kids<=1000000:=by have:=rU.o;omega
   have fm:=HB.o.size;clear hx bB;go_wp2_with fail;refine(HF.o x (AE HE.o) _ (HB.o.alloc fm _)).mono ?_;rintro e w1 ⟨rfl,hb⟩;have aH:=AF ((HB.o.alloc fm (.cells #[.int .u8 x.head.kind,.int .i64 x.head.rho,.slice x.head.ep x.head.en x.head.ec,.slice x.head.kp x.head.kn x.head.kc] 28)).trans (hb.mono (by simp;omega)));clear hb d0 d1 d2 d3;generalize hz:Gj x.kids=z at *
   have yI:S+z<=1000000:=by have:=rU.o;omega
   have rV:Hd (z+1=x.size):=rU.o;have yJ:=AF hz;clear hz;go_wp2_with fail;go_roundw
   case rel=>exact⟨k+1,S+x.size,by omega,by go_num,by have:=cx.o.1;have:=HSk.o;omega,ap,by have:=rV.o;rw [show ((S+x.size:Nat):Int)=(S:Int)+((1:Int)+(z:Int)) by omega],aH.o⟩
   case measure=>simp [intOf];omega
  ·have ai:k=n:=by omega
   subst ai;go_wp2_with fail;go_ret;have h:=HSk.o;rw [Bb (by rw [HR.o.row.len];omega)] at h;subst h;exact⟨rfl,HB.o⟩
theorem XL(t:PT):∀w,LR.lies w t->t.size<=1000000->V7 t w:=by
 refine Ad.ind (P:=fun(t:PT)=>∀w,LR.lies w t->t.size<=1000000->V7 t w) (fun a l ih=>?_) t;intro w hl hs;have HN:=Fs hl;have hk:Gj l+1=(Ad.node a l).size:=NK (.node a l)
 exact Mp (l:=l) HN.rowT (by omega) (fun x hx W hW=>ih x hx W (LR.lies_below hW x (HN.each x hx)) (by
  have h2:x.size<=Gj l:=EG (Au hx);omega))
theorem Q4(hr:G0 w p n cap l)(hs:Gj l<=1000000):Calls prog 65 #[.slice p n cap] w (RB w (.int .i64 (Gj l))):=
 Mp hr hs (fun x hx W hW=>XL x W (LR.lies_below hW x (hr.each x hx)) (by
  have:x.size<=Gj l:=EG (Au hx);omega))
end Go.Proofs.YtkdjnegfnhldpaaGreatDoor
