/- Part 02. -/
import Derived.StillTailTactics
import Derived.Sort.Grow
import Derived.Deep.QuietTactic
import Derived.Laws.StructEq
import Derived.Lib.AppendZerosOnto
import Derived.Laws.AppendOwnNone
import Derived.Ground.SlsfProg
import Derived.Shelf.SlSortCmp.NoneTotal
import Derived.Shelf.SlGeneric
import Derived.Shelf.Small.Bits
import Derived.Shelf.Small.Strs
import Derived.Shelf.Small.Wraps
import Derived.Shelf.Utf8.RuneCount
import Derived.Shelf.Strconv.Itoa0
import Derived.Shelf.Strings.Search1
import Derived.Shelf.Strings.Search2
import Derived.Shelf.Strings.Search3
import Derived.Shelf.Strings.Count
import Derived.Shelf.LaysM
import Derived.Shelf.Strings.Shaped
import Derived.Shelf.Sort.Plain
import Derived.Shelf.Strings.Split
import Derived.Shelf.Strings.SplitShaped
import Derived.Shelf.Unicode.Decode
import Derived.Shelf.Strings.RuneCount
import Derived.Shelf.Strings.Explode
import Derived.Shelf.Unicode.DecodeSlow
import Derived.Shelf.Unicode.DecodeAny
import Derived.Shelf.Slices.Turned
import Derived.Ground.Names2Prog
import Derived.Shelf.Slices.CompactI
import Derived.Shelf.Slices.SearchI
import Derived.Shelf.Slices.Cells
import Derived.Shelf.Slices.In.SortNone
import Derived.Ground.SlgnProg
import Derived.Shelf.SlicesE.Index
import Derived.Shelf.SlicesE.Compact
import Derived.Ground.SlgfProg
import Derived.Shelf.SlicesE.IndexFunc
import Derived.Test.YtkdjnegfnhldpaaGreatDoorProg
import Derived.Test.YtkdjnegfnhldpaaGreatDoorK01
set_option linter.unusedVariables false
set_option maxRecDepth 100000
set_option linter.unusedSimpArgs false
set_option maxHeartbeats 40000000
set_option autoImplicit true
set_option relaxedAutoImplicit true
namespace Go.Proofs.YtkdjnegfnhldpaaGreatDoor
open Go.Proofs.Tryz Go.RowKit
def Ce(a:BB):List Value:=[.int .u8 a.kind,.int .i64 a.rho,.string a.exn]
theorem BF(a:BB):(Ce a).length=3:=rfl
def DF(a:BB):Bool:=if a.kind=1\/a.kind=2 then decide (0<=a.rho)&&a.exn.toList.isEmpty else if a.kind=3 then decide (a.rho=0)&&GR a.exn else false
theorem UW(a:BB)(w:World):Calls prog 127 #[.agg #[.int .u8 a.kind,.int .i64 a.rho,.string a.exn]] w (RB w (.bool (DF a))):=by
 obtain⟨k,r,s⟩:=a;by_cases eH:k=1\/k=2
 ·have hr:Hd (DF ⟨k,r,s⟩=(decide (0<=r)&&s.toList.isEmpty)):=by show DF ⟨k,r,s⟩=_;simp [DF,eH]
  by_cases h0:0<=r
  ·cases he:s.toList.isEmpty
   ·have bG:(s.toList==[])=false:=by rw [AW];intro e;rw [e] at he;cases he
    rcases eH with rfl|rfl
    all_goals
     go_enter func127,ntmps127
     go_wp2_with fail
     go_ret
     exact⟨Af (by rw [hr.out];simp [h0,he]),bA⟩
   ·have bG:s.toList=[]:=by simpa using he
    rcases eH with rfl|rfl
    all_goals
     go_enter func127,ntmps127
     go_wp2_with fail
     go_ret
     exact⟨Af (by rw [hr.out];simp [h0,he]),bA⟩
  ·rcases eH with rfl|rfl
   all_goals
    go_enter func127,ntmps127
    go_wp2_with fail
    go_ret
    exact⟨Af (by rw [hr.out];simp;omega),bA⟩
 ·have k1:(k==1)=false:=by rw [AW];omega
  have k2:(k==2)=false:=by rw [AW];omega
  by_cases h3:k=3
  ·subst h3;by_cases h0:r=0
   ·subst h0;have hr:Hd (DF ⟨3,0,s⟩=GR s):=by show DF ⟨3,0,s⟩=_;simp [DF]
    have hc:=fun W aC=>Mt (some ⟨w.heap.size+1,0,none⟩) 1 1 [s] W rfl (by omega) aC;have he:Hd ([s].all GR=GR s):=by show [s].all GR=GR s;simp
    have HC:=AF hc;clear hc;go_enter func127,ntmps127;go_wp2_with fail;refine(HC.o _ (DK.newAt Hh _ [s] _ rfl _ (0,0) _ (by simp))).mono ?_;rintro e w1 ⟨rfl,hb⟩;have HB:Hd (Below w.heap.size w w1):=(((AA _ w).alloc (AB _) _).alloc (by simp) _).trans (hb.mono (by simp;omega));clear hb;rw [he.out];go_wp2_with fail;go_ret;exact⟨Af hr.out.symm,HB.o⟩
   ·have hr:Hd (DF ⟨3,r,s⟩=false):=by show DF ⟨3,r,s⟩=_;simp [DF,h0]
    have r0:(r==0)=false:=by rw [AW];exact h0
    go_enter func127,ntmps127;go_wp2_with fail;go_ret;exact⟨Af hr.out.symm,bA⟩
  ·have hr:Hd (DF ⟨k,r,s⟩=false):=by show DF ⟨k,r,s⟩=_;simp [DF,eH,h3]
   have k3:(k==3)=false:=by rw [AW];exact h3
   go_enter func127,ntmps127;go_wp2_with fail;go_ret;exact⟨Af hr.out.symm,bA⟩
section
open Go.Sort
def If(a b:Int):Int:=if a<b then -1 else if b<a then 1 else 0
def OL(s t:ByteArray):Int:=if Op.bytesLess s.toList t.toList then -1 else if Op.bytesLess t.toList s.toList then 1 else 0
def QM(a b:BB):Int:=if If a.kind b.kind≠0 then If a.kind b.kind else if If a.rho b.rho≠0 then If a.rho b.rho else OL a.exn b.exn
theorem Z6(a b:Int)(w:World):Calls prog 176 #[.int .u8 a,.int .u8 b] w fun e w'=>e=.returned (.int .i64 (If a b))/\w'=w:=by
 rcases (by omega:a<b\/b<a\/a=b) with h|h|rfl
 ·have hr:Hd (If a b=-1):=by show If a b=-1;simp [If,h]
  go_enter func176,ntmps176;go_wp2;go_ret;exact⟨E0 hr.out.symm,rfl⟩
 ·have h':¬a<b:=by omega
  have hr:Hd (If a b=1):=by show If a b=1;simp [If,h,h']
  clear h';have wi:b<=a:=by omega
  go_enter func176,ntmps176;go_wp2;go_ret;exact⟨E0 hr.out.symm,rfl⟩
 ·have hr:Hd (If a a=0):=by show If a a=0;simp [If]
  go_enter func176,ntmps176;go_wp2;go_ret;exact⟨E0 hr.out.symm,rfl⟩
theorem YQ(a b:Int)(w:World):Calls prog 177 #[.int .i64 a,.int .i64 b] w fun e w'=>e=.returned (.int .i64 (If a b))/\w'=w:=by
 rcases (by omega:a<b\/b<a\/a=b) with h|h|rfl
 ·have hr:Hd (If a b=-1):=by show If a b=-1;simp [If,h]
  go_enter func177,ntmps177;go_wp2;go_ret;exact⟨E0 hr.out.symm,rfl⟩
 ·have h':¬a<b:=by omega
  have hr:Hd (If a b=1):=by show If a b=1;simp [If,h,h']
  clear h';have wi:b<=a:=by omega
  go_enter func177,ntmps177;go_wp2;go_ret;exact⟨E0 hr.out.symm,rfl⟩
 ·have hr:Hd (If a a=0):=by show If a a=0;simp [If]
  go_enter func177,ntmps177;go_wp2;go_ret;exact⟨E0 hr.out.symm,rfl⟩
theorem ZDU(h:Op.bytesLess x y=true):(x==y)=false:=by rw [AW];intro e;subst e;rw [MJ] at h;cases h
theorem WL(s t:ByteArray)(w:World):Calls prog 178 #[.string s,.string t] w fun e w'=>e=.returned (.int .i64 (OL s t))/\w'=w:=by
 cases h:Op.bytesLess s.toList t.toList
 ·cases h':Op.bytesLess t.toList s.toList
  ·have he:s=t:=K9 (WF _ _ h h');subst he;have hr:Hd (OL s s=0):=by show OL s s=0;simp [OL,MJ]
   clear h';go_enter func178,ntmps178;go_wp2;go_ret;exact⟨E0 hr.out.symm,rfl⟩
  ·have aM:=ZDU h';have fW:(s.toList==t.toList)=false:=by rw [Db];exact aM
   have hr:Hd (OL s t=1):=by show OL s t=1;simp [OL,h,h']
   go_enter func178,ntmps178;go_wp2;go_ret;exact⟨E0 hr.out.symm,rfl⟩
 ·have hr:Hd (OL s t=-1):=by show OL s t=-1;simp [OL,h]
  go_enter func178,ntmps178;go_wp2;go_ret;exact⟨E0 hr.out.symm,rfl⟩
def or3(a b c:Int):Int:=if a≠0 then a else if b≠0 then b else c
theorem ZCH(a b c:Int)(B:Nat)(w:World)(h0:w.cell? ⟨B,0,none⟩=some (.int .i64 a))(h1:w.cell? ⟨B,1,none⟩=some (.int .i64 b))(h2:w.cell? ⟨B,2,none⟩=some (.int .i64 c)):Calls prog 175 #[.slice (some ⟨B,0,none⟩) 3 3] w fun e w'=>e=.returned (.int .i64 (or3 a b c))/\w'=w:=by
 by_cases ha:a=0
 ·subst ha;by_cases hb:b=0
  ·subst hb;have hr:Hd (or3 0 0 c=c):=by show or3 0 0 c=c;simp [or3]
   go_enter func175,ntmps175;go_wp2_with fail;go_loop [5,8] (fun _ i=>∃k:Nat,k<=3/\i=.int .i64 k/\(3<=k->c=0)) (fun _ i=>3-(intOf i).toNat)
   case atStart=>exact⟨0,by omega,rfl,by omega⟩
   case round=>
    obtain⟨k,hk,rfl,hc⟩:=hrel;rcases (by omega:k=0\/k=1\/k=2\/k=3) with rfl|rfl|rfl|rfl
    ·clear hc;go_wp2_with fail;go_round
     case rel=>exact⟨1,by omega,rfl,by omega⟩
     case measure=>simp [intOf]
    ·clear hc;go_wp2_with fail;go_round
     case rel=>exact⟨2,by omega,rfl,by omega⟩
     case measure=>simp [intOf]
    ·clear hc;by_cases hc:c=0
     ·subst hc;go_wp2_with fail;go_round
      case rel=>exact⟨3,by omega,rfl,by simp⟩
      case measure=>simp [intOf]
     ·have xx:(c != 0)=true:=by simpa using hc
      have HC:=AF hc;clear hc;go_wp2_with fail;go_ret;exact⟨E0 hr.out.symm,rfl⟩
    ·have bg:c=0:=hc (by omega);subst bg;go_wp2_with fail;go_ret;exact⟨E0 hr.out.symm,rfl⟩
  ·have hr:Hd (or3 0 b c=b):=by show or3 0 b c=b;simp [or3,hb]
   have xw:(b != 0)=true:=by simpa using hb
   have HB:=AF hb;clear hb;go_enter func175,ntmps175;go_wp2_with fail;go_loop [5,8] (fun _ i=>∃k:Nat,k<=1/\i=.int .i64 k) (fun _ i=>3-(intOf i).toNat)
   case atStart=>exact⟨0,by omega,rfl⟩
   case round=>
    obtain⟨k,hk,rfl⟩:=hrel;rcases (by omega:k=0\/k=1) with rfl|rfl
    ·go_wp2_with fail;go_round
     case rel=>exact⟨1,by omega,rfl⟩
     case measure=>simp [intOf]
    ·go_wp2_with fail;go_ret;exact⟨E0 hr.out.symm,rfl⟩
 ·have hr:Hd (or3 a b c=a):=by show or3 a b c=a;simp [or3,ha]
  have xu:(a != 0)=true:=by simpa using ha
  have HA:=AF ha;clear ha;go_enter func175,ntmps175;go_wp2_with fail;go_loop [5,8] (fun _ i=>i=.int .i64 0) (fun _ i=>0)
  case atStart=>rfl
  case round=>subst hrel;go_wp2_with fail;go_ret;exact⟨E0 hr.out.symm,rfl⟩
theorem OG(W:World)(cs:Array Value)(t:TypeId)(k:Nat)(fr:Nat×Nat)(B:Nat)(h:W.heap.size=B):(W.alloc (.cells cs t fr)).cell? ⟨B,k,none⟩=cs[k]?:=by subst h;exact Bq W cs t k fr
theorem Ox(a b:BB)(W:World):Calls prog 128 #[.agg #[.int .u8 a.kind,.int .i64 a.rho,.string a.exn],.agg #[.int .u8 b.kind,.int .i64 b.rho,.string b.exn]] W fun e w'=>e=.returned (.int .i64 (QM a b))/\∃q os',w'=grow (W.drewN q) os':=by
 go_enter func128,ntmps128;go_wp2_with fail;refine wp_region_still_tail 15 (by kernel_rfl) (by kernel_rfl) ?_;change wpStill _ _ (World.drew _) _ _ _;simp only [Cj,CK,List.drop_succ_cons,List.drop_zero];repeat still_step
 still_call (Z6 _ _ _);repeat still_step
 still_call (YQ _ _ _);repeat still_step
 still_call (WL _ _ _);repeat still_step
 refine wpStill_nil ?_;change wpList _ _ _ _ _ (World.drew _);go_wp2_with fail;refine(ZCH (If a.kind b.kind) (If a.rho b.rho) (OL a.exn b.exn) (W.heap.size+2) _ ?_ ?_ ?_).mono ?_
 ·change (World.alloc _ _).cell? _=_;rw [OG _ _ _ _ (0,0) _ (by simp)];rfl
 ·change (World.alloc _ _).cell? _=_;rw [OG _ _ _ _ (0,0) _ (by simp)];rfl
 ·change (World.alloc _ _).cell? _=_;rw [OG _ _ _ _ (0,0) _ (by simp)];rfl
 ·rintro e w' ⟨rfl,rfl⟩;go_wp2_with fail;go_ret;exact⟨rfl,1,_,by rw [alloc_eq_grow,alloc_eq_grow,alloc_eq_grow,grow_grow,grow_grow];rfl⟩
end
abbrev Ia:=DK Ce 3
theorem Ia.atom(h:Ia w p l)(hx:l[j]?=some x):∃b o,p=some ⟨b,o,none⟩/\b<w.heap.size/\w.cell? ⟨b,o+j * 3,none⟩=some (.int .u8 x.kind)/\w.cell? ⟨b,o+j * 3+1,none⟩=some (.int .i64 x.rho)/\w.cell? ⟨b,o+j * 3+2,none⟩=some (.string x.exn):=by obtain⟨b,o,rfl,hb,hc⟩:=h.elem hx;exact⟨b,o,rfl,hb,by simpa using hc 0 _ rfl,hc 1 _ rfl,hc 2 _ rfl⟩
def Vx(x y:BB):Bool:=decide (x=y)
theorem SN(x y:BB):Vx x y=(x.kind==y.kind&&x.rho==y.rho&&(x.exn.toList==y.exn.toList)):=by
 unfold Vx;obtain⟨xk,xr,xe⟩:=x;obtain⟨yk,yr,ye⟩:=y;rw [Bu];simp only [Ai,BB.mk.injEq,AK,A3];constructor
 ·rintro⟨h1,h2,h3⟩;subst h3;exact⟨⟨h1,h2⟩,rfl⟩
 ·rintro⟨⟨h1,h2⟩,h3⟩;exact⟨h1,h2,K9 h3⟩
theorem X3(x y:BB)(w:World):(binOp .eql 59 (.agg #[.int .u8 x.kind,.int .i64 x.rho,.string x.exn]) (.agg #[.int .u8 y.kind,.int .i64 y.rho,.string y.exn])).run prog w=.ok (.bool (Vx x y)) w:=by
 have u3:=underlying3;have u5:=underlying5;have u9:=underlying9;have hS:prog.underlying 59=some (.struct (prog.fieldsOf 59)):=by kernel_rfl
 have hp:prog.stoodInHeld 59=false:=by kernel_rfl
 rw [run_eql_struct,show (10000:Nat)=9999+1 from rfl,run_equalIn_agg w 9999 59 _ _ hS hp,SN];simp only [Program.fieldsOf,underlying59];go_simp;by_cases h1:x.kind=y.kind<;>by_cases h2:x.rho=y.rho<;>by_cases h3:x.exn.toList=y.exn.toList<;>simp [h1,h2,h3]
theorem ZCX(x y:BB)(w:World):(binOp .neq 59 (.agg #[.int .u8 x.kind,.int .i64 x.rho,.string x.exn]) (.agg #[.int .u8 y.kind,.int .i64 y.rho,.string y.exn])).run prog w=.ok (.bool (!Vx x y)) w:=by
 have u3:=underlying3;have u5:=underlying5;have u9:=underlying9;have hS:prog.underlying 59=some (.struct (prog.fieldsOf 59)):=by kernel_rfl
 have hp:prog.stoodInHeld 59=false:=by kernel_rfl
 rw [run_neq_struct,show (10000:Nat)=9999+1 from rfl,run_equalIn_agg w 9999 59 _ _ hS hp,SN];simp only [Program.fieldsOf,underlying59];go_simp;by_cases h1:x.kind=y.kind<;>by_cases h2:x.rho=y.rho<;>by_cases h3:x.exn.toList=y.exn.toList<;>simp [h1,h2,h3]
def ZS(l:List BB)(a:BB):Bool:=l.any (fun x=>Vx x a)
def Gt(l:List BB):Bool:=decide (100<l.length)||l.any (fun a=>decide (100<a.exn.size))
def Fg(l:List BB):Bool:=decide (200<l.length)||l.any (fun a=>decide (100<a.exn.size))
theorem SR(h:Gt l=false):Fg l=false:=by unfold Gt at h;unfold Fg;simp only [A5,BE] at h ⊢;exact⟨by omega,h.2⟩
theorem Ml(p:Option Addr)(n cap:Nat)(l:List BB)(w:World)(hn:l.length=n)(hm:n<=9223372036854775807)(hr:Ia w p l):Calls prog 86 #[.slice p n cap] w fun e w'=>e=.returned (.bool (Gt l))/\w=w':=by
 by_cases mV:100<n
 ·have hg:Hd (Gt l=true):=by show Gt l=true;simp [Gt,hn,mV]
  clear hr hn;go_enter func86,ntmps86;go_wp2_with fail;go_ret;exact⟨Af hg.out.symm,rfl⟩
 ·have hg:Hd (Gt l=l.any (fun a=>decide (100<a.exn.size))):=by show Gt l=_;simp [Gt,hn,mV]
  have ti:n<=100:=by omega
  have HR:=AF hr;have HN:=AF hn;clear hr hn mV;go_enter func86,ntmps86;go_wp2_with fail;go_loop [3,9] (fun _ i=>∃k:Nat,k<=n/\i=.int .i64 k/\(l.take k).any (fun a=>decide (100<a.exn.size))=false) (fun _ i=>n-(intOf i).toNat)
  case atStart=>exact⟨0,by omega,rfl,by simp⟩
  case round=>
   obtain⟨k,hk,rfl,an⟩:=hrel;have ax:=AF an;clear an;by_cases aG:k<n
   ·obtain⟨x,hx⟩:=Bh (l:=l) (j:=k) (by rw [HN.o];exact aG);obtain⟨b,o,rfl,hb,c0,c1,c2⟩:=Ia.atom HR.o hx;have HE:=AF hx;clear hx hb c0 c1;by_cases hq:100<x.exn.size
    ·go_wp2_with fail;go_ret;exact⟨Af (by rw [hg.out,J5 HE.o (by simpa using hq)]),rfl⟩
    ·have m6:x.exn.size<=100:=by omega
     clear hq;go_wp2_with fail;go_round
     case rel=>exact⟨k+1,by omega,by go_num,by rw [FA HE.o,ax.o,ER];simpa using m6⟩
     case measure=>simp [intOf];omega
   ·go_wp2_with fail;go_ret;have h:=ax.o;rw [Bb (by rw [HN.o];omega)] at h;exact⟨Af (by rw [hg.out,h]),rfl⟩
theorem J8{w w':World}{o:Obj}{row:Option Nat}(h:(w.alloc o).grownBy w' row):w.grownBy w' row:=⟨h.os,h.tape,h.output,AM (by simp) h.size,fun k hk aM=>(h.block k (by simp;omega) aM).trans (AP w o k hk)⟩
def A1{α:Type}(enc:α->List Value)(k:Nat)(w:World)(base:Nat)(e:TypeId)(v:Value)(n:Nat)(l:List α):Prop:=w.ownsRow base e k v n (l.flatMap enc)
theorem Dx(bM:o.guard=none)(s x:Operand)(t:TypeId)(ho:o.op=.call { callee:=.builtin .append,args:=#[s,x],argTypes:=#[t,t] })(base:Nat)(e:TypeId)(z:Value)(k bytes:Nat)(ht:P.underlying t=some (.slice e))(ct:(P.info? e).map (fun i=>(i.zero,i.size,i.bytes))=some (some z,k,bytes))(iz:z.cells.size=k)(aI:0<k)(enc:α->List Value)(hk:∀x,(enc x).length=k)(h1:∀y,∀u∈enc y,u.oneCell'=true)(y:α)(l:List α)(n:Nat)(v:Value)(aD:A1 enc k w base e v n l)(hs:a.eval s=v)(hx:a.eval x=.slice (some ⟨w.heap.size,0,none⟩) 1 1)(av:(n+1) * bytes<=140737488355328)(mZ:n+1<=9223372036854775807)(fH:base<=w.heap.size)(h:∀v' w',A1 enc k w' base e v' (n+1) (l++[y])->w.grownBy w' v.ownBlock->wpList P ops Q rest (a.put o.dst v') w'):wpList P ops Q (o::rest) a (w.alloc (.cells (enc y).toArray e)):=by
 obtain⟨i,hi,hz,cv,iu⟩:=ET ct;refine wpList_append_own _ bM s x t ho base e i z k bytes ht hi hz cv iu iz aI v n _ hs (World.ownsRow.alloc aD _) ⟨w.heap.size,0,none⟩ 1 1 (enc y) hx (by rw [hk];omega) ?_ (h1 y) (by unfold maxLen;omega) av (by simp;omega) ?_
 ·intro j u hj;rw [Ja,Bq w _ _ _ (0,0),BP];simpa using hj
 ·intro v' w' aP hg _;refine h v' w' ?_ (J8 hg);unfold A1;rw [Ci,List.flatMap_singleton];exact aP
section
variable {α:Type} {enc:α->List Value} {k:Nat} {w w':World} {base base' e n:Nat} {v:Value} {l:List α}
theorem A1.lit(enc:α->List Value)(w:World)(base:Nat)(e:TypeId)(k:Nat)(hb:base<=w.heap.size):A1 enc k (w.alloc (.cells #[] e)) base e (.slice (some ⟨w.heap.size,0,none⟩) 0 0) 0 []:=World.ownsRow_made w #[] 0 hb (by simp [maxLen]) (by simp)
theorem A1.nil(enc:α->List Value)(w:World)(base:Nat)(e:TypeId)(k:Nat):A1 enc k w base e (.slice none 0 0) 0 []:=World.ownsRow_nil w base e k
theorem A1.below(h:A1 enc k w base e v n l)(hb:Below w.heap.size w w'):A1 enc k w' base e v n l:=by
 refine⟨h.1,?_⟩;rcases h.2 with hn|⟨g,cap,cur,rfl,ab,hg,rest⟩
 ·exact .inl hn
 ·refine .inr ⟨g,cap,cur,rfl,ab,?_,rest⟩;rw [hb.block g (AO.1 hg).1];exact hg
theorem A1.lower(h:A1 enc k w base e v n l)(hb:base'<=base):A1 enc k w base' e v n l:=by
 refine⟨h.1,?_⟩;rcases h.2 with hn|⟨g,cap,cur,rfl,ab,hg,rest⟩
 ·exact .inl hn
 ·exact .inr ⟨g,cap,cur,rfl,AM hb ab,hg,rest⟩
theorem A1.drew(h:A1 enc k w base e v n l):A1 enc k w.drew base e v n l:=h
theorem A1.drewN(h:A1 enc k w base e v n l)(m:Nat):A1 enc k (w.drewN m) base e v n l:=h
theorem A1.row(hk:∀x,(enc x).length=k)(h:A1 enc k w base e v n l)(ao:0<k):∃p cap,v=.slice p n cap/\l.length=n/\n<=cap/\DK enc k w p l/\cap<=maxLen/\(p=none->n=0/\cap=0)/\(∀a,p=some a->base<=a.block/\a.off=0/\a.spot=none/\a.block<w.heap.size):=ZCJ hk h ao
theorem A1.len(hk:∀x,(enc x).length=k)(h:A1 enc k w base e v n l)(ao:0<k):l.length=n:=by obtain⟨_,_,_,h,_⟩:=h.row hk ao;exact h
theorem Below.own(h:Below B w0 w)(hg:w.grownBy w' v.ownBlock)(hB:B<=w.heap.size)(ho:A1 enc k w B e v n l):Below B w0 w':=h.grown hg hB (fun k hk=>(Aa ho k hk).1)
end
theorem Gp(y:BB):∀u∈Ce y,u.oneCell'=true:=by intro u hu;simp only [Ce,AS,Al,BN] at hu;rcases hu with rfl|rfl|rfl<;>rfl
theorem Lu:(prog.info? 59).map (fun i=>(i.zero,i.size,i.bytes))=some (some (.agg #[.int .u8 0,.int .i64 0,.string .empty]),3,32):=by kernel_rfl
def Sl{α:Type}(enc:α->List Value)(k:Nat)(w:World)(v:Value)(l:List α):Prop:=∃p n cap,v=.slice p n cap/\l.length=n/\n<=cap/\DK enc k w p l
theorem Sl.below(h:Sl enc k w v l)(hb:Below w.heap.size w w'):Sl enc k w' v l:=by obtain⟨p,n,cap,hv,hl,hc,hr⟩:=h;exact⟨p,n,cap,hv,hl,hc,hr.below hb⟩
theorem A1.sl(hk:∀x,(enc x).length=k)(ao:0<k)(h:A1 enc k w base e v n l):Sl enc k w v l:=by obtain⟨p,cap,hv,hl,hc,hr,_⟩:=h.row hk ao;exact⟨p,n,cap,hv,hl,hc,hr⟩
def EP(a b:List BB):Bool:=a.all (fun x=>!DF x||ZS b x)
def Kp(l:List Int)(x:Int):Bool:=l.any (·==x)
structure Zf where
 drawn:Nat
 blocks:Array Obj
deriving Inhabited
def gw(w:World)(g:Zf):World:={ w with heap:=w.heap++g.blocks,drawn:=g.drawn }
theorem Ji(w:World)(g:Zf):Below w.heap.size w (gw w g):=by refine⟨rfl,rfl,rfl,by simp [gw],fun k hk=>?_⟩;simp [gw,Array.getElem?_append_left hk]
theorem Zs(h:Below w.heap.size w w'):∃g,w'=gw w g:=by
 refine⟨⟨w'.drawn,w'.heap.extract w.heap.size w'.heap.size⟩,?_⟩;obtain⟨heap,tape,drawn,os,output⟩:=w;obtain⟨uS,tape',drawn',os',output'⟩:=w';obtain⟨h1,h2,h3,h4,h5⟩:=h;simp only at h1 h2 h3 h4 h5;subst h1;subst h2;subst h3;simp only [gw,World.mk.injEq,true_and,and_true];apply Array.ext_getElem?;intro i;rcases FR i heap.size with hi|hi
 ·rw [Array.getElem?_append_left hi];exact h5 i hi
 ·rw [Array.getElem?_append_right hi,Array.getElem?_extract];simp only [Nat.add_sub_cancel' hi];split
  ·rfl
  ·rw [E6 (by omega)]
theorem Ez(h:w.cell? a=some v)(g:Zf):(gw w g).cell? a=some v:=by rw [(Ji w g).cell (D9 h)];exact h
theorem Df(h:Calls P f args (gw w g) fun e w'=>e=.returned v/\Below (gw w g).heap.size (gw w g) w'):Calls P f args (gw w g) fun e w'=>e=.returned v/\∃g',w'=gw w g':=h.mono fun _ _ ⟨he,hb⟩=>⟨he,Zs ((Ji w g).trans (hb.mono (Ji w g).size))⟩
theorem Es{P:Program}{id:Nat}{Q:Exit->Act->World->Prop}{a:Act}{w:World}{l:List Oper}(hm:P.follows .mixedOrders=true)(hB:Region.lexB .any l.toArray=true)(h:wpQuiet P l.toArray (fun w'=>∃g,w'=gw w g) (fun a'=>∀w',(∃g,w'=gw w g)->Q .normal a' w') l a):(Code.region id l.toArray true).wp P Q a w:=wp_region_quiet (C:=fun w'=>∃g,w'=gw w g) hm hB ⟨⟨w.drawn+1,#[]⟩,by simp [gw]⟩ (by simpa using h)
def ID:List BB->Bool
 |[]=>true
 |[a]=>DF a
 |a::b::l=>DF a&&BB.lt a b&&ID (b::l)
def UM(e:List BB)(k:Nat):Prop:=(e.take k).all DF=true/\∀j x y,j+1<k->e[j]?=some x->e[j+1]?=some y->BB.lt x y=true
theorem GK(bM:o.guard=none)(s x:Operand)(t:TypeId)(ho:o.op=.call { callee:=.builtin .append,args:=#[s,x],argTypes:=#[t,t] })(base:Nat)(e:TypeId)(z:Value)(k bytes:Nat)(ht:P.underlying t=some (.slice e))(ct:(P.info? e).map (fun i=>(i.zero,i.size,i.bytes))=some (some z,k,bytes))(iz:z.cells.size=k)(aI:0<k)(enc:α->List Value)(hk:∀x,(enc x).length=k)(h1:∀y,∀u∈enc y,u.oneCell'=true)(l' l:List α)(n:Nat)(v:Value)(aD:A1 enc k w base e v n l)(p:Option Addr)(m c:Nat)(hs:a.eval s=v)(hx:a.eval x=.slice p m c)(hl:l'.length=m)(hp:p=none->c=0)(hr:DK enc k w p l')(av:(n+m) * bytes<=140737488355328)(mZ:n+m<=9223372036854775807)(fH:base<=w.heap.size)(h:∀v' w',A1 enc k w' base e v' (n+m) (l++l')->w.grownBy w' v.ownBlock->wpList P ops Q rest (a.put o.dst v') w'):wpList P ops Q (o::rest) a w:=by
 obtain⟨i,hi,hz,cv,iu⟩:=ET ct;rcases p with _|ad
 ·have iZ:l'=[]:=by
   rcases hr with h|⟨_,_,h,_⟩
   ·exact h
   ·cases h
  subst iZ;obtain rfl:m=0:=by simpa using hl.symm
  obtain rfl:=hp rfl;refine wpList_append_own_none bM s x t ho base e i k ht hi v n _ hs aD hx ?_;have:=h v w (by simpa using aD) (Cd _ _);exact this
 ·refine wpList_append_own _ bM s x t ho base e i z k bytes ht hi hz cv iu iz aI v n _ hs aD ad m c (l'.flatMap enc) hx (by rw [DO hk,hl]) ?_ ?_ (by unfold maxLen;omega) av fH ?_
  ·intro j u hj;rcases hr with h0|⟨b,o',hb,aG,hc⟩
   ·subst h0;simp at hj
   ·cases hb
    have j0:j<l'.length * k:=by rw [<-DO hk];exact DI hj
    have hq:j / k<l'.length:=Ea (by rw [Nat.mul_comm];exact j0);have hm:j % k<k:=Nat.mod_lt _ aI;have hf:=Gr hk l' (j / k) _ (j % k) (AI hq) hm;rw [DL j k,hj] at hf;have:=hc (j / k) _ (AI hq) (j % k) u hf.symm;rw [Ja,<-DL j k,<-EV];exact this
  ·intro u hu;rw [Dr] at hu;obtain⟨y,_,hu⟩:=hu;exact h1 y u hu
  ·intro v' w' aP hg _;refine h v' w' ?_ hg;unfold A1;rw [Ci];exact aP
theorem TQ(n:Nat)(w:World)(hn:n<=1000000):Calls prog 166 #[.slice none 0 0,.int .i64 n] w fun e w'=>∃v,e=.returned v/\A1 Ce 3 w' w.heap.size 59 v 0 []/\Below w.heap.size w w':=by
 by_cases h0:n=0
 ·subst h0;go_enter func166,ntmps166;go_wp2_with fail;go_ret;exact⟨_,rfl,A1.nil _ _ _ _ _,AA _ _⟩
 ·obtain⟨i,hi,hz,cv,iu⟩:=ET Lu
  have xQ:∃(G:Nat) (cs:Array Value),n<=G/\G<=maxLen/\cs.size=G * 3/\∀ty,(Builtin.append_ #[25,3] ty #[.slice none 0 0,.int .i64 n]).run prog w =
   .ok (.slice (some ⟨w.heap.size,0,none⟩) n G) (w.drew.alloc (.cells cs 59)):=by
   have h:=fun ty=>Lib.run_append_grow_zeros w 25 3 ty 59 i _ .i64 .i64 underlying25 underlying3 hi hz none 0 0 [] (run_firstCells_none w.drew i.size 0 0 0) n (by omega) (by rw [cv];decide) (by omega) (by omega) (by rw [iu];omega)
    (growslice_fits (by omega) (by rw [iu];omega))
   refine⟨grownCap w (0+n) 0 59,_,by have:=grownCap_ge w (0+n) 0 59;omega,grownCap_le_maxLen _ _ _ _ (by unfold maxLen;omega),?_,fun ty=>by have:=h ty;rw [BP] at this ⊢;exact this⟩
   have ms:=grownCap_ge w n 0 59
   simp [size_zeroCells,Value.cells]
   omega
  obtain⟨G,cs,hG,wu,am,dj⟩:=xQ;have dc:=AF am;have gK:0<n:=by omega
  unfold maxLen at wu;clear hi hz cv iu h0 am;go_enter func166,ntmps166;go_wp2_with (at_builtin;refine Lib.wpList_append_run _ rfl _ _ _ _ rfl _ _ rfl rfl _ _ (dj _) ?_);go_ret;exact⟨_,rfl,World.ownsRow_made _ cs G (by simp) (by unfold maxLen;omega) dc.o,(E4 (n:=1) (AA w.heap.size w)).alloc (AB _) _⟩
structure SF(α:Type) where
 p:Option Addr
 n:Nat
 cap:Nat
 l:List α
def J7{α:Type}(r:SF α):List Value:=[.slice r.p r.n r.cap]
theorem SM(r:SF α):(J7 r).length=1:=rfl
structure SF.Ok{α:Type}(enc:α->List Value)(k:Nat)(w:World)(r:SF α):Prop where
 len:r.l.length=r.n
 cap:r.n<=r.cap
 nil:r.p=none->r.cap=0
 row:DK enc k w r.p r.l
theorem SF.Ok.below{α:Type}{enc:α->List Value}{k:Nat}{w w':World}{r:SF α}(h:r.Ok enc k w)(hb:Below w.heap.size w w'):r.Ok enc k w':=⟨h.1,h.2,h.3,h.4.below hb⟩
theorem JT{α:Type}(f:α->Nat):∀(l:List α) (k:Nat) (x:α),l[k]?=some x->((l.take (k+1)).map f).sum=((l.take k).map f).sum+f x/\((l.take k).map f).sum+f x<=(l.map f).sum
 |[],k,x,h=>by simp at h
 |y::l,0,x,h=>by simp at h;subst h;simp
 |y::l,k+1,x,h=>by
  obtain⟨h1,h2⟩:=JT f l k x (by simpa using h);constructor
  ·simp only [Cj,AV,A0] at h1 ⊢;rw [h1];omega
  ·simp only [Cj,AV,A0];omega
theorem WM(p:Option Addr)(n cap:Nat)(rows:List (SF BB))(w:World)(hn:rows.length=n)(hm:n<=1000000)(hr:DK J7 1 w p rows)(aW:∀r∈rows,r.Ok Ce 3 w)(eD:(rows.map (·.n)).sum<=1000000):Calls prog 118 #[.slice p n cap] w fun e w'=>∃v,e=.returned v/\A1 Ce 3 w' w.heap.size 59 v (rows.map (·.n)).sum (rows.flatMap (·.l))/\Below w.heap.size w w':=by
 have HR:=AF hr;have HN:=AF hn;have bP:=AF aW;have HT:=AF eD;clear hr hn aW eD;go_enter func118,ntmps118;go_wp2_with fail;go_loop [3,5,11] (fun s _ i=>∃k S:Nat,k<=n/\i=.int .i64 k/\((rows.take k).map (·.n)).sum=S/\S<=1000000/\s=.int .i64 S) (fun _ _ i=>n-(intOf i).toNat)
 case atStart=>exact⟨0,0,by omega,rfl,rfl,by omega,rfl⟩
 case round=>
  obtain⟨k,S,hk,rfl,hS,t7,rfl⟩:=hrel;have HS:=AF hS;clear hS;by_cases aG:k<n
  ·obtain⟨x,hx⟩:=Bh (l:=rows) (j:=k) (by rw [HN.o];exact aG);have HE:=AF hx;obtain⟨b,o,rfl,bB,hc⟩:=HR.o.elem hx;have d0:=hc 0 _ rfl;simp only [Nat.mul_one,Bd] at d0;have cJ:=AF (JT (·.n) rows k x hx);have ap:S+x.n<=1000000:=by have:=cJ.o.2;have:=HT.o;have:=HS.o;omega
   clear hx bB hc;go_wp2_with fail;go_round
   case rel=>exact⟨k+1,S+x.n,by omega,by go_num,by have:=cJ.o.1;have:=HS.o;omega,ap,by go_num⟩
   case measure=>simp [intOf];omega
  ·have ai:k=n:=by omega
   subst ai;have oN:Hd ((rows.map (·.n)).sum=S):=by have h:=HS.o;rw [Bb (by rw [HN.o];omega)] at h;exact h
   go_wp2_with fail;refine(TQ S w t7).mono ?_;rintro e w1 ⟨v0,rfl,ho,hb⟩;have HO:=AF ho;have HB:=AF hb;clear ho hb;go_wp2_with fail;go_loopw [6,8,27] (fun u _ i wr=>∃j T:Nat,j<=k/\i=.int .i64 j/\((rows.take j).map (·.n)).sum=T/\T<=1000000/\A1 Ce 3 wr w.heap.size 59 u T ((rows.take j).flatMap (·.l))/\Below w.heap.size w wr) (fun _ _ i _=>k-(intOf i).toNat)
   case atStart=>exact⟨0,0,by omega,rfl,rfl,by omega,HO.o,HB.o⟩
   case round=>
    obtain⟨j,T,hj,rfl,hT,xt,aD,hb⟩:=hrel;have nK:=AF hT;have aZ:=AF aD;have dq:=AF hb;clear hT aD hb;by_cases aG:j<k
    ·obtain⟨x,hx⟩:=Bh (l:=rows) (j:=j) (by rw [HN.o];exact aG);have HE:=AF hx;obtain⟨b,o,rfl,bB,hc⟩:=(HR.o.below dq.o).elem hx;have d0:=hc 0 _ rfl;simp only [Nat.mul_one,Bd] at d0;have cJ:=AF (JT (·.n) rows j x hx);have ap:T+x.n<=1000000:=by have:=cJ.o.2;have:=HT.o;have:=nK.o;omega
     have HX:=AF ((bP.o x (AE hx)).below dq.o);clear hx bB hc;go_wp2_with (at_builtin;refine GK rfl _ _ 25 rfl w.heap.size 59 _ 3 32 underlying25 Lu rfl (by decide) Ce BF Gp x.l _ _ _ aZ.o _ _ _ rfl rfl HX.o.len HX.o.nil HX.o.row ?c1 ?c2 ?c3 ?_)
     case c1=>omega
     case c2=>omega
     case c3=>exact dq.o.size
     ·intro v' w4 aP hg;have rQ:=AF aP;have bJ:=AF (Below.own dq.o hg dq.o.size aZ.o);clear aP hg;go_wp2_with fail;go_roundw
      case rel=>exact⟨j+1,T+x.n,by omega,by go_num,by have:=cJ.o.1;have:=nK.o;omega,ap,by rw [BG HE.o,Ci];simpa using rQ.o,bJ.o⟩
      case measure=>simp [intOf];omega
    ·have lI:j=k:=by omega
     subst lI;go_wp2_with fail;go_ret;have h1:=aZ.o;rw [Bb (by rw [HN.o];omega)] at h1;exact⟨_,rfl,by rw [oN.out];have:=nK.o;rw [Bb (by rw [HN.o];omega),oN.out] at this;subst this;exact h1,dq.o⟩
section
inductive Ad (α:Type) where
 |node (a:α) (kids:List (Ad α))
namespace Ad
variable {α β:Type}
def head:Ad α->α
 |node a _=>a
def kids:Ad α->List (Ad α)
 |node _ l=>l
theorem eta(t:Ad α):t=node t.head t.kids:=by cases t;rfl
mutual
theorem ind{P:Ad α->Prop}(h:∀a l,(∀t∈l,P t)->P (node a l)):∀t,P t
 |node a l=>h a l (ZDX h l)
theorem ZDX{P:Ad α->Prop}(h:∀a l,(∀t∈l,P t)->P (node a l)):∀l:List (Ad α),∀t∈l,P t
 |[],_,hm=>absurd hm Al
 |t::l,x,hm=>by
  rcases AS.1 hm with e|hm
  ·rw [e];exact ind h t
  ·exact ZDX h l x hm
end
mutual
def fold(f:α->List β->β):Ad α->β
 |node a l=>f a (Uu f l)
def Uu(f:α->List β->β):List (Ad α)->List β
 |[]=>[]
 |t::l=>fold f t::Uu f l
end
theorem Uv(f:α->List β->β):∀l:List (Ad α),Uu f l=l.map (fold f)
 |[]=>by simp [Uu]
 |t::l=>by simp [Uu,Uv f l]
theorem fold_node(f:α->List β->β)(a:α)(l:List (Ad α)):fold f (node a l)=f a (l.map (fold f)):=by rw [fold,Uv]
def size:Ad α->Nat:=fold (fun _ l=>1+l.sum)
theorem size_node(a:α)(l:List (Ad α)):size (node a l)=1+(l.map size).sum:=fold_node _ a l
theorem size_pos(t:Ad α):0<size t:=by cases t;rw [size_node];omega
def map(g:α->β):Ad α->Ad β:=fold (fun a l=>node (g a) l)
theorem map_node(g:α->β)(a:α)(l:List (Ad α)):map g (node a l)=node (g a) (l.map (map g)):=fold_node _ a l
theorem size_map(g:α->β)(t:Ad α):size (map g t)=size t:=by refine ind (P:=fun t=>size (map g t)=size t) (fun a l ih=>?_) t;rw [map_node,size_node,size_node,CS];congr 2;exact Bf ih
def nodes:Ad α->List α:=fold (fun a l=>a::l.flatten)
theorem nodes_node(a:α)(l:List (Ad α)):nodes (node a l)=a::(l.map nodes).flatten:=fold_node _ a l
def all(p:α->Nat->Bool):Ad α->Bool:=fold (fun a l=>p a l.length&&l.all id)
theorem all_node(p:α->Nat->Bool)(a:α)(l:List (Ad α)):all p (node a l)=(p a l.length&&l.all (all p)):=by show fold _ _=_;rw [fold_node,Ba,CD];rfl
mutual
def same(r:α->β->Bool):Ad α->Ad β->Bool
 |node a l,node b m=>r a b&&sameL r l m
def sameL(r:α->β->Bool):List (Ad α)->List (Ad β)->Bool
 |[],[]=>true
 |t::l,u::m=>same r t u&&sameL r l m
 |[],_::_=>false
 |_::_,[]=>false
end
theorem same_node(r:α->β->Bool)(a:α)(b:β)(l:List (Ad α))(m:List (Ad β)):same r (node a l) (node b m)=(r a b&&sameL r l m):=by rw [same]
theorem sameL_length(r:α->β->Bool):∀(l:List (Ad α)) (m:List (Ad β)),sameL r l m=true->List.length l=List.length m
 |[],[],_=>rfl
 |t::l,u::m,h=>by simp only [sameL,AK] at h;simp [sameL_length r l m h.2]
 |[],_::_,h=>by simp [sameL] at h
 |_::_,[],h=>by simp [sameL] at h
theorem sameL_get(r:α->β->Bool):∀(l:List (Ad α)) (m:List (Ad β)),sameL r l m=true↔l.length=m.length/\∀(j:Nat) (t:Ad α) (u:Ad β),l[j]?=some t->m[j]?=some u->same r t u=true
 |[],[]=>by simp [sameL]
 |t::l,u::m=>by
  simp only [sameL,AK,sameL_get r l m,Aq,Nat.add_right_cancel_iff];constructor
  ·rintro⟨h,hl,hj⟩;refine⟨hl,fun j x y hx hy=>?_⟩;cases j with
   |zero=>simp at hx hy;subst hx;subst hy;exact h
   |succ j=>exact hj j x y (by simpa using hx) (by simpa using hy)
  ·rintro⟨hl,hj⟩;exact⟨hj 0 t u rfl rfl,hl,fun j x y hx hy=>hj (j+1) x y (by simpa using hx) (by simpa using hy)⟩
 |[],_::_=>by simp [sameL]
 |_::_,[]=>by simp [sameL]
end Ad
structure LS(α:Type) where
 enc:α->List Value
 k:Nat
 own:World->α->Prop
 kp:α->Option Addr
 kn:α->Nat
 len:∀a,(enc a).length=k
 below:∀{w w':World} {a:α},own w a->Below w.heap.size w w'->own w' a
namespace LS
variable {α:Type}
def encT(L:LS α)(t:Ad α):List Value:=L.enc t.head
theorem encT_len(L:LS α)(t:Ad α):(L.encT t).length=L.k:=L.len _
mutual
def lies(L:LS α)(w:World):Ad α->Prop
 |.node a l=>L.own w a/\l.length=L.kn a/\DK L.encT L.k w (L.kp a) l/\liesL L w l
def liesL(L:LS α)(w:World):List (Ad α)->Prop
 |[]=>True
 |t::l=>lies L w t/\liesL L w l
end
theorem Kh(L:LS α)(w:World):∀l:List (Ad α),L.liesL w l↔∀t∈l,L.lies w t
 |[]=>by simp [liesL]
 |t::l=>by simp [liesL,Kh L w l]
theorem lies_node(L:LS α)(w:World)(a:α)(l:List (Ad α)):L.lies w (.node a l)↔L.own w a/\l.length=L.kn a/\DK L.encT L.k w (L.kp a) l/\∀t∈l,L.lies w t:=by rw [lies,Kh]
theorem lies_below(L:LS α)(hb:Below w.heap.size w w')(t:Ad α):L.lies w t->L.lies w' t:=by refine Ad.ind (P:=fun t=>L.lies w t->L.lies w' t) (fun a l ih h=>?_) t;rw [lies_node] at h ⊢;exact⟨L.below h.1 hb,h.2.1,h.2.2.1.below hb,fun t ht=>ih t ht (h.2.2.2 t ht)⟩
end LS
end
abbrev TC(x:BB):Value:=.agg #[.int .u8 x.kind,.int .i64 x.rho,.string x.exn]
def Hv(fid:FuncId):Prop:=∀args w,(callFunc fid args).run prog w=.ok (.enter fid args) w
def UO(fid:FuncId)(caps:Array Value)(w:World)(l:List BB)(q:BB->Bool):Prop:=∀x∈l,∀W,Below w.heap.size w W->Calls prog fid (#[TC x]++caps) W fun e w'=>e=.returned (.bool (q x))/\Below W.heap.size W w'
theorem UO.is(h:UO fid caps w l q)(hx:x∈l)(hq:q x=r)(hb:Below w.heap.size w W):Calls prog fid (#[TC x]++caps) W fun e w'=>e=.returned (.bool r)/\Below W.heap.size W w':=by subst hq;exact h x hx W hb
def UI{α:Type}(q:α->Bool)(l:List α)(r:Int):Prop:=(r=-1/\l.any q=false)\/∃(k:Nat) (x:α),r=(k:Int)/\l[k]?=some x/\q x=true/\(l.take k).any q=false
theorem UI.any(h:UI q l r):l.any q=decide (0<=r):=by
 rcases h with⟨rfl,h⟩|⟨k,x,rfl,hx,hq,_⟩
 ·rw [h];rfl
 ·rw [J5 hx hq];simp
def NY(fid:FuncId)(caps:Array Value)(B:Nat)(w:World)(l:List BB)(q:BB->Bool):Prop:=∀x∈l,∀W,Below B w W->Calls prog fid (#[TC x]++caps) W fun e w'=>e=.returned (.bool (q x))/\Below W.heap.size W w'
theorem NY.a(h:NY fid caps B w l q)(hb:Below B w w')(hB:B<=w'.heap.size):UO fid caps w' l q:=fun x hx W hW=>h x hx W (hb.trans (hW.mono hB))
theorem NY.is(h:NY fid caps B w l q)(hx:x∈l)(hq:q x=r)(hb:Below B w W):Calls prog fid (#[TC x]++caps) W fun e w'=>e=.returned (.bool r)/\Below W.heap.size W w':=by subst hq;exact h x hx W hb
theorem JC(fid:FuncId)(caps:Array Value)(q:BB->Bool)(ay:Hv fid)(p:Option Addr)(n cap:Nat)(l:List BB)(w:World)(hn:l.length=n)(hm:n<=9223372036854775807)(hr:Ia w p l)(hf:UO fid caps w l q) :
 Calls prog 217 #[.slice p n cap,.func (.func fid) #[] caps] w fun e w'=>(∃r:Int,e=.returned (.int .i64 r)/\UI q l r)/\Below w.heap.size w w':=by
 unfold Hv at ay
 have HR:=AF hr
 have HN:=AF hn
 have HF:=AF hf
 clear hr hn hf
 go_enter func217,ntmps217
 go_wp2_with fail
 go_loopw [5,8] (fun _ i wr=>∃k:Nat,k<=n/\i=.int .i64 k/\(l.take k).any q=false/\Below w.heap.size w wr) (fun _ i _=>n-(intOf i).toNat)
 case atStart=>exact⟨0,by omega,rfl,by simp,AA _ _⟩
 case round=>
  obtain⟨k,hk,rfl,an,hb⟩:=hrel;have ax:=AF an;have HB:=AF hb;clear an hb;by_cases aG:k<n
  ·obtain⟨x,hx⟩:=Bh (l:=l) (j:=k) (by rw [HN.o];exact aG);have HE:=AF hx;obtain⟨b,o,rfl,bB,d0,d1,d2⟩:=Ia.atom (HR.o.below HB.o) hx;clear hx bB;cases hq:q x
   ·have HQ:=AF hq;clear hq;go_wp2_with fail;refine(HF.o.is (AE HE.o) HQ.o HB.o).mono ?_;rintro e w1 ⟨rfl,hb⟩;have aH:=bt HB hb;clear hb;clear d0 d1 d2;go_wp2_with fail;go_roundw
    case rel=>exact⟨k+1,by omega,by go_num,by rw [FA HE.o,ax.o,HQ.o];rfl,aH.o⟩
    case measure=>simp [intOf];omega
   ·have HQ:=AF hq;clear hq;go_wp2_with fail;refine(HF.o.is (AE HE.o) HQ.o HB.o).mono ?_;rintro e w1 ⟨rfl,hb⟩;have aH:=bt HB hb;clear hb;clear d0 d1 d2;go_wp2_with fail;go_ret;exact⟨⟨k,rfl,.inr ⟨k,x,rfl,HE.o,HQ.o,ax.o⟩⟩,aH.o⟩
  ·go_wp2_with fail;go_ret;have h:=ax.o;rw [Bb (by rw [HN.o];omega)] at h;exact⟨⟨-1,rfl,.inl ⟨rfl,h⟩⟩,HB.o⟩
theorem Mw(fid:FuncId)(caps:Array Value)(q:BB->Bool)(ay:Hv fid)(p:Option Addr)(n cap:Nat)(l:List BB)(w:World)(hn:l.length=n)(hm:n<=9223372036854775807)(hr:Ia w p l)(hf:UO fid caps w l q) :
 Calls prog 187 #[.slice p n cap,.func (.func fid) #[] caps] w (RB w (.bool (l.any q))):=by
 have hc:Calls prog 217 #[.slice p n cap,.func (.func fid) #[] caps] w fun e w'=>
  (∃r:Int,e=.returned (.int .i64 r)/\l.any q=decide (0<=r))/\Below w.heap.size w w':=
  (JC fid caps q ay p n cap l w hn hm hr hf).mono fun _ _ ⟨⟨r,he,hr⟩,hb⟩=>⟨⟨r,he,hr.any⟩,hb⟩
 generalize l.any q=r at hc ⊢
 clear hr hn hf ay
 go_enter func187,ntmps187
 go_wp2_with fail
 refine hc.mono ?_
 rintro e w1 ⟨⟨r,rfl,hr⟩,hb⟩
 have HR:=AF hr
 have HB:=AF hb
 clear hr hb hc
 go_wp2_with fail
 go_ret
 exact⟨Af HR.o.symm,HB.o⟩
section
open Go.Shelf
open Go.Lib in
open Go.Lib in
open Go.Lib in
open Go.Lib in
open Go.Lib in
open Go.Lib in
open Go.Lib in
open Go.Lib in
open Go.Lib in
open Go.Lib in
open Go.Lib in
open Go.Lib in
open Go.Lib in
def VC:Go.Shelf.Ren:=⟨fun|189=>172|125=>198|257=>209|128=>232|129=>233|294=>237|295=>238|296=>239|297=>240|298=>241|299=>242|216=>243|300=>244|301=>245|328=>259|329=>253|330=>254|331=>260|332=>261|215=>214|343=>268|n=>n,fun|28=>24|3=>3|46=>235|0=>0|51=>262|53=>264|4=>4|183=>256|182=>255|131=>76|5=>5|9=>9|218=>274|222=>278|228=>286|229=>287|n=>n,fun|n=>n⟩
theorem Xs:Go.Proofs.Lays.n189 prog VC:={
 mixed:=by kernel_rfl
 f125:=func198.trans (congrArg some (by kernel_rfl))
 f128:=func232.trans (congrArg some (by kernel_rfl))
 f129:=func233.trans (congrArg some (by kernel_rfl))
 f189:=func172.trans (congrArg some (by kernel_rfl))
 f215:=func214.trans (congrArg some (by kernel_rfl))
 f216:=func243.trans (congrArg some (by kernel_rfl))
 f257:=func209.trans (congrArg some (by kernel_rfl))
 f294:=func237.trans (congrArg some (by kernel_rfl))
 f295:=func238.trans (congrArg some (by kernel_rfl))
 f296:=func239.trans (congrArg some (by kernel_rfl))
 f297:=func240.trans (congrArg some (by kernel_rfl))
 f298:=func241.trans (congrArg some (by kernel_rfl))
 f299:=func242.trans (congrArg some (by kernel_rfl))
 f300:=func244.trans (congrArg some (by kernel_rfl))
 f301:=func245.trans (congrArg some (by kernel_rfl))
 f328:=func259.trans (congrArg some (by kernel_rfl))
 f329:=func253.trans (congrArg some (by kernel_rfl))
 f330:=func254.trans (congrArg some (by kernel_rfl))
 f331:=func260.trans (congrArg some (by kernel_rfl))
 f332:=func261.trans (congrArg some (by kernel_rfl))
 f343:=func268.trans (congrArg some (by kernel_rfl))
 t0:=underlying0
 a0:=isAgg0
 z0:=sizeOf0
 v0:=zeroValue0
 t3:=underlying3
 a3:=isAgg3
 z3:=sizeOf3
 v3:=zeroValue3
 t4:=underlying4
 a4:=isAgg4
 z4:=sizeOf4
 v4:=zeroValue4
 t5:=underlying5
 a5:=isAgg5
 z5:=sizeOf5
 v5:=zeroValue5
 t9:=underlying9
 a9:=isAgg9
 z9:=sizeOf9
 v9:=zeroValue9
 t28:=underlying24
 a28:=isAgg24
 z28:=sizeOf24
 v28:=zeroValue24
 t46:=underlying235
 a46:=isAgg235
 z46:=sizeOf235
 v46:=zeroValue235
 t51:=underlying262
 a51:=isAgg262
 z51:=sizeOf262
 v51:=zeroValue262
 t53:=underlying264
 a53:=isAgg264
 z53:=sizeOf264
 v53:=zeroValue264
 t131:=underlying76
 a131:=isAgg76
 z131:=sizeOf76
 v131:=zeroValue76
 t182:=underlying255
 a182:=isAgg255
 z182:=sizeOf255
 v182:=zeroValue255
 t183:=underlying256
 a183:=isAgg256
 z183:=sizeOf256
 v183:=zeroValue256
 t218:=underlying274
 a218:=isAgg274
 z218:=sizeOf274
 v218:=zeroValue274
 t222:=underlying278
 a222:=isAgg278
 z222:=sizeOf278
 v222:=zeroValue278
 t228:=underlying286
 a228:=isAgg286
 z228:=sizeOf286
 v228:=zeroValue286
 t229:=underlying287
 a229:=isAgg287
 z229:=sizeOf287
 v229:=zeroValue287 }
open Go.Sort Go.RowKit in
theorem slices_Sort_int(blk off cap:Nat)(zs:List Int)(w:World)(hH:Holds (Value.int .i64) w blk off zs.toArray)(iX:blk<w.heap.size)(aI:zs.length<4611686018427387904) :
 Calls prog 172 #[.slice (some ⟨blk,off,none⟩) zs.length cap] w fun e w'=>e=.returned (.tuple #[])/\∃n os,w'=grow (putRow (Value.int .i64) (Sort.ahead w n) blk off (zs.mergeSort fun x y=>decide (x<=y)).toArray) os:=Any.slices_Sort_int Xs blk off cap zs w hH iX aI
open Go.Lib in
open Go.Lib in
def VB:Go.Shelf.Ren:=⟨fun|146=>267|221=>270|268=>272|138=>273|143=>274|195=>275|197=>276|218=>277|219=>278|260=>279|217=>269|225=>280|224=>281|267=>282|266=>271|314=>283|n=>n,fun|9=>9|31=>72|3=>3|4=>4|0=>0|105=>293|21=>21|5=>5|46=>235|119=>295|139=>298|138=>297|146=>299|51=>262|n=>n,fun|1=>0|3=>1|4=>2|n=>n⟩
theorem ZB7:Go.Proofs.Lays.n146 prog VB:={
 mixed:=by kernel_rfl
 f138:=func273.trans (congrArg some (by kernel_rfl))
 f143:=func274.trans (congrArg some (by kernel_rfl))
 f146:=func267.trans (congrArg some (by kernel_rfl))
 f195:=func275.trans (congrArg some (by kernel_rfl))
 f197:=func276.trans (congrArg some (by kernel_rfl))
 f217:=func269.trans (congrArg some (by kernel_rfl))
 f218:=func277.trans (congrArg some (by kernel_rfl))
 f219:=func278.trans (congrArg some (by kernel_rfl))
 f221:=func270.trans (congrArg some (by kernel_rfl))
 f224:=func281.trans (congrArg some (by kernel_rfl))
 f225:=func280.trans (congrArg some (by kernel_rfl))
 f260:=func279.trans (congrArg some (by kernel_rfl))
 f266:=func271.trans (congrArg some (by kernel_rfl))
 f267:=func282.trans (congrArg some (by kernel_rfl))
 f268:=func272.trans (congrArg some (by kernel_rfl))
 f314:=func283.trans (congrArg some (by kernel_rfl))
 t0:=underlying0
 a0:=isAgg0
 z0:=sizeOf0
 v0:=zeroValue0
 t3:=underlying3
 a3:=isAgg3
 z3:=sizeOf3
 v3:=zeroValue3
 t4:=underlying4
 a4:=isAgg4
 z4:=sizeOf4
 v4:=zeroValue4
 t5:=underlying5
 a5:=isAgg5
 z5:=sizeOf5
 v5:=zeroValue5
 t9:=underlying9
 a9:=isAgg9
 z9:=sizeOf9
 v9:=zeroValue9
 t21:=underlying21
 a21:=isAgg21
 z21:=sizeOf21
 v21:=zeroValue21
 t31:=underlying72
 a31:=isAgg72
 z31:=sizeOf72
 v31:=zeroValue72
 t46:=underlying235
 a46:=isAgg235
 z46:=sizeOf235
 v46:=zeroValue235
 t51:=underlying262
 a51:=isAgg262
 z51:=sizeOf262
 v51:=zeroValue262
 t105:=underlying293
 a105:=isAgg293
 z105:=sizeOf293
 v105:=zeroValue293
 t119:=underlying295
 a119:=isAgg295
 z119:=sizeOf295
 t138:=underlying297
 a138:=isAgg297
 z138:=sizeOf297
 v138:=zeroValue297
 t139:=underlying298
 a139:=isAgg298
 z139:=sizeOf298
 v139:=zeroValue298
 t146:=underlying299
 a146:=isAgg299
 z146:=sizeOf299
 v146:=zeroValue299
 g1:=by kernel_rfl
 g3:=by kernel_rfl
 g4:=by kernel_rfl }
open Go.Lib in
theorem strings_Split(s sep:ByteArray)(m:Int)(w:World)(hs:s.size<4294967281)(hm:w.cell? ⟨0,0,none⟩=some (.int .i64 m))(h1:1<=sep.size) :
 Calls prog 267 #[.string s,.string sep] w fun e w'=>e=.returned (.slice (some ⟨w.heap.size,0,none⟩) (Lib.countB s sep+1) (Lib.countB s sep+1))/\w'=w.alloc (.cells ((Lib.splitB sep 0 (Lib.countB s sep) s).map Value.string).toArray 9):=Any.strings_Split ZB7 (by kernel_rfl) s sep m w hs hm h1
def Tg:Go.Shelf.Ren:=⟨fun|146=>267|221=>270|268=>272|138=>273|143=>274|195=>275|197=>276|218=>277|219=>278|260=>279|217=>269|225=>280|224=>281|267=>282|266=>271|314=>283|n=>n,fun|9=>9|31=>72|3=>3|4=>4|0=>0|105=>293|21=>21|5=>5|46=>235|119=>295|139=>298|138=>297|146=>299|51=>262|n=>n,fun|1=>0|3=>1|4=>2|n=>n⟩
theorem ZAd:Go.Proofs.LaysM.n146 prog Tg:={
 mixed:=by kernel_rfl
 f138:=func273.trans (congrArg some (by kernel_rfl))
 f143:=func274.trans (congrArg some (by kernel_rfl))
 f146:=func267.trans (congrArg some (by kernel_rfl))
 f195:=func275.trans (congrArg some (by kernel_rfl))
 f197:=func276.trans (congrArg some (by kernel_rfl))
 f217:=func269.trans (congrArg some (by kernel_rfl))
 f218:=func277.trans (congrArg some (by kernel_rfl))
 f219:=func278.trans (congrArg some (by kernel_rfl))
 f221:=func270.trans (congrArg some (by kernel_rfl))
 f224:=func281.trans (congrArg some (by kernel_rfl))
 f225:=func280.trans (congrArg some (by kernel_rfl))
 f260:=func279.trans (congrArg some (by kernel_rfl))
 f266:=func271.trans (congrArg some (by kernel_rfl))
 f267:=func282.trans (congrArg some (by kernel_rfl))
 f268:=func272.trans (congrArg some (by kernel_rfl))
 f314:=func283.trans (congrArg some (by kernel_rfl))
 t0:=underlying0
 a0:=isAgg0
 z0:=sizeOf0
 v0:=zeroValue0
 t3:=underlying3
 a3:=isAgg3
 z3:=sizeOf3
 v3:=zeroValue3
 t4:=underlying4
 a4:=isAgg4
 z4:=sizeOf4
 v4:=zeroValue4
 t5:=underlying5
 a5:=isAgg5
 z5:=sizeOf5
 v5:=zeroValue5
 t9:=underlying9
 a9:=isAgg9
 z9:=sizeOf9
 v9:=zeroValue9
 t21:=underlying21
 a21:=isAgg21
 z21:=sizeOf21
 v21:=zeroValue21
 t31:=underlying72
 a31:=isAgg72
 z31:=sizeOf72
 v31:=zeroValue72
 t46:=underlying235
 a46:=isAgg235
 z46:=sizeOf235
 v46:=zeroValue235
 t51:=underlying262
 a51:=isAgg262
 z51:=sizeOf262
 v51:=zeroValue262
 t105:=underlying293
 a105:=isAgg293
 z105:=sizeOf293
 v105:=zeroValue293
 t119:=underlying295
 a119:=isAgg295
 z119:=sizeOf295
 t138:=underlying297
 a138:=isAgg297
 z138:=sizeOf297
 v138:=zeroValue297
 t139:=underlying298
 a139:=isAgg298
 z139:=sizeOf298
 v139:=zeroValue298
 t146:=underlying299
 a146:=isAgg299
 z146:=sizeOf299
 v146:=zeroValue299
 g1:=by kernel_rfl
 g3:=by kernel_rfl
 g4:=by kernel_rfl
 i0:=by kernel_rfl
 i3:=by kernel_rfl
 i4:=by kernel_rfl
 i5:=by kernel_rfl
 i9:=by kernel_rfl
 i21:=by kernel_rfl
 i31:=by kernel_rfl
 i46:=by kernel_rfl
 i51:=by kernel_rfl
 i105:=by kernel_rfl
 i138:=by kernel_rfl
 i139:=by kernel_rfl
 i146:=by kernel_rfl
 m1:=by kernel_rfl
 s1_3:=fun w h=>Go.Proofs.cell_of_shapedOpen_int (zero:=#[.int .i64 0]) (t:=3) h (of_decide_eq_true (by kernel_rfl)) (by kernel_rfl) rfl (by kernel_rfl) (by kernel_rfl) underlying3
 m3:=by kernel_rfl
 m4:=by kernel_rfl }
open Go.Lib in
open Go.Lib in
open Go.Lib in
open Go.Lib in
open Go.Lib in
open Go.Lib in
open Go.Lib in
open Go.Lib in
def U8:Go.Shelf.Ren:=⟨fun|108=>67|n=>n,fun|28=>24|3=>3|0=>0|4=>4|n=>n,fun|n=>n⟩
theorem Xq:Go.Proofs.Lays.n108 prog U8:={
 mixed:=by kernel_rfl
 f108:=func67.trans (congrArg some (by kernel_rfl))
 t0:=underlying0
 a0:=isAgg0
 z0:=sizeOf0
 v0:=zeroValue0
 t3:=underlying3
 a3:=isAgg3
 z3:=sizeOf3
 v3:=zeroValue3
 t4:=underlying4
 a4:=isAgg4
 z4:=sizeOf4
 v4:=zeroValue4
 t28:=underlying24
 a28:=isAgg24
 z28:=sizeOf24
 v28:=zeroValue24 }
open Go.Lib in
theorem slices_Index_int(b off n c:Nat)(zs:List Int)(x:Int)(w:World)(hz:n<=zs.length)(fU:n<=9223372036854775807)(hc:∀j,j<zs.length->w.cell? ⟨b,off+j,none⟩=some (.int .i64 (zs.getD j 0))):Calls prog 67 #[.slice (some ⟨b,off,none⟩) n c,.int .i64 x] w fun e w'=>e=.returned (.int .i64 (Lib.idxOf (zs.take n) x))/\w'=w:=Any.slices_Index_int Xq b off n c zs x w hz fU hc
open Go.Lib in
theorem slices_Index_int_empty(a:Option Addr)(c:Nat)(x:Int)(w:World):Calls prog 67 #[.slice a 0 c,.int .i64 x] w fun e w'=>e=.returned (.int .i64 (Lib.idxOf [] x))/\w'=w:=Any.slices_Index_int_empty Xq a c x w
def U7:Go.Shelf.Ren:=⟨fun|107=>183|108=>67|n=>n,fun|28=>24|3=>3|4=>4|0=>0|n=>n,fun|n=>n⟩
theorem Xp:Go.Proofs.Lays.n107 prog U7:={
 mixed:=by kernel_rfl
 f107:=func183.trans (congrArg some (by kernel_rfl))
 f108:=func67.trans (congrArg some (by kernel_rfl))
 t0:=underlying0
 a0:=isAgg0
 z0:=sizeOf0
 v0:=zeroValue0
 t3:=underlying3
 a3:=isAgg3
 z3:=sizeOf3
 v3:=zeroValue3
 t4:=underlying4
 a4:=isAgg4
 z4:=sizeOf4
 v4:=zeroValue4
 t28:=underlying24
 a28:=isAgg24
 z28:=sizeOf24
 v28:=zeroValue24 }
open Go.Lib in
theorem slices_Contains_int(b off n c:Nat)(zs:List Int)(x:Int)(w:World)(hz:n<=zs.length)(fU:n<=9223372036854775807)(hc:∀j,j<zs.length->w.cell? ⟨b,off+j,none⟩=some (.int .i64 (zs.getD j 0))):Calls prog 183 #[.slice (some ⟨b,off,none⟩) n c,.int .i64 x] w fun e w'=>e=.returned (.bool ((zs.take n).contains x))/\w'=w:=Any.slices_Contains_int Xp b off n c zs x w hz fU hc
open Go.Lib in
theorem slices_Contains_int_empty(a:Option Addr)(c:Nat)(x:Int)(w:World):Calls prog 183 #[.slice a 0 c,.int .i64 x] w fun e w'=>e=.returned (.bool false)/\w'=w:=Any.slices_Contains_int_empty Xp a c x w
def U9:Go.Shelf.Ren:=⟨fun|109=>251|n=>n,fun|31=>72|9=>9|3=>3|0=>0|4=>4|n=>n,fun|n=>n⟩
theorem ZB6:Go.Proofs.Lays.n109 prog U9:={
 mixed:=by kernel_rfl
 f109:=func251.trans (congrArg some (by kernel_rfl))
 t0:=underlying0
 a0:=isAgg0
 z0:=sizeOf0
 v0:=zeroValue0
 t3:=underlying3
 a3:=isAgg3
 z3:=sizeOf3
 v3:=zeroValue3
 t4:=underlying4
 a4:=isAgg4
 z4:=sizeOf4
 v4:=zeroValue4
 t9:=underlying9
 a9:=isAgg9
 z9:=sizeOf9
 v9:=zeroValue9
 t31:=underlying72
 a31:=isAgg72
 z31:=sizeOf72
 v31:=zeroValue72 }
open Go.Lib in
theorem slices_Index_string(b off n c:Nat)(zs:List ByteArray)(x:ByteArray)(w:World)(hz:n<=zs.length)(fU:n<=9223372036854775807)(hc:∀j,j<zs.length->w.cell? ⟨b,off+j,none⟩=some (.string (zs.getD j ByteArray.empty))):Calls prog 251 #[.slice (some ⟨b,off,none⟩) n c,.string x] w fun e w'=>e=.returned (.int .i64 (Lib.idxOfS (zs.take n) x))/\w'=w:=Any.slices_Index_string ZB6 b off n c zs x w hz fU hc
open Go.Lib in
def VA:Go.Shelf.Ren:=⟨fun|110=>222|109=>251|n=>n,fun|31=>72|9=>9|4=>4|3=>3|0=>0|n=>n,fun|n=>n⟩
theorem Xr:Go.Proofs.Lays.n110 prog VA:={
 mixed:=by kernel_rfl
 f109:=func251.trans (congrArg some (by kernel_rfl))
 f110:=func222.trans (congrArg some (by kernel_rfl))
 t0:=underlying0
 a0:=isAgg0
 z0:=sizeOf0
 v0:=zeroValue0
 t3:=underlying3
 a3:=isAgg3
 z3:=sizeOf3
 v3:=zeroValue3
 t4:=underlying4
 a4:=isAgg4
 z4:=sizeOf4
 v4:=zeroValue4
 t9:=underlying9
 a9:=isAgg9
 z9:=sizeOf9
 v9:=zeroValue9
 t31:=underlying72
 a31:=isAgg72
 z31:=sizeOf72
 v31:=zeroValue72 }
open Go.Lib in
theorem slices_Contains_string(b off n c:Nat)(zs:List ByteArray)(x:ByteArray)(w:World)(hz:n<=zs.length)(fU:n<=9223372036854775807)(hc:∀j,j<zs.length->w.cell? ⟨b,off+j,none⟩=some (.string (zs.getD j ByteArray.empty))):Calls prog 222 #[.slice (some ⟨b,off,none⟩) n c,.string x] w fun e w'=>e=.returned (.bool (Lib.containsS (zs.take n) x))/\w'=w:=Any.slices_Contains_string Xr b off n c zs x w hz fU hc
open Go.Lib in
theorem slices_Contains_string_empty(a:Option Addr)(c:Nat)(x:ByteArray)(w:World):Calls prog 222 #[.slice a 0 c,.string x] w fun e w'=>e=.returned (.bool false)/\w'=w:=Any.slices_Contains_string_empty Xr a c x w
def Rn:Go.Shelf.Ren:=⟨fun|20=>126|n=>n,fun|22=>24|3=>3|4=>4|0=>0|n=>n,fun|n=>n⟩
theorem Sc:Go.Proofs.Lays2.n20 prog Rn:={
 mixed:=by kernel_rfl
 f20:=func126.trans (congrArg some (by kernel_rfl))
 t0:=underlying0
 a0:=isAgg0
 z0:=sizeOf0
 v0:=zeroValue0
 t3:=underlying3
 a3:=isAgg3
 z3:=sizeOf3
 v3:=zeroValue3
 t4:=underlying4
 a4:=isAgg4
 z4:=sizeOf4
 v4:=zeroValue4
 t22:=underlying24
 a22:=isAgg24
 z22:=sizeOf24
 v22:=zeroValue24
 i3:=by kernel_rfl }
open Go.Lib Go.Sort in
open Go.Lib Go.Sort in
theorem slices_Compact_int(blk off cap:Nat)(zs:List Int)(w:World)(hH:Holds (Value.int .i64) w blk off zs.toArray)(aI:zs.length<=9223372036854775807)(eV:zs.length<=cap):Calls prog 126 #[.slice (some ⟨blk,off,none⟩) zs.length cap] w fun e w'=>e=.returned (.slice (some ⟨blk,off,none⟩) (Lib.compact zs).length cap)/\∃q,w'=putRow (Value.int .i64) (Sort.ahead w q) blk off (Lib.compact zs++List.replicate (zs.length-(Lib.compact zs).length) 0).toArray:=Any.slices_Compact_int Sc blk off cap zs w hH aI eV
open Go.Lib Go.Sort in
theorem slices_Compact_int_empty(a:Option Addr)(cap:Nat)(w:World):Calls prog 126 #[.slice a 0 cap] w fun e w'=>e=.returned (.slice a 0 cap)/\w'=w:=Any.slices_Compact_int_empty Sc a cap w
open Go.Lib in
open Go.Lib in
open Go.Lib Go.Sort in
open Go.Sort in
theorem slices_Sort_int_none(p:Option Addr)(cap:Nat)(w:World):Calls prog 172 #[.slice p 0 cap] w fun e w'=>e=.returned (.tuple #[])/\w'=w:=Any.slices_Sort_int_none Xs p cap w
open Go.Lib in
open Go.Lib in
open Go.Lib in
open Go.Lib in
open Go.Lib in
open Go.Lib in
open Go.Lib in
open Go.Lib in
open Go.Lib Go.Sort in
open Go.Lib in
open Go.Lib in
open Go.Lib in
open Go.Lib in
def Nq:Go.Shelf.Ren:=⟨fun|8=>122|6=>170|n=>n,fun|22=>24|23=>3|25=>175|4=>4|3=>3|0=>0|n=>n,fun|n=>n⟩
theorem Mi:Go.Proofs.SlLaysH.n8 prog Nq:={
 mixed:=by kernel_rfl
 f6:=⟨f170.name,by decide,func170.trans (congrArg some (by kernel_rfl))⟩
 f8:=⟨f122.name,by decide,func122.trans (congrArg some (by kernel_rfl))⟩
 t0:=underlying0
 a0:=isAgg0
 z0:=sizeOf0
 v0:=zeroValue0
 t3:=underlying3
 a3:=isAgg3
 z3:=sizeOf3
 v3:=zeroValue3
 t4:=underlying4
 a4:=isAgg4
 z4:=sizeOf4
 v4:=zeroValue4
 t22:=underlying24
 a22:=isAgg24
 z22:=sizeOf24
 v22:=zeroValue24
 a23:=isAgg3
 z23:=sizeOf3
 t25:=underlying175
 a25:=isAgg175
 z25:=sizeOf175
 v25:=zeroValue175 }
open Go.Lib in
theorem Hm{α:Type} [Inhabited α] (enc:α->Value) (p:α->Bool) (g:Nat) (lb:Array Value) (eg:∀args w,(callFunc g args).run prog w=.ok (.enter g args) w) (b off n c:Nat) (zs:List α) (w:World) (hp:PredAt prog g lb enc p w) (hz:n<=zs.length) (fU:n<=9223372036854775807) (hc:∀j,j<zs.length->w.cell? ⟨b,off+j,none⟩=some (enc zs[j]!)):Calls prog 122 #[.slice (some ⟨b,off,none⟩) n c,.func (.func g) #[] lb] w fun e w'=>e=.returned (.bool ((zs.take n).any p))/\∃q,w'=w.drewN q:=AnyE.slices_ContainsFunc Mi enc p g lb eg b off n c zs w hp hz fU hc
open Go.Lib in
open Go.Lib in
theorem GI{α:Type} [Inhabited α] (a:Option Addr) (c:Nat) (fv:Value) (w:World):Calls prog 122 #[.slice a 0 c,fv] w fun e w'=>e=.returned (.bool false)/\w'=w:=AnyE.slices_ContainsFunc_empty Mi a c fv w
open Go.Lib in
def R6:Go.Shelf.Ren:=⟨fun|6=>145|15=>198|14=>197|28=>232|29=>233|20=>224|21=>225|22=>226|23=>227|24=>228|25=>229|26=>230|27=>231|46=>252|47=>253|48=>254|49=>255|50=>256|57=>266|n=>n,fun|22=>25|24=>59|25=>181|3=>3|39=>235|0=>0|53=>262|55=>264|4=>4|46=>256|45=>255|50=>76|5=>5|9=>9|66=>274|70=>278|76=>286|77=>287|n=>n,fun|n=>n⟩
theorem Sp:Go.Proofs.SlLaysF0.n6 prog R6:={
 mixed:=by kernel_rfl
 f6:=⟨f145.name,by decide,func145.trans (congrArg some (by kernel_rfl))⟩
 f14:=⟨f197.name,by decide,func197.trans (congrArg some (by kernel_rfl))⟩
 f15:=func198.trans (congrArg some (by kernel_rfl))
 f20:=⟨f224.name,by decide,func224.trans (congrArg some (by kernel_rfl))⟩
 f21:=⟨f225.name,by decide,func225.trans (congrArg some (by kernel_rfl))⟩
 f22:=⟨f226.name,by decide,func226.trans (congrArg some (by kernel_rfl))⟩
 f23:=⟨f227.name,by decide,func227.trans (congrArg some (by kernel_rfl))⟩
 f24:=⟨f228.name,by decide,func228.trans (congrArg some (by kernel_rfl))⟩
 f25:=⟨f229.name,by decide,func229.trans (congrArg some (by kernel_rfl))⟩
 f26:=⟨f230.name,by decide,func230.trans (congrArg some (by kernel_rfl))⟩
 f27:=⟨f231.name,by decide,func231.trans (congrArg some (by kernel_rfl))⟩
 f28:=func232.trans (congrArg some (by kernel_rfl))
 f29:=func233.trans (congrArg some (by kernel_rfl))
 f46:=⟨f252.name,by decide,func252.trans (congrArg some (by kernel_rfl))⟩
 f47:=func253.trans (congrArg some (by kernel_rfl))
 f48:=func254.trans (congrArg some (by kernel_rfl))
 f49:=⟨f255.name,by decide,func255.trans (congrArg some (by kernel_rfl))⟩
 f50:=⟨f256.name,by decide,func256.trans (congrArg some (by kernel_rfl))⟩
 f57:=⟨f266.name,by decide,func266.trans (congrArg some (by kernel_rfl))⟩
 t0:=underlying0
 a0:=isAgg0
 z0:=sizeOf0
 v0:=zeroValue0
 t3:=underlying3
 a3:=isAgg3
 z3:=sizeOf3
 v3:=zeroValue3
 t4:=underlying4
 a4:=isAgg4
 z4:=sizeOf4
 v4:=zeroValue4
 t5:=underlying5
 a5:=isAgg5
 z5:=sizeOf5
 v5:=zeroValue5
 t9:=underlying9
 a9:=isAgg9
 z9:=sizeOf9
 v9:=zeroValue9
 t22:=underlying25
 a22:=isAgg25
 z22:=sizeOf25
 v22:=zeroValue25
 t25:=underlying181
 a25:=isAgg181
 z25:=sizeOf181
 v25:=zeroValue181
 t39:=underlying235
 a39:=isAgg235
 z39:=sizeOf235
 v39:=zeroValue235
 t45:=underlying255
 a45:=isAgg255
 z45:=sizeOf255
 v45:=zeroValue255
 t46:=underlying256
 a46:=isAgg256
 z46:=sizeOf256
 v46:=zeroValue256
 t50:=underlying76
 a50:=isAgg76
 z50:=sizeOf76
 v50:=zeroValue76
 t53:=underlying262
 a53:=isAgg262
 z53:=sizeOf262
 v53:=zeroValue262
 t55:=underlying264
 a55:=isAgg264
 z55:=sizeOf264
 v55:=zeroValue264
 t66:=underlying274
 a66:=isAgg274
 z66:=sizeOf274
 v66:=zeroValue274
 t70:=underlying278
 a70:=isAgg278
 z70:=sizeOf278
 v70:=zeroValue278
 t76:=underlying286
 a76:=isAgg286
 z76:=sizeOf286
 v76:=zeroValue286
 t77:=underlying287
 a77:=isAgg287
 z77:=sizeOf287
 v77:=zeroValue287 }
end
end Go.Proofs.YtkdjnegfnhldpaaGreatDoor
