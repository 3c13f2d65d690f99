/- Part 02. -/
import GoSem.Op.String
import Derived.Lib.Strings
import Derived.StillTailTactics
import Derived.Sort.Grow
import Derived.Deep.QuietTactic
import Derived.Laws.StructEq
import Derived.Test.YtkdjnegfnhldpaaGreatDoorK01
set_option linter.unusedVariables false
set_option maxRecDepth 100000
set_option linter.unusedSimpArgs false
set_option maxHeartbeats 40000000
namespace Go.Proofs.YtkdjnegfnhldpaaGreatDoor
open Go.Proofs.Tryz Go.RowKit
def DC(s:ByteArray):Bool:=BJ s 4
theorem Ui(s:ByteArray)(w:World):Calls prog 211 #[.string s] w (RB w (.bool (DC s))):=by go_enter func211,ntmps211;go_wp2_with fail;refine(Jl s 4 w).mono ?_;rintro e w1 ⟨rfl,hb⟩;have HB:=AA hb;clear hb;go_wp2_with fail;go_ret;exact⟨rfl,HB.o⟩
theorem Pw(s:ByteArray)(a:Addr)(w:World)(a6:w.cell? a=some (.func (.func 211) #[] #[])):Calls prog 247 #[.string s,.pointer (some a)] w (RB w (.bool (!DC s))):=by go_enter func247,ntmps247;go_wp2_with fail;refine(Ui s w).mono ?_;rintro e w1 ⟨rfl,hb⟩;have HB:=AA hb;clear hb;go_wp2_with fail;go_ret;exact⟨rfl,HB.o⟩
theorem KY(a:Addr)(p:Option Addr)(n cap:Nat)(l:List ByteArray)(w:World)(hn:l.length=n)(hm:n≤9223372036854775807)(hr:Au EC 1 w p l)(a6:w.cell? a=some (.func (.func 211) #[] #[])) :
 Calls prog 262 #[.slice p n cap,.func (.func 247) #[] #[.pointer (some a)]] w fun e w'=>(∃r:Int,e=.returned (.int .i64 r)∧(l.any (fun s=>!DC s)=decide (0≤r)))∧Below w.heap.size w w':=by
 have HR:=AA hr
 have HN:=AA hn
 have HX:=AA a6
 clear hr hn a6
 go_enter func262,ntmps262
 go_wp2_with fail
 go_loopw [5,8] (fun _ i wr=>∃k:Nat,k≤n∧i=.int .i64 k∧(l.take k).any (fun s=>!DC s)=false∧Below w.heap.size w wr) (fun _ i _=>n-(intOf i).toNat)
 case atStart=>exact⟨0,by omega,rfl,by simp,Below.refl _ _⟩
 case round=>
  obtain⟨k,hk,rfl,ac,hb⟩:=hrel;have an:=AA ac;have HB:=AA hb;clear ac hb;by_cases aF:k<n
  ·obtain⟨x,hx⟩:=AM (l:=l) (j:=k) (by rw [HN.o];exact aF);obtain⟨b,o,rfl,bs⟩:=(HR.o.below HB.o).str hx;have HE:=AA hx;have eO:wr.cell? a=some (.func (.func 211) #[] #[]):=by rw [HB.o.cell (An HX.o)];exact HX.o
   clear hx;by_cases hq:DC x=true
   ·go_wp2_with fail;refine(Pw x a wr eO).mono ?_;rintro e w1 ⟨rfl,hb⟩;have aJ:=bt HB hb;clear hb eO bs;go_wp2_with fail;go_roundw
    case rel=>exact⟨k+1,by omega,by go_num,by rw [Av HE.o,an.o,hq];rfl,aJ.o⟩
    case measure=>simp [intOf];omega
   ·have mv:DC x=false:=by simpa using hq
    clear hq;go_wp2_with fail;refine(Pw x a wr eO).mono ?_;rintro e w1 ⟨rfl,hb⟩;have aJ:=bt HB hb;clear hb eO bs;go_wp2_with fail;go_ret;exact⟨⟨k,rfl,by rw [Ex HE.o (by rw [mv];rfl)];simp⟩,aJ.o⟩
  ·go_wp2_with fail;go_ret;have h:=an.o;rw [AP (by rw [HN.o];omega)] at h;exact⟨⟨-1,rfl,by rw [h];simp⟩,HB.o⟩
theorem Ii(a:Addr)(p:Option Addr)(n cap:Nat)(l:List ByteArray)(w:World)(hn:l.length=n)(hm:n≤9223372036854775807)(hr:Au EC 1 w p l)(a6:w.cell? a=some (.func (.func 211) #[] #[])) :
 Calls prog 246 #[.slice p n cap,.func (.func 247) #[] #[.pointer (some a)]] w (RB w (.bool (l.any (fun s=>!DC s)))):=by
 have hc:=KY a p n cap l w hn hm hr a6
 generalize l.any (fun s=>!DC s)=q at hc ⊢
 clear hr hn a6
 go_enter func246,ntmps246
 go_wp2_with fail
 refine hc.mono ?_
 rintro e w1 ⟨⟨r,rfl,hr⟩,hb⟩
 have HR:=AA hr
 have HB:=AA hb
 clear hr hb hc
 go_wp2_with fail
 go_ret
 exact⟨AB HR.o.symm,HB.o⟩
theorem OA(p:Option Addr)(n cap:Nat)(l:List ByteArray)(w:World)(hn:l.length=n)(hm:n≤9223372036854775807)(hr:Au EC 1 w p l):Calls prog 210 #[.func (.func 211) #[] #[],.slice p n cap] w (RB w (.bool (l.all DC))):=by
 have hc:=fun o=>Ii ⟨w.heap.size,0,none⟩ p n cap l (w.alloc o) hn hm (hr.alloc o);have he:Hd (l.all DC=!l.any (fun s=>!DC s)):=by show l.all DC=!l.any (fun s=>!DC s);rw [List.all_eq_not_any_not]
 have HC:=AA hc;clear hr hn hc;go_enter func210,ntmps210;go_wp2_with fail;refine(HC.o _ (by rw [AR];rfl)).mono ?_;rintro e w1 ⟨rfl,hb⟩;have HB:Hd (Below w.heap.size w w1):=((Below.refl _ w).alloc (Nat.le_refl _) _).trans (hb.mono (by simp));clear hb;generalize l.any (fun s=>!DC s)=q at *
 go_wp2_with fail;go_ret;exact⟨AB he.out.symm,HB.o⟩
theorem JQ(p:Option Addr)(n cap:Nat)(l:List ByteArray)(w:World)(hn:l.length=n)(hm:n≤9223372036854775807)(hr:Au EC 1 w p l):Calls prog 174 #[.slice p n cap] w (RB w (.bool (l.all DC))):=by
 have hc:=OA p n cap l w hn hm hr;generalize l.all DC=q at *
 clear hr hn;go_enter func174,ntmps174;go_wp2_with fail;refine hc.mono ?_;rintro e w1 ⟨rfl,hb⟩;have HB:=AA hb;clear hb hc;go_wp2_with fail;go_ret;exact⟨rfl,HB.o⟩
theorem Ru(c:Int):F8 [3,4,2] c=decide (2≤MS c∧MS c≤4):=by
 unfold F8 MS;repeat' split
 all_goals rfl
theorem GY(s:ByteArray)(first:Int)(w:World):Calls prog 81 #[.string s,.int .u8 first] w (RB w (.bool (BJ s first))):=by
 by_cases h0:s.size=0
 ·have hr:Hd (BJ s first=false):=by show BJ s first=false;simp [BJ,h0]
  go_enter func81,ntmps81;go_wp2_with fail;go_ret;exact⟨AB hr.out.symm,Below.refl _ _⟩
 ·have dZ:0<s.size:=by omega
  have hz:(((s.size:Nat):Int)==0)=false:=by rw [beq_eq_false_iff_ne];omega
  clear h0;by_cases gy:16<s.size
  ·have hr:Hd (BJ s first=false):=by show BJ s first=false;simp [BJ];intro _ h;omega
   go_enter func81,ntmps81;go_wp2_with fail;go_ret;exact⟨AB hr.out.symm,Below.refl _ _⟩
  ·have kj:s.size≤16:=by omega
   clear gy;have HH:=AA (LF s dZ);have hc:(0:Int)≤((s[0].toNat:Nat):Int)∧((s[0].toNat:Nat):Int)≤255:=by have:=s[0].toNat_lt;omega
   obtain⟨c0,c1⟩:=hc;by_cases hf:MS ((s[0].toNat:Nat):Int)=first
   ·have HF:=AA hf;have kr:(MS ((s[0].toNat:Nat):Int) != first)=false:=by rw [hf];simp
    clear hf
    have hr:Hd (BJ s first=(EB s).all (F8 [3,4,2])):=by
     show BJ s first=_
     unfold BJ;rw [HH.o,HF.o];simp [dZ,kj]
    go_enter func81,ntmps81;go_wp2_with fail;refine(GX _ c0 c1 _).mono ?_;rintro e w1 ⟨rfl,hb⟩;have HB:=AA hb;clear hb;go_wp2_with fail;go_loopw [5] (fun i wr=>∃k:Nat,k≤s.size∧i=.int .i64 k∧((EB s).take k).all (F8 [3,4,2])=true∧Below w.heap.size w wr) (fun i _=>s.size-(intOf i).toNat)
    case atStart=>exact⟨0,by omega,rfl,by simp,HB.o⟩
    case round=>
     obtain⟨k,hk,rfl,bR,hb⟩:=hrel;have HA:=AA bR;have HB:=AA hb;clear bR hb;by_cases aF:k<s.size
     ·have hx:=AA (JV s k aF);have hc:(0:Int)≤((s[k].toNat:Nat):Int)∧((s[k].toNat:Nat):Int)≤255:=by have:=s[k].toNat_lt;omega
      obtain⟨d0,d1⟩:=hc;have ew:=AA (Ru ((s[k].toNat:Nat):Int));go_wp2_with fail;refine(GX _ d0 d1 _).mono ?_;rintro e w2 ⟨rfl,hb⟩;have aK:=bt HB hb;clear hb;generalize MS ((s[k].toNat:Nat):Int)=cc at *
      by_cases h2:cc<2
      ·go_wp2_with fail;go_ret;refine⟨AB ?_,aK.o⟩;rw [hr.out,GM hx.out (by rw [ew.out];simp;omega)]
      ·by_cases h4:4<cc
       ·have sK:2≤cc:=by omega
        go_wp2_with fail;go_ret;refine⟨AB ?_,aK.o⟩;rw [hr.out,GM hx.out (by rw [ew.out];simp;omega)]
       ·have sK:2≤cc:=by omega
        have tV:cc≤4:=by omega
        clear h2 h4;go_wp2_with fail;go_roundw
        case rel=>exact⟨k+1,by omega,by go_num,by rw [CF hx.out,HA.o,ew.out];simp;omega,aK.o⟩
        case measure=>simp [intOf];omega
     ·go_wp2_with fail;go_ret;refine⟨AB ?_,HB.o⟩;have h:=HA.o;rw [AP (by rw [Fu];omega)] at h;rw [hr.out,h]
   ·have kr:(MS ((s[0].toNat:Nat):Int) != first)=true:=by simpa using hf
    have hr:Hd (BJ s first=false):=by
     show BJ s first=false
     unfold BJ;rw [HH.o];simp [hf]
    clear hf;go_enter func81,ntmps81;go_wp2_with fail;refine(GX _ c0 c1 _).mono ?_;rintro e w1 ⟨rfl,hb⟩;have HB:=AA hb;clear hb;go_wp2_with fail;go_ret;exact⟨AB hr.out.symm,HB.o⟩
theorem LT(s:ByteArray)(w:World):Calls prog 48 #[.string s] w (RB w (.bool (DC s))):=by have hc:=GY s 4 w;change Calls _ _ _ w fun e w'=>e=.returned (.bool (DC s))∧Below w.heap.size w w' at hc;generalize DC s=q at hc ⊢;go_enter func48,ntmps48;go_wp2_with fail;refine hc.mono ?_;rintro e w1 ⟨rfl,hb⟩;have HB:=AA hb;clear hb hc;go_wp2_with fail;go_ret;exact⟨rfl,HB.o⟩
theorem Io:∀x:List UInt8,Op.bytesLess x x=false
 |[]=>rfl
 |a::x=>by simp [Op.bytesLess,Io x]
theorem P5:∀x y z:List UInt8,Op.bytesLess x y=true→Op.bytesLess y z=true→Op.bytesLess x z=true
 |_,_,[],_,h=>by cases ‹List UInt8›<;>simp [Op.bytesLess] at h
 |_,[],_::_,h,_=>by cases ‹List UInt8›<;>simp [Op.bytesLess] at h
 |[],_::_,_::_,_,_=>rfl
 |a::x,b::y,c::z,h,h'=>by
  simp only [Op.bytesLess,Bool.or_eq_true,Bool.and_eq_true,decide_eq_true_eq,beq_iff_eq,UInt8.lt_iff_toNat_lt] at *
  rcases h with h|⟨h,hx⟩<;>rcases h' with h'|⟨h',hy⟩
  ·left;omega
  ·subst h';left;omega
  ·subst h;left;omega
  ·subst h;subst h';exact .inr ⟨rfl,P5 x y z hx hy⟩
theorem RW:∀x y:List UInt8,Op.bytesLess x y=false→Op.bytesLess y x=false→x=y
 |[],[],_,_=>rfl
 |[],_::_,h,_=>by simp [Op.bytesLess] at h
 |_::_,[],_,h=>by simp [Op.bytesLess] at h
 |a::x,b::y,h,h'=>by
  simp only [Op.bytesLess,Bool.or_eq_false_iff,Bool.and_eq_false_iff,decide_eq_false_iff_not,beq_eq_false_iff_ne,UInt8.lt_iff_toNat_lt] at *
  have e:a=b:=by apply UInt8.toNat_inj.1;omega
  subst e;rw [RW x y (by simpa using h.2) (by simpa using h'.2)]
theorem Hb{s t:ByteArray}(h:s.toList=t.toList):s=t:=by rw [Lib.toList_data,Lib.toList_data] at h;rw [←Lib.mk_data s,←Lib.mk_data t,h]
structure AD where
 kind:Int
 rho:Int
 exn:ByteArray
deriving DecidableEq,Inhabited
def AD.lt(a b:AD):Bool:=if a.kind=b.kind then(if a.rho=b.rho then Op.bytesLess a.exn.toList b.exn.toList else decide (a.rho<b.rho)) else decide (a.kind<b.kind)
theorem AD.lt_irrefl(a:AD):AD.lt a a=false:=by simp [AD.lt,Io]
theorem AD.lt_trans{a b c:AD}(h:AD.lt a b=true)(h':AD.lt b c=true):AD.lt a c=true:=by
 unfold AD.lt at *
 by_cases k1:a.kind=b.kind
 ·by_cases k2:b.kind=c.kind
  ·rw [if_pos k1] at h;rw [if_pos k2] at h';rw [if_pos (k1.trans k2)];by_cases r1:a.rho=b.rho
   ·by_cases r2:b.rho=c.rho
    ·rw [if_pos r1] at h;rw [if_pos r2] at h';rw [if_pos (r1.trans r2)];exact P5 _ _ _ h h'
    ·rw [if_neg r2] at h';rw [if_neg (by omega)];simp at h' ⊢;omega
   ·rw [if_neg r1] at h;by_cases r2:b.rho=c.rho
    ·rw [if_neg (by omega)];simp at h ⊢;omega
    ·rw [if_neg r2] at h';simp at h h';rw [if_neg (by omega)];simp;omega
  ·rw [if_neg k2] at h';rw [if_neg (by omega)];simp at h' ⊢;omega
 ·rw [if_neg k1] at h;by_cases k2:b.kind=c.kind
  ·rw [if_neg (by omega)];simp at h ⊢;omega
  ·rw [if_neg k2] at h';simp at h h';rw [if_neg (by omega)];simp;omega
theorem AD.lt_tri{a b:AD}(h:AD.lt a b=false)(h':AD.lt b a=false):a=b:=by
 unfold AD.lt at *
 by_cases k1:a.kind=b.kind
 ·rw [if_pos k1] at h;rw [if_pos k1.symm] at h';by_cases r1:a.rho=b.rho
  ·rw [if_pos r1] at h;rw [if_pos r1.symm] at h';obtain⟨ak,ar,ae⟩:=a;obtain⟨bk,br,be⟩:=b;simp only at k1 r1 h h';rw [k1,r1,Hb (RW _ _ h h')]
  ·rw [if_neg r1] at h;rw [if_neg (fun e=>r1 e.symm)] at h';simp at h h';omega
 ·rw [if_neg k1] at h;rw [if_neg (fun e=>k1 e.symm)] at h';simp at h h';omega
def BX{α:Type}(lt:α→α→Bool)(l:List α):Prop:=l.Pairwise (fun a b=>lt a b=true)
theorem JL{α:Type}{lt:α→α→Bool}(irr:∀a,lt a a=false)(tr:∀a b c,lt a b=true→lt b c=true→lt a c=true):∀{l m:List α},BX lt l→BX lt m→(∀a,a∈l↔a∈m)→l=m
 |[],[],_,_,_=>rfl
 |[],b::m,_,_,h=>absurd ((h b).2 (List.mem_cons_self ..)) List.not_mem_nil
 |a::l,[],_,_,h=>absurd ((h a).1 (List.mem_cons_self ..)) List.not_mem_nil
 |a::l,b::m,hl,hm,h=>by
  obtain⟨ha,jv⟩:=List.pairwise_cons.1 hl;obtain⟨hb,co⟩:=List.pairwise_cons.1 hm
  have e:a=b:=by
   rcases List.mem_cons.1 ((h a).1 (List.mem_cons_self ..)) with e|e
   ·exact e
   ·rcases List.mem_cons.1 ((h b).2 (List.mem_cons_self ..)) with e'|e'
    ·exact e'.symm
    ·have:=tr _ _ _ (ha b e') (hb a e);rw [irr] at this;cases this
  subst e;rw [JL irr tr jv co (fun x=>?_)];constructor
  ·intro hx;rcases List.mem_cons.1 ((h x).1 (List.mem_cons_of_mem _ hx)) with e|e
   ·subst e;have:=ha _ hx;rw [irr] at this;cases this
   ·exact e
  ·intro hx;rcases List.mem_cons.1 ((h x).2 (List.mem_cons_of_mem _ hx)) with e|e
   ·subst e;have:=hb _ hx;rw [irr] at this;cases this
   ·exact e
def EY{α:Type}(lt:α→α→Bool)(a:α):List α→List α
 |[]=>[a]
 |b::l=>if lt a b then a::b::l else if lt b a then b::EY lt a l else b::l
theorem IR{α:Type}{lt:α→α→Bool}(tri:∀a b,lt a b=false→lt b a=false→a=b)(a x:α):∀l:List α,x∈EY lt a l↔x=a∨x∈l
 |[]=>by simp [EY]
 |b::l=>by
  unfold EY;by_cases h1:lt a b=true
  ·rw [if_pos h1];simp
  ·rw [if_neg h1];by_cases h2:lt b a=true
   ·rw [if_pos h2,List.mem_cons,IR tri a x l,List.mem_cons];constructor
    ·rintro(h|h|h)
     ·exact .inr (.inl h)
     ·exact .inl h
     ·exact .inr (.inr h)
    ·rintro(h|h|h)
     ·exact .inr (.inl h)
     ·exact .inl h
     ·exact .inr (.inr h)
   ·rw [if_neg h2];have e:a=b:=tri a b (by simpa using h1) (by simpa using h2);subst e;simp
theorem Ie{α:Type}{lt:α→α→Bool}(tr:∀a b c,lt a b=true→lt b c=true→lt a c=true)(tri:∀a b,lt a b=false→lt b a=false→a=b)(a:α):∀{l:List α},BX lt l→BX lt (EY lt a l)
 |[],_=>by simp [EY,BX]
 |b::l,h=>by
  obtain⟨hb,hl⟩:=List.pairwise_cons.1 h;unfold EY;by_cases h1:lt a b=true
  ·rw [if_pos h1];refine List.pairwise_cons.2 ⟨fun x hx=>?_,h⟩;rcases List.mem_cons.1 hx with e|e
   ·subst e;exact h1
   ·exact tr _ _ _ h1 (hb x e)
  ·rw [if_neg h1];by_cases h2:lt b a=true
   ·rw [if_pos h2];refine List.pairwise_cons.2 ⟨fun x hx=>?_,Ie tr tri a hl⟩;rcases (IR tri a x l).1 hx with e|e
    ·subst e;exact h2
    ·exact hb x e
   ·rw [if_neg h2];exact h
def GR{α:Type}(lt:α→α→Bool):List α→List α
 |[]=>[]
 |a::l=>EY lt a (GR lt l)
theorem Iv{α:Type}{lt:α→α→Bool}(tri:∀a b,lt a b=false→lt b a=false→a=b)(x:α):∀l:List α,x∈GR lt l↔x∈l
 |[]=>by simp [GR]
 |a::l=>by rw [GR,IR tri,Iv tri x l,List.mem_cons]
theorem Ff{α:Type}{lt:α→α→Bool}(tr:∀a b c,lt a b=true→lt b c=true→lt a c=true)(tri:∀a b,lt a b=false→lt b a=false→a=b):∀l:List α,BX lt (GR lt l)
 |[]=>by simp [GR,BX]
 |a::l=>Ie tr tri a (Ff tr tri l)
theorem QO{α:Type}{lt:α→α→Bool}(irr:∀a,lt a a=false)(tr:∀a b c,lt a b=true→lt b c=true→lt a c=true)(tri:∀a b,lt a b=false→lt b a=false→a=b){l m:List α}(hr:BX lt m)(hm:∀a,a∈m↔a∈l):m=GR lt l:=JL irr tr hr (Ff tr tri l) (fun a=>by rw [hm,Iv tri])
abbrev DR:List AD→List AD:=GR AD.lt
def Fc(a b:Int):Bool:=decide (a<b)
abbrev Bv:List Int→List Int:=GR Fc
theorem R1(a:Int):Fc a a=false:=by simp [Fc]
theorem Kp(a b c:Int)(h:Fc a b=true)(h':Fc b c=true):Fc a c=true:=by simp [Fc] at *;omega
theorem MB(a b:Int)(h:Fc a b=false)(h':Fc b a=false):a=b:=by simp [Fc] at *;omega
theorem AD.lt_trans'(a b c:AD)(h:AD.lt a b=true)(h':AD.lt b c=true):AD.lt a c=true:=AD.lt_trans h h'
theorem AD.lt_tri'(a b:AD)(h:AD.lt a b=false)(h':AD.lt b a=false):a=b:=AD.lt_tri h h'
theorem IJ{l m:List AD}(hr:BX AD.lt m)(hm:∀a,a∈m↔a∈l):m=DR l:=QO AD.lt_irrefl AD.lt_trans' AD.lt_tri' hr hm
theorem J6{l m:List Int}(hr:BX Fc m)(hm:∀a,a∈m↔a∈l):m=Bv l:=QO R1 Kp MB hr hm
theorem CV(x:AD)(l:List AD):x∈DR l↔x∈l:=Iv AD.lt_tri' x l
theorem G6(l:List AD):BX AD.lt (DR l):=Ff AD.lt_trans' AD.lt_tri' l
theorem Ep(x:Int)(l:List Int):x∈Bv l↔x∈l:=Iv MB x l
theorem PV(l:List Int):BX Fc (Bv l):=Ff Kp MB l
theorem La{l m:List AD}(h:∀a,a∈l↔a∈m):DR l=DR m:=IJ (G6 l) (fun a=>by rw [CV,h])
theorem Q1{l m:List Int}(h:∀a,a∈l↔a∈m):Bv l=Bv m:=J6 (PV l) (fun a=>by rw [Ep,h])
def AS(a:AD):List Value:=[.int .u8 a.kind,.int .i64 a.rho,.string a.exn]
theorem AF(a:AD):(AS a).length=3:=rfl
def AX(a:AD):Bool:=if a.kind=1∨a.kind=2 then decide (0≤a.rho)&&a.exn.toList.isEmpty else if a.kind=3 then decide (a.rho=0)&&DC a.exn else false
theorem Pz(a:AD)(w:World):Calls prog 127 #[.agg #[.int .u8 a.kind,.int .i64 a.rho,.string a.exn]] w (RB w (.bool (AX a))):=by
 obtain⟨k,r,s⟩:=a;by_cases eL:k=1∨k=2
 ·have hr:Hd (AX ⟨k,r,s⟩=(decide (0≤r)&&s.toList.isEmpty)):=by show AX ⟨k,r,s⟩=_;simp [AX,eL]
  by_cases h0:0≤r
  ·cases he:s.toList.isEmpty
   ·have jp:(s.toList==[])=false:=by rw [beq_eq_false_iff_ne];intro e;rw [e] at he;cases he
    rcases eL with rfl|rfl
    all_goals
     go_enter func127,ntmps127
     go_wp2_with fail
     go_ret
     exact⟨AB (by rw [hr.out];simp [h0,he]),bA⟩
   ·have jp:s.toList=[]:=by simpa using he
    rcases eL with rfl|rfl
    all_goals
     go_enter func127,ntmps127
     go_wp2_with fail
     go_ret
     exact⟨AB (by rw [hr.out];simp [h0,he]),bA⟩
  ·rcases eL with rfl|rfl
   all_goals
    go_enter func127,ntmps127
    go_wp2_with fail
    go_ret
    exact⟨AB (by rw [hr.out];simp;omega),bA⟩
 ·have k1:(k==1)=false:=by rw [beq_eq_false_iff_ne];omega
  have k2:(k==2)=false:=by rw [beq_eq_false_iff_ne];omega
  by_cases h3:k=3
  ·subst h3;by_cases h0:r=0
   ·subst h0;have hr:Hd (AX ⟨3,0,s⟩=DC s):=by show AX ⟨3,0,s⟩=_;simp [AX]
    have hc:=fun W aD=>JQ (some ⟨w.heap.size+1,0,none⟩) 1 1 [s] W rfl (by omega) aD;have he:Hd ([s].all DC=DC s):=by show [s].all DC=DC s;simp
    have HC:=AA hc;clear hc;go_enter func127,ntmps127;go_wp2_with fail;refine(HC.o _ (Au.newAt De _ [s] _ rfl _ (0,0) _ (by simp))).mono ?_;rintro e w1 ⟨rfl,hb⟩;have HB:Hd (Below w.heap.size w w1):=(((Below.refl _ w).alloc (Nat.le_refl _) _).alloc (by simp) _).trans (hb.mono (by simp;omega));clear hb;rw [he.out];go_wp2_with fail;go_ret;exact⟨AB hr.out.symm,HB.o⟩
   ·have hr:Hd (AX ⟨3,r,s⟩=false):=by show AX ⟨3,r,s⟩=_;simp [AX,h0]
    have r0:(r==0)=false:=by rw [beq_eq_false_iff_ne];exact h0
    go_enter func127,ntmps127;go_wp2_with fail;go_ret;exact⟨AB hr.out.symm,bA⟩
  ·have hr:Hd (AX ⟨k,r,s⟩=false):=by show AX ⟨k,r,s⟩=_;simp [AX,eL,h3]
   have k3:(k==3)=false:=by rw [beq_eq_false_iff_ne];exact h3
   go_enter func127,ntmps127;go_wp2_with fail;go_ret;exact⟨AB hr.out.symm,bA⟩
theorem DK(a:AD)(w:World):Calls prog 23 #[.agg #[.int .u8 a.kind,.int .i64 a.rho,.string a.exn]] w (RB w (.bool (AX a))):=by
 obtain⟨k,r,s⟩:=a;by_cases h3:k=3
 ·subst h3;by_cases h0:r=0
  ·subst h0;have hr:Hd (AX ⟨3,0,s⟩=DC s):=by show AX ⟨3,0,s⟩=_;simp [AX]
   go_enter func23,ntmps23;go_wp2_with fail;refine(LT s _).mono ?_;rintro e w1 ⟨rfl,hb⟩;have HB:Hd (Below w.heap.size w w1):=((Below.refl _ w).alloc (Nat.le_refl _) _).trans (hb.mono (by simp));clear hb;go_wp2_with fail;go_ret;exact⟨AB hr.out.symm,HB.o⟩
  ·have hr:Hd (AX ⟨3,r,s⟩=false):=by show AX ⟨3,r,s⟩=_;simp [AX,h0]
   have r0:(r==0)=false:=by rw [beq_eq_false_iff_ne];exact h0
   go_enter func23,ntmps23;go_wp2_with fail;go_ret;exact⟨AB hr.out.symm,bA⟩
 ·have k3:(k==3)=false:=by rw [beq_eq_false_iff_ne];exact h3
  by_cases eL:k=1∨k=2
  ·have hr:Hd (AX ⟨k,r,s⟩=(decide (0≤r)&&s.toList.isEmpty)):=by show AX ⟨k,r,s⟩=_;simp [AX,eL]
   by_cases h0:0≤r
   ·cases he:s.toList.isEmpty
    ·have jp:(s.toList==[])=false:=by rw [beq_eq_false_iff_ne];intro e;rw [e] at he;cases he
     rcases eL with rfl|rfl
     all_goals
      go_enter func23,ntmps23
      go_wp2_with fail
      go_ret
      exact⟨AB (by rw [hr.out];simp [h0,he]),bA⟩
    ·have jp:s.toList=[]:=by simpa using he
     rcases eL with rfl|rfl
     all_goals
      go_enter func23,ntmps23
      go_wp2_with fail
      go_ret
      exact⟨AB (by rw [hr.out];simp [h0,he]),bA⟩
   ·rcases eL with rfl|rfl
    all_goals
     go_enter func23,ntmps23
     go_wp2_with fail
     go_ret
     exact⟨AB (by rw [hr.out];simp;omega),bA⟩
  ·have k1:(k==1)=false:=by rw [beq_eq_false_iff_ne];omega
   have k2:(k==2)=false:=by rw [beq_eq_false_iff_ne];omega
   have hr:Hd (AX ⟨k,r,s⟩=false):=by show AX ⟨k,r,s⟩=_;simp [AX,eL,h3]
   go_enter func23,ntmps23;go_wp2_with fail;go_ret;exact⟨AB hr.out.symm,bA⟩
section
open Go.Sort
def Ei(a b:Int):Int:=if a<b then -1 else if b<a then 1 else 0
def Kk(s t:ByteArray):Int:=if Op.bytesLess s.toList t.toList then -1 else if Op.bytesLess t.toList s.toList then 1 else 0
def MT(a b:AD):Int:=if Ei a.kind b.kind≠0 then Ei a.kind b.kind else if Ei a.rho b.rho≠0 then Ei a.rho b.rho else Kk a.exn b.exn
theorem UZ(a b:Int)(w:World):Calls prog 176 #[.int .u8 a,.int .u8 b] w fun e w'=>e=.returned (.int .i64 (Ei a b))∧w'=w:=by
 rcases (by omega:a<b∨b<a∨a=b) with h|h|rfl
 ·have hr:Hd (Ei a b=-1):=by show Ei a b=-1;simp [Ei,h]
  go_enter func176,ntmps176;go_wp2;go_ret;exact⟨Bw hr.out.symm,rfl⟩
 ·have h':¬a<b:=by omega
  have hr:Hd (Ei a b=1):=by show Ei a b=1;simp [Ei,h,h']
  clear h';have sI:b≤a:=by omega
  go_enter func176,ntmps176;go_wp2;go_ret;exact⟨Bw hr.out.symm,rfl⟩
 ·have hr:Hd (Ei a a=0):=by show Ei a a=0;simp [Ei]
  go_enter func176,ntmps176;go_wp2;go_ret;exact⟨Bw hr.out.symm,rfl⟩
theorem TL(a b:Int)(w:World):Calls prog 177 #[.int .i64 a,.int .i64 b] w fun e w'=>e=.returned (.int .i64 (Ei a b))∧w'=w:=by
 rcases (by omega:a<b∨b<a∨a=b) with h|h|rfl
 ·have hr:Hd (Ei a b=-1):=by show Ei a b=-1;simp [Ei,h]
  go_enter func177,ntmps177;go_wp2;go_ret;exact⟨Bw hr.out.symm,rfl⟩
 ·have h':¬a<b:=by omega
  have hr:Hd (Ei a b=1):=by show Ei a b=1;simp [Ei,h,h']
  clear h';have sI:b≤a:=by omega
  go_enter func177,ntmps177;go_wp2;go_ret;exact⟨Bw hr.out.symm,rfl⟩
 ·have hr:Hd (Ei a a=0):=by show Ei a a=0;simp [Ei]
  go_enter func177,ntmps177;go_wp2;go_ret;exact⟨Bw hr.out.symm,rfl⟩
theorem XP{x y:List UInt8}(h:Op.bytesLess x y=true):(x==y)=false:=by rw [beq_eq_false_iff_ne];intro e;subst e;rw [Io] at h;cases h
theorem Rd(s t:ByteArray)(w:World):Calls prog 178 #[.string s,.string t] w fun e w'=>e=.returned (.int .i64 (Kk s t))∧w'=w:=by
 cases h:Op.bytesLess s.toList t.toList
 ·cases h':Op.bytesLess t.toList s.toList
  ·have he:s=t:=Hb (RW _ _ h h');subst he;have hr:Hd (Kk s s=0):=by show Kk s s=0;simp [Kk,Io]
   clear h';go_enter func178,ntmps178;go_wp2;go_ret;exact⟨Bw hr.out.symm,rfl⟩
  ·have aS:=XP h';have cV:(s.toList==t.toList)=false:=by rw [BEq.comm];exact aS
   have hr:Hd (Kk s t=1):=by show Kk s t=1;simp [Kk,h,h']
   go_enter func178,ntmps178;go_wp2;go_ret;exact⟨Bw hr.out.symm,rfl⟩
 ·have hr:Hd (Kk s t=-1):=by show Kk s t=-1;simp [Kk,h]
  go_enter func178,ntmps178;go_wp2;go_ret;exact⟨Bw hr.out.symm,rfl⟩
def Vp(a b c:Int):Int:=if a≠0 then a else if b≠0 then b else c
theorem WD(a b c:Int)(B:Nat)(w:World)(h0:w.cell? ⟨B,0,none⟩=some (.int .i64 a))(h1:w.cell? ⟨B,1,none⟩=some (.int .i64 b))(h2:w.cell? ⟨B,2,none⟩=some (.int .i64 c)):Calls prog 175 #[.slice (some ⟨B,0,none⟩) 3 3] w fun e w'=>e=.returned (.int .i64 (Vp a b c))∧w'=w:=by
 by_cases ha:a=0
 ·subst ha;by_cases hb:b=0
  ·subst hb;have hr:Hd (Vp 0 0 c=c):=by show Vp 0 0 c=c;simp [Vp]
   go_enter func175,ntmps175;go_wp2_with fail;go_loop [5,8] (fun _ i=>∃k:Nat,k≤3∧i=.int .i64 k∧(3≤k→c=0)) (fun _ i=>3-(intOf i).toNat)
   case atStart=>exact⟨0,by omega,rfl,by omega⟩
   case round=>
    obtain⟨k,hk,rfl,hc⟩:=hrel;rcases (by omega:k=0∨k=1∨k=2∨k=3) with rfl|rfl|rfl|rfl
    ·clear hc;go_wp2_with fail;go_round
     case rel=>exact⟨1,by omega,rfl,by omega⟩
     case measure=>simp [intOf]
    ·clear hc;go_wp2_with fail;go_round
     case rel=>exact⟨2,by omega,rfl,by omega⟩
     case measure=>simp [intOf]
    ·clear hc;by_cases hc:c=0
     ·subst hc;go_wp2_with fail;go_round
      case rel=>exact⟨3,by omega,rfl,by simp⟩
      case measure=>simp [intOf]
     ·have te:(c != 0)=true:=by simpa using hc
      have HC:=AA hc;clear hc;go_wp2_with fail;go_ret;exact⟨Bw hr.out.symm,rfl⟩
    ·have bZ:c=0:=hc (by omega);subst bZ;go_wp2_with fail;go_ret;exact⟨Bw hr.out.symm,rfl⟩
  ·have hr:Hd (Vp 0 b c=b):=by show Vp 0 b c=b;simp [Vp,hb]
   have tc:(b != 0)=true:=by simpa using hb
   have HB:=AA hb;clear hb;go_enter func175,ntmps175;go_wp2_with fail;go_loop [5,8] (fun _ i=>∃k:Nat,k≤1∧i=.int .i64 k) (fun _ i=>3-(intOf i).toNat)
   case atStart=>exact⟨0,by omega,rfl⟩
   case round=>
    obtain⟨k,hk,rfl⟩:=hrel;rcases (by omega:k=0∨k=1) with rfl|rfl
    ·go_wp2_with fail;go_round
     case rel=>exact⟨1,by omega,rfl⟩
     case measure=>simp [intOf]
    ·go_wp2_with fail;go_ret;exact⟨Bw hr.out.symm,rfl⟩
 ·have hr:Hd (Vp a b c=a):=by show Vp a b c=a;simp [Vp,ha]
  have tZ:(a != 0)=true:=by simpa using ha
  have HA:=AA ha;clear ha;go_enter func175,ntmps175;go_wp2_with fail;go_loop [5,8] (fun _ i=>i=.int .i64 0) (fun _ i=>0)
  case atStart=>rfl
  case round=>subst hrel;go_wp2_with fail;go_ret;exact⟨Bw hr.out.symm,rfl⟩
theorem Kg(W:World)(cs:Array Value)(t:TypeId)(k:Nat)(fr:Nat×Nat)(B:Nat)(h:W.heap.size=B):(W.alloc (.cells cs t fr)).cell? ⟨B,k,none⟩=cs[k]?:=by subst h;exact AR W cs t k fr
theorem LG(a b:AD)(W:World):Calls prog 128 #[.agg #[.int .u8 a.kind,.int .i64 a.rho,.string a.exn],.agg #[.int .u8 b.kind,.int .i64 b.rho,.string b.exn]] W fun e w'=>e=.returned (.int .i64 (MT a b))∧∃q os',w'=grow (W.drewN q) os':=by
 go_enter func128,ntmps128;go_wp2_with fail;refine wp_region_still_tail 15 (by kernel_rfl) (by kernel_rfl) ?_;change wpStill _ _ (World.drew _) _ _ _;simp only [List.take_succ_cons,List.take_zero,List.drop_succ_cons,List.drop_zero];repeat still_step
 still_call (UZ _ _ _);repeat still_step
 still_call (TL _ _ _);repeat still_step
 still_call (Rd _ _ _);repeat still_step
 refine wpStill_nil ?_;change wpList _ _ _ _ _ (World.drew _);go_wp2_with fail;refine(WD (Ei a.kind b.kind) (Ei a.rho b.rho) (Kk a.exn b.exn) (W.heap.size+2) _ ?_ ?_ ?_).mono ?_
 ·change (World.alloc _ _).cell? _=_;rw [Kg _ _ _ _ (0,0) _ (by simp)];rfl
 ·change (World.alloc _ _).cell? _=_;rw [Kg _ _ _ _ (0,0) _ (by simp)];rfl
 ·change (World.alloc _ _).cell? _=_;rw [Kg _ _ _ _ (0,0) _ (by simp)];rfl
 ·rintro e w' ⟨rfl,rfl⟩;go_wp2_with fail;go_ret;exact⟨rfl,1,_,by rw [alloc_eq_grow,alloc_eq_grow,alloc_eq_grow,grow_grow,grow_grow];rfl⟩
end
abbrev CX:=Au AS 3
theorem CX.atom{w:World}{p:Option Addr}{l:List AD}(h:CX w p l){j:Nat}{x:AD}(hx:l[j]?=some x):∃b o,p=some ⟨b,o,none⟩∧b<w.heap.size∧w.cell? ⟨b,o+j * 3,none⟩=some (.int .u8 x.kind)∧w.cell? ⟨b,o+j * 3+1,none⟩=some (.int .i64 x.rho)∧w.cell? ⟨b,o+j * 3+2,none⟩=some (.string x.exn):=by obtain⟨b,o,rfl,hb,hc⟩:=h.elem hx;exact⟨b,o,rfl,hb,by simpa using hc 0 _ rfl,hc 1 _ rfl,hc 2 _ rfl⟩
def NX(x y:AD):Bool:=decide (x=y)
theorem OI(x y:AD):NX x y=(x.kind==y.kind&&x.rho==y.rho&&(x.exn.toList==y.exn.toList)):=by
 unfold NX;obtain⟨xk,xr,xe⟩:=x;obtain⟨yk,yr,ye⟩:=y;rw [Bool.eq_iff_iff];simp only [decide_eq_true_eq,AD.mk.injEq,Bool.and_eq_true,beq_iff_eq];constructor
 ·rintro⟨h1,h2,h3⟩;subst h3;exact⟨⟨h1,h2⟩,rfl⟩
 ·rintro⟨⟨h1,h2⟩,h3⟩;exact⟨h1,h2,Hb h3⟩
theorem PW(x y:AD)(w:World):(binOp .eql 59 (.agg #[.int .u8 x.kind,.int .i64 x.rho,.string x.exn]) (.agg #[.int .u8 y.kind,.int .i64 y.rho,.string y.exn])).run prog w=.ok (.bool (NX x y)) w:=by
 have u3:=underlying3;have u5:=underlying5;have u9:=underlying9;have hS:prog.underlying 59=some (.struct (prog.fieldsOf 59)):=by kernel_rfl
 have hp:prog.stoodInHeld 59=false:=by kernel_rfl
 rw [run_eql_struct,show (10000:Nat)=9999+1 from rfl,run_equalIn_agg w 9999 59 _ _ hS hp,OI];simp only [Program.fieldsOf,underlying59];go_simp;by_cases h1:x.kind=y.kind<;>by_cases h2:x.rho=y.rho<;>by_cases h3:x.exn.toList=y.exn.toList<;>simp [h1,h2,h3]
theorem Sq(x y:AD)(w:World):(binOp .neq 59 (.agg #[.int .u8 x.kind,.int .i64 x.rho,.string x.exn]) (.agg #[.int .u8 y.kind,.int .i64 y.rho,.string y.exn])).run prog w=.ok (.bool (!NX x y)) w:=by
 have u3:=underlying3;have u5:=underlying5;have u9:=underlying9;have hS:prog.underlying 59=some (.struct (prog.fieldsOf 59)):=by kernel_rfl
 have hp:prog.stoodInHeld 59=false:=by kernel_rfl
 rw [run_neq_struct,show (10000:Nat)=9999+1 from rfl,run_equalIn_agg w 9999 59 _ _ hS hp,OI];simp only [Program.fieldsOf,underlying59];go_simp;by_cases h1:x.kind=y.kind<;>by_cases h2:x.rho=y.rho<;>by_cases h3:x.exn.toList=y.exn.toList<;>simp [h1,h2,h3]
theorem KN(a b:AD)(w:World):Calls prog 42 #[.agg #[.int .u8 a.kind,.int .i64 a.rho,.string a.exn],.agg #[.int .u8 b.kind,.int .i64 b.rho,.string b.exn]] w (RB w (.bool (AD.lt a b))):=by
 by_cases hk:a.kind=b.kind
 ·have qh:(a.kind != b.kind)=false:=by rw [hk];simp
  by_cases hr:a.rho=b.rho
  ·have tD:(a.rho != b.rho)=false:=by rw [hr];simp
   have hh:Hd (AD.lt a b=Op.bytesLess a.exn.toList b.exn.toList):=by show AD.lt a b=_;simp [AD.lt,hk,hr]
   clear hk hr;go_enter func42,ntmps42;go_wp2_with fail;go_ret;exact⟨AB hh.out.symm,bA.alloc (by simp) _⟩
  ·have tD:(a.rho != b.rho)=true:=by simpa using hr
   have hh:Hd (AD.lt a b=decide (a.rho<b.rho)):=by show AD.lt a b=_;simp [AD.lt,hk,hr]
   clear hk hr;go_enter func42,ntmps42;go_wp2_with fail;go_ret;exact⟨AB hh.out.symm,bA.alloc (by simp) _⟩
 ·have qh:(a.kind != b.kind)=true:=by simpa using hk
  have hh:Hd (AD.lt a b=decide (a.kind<b.kind)):=by show AD.lt a b=_;simp [AD.lt,hk]
  clear hk;go_enter func42,ntmps42;go_wp2_with fail;go_ret;exact⟨AB hh.out.symm,bA.alloc (by simp) _⟩
def LP(l:List AD)(a:AD):Bool:=l.any (fun x=>NX x a)
theorem G5(p:Option Addr)(n cap:Nat)(l:List AD)(a:AD)(w:World)(hn:l.length=n)(hm:n≤9223372036854775807)(hr:CX w p l):Calls prog 51 #[.slice p n cap,.agg #[.int .u8 a.kind,.int .i64 a.rho,.string a.exn]] w (RB w (.bool (LP l a))):=by
 have HR:=AA (hr.alloc (.cells #[.int .u8 a.kind,.int .i64 a.rho,.string a.exn] 59));have HN:=AA hn;clear hr hn;go_enter func51,ntmps51;go_wp2_with fail;go_loopw [5,8] (fun _ i wr=>∃k:Nat,k≤n∧i=.int .i64 k∧(l.take k).any (fun x=>NX x a)=false∧∃q,wr=(w.alloc (.cells #[.int .u8 a.kind,.int .i64 a.rho,.string a.exn] 59)).drewN q) (fun _ i _=>n-(intOf i).toNat)
 case atStart=>exact⟨0,by omega,rfl,by simp,0,rfl⟩
 case round=>
  obtain⟨k,hk,rfl,ac,q,rfl⟩:=hrel;have an:=AA ac;clear ac;by_cases aF:k<n
  ·obtain⟨x,hx⟩:=AM (l:=l) (j:=k) (by rw [HN.o];exact aF);obtain⟨b,o,rfl,hb,c0,c1,c2⟩:=CX.atom HR.o hx;have HE:=AA hx;clear hx hb;have he:=fun W=>PW x a W;cases hq:NX x a
   ·go_wp2_with fail;go_quiet (fail);go_wp2_with fail;go_roundw
    case rel=>exact⟨k+1,by omega,by go_num,by rw [Av HE.o,an.o,hq];rfl,_,rfl⟩
    case measure=>simp [intOf];omega
   ·go_wp2_with fail;go_quiet (fail);go_wp2_with fail;go_ret;exact⟨AB (Ex HE.o hq).symm,below_drewN (below_drewN bA _) _⟩
  ·go_wp2_with fail;go_ret;have h:=an.o;rw [AP (by rw [HN.o];omega)] at h;exact⟨AB h.symm,below_drewN bA _⟩
def Vy(l m:List AD):Bool:=decide (l=m)
theorem Rg{α:Type}{l m:List α}{n:Nat}(hl:l.length=n)(hm:m.length=n)(h:l.take n=m.take n):l=m:=by rwa [AP (by omega),AP (by omega)] at h
theorem Pd{α:Type}{l m:List α}{k:Nat}{x y:α}(hx:l[k]?=some x)(hy:m[k]?=some y)(h:l.take k=m.take k)(e:x=y):l.take (k+1)=m.take (k+1):=by rw [AI hx,AI hy,h,e]
theorem Nu(p:Option Addr)(n cap:Nat)(l:List AD)(q:Option Addr)(m mc:Nat)(l':List AD)(w:World)(hn:l.length=n)(hm:n≤9223372036854775807)(hr:CX w p l)(ed:l'.length=m)(co:m≤9223372036854775807)(aT:CX w q l'):Calls prog 14 #[.slice p n cap,.slice q m mc] w fun e w'=>e=.returned (.bool (Vy l l'))∧∃j,w'=w.drewN j:=by
 by_cases gl:n=m
 ·subst gl;have HR:=AA hr;have HN:=AA hn;have cD:=AA aT;have iN:=AA ed;clear hr hn aT ed;go_enter func14,ntmps14;go_wp2_with fail;go_loopw [5,13] (fun _ i wr=>∃k:Nat,k≤n∧i=.int .i64 k∧l.take k=l'.take k∧∃j,wr=w.drewN j) (fun _ i _=>n-(intOf i).toNat)
  case atStart=>exact⟨0,by omega,rfl,by simp,0,rfl⟩
  case round=>
   obtain⟨k,hk,rfl,ac,j,rfl⟩:=hrel;have an:=AA ac;clear ac;by_cases aF:k<n
   ·obtain⟨x,hx⟩:=AM (l:=l) (j:=k) (by rw [HN.o];exact aF);obtain⟨y,hy⟩:=AM (l:=l') (j:=k) (by rw [iN.out];exact aF);obtain⟨b,o,rfl,hb,c0,c1,c2⟩:=CX.atom HR.o hx;obtain⟨b',o',rfl,aW,d0,d1,d2⟩:=CX.atom cD.out hy;have HE:=AA hx;have lj:=AA hy;clear hx hb hy aW;have he:=fun W=>Sq x y W;cases hq:NX x y
    ·have aS:Hd (Vy l l'=false):=by show Vy l l'=false;unfold Vy;rw [decide_eq_false_iff_not];intro e;have h1:=HE.o;rw [e,lj.out] at h1;cases h1;simp [NX] at hq
     go_wp2_with fail;go_quiet (fail);go_wp2_with fail;go_ret;exact⟨AB aS.out.symm,_,World.drewN_drewN _ _ _⟩
    ·have nK:Hd (x=y):=by show x=y;simpa [NX] using hq
     go_wp2_with fail;go_quiet (fail);go_wp2_with fail;go_roundw
     case rel=>exact⟨k+1,by omega,by go_num,Pd HE.o lj.out an.o nK.out,_,rfl⟩
     case measure=>simp [intOf];omega
   ·have ao:k=n:=by omega
    subst ao;go_wp2_with fail;go_ret;exact⟨AB (by unfold Vy;rw [Rg HN.o iN.out an.o];simp),_,rfl⟩
 ·have aS:Hd (Vy l l'=false):=by show Vy l l'=false;unfold Vy;rw [decide_eq_false_iff_not];intro e;subst e;omega
  have hb:((n:Int) != (m:Int))=true:=by rw [bne_iff_ne];omega
  clear hr aT hn ed gl;go_enter func14,ntmps14;go_wp2_with fail;go_ret;exact⟨AB aS.out.symm,0,rfl⟩
def BU(l:List AD):Bool:=decide (100<l.length)||l.any (fun a=>decide (100<a.exn.size))
theorem JG(p:Option Addr)(n cap:Nat)(l:List AD)(w:World)(hn:l.length=n)(hm:n≤9223372036854775807)(hr:CX w p l):Calls prog 86 #[.slice p n cap] w fun e w'=>e=.returned (.bool (BU l))∧w=w':=by
 by_cases kh:100<n
 ·have hg:Hd (BU l=true):=by show BU l=true;simp [BU,hn,kh]
  clear hr hn;go_enter func86,ntmps86;go_wp2_with fail;go_ret;exact⟨AB hg.out.symm,rfl⟩
 ·have hg:Hd (BU l=l.any (fun a=>decide (100<a.exn.size))):=by show BU l=_;simp [BU,hn,kh]
  have qD:n≤100:=by omega
  have HR:=AA hr;have HN:=AA hn;clear hr hn kh;go_enter func86,ntmps86;go_wp2_with fail;go_loop [3,9] (fun _ i=>∃k:Nat,k≤n∧i=.int .i64 k∧(l.take k).any (fun a=>decide (100<a.exn.size))=false) (fun _ i=>n-(intOf i).toNat)
  case atStart=>exact⟨0,by omega,rfl,by simp⟩
  case round=>
   obtain⟨k,hk,rfl,ac⟩:=hrel;have an:=AA ac;clear ac;by_cases aF:k<n
   ·obtain⟨x,hx⟩:=AM (l:=l) (j:=k) (by rw [HN.o];exact aF);obtain⟨b,o,rfl,hb,c0,c1,c2⟩:=CX.atom HR.o hx;have HE:=AA hx;clear hx hb c0 c1;by_cases hq:100<x.exn.size
    ·go_wp2_with fail;go_ret;exact⟨AB (by rw [hg.out,Ex HE.o (by simpa using hq)]),rfl⟩
    ·have mv:x.exn.size≤100:=by omega
     clear hq;go_wp2_with fail;go_round
     case rel=>exact⟨k+1,by omega,by go_num,by rw [Av HE.o,an.o,Bool.false_or];simpa using mv⟩
     case measure=>simp [intOf];omega
   ·go_wp2_with fail;go_ret;have h:=an.o;rw [AP (by rw [HN.o];omega)] at h;exact⟨AB (by rw [hg.out,h]),rfl⟩
theorem LL{w w':World}{o:Obj}{row:Option Nat}(h:(w.alloc o).grownBy w' row):w.grownBy w' row:=⟨h.os,h.tape,h.output,Nat.le_trans (by simp) h.size,fun k hk aS=>(h.block k (by simp;omega) aS).trans (Below.heap_alloc w o k hk)⟩
def AJ{α:Type}(enc:α→List Value)(k:Nat)(w:World)(base:Nat)(e:TypeId)(v:Value)(n:Nat)(l:List α):Prop:=w.ownsRow base e k v n (l.flatMap enc)
theorem Ae{P:Program}{α:Type}{ops:Array Oper}{rest:List Oper}{o:Oper}{a:Act}{Q:Exit→Act→World→Prop}(au:o.guard=none)(s x:Operand)(t:TypeId)(ho:o.op=.call { callee:=.builtin .append,args:=#[s,x],argTypes:=#[t,t] })(base:Nat)(e:TypeId)(z:Value)(k bytes:Nat)(ht:P.underlying t=some (.slice e))(bd:(P.info? e).map (fun i=>(i.zero,i.size,i.bytes))=some (some z,k,bytes))(fK:z.cells.size=k)(aU:0<k)(enc:α→List Value)(hk:∀x,(enc x).length=k)(h1:∀y,∀u∈enc y,u.oneCell'=true)(y:α)(l:List α)(n:Nat){w:World}(v:Value)(aB:AJ enc k w base e v n l)(hs:a.eval s=v)(hx:a.eval x=.slice (some ⟨w.heap.size,0,none⟩) 1 1)(aj:(n+1) * bytes≤140737488355328)(gz:n+1≤9223372036854775807)(cm:base≤w.heap.size)(h:∀v' w',AJ enc k w' base e v' (n+1) (l++[y])→w.grownBy w' v.ownBlock→wpList P ops Q rest (a.put o.dst v') w'):wpList P ops Q (o::rest) a (w.alloc (.cells (enc y).toArray e)):=by
 obtain⟨i,hi,hz,cH,gL⟩:=info_parts bd;refine wpList_append_own _ au s x t ho base e i z k bytes ht hi hz cH gL fK aU v n _ hs (World.ownsRow.alloc aB _) ⟨w.heap.size,0,none⟩ 1 1 (enc y) hx (by rw [hk];omega) ?_ (h1 y) (by unfold maxLen;omega) aj (by simp;omega) ?_
 ·intro j u hj;rw [FA,AR w _ _ _ (0,0),Nat.zero_add];simpa using hj
 ·intro v' w' aH hg _;refine h v' w' ?_ (LL hg);unfold AJ;rw [List.flatMap_append,List.flatMap_singleton];exact aH
section
variable {α:Type} {enc:α→List Value} {k:Nat} {w w':World} {base base' e n:Nat} {v:Value} {l:List α}
theorem AJ.lit(enc:α→List Value)(w:World)(base:Nat)(e:TypeId)(k:Nat)(hb:base≤w.heap.size):AJ enc k (w.alloc (.cells #[] e)) base e (.slice (some ⟨w.heap.size,0,none⟩) 0 0) 0 []:=World.ownsRow_made w #[] 0 hb (by simp [maxLen]) (by simp)
theorem AJ.nil(enc:α→List Value)(w:World)(base:Nat)(e:TypeId)(k:Nat):AJ enc k w base e (.slice none 0 0) 0 []:=World.ownsRow_nil w base e k
theorem AJ.below(h:AJ enc k w base e v n l)(hb:Below w.heap.size w w'):AJ enc k w' base e v n l:=by
 refine⟨h.1,?_⟩;rcases h.2 with hn|⟨g,cap,cur,rfl,aW,hg,rest⟩
 ·exact .inl hn
 ·refine .inr ⟨g,cap,cur,rfl,aW,?_,rest⟩;rw [hb.block g (Array.getElem?_eq_some_iff.1 hg).1];exact hg
theorem AJ.lower(h:AJ enc k w base e v n l)(hb:base'≤base):AJ enc k w base' e v n l:=by
 refine⟨h.1,?_⟩;rcases h.2 with hn|⟨g,cap,cur,rfl,aW,hg,rest⟩
 ·exact .inl hn
 ·exact .inr ⟨g,cap,cur,rfl,Nat.le_trans hb aW,hg,rest⟩
theorem AJ.drew(h:AJ enc k w base e v n l):AJ enc k w.drew base e v n l:=h
theorem AJ.drewN(h:AJ enc k w base e v n l)(m:Nat):AJ enc k (w.drewN m) base e v n l:=h
theorem AJ.row(hk:∀x,(enc x).length=k)(h:AJ enc k w base e v n l)(ba:0<k):∃p cap,v=.slice p n cap∧l.length=n∧n≤cap∧Au enc k w p l∧cap≤maxLen∧(p=none→n=0∧cap=0)∧(∀a,p=some a→base≤a.block∧a.off=0∧a.spot=none∧a.block<w.heap.size):=WH hk h ba
theorem AJ.len(hk:∀x,(enc x).length=k)(h:AJ enc k w base e v n l)(ba:0<k):l.length=n:=by obtain⟨_,_,_,h,_⟩:=h.row hk ba;exact h
theorem Below.own{B:Nat}{w0:World}(h:Below B w0 w)(hg:w.grownBy w' v.ownBlock)(hB:B≤w.heap.size)(ho:AJ enc k w B e v n l):Below B w0 w':=h.grown hg hB (fun k hk=>(World.ownsRow.lt ho k hk).1)
end
end Go.Proofs.YtkdjnegfnhldpaaGreatDoor
