/- Part 02. -/
import GoSem.Op.String
import Derived.Lib.Strings
import Derived.StillTailTactics
import Derived.Sort.Grow
import Derived.Deep.QuietTactic
import Derived.Laws.StructEq
import Derived.Test.YtkdjnegfnhldpaaGreatDoorK01
set_option linter.unusedVariables false
set_option maxRecDepth 100000
set_option linter.unusedSimpArgs false
set_option maxHeartbeats 40000000
namespace Go.Proofs.YtkdjnegfnhldpaaGreatDoor
open Go.Proofs.Tryz Go.RowKit
def Cg(s:ByteArray):Bool:=Aw s 4
theorem So(s:ByteArray)(w:World):Calls prog 211 #[.string s] w (RB w (.bool (Cg s))):=by go_enter func211,ntmps211;go_wp2_with fail;refine(H5 s 4 w).mono ?_;rintro e w1 ⟨rfl,hb⟩;have HB:=AA hb;clear hb;go_wp2_with fail;go_ret;exact⟨rfl,HB.o⟩
theorem Nd(s:ByteArray)(a:Addr)(w:World)(af:w.cell? a=some (.func (.func 211) #[] #[])):Calls prog 247 #[.string s,.pointer (some a)] w (RB w (.bool (!Cg s))):=by go_enter func247,ntmps247;go_wp2_with fail;refine(So s w).mono ?_;rintro e w1 ⟨rfl,hb⟩;have HB:=AA hb;clear hb;go_wp2_with fail;go_ret;exact⟨rfl,HB.o⟩
theorem If(a:Addr)(p:Option Addr)(n cap:Nat)(l:List ByteArray)(w:World)(hn:l.length=n)(hm:n≤9223372036854775807)(hr:At Gx 1 w p l)(af:w.cell? a=some (.func (.func 211) #[] #[])) :
 Calls prog 262 #[.slice p n cap,.func (.func 247) #[] #[.pointer (some a)]] w fun e w'=>(∃r:Int,e=.returned (.int .i64 r)∧(l.any (fun s=>!Cg s)=decide (0≤r)))∧Below w.heap.size w w':=by
 have HR:=AA hr
 have HN:=AA hn
 have HX:=AA af
 clear hr hn af
 go_enter func262,ntmps262
 go_wp2_with fail
 go_loopw [5,8] (fun _ i wr=>∃k:Nat,k≤n∧i=.int .i64 k∧(l.take k).any (fun s=>!Cg s)=false∧Below w.heap.size w wr) (fun _ i _=>n-(intOf i).toNat)
 case atStart=>exact⟨0,by omega,rfl,by simp,Below.refl _ _⟩
 case round=>
  obtain⟨k,hk,rfl,aw,hb⟩:=hrel;have a8:=AA aw;have HB:=AA hb;clear aw hb;by_cases aG:k<n
  ·obtain⟨x,hx⟩:=Ac (l:=l) (j:=k) (by rw [HN.o];exact aG);obtain⟨b,o,rfl,bT⟩:=(HR.o.below HB.o).str hx;have HE:=AA hx;have dP:wr.cell? a=some (.func (.func 211) #[] #[]):=by rw [HB.o.cell (BC HX.o)];exact HX.o
   clear hx;by_cases hq:Cg x=true
   ·go_wp2_with fail;refine(Nd x a wr dP).mono ?_;rintro e w1 ⟨rfl,hb⟩;have aO:=bt HB hb;clear hb dP bT;go_wp2_with fail;go_roundw
    case rel=>exact⟨k+1,by omega,by go_num,by rw [BF HE.o,a8.o,hq];rfl,aO.o⟩
    case measure=>simp [intOf];omega
   ·have j2:Cg x=false:=by simpa using hq
    clear hq;go_wp2_with fail;refine(Nd x a wr dP).mono ?_;rintro e w1 ⟨rfl,hb⟩;have aO:=bt HB hb;clear hb dP bT;go_wp2_with fail;go_ret;exact⟨⟨k,rfl,by rw [FU HE.o (by rw [j2];rfl)];simp⟩,aO.o⟩
  ·go_wp2_with fail;go_ret;have h:=a8.o;rw [AY (by rw [HN.o];omega)] at h;exact⟨⟨-1,rfl,by rw [h];simp⟩,HB.o⟩
theorem Gd(a:Addr)(p:Option Addr)(n cap:Nat)(l:List ByteArray)(w:World)(hn:l.length=n)(hm:n≤9223372036854775807)(hr:At Gx 1 w p l)(af:w.cell? a=some (.func (.func 211) #[] #[])) :
 Calls prog 246 #[.slice p n cap,.func (.func 247) #[] #[.pointer (some a)]] w (RB w (.bool (l.any (fun s=>!Cg s)))):=by
 have hc:=If a p n cap l w hn hm hr af
 generalize l.any (fun s=>!Cg s)=q at hc ⊢
 clear hr hn af
 go_enter func246,ntmps246
 go_wp2_with fail
 refine hc.mono ?_
 rintro e w1 ⟨⟨r,rfl,hr⟩,hb⟩
 have HR:=AA hr
 have HB:=AA hb
 clear hr hb hc
 go_wp2_with fail
 go_ret
 exact⟨AE HR.o.symm,HB.o⟩
theorem Lm(p:Option Addr)(n cap:Nat)(l:List ByteArray)(w:World)(hn:l.length=n)(hm:n≤9223372036854775807)(hr:At Gx 1 w p l):Calls prog 210 #[.func (.func 211) #[] #[],.slice p n cap] w (RB w (.bool (l.all Cg))):=by
 have hc:=fun o=>Gd ⟨w.heap.size,0,none⟩ p n cap l (w.alloc o) hn hm (hr.alloc o);have he:Hd (l.all Cg=!l.any (fun s=>!Cg s)):=by show l.all Cg=!l.any (fun s=>!Cg s);rw [List.all_eq_not_any_not]
 have HC:=AA hc;clear hr hn hc;go_enter func210,ntmps210;go_wp2_with fail;refine(HC.o _ (by rw [AU];rfl)).mono ?_;rintro e w1 ⟨rfl,hb⟩;have HB:Hd (Below w.heap.size w w1):=((Below.refl _ w).alloc (Nat.le_refl _) _).trans (hb.mono (by simp));clear hb;generalize l.any (fun s=>!Cg s)=q at *
 go_wp2_with fail;go_ret;exact⟨AE he.out.symm,HB.o⟩
theorem Hf(p:Option Addr)(n cap:Nat)(l:List ByteArray)(w:World)(hn:l.length=n)(hm:n≤9223372036854775807)(hr:At Gx 1 w p l):Calls prog 174 #[.slice p n cap] w (RB w (.bool (l.all Cg))):=by
 have hc:=Lm p n cap l w hn hm hr;generalize l.all Cg=q at *
 clear hr hn;go_enter func174,ntmps174;go_wp2_with fail;refine hc.mono ?_;rintro e w1 ⟨rfl,hb⟩;have HB:=AA hb;clear hb hc;go_wp2_with fail;go_ret;exact⟨rfl,HB.o⟩
theorem Pj(c:Int):Ef [3,4,2] c=decide (2≤KM c∧KM c≤4):=by
 unfold Ef KM;repeat' split
 all_goals rfl
theorem LX(s:ByteArray)(first:Int)(w:World):Calls prog 81 #[.string s,.int .u8 first] w (RB w (.bool (Aw s first))):=by
 by_cases h0:s.size=0
 ·have hr:Hd (Aw s first=false):=by show Aw s first=false;simp [Aw,h0]
  go_enter func81,ntmps81;go_wp2_with fail;go_ret;exact⟨AE hr.out.symm,Below.refl _ _⟩
 ·have eF:0<s.size:=by omega
  have hz:(((s.size:Nat):Int)==0)=false:=by rw [beq_eq_false_iff_ne];omega
  clear h0;by_cases gP:16<s.size
  ·have hr:Hd (Aw s first=false):=by show Aw s first=false;simp [Aw];intro _ h;omega
   go_enter func81,ntmps81;go_wp2_with fail;go_ret;exact⟨AE hr.out.symm,Below.refl _ _⟩
  ·have iB:s.size≤16:=by omega
   clear gP;have HH:=AA (JM s eF);have hc:(0:Int)≤((s[0].toNat:Nat):Int)∧((s[0].toNat:Nat):Int)≤255:=by have:=s[0].toNat_lt;omega
   obtain⟨c0,c1⟩:=hc;by_cases hf:KM ((s[0].toNat:Nat):Int)=first
   ·have HF:=AA hf;have iG:(KM ((s[0].toNat:Nat):Int) != first)=false:=by rw [hf];simp
    clear hf
    have hr:Hd (Aw s first=(DK s).all (Ef [3,4,2])):=by
     show Aw s first=_
     unfold Aw;rw [HH.o,HF.o];simp [eF,iB]
    go_enter func81,ntmps81;go_wp2_with fail;refine(E8 _ c0 c1 _).mono ?_;rintro e w1 ⟨rfl,hb⟩;have HB:=AA hb;clear hb;go_wp2_with fail;go_loopw [5] (fun i wr=>∃k:Nat,k≤s.size∧i=.int .i64 k∧((DK s).take k).all (Ef [3,4,2])=true∧Below w.heap.size w wr) (fun i _=>s.size-(intOf i).toNat)
    case atStart=>exact⟨0,by omega,rfl,by simp,HB.o⟩
    case round=>
     obtain⟨k,hk,rfl,bg,hb⟩:=hrel;have HA:=AA bg;have HB:=AA hb;clear bg hb;by_cases aG:k<s.size
     ·have hx:=AA (Hj s k aG);have hc:(0:Int)≤((s[k].toNat:Nat):Int)∧((s[k].toNat:Nat):Int)≤255:=by have:=s[k].toNat_lt;omega
      obtain⟨d0,d1⟩:=hc;have ck:=AA (Pj ((s[k].toNat:Nat):Int));go_wp2_with fail;refine(E8 _ d0 d1 _).mono ?_;rintro e w2 ⟨rfl,hb⟩;have aI:=bt HB hb;clear hb;generalize KM ((s[k].toNat:Nat):Int)=cc at *
      by_cases h2:cc<2
      ·go_wp2_with fail;go_ret;refine⟨AE ?_,aI.o⟩;rw [hr.out,J0 hx.out (by rw [ck.out];simp;omega)]
      ·by_cases h4:4<cc
       ·have ox:2≤cc:=by omega
        go_wp2_with fail;go_ret;refine⟨AE ?_,aI.o⟩;rw [hr.out,J0 hx.out (by rw [ck.out];simp;omega)]
       ·have ox:2≤cc:=by omega
        have pq:cc≤4:=by omega
        clear h2 h4;go_wp2_with fail;go_roundw
        case rel=>exact⟨k+1,by omega,by go_num,by rw [DY hx.out,HA.o,ck.out];simp;omega,aI.o⟩
        case measure=>simp [intOf];omega
     ·go_wp2_with fail;go_ret;refine⟨AE ?_,HB.o⟩;have h:=HA.o;rw [AY (by rw [EZ];omega)] at h;rw [hr.out,h]
   ·have iG:(KM ((s[0].toNat:Nat):Int) != first)=true:=by simpa using hf
    have hr:Hd (Aw s first=false):=by
     show Aw s first=false
     unfold Aw;rw [HH.o];simp [hf]
    clear hf;go_enter func81,ntmps81;go_wp2_with fail;refine(E8 _ c0 c1 _).mono ?_;rintro e w1 ⟨rfl,hb⟩;have HB:=AA hb;clear hb;go_wp2_with fail;go_ret;exact⟨AE hr.out.symm,HB.o⟩
theorem OU(s:ByteArray)(w:World):Calls prog 48 #[.string s] w (RB w (.bool (Cg s))):=by have hc:=LX s 4 w;change Calls _ _ _ w fun e w'=>e=.returned (.bool (Cg s))∧Below w.heap.size w w' at hc;generalize Cg s=q at hc ⊢;go_enter func48,ntmps48;go_wp2_with fail;refine hc.mono ?_;rintro e w1 ⟨rfl,hb⟩;have HB:=AA hb;clear hb hc;go_wp2_with fail;go_ret;exact⟨rfl,HB.o⟩
theorem Gi:∀x:List UInt8,Op.bytesLess x x=false
 |[]=>rfl
 |a::x=>by simp [Op.bytesLess,Gi x]
theorem Nl:∀x y z:List UInt8,Op.bytesLess x y=true→Op.bytesLess y z=true→Op.bytesLess x z=true
 |_,_,[],_,h=>by cases ‹List UInt8›<;>simp [Op.bytesLess] at h
 |_,[],_::_,h,_=>by cases ‹List UInt8›<;>simp [Op.bytesLess] at h
 |[],_::_,_::_,_,_=>rfl
 |a::x,b::y,c::z,h,h'=>by
  simp only [Op.bytesLess,Bool.or_eq_true,Bool.and_eq_true,decide_eq_true_eq,beq_iff_eq,UInt8.lt_iff_toNat_lt] at *
  rcases h with h|⟨h,hx⟩<;>rcases h' with h'|⟨h',hy⟩
  ·left;omega
  ·subst h';left;omega
  ·subst h;left;omega
  ·subst h;subst h';exact .inr ⟨rfl,Nl x y z hx hy⟩
theorem PK:∀x y:List UInt8,Op.bytesLess x y=false→Op.bytesLess y x=false→x=y
 |[],[],_,_=>rfl
 |[],_::_,h,_=>by simp [Op.bytesLess] at h
 |_::_,[],_,h=>by simp [Op.bytesLess] at h
 |a::x,b::y,h,h'=>by
  simp only [Op.bytesLess,Bool.or_eq_false_iff,Bool.and_eq_false_iff,decide_eq_false_iff_not,beq_eq_false_iff_ne,UInt8.lt_iff_toNat_lt] at *
  have e:a=b:=by apply UInt8.toNat_inj.1;omega
  subst e;rw [PK x y (by simpa using h.2) (by simpa using h'.2)]
theorem Fk{s t:ByteArray}(h:s.toList=t.toList):s=t:=by rw [Lib.toList_data,Lib.toList_data] at h;rw [←Lib.mk_data s,←Lib.mk_data t,h]
structure AB where
 kind:Int
 rho:Int
 exn:ByteArray
deriving DecidableEq,Inhabited
def AB.lt(a b:AB):Bool:=if a.kind=b.kind then(if a.rho=b.rho then Op.bytesLess a.exn.toList b.exn.toList else decide (a.rho<b.rho)) else decide (a.kind<b.kind)
theorem AB.lt_irrefl(a:AB):AB.lt a a=false:=by simp [AB.lt,Gi]
theorem AB.lt_trans{a b c:AB}(h:AB.lt a b=true)(h':AB.lt b c=true):AB.lt a c=true:=by
 unfold AB.lt at *
 by_cases k1:a.kind=b.kind
 ·by_cases k2:b.kind=c.kind
  ·rw [if_pos k1] at h;rw [if_pos k2] at h';rw [if_pos (k1.trans k2)];by_cases r1:a.rho=b.rho
   ·by_cases r2:b.rho=c.rho
    ·rw [if_pos r1] at h;rw [if_pos r2] at h';rw [if_pos (r1.trans r2)];exact Nl _ _ _ h h'
    ·rw [if_neg r2] at h';rw [if_neg (by omega)];simp at h' ⊢;omega
   ·rw [if_neg r1] at h;by_cases r2:b.rho=c.rho
    ·rw [if_neg (by omega)];simp at h ⊢;omega
    ·rw [if_neg r2] at h';simp at h h';rw [if_neg (by omega)];simp;omega
  ·rw [if_neg k2] at h';rw [if_neg (by omega)];simp at h' ⊢;omega
 ·rw [if_neg k1] at h;by_cases k2:b.kind=c.kind
  ·rw [if_neg (by omega)];simp at h ⊢;omega
  ·rw [if_neg k2] at h';simp at h h';rw [if_neg (by omega)];simp;omega
theorem AB.lt_tri{a b:AB}(h:AB.lt a b=false)(h':AB.lt b a=false):a=b:=by
 unfold AB.lt at *
 by_cases k1:a.kind=b.kind
 ·rw [if_pos k1] at h;rw [if_pos k1.symm] at h';by_cases r1:a.rho=b.rho
  ·rw [if_pos r1] at h;rw [if_pos r1.symm] at h';obtain⟨ak,ar,ae⟩:=a;obtain⟨bk,br,be⟩:=b;simp only at k1 r1 h h';rw [k1,r1,Fk (PK _ _ h h')]
  ·rw [if_neg r1] at h;rw [if_neg (fun e=>r1 e.symm)] at h';simp at h h';omega
 ·rw [if_neg k1] at h;rw [if_neg (fun e=>k1 e.symm)] at h';simp at h h';omega
def A9{α:Type}(lt:α→α→Bool)(l:List α):Prop:=l.Pairwise (fun a b=>lt a b=true)
theorem G9{α:Type}{lt:α→α→Bool}(irr:∀a,lt a a=false)(tr:∀a b c,lt a b=true→lt b c=true→lt a c=true):∀{l m:List α},A9 lt l→A9 lt m→(∀a,a∈l↔a∈m)→l=m
 |[],[],_,_,_=>rfl
 |[],b::m,_,_,h=>absurd ((h b).2 (List.mem_cons_self ..)) List.not_mem_nil
 |a::l,[],_,_,h=>absurd ((h a).1 (List.mem_cons_self ..)) List.not_mem_nil
 |a::l,b::m,hl,hm,h=>by
  obtain⟨ha,eo⟩:=List.pairwise_cons.1 hl;obtain⟨hb,cq⟩:=List.pairwise_cons.1 hm
  have e:a=b:=by
   rcases List.mem_cons.1 ((h a).1 (List.mem_cons_self ..)) with e|e
   ·exact e
   ·rcases List.mem_cons.1 ((h b).2 (List.mem_cons_self ..)) with e'|e'
    ·exact e'.symm
    ·have:=tr _ _ _ (ha b e') (hb a e);rw [irr] at this;cases this
  subst e;rw [G9 irr tr eo cq (fun x=>?_)];constructor
  ·intro hx;rcases List.mem_cons.1 ((h x).1 (List.mem_cons_of_mem _ hx)) with e|e
   ·subst e;have:=ha _ hx;rw [irr] at this;cases this
   ·exact e
  ·intro hx;rcases List.mem_cons.1 ((h x).2 (List.mem_cons_of_mem _ hx)) with e|e
   ·subst e;have:=hb _ hx;rw [irr] at this;cases this
   ·exact e
def Db{α:Type}(lt:α→α→Bool)(a:α):List α→List α
 |[]=>[a]
 |b::l=>if lt a b then a::b::l else if lt b a then b::Db lt a l else b::l
theorem GR{α:Type}{lt:α→α→Bool}(tri:∀a b,lt a b=false→lt b a=false→a=b)(a x:α):∀l:List α,x∈Db lt a l↔x=a∨x∈l
 |[]=>by simp [Db]
 |b::l=>by
  unfold Db;by_cases h1:lt a b=true
  ·rw [if_pos h1];simp
  ·rw [if_neg h1];by_cases h2:lt b a=true
   ·rw [if_pos h2,List.mem_cons,GR tri a x l,List.mem_cons];constructor
    ·rintro(h|h|h)
     ·exact .inr (.inl h)
     ·exact .inl h
     ·exact .inr (.inr h)
    ·rintro(h|h|h)
     ·exact .inr (.inl h)
     ·exact .inl h
     ·exact .inr (.inr h)
   ·rw [if_neg h2];have e:a=b:=tri a b (by simpa using h1) (by simpa using h2);subst e;simp
theorem GY{α:Type}{lt:α→α→Bool}(tr:∀a b c,lt a b=true→lt b c=true→lt a c=true)(tri:∀a b,lt a b=false→lt b a=false→a=b)(a:α):∀{l:List α},A9 lt l→A9 lt (Db lt a l)
 |[],_=>by simp [Db,A9]
 |b::l,h=>by
  obtain⟨hb,hl⟩:=List.pairwise_cons.1 h;unfold Db;by_cases h1:lt a b=true
  ·rw [if_pos h1];refine List.pairwise_cons.2 ⟨fun x hx=>?_,h⟩;rcases List.mem_cons.1 hx with e|e
   ·subst e;exact h1
   ·exact tr _ _ _ h1 (hb x e)
  ·rw [if_neg h1];by_cases h2:lt b a=true
   ·rw [if_pos h2];refine List.pairwise_cons.2 ⟨fun x hx=>?_,GY tr tri a hl⟩;rcases (GR tri a x l).1 hx with e|e
    ·subst e;exact h2
    ·exact hb x e
   ·rw [if_neg h2];exact h
def E0{α:Type}(lt:α→α→Bool):List α→List α
 |[]=>[]
 |a::l=>Db lt a (E0 lt l)
theorem Gr{α:Type}{lt:α→α→Bool}(tri:∀a b,lt a b=false→lt b a=false→a=b)(x:α):∀l:List α,x∈E0 lt l↔x∈l
 |[]=>by simp [E0]
 |a::l=>by rw [E0,GR tri,Gr tri x l,List.mem_cons]
theorem EQ{α:Type}{lt:α→α→Bool}(tr:∀a b c,lt a b=true→lt b c=true→lt a c=true)(tri:∀a b,lt a b=false→lt b a=false→a=b):∀l:List α,A9 lt (E0 lt l)
 |[]=>by simp [E0,A9]
 |a::l=>GY tr tri a (EQ tr tri l)
theorem N2{α:Type}{lt:α→α→Bool}(irr:∀a,lt a a=false)(tr:∀a b c,lt a b=true→lt b c=true→lt a c=true)(tri:∀a b,lt a b=false→lt b a=false→a=b){l m:List α}(hr:A9 lt m)(hm:∀a,a∈m↔a∈l):m=E0 lt l:=G9 irr tr hr (EQ tr tri l) (fun a=>by rw [hm,Gr tri])
abbrev Cv:List AB→List AB:=E0 AB.lt
def IU(a b:Int):Bool:=decide (a<b)
abbrev BU:List Int→List Int:=E0 IU
theorem Ps(a:Int):IU a a=false:=by simp [IU]
theorem I6(a b c:Int)(h:IU a b=true)(h':IU b c=true):IU a c=true:=by simp [IU] at *;omega
theorem J5(a b:Int)(h:IU a b=false)(h':IU b a=false):a=b:=by simp [IU] at *;omega
theorem AB.lt_trans'(a b c:AB)(h:AB.lt a b=true)(h':AB.lt b c=true):AB.lt a c=true:=AB.lt_trans h h'
theorem AB.lt_tri'(a b:AB)(h:AB.lt a b=false)(h':AB.lt b a=false):a=b:=AB.lt_tri h h'
theorem IM{l m:List AB}(hr:A9 AB.lt m)(hm:∀a,a∈m↔a∈l):m=Cv l:=N2 AB.lt_irrefl AB.lt_trans' AB.lt_tri' hr hm
theorem KW{l m:List Int}(hr:A9 IU m)(hm:∀a,a∈m↔a∈l):m=BU l:=N2 Ps I6 J5 hr hm
theorem By(x:AB)(l:List AB):x∈Cv l↔x∈l:=Gr AB.lt_tri' x l
theorem IY(l:List AB):A9 AB.lt (Cv l):=EQ AB.lt_trans' AB.lt_tri' l
theorem DT(x:Int)(l:List Int):x∈BU l↔x∈l:=Gr J5 x l
theorem M9(l:List Int):A9 IU (BU l):=EQ I6 J5 l
theorem Ol{l m:List AB}(h:∀a,a∈l↔a∈m):Cv l=Cv m:=IM (IY l) (fun a=>by rw [By,h])
theorem Om{l m:List Int}(h:∀a,a∈l↔a∈m):BU l=BU m:=KW (M9 l) (fun a=>by rw [DT,h])
def AP(a:AB):List Value:=[.int .u8 a.kind,.int .i64 a.rho,.string a.exn]
theorem AC(a:AB):(AP a).length=3:=rfl
def AM(a:AB):Bool:=if a.kind=1∨a.kind=2 then decide (0≤a.rho)&&a.exn.toList.isEmpty else if a.kind=3 then decide (a.rho=0)&&Cg a.exn else false
theorem Nh(a:AB)(w:World):Calls prog 127 #[.agg #[.int .u8 a.kind,.int .i64 a.rho,.string a.exn]] w (RB w (.bool (AM a))):=by
 obtain⟨k,r,s⟩:=a;by_cases dc:k=1∨k=2
 ·have hr:Hd (AM ⟨k,r,s⟩=(decide (0≤r)&&s.toList.isEmpty)):=by show AM ⟨k,r,s⟩=_;simp [AM,dc]
  by_cases h0:0≤r
  ·cases he:s.toList.isEmpty
   ·have ln:(s.toList==[])=false:=by rw [beq_eq_false_iff_ne];intro e;rw [e] at he;cases he
    rcases dc with rfl|rfl
    all_goals
     go_enter func127,ntmps127
     go_wp2_with fail
     go_ret
     exact⟨AE (by rw [hr.out];simp [h0,he]),bA⟩
   ·have ln:s.toList=[]:=by simpa using he
    rcases dc with rfl|rfl
    all_goals
     go_enter func127,ntmps127
     go_wp2_with fail
     go_ret
     exact⟨AE (by rw [hr.out];simp [h0,he]),bA⟩
  ·rcases dc with rfl|rfl
   all_goals
    go_enter func127,ntmps127
    go_wp2_with fail
    go_ret
    exact⟨AE (by rw [hr.out];simp;omega),bA⟩
 ·have k1:(k==1)=false:=by rw [beq_eq_false_iff_ne];omega
  have k2:(k==2)=false:=by rw [beq_eq_false_iff_ne];omega
  by_cases h3:k=3
  ·subst h3;by_cases h0:r=0
   ·subst h0;have hr:Hd (AM ⟨3,0,s⟩=Cg s):=by show AM ⟨3,0,s⟩=_;simp [AM]
    have hc:=fun W aB=>Hf (some ⟨w.heap.size+1,0,none⟩) 1 1 [s] W rfl (by omega) aB;have he:Hd ([s].all Cg=Cg s):=by show [s].all Cg=Cg s;simp
    have HC:=AA hc;clear hc;go_enter func127,ntmps127;go_wp2_with fail;refine(HC.o _ (At.newAt IL _ [s] _ rfl _ (0,0) _ (by simp))).mono ?_;rintro e w1 ⟨rfl,hb⟩;have HB:Hd (Below w.heap.size w w1):=(((Below.refl _ w).alloc (Nat.le_refl _) _).alloc (by simp) _).trans (hb.mono (by simp;omega));clear hb;rw [he.out];go_wp2_with fail;go_ret;exact⟨AE hr.out.symm,HB.o⟩
   ·have hr:Hd (AM ⟨3,r,s⟩=false):=by show AM ⟨3,r,s⟩=_;simp [AM,h0]
    have r0:(r==0)=false:=by rw [beq_eq_false_iff_ne];exact h0
    go_enter func127,ntmps127;go_wp2_with fail;go_ret;exact⟨AE hr.out.symm,bA⟩
  ·have hr:Hd (AM ⟨k,r,s⟩=false):=by show AM ⟨k,r,s⟩=_;simp [AM,dc,h3]
   have k3:(k==3)=false:=by rw [beq_eq_false_iff_ne];exact h3
   go_enter func127,ntmps127;go_wp2_with fail;go_ret;exact⟨AE hr.out.symm,bA⟩
theorem Dh(a:AB)(w:World):Calls prog 23 #[.agg #[.int .u8 a.kind,.int .i64 a.rho,.string a.exn]] w (RB w (.bool (AM a))):=by
 obtain⟨k,r,s⟩:=a;by_cases h3:k=3
 ·subst h3;by_cases h0:r=0
  ·subst h0;have hr:Hd (AM ⟨3,0,s⟩=Cg s):=by show AM ⟨3,0,s⟩=_;simp [AM]
   go_enter func23,ntmps23;go_wp2_with fail;refine(OU s _).mono ?_;rintro e w1 ⟨rfl,hb⟩;have HB:Hd (Below w.heap.size w w1):=((Below.refl _ w).alloc (Nat.le_refl _) _).trans (hb.mono (by simp));clear hb;go_wp2_with fail;go_ret;exact⟨AE hr.out.symm,HB.o⟩
  ·have hr:Hd (AM ⟨3,r,s⟩=false):=by show AM ⟨3,r,s⟩=_;simp [AM,h0]
   have r0:(r==0)=false:=by rw [beq_eq_false_iff_ne];exact h0
   go_enter func23,ntmps23;go_wp2_with fail;go_ret;exact⟨AE hr.out.symm,bA⟩
 ·have k3:(k==3)=false:=by rw [beq_eq_false_iff_ne];exact h3
  by_cases dc:k=1∨k=2
  ·have hr:Hd (AM ⟨k,r,s⟩=(decide (0≤r)&&s.toList.isEmpty)):=by show AM ⟨k,r,s⟩=_;simp [AM,dc]
   by_cases h0:0≤r
   ·cases he:s.toList.isEmpty
    ·have ln:(s.toList==[])=false:=by rw [beq_eq_false_iff_ne];intro e;rw [e] at he;cases he
     rcases dc with rfl|rfl
     all_goals
      go_enter func23,ntmps23
      go_wp2_with fail
      go_ret
      exact⟨AE (by rw [hr.out];simp [h0,he]),bA⟩
    ·have ln:s.toList=[]:=by simpa using he
     rcases dc with rfl|rfl
     all_goals
      go_enter func23,ntmps23
      go_wp2_with fail
      go_ret
      exact⟨AE (by rw [hr.out];simp [h0,he]),bA⟩
   ·rcases dc with rfl|rfl
    all_goals
     go_enter func23,ntmps23
     go_wp2_with fail
     go_ret
     exact⟨AE (by rw [hr.out];simp;omega),bA⟩
  ·have k1:(k==1)=false:=by rw [beq_eq_false_iff_ne];omega
   have k2:(k==2)=false:=by rw [beq_eq_false_iff_ne];omega
   have hr:Hd (AM ⟨k,r,s⟩=false):=by show AM ⟨k,r,s⟩=_;simp [AM,dc,h3]
   go_enter func23,ntmps23;go_wp2_with fail;go_ret;exact⟨AE hr.out.symm,bA⟩
section
open Go.Sort
def Dn(a b:Int):Int:=if a<b then -1 else if b<a then 1 else 0
def Iu(s t:ByteArray):Int:=if Op.bytesLess s.toList t.toList then -1 else if Op.bytesLess t.toList s.toList then 1 else 0
def KN(a b:AB):Int:=if Dn a.kind b.kind≠0 then Dn a.kind b.kind else if Dn a.rho b.rho≠0 then Dn a.rho b.rho else Iu a.exn b.exn
theorem Sf(a b:Int)(w:World):Calls prog 176 #[.int .u8 a,.int .u8 b] w fun e w'=>e=.returned (.int .i64 (Dn a b))∧w'=w:=by
 rcases (by omega:a<b∨b<a∨a=b) with h|h|rfl
 ·have hr:Hd (Dn a b=-1):=by show Dn a b=-1;simp [Dn,h]
  go_enter func176,ntmps176;go_wp2;go_ret;exact⟨BX hr.out.symm,rfl⟩
 ·have h':¬a<b:=by omega
  have hr:Hd (Dn a b=1):=by show Dn a b=1;simp [Dn,h,h']
  clear h';have ov:b≤a:=by omega
  go_enter func176,ntmps176;go_wp2;go_ret;exact⟨BX hr.out.symm,rfl⟩
 ·have hr:Hd (Dn a a=0):=by show Dn a a=0;simp [Dn]
  go_enter func176,ntmps176;go_wp2;go_ret;exact⟨BX hr.out.symm,rfl⟩
theorem RC(a b:Int)(w:World):Calls prog 177 #[.int .i64 a,.int .i64 b] w fun e w'=>e=.returned (.int .i64 (Dn a b))∧w'=w:=by
 rcases (by omega:a<b∨b<a∨a=b) with h|h|rfl
 ·have hr:Hd (Dn a b=-1):=by show Dn a b=-1;simp [Dn,h]
  go_enter func177,ntmps177;go_wp2;go_ret;exact⟨BX hr.out.symm,rfl⟩
 ·have h':¬a<b:=by omega
  have hr:Hd (Dn a b=1):=by show Dn a b=1;simp [Dn,h,h']
  clear h';have ov:b≤a:=by omega
  go_enter func177,ntmps177;go_wp2;go_ret;exact⟨BX hr.out.symm,rfl⟩
 ·have hr:Hd (Dn a a=0):=by show Dn a a=0;simp [Dn]
  go_enter func177,ntmps177;go_wp2;go_ret;exact⟨BX hr.out.symm,rfl⟩
theorem Vd{x y:List UInt8}(h:Op.bytesLess x y=true):(x==y)=false:=by rw [beq_eq_false_iff_ne];intro e;subst e;rw [Gi] at h;cases h
theorem PR(s t:ByteArray)(w:World):Calls prog 178 #[.string s,.string t] w fun e w'=>e=.returned (.int .i64 (Iu s t))∧w'=w:=by
 cases h:Op.bytesLess s.toList t.toList
 ·cases h':Op.bytesLess t.toList s.toList
  ·have he:s=t:=Fk (PK _ _ h h');subst he;have hr:Hd (Iu s s=0):=by show Iu s s=0;simp [Iu,Gi]
   clear h';go_enter func178,ntmps178;go_wp2;go_ret;exact⟨BX hr.out.symm,rfl⟩
  ·have aR:=Vd h';have dS:(s.toList==t.toList)=false:=by rw [BEq.comm];exact aR
   have hr:Hd (Iu s t=1):=by show Iu s t=1;simp [Iu,h,h']
   go_enter func178,ntmps178;go_wp2;go_ret;exact⟨BX hr.out.symm,rfl⟩
 ·have hr:Hd (Iu s t=-1):=by show Iu s t=-1;simp [Iu,h]
  go_enter func178,ntmps178;go_wp2;go_ret;exact⟨BX hr.out.symm,rfl⟩
def UD(a b c:Int):Int:=if a≠0 then a else if b≠0 then b else c
theorem Ua(a b c:Int)(B:Nat)(w:World)(h0:w.cell? ⟨B,0,none⟩=some (.int .i64 a))(h1:w.cell? ⟨B,1,none⟩=some (.int .i64 b))(h2:w.cell? ⟨B,2,none⟩=some (.int .i64 c)):Calls prog 175 #[.slice (some ⟨B,0,none⟩) 3 3] w fun e w'=>e=.returned (.int .i64 (UD a b c))∧w'=w:=by
 by_cases ha:a=0
 ·subst ha;by_cases hb:b=0
  ·subst hb;have hr:Hd (UD 0 0 c=c):=by show UD 0 0 c=c;simp [UD]
   go_enter func175,ntmps175;go_wp2_with fail;go_loop [5,8] (fun _ i=>∃k:Nat,k≤3∧i=.int .i64 k∧(3≤k→c=0)) (fun _ i=>3-(intOf i).toNat)
   case atStart=>exact⟨0,by omega,rfl,by omega⟩
   case round=>
    obtain⟨k,hk,rfl,hc⟩:=hrel;rcases (by omega:k=0∨k=1∨k=2∨k=3) with rfl|rfl|rfl|rfl
    ·clear hc;go_wp2_with fail;go_round
     case rel=>exact⟨1,by omega,rfl,by omega⟩
     case measure=>simp [intOf]
    ·clear hc;go_wp2_with fail;go_round
     case rel=>exact⟨2,by omega,rfl,by omega⟩
     case measure=>simp [intOf]
    ·clear hc;by_cases hc:c=0
     ·subst hc;go_wp2_with fail;go_round
      case rel=>exact⟨3,by omega,rfl,by simp⟩
      case measure=>simp [intOf]
     ·have pz:(c != 0)=true:=by simpa using hc
      have HC:=AA hc;clear hc;go_wp2_with fail;go_ret;exact⟨BX hr.out.symm,rfl⟩
    ·have bE:c=0:=hc (by omega);subst bE;go_wp2_with fail;go_ret;exact⟨BX hr.out.symm,rfl⟩
  ·have hr:Hd (UD 0 b c=b):=by show UD 0 b c=b;simp [UD,hb]
   have px:(b != 0)=true:=by simpa using hb
   have HB:=AA hb;clear hb;go_enter func175,ntmps175;go_wp2_with fail;go_loop [5,8] (fun _ i=>∃k:Nat,k≤1∧i=.int .i64 k) (fun _ i=>3-(intOf i).toNat)
   case atStart=>exact⟨0,by omega,rfl⟩
   case round=>
    obtain⟨k,hk,rfl⟩:=hrel;rcases (by omega:k=0∨k=1) with rfl|rfl
    ·go_wp2_with fail;go_round
     case rel=>exact⟨1,by omega,rfl⟩
     case measure=>simp [intOf]
    ·go_wp2_with fail;go_ret;exact⟨BX hr.out.symm,rfl⟩
 ·have hr:Hd (UD a b c=a):=by show UD a b c=a;simp [UD,ha]
  have pv:(a != 0)=true:=by simpa using ha
  have HA:=AA ha;clear ha;go_enter func175,ntmps175;go_wp2_with fail;go_loop [5,8] (fun _ i=>i=.int .i64 0) (fun _ i=>0)
  case atStart=>rfl
  case round=>subst hrel;go_wp2_with fail;go_ret;exact⟨BX hr.out.symm,rfl⟩
theorem Ip(W:World)(cs:Array Value)(t:TypeId)(k:Nat)(fr:Nat×Nat)(B:Nat)(h:W.heap.size=B):(W.alloc (.cells cs t fr)).cell? ⟨B,k,none⟩=cs[k]?:=by subst h;exact AU W cs t k fr
theorem JO(a b:AB)(W:World):Calls prog 128 #[.agg #[.int .u8 a.kind,.int .i64 a.rho,.string a.exn],.agg #[.int .u8 b.kind,.int .i64 b.rho,.string b.exn]] W fun e w'=>e=.returned (.int .i64 (KN a b))∧∃q os',w'=grow (W.drewN q) os':=by
 go_enter func128,ntmps128;go_wp2_with fail;refine wp_region_still_tail 15 (by kernel_rfl) (by kernel_rfl) ?_;change wpStill _ _ (World.drew _) _ _ _;simp only [List.take_succ_cons,List.take_zero,List.drop_succ_cons,List.drop_zero];repeat still_step
 still_call (Sf _ _ _);repeat still_step
 still_call (RC _ _ _);repeat still_step
 still_call (PR _ _ _);repeat still_step
 refine wpStill_nil ?_;change wpList _ _ _ _ _ (World.drew _);go_wp2_with fail;refine(Ua (Dn a.kind b.kind) (Dn a.rho b.rho) (Iu a.exn b.exn) (W.heap.size+2) _ ?_ ?_ ?_).mono ?_
 ·change (World.alloc _ _).cell? _=_;rw [Ip _ _ _ _ (0,0) _ (by simp)];rfl
 ·change (World.alloc _ _).cell? _=_;rw [Ip _ _ _ _ (0,0) _ (by simp)];rfl
 ·change (World.alloc _ _).cell? _=_;rw [Ip _ _ _ _ (0,0) _ (by simp)];rfl
 ·rintro e w' ⟨rfl,rfl⟩;go_wp2_with fail;go_ret;exact⟨rfl,1,_,by rw [alloc_eq_grow,alloc_eq_grow,alloc_eq_grow,grow_grow,grow_grow];rfl⟩
end
abbrev Cm:=At AP 3
theorem Cm.atom{w:World}{p:Option Addr}{l:List AB}(h:Cm w p l){j:Nat}{x:AB}(hx:l[j]?=some x):∃b o,p=some ⟨b,o,none⟩∧b<w.heap.size∧w.cell? ⟨b,o+j * 3,none⟩=some (.int .u8 x.kind)∧w.cell? ⟨b,o+j * 3+1,none⟩=some (.int .i64 x.rho)∧w.cell? ⟨b,o+j * 3+2,none⟩=some (.string x.exn):=by obtain⟨b,o,rfl,hb,hc⟩:=h.elem hx;exact⟨b,o,rfl,hb,by simpa using hc 0 _ rfl,hc 1 _ rfl,hc 2 _ rfl⟩
def Mg(x y:AB):Bool:=decide (x=y)
theorem Lw(x y:AB):Mg x y=(x.kind==y.kind&&x.rho==y.rho&&(x.exn.toList==y.exn.toList)):=by
 unfold Mg;obtain⟨xk,xr,xe⟩:=x;obtain⟨yk,yr,ye⟩:=y;rw [Bool.eq_iff_iff];simp only [decide_eq_true_eq,AB.mk.injEq,Bool.and_eq_true,beq_iff_eq];constructor
 ·rintro⟨h1,h2,h3⟩;subst h3;exact⟨⟨h1,h2⟩,rfl⟩
 ·rintro⟨⟨h1,h2⟩,h3⟩;exact⟨h1,h2,Fk h3⟩
theorem NA(x y:AB)(w:World):(binOp .eql 59 (.agg #[.int .u8 x.kind,.int .i64 x.rho,.string x.exn]) (.agg #[.int .u8 y.kind,.int .i64 y.rho,.string y.exn])).run prog w=.ok (.bool (Mg x y)) w:=by
 have u3:=underlying3;have u5:=underlying5;have u9:=underlying9;have hS:prog.underlying 59=some (.struct (prog.fieldsOf 59)):=by kernel_rfl
 have hp:prog.stoodInHeld 59=false:=by kernel_rfl
 rw [run_eql_struct,show (10000:Nat)=9999+1 from rfl,run_equalIn_agg w 9999 59 _ _ hS hp,Lw];simp only [Program.fieldsOf,underlying59];go_simp;by_cases h1:x.kind=y.kind<;>by_cases h2:x.rho=y.rho<;>by_cases h3:x.exn.toList=y.exn.toList<;>simp [h1,h2,h3]
theorem Ug(x y:AB)(w:World):(binOp .neq 59 (.agg #[.int .u8 x.kind,.int .i64 x.rho,.string x.exn]) (.agg #[.int .u8 y.kind,.int .i64 y.rho,.string y.exn])).run prog w=.ok (.bool (!Mg x y)) w:=by
 have u3:=underlying3;have u5:=underlying5;have u9:=underlying9;have hS:prog.underlying 59=some (.struct (prog.fieldsOf 59)):=by kernel_rfl
 have hp:prog.stoodInHeld 59=false:=by kernel_rfl
 rw [run_neq_struct,show (10000:Nat)=9999+1 from rfl,run_equalIn_agg w 9999 59 _ _ hS hp,Lw];simp only [Program.fieldsOf,underlying59];go_simp;by_cases h1:x.kind=y.kind<;>by_cases h2:x.rho=y.rho<;>by_cases h3:x.exn.toList=y.exn.toList<;>simp [h1,h2,h3]
theorem M1(a b:AB)(w:World):Calls prog 42 #[.agg #[.int .u8 a.kind,.int .i64 a.rho,.string a.exn],.agg #[.int .u8 b.kind,.int .i64 b.rho,.string b.exn]] w (RB w (.bool (AB.lt a b))):=by
 by_cases hk:a.kind=b.kind
 ·have nL:(a.kind != b.kind)=false:=by rw [hk];simp
  by_cases hr:a.rho=b.rho
  ·have pZ:(a.rho != b.rho)=false:=by rw [hr];simp
   have hh:Hd (AB.lt a b=Op.bytesLess a.exn.toList b.exn.toList):=by show AB.lt a b=_;simp [AB.lt,hk,hr]
   clear hk hr;go_enter func42,ntmps42;go_wp2_with fail;go_ret;exact⟨AE hh.out.symm,bA.alloc (by simp) _⟩
  ·have pZ:(a.rho != b.rho)=true:=by simpa using hr
   have hh:Hd (AB.lt a b=decide (a.rho<b.rho)):=by show AB.lt a b=_;simp [AB.lt,hk,hr]
   clear hk hr;go_enter func42,ntmps42;go_wp2_with fail;go_ret;exact⟨AE hh.out.symm,bA.alloc (by simp) _⟩
 ·have nL:(a.kind != b.kind)=true:=by simpa using hk
  have hh:Hd (AB.lt a b=decide (a.kind<b.kind)):=by show AB.lt a b=_;simp [AB.lt,hk]
  clear hk;go_enter func42,ntmps42;go_wp2_with fail;go_ret;exact⟨AE hh.out.symm,bA.alloc (by simp) _⟩
def J3(l:List AB)(a:AB):Bool:=l.any (fun x=>Mg x a)
theorem Hz(p:Option Addr)(n cap:Nat)(l:List AB)(a:AB)(w:World)(hn:l.length=n)(hm:n≤9223372036854775807)(hr:Cm w p l):Calls prog 51 #[.slice p n cap,.agg #[.int .u8 a.kind,.int .i64 a.rho,.string a.exn]] w (RB w (.bool (J3 l a))):=by
 have HR:=AA (hr.alloc (.cells #[.int .u8 a.kind,.int .i64 a.rho,.string a.exn] 59));have HN:=AA hn;clear hr hn;go_enter func51,ntmps51;go_wp2_with fail;go_loopw [5,8] (fun _ i wr=>∃k:Nat,k≤n∧i=.int .i64 k∧(l.take k).any (fun x=>Mg x a)=false∧∃q,wr=(w.alloc (.cells #[.int .u8 a.kind,.int .i64 a.rho,.string a.exn] 59)).drewN q) (fun _ i _=>n-(intOf i).toNat)
 case atStart=>exact⟨0,by omega,rfl,by simp,0,rfl⟩
 case round=>
  obtain⟨k,hk,rfl,aw,q,rfl⟩:=hrel;have a8:=AA aw;clear aw;by_cases aG:k<n
  ·obtain⟨x,hx⟩:=Ac (l:=l) (j:=k) (by rw [HN.o];exact aG);obtain⟨b,o,rfl,hb,c0,c1,c2⟩:=Cm.atom HR.o hx;have HE:=AA hx;clear hx hb;have he:=fun W=>NA x a W;cases hq:Mg x a
   ·go_wp2_with fail;go_quiet (fail);go_wp2_with fail;go_roundw
    case rel=>exact⟨k+1,by omega,by go_num,by rw [BF HE.o,a8.o,hq];rfl,_,rfl⟩
    case measure=>simp [intOf];omega
   ·go_wp2_with fail;go_quiet (fail);go_wp2_with fail;go_ret;exact⟨AE (FU HE.o hq).symm,below_drewN (below_drewN bA _) _⟩
  ·go_wp2_with fail;go_ret;have h:=a8.o;rw [AY (by rw [HN.o];omega)] at h;exact⟨AE h.symm,below_drewN bA _⟩
def CF(l:List AB):Bool:=decide (100<l.length)||l.any (fun a=>decide (100<a.exn.size))
def BS(l:List AB):Bool:=decide (200<l.length)||l.any (fun a=>decide (100<a.exn.size))
theorem Iz{l:List AB}(h:CF l=false):BS l=false:=by unfold CF at h;unfold BS;simp only [Bool.or_eq_false_iff,decide_eq_false_iff_not] at h ⊢;exact⟨by omega,h.2⟩
theorem G5(p:Option Addr)(n cap:Nat)(l:List AB)(w:World)(hn:l.length=n)(hm:n≤9223372036854775807)(hr:Cm w p l):Calls prog 86 #[.slice p n cap] w fun e w'=>e=.returned (.bool (CF l))∧w=w':=by
 by_cases iA:100<n
 ·have hg:Hd (CF l=true):=by show CF l=true;simp [CF,hn,iA]
  clear hr hn;go_enter func86,ntmps86;go_wp2_with fail;go_ret;exact⟨AE hg.out.symm,rfl⟩
 ·have hg:Hd (CF l=l.any (fun a=>decide (100<a.exn.size))):=by show CF l=_;simp [CF,hn,iA]
  have mi:n≤100:=by omega
  have HR:=AA hr;have HN:=AA hn;clear hr hn iA;go_enter func86,ntmps86;go_wp2_with fail;go_loop [3,9] (fun _ i=>∃k:Nat,k≤n∧i=.int .i64 k∧(l.take k).any (fun a=>decide (100<a.exn.size))=false) (fun _ i=>n-(intOf i).toNat)
  case atStart=>exact⟨0,by omega,rfl,by simp⟩
  case round=>
   obtain⟨k,hk,rfl,aw⟩:=hrel;have a8:=AA aw;clear aw;by_cases aG:k<n
   ·obtain⟨x,hx⟩:=Ac (l:=l) (j:=k) (by rw [HN.o];exact aG);obtain⟨b,o,rfl,hb,c0,c1,c2⟩:=Cm.atom HR.o hx;have HE:=AA hx;clear hx hb c0 c1;by_cases hq:100<x.exn.size
    ·go_wp2_with fail;go_ret;exact⟨AE (by rw [hg.out,FU HE.o (by simpa using hq)]),rfl⟩
    ·have j2:x.exn.size≤100:=by omega
     clear hq;go_wp2_with fail;go_round
     case rel=>exact⟨k+1,by omega,by go_num,by rw [BF HE.o,a8.o,Bool.false_or];simpa using j2⟩
     case measure=>simp [intOf];omega
   ·go_wp2_with fail;go_ret;have h:=a8.o;rw [AY (by rw [HN.o];omega)] at h;exact⟨AE (by rw [hg.out,h]),rfl⟩
theorem JV{w w':World}{o:Obj}{row:Option Nat}(h:(w.alloc o).grownBy w' row):w.grownBy w' row:=⟨h.os,h.tape,h.output,Nat.le_trans (by simp) h.size,fun k hk aR=>(h.block k (by simp;omega) aR).trans (Below.heap_alloc w o k hk)⟩
def AI{α:Type}(enc:α→List Value)(k:Nat)(w:World)(base:Nat)(e:TypeId)(v:Value)(n:Nat)(l:List α):Prop:=w.ownsRow base e k v n (l.flatMap enc)
theorem Ae{P:Program}{α:Type}{ops:Array Oper}{rest:List Oper}{o:Oper}{a:Act}{Q:Exit→Act→World→Prop}(bG:o.guard=none)(s x:Operand)(t:TypeId)(ho:o.op=.call { callee:=.builtin .append,args:=#[s,x],argTypes:=#[t,t] })(base:Nat)(e:TypeId)(z:Value)(k bytes:Nat)(ht:P.underlying t=some (.slice e))(bu:(P.info? e).map (fun i=>(i.zero,i.size,i.bytes))=some (some z,k,bytes))(et:z.cells.size=k)(aL:0<k)(enc:α→List Value)(hk:∀x,(enc x).length=k)(h1:∀y,∀u∈enc y,u.oneCell'=true)(y:α)(l:List α)(n:Nat){w:World}(v:Value)(aD:AI enc k w base e v n l)(hs:a.eval s=v)(hx:a.eval x=.slice (some ⟨w.heap.size,0,none⟩) 1 1)(ac:(n+1) * bytes≤140737488355328)(ic:n+1≤9223372036854775807)(dI:base≤w.heap.size)(h:∀v' w',AI enc k w' base e v' (n+1) (l++[y])→w.grownBy w' v.ownBlock→wpList P ops Q rest (a.put o.dst v') w'):wpList P ops Q (o::rest) a (w.alloc (.cells (enc y).toArray e)):=by
 obtain⟨i,hi,hz,bW,eL⟩:=info_parts bu;refine wpList_append_own _ bG s x t ho base e i z k bytes ht hi hz bW eL et aL v n _ hs (World.ownsRow.alloc aD _) ⟨w.heap.size,0,none⟩ 1 1 (enc y) hx (by rw [hk];omega) ?_ (h1 y) (by unfold maxLen;omega) ac (by simp;omega) ?_
 ·intro j u hj;rw [D3,AU w _ _ _ (0,0),Nat.zero_add];simpa using hj
 ·intro v' w' aH hg _;refine h v' w' ?_ (JV hg);unfold AI;rw [List.flatMap_append,List.flatMap_singleton];exact aH
section
variable {α:Type} {enc:α→List Value} {k:Nat} {w w':World} {base base' e n:Nat} {v:Value} {l:List α}
theorem AI.lit(enc:α→List Value)(w:World)(base:Nat)(e:TypeId)(k:Nat)(hb:base≤w.heap.size):AI enc k (w.alloc (.cells #[] e)) base e (.slice (some ⟨w.heap.size,0,none⟩) 0 0) 0 []:=World.ownsRow_made w #[] 0 hb (by simp [maxLen]) (by simp)
theorem AI.nil(enc:α→List Value)(w:World)(base:Nat)(e:TypeId)(k:Nat):AI enc k w base e (.slice none 0 0) 0 []:=World.ownsRow_nil w base e k
theorem AI.below(h:AI enc k w base e v n l)(hb:Below w.heap.size w w'):AI enc k w' base e v n l:=by
 refine⟨h.1,?_⟩;rcases h.2 with hn|⟨g,cap,cur,rfl,bB,hg,rest⟩
 ·exact .inl hn
 ·refine .inr ⟨g,cap,cur,rfl,bB,?_,rest⟩;rw [hb.block g (Array.getElem?_eq_some_iff.1 hg).1];exact hg
theorem AI.lower(h:AI enc k w base e v n l)(hb:base'≤base):AI enc k w base' e v n l:=by
 refine⟨h.1,?_⟩;rcases h.2 with hn|⟨g,cap,cur,rfl,bB,hg,rest⟩
 ·exact .inl hn
 ·exact .inr ⟨g,cap,cur,rfl,Nat.le_trans hb bB,hg,rest⟩
theorem AI.drew(h:AI enc k w base e v n l):AI enc k w.drew base e v n l:=h
theorem AI.drewN(h:AI enc k w base e v n l)(m:Nat):AI enc k (w.drewN m) base e v n l:=h
theorem AI.row(hk:∀x,(enc x).length=k)(h:AI enc k w base e v n l)(bC:0<k):∃p cap,v=.slice p n cap∧l.length=n∧n≤cap∧At enc k w p l∧cap≤maxLen∧(p=none→n=0∧cap=0)∧(∀a,p=some a→base≤a.block∧a.off=0∧a.spot=none∧a.block<w.heap.size):=Uc hk h bC
theorem AI.len(hk:∀x,(enc x).length=k)(h:AI enc k w base e v n l)(bC:0<k):l.length=n:=by obtain⟨_,_,_,h,_⟩:=h.row hk bC;exact h
theorem Below.own{B:Nat}{w0:World}(h:Below B w0 w)(hg:w.grownBy w' v.ownBlock)(hB:B≤w.heap.size)(ho:AI enc k w B e v n l):Below B w0 w':=h.grown hg hB (fun k hk=>(World.ownsRow.lt ho k hk).1)
end
end Go.Proofs.YtkdjnegfnhldpaaGreatDoor
