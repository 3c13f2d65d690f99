/- Part 14. -/
import Derived.Lib.ConvBytes
import Derived.Test.YtkdjnegfnhldpaaGreatDoorK13
set_option linter.unusedVariables false
set_option maxRecDepth 100000
set_option linter.unusedSimpArgs false
set_option maxHeartbeats 40000000
namespace Go.Proofs.YtkdjnegfnhldpaaGreatDoor
open Go.Proofs.Tryz Go.RowKit
def QL(x:Int):List Value:=[.int .u8 x]
theorem Ca(x:Int):(QL x).length=1:=rfl
theorem Au.u8{w:World}{p:Option Addr}{l:List Int}(h:Au QL 1 w p l){j:Nat}{x:Int}(hx:l[j]?=some x):∃b o,p=some ⟨b,o,none⟩∧w.cell? ⟨b,o+j,none⟩=some (.int .u8 x):=by obtain⟨b,o,hp,_,hc⟩:=h.elem hx;exact⟨b,o,hp,by simpa using hc 0 _ rfl⟩
def ED(l:List Int)(k:Int):Bool:=l.any (·==k)
theorem BA{p:Option Addr}{n cap:Nat}{l:List Int}{w:World}(hn:l.length=n)(hm:n≤1000000)(hr:Au QL 1 w p l)(k:Int):Calls prog 112 #[.slice p n cap,.int .u8 k] w fun e w'=>e=.returned (.bool (ED l k))∧w=w':=by
 have HR:=AA hr;have HN:=AA hn;clear hr hn;go_enter func112,ntmps112;go_wp2_with fail;go_loop [5,8] (fun _ i=>∃j:Nat,j≤n∧i=.int .i64 j∧(l.take j).any (·==k)=false) (fun _ i=>n-(intOf i).toNat)
 case atStart=>exact⟨0,by omega,rfl,by simp⟩
 case round=>
  obtain⟨j,hj,rfl,ac⟩:=hrel;have an:=AA ac;clear ac;by_cases aF:j<n
  ·obtain⟨y,hy⟩:=AM (l:=l) (j:=j) (by rw [HN.o];exact aF);have HE:=AA hy;obtain⟨b,o,rfl,d0⟩:=HR.o.u8 hy;clear hy;cases hq:(y==k)
   ·have HQ:=AA hq;go_wp2_with fail;go_round
    case rel=>exact⟨j+1,by omega,by go_num,by rw [Av HE.o,an.o,HQ.o];rfl⟩
    case measure=>simp [intOf];omega
   ·have HQ:=AA hq;go_wp2_with fail;go_ret;exact⟨AB (Ex HE.o HQ.o).symm,rfl⟩
  ·go_wp2_with fail;go_ret;have h:=an.o;rw [AP (by rw [HN.o];omega)] at h;exact⟨AB h.symm,rfl⟩
def DI(a:RH):Bool:=(a.kind==0)&&(a.rho==0)&&((a.en:Int)==0)&&((a.kn:Int)==0)
theorem FQ(a:RH)(h1:a.en≤9223372036854775807)(h2:a.kn≤9223372036854775807)(w:World):Calls prog 113 #[Ci a] w (RB w (.bool (DI a))):=by
 have aE:=AA ((Below.refl w.heap.size w).alloc (Nat.le_refl _) (.cells #[.int .u8 a.kind,.int .i64 a.rho,.slice a.ep a.en a.ec,.slice a.kp a.kn a.kc] 28));have HV:Hd (DI a=((a.kind==0)&&(a.rho==0)&&((a.en:Int)==0)&&((a.kn:Int)==0))):=rfl;cases e1:(a.kind==0)
 ·go_enter func113,ntmps113;go_wp2_with fail;go_ret;exact⟨AB (by rw [HV.o,e1];rfl),aE.o⟩
 ·cases e2:(a.rho==0)
  ·go_enter func113,ntmps113;go_wp2_with fail;go_ret;exact⟨AB (by rw [HV.o,e1,e2];rfl),aE.o⟩
  ·cases e3:((a.en:Int)==0)
   ·go_enter func113,ntmps113;go_wp2_with fail;go_ret;exact⟨AB (by rw [HV.o,e1,e2,e3];rfl),aE.o⟩
   ·go_enter func113,ntmps113;go_wp2_with fail;go_ret;exact⟨AB (by rw [HV.o,e1,e2,e3];rfl),aE.o⟩
structure Fq(W:World)(b:Nat)(a:AH):Prop where
 blk:W.heap[b]?=some (.cells #[.int .u8 a.kind,.int .u8 a.op,.int .i64 a.at_,.int .i64 a.n,.string a.name,.string a.arg,.string a.exn,.int .i64 a.rho,.slice a.rp a.rn a.rc,.slice a.ep a.en a.ec,.int .u8 a.ty.head.kind,.int .i64 a.ty.head.rho,.slice a.ty.head.ep a.ty.head.en a.ty.head.ec,.slice a.ty.head.kp a.ty.head.kn a.ty.head.kc,.int .u8 a.res.head.kind,.int .i64 a.res.head.rho,.slice a.res.head.ep a.res.head.en a.res.head.ec,.slice a.res.head.kp a.res.head.kn a.res.head.kc,.slice a.kp a.kn a.kc] 31 (0,0))
theorem Fq.c{W:World}{b:Nat}{a:AH}(h:Fq W b a)(i:Nat)(u:Value)(hu:(Bn a)[i]?=some u):W.cell? ⟨b,i,none⟩=some u:=by
 rw [Lib.cell_of_heap h.blk];have:(Bn a).toArray[i]?=some u:=by simpa using hu
 exact this
theorem Fq.below{w w':World}{b:Nat}{a:AH}(h:Fq w b a)(hb:Below w.heap.size w w'):Fq w' b a:=⟨by rw [hb.block b (Array.getElem?_eq_some_iff.1 h.blk).1];exact h.blk⟩
theorem Aa(w:World)(a:AH):Fq (w.alloc (AO a)) w.heap.size a:=⟨heap_alloc_new w _⟩
theorem Fq.all{W:World}{b:Nat}{a:AH}(h:Fq W b a):W.cell? ⟨b,0,none⟩=some (Value.int .u8 a.kind)∧W.cell? ⟨b,1,none⟩=some (Value.int .u8 a.op)∧W.cell? ⟨b,2,none⟩=some (Value.int .i64 a.at_)∧W.cell? ⟨b,3,none⟩=some (Value.int .i64 a.n)∧W.cell? ⟨b,4,none⟩=some (Value.string a.name)∧W.cell? ⟨b,5,none⟩=some (Value.string a.arg)∧W.cell? ⟨b,6,none⟩=some (Value.string a.exn)∧W.cell? ⟨b,7,none⟩=some (Value.int .i64 a.rho)∧W.cell? ⟨b,8,none⟩=some (Value.slice a.rp a.rn a.rc)∧W.cell? ⟨b,9,none⟩=some (Value.slice a.ep a.en a.ec)∧W.cell? ⟨b,10,none⟩=some (Value.int .u8 a.ty.head.kind)∧W.cell? ⟨b,11,none⟩=some (Value.int .i64 a.ty.head.rho)∧W.cell? ⟨b,12,none⟩=some (Value.slice a.ty.head.ep a.ty.head.en a.ty.head.ec)∧W.cell? ⟨b,13,none⟩=some (Value.slice a.ty.head.kp a.ty.head.kn a.ty.head.kc)∧W.cell? ⟨b,14,none⟩=some (Value.int .u8 a.res.head.kind)∧W.cell? ⟨b,15,none⟩=some (Value.int .i64 a.res.head.rho)∧W.cell? ⟨b,16,none⟩=some (Value.slice a.res.head.ep a.res.head.en a.res.head.ec)∧W.cell? ⟨b,17,none⟩=some (Value.slice a.res.head.kp a.res.head.kn a.res.head.kc)∧W.cell? ⟨b,18,none⟩=some (Value.slice a.kp a.kn a.kc):=⟨h.c 0 _ rfl,h.c 1 _ rfl,h.c 2 _ rfl,h.c 3 _ rfl,h.c 4 _ rfl,h.c 5 _ rfl,h.c 6 _ rfl,h.c 7 _ rfl,h.c 8 _ rfl,h.c 9 _ rfl,h.c 10 _ rfl,h.c 11 _ rfl,h.c 12 _ rfl,h.c 13 _ rfl,h.c 14 _ rfl,h.c 15 _ rfl,h.c 16 _ rfl,h.c 17 _ rfl,h.c 18 _ rfl⟩
def K2(k:Int)(l:List Int)(i:Nat)(x:Int):Bool:=!(decide (x<0)||(k==13)&&((x==0)||Du (l.take i) x))
def Ef(k:Int)(l:List Int)(n:Nat):Bool:=(List.range n).all (fun i=>match l[i]? with|some x=>K2 k l i x|none=>true)
theorem PF{w:World}{t:PT}(h:LR.lies w t):BK w t.head t.kids:=by rw [AG.eta t] at h;exact BD h
theorem SC(k:Int)(l:List Int)(j:Nat)(x:Int)(hx:l[j]?=some x):Ef k l (j+1)=(Ef k l j&&K2 k l j x):=by unfold Ef;rw [List.range_succ,List.all_append];simp [hx]
theorem SB(k:Int)(l:List Int)(i n:Nat)(h:i≤n)(hf:Ef k l i=false):Ef k l n=false:=by unfold Ef at hf ⊢;rw [List.all_eq_false] at hf ⊢;obtain⟨x,hx,hq⟩:=hf;exact⟨x,by rw [List.mem_range] at hx ⊢;omega,hq⟩
theorem NC(k:Int)(l:List Int){j n:Nat}(h:j<n)(hf:Ef k l (j+1)=false):Ef k l n=false:=SB k l (j+1) n h hf
theorem DL{p:Option Addr}{n cap:Nat}{l:List Int}{x:Int}{w:World}{r:Bool}(hq:Du l x=r)(h:AE Ab 1 w p n cap l):Calls prog 21 #[.slice p n cap,.int .i64 x] w (RB w (.bool r)):=(Cs hq h).mono (fun _ _ ⟨h1,h2⟩=>⟨h1,h2▸Below.refl _ _⟩)
def C7(a:AH):Bool:=!(!(Cl a.hd a.kn)||decide (a.rho<0)||((a.kind==17)&&(a.rho==0))||(!(ED [3,6,11,13,17,18] a.kind)&&(a.rho != 0)))&&!((a.kind != 13)&&(a.kind != 18)&&decide (0<a.rn))&&Ef a.kind a.rhos a.rn&&!(!(ED [11,13,18] a.kind)&&decide (0<a.en)||!(DD a.eff))&&!(ED [11,13,15] a.kind&&!(BF a.ty.er)||!(ED [11,13,15] a.kind)&&!(DI a.ty.head))&&((a.kind==13)&&BF a.res.er||(a.kind != 13)&&DI a.res.head)
theorem M3(a:AH)(w:World)(ho:AH.Own w a)(hk:a.kn≤9223372036854775807):Calls prog 82 #[Aj a] w (RB w (.bool (C7 a))):=by
 have aE:=AA ((Below.refl w.heap.size w).alloc (Nat.le_refl _) (AO a));have HA:=AA (Aa w a);have HO:=AA ho;have HV:Hd (C7 a=(!(!(Cl a.hd a.kn)||decide (a.rho<0)||((a.kind==17)&&(a.rho==0))||(!(ED [3,6,11,13,17,18] a.kind)&&(a.rho != 0)))&&!((a.kind != 13)&&(a.kind != 18)&&decide (0<a.rn))&&Ef a.kind a.rhos a.rn&&!(!(ED [11,13,18] a.kind)&&decide (0<a.en)||!(DD a.eff))&&!(ED [11,13,15] a.kind&&!(BF a.ty.er)||!(ED [11,13,15] a.kind)&&!(DI a.ty.head))&&((a.kind==13)&&BF a.res.er||(a.kind != 13)&&DI a.res.head))):=rfl;have tE:=ho.rhos.max;have mS:=ho.eff.max;clear ho;go_enter func82,ntmps82;go_upto_region 2 with fail;go_cut [35] from 8 to 35 (fun s35 wx=>s35=.bool (!(Cl a.hd a.kn)||decide (a.rho<0)||((a.kind==17)&&(a.rho==0))||(!(ED [3,6,11,13,17,18] a.kind)&&(a.rho != 0)))∧Below (w.alloc (.cells #[.int .u8 a.kind,.int .u8 a.op,.int .i64 a.at_,.int .i64 a.n,.string a.name,.string a.arg,.string a.exn,.int .i64 a.rho,.slice a.rp a.rn a.rc,.slice a.ep a.en a.ec,.int .u8 a.ty.head.kind,.int .i64 a.ty.head.rho,.slice a.ty.head.ep a.ty.head.en a.ty.head.ec,.slice a.ty.head.kp a.ty.head.kn a.ty.head.kc,.int .u8 a.res.head.kind,.int .i64 a.res.head.rho,.slice a.res.head.ep a.res.head.en a.res.head.ec,.slice a.res.head.kp a.res.head.kn a.res.head.kc,.slice a.kp a.kn a.kc] 31)).heap.size (w.alloc (.cells #[.int .u8 a.kind,.int .u8 a.op,.int .i64 a.at_,.int .i64 a.n,.string a.name,.string a.arg,.string a.exn,.int .i64 a.rho,.slice a.rp a.rn a.rc,.slice a.ep a.en a.ec,.int .u8 a.ty.head.kind,.int .i64 a.ty.head.rho,.slice a.ty.head.ep a.ty.head.en a.ty.head.ec,.slice a.ty.head.kp a.ty.head.kn a.ty.head.kc,.int .u8 a.res.head.kind,.int .i64 a.res.head.rho,.slice a.res.head.ep a.res.head.en a.res.head.ec,.slice a.res.head.kp a.res.head.kn a.res.head.kc,.slice a.kp a.kn a.kc] 31)) wx)
 case first=>
  have HU:Hd ((!(Cl a.hd a.kn)||decide (a.rho<0)||((a.kind==17)&&(a.rho==0))||(!(ED [3,6,11,13,17,18] a.kind)&&(a.rho != 0)))=(!(Cl a.hd a.kn)||decide (a.rho<0)||((a.kind==17)&&(a.rho==0))||(!(ED [3,6,11,13,17,18] a.kind)&&(a.rho != 0)))):=rfl;cases e1:Cl a.hd a.kn
  ·have E1:=AA e1;clear e1;go_wp2_with (refine lw (HA.o.blk) underlying31 ?_);refine(IZ a hk _).mono ?_;rintro e w1 ⟨rfl,hb⟩;rw [E1.out];have HB:=AA hb;clear hb;go_wp2_with fail;go_meet
   case rel=>exact⟨by rw [E1.out];rfl,HB.o⟩
  ·have E1:=AA e1;clear e1;go_wp2_with (refine lw (HA.o.blk) underlying31 ?_);refine(IZ a hk _).mono ?_;rintro e w1 ⟨rfl,hb⟩;rw [E1.out];have kB:=AA (HA.o.below hb);have HB:=AA hb;clear hb;obtain⟨_,_,_,_,_,_,_,q7,_⟩:=kB.o.all;have sx:w.heap.size<w1.heap.size:=An q7;by_cases h2:a.rho<0
   ·have e2:decide (a.rho<0)=true:=by simpa using h2
    clear h2;go_wp2_with fail;go_meet
    case rel=>exact⟨by rw [E1.out,e2];rfl,HB.o⟩
   ·have e2:decide (a.rho<0)=false:=by simpa using h2
    clear h2;have E2:=AA e2;cases e3:(a.kind==17)
    ·have E3:=AA e3;cases e4:(a.rho==0)
     ·have E4:=AA e4;have e4':(a.rho != 0)=!false:=by show (!(a.rho==0))=_;rw [e4]
      have E4':=AA e4';cases e5:ED [3,6,11,13,17,18] a.kind
      ·have E5:=AA e5;clear e5;go_wp2_with fail;refine(BA (l:=[3,6,11,13,17,18]) rfl (by decide) (Au.newAt Ca _ _ _ rfl _ _ _ (by simp)) a.kind).mono ?_;rintro e w2 ⟨rfl,rfl⟩;rw [E5.out];go_wp2_with fail;go_meet
       case rel=>exact⟨by rw [E1.out,E2.out,E3.out,E4.out,E4'.out,E5.out];rfl,HB.o.alloc HB.o.size _⟩
      ·have E5:=AA e5;clear e5;go_wp2_with fail;refine(BA (l:=[3,6,11,13,17,18]) rfl (by decide) (Au.newAt Ca _ _ _ rfl _ _ _ (by simp)) a.kind).mono ?_;rintro e w2 ⟨rfl,rfl⟩;rw [E5.out];go_wp2_with fail;go_meet
       case rel=>exact⟨by rw [E1.out,E2.out,E3.out,E4.out,E4'.out,E5.out];rfl,HB.o.alloc HB.o.size _⟩
     ·have E4:=AA e4;have e4':(a.rho != 0)=!true:=by show (!(a.rho==0))=_;rw [e4]
      have E4':=AA e4';cases e5:ED [3,6,11,13,17,18] a.kind
      ·have E5:=AA e5;clear e5;go_wp2_with fail;refine(BA (l:=[3,6,11,13,17,18]) rfl (by decide) (Au.newAt Ca _ _ _ rfl _ _ _ (by simp)) a.kind).mono ?_;rintro e w2 ⟨rfl,rfl⟩;rw [E5.out];go_wp2_with fail;go_meet
       case rel=>exact⟨by rw [E1.out,E2.out,E3.out,E4.out,E4'.out,E5.out];rfl,HB.o.alloc HB.o.size _⟩
      ·have E5:=AA e5;clear e5;go_wp2_with fail;refine(BA (l:=[3,6,11,13,17,18]) rfl (by decide) (Au.newAt Ca _ _ _ rfl _ _ _ (by simp)) a.kind).mono ?_;rintro e w2 ⟨rfl,rfl⟩;rw [E5.out];go_wp2_with fail;go_meet
       case rel=>exact⟨by rw [E1.out,E2.out,E3.out,E4.out,E4'.out,E5.out];rfl,HB.o.alloc HB.o.size _⟩
    ·have E3:=AA e3;cases e4:(a.rho==0)
     ·have E4:=AA e4;have e4':(a.rho != 0)=!false:=by show (!(a.rho==0))=_;rw [e4]
      have E4':=AA e4';cases e5:ED [3,6,11,13,17,18] a.kind
      ·have E5:=AA e5;clear e5;go_wp2_with fail;refine(BA (l:=[3,6,11,13,17,18]) rfl (by decide) (Au.newAt Ca _ _ _ rfl _ _ _ (by simp)) a.kind).mono ?_;rintro e w2 ⟨rfl,rfl⟩;rw [E5.out];go_wp2_with fail;go_meet
       case rel=>exact⟨by rw [E1.out,E2.out,E3.out,E4.out,E4'.out,E5.out];rfl,HB.o.alloc HB.o.size _⟩
      ·have E5:=AA e5;clear e5;go_wp2_with fail;refine(BA (l:=[3,6,11,13,17,18]) rfl (by decide) (Au.newAt Ca _ _ _ rfl _ _ _ (by simp)) a.kind).mono ?_;rintro e w2 ⟨rfl,rfl⟩;rw [E5.out];go_wp2_with fail;go_meet
       case rel=>exact⟨by rw [E1.out,E2.out,E3.out,E4.out,E4'.out,E5.out];rfl,HB.o.alloc HB.o.size _⟩
     ·have E4:=AA e4;go_wp2_with fail;go_meet
      case rel=>exact⟨by rw [E1.out,E2.out,E3.out,E4.out];rfl,HB.o⟩
 case rest=>
  obtain⟨rfl,hb⟩:=hcut;have cx:=bt aE hb;have kB:=AA (HA.o.below hb);clear hb;generalize gM:(!(Cl a.hd a.kn)||decide (a.rho<0)||((a.kind==17)&&(a.rho==0))||(!(ED [3,6,11,13,17,18] a.kind)&&(a.rho != 0)))=B2 at *
  have fc:=AA gM;clear gM;cases B2
  ·obtain⟨_,_,_,_,_,_,_,q7,q8,q9,_,_,_,_,_,_,_,_,_⟩:=kB.o.all;go_upto_region 4 with fail;go_cut [47] from 36 to 47 (fun s47 wx=>s47=.bool ((a.kind != 13)&&(a.kind != 18)&&decide (0<a.rn))∧wx=wc)
   case first=>
    cases e1:(a.kind != 13)
    ·have E1:=AA e1;go_wp2_with fail;go_meet
     case rel=>exact⟨by rw [E1.out];rfl,rfl⟩
    ·have E1:=AA e1;cases e2:(a.kind != 18)
     ·have E2:=AA e2;go_wp2_with fail;go_meet
      case rel=>exact⟨by rw [E1.out,E2.out];rfl,rfl⟩
     ·have E2:=AA e2;go_wp2_with fail;go_meet
      case rel=>exact⟨by rw [E1.out,E2.out];simp,rfl⟩
   case rest=>
    obtain⟨rfl,rfl⟩:=hcut;generalize qP:((a.kind != 13)&&(a.kind != 18)&&decide (0<a.rn))=B4 at *
    have pd:=AA qP;clear qP;cases B4
    ·go_upto_region 6 with fail;go_wp2_with fail;clear q7 q8 q9;go_loopw [51] (fun i wr=>∃j:Nat,j≤a.rn∧i=.int .i64 j∧Ef a.kind a.rhos j=true∧Below wc.heap.size wc wr) (fun i _=>a.rn-(intOf i).toNat)
     case atStart=>exact⟨0,by omega,rfl,rfl,Below.refl _ _⟩
     case round=>
      obtain⟨j,hj,rfl,bR,hb⟩:=hrel;have iE:=AA bR;have HB:=AA hb;clear bR hb;have ay:=AA (cx.o.trans (HB.o.mono cx.o.size));have lI:=AA (kB.o.below HB.o);have hB:=Dh wr;obtain⟨_,_,_,_,_,_,_,_,q8,q9,q10,q11,q12,q13,q14,q15,q16,q17,_⟩:=lI.o.all;by_cases aF:j<a.rn
      ·obtain⟨x,hx⟩:=AM (l:=a.rhos) (j:=j) (by rw [HO.o.rhos.len];exact aF);obtain⟨b,o,bF,d⟩:=(HO.o.rhos.below ay.o).row.num hx;rw [bF] at q8;have g8:=fun g=>BL q8 g;have gd:=fun g=>BL d g;have se:j≤a.rc:=by have:=HO.o.rhos.le;omega
       have cj:=AA (SC a.kind a.rhos j x hx);have i0:(0:Int)≤(j:Int):=by omega
       have i1:(j:Int)<(a.rn:Int):=by omega
       have i2:(j:Int)≤(a.rc:Int):=by omega
       have nW:Hd (∀g,AE Ab 1 (gw wr g) (some ⟨b,o,none⟩) j a.rc (a.rhos.take j)):=fun g=>by have h:=((HO.o.rhos.below ay.o).below (Dh wr g));rw [bF] at h;exact⟨by rw [List.length_take,h.len];omega,by omega,se,(fun h=>by cases h),h.row.take j⟩
       clear hx bF d q8 q9 q10 q11 q12 q13 q14 q15 q16 q17;cases e1:decide (x<0)
       ·have E1:=AA e1;cases e2:(a.kind==13)
        ·have E2:=AA e2;go_upto_region 9 with fail;refine Aw (by kernel_rfl) (by kernel_rfl) ?_;repeat ((with_reducible refine wpQuiet_step (fun K hK=>?_));go_simp;refine hK _ ?_;clear hK K)
         refine wpQuiet_nil ?_;rintro w3 ⟨g,rfl⟩;go_wp2_with fail;go_roundw
         case rel=>exact⟨j+1,by omega,by go_num,by rw [cj.o,iE.o];unfold K2;rw [E1.out,E2.out];rfl,HB.o.trans ((hB _).mono HB.o.size)⟩
         case measure=>simp [intOf];omega
        ·have E2:=AA e2;cases e3:(x==0)
         ·have E3:=AA e3;cases e4:Du (a.rhos.take j) x
          ·have E4:=AA e4;clear e4;go_upto_region 9 with fail;refine Aw (by kernel_rfl) (by kernel_rfl) ?_;repeat ((with_reducible refine wpQuiet_step (fun K hK=>?_));go_simp;refine hK _ ?_;clear hK K)
           refine wpQuiet_step (fun K hK=>?_);go_simp;refine⟨(.bool false),fun _=>Ay (DL E4.out (nW.o _)),hK _ ?_⟩;clear hK K;repeat ((with_reducible refine wpQuiet_step (fun K hK=>?_));go_simp;refine hK _ ?_;clear hK K)
           refine wpQuiet_nil ?_;rintro w3 ⟨g,rfl⟩;go_wp2_with fail;go_roundw
           case rel=>exact⟨j+1,by omega,by go_num,by rw [cj.o,iE.o];unfold K2;rw [E1.out,E2.out,E3.out,E4.out];rfl,HB.o.trans ((hB _).mono HB.o.size)⟩
           case measure=>simp [intOf];omega
          ·have E4:=AA e4;clear e4;have HF:Hd (Ef a.kind a.rhos a.rn=false):=NC a.kind a.rhos aF (by rw [cj.o];unfold K2;rw [E1.out,E2.out,E3.out,E4.out];simp);go_upto_region 9 with fail;refine Aw (by kernel_rfl) (by kernel_rfl) ?_;repeat ((with_reducible refine wpQuiet_step (fun K hK=>?_));go_simp;refine hK _ ?_;clear hK K)
           refine wpQuiet_step (fun K hK=>?_);go_simp;refine⟨(.bool true),fun _=>Ay (DL E4.out (nW.o _)),hK _ ?_⟩;clear hK K;repeat ((with_reducible refine wpQuiet_step (fun K hK=>?_));go_simp;refine hK _ ?_;clear hK K)
           refine wpQuiet_nil ?_;rintro w3 ⟨g,rfl⟩;go_wp2_with fail;go_ret;exact⟨AB (by rw [HV.o,HF.o];simp),ay.o.trans ((hB _).mono ay.o.size)⟩
         ·have E3:=AA e3;have HF:Hd (Ef a.kind a.rhos a.rn=false):=NC a.kind a.rhos aF (by rw [cj.o];unfold K2;rw [E1.out,E2.out,E3.out];simp);go_upto_region 9 with fail;refine Aw (by kernel_rfl) (by kernel_rfl) ?_;repeat ((with_reducible refine wpQuiet_step (fun K hK=>?_));go_simp;refine hK _ ?_;clear hK K)
          refine wpQuiet_nil ?_;rintro w3 ⟨g,rfl⟩;go_wp2_with fail;go_ret;exact⟨AB (by rw [HV.o,HF.o];simp),ay.o.trans ((hB _).mono ay.o.size)⟩
       ·have E1:=AA e1;have HF:Hd (Ef a.kind a.rhos a.rn=false):=NC a.kind a.rhos aF (by rw [cj.o];unfold K2;rw [E1.out];simp);go_upto_region 9 with fail;refine Aw (by kernel_rfl) (by kernel_rfl) ?_;repeat ((with_reducible refine wpQuiet_step (fun K hK=>?_));go_simp;refine hK _ ?_;clear hK K)
        refine wpQuiet_nil ?_;rintro w3 ⟨g,rfl⟩;go_wp2_with fail;go_ret;exact⟨AB (by rw [HV.o,HF.o];simp),ay.o.trans ((hB _).mono ay.o.size)⟩
      ·have ex:j=a.rn:=by omega
       have cF:Hd (Ef a.kind a.rhos a.rn=true):=by show _=_;rw [←ex];exact iE.o
       have ml:w.heap.size<wr.heap.size:=An q9;have aq:=AA (HO.o.eff.below ay.o);clear ex q8 q10 q11 q12 q13 q14 q15 q16 q17;go_upto_region 12 with fail;go_cut [100] from 85 to 100 (fun s100 wx=>s100=.bool (!(ED [11,13,18] a.kind)&&decide (0<a.en)||!(DD a.eff))∧Below wr.heap.size wr wx)
       case first=>
        cases e1:ED [11,13,18] a.kind
        ·have E1:=AA e1;clear e1;cases e2:decide (0<a.en)
         ·have e2':decide ((0:Int)<(a.en:Int))=false:=by simpa using e2
          have E2:=AA e2;go_wp2_with fail;refine(BA (l:=[11,13,18]) rfl (by decide) (Au.newAt Ca _ _ _ rfl _ _ _ (by simp)) a.kind).mono ?_;rintro e w4 ⟨rfl,rfl⟩;rw [E1.out];cases e3:DD a.eff
          ·have E3:=AA e3;clear e3;go_wp2_with fail;refine(Ce E3.out (aq.o.alloc _)).mono ?_;rintro e w5 ⟨rfl,hb⟩;have aw:=AA (((Below.refl wr.heap.size wr).alloc (Nat.le_refl _) (.cells #[.int .u8 11,.int .u8 13,.int .u8 18] 5)).trans (hb.mono (by simp)));clear hb;go_wp2_with fail;go_meet
           case rel=>exact⟨by rw [E1.out,E2.out,E3.out];rfl,aw.o⟩
          ·have E3:=AA e3;clear e3;go_wp2_with fail;refine(Ce E3.out (aq.o.alloc _)).mono ?_;rintro e w5 ⟨rfl,hb⟩;have aw:=AA (((Below.refl wr.heap.size wr).alloc (Nat.le_refl _) (.cells #[.int .u8 11,.int .u8 13,.int .u8 18] 5)).trans (hb.mono (by simp)));clear hb;go_wp2_with fail;go_meet
           case rel=>exact⟨by rw [E1.out,E2.out,E3.out];rfl,aw.o⟩
         ·have e2':decide ((0:Int)<(a.en:Int))=true:=by simpa using e2
          have E2:=AA e2;go_wp2_with fail;refine(BA (l:=[11,13,18]) rfl (by decide) (Au.newAt Ca _ _ _ rfl _ _ _ (by simp)) a.kind).mono ?_;rintro e w4 ⟨rfl,rfl⟩;rw [E1.out];go_wp2_with fail;go_meet
          case rel=>exact⟨by rw [E1.out,E2.out];rfl,bA⟩
        ·have E1:=AA e1;clear e1;have E2:True:=trivial;go_wp2_with fail;refine(BA (l:=[11,13,18]) rfl (by decide) (Au.newAt Ca _ _ _ rfl _ _ _ (by simp)) a.kind).mono ?_;rintro e w4 ⟨rfl,rfl⟩;rw [E1.out];cases e3:DD a.eff
         ·have E3:=AA e3;clear e3;go_wp2_with fail;refine(Ce E3.out (aq.o.alloc _)).mono ?_;rintro e w5 ⟨rfl,hb⟩;have aw:=AA (((Below.refl wr.heap.size wr).alloc (Nat.le_refl _) (.cells #[.int .u8 11,.int .u8 13,.int .u8 18] 5)).trans (hb.mono (by simp)));clear hb;go_wp2_with fail;go_meet
          case rel=>exact⟨by rw [E1.out,E3.out];rfl,aw.o⟩
         ·have E3:=AA e3;clear e3;go_wp2_with fail;refine(Ce E3.out (aq.o.alloc _)).mono ?_;rintro e w5 ⟨rfl,hb⟩;have aw:=AA (((Below.refl wr.heap.size wr).alloc (Nat.le_refl _) (.cells #[.int .u8 11,.int .u8 13,.int .u8 18] 5)).trans (hb.mono (by simp)));clear hb;go_wp2_with fail;go_meet
          case rel=>exact⟨by rw [E1.out,E3.out];rfl,aw.o⟩
       case rest=>
        obtain⟨rfl,hb⟩:=hcut;have aV:=bt ay hb;have ei:=AA (lI.o.below hb);have oC:=AA hb;clear hb q9;generalize mN:(!(ED [11,13,18] a.kind)&&decide (0<a.en)||!(DD a.eff))=B12 at *
        have rB:=AA mN;clear mN;cases B12
        ·have pL:w.heap.size<wc.heap.size:=Nat.lt_of_lt_of_le ml (by have:=oC.o.size;omega);obtain⟨_,_,_,_,_,_,_,_,_,_,q10,q11,q12,q13,q14,q15,q16,q17,_⟩:=ei.o.all;have bH:=AA (LR.lies_below aV.o _ HO.o.ty);have bT:=AA (LR.lies_below aV.o _ HO.o.res);have gD:=(PF bH.o).own;clear ml;go_upto_region 14 with fail;go_cut [121] from 101 to 121 (fun s121 wx=>s121=.bool (ED [11,13,15] a.kind&&!(BF a.ty.er)||!(ED [11,13,15] a.kind)&&!(DI a.ty.head))∧Below wc.heap.size wc wx)
         case first=>
          cases e1:ED [11,13,15] a.kind
          ·have E1:=AA e1;clear e1;cases e3:DI a.ty.head
           ·have E3:=AA e3;clear e3;go_wp2_with fail;refine(BA (l:=[11,13,15]) rfl (by decide) (Au.newAt Ca _ _ _ rfl _ _ _ (by simp)) a.kind).mono ?_;rintro e w4 ⟨rfl,rfl⟩;rw [E1.out];go_wp2_with fail;refine(BA (l:=[11,13,15]) rfl (by decide) (Au.newAt Ca _ _ _ rfl _ _ _ (by simp)) a.kind).mono ?_;rintro e w4 ⟨rfl,rfl⟩;rw [E1.out];go_wp2_with fail;refine(FQ a.ty.head (gD.eff.max) (gD.kmax) _).mono ?_;rintro e w5 ⟨rfl,hb⟩;rw [E3.out];have aw:=AA ((((Below.refl wc.heap.size wc).alloc (Nat.le_refl _) (.cells #[.int .u8 11,.int .u8 13,.int .u8 15] 5)).alloc (by simp) (.cells #[.int .u8 11,.int .u8 13,.int .u8 15] 5)).trans (hb.mono (by simp;omega)));clear hb;go_wp2_with fail;go_meet
            case rel=>exact⟨by rw [E1.out,E3.out];rfl,aw.o⟩
           ·have E3:=AA e3;clear e3;go_wp2_with fail;refine(BA (l:=[11,13,15]) rfl (by decide) (Au.newAt Ca _ _ _ rfl _ _ _ (by simp)) a.kind).mono ?_;rintro e w4 ⟨rfl,rfl⟩;rw [E1.out];go_wp2_with fail;refine(BA (l:=[11,13,15]) rfl (by decide) (Au.newAt Ca _ _ _ rfl _ _ _ (by simp)) a.kind).mono ?_;rintro e w4 ⟨rfl,rfl⟩;rw [E1.out];go_wp2_with fail;refine(FQ a.ty.head (gD.eff.max) (gD.kmax) _).mono ?_;rintro e w5 ⟨rfl,hb⟩;rw [E3.out];have aw:=AA ((((Below.refl wc.heap.size wc).alloc (Nat.le_refl _) (.cells #[.int .u8 11,.int .u8 13,.int .u8 15] 5)).alloc (by simp) (.cells #[.int .u8 11,.int .u8 13,.int .u8 15] 5)).trans (hb.mono (by simp;omega)));clear hb;go_wp2_with fail;go_meet
            case rel=>exact⟨by rw [E1.out,E3.out];rfl,aw.o⟩
          ·have E1:=AA e1;clear e1;cases e3:BF a.ty.er
           ·have E3:=AA e3;clear e3;go_wp2_with fail;refine(BA (l:=[11,13,15]) rfl (by decide) (Au.newAt Ca _ _ _ rfl _ _ _ (by simp)) a.kind).mono ?_;rintro e w4 ⟨rfl,rfl⟩;rw [E1.out];go_wp2_with fail;refine(E0 a.ty _ (LR.lies_below bA _ bH.o)).mono ?_;rintro e w5 ⟨rfl,hb⟩;rw [E3.out];have aw:=AA (((Below.refl wc.heap.size wc).alloc (Nat.le_refl _) (.cells #[.int .u8 11,.int .u8 13,.int .u8 15] 5)).trans (hb.mono (by simp)));clear hb;go_wp2_with fail;go_meet
            case rel=>exact⟨by rw [E1.out,E3.out];rfl,aw.o⟩
           ·have E3:=AA e3;clear e3;go_wp2_with fail;refine(BA (l:=[11,13,15]) rfl (by decide) (Au.newAt Ca _ _ _ rfl _ _ _ (by simp)) a.kind).mono ?_;rintro e w4 ⟨rfl,rfl⟩;rw [E1.out];go_wp2_with fail;refine(E0 a.ty _ (LR.lies_below bA _ bH.o)).mono ?_;rintro e w5 ⟨rfl,hb⟩;rw [E3.out];have aw:=AA (((Below.refl wc.heap.size wc).alloc (Nat.le_refl _) (.cells #[.int .u8 11,.int .u8 13,.int .u8 15] 5)).trans (hb.mono (by simp)));clear hb;go_wp2_with fail;refine(BA (l:=[11,13,15]) rfl (by decide) (Au.newAt Ca _ _ _ rfl _ _ _ (by simp)) a.kind).mono ?_;rintro e w4 ⟨rfl,rfl⟩;rw [E1.out];go_wp2_with fail;go_meet
            case rel=>exact⟨by rw [E1.out,E3.out];rfl,aw.o.alloc aw.o.size _⟩
         case rest=>
          obtain⟨rfl,hb⟩:=hcut;have av:=bt aV hb;have qx:=AA (ei.o.below hb);have l9:=AA (LR.lies_below hb _ bT.o);have j7:=(PF bT.o).own;clear hb q10 q11 q12 q13 q14 q15 q16 q17 pL gD;generalize mO:(ED [11,13,15] a.kind&&!(BF a.ty.er)||!(ED [11,13,15] a.kind)&&!(DI a.ty.head))=B14 at *
          have rC:=AA mO;clear mO;cases B14
          ·obtain⟨_,_,_,_,_,_,_,_,_,_,q10,q11,q12,q13,q14,q15,q16,q17,_⟩:=qx.o.all;cases e1:(a.kind==13)
           ·have e1':(a.kind != 13)=true:=by show (!(a.kind==13))=_;rw [e1];rfl
            have E1:=AA e1;have E1':=AA e1';go_wp2_with fail;refine(FQ a.res.head (j7.eff.max) (j7.kmax) _).mono ?_;rintro e w5 ⟨rfl,hb⟩;have aw:=bt av hb;clear hb;go_wp2_with fail;go_ret;exact⟨AB (by rw [HV.o,cF.o,E1.out,E1'.out];simp),aw.o⟩
           ·have e1':(a.kind != 13)=false:=by show (!(a.kind==13))=_;rw [e1];rfl
            have E1:=AA e1;have E1':=AA e1';cases e3:BF a.res.er
            ·have E3:=AA e3;clear e3;go_wp2_with fail;refine(E0 a.res _ l9.o).mono ?_;rintro e w5 ⟨rfl,hb⟩;rw [E3.out];have aw:=bt av hb;clear hb;go_wp2_with fail;go_ret;exact⟨AB (by rw [HV.o,cF.o,E1.out,E1'.out,E3.out];simp),aw.o⟩
            ·have E3:=AA e3;clear e3;go_wp2_with fail;refine(E0 a.res _ l9.o).mono ?_;rintro e w5 ⟨rfl,hb⟩;rw [E3.out];have aw:=bt av hb;clear hb;go_wp2_with fail;go_ret;exact⟨AB (by rw [HV.o,cF.o,E1.out,E1'.out,E3.out];simp),aw.o⟩
          ·go_wp2_with fail;go_ret;exact⟨AB (by rw [HV.o];simp),av.o⟩
        ·go_wp2_with fail;go_ret;exact⟨AB (by rw [HV.o];simp),aV.o⟩
    ·go_wp2_with fail;go_ret;exact⟨AB (by rw [HV.o];rfl),cx.o⟩
  ·go_wp2_with fail;go_ret;exact⟨AB (by rw [HV.o];rfl),cx.o⟩
theorem P0{p:Option Addr}{n cap:Nat}{l:List Int}{w:World}(hn:l.length=n)(hm:n≤1000000)(hr:Au QL 1 w p l)(x:Int):Calls prog 257 #[.slice p n cap,.int .u8 x] w fun e w'=>(∃r:Int,e=.returned (.int .i64 r)∧decide (r≥0)=ED l x)∧w=w':=by
 have HR:=AA hr;have HN:=AA hn;clear hr hn;go_enter func257,ntmps257;go_wp2_with fail;go_loop [5,8] (fun _ i=>∃j:Nat,j≤n∧i=.int .i64 j∧(l.take j).any (·==x)=false) (fun _ i=>n-(intOf i).toNat)
 case atStart=>exact⟨0,by omega,rfl,by simp⟩
 case round=>
  obtain⟨j,hj,rfl,ac⟩:=hrel;have an:=AA ac;clear ac;by_cases aF:j<n
  ·obtain⟨y,hy⟩:=AM (l:=l) (j:=j) (by rw [HN.o];exact aF);have HE:=AA hy;obtain⟨b,o,rfl,d0⟩:=HR.o.u8 hy;clear hy;cases hq:(x==y)
   ·have HQ:=AA hq;go_wp2_with fail;go_round
    case rel=>exact⟨j+1,by omega,by go_num,by rw [Av HE.o,an.o,BEq.comm,HQ.o];rfl⟩
    case measure=>simp [intOf];omega
   ·have HQ:=AA hq;go_wp2_with fail;go_ret;exact⟨⟨j,rfl,by rw [show ED l x=true from Ex HE.o (by rw [BEq.comm];exact HQ.o)];simp⟩,rfl⟩
  ·go_wp2_with fail;go_ret;have h:=an.o;rw [AP (by rw [HN.o];omega)] at h;exact⟨⟨-1,rfl,by rw [show ED l x=false from h];decide⟩,rfl⟩
theorem MN{p:Option Addr}{n cap:Nat}{l:List Int}{w:World}(hn:l.length=n)(hm:n≤1000000)(hr:Au QL 1 w p l)(x:Int):Calls prog 234 #[.slice p n cap,.int .u8 x] w fun e w'=>e=.returned (.bool (ED l x))∧w=w':=by
 have HC:=AA (P0 (cap:=cap) hn hm hr x);clear hr hn;go_enter func234,ntmps234;go_wp2_with fail;refine HC.o.mono ?_;rintro e w1 ⟨⟨r,rfl,hr⟩,rfl⟩;have HR:=AA hr;clear hr;go_wp2_with fail
 all_goals (try go_ret)
 all_goals exact⟨AB (by rw [←HR.o]),rfl⟩
def JW(s:ByteArray):List Int:=s.data.toList.map (fun b=>(b.toNat:Int))
def F7(s:ByteArray)(x:Int):Bool:=ED (JW s) x
theorem TA(w:World)(e:TypeId)(s:ByteArray):Au QL 1 (Lib.bytesWorld w e s) (some ⟨w.heap.size,0,none⟩) (JW s):=by
 refine .inr ⟨_,0,rfl,by rw [Lib.bytesWorld_size];exact Nat.lt_succ_self _,fun j x hx i v hv=>?_⟩;have hj:j<s.size:=by have:=(List.getElem?_eq_some_iff.1 hx).1;simpa [JW] using this
 have hi:i=0:=by
  cases i with
  |zero=>rfl
  |succ i=>simp [QL] at hv
 subst hi;have pX:v=.int .u8 x:=by simpa [QL] using hv.symm
 have:=Lib.bytesWorld_cell w e s j hj;rw [pX];simp only [Nat.zero_add,Nat.mul_one,Nat.add_zero];rw [this]
 have fJ:((s.data.toList.getD j 0).toNat:Int)=x:=by
  have h2:(JW s)[j]?=some ((s.data.toList.getD j 0).toNat:Int):=by unfold JW;rw [List.getElem?_map,List.getD,List.getElem?_eq_getElem (by simpa using hj)];simp
  rw [h2] at hx;exact Option.some.inj hx
 rw [fJ]
theorem P4(w:World)(e:TypeId)(s:ByteArray):Below w.heap.size w (Lib.bytesWorld w e s):=⟨rfl,rfl,rfl,by rw [Lib.bytesWorld_size];omega,fun j hj=>Lib.bytesWorld_at_old w e s j hj⟩
theorem GZ(k:Int)(s:ByteArray)(x:Int)(hs:s.size≤1000)(w:World):Calls prog 205 #[.agg #[.int .i64 k,.string s],.int .u8 x] w (RB w (.bool (F7 s x))):=by
 have HB:=AA (((Below.refl w.heap.size w).alloc (Nat.le_refl _) (.cells #[.int .i64 k,.string s] 244)));have hl:(JW s).length=s.size:=by simp [JW]
 go_enter func205,ntmps205;have sV:=Lib.run_convert_string_bytes (P:=prog) (w.alloc (.cells #[.int .i64 k,.string s] 244)) 9 166 5 s underlying9 underlying166 underlying5;have HR:=AA (TA (w.alloc (.cells #[.int .i64 k,.string s] 244)) 5 s);have aK:=AA (HB.o.trans ((P4 (w.alloc (.cells #[.int .i64 k,.string s] 244)) 5 s).mono HB.o.size));generalize Lib.bytesWorld (w.alloc (.cells #[.int .i64 k,.string s] 244)) 5 s=w2 at *
 generalize grownCap (w.alloc (.cells #[.int .i64 k,.string s] 244)) s.size 0 5=cp at *
 simp only [World.size_alloc] at sV HR;go_wp2_with fail;refine(MN hl (by omega) HR.o x).mono ?_;rintro e w3 ⟨rfl,rfl⟩;go_wp2_with fail;go_ret;exact⟨rfl,aK.o⟩
def S1(fid:FuncId)(q:ByteArray→Bool)(w:World):Prop:=∀(s:ByteArray) (W:World) (g:Nat),Below w.heap.size w W→Au EC 1 W (some ⟨g,0,none⟩) [s]→Calls prog fid #[.slice (some ⟨g,0,none⟩) 1 1] W fun e w'=>e=.returned (.bool (q s))∧Below W.heap.size W w'
theorem S1.below{fid:FuncId}{q:ByteArray→Bool}{w W:World}(h:S1 fid q w)(hb:Below w.heap.size w W):S1 fid q W:=fun s W' g aW hr=>h s W' g (hb.trans (aW.mono hb.size)) hr
theorem OV{w:World}(hv:Vr w):S1 207 Ba w:=fun s W g hb hr=>by have:=NV (hv.below hb) (some ⟨g,0,none⟩) 1 1 [s] rfl (by decide) hr;simpa using this
theorem VW(w:World):S1 174 DC w:=fun s W g hb hr=>by have:=JQ (some ⟨g,0,none⟩) 1 1 [s] W rfl (by decide) hr;simpa using this
def Ek(has:Bool)(q:ByteArray→Bool)(t:ByteArray):Bool:=if has then q t else t.toList.isEmpty
theorem FS{fid:FuncId}{q:ByteArray→Bool}(eg:∀args w,(callFunc fid args).run prog w=.ok (.enter fid args) w)(k:Int)(s:ByteArray)(x:Int)(t:ByteArray)(hs:s.size≤1000){w:World}(hq:S1 fid q w):Calls prog 206 #[.agg #[.int .i64 k,.string s],.int .u8 x,.string t,.func (.func fid) #[] #[]] w (RB w (.bool (Ek (F7 s x) q t))):=by
 have HB:=AA (((Below.refl w.heap.size w).alloc (Nat.le_refl _) (.cells #[.int .i64 k,.string s] 244)));have HQ:=AA (hq.below HB.o);clear hq;go_enter func206,ntmps206;cases hh:F7 s x
 ·have HH:=AA hh;have HC:=AA (GZ k s x hs (w.alloc (.cells #[.int .i64 k,.string s] 244)));rw [hh] at HC;clear hh;go_wp2_with (go_at_call 205;refine HC.o.mono ?_;rintro e w2 ⟨rfl,hb⟩;have aK:=bt HB hb;clear hb);go_ret;exact⟨AB rfl,aK.o⟩
 ·have HC:=AA (GZ k s x hs (w.alloc (.cells #[.int .i64 k,.string s] 244)));rw [hh] at HC;clear hh
  go_wp2_with (first
   |(go_at_call 205;refine HC.o.mono ?_;rintro e w2 ⟨rfl,hb⟩;have aK:=bt HB hb;have du:=AA (HQ.o.below hb);clear hb)
   |(go_at_fn fid;refine(du.o t _ _ bA (Au.newAt De _ [t] _ (by simp [EC]) _ _ _ rfl)).mono ?_;rintro e w3 ⟨rfl,hb⟩;have aV:=AA (aK.o.trans ((((Below.refl _ w2).alloc (Nat.le_refl _) _).trans (hb.mono (by simp))).mono aK.o.size));clear hb))
  go_ret;exact⟨AB rfl,aV.o⟩
end Go.Proofs.YtkdjnegfnhldpaaGreatDoor
