/- Part 13. -/
import Derived.Test.YtkdjnegfnhldpaaGreatDoorK12
set_option linter.unusedVariables false
set_option maxRecDepth 100000
set_option linter.unusedSimpArgs false
set_option maxHeartbeats 40000000
namespace Go.Proofs.YtkdjnegfnhldpaaGreatDoor
open Go.Proofs.Tryz Go.RowKit
def Bb(k:Int):Int:=
 if k=1∨k=2 then 0 else if k=4∨k=5∨k=6∨k=7∨k=11∨k=15 then 1
 else if k=3∨k=8∨k=9∨k=10∨k=12∨k=13∨k=16 then 2 else if k=14 then 3 else -1
theorem Mz(k:Int)(w:World):Calls prog 101 #[.int .u8 k] w fun e w'=>e=.returned (.int .i64 (Bb k))∧w'=w:=by
 by_cases h1:k=1
 ·subst h1;go_enter func101,ntmps101;go_wp2_with fail;go_ret;exact⟨rfl,rfl⟩
 have b1:(k==1)=false:=by simpa using h1
 by_cases h2:k=2
 ·subst h2;go_enter func101,ntmps101;go_wp2_with fail;go_ret;exact⟨rfl,rfl⟩
 have b2:(k==2)=false:=by simpa using h2
 by_cases h3:k=3
 ·subst h3;go_enter func101,ntmps101;go_wp2_with fail;go_ret;exact⟨rfl,rfl⟩
 have b3:(k==3)=false:=by simpa using h3
 by_cases h4:k=4
 ·subst h4;go_enter func101,ntmps101;go_wp2_with fail;go_ret;exact⟨rfl,rfl⟩
 have b4:(k==4)=false:=by simpa using h4
 by_cases h5:k=5
 ·subst h5;go_enter func101,ntmps101;go_wp2_with fail;go_ret;exact⟨rfl,rfl⟩
 have b5:(k==5)=false:=by simpa using h5
 by_cases h6:k=6
 ·subst h6;go_enter func101,ntmps101;go_wp2_with fail;go_ret;exact⟨rfl,rfl⟩
 have b6:(k==6)=false:=by simpa using h6
 by_cases h7:k=7
 ·subst h7;go_enter func101,ntmps101;go_wp2_with fail;go_ret;exact⟨rfl,rfl⟩
 have b7:(k==7)=false:=by simpa using h7
 by_cases h8:k=8
 ·subst h8;go_enter func101,ntmps101;go_wp2_with fail;go_ret;exact⟨rfl,rfl⟩
 have b8:(k==8)=false:=by simpa using h8
 by_cases h9:k=9
 ·subst h9;go_enter func101,ntmps101;go_wp2_with fail;go_ret;exact⟨rfl,rfl⟩
 have b9:(k==9)=false:=by simpa using h9
 by_cases kg:k=10
 ·subst kg;go_enter func101,ntmps101;go_wp2_with fail;go_ret;exact⟨rfl,rfl⟩
 have b10:(k==10)=false:=by simpa using kg
 by_cases dp:k=11
 ·subst dp;go_enter func101,ntmps101;go_wp2_with fail;go_ret;exact⟨rfl,rfl⟩
 have b11:(k==11)=false:=by simpa using dp
 by_cases eL:k=12
 ·subst eL;go_enter func101,ntmps101;go_wp2_with fail;go_ret;exact⟨rfl,rfl⟩
 have b12:(k==12)=false:=by simpa using eL
 by_cases cI:k=13
 ·subst cI;go_enter func101,ntmps101;go_wp2_with fail;go_ret;exact⟨rfl,rfl⟩
 have b13:(k==13)=false:=by simpa using cI
 by_cases ov:k=14
 ·subst ov;go_enter func101,ntmps101;go_wp2_with fail;go_ret;exact⟨rfl,rfl⟩
 have b14:(k==14)=false:=by simpa using ov
 by_cases ki:k=15
 ·subst ki;go_enter func101,ntmps101;go_wp2_with fail;go_ret;exact⟨rfl,rfl⟩
 have b15:(k==15)=false:=by simpa using ki
 by_cases gy:k=16
 ·subst gy;go_enter func101,ntmps101;go_wp2_with fail;go_ret;exact⟨rfl,rfl⟩
 have b16:(k==16)=false:=by simpa using gy
 have hz:Hd (Bb k=-1):=by show _=_;unfold Bb;rw [if_neg (by omega),if_neg (by omega),if_neg (by omega),if_neg (by omega)]
 clear h1 h2 h3 h4 h5 h6 h7 h8 h9 kg dp eL cI ov ki gy;go_enter func101,ntmps101;go_wp2_with fail;go_ret;exact⟨Bw hz.out.symm,rfl⟩
def D0(there:Bool)(s:ByteArray)(ok:Bool):Bool:=there&&ok||!there&&decide (s.size=0)
theorem M1(there:Bool)(s:ByteArray)(ok:Bool)(w:World):Calls prog 102 #[.bool there,.string s,.bool ok] w fun e w'=>e=.returned (.bool (D0 there s ok))∧w'=w:=by
 by_cases hs:s.size=0
 ·have he:s=⟨#[]⟩:=by apply ByteArray.ext;exact Array.eq_empty_of_size_eq_zero hs
  subst he;cases there<;>cases ok
  all_goals
   go_enter func102,ntmps102
   go_wp2_with fail
   go_ret
   exact⟨rfl,rfl⟩
 ·have hb:s.toList.isEmpty=false:=by
   rw [Lib.toList_data];cases h:s.data.toList with
   |nil=>exact absurd (by show s.data.size=0;rw [←Array.length_toList,h];rfl) hs
   |cons x l=>rfl
  have HS:Hd (decide (s.size=0)=false):=by show _=_;simp [hs]
  clear hs;cases there<;>cases ok
  all_goals
   go_enter func102,ntmps102
   go_wp2_with fail
   go_ret
   refine⟨AB ?_,rfl⟩
   unfold D0
   rw [HS.o]
   rfl
abbrev OE(h:CT)(p:Option Addr)(n c:Nat):Value:=.agg #[.int .u8 h.kind,.int .u8 h.op,.int .i64 h.at_,.int .i64 h.n,.string h.name,.string h.arg,.string h.exn,.slice p n c]
theorem DJ(k m:Int)(hm:Bb k=m)(w:World):Calls prog 101 #[.int .u8 k] w (RB w (.int .i64 m)):=by subst hm;exact(Mz k w).mono (fun _ _ ⟨h1,h2⟩=>⟨h1,h2▸Below.refl _ _⟩)
theorem G4(there:Bool)(s:ByteArray)(ok:Bool)(w:World):Calls prog 102 #[.bool there,.string s,.bool ok] w (RB w (.bool (D0 there s ok))):=(M1 there s ok w).mono (fun _ _ ⟨h1,h2⟩=>⟨h1,h2▸Below.refl _ _⟩)
abbrev I9(h:CT)(p:Option Addr)(n c:Nat):Obj:=.cells #[.int .u8 h.kind,.int .u8 h.op,.int .i64 h.at_,.int .i64 h.n,.string h.name,.string h.arg,.string h.exn,.slice p n c] 53
def Jr(W:World)(b:Nat)(h:CT)(p:Option Addr)(n c:Nat):Prop:=
 W.cell? ⟨b,0,none⟩=some (.int .u8 h.kind)∧W.cell? ⟨b,1,none⟩=some (.int .u8 h.op)∧W.cell? ⟨b,2,none⟩=some (.int .i64 h.at_)∧W.cell? ⟨b,3,none⟩=some (.int .i64 h.n) ∧
  W.cell? ⟨b,4,none⟩=some (.string h.name)∧W.cell? ⟨b,5,none⟩=some (.string h.arg)∧W.cell? ⟨b,6,none⟩=some (.string h.exn)∧W.cell? ⟨b,7,none⟩=some (.slice p n c)
theorem Jr.below{W W':World}{b:Nat}{h:CT}{p:Option Addr}{n c:Nat}(hc:Jr W b h p n c)(hb:Below W.heap.size W W'):Jr W' b h p n c:=by obtain⟨h0,h1,h2,h3,h4,h5,h6,h7⟩:=hc;have aF:b<W.heap.size:=An h0;exact⟨by rw [hb.cell aF];exact h0,by rw [hb.cell aF];exact h1,by rw [hb.cell aF];exact h2,by rw [hb.cell aF];exact h3,by rw [hb.cell aF];exact h4,by rw [hb.cell aF];exact h5,by rw [hb.cell aF];exact h6,by rw [hb.cell aF];exact h7⟩
theorem ID(w:World)(h:CT)(p:Option Addr)(n c:Nat):Jr (w.alloc (I9 h p n c)) w.heap.size h p n c:=by refine⟨?_,?_,?_,?_,?_,?_,?_,?_⟩<;>(rw [AR];rfl)
def Ec(k:Int):Bool:=k==2||k==12||k==13
def Hg(k:Int):Bool:=k==11||k==13||k==16
def Il(k:Int):Bool:=k==15||k==16
def Be(h:CT)(n:Nat):Bool:=
 !(decide (Bb h.kind<0)||((n:Int) != Bb h.kind)||decide (h.at_<0))&&!((h.kind==9)&&(decide (h.op<1)||decide (5<h.op))||(h.kind != 9)&&(h.op != 0)) &&
 !(decide (h.n<0)||decide (2147483647<h.n)||(h.kind != 1)&&(h.n != 0))&&(D0 (Ec h.kind) h.name (Ba h.name)&&D0 (Hg h.kind) h.arg (Ba h.arg)&&D0 (Il h.kind) h.exn (DC h.exn))
theorem M0(h:CT)(p:Option Addr)(n c:Nat)(hn:n≤9223372036854775807)(w:World):Calls prog 69 #[OE h p n c] w (RB w (.bool (Be h n))):=by
 have aE:=AA ((Below.refl w.heap.size w).alloc (Nat.le_refl _) (I9 h p n c));have HC:=AA (ID w h p n c);have HM:∃m,Bb h.kind=m:=⟨_,rfl⟩;obtain⟨m,hm⟩:=HM;have iM:=AA hm;clear hm;go_enter func69,ntmps69;go_upto_region 2 with fail;generalize w.alloc (.cells #[.int .u8 h.kind,.int .u8 h.op,.int .i64 h.at_,.int .i64 h.n,.string h.name,.string h.arg,.string h.exn,.slice p n c] 53)=W0 at *
 go_cut [26] from 10 to 26 (fun s26 wx=>s26=.bool (decide (m<0)||((n:Int) != m)||decide (h.at_<0))∧Below W0.heap.size W0 wx)
 case first=>
  obtain⟨q0,q1,q2,q3,q4,q5,q6,q7⟩:=HC.o;have g0:=fun g=>BL q0 g;have g1:=fun g=>BL q1 g;have g2:=fun g=>BL q2 g;have g3:=fun g=>BL q3 g;have g4:=fun g=>BL q4 g;have g5:=fun g=>BL q5 g;have g6:=fun g=>BL q6 g;have g7:=fun g=>BL q7 g;have hB:=Dh W0;by_cases h1:m<0
  ·have d1:decide (m<0)=true:=by simpa using h1
   have HB:Hd ((decide (m<0)||((n:Int) != m)||decide (h.at_<0))=true):=by show _=_;simp [h1]
   refine Aw (by kernel_rfl) (by kernel_rfl) ?_;repeat ((with_reducible refine wpQuiet_step (fun K hK=>?_));go_simp;refine hK _ ?_;clear hK K)
   refine wpQuiet_step (fun K hK=>?_);go_simp;refine⟨(.int .i64 m),fun _=>Ay (DJ _ m iM.o _),hK _ ?_⟩;clear hK K;repeat ((with_reducible refine wpQuiet_step (fun K hK=>?_));go_simp;refine hK _ ?_;clear hK K)
   clear h1;refine wpQuiet_nil ?_;rintro w3 ⟨g,rfl⟩;go_wp2_with fail;go_meet
   case rel=>exact⟨by rw [HB.o],hB g⟩
  ·have d1:decide (m<0)=false:=by simpa using h1
   by_cases h2:(n:Int)=m
   ·have d2:((n:Int) != m)=false:=by simpa using h2
    by_cases h3:h.at_<0
    ·have d3:decide (h.at_<0)=true:=by simpa using h3
     have HB:Hd ((decide (m<0)||((n:Int) != m)||decide (h.at_<0))=true):=by show _=_;simp [h3]
     refine Aw (by kernel_rfl) (by kernel_rfl) ?_;repeat ((with_reducible refine wpQuiet_step (fun K hK=>?_));go_simp;refine hK _ ?_;clear hK K)
     refine wpQuiet_step (fun K hK=>?_);go_simp;refine⟨(.int .i64 m),fun _=>Ay (DJ _ m iM.o _),hK _ ?_⟩;clear hK K;repeat ((with_reducible refine wpQuiet_step (fun K hK=>?_));go_simp;refine hK _ ?_;clear hK K)
     clear h1 h2 h3;refine wpQuiet_step (fun K hK=>?_);go_simp;refine⟨(.int .i64 m),fun _=>Ay (DJ _ m iM.o _),hK _ ?_⟩;clear hK K;repeat ((with_reducible refine wpQuiet_step (fun K hK=>?_));go_simp;refine hK _ ?_;clear hK K)
     refine wpQuiet_nil ?_;rintro w3 ⟨g,rfl⟩;go_wp2_with fail;go_meet
     case rel=>exact⟨by rw [HB.o],hB g⟩
    ·have d3:decide (h.at_<0)=false:=by simpa using h3
     have HB:Hd ((decide (m<0)||((n:Int) != m)||decide (h.at_<0))=false):=by show _=_;simp [h1,h2,h3]
     refine Aw (by kernel_rfl) (by kernel_rfl) ?_;repeat ((with_reducible refine wpQuiet_step (fun K hK=>?_));go_simp;refine hK _ ?_;clear hK K)
     refine wpQuiet_step (fun K hK=>?_);go_simp;refine⟨(.int .i64 m),fun _=>Ay (DJ _ m iM.o _),hK _ ?_⟩;clear hK K;repeat ((with_reducible refine wpQuiet_step (fun K hK=>?_));go_simp;refine hK _ ?_;clear hK K)
     clear h1 h2 h3;refine wpQuiet_step (fun K hK=>?_);go_simp;refine⟨(.int .i64 m),fun _=>Ay (DJ _ m iM.o _),hK _ ?_⟩;clear hK K;repeat ((with_reducible refine wpQuiet_step (fun K hK=>?_));go_simp;refine hK _ ?_;clear hK K)
     refine wpQuiet_nil ?_;rintro w3 ⟨g,rfl⟩;go_wp2_with fail;go_meet
     case rel=>exact⟨by rw [HB.o],hB g⟩
   ·have d2:((n:Int) != m)=true:=by simpa using h2
    have HB:Hd ((decide (m<0)||((n:Int) != m)||decide (h.at_<0))=true):=by show _=_;simp [h2]
    refine Aw (by kernel_rfl) (by kernel_rfl) ?_;repeat ((with_reducible refine wpQuiet_step (fun K hK=>?_));go_simp;refine hK _ ?_;clear hK K)
    refine wpQuiet_step (fun K hK=>?_);go_simp;refine⟨(.int .i64 m),fun _=>Ay (DJ _ m iM.o _),hK _ ?_⟩;clear hK K;repeat ((with_reducible refine wpQuiet_step (fun K hK=>?_));go_simp;refine hK _ ?_;clear hK K)
    clear h1 h2;refine wpQuiet_step (fun K hK=>?_);go_simp;refine⟨(.int .i64 m),fun _=>Ay (DJ _ m iM.o _),hK _ ?_⟩;clear hK K;repeat ((with_reducible refine wpQuiet_step (fun K hK=>?_));go_simp;refine hK _ ?_;clear hK K)
    refine wpQuiet_nil ?_;rintro w3 ⟨g,rfl⟩;go_wp2_with fail;go_meet
    case rel=>exact⟨by rw [HB.o],hB g⟩
 case rest=>
  obtain⟨rfl,hb⟩:=hcut;have cx:=bt aE hb;have jf:=AA (HC.o.below hb);clear hb;generalize bz:(decide (m<0)||((n:Int) != m)||decide (h.at_<0))=B1;have aJ:=AA bz;clear bz;cases B1
  ·obtain⟨q0,q1,q2,q3,q4,q5,q6,q7⟩:=jf.o;go_upto_region 4 with fail;go_cut [50] from 27 to 50 (fun s50 wx=>s50=.bool ((h.kind==9)&&(decide (h.op<1)||decide (5<h.op))||(h.kind != 9)&&(h.op != 0))∧wx=wc)
   case first=>
    by_cases h9:h.kind=9
    ·have e1:(h.kind==9)=true:=by simpa using h9
     have e2:(h.kind != 9)=false:=by simpa using h9
     by_cases o1:h.op<1
     ·have f1:decide (h.op<1)=true:=by simpa using o1
      have HB:Hd (((h.kind==9)&&(decide (h.op<1)||decide (5<h.op))||(h.kind != 9)&&(h.op != 0))=true):=by show _=_;simp [h9,o1]
      clear h9 o1;go_wp2_with fail;go_meet
      case rel=>exact⟨by rw [HB.o];try rfl,rfl⟩
     ·have f1:decide (h.op<1)=false:=by simpa using o1
      by_cases o5:5<h.op
      ·have f5:decide (5<h.op)=true:=by simpa using o5
       have HB:Hd (((h.kind==9)&&(decide (h.op<1)||decide (5<h.op))||(h.kind != 9)&&(h.op != 0))=true):=by show _=_;simp [h9,o1,o5]
       clear h9 o1 o5;go_wp2_with fail;go_meet
       case rel=>exact⟨by rw [HB.o];try rfl,rfl⟩
      ·have f5:decide (5<h.op)=false:=by simpa using o5
       have HB:Hd (((h.kind==9)&&(decide (h.op<1)||decide (5<h.op))||(h.kind != 9)&&(h.op != 0))=false):=by show _=_;simp [h9,o1,o5]
       clear h9 o1 o5;go_wp2_with fail;go_meet
       case rel=>exact⟨by rw [HB.o];try rfl,rfl⟩
    ·have e1:(h.kind==9)=false:=by simpa using h9
     have e2:(h.kind != 9)=true:=by simpa using h9
     by_cases o0:h.op=0
     ·have f0:(h.op != 0)=false:=by simpa using o0
      have HB:Hd (((h.kind==9)&&(decide (h.op<1)||decide (5<h.op))||(h.kind != 9)&&(h.op != 0))=false):=by show _=_;simp [h9,o0]
      clear h9 o0;go_wp2_with fail;go_meet
      case rel=>exact⟨by rw [HB.o];try rfl,rfl⟩
     ·have f0:(h.op != 0)=true:=by simpa using o0
      have HB:Hd (((h.kind==9)&&(decide (h.op<1)||decide (5<h.op))||(h.kind != 9)&&(h.op != 0))=true):=by show _=_;simp [h9,o0]
      clear h9 o0;go_wp2_with fail;go_meet
      case rel=>exact⟨by rw [HB.o];try rfl,rfl⟩
   case rest=>
    obtain⟨rfl,rfl⟩:=hcut;generalize bQ:((h.kind==9)&&(decide (h.op<1)||decide (5<h.op))||(h.kind != 9)&&(h.op != 0))=B2;have aK:=AA bQ;clear bQ;cases B2
    ·go_upto_region 6 with fail;go_cut [70] from 51 to 70 (fun s70 wx=>s70=.bool (decide (h.n<0)||decide (2147483647<h.n)||(h.kind != 1)&&(h.n != 0))∧wx=wc)
     case first=>
      by_cases n0:h.n<0
      ·have f1:decide (h.n<0)=true:=by simpa using n0
       have HB:Hd ((decide (h.n<0)||decide (2147483647<h.n)||(h.kind != 1)&&(h.n != 0))=true):=by show _=_;simp [n0]
       clear n0;go_wp2_with fail;go_meet
       case rel=>exact⟨by rw [HB.o];try rfl,rfl⟩
      ·have f1:decide (h.n<0)=false:=by simpa using n0
       by_cases n1:2147483647<h.n
       ·have f2:decide (2147483647<h.n)=true:=by simpa using n1
        have HB:Hd ((decide (h.n<0)||decide (2147483647<h.n)||(h.kind != 1)&&(h.n != 0))=true):=by show _=_;simp [n0,n1]
        clear n0 n1;go_wp2_with fail;go_meet
        case rel=>exact⟨by rw [HB.o];try rfl,rfl⟩
       ·have f2:decide (2147483647<h.n)=false:=by simpa using n1
        by_cases k1:h.kind=1
        ·have f3:(h.kind != 1)=false:=by simpa using k1
         have HB:Hd ((decide (h.n<0)||decide (2147483647<h.n)||(h.kind != 1)&&(h.n != 0))=false):=by show _=_;simp [n0,n1,k1]
         clear n0 n1 k1;go_wp2_with fail;go_meet
         case rel=>exact⟨by rw [HB.o];try rfl,rfl⟩
        ·have f3:(h.kind != 1)=true:=by simpa using k1
         by_cases z:h.n=0
         ·have f4:(h.n != 0)=false:=by simpa using z
          have HB:Hd ((decide (h.n<0)||decide (2147483647<h.n)||(h.kind != 1)&&(h.n != 0))=false):=by show _=_;simp [n0,n1,k1,z]
          clear n0 n1 k1 z;go_wp2_with fail;go_meet
          case rel=>exact⟨by rw [HB.o];try rfl,rfl⟩
         ·have f4:(h.n != 0)=true:=by simpa using z
          have HB:Hd ((decide (h.n<0)||decide (2147483647<h.n)||(h.kind != 1)&&(h.n != 0))=true):=by show _=_;simp [n0,n1,k1,z]
          clear n0 n1 k1 z;go_wp2_with fail;go_meet
          case rel=>exact⟨by rw [HB.o];try rfl,rfl⟩
     case rest=>
      obtain⟨rfl,rfl⟩:=hcut;generalize dq:(decide (h.n<0)||decide (2147483647<h.n)||(h.kind != 1)&&(h.n != 0))=B3;have aV:=AA dq;clear dq;cases B3
      ·go_upto_region 8 with fail;go_cut [4] from 71 to 80 (fun s wx=>s=.bool (Ec h.kind)∧wx=wc)
       case first=>
        by_cases ka:h.kind=2
        ·have e1:(h.kind==2)=true:=by simpa using ka
         have HB:Hd (Ec h.kind=true):=by show _=_;simp [Ec,ka]
         clear ka;go_wp2_with fail;go_meet
         case rel=>exact⟨by rw [HB.o],rfl⟩
        ·have e1:(h.kind==2)=false:=by simpa using ka
         by_cases kb:h.kind=12
         ·have e2:(h.kind==12)=true:=by simpa using kb
          have HB:Hd (Ec h.kind=true):=by show _=_;simp [Ec,kb]
          clear ka kb;go_wp2_with fail;go_meet
          case rel=>exact⟨by rw [HB.o],rfl⟩
         ·have e2:(h.kind==12)=false:=by simpa using kb
          by_cases kc:h.kind=13
          ·have e3:(h.kind==13)=true:=by simpa using kc
           have HB:Hd (Ec h.kind=true):=by show _=_;simp [Ec,kc]
           clear ka kb kc;go_wp2_with fail;go_meet
           case rel=>exact⟨by rw [HB.o],rfl⟩
          ·have e3:(h.kind==13)=false:=by simpa using kc
           have HB:Hd (Ec h.kind=false):=by show _=_;simp [Ec,ka,kb,kc]
           clear ka kb kc;go_wp2_with fail;go_meet
           case rel=>exact⟨by rw [HB.o],rfl⟩
       case rest=>
        obtain⟨rfl,rfl⟩:=hcut;go_upto_region 9 with fail;go_cut [5] from 81 to 90 (fun s wx=>s=.bool (Hg h.kind)∧wx=wc)
        case first=>
         by_cases ka:h.kind=11
         ·have e1:(h.kind==11)=true:=by simpa using ka
          have HB:Hd (Hg h.kind=true):=by show _=_;simp [Hg,ka]
          clear ka;go_wp2_with fail;go_meet
          case rel=>exact⟨by rw [HB.o],rfl⟩
         ·have e1:(h.kind==11)=false:=by simpa using ka
          by_cases kb:h.kind=13
          ·have e2:(h.kind==13)=true:=by simpa using kb
           have HB:Hd (Hg h.kind=true):=by show _=_;simp [Hg,kb]
           clear ka kb;go_wp2_with fail;go_meet
           case rel=>exact⟨by rw [HB.o],rfl⟩
          ·have e2:(h.kind==13)=false:=by simpa using kb
           by_cases kc:h.kind=16
           ·have e3:(h.kind==16)=true:=by simpa using kc
            have HB:Hd (Hg h.kind=true):=by show _=_;simp [Hg,kc]
            clear ka kb kc;go_wp2_with fail;go_meet
            case rel=>exact⟨by rw [HB.o],rfl⟩
           ·have e3:(h.kind==16)=false:=by simpa using kc
            have HB:Hd (Hg h.kind=false):=by show _=_;simp [Hg,ka,kb,kc]
            clear ka kb kc;go_wp2_with fail;go_meet
            case rel=>exact⟨by rw [HB.o],rfl⟩
        case rest=>
         obtain⟨rfl,rfl⟩:=hcut;go_upto_region 10 with fail;go_cut [6] from 91 to 96 (fun s wx=>s=.bool (Il h.kind)∧wx=wc)
         case first=>
          by_cases ka:h.kind=15
          ·have e1:(h.kind==15)=true:=by simpa using ka
           have HB:Hd (Il h.kind=true):=by show _=_;simp [Il,ka]
           clear ka;go_wp2_with fail;go_meet
           case rel=>exact⟨by rw [HB.o],rfl⟩
          ·have e1:(h.kind==15)=false:=by simpa using ka
           by_cases kb:h.kind=16
           ·have e2:(h.kind==16)=true:=by simpa using kb
            have HB:Hd (Il h.kind=true):=by show _=_;simp [Il,kb]
            clear ka kb;go_wp2_with fail;go_meet
            case rel=>exact⟨by rw [HB.o],rfl⟩
           ·have e2:(h.kind==16)=false:=by simpa using kb
            have HB:Hd (Il h.kind=false):=by show _=_;simp [Il,ka,kb]
            clear ka kb;go_wp2_with fail;go_meet
            case rel=>exact⟨by rw [HB.o],rfl⟩
         case rest=>
          obtain⟨rfl,rfl⟩:=hcut;obtain⟨q0,q1,q2,q3,q4,q5,q6,q7⟩:=jf.o;have g0:=fun g=>BL q0 g;have g1:=fun g=>BL q1 g;have g2:=fun g=>BL q2 g;have g3:=fun g=>BL q3 g;have g4:=fun g=>BL q4 g;have g5:=fun g=>BL q5 g;have g6:=fun g=>BL q6 g;have g7:=fun g=>BL q7 g;have hB:=Dh wc;have iy:=AA (fun g=>G4 (Ec h.kind) h.name (Ba h.name) (gw wc g));have eq:=AA (fun g=>G4 (Hg h.kind) h.arg (Ba h.arg) (gw wc g));have iH:=AA (fun g=>G4 (Il h.kind) h.exn (DC h.exn) (gw wc g));generalize lV:D0 (Ec h.kind) h.name (Ba h.name)=f1 at *
          generalize jq:D0 (Hg h.kind) h.arg (Ba h.arg)=f2 at *
          generalize gO:D0 (Il h.kind) h.exn (DC h.exn)=f3 at *
          have HR:Hd (Be h n=(f1&&f2&&f3)):=by show _=_;unfold Be;rw [iM.o,aJ.o,aK.o,aV.o,lV,jq,gO];rfl
          clear lV jq gO;go_upto_region 11 with fail;cases f1
          ·refine Aw (by kernel_rfl) (by kernel_rfl) ?_;repeat ((with_reducible refine wpQuiet_step (fun K hK=>?_));go_simp;refine hK _ ?_;clear hK K)
           refine wpQuiet_step (fun K hK=>?_);go_simp;refine⟨(.bool (Ba h.name)),fun _=>Ay (Dq h.name _),hK _ ?_⟩;clear hK K;repeat ((with_reducible refine wpQuiet_step (fun K hK=>?_));go_simp;refine hK _ ?_;clear hK K)
           refine wpQuiet_step (fun K hK=>?_);go_simp;refine⟨(.bool false),fun _=>Ay (iy.o _),hK _ ?_⟩;clear hK K;repeat ((with_reducible refine wpQuiet_step (fun K hK=>?_));go_simp;refine hK _ ?_;clear hK K)
           refine wpQuiet_nil ?_;rintro w3 ⟨g,rfl⟩;go_wp2_with fail;go_ret;exact⟨AB HR.o.symm,cx.o.trans ((hB _).mono cx.o.size)⟩
          ·cases f2
           ·refine Aw (by kernel_rfl) (by kernel_rfl) ?_;repeat ((with_reducible refine wpQuiet_step (fun K hK=>?_));go_simp;refine hK _ ?_;clear hK K)
            refine wpQuiet_step (fun K hK=>?_);go_simp;refine⟨(.bool (Ba h.name)),fun _=>Ay (Dq h.name _),hK _ ?_⟩;clear hK K;repeat ((with_reducible refine wpQuiet_step (fun K hK=>?_));go_simp;refine hK _ ?_;clear hK K)
            refine wpQuiet_step (fun K hK=>?_);go_simp;refine⟨(.bool true),fun _=>Ay (iy.o _),hK _ ?_⟩;clear hK K;repeat ((with_reducible refine wpQuiet_step (fun K hK=>?_));go_simp;refine hK _ ?_;clear hK K)
            refine wpQuiet_step (fun K hK=>?_);go_simp;refine⟨(.bool (Ba h.arg)),fun _=>Ay (Dq h.arg _),hK _ ?_⟩;clear hK K;repeat ((with_reducible refine wpQuiet_step (fun K hK=>?_));go_simp;refine hK _ ?_;clear hK K)
            refine wpQuiet_step (fun K hK=>?_);go_simp;refine⟨(.bool false),fun _=>Ay (eq.o _),hK _ ?_⟩;clear hK K;repeat ((with_reducible refine wpQuiet_step (fun K hK=>?_));go_simp;refine hK _ ?_;clear hK K)
            refine wpQuiet_nil ?_;rintro w3 ⟨g,rfl⟩;go_wp2_with fail;go_ret;exact⟨AB HR.o.symm,cx.o.trans ((hB _).mono cx.o.size)⟩
           ·refine Aw (by kernel_rfl) (by kernel_rfl) ?_;repeat ((with_reducible refine wpQuiet_step (fun K hK=>?_));go_simp;refine hK _ ?_;clear hK K)
            refine wpQuiet_step (fun K hK=>?_);go_simp;refine⟨(.bool (Ba h.name)),fun _=>Ay (Dq h.name _),hK _ ?_⟩;clear hK K;repeat ((with_reducible refine wpQuiet_step (fun K hK=>?_));go_simp;refine hK _ ?_;clear hK K)
            refine wpQuiet_step (fun K hK=>?_);go_simp;refine⟨(.bool true),fun _=>Ay (iy.o _),hK _ ?_⟩;clear hK K;repeat ((with_reducible refine wpQuiet_step (fun K hK=>?_));go_simp;refine hK _ ?_;clear hK K)
            refine wpQuiet_step (fun K hK=>?_);go_simp;refine⟨(.bool (Ba h.arg)),fun _=>Ay (Dq h.arg _),hK _ ?_⟩;clear hK K;repeat ((with_reducible refine wpQuiet_step (fun K hK=>?_));go_simp;refine hK _ ?_;clear hK K)
            refine wpQuiet_step (fun K hK=>?_);go_simp;refine⟨(.bool true),fun _=>Ay (eq.o _),hK _ ?_⟩;clear hK K;repeat ((with_reducible refine wpQuiet_step (fun K hK=>?_));go_simp;refine hK _ ?_;clear hK K)
            refine wpQuiet_step (fun K hK=>?_);go_simp;refine⟨(.bool (DC h.exn)),fun _=>Ay (LT h.exn _),hK _ ?_⟩;clear hK K;repeat ((with_reducible refine wpQuiet_step (fun K hK=>?_));go_simp;refine hK _ ?_;clear hK K)
            refine wpQuiet_step (fun K hK=>?_);go_simp;refine⟨(.bool f3),fun _=>Ay (iH.o _),hK _ ?_⟩;clear hK K;repeat ((with_reducible refine wpQuiet_step (fun K hK=>?_));go_simp;refine hK _ ?_;clear hK K)
            refine wpQuiet_nil ?_;rintro w3 ⟨g,rfl⟩;go_wp2_with fail;go_ret;exact⟨AB HR.o.symm,cx.o.trans ((hB _).mono cx.o.size)⟩
      ·have HR:Hd (Be h n=false):=by show _=_;unfold Be;rw [iM.o,aJ.o,aK.o,aV.o];rfl
       go_wp2_with fail;go_ret;exact⟨AB HR.o.symm,cx.o⟩
    ·have HR:Hd (Be h n=false):=by show _=_;unfold Be;rw [iM.o,aJ.o,aK.o];rfl
     go_wp2_with fail;go_ret;exact⟨AB HR.o.symm,cx.o⟩
  ·have HR:Hd (Be h n=false):=by show _=_;unfold Be;rw [iM.o,aJ.o];rfl
   go_wp2_with fail;go_ret;exact⟨AB HR.o.symm,cx.o⟩
def AH.hd(a:AH):CT:=⟨a.kind,a.op,a.at_,a.n,a.name,a.arg,a.exn⟩
def IA(h:CT):Bool:=(h.op==0)&&(h.n==0)&&h.arg.toList.isEmpty&&h.exn.toList.isEmpty
def Cl(h:CT)(n:Nat):Bool:=
 if h.kind=17 then IA h&&h.name.toList.isEmpty&&decide (0≤h.at_)&&((n:Int)==1)
 else if h.kind=18 then IA h&&Ba h.name&&decide (0≤h.at_)&&((n:Int)==0)
 else Be h (min n 4)
abbrev Xp:List Value:=[.int .u8 0,.int .u8 0,.int .i64 0,.int .i64 0,.string ⟨#[]⟩,.string ⟨#[]⟩,.string ⟨#[]⟩,.slice none 0 0]
def TS(_:Unit):List Value:=Xp
theorem Mb:∀x,(TS x).length=8:=fun _=>rfl
theorem Ug:∀y,∀u∈TS y,u.oneCell'=true:=by intro y u hu;simp [TS] at hu;rcases hu with rfl|rfl|rfl|rfl|rfl<;>rfl
theorem Uu:(prog.info? 53).map (fun i=>(i.zero,i.size,i.bytes))=some (some (.agg #[.int .u8 0,.int .u8 0,.int .i64 0,.int .i64 0,.string .empty,.string .empty,.string .empty,.slice none 0 0]),8,96):=by kernel_rfl
structure Gp(w:World)(g:Nat)(h:CT)(v:Value):Prop where
 blk:w.heap[g]?=some (.cells #[.int .u8 h.kind,.int .u8 h.op,.int .i64 h.at_,.int .i64 h.n,.string h.name,.string h.arg,.string h.exn,v] 53 (0,0))
theorem Gp.cells{w:World}{g:Nat}{h:CT}{v:Value}(hb:Gp w g h v):w.cell? ⟨g,0,none⟩=some (.int .u8 h.kind)∧w.cell? ⟨g,1,none⟩=some (.int .u8 h.op)∧w.cell? ⟨g,2,none⟩=some (.int .i64 h.at_)∧w.cell? ⟨g,3,none⟩=some (.int .i64 h.n)∧w.cell? ⟨g,4,none⟩=some (.string h.name)∧w.cell? ⟨g,5,none⟩=some (.string h.arg)∧w.cell? ⟨g,6,none⟩=some (.string h.exn)∧w.cell? ⟨g,7,none⟩=some v∧w.frozen? ⟨g,7,none⟩=false:=by have hb:=hb.blk;refine⟨?_,?_,?_,?_,?_,?_,?_,?_,?_⟩<;>simp [World.cell?,World.frozen?,hb]
theorem Gp.lt{w:World}{g:Nat}{h:CT}{v:Value}(hb:Gp w g h v):g<w.heap.size:=(Array.getElem?_eq_some_iff.1 hb.blk).1
theorem Gp.grown{w w':World}{g:Nat}{h:CT}{v:Value}{r:Option Nat}(hb:Gp w g h v)(hg:w.grownBy w' r)(hr:r≠some g):Gp w' g h v:=⟨by rw [hg.block g hb.lt hr.symm];exact hb.blk⟩
theorem Gp.below{w w':World}{g:Nat}{h:CT}{v:Value}(hb:Gp w g h v)(h':Below w.heap.size w w'):Gp w' g h v:=⟨by rw [h'.block g hb.lt];exact hb.blk⟩
theorem Gp.set{w:World}{g:Nat}{h:CT}{v:Value}(hb:Gp w g h v)(v':Value):Gp (w.setCell ⟨g,7,none⟩ v') g h v':=⟨by simpa using AZ (o:=7) v' hb.blk⟩
theorem P8(w:World)(h:CT)(v:Value):Gp (w.alloc (.cells #[.int .u8 h.kind,.int .u8 h.op,.int .i64 h.at_,.int .i64 h.n,.string h.name,.string h.arg,.string h.exn,v] 53)) w.heap.size h v:=⟨heap_alloc_new w _⟩
structure UN(w wr:World)(h:CT)(a:AH)(v:Value)(k:Nat):Prop where
 own:AJ TS 8 wr (w.heap.size+3) 53 v k (List.replicate k ())
 box:Gp wr (w.heap.size+2) h v
 kids:wr.cell? ⟨w.heap.size,18,none⟩=some (.slice a.kp a.kn a.kc)
 size:w.heap.size+3≤wr.heap.size
 below:Below w.heap.size w wr
theorem UN.add{w wr w3:World}{h:CT}{a:AH}{v v3:Value}{k:Nat}(hi:UN w wr h a v k)(aB:AJ TS 8 w3 (w.heap.size+3) 53 v3 (k+1) (List.replicate k ()++[()]))(f7:wr.grownBy w3 v.ownBlock):UN w (w3.setCell ⟨w.heap.size+2,7,none⟩ v3) h a v3 (k+1):=by
 have ev:∀b,v.ownBlock=some b→w.heap.size+3≤b:=fun b hb=>(World.ownsRow.lt hi.own b hb).1;have kz:∀b,v3.ownBlock=some b→w.heap.size+3≤b:=fun b hb=>(World.ownsRow.lt aB b hb).1;have bn:w3.grownBy (w3.setCell ⟨w.heap.size+2,7,none⟩ v3) (some (w.heap.size+2)):=AL _ _ _ _;have aF:=hi.size;refine⟨?_,(hi.box.grown f7 (fun e=>by have:=ev _ e;omega)).set v3,?_,Nat.le_trans hi.size (Nat.le_trans f7.size bn.size),?_⟩
 ·refine⟨by rw [List.replicate_succ'];exact aB.1,?_⟩;rw [List.replicate_succ'];rcases aB.2 with h0|⟨g,cap,cur,rfl,h1,h2,rest⟩
  ·exact .inl h0
  ·refine .inr ⟨g,cap,cur,rfl,h1,?_,rest⟩;rw [bn.block g (Array.getElem?_eq_some_iff.1 h2).1 (fun e=>by injection e with e;omega)];exact h2
 ·have h1:=hi.kids;refine Em bn (fun e=>by injection e with e;have e':w.heap.size+2=w.heap.size:=e;omega) (Em f7 (fun e=>by have:=ev _ e;have:w.heap.size+3≤w.heap.size:=this;omega) h1)
 ·exact(hi.below.grown f7 (by omega) (fun b hb=>by have:=ev b hb;omega)).grown bn (by have:=f7.size;omega) (fun b hb=>by injection hb with hb;omega)
structure We(w W:World)(a:AH):Prop where
 h:W.cell? ⟨w.heap.size+1,0,none⟩=some (.int .u8 a.kind)∧W.cell? ⟨w.heap.size+1,1,none⟩=some (.int .u8 a.op)∧W.cell? ⟨w.heap.size+1,2,none⟩=some (.int .i64 a.at_)∧W.cell? ⟨w.heap.size+1,3,none⟩=some (.int .i64 a.n) ∧
  W.cell? ⟨w.heap.size+1,4,none⟩=some (.string a.name)∧W.cell? ⟨w.heap.size+1,5,none⟩=some (.string a.arg)∧W.cell? ⟨w.heap.size+1,6,none⟩=some (.string a.exn)
 t:W.cell? ⟨w.heap.size,0,none⟩=some (.int .u8 a.kind)∧W.cell? ⟨w.heap.size,18,none⟩=some (.slice a.kp a.kn a.kc)
 below:Below w.heap.size w W
 size:W.heap.size=w.heap.size+2
theorem Xe(w:World)(a:AH):We w ((w.alloc (.cells #[.int .u8 a.kind,.int .u8 a.op,.int .i64 a.at_,.int .i64 a.n,.string a.name,.string a.arg,.string a.exn,.int .i64 a.rho,.slice a.rp a.rn a.rc,.slice a.ep a.en a.ec,.int .u8 a.ty.head.kind,.int .i64 a.ty.head.rho,.slice a.ty.head.ep a.ty.head.en a.ty.head.ec,.slice a.ty.head.kp a.ty.head.kn a.ty.head.kc,.int .u8 a.res.head.kind,.int .i64 a.res.head.rho,.slice a.res.head.ep a.res.head.en a.res.head.ec,.slice a.res.head.kp a.res.head.kn a.res.head.kc,.slice a.kp a.kn a.kc] 31)).alloc (.cells #[.int .u8 a.kind,.int .u8 a.op,.int .i64 a.at_,.int .i64 a.n,.string a.name,.string a.arg,.string a.exn] 23)) a:=by refine⟨⟨?_,?_,?_,?_,?_,?_,?_⟩,⟨?_,?_⟩,((Below.refl w.heap.size w).alloc (Nat.le_refl _) _).alloc (by simp) _,by simp⟩<;>go_simp
theorem We.drop{w W W':World}{a:AH}(h:We w W a)(hb:Below W.heap.size W W'):(W'.cell? ⟨w.heap.size+1,2,none⟩=some (.int .i64 a.at_))∧(W'.cell? ⟨w.heap.size,18,none⟩=some (.slice a.kp a.kn a.kc))∧Below w.heap.size w W':=⟨by rw [hb.cell (by rw [h.size];simp)];exact h.h.2.2.1,by rw [hb.cell (by rw [h.size];simp)];exact h.t.2,h.below.trans (hb.mono (by rw [h.size];omega))⟩
theorem IZ(a:AH)(hk:a.kn≤9223372036854775807)(w:World):Calls prog 111 #[Aj a] w (RB w (.bool (Cl a.hd a.kn))):=by
 have HI:=AA (Xe w a);go_enter func111,ntmps111;go_upto_region 2 with fail;generalize ((w.alloc (AO a)).alloc (.cells #[.int .u8 a.kind,.int .u8 a.op,.int .i64 a.at_,.int .i64 a.n,.string a.name,.string a.arg,.string a.exn] 23))=W2 at *
 obtain⟨q0,q1,q2,q3,q4,q5,q6⟩:=HI.o.h;obtain⟨r0,r1⟩:=HI.o.t;go_cut [4] from 7 to 26 (fun s4 wx=>s4=.bool (IA a.hd)∧wx=W2)
 case first=>
  have HE:Hd (IA a.hd=((a.op==0)&&(a.n==0)&&a.arg.toList.isEmpty&&a.exn.toList.isEmpty)):=rfl;cases e1:(a.op==0)
  ·go_wp2_with fail;go_meet
   case rel=>exact⟨by rw [HE.o,e1];rfl,rfl⟩
  ·cases e2:(a.n==0)
   ·go_wp2_with fail;go_meet
    case rel=>exact⟨by rw [HE.o,e1,e2];rfl,rfl⟩
   ·cases e3:a.arg.toList.isEmpty
    ·go_wp2_with fail;go_meet
     case rel=>exact⟨by rw [HE.o,e1,e2,e3];rfl,rfl⟩
    ·cases e4:a.exn.toList.isEmpty
     ·go_wp2_with fail;go_meet
      case rel=>exact⟨by rw [HE.o,e1,e2,e3,e4];rfl,rfl⟩
     ·go_wp2_with fail;go_meet
      case rel=>exact⟨by rw [HE.o,e1,e2,e3,e4];rfl,rfl⟩
 case rest=>
  obtain⟨rfl,rfl⟩:=hcut;have HU:Hd (Cl a.hd a.kn=if a.kind=17 then IA a.hd&&a.name.toList.isEmpty&&decide (0≤a.at_)&&((a.kn:Int)==1) else if a.kind=18 then IA a.hd&&Ba a.name&&decide (0≤a.at_)&&((a.kn:Int)==0) else Be a.hd (min a.kn 4)):=rfl;generalize hB:IA a.hd=B at *
  have HB:=AA hB;clear hB;by_cases k17:a.kind=17
  ·have e0:(a.kind==17)=true:=by simpa using k17
   have HV:Hd (Cl a.hd a.kn=(B&&a.name.toList.isEmpty&&decide (0≤a.at_)&&((a.kn:Int)==1))):=by show _=_;rw [HU.o,if_pos k17]
   clear k17;cases B
   ·go_wp2_with fail;go_ret;exact⟨AB (by rw [HV.o];rfl),HI.o.below⟩
   ·cases e1:a.name.toList.isEmpty
    ·go_wp2_with fail;go_ret;exact⟨AB (by rw [HV.o,e1];rfl),HI.o.below⟩
    ·cases e2:decide (0≤a.at_)
     ·go_wp2_with fail;go_ret;exact⟨AB (by rw [HV.o,e1,e2];rfl),HI.o.below⟩
     ·go_wp2_with fail;go_ret;exact⟨AB (by rw [HV.o,e1,e2];rfl),HI.o.below⟩
  ·have e0:(a.kind==17)=false:=by simpa using k17
   by_cases k18:a.kind=18
   ·have e00:(a.kind==18)=true:=by simpa using k18
    have HV:Hd (Cl a.hd a.kn=(B&&Ba a.name&&decide (0≤a.at_)&&((a.kn:Int)==0))):=by show _=_;rw [HU.o,if_neg k17,if_pos k18]
    clear k17 k18;cases B
    ·go_wp2_with fail;go_ret;exact⟨AB (by rw [HV.o];rfl),HI.o.below⟩
    ·go_wp2_with fail;refine(Dq a.name _).mono ?_;rintro e w1 ⟨rfl,hb⟩;obtain⟨s2,s18,bz⟩:=HI.o.drop hb;have aJ:=AA bz;clear hb bz;cases e1:Ba a.name
     ·go_wp2_with fail;go_ret;exact⟨AB (by rw [HV.o,e1];rfl),aJ.o⟩
     ·cases e2:decide (0≤a.at_)
      ·go_wp2_with fail;go_ret;exact⟨AB (by rw [HV.o,e1,e2];rfl),aJ.o⟩
      ·go_wp2_with fail;go_ret;exact⟨AB (by rw [HV.o,e1,e2];rfl),aJ.o⟩
   ·have e00:(a.kind==18)=false:=by simpa using k18
    have HV:Hd (Cl a.hd a.kn=Be a.hd (min a.kn 4)):=by show _=_;rw [HU.o,if_neg k17,if_neg k18]
    clear k17 k18
    have HZ:Hd (UN w (wc.alloc (.cells #[.int .u8 a.kind,.int .u8 a.op,.int .i64 a.at_,.int .i64 a.n,.string a.name,.string a.arg,.string a.exn,.slice none 0 0] 53)) a.hd a (.slice none 0 0) 0):=by
     have h1:=P8 wc a.hd (.slice none 0 0);have h2:=HI.o.size;refine⟨AJ.nil _ _ _ _ _,?_,?_,by simp;omega,HI.o.below.alloc (by omega) _⟩
     ·rw [h2] at h1;exact h1
     ·rw [((Below.refl wc.heap.size wc).alloc (Nat.le_refl _) _).cell (by rw [h2];simp)];exact HI.o.t.2
    have aU:=HI.o.size;have gV:=HI.o.below;go_upto_region 8 with fail;clear q0 q1 q2 q3 q4 q5 q6 r0 r1;generalize wc.alloc (.cells #[.int .u8 a.kind,.int .u8 a.op,.int .i64 a.at_,.int .i64 a.n,.string a.name,.string a.arg,.string a.exn,.slice none 0 0] 53)=W3 at *
    go_wp2_with fail;clear aU gV;go_loopw [6] (fun i wr=>∃(k:Nat) (v:Value),k≤a.kn∧k≤4∧i=.int .i64 k∧UN w wr a.hd a v k) (fun i _=>4-(intOf i).toNat)
    case atStart=>exact⟨0,_,by omega,by omega,rfl,HZ.o⟩
    case round=>
     obtain⟨k,v,cQ,lX,rfl,hz⟩:=hrel;have eF:=AA hz;have r1:=hz.kids;obtain⟨x0,x1,x2,x3,x4,x5,x6,x7,x8⟩:=hz.box.cells;have ds:=hz.box.lt;clear hz;by_cases aF:k<a.kn∧k<4
     ·obtain⟨pI,jw⟩:=aF;have lJ:=AA (eF.o.below);have fi:=AA (eF.o.size);go_wp2_with (at_builtin;refine Ae rfl _ _ 51 rfl (w.heap.size+3) 53 _ 8 96 underlying51 Uu rfl (by decide) TS Mb Ug () _ _ _ eF.o.own rfl rfl ?c1 ?c2 ?c3 ?_)
      case c1=>omega
      case c2=>omega
      case c3=>have:=fi.o;omega
      ·intro v3 w3 aX bM;obtain⟨p3,c3,rfl,bP⟩:=AJ.isRow Mb (by omega) aX;clear bP;have HA:=AA (eF.o.add aX bM);have f7:=bM;have dB:=AA (eF.o.box.grown f7 (fun e=>by have:=(World.ownsRow.lt eF.o.own _ e).1;omega));clear x0 x1 x2 x3 x4 x5 x6 x7 x8 r1;obtain⟨x0,x1,x2,x3,x4,x5,x6,x7,x8⟩:=dB.o.cells;clear aX bM f7;go_wp2_with fail;go_roundw
       case rel=>exact⟨k+1,_,by omega,by omega,by go_num,HA.o⟩
       case measure=>simp [intOf];omega
     ·have HN:=AA (fun p c W=>M0 a.hd p k c (by omega) W);obtain⟨p',c',rfl,aD⟩:=eF.o.own.isRow Mb (by omega);clear aD;have dr:min a.kn 4=k:=by omega
      have HK:=AA dr;clear dr;rcases (by omega:¬k<a.kn∨(k<a.kn∧¬k<4)) with h1|⟨h1,h2⟩
      ·clear aF;go_wp2_with fail;refine(HN.o p' c' wr).mono ?_;rintro e w4 ⟨rfl,hb⟩;have av:=AA (eF.o.below.trans (hb.mono eF.o.below.size));clear hb;go_wp2_with fail;go_ret;exact⟨AB (by rw [HV.o,HK.o]),av.o⟩
      ·clear aF;go_wp2_with fail;refine(HN.o p' c' wr).mono ?_;rintro e w4 ⟨rfl,hb⟩;have av:=AA (eF.o.below.trans (hb.mono eF.o.below.size));clear hb;go_wp2_with fail;go_ret;exact⟨AB (by rw [HV.o,HK.o]),av.o⟩
end Go.Proofs.YtkdjnegfnhldpaaGreatDoor
