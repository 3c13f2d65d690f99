/- Part 23 of the texts: To, St. -/
import Derived.Test.YtdlbjngpohkglaaGreatDoorG22
section
set_option linter.unusedVariables false
set_option maxRecDepth 100000
set_option linter.unusedSimpArgs false
namespace Go.Proofs.YtdlbjngpohkglaaGreatDoor
open Go.RowKit

def encSh (x : Int × ByteArray) : List Value := [.int .i64 x.1, .string x.2]
theorem encSh_len (x : Int × ByteArray) : (encSh x).length = 2 := rfl
def shapesL : List (Int × ByteArray) := [(0, ⟨#[110]⟩), (0, ⟨#[109]⟩), (2, ⟨#[]⟩), (1, ⟨#[]⟩), (1, ⟨#[]⟩), (1, ⟨#[]⟩), (1, ⟨#[]⟩), (2, ⟨#[]⟩), (2, ⟨#[111]⟩), (2, ⟨#[]⟩), (1, ⟨#[97]⟩), (2, ⟨#[109]⟩), (2, ⟨#[109, 97]⟩), (3, ⟨#[]⟩), (1, ⟨#[101]⟩), (2, ⟨#[101, 97]⟩)]
set_option maxHeartbeats 2000000 in
theorem shapes_any (w : World) : Calls Tryz.prog 126 #[] w fun e w' => e = .returned (.slice (some ⟨w.heap.size, 0, none⟩) 16 16) ∧ RowE encSh 2 w' (some ⟨w.heap.size, 0, none⟩) shapesL ∧ Below w.heap.size w w' := by
  go_enter Tryz.func126, Tryz.ntmps126
  go_wp2_with fail
  go_ret
  exact ⟨rfl, RowE.newAt encSh_len _ shapesL _ (by simp [encSh, shapesL]) _ _ _ rfl, (Below.refl _ _).alloc (Nat.le_refl _) _⟩
/-- what a kind's shape tells -/
structure Shape (k : Int) (kd : Int) (s : ByteArray) : Prop where
  kids : kidsI k = kd
  k0 : 0 ≤ kd
  k3 : kd ≤ 3
  size : s.size ≤ 1000
  o : hasB s 111 = (k == 9)
  n : hasB s 110 = (k == 1)
  m : hasB s 109 = wName k
  a : hasB s 97 = wArg k
  e : hasB s 101 = wExn k
theorem shape_at (j : Nat) (h : j < 16) : ∃ kd s, shapesL[j]? = some (kd, s) ∧ Shape ((j : Int) + 1) kd s := by
  rcases (by omega : j = 0 ∨ j = 1 ∨ j = 2 ∨ j = 3 ∨ j = 4 ∨ j = 5 ∨ j = 6 ∨ j = 7 ∨ j = 8 ∨ j = 9 ∨ j = 10 ∨ j = 11 ∨ j = 12 ∨ j = 13 ∨ j = 14 ∨ j = 15) with rfl | rfl | rfl | rfl | rfl | rfl | rfl | rfl | rfl | rfl | rfl | rfl | rfl | rfl | rfl | rfl <;>
    exact ⟨_, _, rfl, by decide, by decide, by decide, by decide, by decide, by decide, by decide, by decide, by decide⟩
theorem node4B_low {h : HeadV} (n : Nat) (hk : h.kind < 1 ∨ 16 < h.kind ∨ h.at_ < 0) : node4B h n = false := by
  unfold node4B
  rcases hk with hk | hk | hk
  · have : kidsI h.kind = -1 := by unfold kidsI; rw [if_neg (by omega), if_neg (by omega), if_neg (by omega), if_neg (by omega)]
    rw [this]; simp
  · have : kidsI h.kind = -1 := by unfold kidsI; rw [if_neg (by omega), if_neg (by omega), if_neg (by omega), if_neg (by omega)]
    rw [this]; simp
  · have : decide (h.at_ < 0) = true := by simpa using hk
    rw [this]; simp
def opB (o : Int) : Bool := decide (1 ≤ o) && decide (o ≤ 5)
theorem node4B_eq {k op at_ m : Int} {name arg exn : ByteArray} {n : Nat} {kd : Int} {s : ByteArray} (hS : Shape k kd s) (h3 : 0 ≤ at_) :
    node4B ⟨k, op, at_, m, name, arg, exn⟩ n = (!(((n : Int) != kd) || (hasB s 111 && !opB op || !hasB s 111 && (op != 0))) && !(decide (m < 0) || decide (m > 2147483647) || !hasB s 110 && (m != 0)) && (fieldB (hasB s 109) nameB name && fieldB (hasB s 97) nameB arg && fieldB (hasB s 101) exnB exn)) := by
  have hf : ∀ (b : Bool) (q : ByteArray → Bool) (t : ByteArray), fitsB b t (q t) = fieldB b q t := by
    intro b q t
    cases b
    · unfold fitsB fieldB
      have : t.toList.isEmpty = decide (t.size = 0) := by
        rw [Lib.toList_data]
        obtain ⟨⟨l⟩⟩ := t
        cases l with
        | nil => rfl
        | cons b l => show false = decide (l.length + 1 = 0); simp
      simp [this]
    · simp [fitsB, fieldB]
  have hk0 : decide (kidsI k < 0) = false := by rw [hS.kids]; have := hS.k0; simp; omega
  have ha : decide (at_ < 0) = false := by simp; omega
  have ho : (decide (op < 1) || decide (5 < op)) = !opB op := by
    unfold opB
    rw [Bool.eq_iff_iff]
    simp
  show (!(decide (kidsI k < 0) || ((n : Int) != kidsI k) || decide (at_ < 0)) && !((k == 9) && (decide (op < 1) || decide (5 < op)) || (k != 9) && (op != 0)) &&
    !(decide (m < 0) || decide (2147483647 < m) || (k != 1) && (m != 0)) && (fitsB (wName k) name (nameB name) && fitsB (wArg k) arg (nameB arg) && fitsB (wExn k) exn (exnB exn))) = _
  rw [hk0, ha, hf, hf, hf, ho, hS.kids, hS.o, hS.n, hS.m, hS.a, hS.e]
  have e9 : (k != 9) = !(k == 9) := rfl
  have e1 : (k != 1) = !(k == 1) := rfl
  rw [e9, e1]
  simp only [Bool.false_or, Bool.or_false, Bool.not_or, gt_iff_lt]
set_option maxHeartbeats 4000000 in
theorem term_node_low (h : HeadV) (p : Option Addr) (n c : Nat) (hk0 : 0 ≤ h.kind) (hk1 : h.kind ≤ 255) (w : World) (hk : h.kind < 1 ∨ 16 < h.kind ∨ h.at_ < 0) :
    Calls Tryz.prog 103 #[aggTm h p n c] w fun e w' => e = .returned (.bool (node4B h n)) ∧ Below w.heap.size w w' := by
  have HR := Lib.hid (node4B_low n hk)
  have HBX := Lib.hid ((Below.refl w.heap.size w).alloc (Nat.le_refl _) (boxTm h p n c))
  have HC := Lib.hid (cellsTm_new w h p n c)
  have hwr : IntKind.i64.wrap h.kind = h.kind := IntWalk.i64_in _ (by omega)
  go_enter Tryz.func103, Tryz.ntmps103
  go_wp2_with (go_at_call 126; refine (shapes_any _).mono ?_; rintro e w2 ⟨rfl, hr2, hb⟩; have HC2 := Lib.hid (HC.out.below hb); have HB2 := Lib.hid (HBX.out.trans (hb.mono HBX.out.size)); clear hr2 hb; obtain ⟨q0, q1, q2, q3, q4, q5, q6, q7⟩ := HC2.out)
  all_goals (go_ret; exact ⟨ret_bool HR.out.symm, HB2.out⟩)
/-- the two boxes of term.node -/
structure NdIn (w W : World) (g : Nat) (h : HeadV) (p : Option Addr) (n c : Nat) (kd : Int) (s : ByteArray) : Prop where
  tm : CellsTm W w.heap.size h p n c
  s0 : W.cell? ⟨g, 0, none⟩ = some (.int .i64 kd)
  s1 : W.cell? ⟨g, 1, none⟩ = some (.string s)
  below : Below w.heap.size w W
theorem NdIn.drop {w W W' : World} {g : Nat} {h : HeadV} {p : Option Addr} {n c : Nat} {kd : Int} {s : ByteArray} (hi : NdIn w W g h p n c kd s) (hb : Below W.heap.size W W') : NdIn w W' g h p n c kd s := by
  have hlt : g < W.heap.size := cell_block hi.s0
  exact ⟨hi.tm.below hb, by rw [hb.cell hlt]; exact hi.s0, by rw [hb.cell hlt]; exact hi.s1, hi.below.trans (hb.mono hi.below.size)⟩
theorem shape_has_is {k : Int} {s : ByteArray} {x : Int} {r : Bool} (h : hasB s x = r) (hs : s.size ≤ 1000) (w : World) :
    Calls Tryz.prog 127 #[.agg #[.int .i64 k, .string s], .int .u8 x] w fun e w' => e = .returned (.bool r) ∧ Below w.heap.size w w' := by
  subst h; exact shape_has_any k s x hs w
set_option maxHeartbeats 4000000 in
theorem term_node_high (j : Nat) (hj : j < 16) (op at_ m : Int) (name arg exn : ByteArray) (p : Option Addr) (n c : Nat) (hn : n ≤ 1000000) (h3 : 0 ≤ at_) (w : World) (hv : Vr w) :
    Calls Tryz.prog 103 #[aggTm ⟨(j : Int) + 1, op, at_, m, name, arg, exn⟩ p n c] w fun e w' => e = .returned (.bool (node4B ⟨(j : Int) + 1, op, at_, m, name, arg, exn⟩ n)) ∧ Below w.heap.size w w' := by
  obtain ⟨kd, s, hsh, hS⟩ := shape_at j hj
  have HR := Lib.hid (node4B_eq (op := op) (m := m) (name := name) (arg := arg) (exn := exn) (n := n) hS h3)
  have HBX := Lib.hid ((Below.refl w.heap.size w).alloc (Nat.le_refl _) (boxTm ⟨(j : Int) + 1, op, at_, m, name, arg, exn⟩ p n c))
  have HC := Lib.hid (cellsTm_new w ⟨(j : Int) + 1, op, at_, m, name, arg, exn⟩ p n c)
  have hss := hS.size
  have HV := Lib.hid hv
  have HSH := Lib.hid hsh
  clear hv hsh hS
  have hwr : IntKind.i64.wrap ((j : Int) + 1) = (j : Int) + 1 := IntWalk.i64_in _ (by omega)
  have hu1 : IntKind.u8.wrap ((j : Int) + 1 - 1) = (j : Int) := by rw [show (j : Int) + 1 - 1 = (j : Int) by omega]; exact IntWalk.u8_in _ (by omega)
  have hu2 : IntKind.u8.wrap (j : Int) = (j : Int) := IntWalk.u8_in _ (by omega)
  have d1 : decide ((j : Int) + 1 < 1) = false := by simp; omega
  have d2 : decide ((16 : Int) < (j : Int) + 1) = false := by simp; omega
  have d3 : decide (at_ < 0) = false := by simp; omega
  go_enter Tryz.func103, Tryz.ntmps103
  go_upto_region 2 with (go_at_call 126; refine (shapes_any _).mono ?_; rintro e w2 ⟨rfl, hr2, hb⟩; have HC2 := Lib.hid (HC.out.below hb); have HB2 := Lib.hid (HBX.out.trans (hb.mono HBX.out.size)); have HR2 := Lib.hid hr2; clear hr2 hb)
  obtain ⟨b, o, hbo, hbl, hcs⟩ := HR2.out.elem HSH.out
  have hbo1 : b = w.heap.size + 1 ∧ o = 0 := by
    injection hbo with h1
    injection h1 with h1 h2
    exact ⟨by rw [← h1]; simp, h2.symm⟩
  obtain ⟨rfl, rfl⟩ := hbo1
  have r0 : w2.cell? ⟨w.heap.size + 1, j * 2, none⟩ = some (.int .i64 kd) := by simpa using hcs 0 _ rfl
  have r1 : w2.cell? ⟨w.heap.size + 1, j * 2 + 1, none⟩ = some (.string s) := by simpa using hcs 1 _ rfl
  have HN : Hid (NdIn w (w2.alloc (.cells #[.int .i64 kd, .string s] 145)) w2.heap.size ⟨(j : Int) + 1, op, at_, m, name, arg, exn⟩ p n c kd s) :=
    Lib.hid ⟨HC2.out.below ((Below.refl _ _).alloc (Nat.le_refl _) _), by rw [cell_new]; rfl, by rw [cell_new]; rfl, HB2.out.alloc HB2.out.size _⟩
  obtain ⟨q0, q1, q2, q3, q4, q5, q6, q7⟩ := HC2.out
  clear hbo hbl hcs
  go_upto_region 5 with fail
  generalize w2.alloc (.cells #[.int .i64 kd, .string s] 145) = W1 at *
  clear q0 q1 q2 q3 q4 q5 q6 q7 r0 r1
  obtain ⟨⟨q0, q1, q2, q3, q4, q5, q6, q7⟩, r0, r1, hbel⟩ := HN.out
  go_cut [5] from 33 to 42 (fun s5 wx => s5 = .bool (opB op) ∧ wx = W1)
  case first =>
    by_cases o1 : 1 ≤ op
    · have e1 : decide (op ≥ 1) = true := by simpa using o1
      by_cases o5 : op ≤ 5
      · have e2 : decide (op ≤ 5) = true := by simpa using o5
        have HB : Hid (opB op = true) := by show _ = _; simp [opB, o1, o5]
        clear o1 o5
        go_wp2_with fail
        go_meet
        case rel => exact ⟨by rw [HB.out], rfl⟩
      · have e2 : decide (op ≤ 5) = false := by simpa using o5
        have HB : Hid (opB op = false) := by show _ = _; simp [opB, o5]
        clear o1 o5
        go_wp2_with fail
        go_meet
        case rel => exact ⟨by rw [HB.out], rfl⟩
    · have e1 : decide (op ≥ 1) = false := by simpa using o1
      have HB : Hid (opB op = false) := by show _ = _; simp [opB, o1]
      clear o1
      go_wp2_with fail
      go_meet
      case rel => exact ⟨by rw [HB.out], rfl⟩
  case rest =>
    obtain ⟨rfl, rfl⟩ := hcut
    generalize opB op = B5 at *
    have HasO := Lib.hid (fun w => shape_has_is (k := kd) (s := s) (x := 111) rfl hss w)
    have HasN := Lib.hid (fun w => shape_has_is (k := kd) (s := s) (x := 110) rfl hss w)
    generalize hasB s 111 = O at *
    generalize hasB s 110 = N at *
    by_cases hnk : (n : Int) = kd
    · have f1 : ((n : Int) != kd) = false := by simpa using hnk
      have f2 : decide ((n : Int) = kd) = true := by simpa using hnk
      have HF1 := Lib.hid f1
      clear hnk
      go_upto_region 7 with fail
      go_cut [43] from 50 to 66 (fun s43 wx => s43 = .bool (O && !B5 || !O && (op != 0)) ∧ NdIn w wx w2.heap.size ⟨(j : Int) + 1, op, at_, m, name, arg, exn⟩ p n c kd s)
      case first =>
        cases O
        · by_cases o0 : op = 0
          · have e0 : (op != 0) = false := by simpa using o0
            have HB := Lib.hid e0
            clear o0
            go_wp2_with (go_at_call 127; refine (HasO.out _).mono ?_; rintro e w8 ⟨rfl, hb⟩; have HN := Lib.hid (HN.out.drop hb); clear hb q0 q1 q2 q3 q4 q5 q6 q7 r0 r1 hbel; obtain ⟨⟨q0, q1, q2, q3, q4, q5, q6, q7⟩, r0, r1, hbel⟩ := HN.out)
            go_meet
            case rel => exact ⟨by rw [HB.out]; rfl, HN.out⟩
          · have e0 : (op != 0) = true := by simpa using o0
            have HB := Lib.hid e0
            clear o0
            go_wp2_with (go_at_call 127; refine (HasO.out _).mono ?_; rintro e w8 ⟨rfl, hb⟩; have HN := Lib.hid (HN.out.drop hb); clear hb q0 q1 q2 q3 q4 q5 q6 q7 r0 r1 hbel; obtain ⟨⟨q0, q1, q2, q3, q4, q5, q6, q7⟩, r0, r1, hbel⟩ := HN.out)
            go_meet
            case rel => exact ⟨by rw [HB.out]; rfl, HN.out⟩
        · cases B5
          · go_wp2_with (go_at_call 127; refine (HasO.out _).mono ?_; rintro e w8 ⟨rfl, hb⟩; have HN := Lib.hid (HN.out.drop hb); clear hb q0 q1 q2 q3 q4 q5 q6 q7 r0 r1 hbel; obtain ⟨⟨q0, q1, q2, q3, q4, q5, q6, q7⟩, r0, r1, hbel⟩ := HN.out)
            go_meet
            case rel => exact ⟨rfl, HN.out⟩
          · go_wp2_with (go_at_call 127; refine (HasO.out _).mono ?_; rintro e w8 ⟨rfl, hb⟩; have HN := Lib.hid (HN.out.drop hb); clear hb q0 q1 q2 q3 q4 q5 q6 q7 r0 r1 hbel; obtain ⟨⟨q0, q1, q2, q3, q4, q5, q6, q7⟩, r0, r1, hbel⟩ := HN.out)
            go_meet
            case rel => exact ⟨rfl, HN.out⟩
      case rest =>
        obtain ⟨rfl, hN1⟩ := hcut
        have HN1 := Lib.hid hN1
        clear hN1 q0 q1 q2 q3 q4 q5 q6 q7 r0 r1 hbel
        obtain ⟨⟨q0, q1, q2, q3, q4, q5, q6, q7⟩, r0, r1, hbel⟩ := HN1.out
        generalize hb7' : (O && !B5 || !O && (op != 0)) = B7 at *
        have HB7 := Lib.hid hb7'
        clear hb7'
        cases B7
        · go_upto_region 9 with fail
          have HN := HN1
          go_cut [67] from 68 to 88 (fun s67 wx => s67 = .bool (decide (m < 0) || decide (m > 2147483647) || !N && (m != 0)) ∧ NdIn w wx w2.heap.size ⟨(j : Int) + 1, op, at_, m, name, arg, exn⟩ p n c kd s)
          case first =>
            by_cases m0 : m < 0
            · have e0 : decide (m < 0) = true := by simpa using m0
              have HB := Lib.hid e0
              clear m0
              go_wp2_with fail
              go_meet
              case rel => exact ⟨by rw [HB.out]; rfl, HN.out⟩
            · have e0 : decide (m < 0) = false := by simpa using m0
              have HB := Lib.hid e0
              by_cases m1 : m > 2147483647
              · have e1 : decide (m > 2147483647) = true := by simpa using m1
                have HB1 := Lib.hid e1
                clear m0 m1
                go_wp2_with fail
                go_meet
                case rel => exact ⟨by rw [HB.out, HB1.out]; rfl, HN.out⟩
              · have e1 : decide (m > 2147483647) = false := by simpa using m1
                have HB1 := Lib.hid e1
                clear m0 m1
                cases N
                · by_cases mz : m = 0
                  · have e2 : (m != 0) = false := by simpa using mz
                    have HB2' := Lib.hid e2
                    clear mz
                    go_wp2_with (go_at_call 127; refine (HasN.out _).mono ?_; rintro e w8 ⟨rfl, hb⟩; have HN := Lib.hid (HN.out.drop hb); clear hb q0 q1 q2 q3 q4 q5 q6 q7 r0 r1 hbel; obtain ⟨⟨q0, q1, q2, q3, q4, q5, q6, q7⟩, r0, r1, hbel⟩ := HN.out)
                    go_meet
                    case rel => exact ⟨by rw [HB.out, HB1.out, HB2'.out]; rfl, HN.out⟩
                  · have e2 : (m != 0) = true := by simpa using mz
                    have HB2' := Lib.hid e2
                    clear mz
                    go_wp2_with (go_at_call 127; refine (HasN.out _).mono ?_; rintro e w8 ⟨rfl, hb⟩; have HN := Lib.hid (HN.out.drop hb); clear hb q0 q1 q2 q3 q4 q5 q6 q7 r0 r1 hbel; obtain ⟨⟨q0, q1, q2, q3, q4, q5, q6, q7⟩, r0, r1, hbel⟩ := HN.out)
                    go_meet
                    case rel => exact ⟨by rw [HB.out, HB1.out, HB2'.out]; rfl, HN.out⟩
                · go_wp2_with (go_at_call 127; refine (HasN.out _).mono ?_; rintro e w8 ⟨rfl, hb⟩; have HN := Lib.hid (HN.out.drop hb); clear hb q0 q1 q2 q3 q4 q5 q6 q7 r0 r1 hbel; obtain ⟨⟨q0, q1, q2, q3, q4, q5, q6, q7⟩, r0, r1, hbel⟩ := HN.out)
                  go_meet
                  case rel => exact ⟨by rw [HB.out, HB1.out]; rfl, HN.out⟩
          case rest =>
            obtain ⟨rfl, hN2⟩ := hcut
            have HN := Lib.hid hN2
            clear hN2 q0 q1 q2 q3 q4 q5 q6 q7 r0 r1 hbel
            obtain ⟨⟨q0, q1, q2, q3, q4, q5, q6, q7⟩, r0, r1, hbel⟩ := HN.out
            generalize hb9 : (decide (m < 0) || decide (m > 2147483647) || !N && (m != 0)) = B9 at *
            have HB9 := Lib.hid hb9
            clear hb9
            cases B9
            · have HSN := Lib.hid (fun (W : World) (hb : Below w.heap.size w W) => shape_field_any (fid := 129) (q := nameB) (fun args w => by kernel_rfl) kd s 109 name hss (says_Name (HV.out.below hb)))
              have HSA := Lib.hid (fun (W : World) (hb : Below w.heap.size w W) => shape_field_any (fid := 129) (q := nameB) (fun args w => by kernel_rfl) kd s 97 arg hss (says_Name (HV.out.below hb)))
              have HSE := Lib.hid (fun (W : World) (hb : Below w.heap.size w W) => shape_field_any (fid := 108) (q := exnB) (fun args w => by kernel_rfl) kd s 101 exn hss (says_Exn W))
              have HRR := Lib.hid (show node4B ⟨(j : Int) + 1, op, at_, m, name, arg, exn⟩ n = (fieldB (hasB s 109) nameB name && fieldB (hasB s 97) nameB arg && fieldB (hasB s 101) exnB exn) by rw [HR.out, HF1.out]; simp)
              generalize fieldB (hasB s 109) nameB name = F1 at *
              generalize fieldB (hasB s 97) nameB arg = F2 at *
              generalize fieldB (hasB s 101) exnB exn = F3 at *
              have HX := HSN
              have HY := HSA
              have HZ := HSE
              go_upto_region 11 with fail
              cases F1
              · go_wp2_with (go_at_call 128; refine (HX.out _ hbel).mono ?_; rintro e w8 ⟨rfl, hb⟩; have HN := Lib.hid (HN.out.drop hb); clear hb q0 q1 q2 q3 q4 q5 q6 q7 r0 r1 hbel; obtain ⟨⟨q0, q1, q2, q3, q4, q5, q6, q7⟩, r0, r1, hbel⟩ := HN.out; have HX := HY; have HY := HZ)
                go_ret
                exact ⟨ret_bool (by rw [HRR.out]; rfl), hbel⟩
              · cases F2
                · go_wp2_with (go_at_call 128; refine (HX.out _ hbel).mono ?_; rintro e w8 ⟨rfl, hb⟩; have HN := Lib.hid (HN.out.drop hb); clear hb q0 q1 q2 q3 q4 q5 q6 q7 r0 r1 hbel; obtain ⟨⟨q0, q1, q2, q3, q4, q5, q6, q7⟩, r0, r1, hbel⟩ := HN.out; have HX := HY; have HY := HZ)
                  go_ret
                  exact ⟨ret_bool (by rw [HRR.out]; rfl), hbel⟩
                · go_wp2_with (go_at_call 128; refine (HX.out _ hbel).mono ?_; rintro e w8 ⟨rfl, hb⟩; have HN := Lib.hid (HN.out.drop hb); clear hb q0 q1 q2 q3 q4 q5 q6 q7 r0 r1 hbel; obtain ⟨⟨q0, q1, q2, q3, q4, q5, q6, q7⟩, r0, r1, hbel⟩ := HN.out; have HX := HY; have HY := HZ)
                  go_ret
                  exact ⟨ret_bool (by rw [HRR.out]; rfl), hbel⟩
            · go_wp2_with fail
              go_ret
              exact ⟨ret_bool (by rw [HR.out]; simp), hbel⟩
        · go_wp2_with fail
          go_ret
          exact ⟨ret_bool (by rw [HR.out, HF1.out]; simp), hbel⟩
    · have f1 : ((n : Int) != kd) = true := by simpa using hnk
      have f2 : decide ((n : Int) = kd) = false := by simpa using hnk
      have HF1 := Lib.hid f1
      clear hnk
      go_wp2_with fail
      go_ret
      exact ⟨ret_bool (by rw [HR.out, HF1.out]; simp), hbel⟩
theorem term_node_any (h : HeadV) (hk0 : 0 ≤ h.kind) (hk1 : h.kind ≤ 255) (p : Option Addr) (n c : Nat) (hn : n ≤ 1000000) (w : World) (hv : Vr w) :
    Calls Tryz.prog 103 #[aggTm h p n c] w fun e w' => e = .returned (.bool (node4B h n)) ∧ Below w.heap.size w w' := by
  by_cases hk : h.kind < 1 ∨ 16 < h.kind ∨ h.at_ < 0
  · exact term_node_low h p n c hk0 hk1 w hk
  · obtain ⟨k, op, at_, m, name, arg, exn⟩ := h
    simp only [not_or] at hk
    obtain ⟨j, hj⟩ : ∃ j : Nat, k = (j : Int) + 1 := ⟨(k - 1).toNat, by omega⟩
    subst hj
    exact term_node_high j (by omega) op at_ m name arg exn p n c hn (by omega) w hv
end Go.Proofs.YtdlbjngpohkglaaGreatDoor
end
section
set_option linter.unusedVariables false
set_option maxRecDepth 100000
set_option linter.unusedSimpArgs false
namespace Go.Proofs.YtdlbjngpohkglaaGreatDoor
open Go.RowKit

def encO (_ : Unit) : List Value := [.int .u8 1, .int .u8 0, .int .i64 0, .int .i64 0, .string ⟨#[]⟩, .string ⟨#[]⟩, .string ⟨#[]⟩, .slice none 0 0]
theorem encO_len : ∀ x, (encO x).length = 8 := fun _ => rfl
theorem encO_one : ∀ y, ∀ u ∈ encO y, u.oneCell' = true := by
  intro y u hu
  simp [encO] at hu
  rcases hu with rfl | rfl | rfl | rfl | rfl | rfl <;> rfl
abbrev zTmO : Obj := .cells #[.int .u8 0, .int .u8 0, .int .i64 0, .int .i64 0, .string ⟨#[]⟩, .string ⟨#[]⟩, .string ⟨#[]⟩, .slice none 0 0] 86
/-- out.Kids = append(out.Kids, ..), k times so far -/
structure SInv (w wr : World) (h : HeadV) (a : AH) (v : Value) (k : Nat) : Prop where
  own : OwnE encO 8 wr (w.heap.size + 3) 86 v k (List.replicate k ())
  box : Box8 wr (w.heap.size + 2) h v
  res : wr.heap[w.heap.size + 1]? = some zTmO
  size : w.heap.size + 3 ≤ wr.heap.size
  below : Below w.heap.size w wr
theorem SInv.add {w wr w3 : World} {h : HeadV} {a : AH} {v v3 : Value} {k : Nat} (hi : SInv w wr h a v k) (hown : OwnE encO 8 w3 (w.heap.size + 3) 86 v3 (k + 1) (List.replicate k () ++ [()])) (hgw : wr.grownBy w3 v.ownBlock) :
    SInv w (w3.setCell ⟨w.heap.size + 2, 7, none⟩ v3) h a v3 (k + 1) := by
  have hfr : ∀ b, v.ownBlock = some b → w.heap.size + 3 ≤ b := fun b hb => (World.ownsRow.lt hi.own b hb).1
  have hfr3 : ∀ b, v3.ownBlock = some b → w.heap.size + 3 ≤ b := fun b hb => (World.ownsRow.lt hown b hb).1
  have hgs : w3.grownBy (w3.setCell ⟨w.heap.size + 2, 7, none⟩ v3) (some (w.heap.size + 2)) := grown_setCell1 _ _ _ _
  have hlt := hi.size
  refine ⟨?_, (hi.box.grown hgw (fun e => by have := hfr _ e; omega)).set v3, ?_, Nat.le_trans hi.size (Nat.le_trans hgw.size hgs.size), ?_⟩
  · refine ⟨by rw [List.replicate_succ']; exact hown.1, ?_⟩
    rw [List.replicate_succ']
    rcases hown.2 with h0 | ⟨g, cap, cur, rfl, h1, h2, rest⟩
    · exact .inl h0
    · refine .inr ⟨g, cap, cur, rfl, h1, ?_, rest⟩
      rw [hgs.block g (Array.getElem?_eq_some_iff.1 h2).1 (fun e => by injection e with e; omega)]; exact h2
  · have h1 := hi.res
    rw [hgs.block _ (by have := hgw.size; omega) (fun e => by injection e with e; omega), hgw.block _ (by omega) (fun e => by have := hfr _ e.symm; omega)]
    exact h1
  · exact (hi.below.grown hgw (by omega) (fun b hb => by have := hfr b hb; omega)).grown hgs (by have := hgw.size; omega) (fun b hb => by injection hb with hb; omega)
theorem OwnE.other {α : Type} {enc : α → List Value} {k : Nat} {w w' : World} {base e n : Nat} {v : Value} {l : List α} {r : Option Nat} (h : OwnE enc k w base e v n l) (hg : w.grownBy w' r) (hr : ∀ b, v.ownBlock = some b → r ≠ some b) : OwnE enc k w' base e v n l := by
  refine ⟨h.1, ?_⟩
  rcases h.2 with hn | ⟨g, cap, cur, rfl, hb', hgg, rest⟩
  · exact .inl hn
  · refine .inr ⟨g, cap, cur, rfl, hb', ?_, rest⟩
    rw [hg.block g (Array.getElem?_eq_some_iff.1 hgg).1 (hr g rfl).symm]; exact hgg
set_option maxHeartbeats 4000000 in
theorem aterm_stub_any (a : AH) (hk : a.kn ≤ 1000) (w : World) :
    Calls Tryz.prog 85 #[aggT a] w fun e w' => (∃ p c, e = .returned (aggTm a.hd p a.kn c) ∧ IsRow encO 8 w' p a.kn c (List.replicate a.kn ())) ∧ Below w.heap.size w w' := by
  have HA := Lib.hid (boxA_new w a)
  have HB := Lib.hid (((Below.refl w.heap.size w).alloc (Nat.le_refl _) (boxA a)))
  have hz : SInv w (((w.alloc (boxA a)).alloc zTmO).alloc (.cells #[.int .u8 a.kind, .int .u8 a.op, .int .i64 a.at_, .int .i64 a.n, .string a.name, .string a.arg, .string a.exn, .slice none 0 0] 86)) a.hd a (.slice none 0 0) 0 := by
    have h1 := box8_new ((w.alloc (boxA a)).alloc zTmO) a.hd (.slice none 0 0)
    refine ⟨OwnE.nil _ _ _ _ _, ?_, ?_, by simp, (HB.out.alloc (by simp) _).alloc (by simp; omega) _⟩
    · rw [show ((w.alloc (boxA a)).alloc zTmO).heap.size = w.heap.size + 2 by simp] at h1; exact h1
    · rw [((Below.refl _ _).alloc (Nat.le_refl _) _).block _ (by simp)]
      have := heap_alloc_new (w.alloc (boxA a)) zTmO
      simpa using this
  have hq : ((w.alloc (boxA a)).alloc zTmO).cell? ⟨w.heap.size, 18, none⟩ = some (.slice a.kp a.kn a.kc) ∧ (((w.alloc (boxA a)).alloc zTmO).alloc (.cells #[.int .u8 a.kind, .int .u8 a.op, .int .i64 a.at_, .int .i64 a.n, .string a.name, .string a.arg, .string a.exn, .slice none 0 0] 86)).cell? ⟨w.heap.size, 18, none⟩ = some (.slice a.kp a.kn a.kc) := by
    have h0 := HA.out.c 18 _ rfl
    have hb1 : Below (w.alloc (boxA a)).heap.size (w.alloc (boxA a)) ((w.alloc (boxA a)).alloc zTmO) := (Below.refl _ _).alloc (Nat.le_refl _) _
    constructor
    · rw [hb1.cell (by simp)]; exact h0
    · rw [(hb1.alloc hb1.size _).cell (by simp)]; exact h0
  obtain ⟨hq1, hq2⟩ := hq
  have HZ := Lib.hid hz
  have HQ2 := Lib.hid hq2
  clear hz hq1 hq2
  go_enter Tryz.func85, Tryz.ntmps85
  go_upto_region 2 with fail
  rw [show w.heap.size + 1 + 1 = w.heap.size + 2 from rfl]
  generalize (((w.alloc (boxA a)).alloc zTmO).alloc (.cells #[.int .u8 a.kind, .int .u8 a.op, .int .i64 a.at_, .int .i64 a.n, .string a.name, .string a.arg, .string a.exn, .slice none 0 0] 86)) = W3 at *
  have q18 := HQ2.out
  go_wp2_with fail
  clear q18
  go_loopw [10] (fun i wr => ∃ (k : Nat) (v : Value), k ≤ a.kn ∧ i = .int .i64 k ∧ SInv w wr a.hd a v k) (fun i _ => a.kn - (intOf i).toNat)
  case atStart => exact ⟨0, _, by omega, rfl, HZ.out⟩
  case round =>
    obtain ⟨k, v, hk1, rfl, hz⟩ := hrel
    have HZI := Lib.hid hz
    have HSZ := Lib.hid hz.size
    obtain ⟨x0, x1, x2, x3, x4, x5, x6, x7, x8⟩ := hz.box.cells
    have hlt2 := hz.box.lt
    clear hz
    by_cases hlt : k < a.kn
    · go_wp2_with (at_builtin; refine wpList_append1 rfl _ _ 84 rfl (w.heap.size + 3) 86 _ 8 96 Tryz.underlying84 infoTm rfl (by decide) encO encO_len encO_one () _ _ _ HZI.out.own rfl rfl ?c1 ?c2 ?c3 ?_)
      case c1 => omega
      case c2 => omega
      case c3 => have := HSZ.out; omega
      · intro v3 w3 hown3 hg3
        obtain ⟨p3, c3, rfl, hrow3⟩ := OwnE.isRow encO_len (by omega) hown3
        clear hrow3
        have HA3 := Lib.hid (HZI.out.add hown3 hg3)
        have HB8 := Lib.hid (HZI.out.box.grown hg3 (fun e => by have := (World.ownsRow.lt HZI.out.own _ e).1; omega))
        clear x0 x1 x2 x3 x4 x5 x6 x7 x8 hown3 hg3
        obtain ⟨x0, x1, x2, x3, x4, x5, x6, x7, x8⟩ := HB8.out.cells
        go_wp2_with fail
        go_roundw
        case rel => exact ⟨k + 1, _, by omega, by go_num, HA3.out⟩
        case measure => simp [intOf]; omega
    · obtain rfl : k = a.kn := by omega
      clear hlt hk1
      obtain ⟨p', c', rfl, hrow⟩ := HZI.out.own.isRow encO_len (by omega)
      have HROW := Lib.hid hrow
      clear hrow
      go_wp2_with (first
        | (refine wpList_load_row rfl 86 _ rfl (w.heap.size + 2) rfl 86 _ (0, 0) _ HZI.out.box.blk Tryz.underlying86 rfl (by kernel_rfl) ?_)
        | (refine wpList_store_row rfl 86 _ _ rfl (w.heap.size + 1) #[.int .u8 a.hd.kind, .int .u8 a.hd.op, .int .i64 a.hd.at_, .int .i64 a.hd.n, .string a.hd.name, .string a.hd.arg, .string a.hd.exn, .slice p' a.kn c'] rfl rfl 86 _ HZI.out.res (by kernel_rfl) rfl (by simp [Value.oneCell']) ?_))
      have hres := setRow_heap wr (w.heap.size + 1) _ #[.int .u8 a.hd.kind, .int .u8 a.hd.op, .int .i64 a.hd.at_, .int .i64 a.hd.n, .string a.hd.name, .string a.hd.arg, .string a.hd.exn, .slice p' a.kn c'] _ _ HZI.out.res
      have hlt3 : w.heap.size + 1 < wr.heap.size := by have := HSZ.out; omega
      (try simp only [Exit.inBlock, Exit.then])
      refine bodyPost_ret (results_cell_row rfl _ _ _ _ _ _ _ rfl hres Tryz.underlying86 rfl (by kernel_rfl)) rfl ?_
      have hg : wr.grownBy (wr.setRow (w.heap.size + 1) #[.int .u8 a.hd.kind, .int .u8 a.hd.op, .int .i64 a.hd.at_, .int .i64 a.hd.n, .string a.hd.name, .string a.hd.arg, .string a.hd.exn, .slice p' a.kn c']) (some (w.heap.size + 1)) :=
        ⟨rfl, rfl, rfl, by simp, fun i hi hne => setRow_other _ _ _ _ (fun e => hne (by rw [e]))⟩
      obtain ⟨p2, c2, hv2, hrow2⟩ := (HZI.out.own.other hg (fun b hb e => by have := (World.ownsRow.lt HZI.out.own b hb).1; injection e with e; omega)).isRow encO_len (by omega)
      cases hv2
      refine ⟨⟨p', c', rfl, hrow2⟩, HZI.out.below.grown hg (by omega) (fun b hb => by injection hb with hb; omega)⟩
end Go.Proofs.YtdlbjngpohkglaaGreatDoor
end
