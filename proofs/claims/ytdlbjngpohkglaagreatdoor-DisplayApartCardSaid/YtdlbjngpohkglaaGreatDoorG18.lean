/- Part 18 of the texts: Tm. -/
import Derived.Test.YtdlbjngpohkglaaGreatDoorG17
import Derived.Test.YtdlbjngpohkglaaGreatDoorG15
import Derived.Test.YtdlbjngpohkglaaGreatDoorG05
import Derived.Deep.CutRange
import Derived.Deep.RegionHeld3
section
set_option linter.unusedVariables false
set_option maxRecDepth 100000
set_option linter.unusedSimpArgs false
namespace Go.Proofs.YtdlbjngpohkglaaGreatDoor
open Go.RowKit

/-- how many kids a kind has; -1: there is no such kind -/
def kidsI (k : Int) : Int :=
  if k = 1 ∨ k = 2 then 0 else if k = 4 ∨ k = 5 ∨ k = 6 ∨ k = 7 ∨ k = 11 ∨ k = 15 then 1
  else if k = 3 ∨ k = 8 ∨ k = 9 ∨ k = 10 ∨ k = 12 ∨ k = 13 ∨ k = 16 then 2 else if k = 14 then 3 else -1
set_option maxHeartbeats 2000000 in
theorem ref04_Kids_any (k : Int) (w : World) : Calls Tryz.prog 66 #[.int .u8 k] w fun e w' => e = .returned (.int .i64 (kidsI k)) ∧ w' = w := by
  by_cases h1 : k = 1
  · subst h1
    go_enter Tryz.func66, Tryz.ntmps66
    go_wp2_with fail
    go_ret
    exact ⟨rfl, rfl⟩
  have b1 : (k == 1) = false := by simpa using h1
  by_cases h2 : k = 2
  · subst h2
    go_enter Tryz.func66, Tryz.ntmps66
    go_wp2_with fail
    go_ret
    exact ⟨rfl, rfl⟩
  have b2 : (k == 2) = false := by simpa using h2
  by_cases h3 : k = 3
  · subst h3
    go_enter Tryz.func66, Tryz.ntmps66
    go_wp2_with fail
    go_ret
    exact ⟨rfl, rfl⟩
  have b3 : (k == 3) = false := by simpa using h3
  by_cases h4 : k = 4
  · subst h4
    go_enter Tryz.func66, Tryz.ntmps66
    go_wp2_with fail
    go_ret
    exact ⟨rfl, rfl⟩
  have b4 : (k == 4) = false := by simpa using h4
  by_cases h5 : k = 5
  · subst h5
    go_enter Tryz.func66, Tryz.ntmps66
    go_wp2_with fail
    go_ret
    exact ⟨rfl, rfl⟩
  have b5 : (k == 5) = false := by simpa using h5
  by_cases h6 : k = 6
  · subst h6
    go_enter Tryz.func66, Tryz.ntmps66
    go_wp2_with fail
    go_ret
    exact ⟨rfl, rfl⟩
  have b6 : (k == 6) = false := by simpa using h6
  by_cases h7 : k = 7
  · subst h7
    go_enter Tryz.func66, Tryz.ntmps66
    go_wp2_with fail
    go_ret
    exact ⟨rfl, rfl⟩
  have b7 : (k == 7) = false := by simpa using h7
  by_cases h8 : k = 8
  · subst h8
    go_enter Tryz.func66, Tryz.ntmps66
    go_wp2_with fail
    go_ret
    exact ⟨rfl, rfl⟩
  have b8 : (k == 8) = false := by simpa using h8
  by_cases h9 : k = 9
  · subst h9
    go_enter Tryz.func66, Tryz.ntmps66
    go_wp2_with fail
    go_ret
    exact ⟨rfl, rfl⟩
  have b9 : (k == 9) = false := by simpa using h9
  by_cases h10 : k = 10
  · subst h10
    go_enter Tryz.func66, Tryz.ntmps66
    go_wp2_with fail
    go_ret
    exact ⟨rfl, rfl⟩
  have b10 : (k == 10) = false := by simpa using h10
  by_cases h11 : k = 11
  · subst h11
    go_enter Tryz.func66, Tryz.ntmps66
    go_wp2_with fail
    go_ret
    exact ⟨rfl, rfl⟩
  have b11 : (k == 11) = false := by simpa using h11
  by_cases h12 : k = 12
  · subst h12
    go_enter Tryz.func66, Tryz.ntmps66
    go_wp2_with fail
    go_ret
    exact ⟨rfl, rfl⟩
  have b12 : (k == 12) = false := by simpa using h12
  by_cases h13 : k = 13
  · subst h13
    go_enter Tryz.func66, Tryz.ntmps66
    go_wp2_with fail
    go_ret
    exact ⟨rfl, rfl⟩
  have b13 : (k == 13) = false := by simpa using h13
  by_cases h14 : k = 14
  · subst h14
    go_enter Tryz.func66, Tryz.ntmps66
    go_wp2_with fail
    go_ret
    exact ⟨rfl, rfl⟩
  have b14 : (k == 14) = false := by simpa using h14
  by_cases h15 : k = 15
  · subst h15
    go_enter Tryz.func66, Tryz.ntmps66
    go_wp2_with fail
    go_ret
    exact ⟨rfl, rfl⟩
  have b15 : (k == 15) = false := by simpa using h15
  by_cases h16 : k = 16
  · subst h16
    go_enter Tryz.func66, Tryz.ntmps66
    go_wp2_with fail
    go_ret
    exact ⟨rfl, rfl⟩
  have b16 : (k == 16) = false := by simpa using h16
  have hz : Hid (kidsI k = -1) := by
    show _ = _
    unfold kidsI
    rw [if_neg (by omega), if_neg (by omega), if_neg (by omega), if_neg (by omega)]
  clear h1 h2 h3 h4 h5 h6 h7 h8 h9 h10 h11 h12 h13 h14 h15 h16
  go_enter Tryz.func66, Tryz.ntmps66
  go_wp2_with fail
  go_ret
  exact ⟨ret_int hz.out.symm, rfl⟩
/-- a text is there just where it should be -/
def fitsB (there : Bool) (s : ByteArray) (ok : Bool) : Bool := there && ok || !there && decide (s.size = 0)
set_option maxHeartbeats 1000000 in
theorem ref04_fits_any (there : Bool) (s : ByteArray) (ok : Bool) (w : World) : Calls Tryz.prog 67 #[.bool there, .string s, .bool ok] w fun e w' => e = .returned (.bool (fitsB there s ok)) ∧ w' = w := by
  by_cases hs : s.size = 0
  · have he : s = ⟨#[]⟩ := by apply ByteArray.ext; exact Array.eq_empty_of_size_eq_zero hs
    subst he
    cases there <;> cases ok
    all_goals
      go_enter Tryz.func67, Tryz.ntmps67
      go_wp2_with fail
      go_ret
      exact ⟨rfl, rfl⟩
  · have hb : s.toList.isEmpty = false := by
      rw [Lib.toList_data]
      cases h : s.data.toList with
      | nil => exact absurd (by show s.data.size = 0; rw [← Array.length_toList, h]; rfl) hs
      | cons x l => rfl
    have HS : Hid (decide (s.size = 0) = false) := by show _ = _; simp [hs]
    clear hs
    cases there <;> cases ok
    all_goals
      go_enter Tryz.func67, Tryz.ntmps67
      go_wp2_with fail
      go_ret
      refine ⟨ret_bool ?_, rfl⟩
      unfold fitsB
      rw [HS.out]
      rfl

/-- a term without regions, by value -/
abbrev aggTm (h : HeadV) (p : Option Addr) (n c : Nat) : Value := .agg #[.int .u8 h.kind, .int .u8 h.op, .int .i64 h.at_, .int .i64 h.n, .string h.name, .string h.arg, .string h.exn, .slice p n c]
theorem ref04_Kids_b (k m : Int) (hm : kidsI k = m) (w : World) : Calls Tryz.prog 66 #[.int .u8 k] w fun e w' => e = .returned (.int .i64 m) ∧ Below w.heap.size w w' := by
  subst hm; exact (ref04_Kids_any k w).mono (fun _ _ ⟨h1, h2⟩ => ⟨h1, h2 ▸ Below.refl _ _⟩)
theorem ref04_fits_b (there : Bool) (s : ByteArray) (ok : Bool) (w : World) : Calls Tryz.prog 67 #[.bool there, .string s, .bool ok] w fun e w' => e = .returned (.bool (fitsB there s ok)) ∧ Below w.heap.size w w' :=
  (ref04_fits_any there s ok w).mono (fun _ _ ⟨h1, h2⟩ => ⟨h1, h2 ▸ Below.refl _ _⟩)
abbrev boxTm (h : HeadV) (p : Option Addr) (n c : Nat) : Obj := .cells #[.int .u8 h.kind, .int .u8 h.op, .int .i64 h.at_, .int .i64 h.n, .string h.name, .string h.arg, .string h.exn, .slice p n c] 86
/-- the cells of a term in block b -/
def CellsTm (W : World) (b : Nat) (h : HeadV) (p : Option Addr) (n c : Nat) : Prop :=
  W.cell? ⟨b, 0, none⟩ = some (.int .u8 h.kind) ∧ W.cell? ⟨b, 1, none⟩ = some (.int .u8 h.op) ∧ W.cell? ⟨b, 2, none⟩ = some (.int .i64 h.at_) ∧ W.cell? ⟨b, 3, none⟩ = some (.int .i64 h.n) ∧
    W.cell? ⟨b, 4, none⟩ = some (.string h.name) ∧ W.cell? ⟨b, 5, none⟩ = some (.string h.arg) ∧ W.cell? ⟨b, 6, none⟩ = some (.string h.exn) ∧ W.cell? ⟨b, 7, none⟩ = some (.slice p n c)
theorem CellsTm.below {W W' : World} {b : Nat} {h : HeadV} {p : Option Addr} {n c : Nat} (hc : CellsTm W b h p n c) (hb : Below W.heap.size W W') : CellsTm W' b h p n c := by
  obtain ⟨h0, h1, h2, h3, h4, h5, h6, h7⟩ := hc
  have hlt : b < W.heap.size := cell_block h0
  exact ⟨by rw [hb.cell hlt]; exact h0, by rw [hb.cell hlt]; exact h1, by rw [hb.cell hlt]; exact h2, by rw [hb.cell hlt]; exact h3, by rw [hb.cell hlt]; exact h4, by rw [hb.cell hlt]; exact h5, by rw [hb.cell hlt]; exact h6, by rw [hb.cell hlt]; exact h7⟩
theorem cellsTm_new (w : World) (h : HeadV) (p : Option Addr) (n c : Nat) : CellsTm (w.alloc (boxTm h p n c)) w.heap.size h p n c := by
  refine ⟨?_, ?_, ?_, ?_, ?_, ?_, ?_, ?_⟩ <;> (rw [cell_new]; rfl)
/-- is a name wanted? an argument's? an exception's? -/
def wName (k : Int) : Bool := k == 2 || k == 12 || k == 13
def wArg (k : Int) : Bool := k == 11 || k == 13 || k == 16
def wExn (k : Int) : Bool := k == 15 || k == 16
/-- may a head be, with so many kids? -/
def node4B (h : HeadV) (n : Nat) : Bool :=
  !(decide (kidsI h.kind < 0) || ((n : Int) != kidsI h.kind) || decide (h.at_ < 0)) && !((h.kind == 9) && (decide (h.op < 1) || decide (5 < h.op)) || (h.kind != 9) && (h.op != 0)) &&
  !(decide (h.n < 0) || decide (2147483647 < h.n) || (h.kind != 1) && (h.n != 0)) && (fitsB (wName h.kind) h.name (nameB h.name) && fitsB (wArg h.kind) h.arg (nameB h.arg) && fitsB (wExn h.kind) h.exn (exnB h.exn))
set_option maxHeartbeats 4000000 in
theorem ref04_Node_any (h : HeadV) (p : Option Addr) (n c : Nat) (hn : n ≤ 9223372036854775807) (w : World) :
    Calls Tryz.prog 52 #[aggTm h p n c] w fun e w' => e = .returned (.bool (node4B h n)) ∧ Below w.heap.size w w' := by
  have HBX := Lib.hid ((Below.refl w.heap.size w).alloc (Nat.le_refl _) (boxTm h p n c))
  have HC := Lib.hid (cellsTm_new w h p n c)
  have HM : ∃ m, kidsI h.kind = m := ⟨_, rfl⟩
  obtain ⟨m, hm⟩ := HM
  have HMM := Lib.hid hm
  clear hm
  go_enter Tryz.func52, Tryz.ntmps52
  go_upto_region 2 with fail
  generalize w.alloc (.cells #[.int .u8 h.kind, .int .u8 h.op, .int .i64 h.at_, .int .i64 h.n, .string h.name, .string h.arg, .string h.exn, .slice p n c] 86) = W0 at *
  go_cut [26] from 10 to 26 (fun s26 wx => s26 = .bool (decide (m < 0) || ((n : Int) != m) || decide (h.at_ < 0)) ∧ Below W0.heap.size W0 wx)
  case first =>
    obtain ⟨q0, q1, q2, q3, q4, q5, q6, q7⟩ := HC.out
    have g0 := fun g => gw_cell q0 g
    have g1 := fun g => gw_cell q1 g
    have g2 := fun g => gw_cell q2 g
    have g3 := fun g => gw_cell q3 g
    have g4 := fun g => gw_cell q4 g
    have g5 := fun g => gw_cell q5 g
    have g6 := fun g => gw_cell q6 g
    have g7 := fun g => gw_cell q7 g
    have hB := gw_below W0
    by_cases h1 : m < 0
    · have d1 : decide (m < 0) = true := by simpa using h1
      have HB : Hid ((decide (m < 0) || ((n : Int) != m) || decide (h.at_ < 0)) = true) := by show _ = _; simp [h1]
      refine wp_region_gw (by kernel_rfl) (by kernel_rfl) ?_
      repeat ((with_reducible refine wpQuiet_step (fun K hK => ?_)); go_simp; refine hK _ ?_; clear hK K)
      refine wpQuiet_step (fun K hK => ?_); go_simp; refine ⟨(.int .i64 m), fun _ => calls_gw (ref04_Kids_b _ m HMM.out _), hK _ ?_⟩; clear hK K
      repeat ((with_reducible refine wpQuiet_step (fun K hK => ?_)); go_simp; refine hK _ ?_; clear hK K)
      clear h1
      refine wpQuiet_nil ?_
      rintro w3 ⟨g, rfl⟩
      go_wp2_with fail
      go_meet
      case rel => exact ⟨by rw [HB.out], hB g⟩
    · have d1 : decide (m < 0) = false := by simpa using h1
      by_cases h2 : (n : Int) = m
      · have d2 : ((n : Int) != m) = false := by simpa using h2
        by_cases h3 : h.at_ < 0
        · have d3 : decide (h.at_ < 0) = true := by simpa using h3
          have HB : Hid ((decide (m < 0) || ((n : Int) != m) || decide (h.at_ < 0)) = true) := by show _ = _; simp [h3]
          refine wp_region_gw (by kernel_rfl) (by kernel_rfl) ?_
          repeat ((with_reducible refine wpQuiet_step (fun K hK => ?_)); go_simp; refine hK _ ?_; clear hK K)
          refine wpQuiet_step (fun K hK => ?_); go_simp; refine ⟨(.int .i64 m), fun _ => calls_gw (ref04_Kids_b _ m HMM.out _), hK _ ?_⟩; clear hK K
          repeat ((with_reducible refine wpQuiet_step (fun K hK => ?_)); go_simp; refine hK _ ?_; clear hK K)
          clear h1 h2 h3
          refine wpQuiet_step (fun K hK => ?_); go_simp; refine ⟨(.int .i64 m), fun _ => calls_gw (ref04_Kids_b _ m HMM.out _), hK _ ?_⟩; clear hK K
          repeat ((with_reducible refine wpQuiet_step (fun K hK => ?_)); go_simp; refine hK _ ?_; clear hK K)
          refine wpQuiet_nil ?_
          rintro w3 ⟨g, rfl⟩
          go_wp2_with fail
          go_meet
          case rel => exact ⟨by rw [HB.out], hB g⟩
        · have d3 : decide (h.at_ < 0) = false := by simpa using h3
          have HB : Hid ((decide (m < 0) || ((n : Int) != m) || decide (h.at_ < 0)) = false) := by show _ = _; simp [h1, h2, h3]
          refine wp_region_gw (by kernel_rfl) (by kernel_rfl) ?_
          repeat ((with_reducible refine wpQuiet_step (fun K hK => ?_)); go_simp; refine hK _ ?_; clear hK K)
          refine wpQuiet_step (fun K hK => ?_); go_simp; refine ⟨(.int .i64 m), fun _ => calls_gw (ref04_Kids_b _ m HMM.out _), hK _ ?_⟩; clear hK K
          repeat ((with_reducible refine wpQuiet_step (fun K hK => ?_)); go_simp; refine hK _ ?_; clear hK K)
          clear h1 h2 h3
          refine wpQuiet_step (fun K hK => ?_); go_simp; refine ⟨(.int .i64 m), fun _ => calls_gw (ref04_Kids_b _ m HMM.out _), hK _ ?_⟩; clear hK K
          repeat ((with_reducible refine wpQuiet_step (fun K hK => ?_)); go_simp; refine hK _ ?_; clear hK K)
          refine wpQuiet_nil ?_
          rintro w3 ⟨g, rfl⟩
          go_wp2_with fail
          go_meet
          case rel => exact ⟨by rw [HB.out], hB g⟩
      · have d2 : ((n : Int) != m) = true := by simpa using h2
        have HB : Hid ((decide (m < 0) || ((n : Int) != m) || decide (h.at_ < 0)) = true) := by show _ = _; simp [h2]
        refine wp_region_gw (by kernel_rfl) (by kernel_rfl) ?_
        repeat ((with_reducible refine wpQuiet_step (fun K hK => ?_)); go_simp; refine hK _ ?_; clear hK K)
        refine wpQuiet_step (fun K hK => ?_); go_simp; refine ⟨(.int .i64 m), fun _ => calls_gw (ref04_Kids_b _ m HMM.out _), hK _ ?_⟩; clear hK K
        repeat ((with_reducible refine wpQuiet_step (fun K hK => ?_)); go_simp; refine hK _ ?_; clear hK K)
        clear h1 h2
        refine wpQuiet_step (fun K hK => ?_); go_simp; refine ⟨(.int .i64 m), fun _ => calls_gw (ref04_Kids_b _ m HMM.out _), hK _ ?_⟩; clear hK K
        repeat ((with_reducible refine wpQuiet_step (fun K hK => ?_)); go_simp; refine hK _ ?_; clear hK K)
        refine wpQuiet_nil ?_
        rintro w3 ⟨g, rfl⟩
        go_wp2_with fail
        go_meet
        case rel => exact ⟨by rw [HB.out], hB g⟩
  case rest =>
    obtain ⟨rfl, hb⟩ := hcut
    have HB0 := Lib.hid (HBX.out.trans (hb.mono HBX.out.size))
    have HC1 := Lib.hid (HC.out.below hb)
    clear hb
    generalize hb1 : (decide (m < 0) || ((n : Int) != m) || decide (h.at_ < 0)) = B1
    have HB1 := Lib.hid hb1
    clear hb1
    cases B1
    · obtain ⟨q0, q1, q2, q3, q4, q5, q6, q7⟩ := HC1.out
      go_upto_region 4 with fail
      go_cut [50] from 27 to 50 (fun s50 wx => s50 = .bool ((h.kind == 9) && (decide (h.op < 1) || decide (5 < h.op)) || (h.kind != 9) && (h.op != 0)) ∧ wx = wc)
      case first =>
        by_cases h9 : h.kind = 9
        · have e1 : (h.kind == 9) = true := by simpa using h9
          have e2 : (h.kind != 9) = false := by simpa using h9
          by_cases o1 : h.op < 1
          · have f1 : decide (h.op < 1) = true := by simpa using o1
            have HB : Hid (((h.kind == 9) && (decide (h.op < 1) || decide (5 < h.op)) || (h.kind != 9) && (h.op != 0)) = true) := by show _ = _; simp [h9, o1]
            clear h9 o1
            go_wp2_with fail
            go_meet
            case rel => exact ⟨by rw [HB.out]; try rfl, rfl⟩
          · have f1 : decide (h.op < 1) = false := by simpa using o1
            by_cases o5 : 5 < h.op
            · have f5 : decide (5 < h.op) = true := by simpa using o5
              have HB : Hid (((h.kind == 9) && (decide (h.op < 1) || decide (5 < h.op)) || (h.kind != 9) && (h.op != 0)) = true) := by show _ = _; simp [h9, o1, o5]
              clear h9 o1 o5
              go_wp2_with fail
              go_meet
              case rel => exact ⟨by rw [HB.out]; try rfl, rfl⟩
            · have f5 : decide (5 < h.op) = false := by simpa using o5
              have HB : Hid (((h.kind == 9) && (decide (h.op < 1) || decide (5 < h.op)) || (h.kind != 9) && (h.op != 0)) = false) := by show _ = _; simp [h9, o1, o5]
              clear h9 o1 o5
              go_wp2_with fail
              go_meet
              case rel => exact ⟨by rw [HB.out]; try rfl, rfl⟩
        · have e1 : (h.kind == 9) = false := by simpa using h9
          have e2 : (h.kind != 9) = true := by simpa using h9
          by_cases o0 : h.op = 0
          · have f0 : (h.op != 0) = false := by simpa using o0
            have HB : Hid (((h.kind == 9) && (decide (h.op < 1) || decide (5 < h.op)) || (h.kind != 9) && (h.op != 0)) = false) := by show _ = _; simp [h9, o0]
            clear h9 o0
            go_wp2_with fail
            go_meet
            case rel => exact ⟨by rw [HB.out]; try rfl, rfl⟩
          · have f0 : (h.op != 0) = true := by simpa using o0
            have HB : Hid (((h.kind == 9) && (decide (h.op < 1) || decide (5 < h.op)) || (h.kind != 9) && (h.op != 0)) = true) := by show _ = _; simp [h9, o0]
            clear h9 o0
            go_wp2_with fail
            go_meet
            case rel => exact ⟨by rw [HB.out]; try rfl, rfl⟩
      case rest =>
        obtain ⟨rfl, rfl⟩ := hcut
        generalize hb2 : ((h.kind == 9) && (decide (h.op < 1) || decide (5 < h.op)) || (h.kind != 9) && (h.op != 0)) = B2
        have HB2 := Lib.hid hb2
        clear hb2
        cases B2
        · go_upto_region 6 with fail
          go_cut [70] from 51 to 70 (fun s70 wx => s70 = .bool (decide (h.n < 0) || decide (2147483647 < h.n) || (h.kind != 1) && (h.n != 0)) ∧ wx = wc)
          case first =>
            by_cases n0 : h.n < 0
            · have f1 : decide (h.n < 0) = true := by simpa using n0
              have HB : Hid ((decide (h.n < 0) || decide (2147483647 < h.n) || (h.kind != 1) && (h.n != 0)) = true) := by show _ = _; simp [n0]
              clear n0
              go_wp2_with fail
              go_meet
              case rel => exact ⟨by rw [HB.out]; try rfl, rfl⟩
            · have f1 : decide (h.n < 0) = false := by simpa using n0
              by_cases n1 : 2147483647 < h.n
              · have f2 : decide (2147483647 < h.n) = true := by simpa using n1
                have HB : Hid ((decide (h.n < 0) || decide (2147483647 < h.n) || (h.kind != 1) && (h.n != 0)) = true) := by show _ = _; simp [n0, n1]
                clear n0 n1
                go_wp2_with fail
                go_meet
                case rel => exact ⟨by rw [HB.out]; try rfl, rfl⟩
              · have f2 : decide (2147483647 < h.n) = false := by simpa using n1
                by_cases k1 : h.kind = 1
                · have f3 : (h.kind != 1) = false := by simpa using k1
                  have HB : Hid ((decide (h.n < 0) || decide (2147483647 < h.n) || (h.kind != 1) && (h.n != 0)) = false) := by show _ = _; simp [n0, n1, k1]
                  clear n0 n1 k1
                  go_wp2_with fail
                  go_meet
                  case rel => exact ⟨by rw [HB.out]; try rfl, rfl⟩
                · have f3 : (h.kind != 1) = true := by simpa using k1
                  by_cases z : h.n = 0
                  · have f4 : (h.n != 0) = false := by simpa using z
                    have HB : Hid ((decide (h.n < 0) || decide (2147483647 < h.n) || (h.kind != 1) && (h.n != 0)) = false) := by show _ = _; simp [n0, n1, k1, z]
                    clear n0 n1 k1 z
                    go_wp2_with fail
                    go_meet
                    case rel => exact ⟨by rw [HB.out]; try rfl, rfl⟩
                  · have f4 : (h.n != 0) = true := by simpa using z
                    have HB : Hid ((decide (h.n < 0) || decide (2147483647 < h.n) || (h.kind != 1) && (h.n != 0)) = true) := by show _ = _; simp [n0, n1, k1, z]
                    clear n0 n1 k1 z
                    go_wp2_with fail
                    go_meet
                    case rel => exact ⟨by rw [HB.out]; try rfl, rfl⟩
          case rest =>
            obtain ⟨rfl, rfl⟩ := hcut
            generalize hb3 : (decide (h.n < 0) || decide (2147483647 < h.n) || (h.kind != 1) && (h.n != 0)) = B3
            have HB3 := Lib.hid hb3
            clear hb3
            cases B3
            · go_upto_region 8 with fail
              go_cut [4] from 71 to 80 (fun s wx => s = .bool (wName h.kind) ∧ wx = wc)
              case first =>
                by_cases ka : h.kind = 2
                · have e1 : (h.kind == 2) = true := by simpa using ka
                  have HB : Hid (wName h.kind = true) := by show _ = _; simp [wName, ka]
                  clear ka
                  go_wp2_with fail
                  go_meet
                  case rel => exact ⟨by rw [HB.out], rfl⟩
                · have e1 : (h.kind == 2) = false := by simpa using ka
                  by_cases kb : h.kind = 12
                  · have e2 : (h.kind == 12) = true := by simpa using kb
                    have HB : Hid (wName h.kind = true) := by show _ = _; simp [wName, kb]
                    clear ka kb
                    go_wp2_with fail
                    go_meet
                    case rel => exact ⟨by rw [HB.out], rfl⟩
                  · have e2 : (h.kind == 12) = false := by simpa using kb
                    by_cases kc : h.kind = 13
                    · have e3 : (h.kind == 13) = true := by simpa using kc
                      have HB : Hid (wName h.kind = true) := by show _ = _; simp [wName, kc]
                      clear ka kb kc
                      go_wp2_with fail
                      go_meet
                      case rel => exact ⟨by rw [HB.out], rfl⟩
                    · have e3 : (h.kind == 13) = false := by simpa using kc
                      have HB : Hid (wName h.kind = false) := by show _ = _; simp [wName, ka, kb, kc]
                      clear ka kb kc
                      go_wp2_with fail
                      go_meet
                      case rel => exact ⟨by rw [HB.out], rfl⟩
              case rest =>
                obtain ⟨rfl, rfl⟩ := hcut
                go_upto_region 9 with fail
                go_cut [5] from 81 to 90 (fun s wx => s = .bool (wArg h.kind) ∧ wx = wc)
                case first =>
                  by_cases ka : h.kind = 11
                  · have e1 : (h.kind == 11) = true := by simpa using ka
                    have HB : Hid (wArg h.kind = true) := by show _ = _; simp [wArg, ka]
                    clear ka
                    go_wp2_with fail
                    go_meet
                    case rel => exact ⟨by rw [HB.out], rfl⟩
                  · have e1 : (h.kind == 11) = false := by simpa using ka
                    by_cases kb : h.kind = 13
                    · have e2 : (h.kind == 13) = true := by simpa using kb
                      have HB : Hid (wArg h.kind = true) := by show _ = _; simp [wArg, kb]
                      clear ka kb
                      go_wp2_with fail
                      go_meet
                      case rel => exact ⟨by rw [HB.out], rfl⟩
                    · have e2 : (h.kind == 13) = false := by simpa using kb
                      by_cases kc : h.kind = 16
                      · have e3 : (h.kind == 16) = true := by simpa using kc
                        have HB : Hid (wArg h.kind = true) := by show _ = _; simp [wArg, kc]
                        clear ka kb kc
                        go_wp2_with fail
                        go_meet
                        case rel => exact ⟨by rw [HB.out], rfl⟩
                      · have e3 : (h.kind == 16) = false := by simpa using kc
                        have HB : Hid (wArg h.kind = false) := by show _ = _; simp [wArg, ka, kb, kc]
                        clear ka kb kc
                        go_wp2_with fail
                        go_meet
                        case rel => exact ⟨by rw [HB.out], rfl⟩
                case rest =>
                  obtain ⟨rfl, rfl⟩ := hcut
                  go_upto_region 10 with fail
                  go_cut [6] from 91 to 96 (fun s wx => s = .bool (wExn h.kind) ∧ wx = wc)
                  case first =>
                    by_cases ka : h.kind = 15
                    · have e1 : (h.kind == 15) = true := by simpa using ka
                      have HB : Hid (wExn h.kind = true) := by show _ = _; simp [wExn, ka]
                      clear ka
                      go_wp2_with fail
                      go_meet
                      case rel => exact ⟨by rw [HB.out], rfl⟩
                    · have e1 : (h.kind == 15) = false := by simpa using ka
                      by_cases kb : h.kind = 16
                      · have e2 : (h.kind == 16) = true := by simpa using kb
                        have HB : Hid (wExn h.kind = true) := by show _ = _; simp [wExn, kb]
                        clear ka kb
                        go_wp2_with fail
                        go_meet
                        case rel => exact ⟨by rw [HB.out], rfl⟩
                      · have e2 : (h.kind == 16) = false := by simpa using kb
                        have HB : Hid (wExn h.kind = false) := by show _ = _; simp [wExn, ka, kb]
                        clear ka kb
                        go_wp2_with fail
                        go_meet
                        case rel => exact ⟨by rw [HB.out], rfl⟩
                  case rest =>
                    obtain ⟨rfl, rfl⟩ := hcut
                    obtain ⟨q0, q1, q2, q3, q4, q5, q6, q7⟩ := HC1.out
                    have g0 := fun g => gw_cell q0 g
                    have g1 := fun g => gw_cell q1 g
                    have g2 := fun g => gw_cell q2 g
                    have g3 := fun g => gw_cell q3 g
                    have g4 := fun g => gw_cell q4 g
                    have g5 := fun g => gw_cell q5 g
                    have g6 := fun g => gw_cell q6 g
                    have g7 := fun g => gw_cell q7 g
                    have hB := gw_below wc
                    have HF1 := Lib.hid (fun g => ref04_fits_b (wName h.kind) h.name (nameB h.name) (gw wc g))
                    have HF2 := Lib.hid (fun g => ref04_fits_b (wArg h.kind) h.arg (nameB h.arg) (gw wc g))
                    have HF3 := Lib.hid (fun g => ref04_fits_b (wExn h.kind) h.exn (exnB h.exn) (gw wc g))
                    generalize hf1 : fitsB (wName h.kind) h.name (nameB h.name) = f1 at *
                    generalize hf2 : fitsB (wArg h.kind) h.arg (nameB h.arg) = f2 at *
                    generalize hf3 : fitsB (wExn h.kind) h.exn (exnB h.exn) = f3 at *
                    have HR : Hid (node4B h n = (f1 && f2 && f3)) := by show _ = _; unfold node4B; rw [HMM.out, HB1.out, HB2.out, HB3.out, hf1, hf2, hf3]; rfl
                    clear hf1 hf2 hf3
                    go_upto_region 11 with fail
                    cases f1
                    · refine wp_region_gw (by kernel_rfl) (by kernel_rfl) ?_
                      repeat ((with_reducible refine wpQuiet_step (fun K hK => ?_)); go_simp; refine hK _ ?_; clear hK K)
                      refine wpQuiet_step (fun K hK => ?_); go_simp; refine ⟨(.bool (nameB h.name)), fun _ => calls_gw (ref_Name_any h.name _), hK _ ?_⟩; clear hK K
                      repeat ((with_reducible refine wpQuiet_step (fun K hK => ?_)); go_simp; refine hK _ ?_; clear hK K)
                      refine wpQuiet_step (fun K hK => ?_); go_simp; refine ⟨(.bool false), fun _ => calls_gw (HF1.out _), hK _ ?_⟩; clear hK K
                      repeat ((with_reducible refine wpQuiet_step (fun K hK => ?_)); go_simp; refine hK _ ?_; clear hK K)
                      refine wpQuiet_nil ?_
                      rintro w3 ⟨g, rfl⟩
                      go_wp2_with fail
                      go_ret
                      exact ⟨ret_bool HR.out.symm, HB0.out.trans ((hB _).mono HB0.out.size)⟩
                    · cases f2
                      · refine wp_region_gw (by kernel_rfl) (by kernel_rfl) ?_
                        repeat ((with_reducible refine wpQuiet_step (fun K hK => ?_)); go_simp; refine hK _ ?_; clear hK K)
                        refine wpQuiet_step (fun K hK => ?_); go_simp; refine ⟨(.bool (nameB h.name)), fun _ => calls_gw (ref_Name_any h.name _), hK _ ?_⟩; clear hK K
                        repeat ((with_reducible refine wpQuiet_step (fun K hK => ?_)); go_simp; refine hK _ ?_; clear hK K)
                        refine wpQuiet_step (fun K hK => ?_); go_simp; refine ⟨(.bool true), fun _ => calls_gw (HF1.out _), hK _ ?_⟩; clear hK K
                        repeat ((with_reducible refine wpQuiet_step (fun K hK => ?_)); go_simp; refine hK _ ?_; clear hK K)
                        refine wpQuiet_step (fun K hK => ?_); go_simp; refine ⟨(.bool (nameB h.arg)), fun _ => calls_gw (ref_Name_any h.arg _), hK _ ?_⟩; clear hK K
                        repeat ((with_reducible refine wpQuiet_step (fun K hK => ?_)); go_simp; refine hK _ ?_; clear hK K)
                        refine wpQuiet_step (fun K hK => ?_); go_simp; refine ⟨(.bool false), fun _ => calls_gw (HF2.out _), hK _ ?_⟩; clear hK K
                        repeat ((with_reducible refine wpQuiet_step (fun K hK => ?_)); go_simp; refine hK _ ?_; clear hK K)
                        refine wpQuiet_nil ?_
                        rintro w3 ⟨g, rfl⟩
                        go_wp2_with fail
                        go_ret
                        exact ⟨ret_bool HR.out.symm, HB0.out.trans ((hB _).mono HB0.out.size)⟩
                      · refine wp_region_gw (by kernel_rfl) (by kernel_rfl) ?_
                        repeat ((with_reducible refine wpQuiet_step (fun K hK => ?_)); go_simp; refine hK _ ?_; clear hK K)
                        refine wpQuiet_step (fun K hK => ?_); go_simp; refine ⟨(.bool (nameB h.name)), fun _ => calls_gw (ref_Name_any h.name _), hK _ ?_⟩; clear hK K
                        repeat ((with_reducible refine wpQuiet_step (fun K hK => ?_)); go_simp; refine hK _ ?_; clear hK K)
                        refine wpQuiet_step (fun K hK => ?_); go_simp; refine ⟨(.bool true), fun _ => calls_gw (HF1.out _), hK _ ?_⟩; clear hK K
                        repeat ((with_reducible refine wpQuiet_step (fun K hK => ?_)); go_simp; refine hK _ ?_; clear hK K)
                        refine wpQuiet_step (fun K hK => ?_); go_simp; refine ⟨(.bool (nameB h.arg)), fun _ => calls_gw (ref_Name_any h.arg _), hK _ ?_⟩; clear hK K
                        repeat ((with_reducible refine wpQuiet_step (fun K hK => ?_)); go_simp; refine hK _ ?_; clear hK K)
                        refine wpQuiet_step (fun K hK => ?_); go_simp; refine ⟨(.bool true), fun _ => calls_gw (HF2.out _), hK _ ?_⟩; clear hK K
                        repeat ((with_reducible refine wpQuiet_step (fun K hK => ?_)); go_simp; refine hK _ ?_; clear hK K)
                        refine wpQuiet_step (fun K hK => ?_); go_simp; refine ⟨(.bool (exnB h.exn)), fun _ => calls_gw (ref_Exn_any h.exn _), hK _ ?_⟩; clear hK K
                        repeat ((with_reducible refine wpQuiet_step (fun K hK => ?_)); go_simp; refine hK _ ?_; clear hK K)
                        refine wpQuiet_step (fun K hK => ?_); go_simp; refine ⟨(.bool f3), fun _ => calls_gw (HF3.out _), hK _ ?_⟩; clear hK K
                        repeat ((with_reducible refine wpQuiet_step (fun K hK => ?_)); go_simp; refine hK _ ?_; clear hK K)
                        refine wpQuiet_nil ?_
                        rintro w3 ⟨g, rfl⟩
                        go_wp2_with fail
                        go_ret
                        exact ⟨ret_bool HR.out.symm, HB0.out.trans ((hB _).mono HB0.out.size)⟩
            · have HR : Hid (node4B h n = false) := by show _ = _; unfold node4B; rw [HMM.out, HB1.out, HB2.out, HB3.out]; rfl
              go_wp2_with fail
              go_ret
              exact ⟨ret_bool HR.out.symm, HB0.out⟩
        · have HR : Hid (node4B h n = false) := by show _ = _; unfold node4B; rw [HMM.out, HB1.out, HB2.out]; rfl
          go_wp2_with fail
          go_ret
          exact ⟨ret_bool HR.out.symm, HB0.out⟩
    · have HR : Hid (node4B h n = false) := by show _ = _; unfold node4B; rw [HMM.out, HB1.out]; rfl
      go_wp2_with fail
      go_ret
      exact ⟨ret_bool HR.out.symm, HB0.out⟩
end Go.Proofs.YtdlbjngpohkglaaGreatDoor
end
