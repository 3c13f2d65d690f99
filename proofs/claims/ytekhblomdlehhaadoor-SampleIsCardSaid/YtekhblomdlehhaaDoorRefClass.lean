/- enclaveref01.Class. -/
import Derived.Test.YtekhblomdlehhaaDoorCls
import Derived.Test.YtekhblomdlehhaaDoorLst
set_option linter.unusedVariables false
set_option maxRecDepth 100000
set_option linter.unusedSimpArgs false
namespace Go.Proofs.YtekhblomdlehhaaDoor
open Go.RowKit

def sgn : List Int := [40, 41, 44, 33, 58, 61, 62, 43, 45, 42, 60, 59]
def sgnCells : Array Value := #[.int .u8 40, .int .u8 41, .int .u8 44, .int .u8 33, .int .u8 58, .int .u8 61, .int .u8 62, .int .u8 43, .int .u8 45, .int .u8 42, .int .u8 60, .int .u8 59]

theorem sgn_cell (w : World) (t : TypeId) (k : Nat) (h : k < 12) : (w.alloc (.cells sgnCells t)).cell? ⟨w.heap.size, k, none⟩ = some (.int .u8 (sgn[k]?.getD 0)) := by
  rw [cell_new]
  have key : ∀ k : Fin 12, sgnCells[k.val]? = some (Value.int .u8 (sgn[k.val]?.getD 0)) := by
    intro k
    match k with
    | 0 | 1 | 2 | 3 | 4 | 5 | 6 | 7 | 8 | 9 | 10 | 11 => rfl
  exact key ⟨k, h⟩

set_option maxHeartbeats 400000 in
theorem ref_class_sign (c : Int) (h0 : 0 ≤ c) (h255 : c ≤ 255) (h1 : ¬ c = 32) (h2 : ¬ c = 9) (h3 : ¬ c = 10) (hc : c < 48 ∨ (57 < c ∧ c < 65) ∨ (90 < c ∧ c < 97) ∨ 122 < c) (w : World) :
    Calls Tryd.prog 91 #[.int .u8 c] w fun e w' => e = .returned (.int .u8 (cls c)) ∧ Below w.heap.size w w' := by
  have c1 : (c == 32) = false := by simpa using h1
  have c2 : (c == 9) = false := by simpa using h2
  have c3 : (c == 10) = false := by simpa using h3
  have hyes : Hid ((sgn.any (· == c)) = true → cls c = 5) := by
    intro h
    simp [sgn] at h
    unfold cls
    repeat' split
    all_goals omega
  have hno : Hid ((sgn.any (· == c)) = false → cls c = 0) := by
    intro h
    simp [sgn] at h
    unfold cls
    repeat' split
    all_goals omega
  clear h1 h2 h3
  rcases hc with hc | ⟨hc, hc'⟩ | ⟨hc, hc'⟩ | hc
  all_goals
    go_enter Tryd.func91, Tryd.ntmps91
    go_wp2
    go_loop [4, 36] (fun _ i => ∃ k : Nat, k ≤ 12 ∧ i = .int .i64 k ∧ (sgn.take k).any (· == c) = false) (fun _ i => 12 - (intOf i).toNat)
    case atStart => exact ⟨0, by omega, rfl, by simp⟩
    case round =>
      obtain ⟨k, hk, rfl, hn⟩ := hrel
      have HN := Lib.hid hn
      clear hn
      by_cases hlt : k < 12
      · have hcell := sgn_cell w 5 k hlt
        have hs := Lib.hid (any_take_succ sgn (· == c) k hlt)
        unfold sgnCells at hcell
        go_wp2
        · go_ret
          exact ⟨ret_int (hyes.out (any_hit sgn (· == c) k hlt (by assumption))).symm, (Below.refl _ _).alloc (Nat.le_refl _) _⟩
        · go_round
          case rel => exact ⟨k + 1, by omega, by go_num, by rw [hs.out, HN.out, Bool.false_or]; assumption⟩
          case measure => simp [intOf]; omega
      · have hk12 : k = 12 := by omega
        subst hk12
        go_wp2
        go_ret
        exact ⟨ret_int (hno.out HN.out).symm, (Below.refl _ _).alloc (Nat.le_refl _) _⟩

set_option maxHeartbeats 400000 in
theorem ref_class_any (c : Int) (h0 : 0 ≤ c) (h255 : c ≤ 255) (w : World) :
    Calls Tryd.prog 91 #[.int .u8 c] w fun e w' => e = .returned (.int .u8 (cls c)) ∧ Below w.heap.size w w' := by
  by_cases hs : ¬ c = 32 ∧ ¬ c = 9 ∧ ¬ c = 10 ∧ (c < 48 ∨ (57 < c ∧ c < 65) ∨ (90 < c ∧ c < 97) ∨ 122 < c)
  · exact ref_class_sign c h0 h255 hs.1 hs.2.1 hs.2.2.1 hs.2.2.2 w
  · rcases (by omega : c = 32 ∨ c = 9 ∨ c = 10 ∨ (48 ≤ c ∧ c ≤ 57) ∨ (97 ≤ c ∧ c ≤ 122) ∨ (65 ≤ c ∧ c ≤ 90)) with rfl | rfl | rfl | ⟨ha, hb⟩ | ⟨ha, hb⟩ | ⟨ha, hb⟩
    all_goals
      clear hs
      try have c1 : (c == 32) = false := by simp; omega
      try have c2 : (c == 9) = false := by simp; omega
      try have c3 : (c == 10) = false := by simp; omega
      go_enter Tryd.func91, Tryd.ntmps91
      go_wp2
      go_ret
      refine ⟨ret_int ?_, Below.refl _ _⟩
      unfold cls
      repeat' split
      all_goals omega
end Go.Proofs.YtekhblomdlehhaaDoor
