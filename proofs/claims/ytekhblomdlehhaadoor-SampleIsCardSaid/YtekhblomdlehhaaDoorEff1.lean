/- atoms: effect.atom, enclaveref11.Atom, Less; effect.compare and the comparisons beneath. -/
import Derived.Test.YtekhblomdlehhaaDoorExn
import Derived.Test.YtekhblomdlehhaaDoorAtom
import Derived.StillTailTactics
import Derived.Sort.Grow
set_option linter.unusedVariables false
set_option maxRecDepth 100000
set_option linter.unusedSimpArgs false
namespace Go.Proofs.YtekhblomdlehhaaDoor
open Go.RowKit

/-- an atom's three cells -/
def encA (a : Atom) : List Value := [.int .u8 a.kind, .int .i64 a.rho, .string a.exn]
theorem encA_len (a : Atom) : (encA a).length = 3 := rfl
/-- Is it an atom? -/
def atomB (a : Atom) : Bool :=
  if a.kind = 1 ∨ a.kind = 2 then decide (0 ≤ a.rho) && a.exn.toList.isEmpty else if a.kind = 3 then decide (a.rho = 0) && exnB a.exn else false

set_option maxHeartbeats 400000 in
theorem atom_any (a : Atom) (w : World) :
    Calls Tryd.prog 41 #[.agg #[.int .u8 a.kind, .int .i64 a.rho, .string a.exn]] w fun e w' => e = .returned (.bool (atomB a)) ∧ Below w.heap.size w w' := by
  obtain ⟨k, r, s⟩ := a
  by_cases h12 : k = 1 ∨ k = 2
  · have hr : Hid (atomB ⟨k, r, s⟩ = (decide (0 ≤ r) && s.toList.isEmpty)) := by show atomB ⟨k, r, s⟩ = _; simp [atomB, h12]
    by_cases h0 : 0 ≤ r
    · cases he : s.toList.isEmpty
      · have he' : (s.toList == []) = false := by rw [beq_eq_false_iff_ne]; intro e; rw [e] at he; cases he
        rcases h12 with rfl | rfl
        all_goals
          go_enter Tryd.func41, Tryd.ntmps41
          go_wp2_with fail
          go_ret
          exact ⟨ret_bool (by rw [hr.out]; simp [h0, he]), (Below.refl _ _).alloc (Nat.le_refl _) _⟩
      · have he' : s.toList = [] := by simpa using he
        rcases h12 with rfl | rfl
        all_goals
          go_enter Tryd.func41, Tryd.ntmps41
          go_wp2_with fail
          go_ret
          exact ⟨ret_bool (by rw [hr.out]; simp [h0, he]), (Below.refl _ _).alloc (Nat.le_refl _) _⟩
    · rcases h12 with rfl | rfl
      all_goals
        go_enter Tryd.func41, Tryd.ntmps41
        go_wp2_with fail
        go_ret
        exact ⟨ret_bool (by rw [hr.out]; simp; omega), (Below.refl _ _).alloc (Nat.le_refl _) _⟩
  · have k1 : (k == 1) = false := by rw [beq_eq_false_iff_ne]; omega
    have k2 : (k == 2) = false := by rw [beq_eq_false_iff_ne]; omega
    by_cases h3 : k = 3
    · subst h3
      by_cases h0 : r = 0
      · subst h0
        have hr : Hid (atomB ⟨3, 0, s⟩ = exnB s) := by show atomB ⟨3, 0, s⟩ = _; simp [atomB]
        have hc := fun W hrow => words_Exn_any (some ⟨w.heap.size + 1, 0, none⟩) 1 1 [s] W rfl (by omega) hrow
        have he : Hid ([s].all exnB = exnB s) := by show [s].all exnB = exnB s; simp
        have HC := Lib.hid hc
        clear hc
        go_enter Tryd.func41, Tryd.ntmps41
        go_wp2_with fail
        refine (HC.out _ (RowE.newAt encS_len _ [s] _ rfl _ (0, 0) _ (by simp))).mono ?_
        rintro e w1 ⟨rfl, hb⟩
        have HB : Hid (Below w.heap.size w w1) := (((Below.refl _ w).alloc (Nat.le_refl _) _).alloc (by simp) _).trans (hb.mono (by simp; omega))
        clear hb
        rw [he.out]
        go_wp2_with fail
        go_ret
        exact ⟨ret_bool hr.out.symm, HB.out⟩
      · have hr : Hid (atomB ⟨3, r, s⟩ = false) := by show atomB ⟨3, r, s⟩ = _; simp [atomB, h0]
        have r0 : (r == 0) = false := by rw [beq_eq_false_iff_ne]; exact h0
        go_enter Tryd.func41, Tryd.ntmps41
        go_wp2_with fail
        go_ret
        exact ⟨ret_bool hr.out.symm, (Below.refl _ _).alloc (Nat.le_refl _) _⟩
    · have hr : Hid (atomB ⟨k, r, s⟩ = false) := by show atomB ⟨k, r, s⟩ = _; simp [atomB, h12, h3]
      have k3 : (k == 3) = false := by rw [beq_eq_false_iff_ne]; exact h3
      go_enter Tryd.func41, Tryd.ntmps41
      go_wp2_with fail
      go_ret
      exact ⟨ret_bool hr.out.symm, (Below.refl _ _).alloc (Nat.le_refl _) _⟩

set_option maxHeartbeats 400000 in
theorem ref_Atom_any (a : Atom) (w : World) :
    Calls Tryd.prog 14 #[.agg #[.int .u8 a.kind, .int .i64 a.rho, .string a.exn]] w fun e w' => e = .returned (.bool (atomB a)) ∧ Below w.heap.size w w' := by
  obtain ⟨k, r, s⟩ := a
  by_cases h3 : k = 3
  · subst h3
    by_cases h0 : r = 0
    · subst h0
      have hr : Hid (atomB ⟨3, 0, s⟩ = exnB s) := by show atomB ⟨3, 0, s⟩ = _; simp [atomB]
      go_enter Tryd.func14, Tryd.ntmps14
      go_wp2_with fail
      refine (ref_Exn_any s _).mono ?_
      rintro e w1 ⟨rfl, hb⟩
      have HB : Hid (Below w.heap.size w w1) := ((Below.refl _ w).alloc (Nat.le_refl _) _).trans (hb.mono (by simp))
      clear hb
      go_wp2_with fail
      go_ret
      exact ⟨ret_bool hr.out.symm, HB.out⟩
    · have hr : Hid (atomB ⟨3, r, s⟩ = false) := by show atomB ⟨3, r, s⟩ = _; simp [atomB, h0]
      have r0 : (r == 0) = false := by rw [beq_eq_false_iff_ne]; exact h0
      go_enter Tryd.func14, Tryd.ntmps14
      go_wp2_with fail
      go_ret
      exact ⟨ret_bool hr.out.symm, (Below.refl _ _).alloc (Nat.le_refl _) _⟩
  · have k3 : (k == 3) = false := by rw [beq_eq_false_iff_ne]; exact h3
    by_cases h12 : k = 1 ∨ k = 2
    · have hr : Hid (atomB ⟨k, r, s⟩ = (decide (0 ≤ r) && s.toList.isEmpty)) := by show atomB ⟨k, r, s⟩ = _; simp [atomB, h12]
      by_cases h0 : 0 ≤ r
      · cases he : s.toList.isEmpty
        · have he' : (s.toList == []) = false := by rw [beq_eq_false_iff_ne]; intro e; rw [e] at he; cases he
          rcases h12 with rfl | rfl
          all_goals
            go_enter Tryd.func14, Tryd.ntmps14
            go_wp2_with fail
            go_ret
            exact ⟨ret_bool (by rw [hr.out]; simp [h0, he]), (Below.refl _ _).alloc (Nat.le_refl _) _⟩
        · have he' : s.toList = [] := by simpa using he
          rcases h12 with rfl | rfl
          all_goals
            go_enter Tryd.func14, Tryd.ntmps14
            go_wp2_with fail
            go_ret
            exact ⟨ret_bool (by rw [hr.out]; simp [h0, he]), (Below.refl _ _).alloc (Nat.le_refl _) _⟩
      · rcases h12 with rfl | rfl
        all_goals
          go_enter Tryd.func14, Tryd.ntmps14
          go_wp2_with fail
          go_ret
          exact ⟨ret_bool (by rw [hr.out]; simp; omega), (Below.refl _ _).alloc (Nat.le_refl _) _⟩
    · have k1 : (k == 1) = false := by rw [beq_eq_false_iff_ne]; omega
      have k2 : (k == 2) = false := by rw [beq_eq_false_iff_ne]; omega
      have hr : Hid (atomB ⟨k, r, s⟩ = false) := by show atomB ⟨k, r, s⟩ = _; simp [atomB, h12, h3]
      go_enter Tryd.func14, Tryd.ntmps14
      go_wp2_with fail
      go_ret
      exact ⟨ret_bool hr.out.symm, (Below.refl _ _).alloc (Nat.le_refl _) _⟩
end Go.Proofs.YtekhblomdlehhaaDoor
