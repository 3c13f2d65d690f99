/- Plain lemmas on lists, no program in sight. -/
set_option linter.unusedVariables false
set_option maxRecDepth 100000
set_option linter.unusedSimpArgs false
namespace Go.Proofs.YtekhblomdlehhaaDoor

theorem any_take_succ (l : List Int) (p : Int → Bool) (k : Nat) (h : k < l.length) : (l.take (k + 1)).any p = ((l.take k).any p || p (l[k]?.getD 0)) := by
  rw [List.take_succ_eq_append_getElem h, List.any_append]
  simp [h]

theorem any_hit (l : List Int) (p : Int → Bool) (k : Nat) (h : k < l.length) (hp : p (l[k]?.getD 0) = true) : l.any p = true := by
  rw [List.any_eq_true]
  exact ⟨l[k], List.getElem_mem h, by simpa [h] using hp⟩

theorem all_take_succ (l : List Int) (p : Int → Bool) (k : Nat) (h : k < l.length) : (l.take (k + 1)).all p = ((l.take k).all p && p (l[k]?.getD 0)) := by
  rw [List.take_succ_eq_append_getElem h, List.all_append]
  simp [h]

theorem tw_hit {l : List Int} {p : Int → Bool} {k : Nat} (h : k < l.length) (ha : (l.take k).all p = true) (hp : p (l[k]?.getD 0) = false) : (l.takeWhile p).length = k := by
  induction l generalizing k with
  | nil => simp at h
  | cons x r ih =>
    cases k with
    | zero => simp at hp; simp [List.takeWhile_cons, hp]
    | succ k =>
      simp only [List.take_succ_cons, List.all_cons, Bool.and_eq_true] at ha
      have := ih (k := k) (by simpa using h) ha.2 (by simpa using hp)
      simp [List.takeWhile_cons, ha.1, this]

theorem tw_all {l : List Int} {p : Int → Bool} (ha : l.all p = true) : (l.takeWhile p).length = l.length := by
  induction l with
  | nil => rfl
  | cons x r ih =>
    simp only [List.all_cons, Bool.and_eq_true] at ha
    simp [List.takeWhile_cons, ha.1, ih ha.2]

theorem getD_range {l : List Int} {a b : Int} (h : ∀ x ∈ l, a ≤ x ∧ x ≤ b) (k : Nat) (hk : k < l.length) : a ≤ l[k]?.getD 0 ∧ l[k]?.getD 0 ≤ b := by
  have := h l[k] (List.getElem_mem hk)
  simpa [hk] using this

theorem take_all {α : Type} {l : List α} {n : Nat} (h : l.length = n) : l.take n = l := List.take_of_length_le (by omega)
end Go.Proofs.YtekhblomdlehhaaDoor
