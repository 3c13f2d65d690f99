/- Part 40 of the texts: My, Nf. -/
import Derived.Test.YtdlbjngpohkglaaGreatDoorG31
import Derived.Test.YtdlbjngpohkglaaGreatDoorG39
section
set_option linter.unusedVariables false
set_option maxRecDepth 100000
set_option linter.unusedSimpArgs false
namespace Go.Proofs.YtdlbjngpohkglaaGreatDoor
open Go.RowKit

/-- aterm's word for a node -/
def nodeM (a : AH) : Bool :=
  headB a.hd a.kn && regB a (inB [3, 6, 11, 13, 17, 18] a.kind) ((a.kind == 13) || (a.kind == 18)) && (!(a.kind == 13) || onceB a.rhos) && (!(inB [11, 13, 18] a.kind) || mayB a.eff) && (inB [11, 13, 18] a.kind || !decide (0 < a.en)) &&
    (fitsT (inB [11, 13, 15] a.kind) a.ty && fitsT (a.kind == 13) a.res)
theorem rhosB_iff (k : Int) (l : List Int) : rhosB k l l.length = true ↔ (∀ r ∈ l, ¬ r < 0) ∧ (k = 13 → (∀ r ∈ l, ¬ r < 1) ∧ onceB l = true) := by
  unfold rhosB
  rw [List.all_eq_true, once_iff]
  constructor
  · intro h
    have h' : ∀ i x, l[i]? = some x → rhoB k l i x = true := by
      intro i x hx
      have hi := (List.getElem?_eq_some_iff.1 hx).1
      have := h i (List.mem_range.2 hi)
      rw [hx] at this
      exact this
    refine ⟨fun r hr => ?_, fun hk => ⟨fun r hr => ?_, fun i x hx => ?_⟩⟩
    · obtain ⟨i, hi⟩ := List.getElem?_of_mem hr
      have := h' i r hi
      unfold rhoB at this
      simp at this
      omega
    · obtain ⟨i, hi⟩ := List.getElem?_of_mem hr
      have := h' i r hi
      unfold rhoB at this
      simp [hk] at this
      omega
    · have := h' i x hx
      unfold rhoB at this
      simp only [hk, beq_self_eq_true, Bool.true_and, Bool.not_eq_true', Bool.or_eq_false_iff] at this
      exact this.2.2
  · rintro ⟨h1, h2⟩ i hi
    have hi := List.mem_range.1 hi
    rw [List.getElem?_eq_getElem hi]
    have h3 := h1 _ (List.getElem_mem hi)
    show rhoB k l i l[i] = true
    unfold rhoB
    have e1 : decide (l[i] < 0) = false := by simpa using h3
    rw [e1]
    by_cases hk : k = 13
    · obtain ⟨h4, h5⟩ := h2 hk
      have h6 := h4 _ (List.getElem_mem hi)
      have e2 : (l[i] == 0) = false := by simp; omega
      rw [e2, h5 i _ (List.getElem?_eq_getElem hi)]
      simp
    · have e2 : (k == 13) = false := by simpa using hk
      rw [e2]; rfl
theorem nodeM_eq (a : AH) (hr : a.rhos.length = a.rn) (he : a.eff.length = a.en) : nodeM a = node13 a := by
  have hmay : a.en = 0 → mayB a.eff = true := by
    intro h
    have : a.eff = [] := List.eq_nil_of_length_eq_zero (by omega)
    rw [this]
    decide
  have hrho : rhosB a.kind a.rhos a.rn = (!(a.rhos.any (fun r => decide (r < if a.kind = 13 then 1 else 0))) && (!(a.kind == 13) || onceB a.rhos)) := by
    rw [← hr, Bool.eq_iff_iff, rhosB_iff]
    by_cases hk : a.kind = 13
    · simp only [hk, if_true, forall_const, beq_self_eq_true, Bool.not_true, Bool.false_or, Bool.and_eq_true, Bool.not_eq_true', List.any_eq_false, decide_eq_true_eq]
      constructor
      · rintro ⟨_, h2, h3⟩; exact ⟨h2, h3⟩
      · rintro ⟨h2, h3⟩; exact ⟨fun r hr' h => h2 r hr' (by omega), h2, h3⟩
    · have e2 : (a.kind == 13) = false := by simpa using hk
      simp only [hk, if_false, e2, Bool.not_false, Bool.true_or, Bool.and_true, Bool.not_eq_true', List.any_eq_false, decide_eq_true_eq, false_implies, and_true]
  unfold nodeM node13 regB fitsT
  rw [hrho]
  generalize a.rhos.any (fun r => decide (r < if a.kind = 13 then 1 else 0)) = R
  generalize onceB a.rhos = O
  generalize headB a.hd a.kn = H
  generalize mayT a.ty.er = T1
  generalize mayT a.res.er = T2
  generalize plainB a.ty.head = P1
  generalize plainB a.res.head = P2
  have e13 : (a.kind != 13) = !(a.kind == 13) := rfl
  have e18 : (a.kind != 18) = !(a.kind == 18) := rfl
  have e0 : (a.rho != 0) = !(a.rho == 0) := rfl
  have e1 : decide (a.rho < 1) = (decide (a.rho < 0) || (a.rho == 0)) := by
    rw [Bool.eq_iff_iff]; simp; omega
  have em : decide (0 < a.en) = false → mayB a.eff = true := fun h => hmay (by simpa using h)
  rw [e13, e18, e0, e1]
  generalize (a.kind == 13) = K13 at *
  generalize (a.kind == 18) = K18 at *
  generalize (a.kind == 17) = K17 at *
  generalize (a.rho == 0) = Z at *
  generalize decide (a.rho < 0) = N at *
  generalize decide (0 < a.rn) = RN at *
  generalize decide (0 < a.en) = EN at *
  generalize mayB a.eff = M at *
  generalize inB [3, 6, 11, 13, 17, 18] a.kind = I1 at *
  generalize inB [11, 13, 18] a.kind = I2 at *
  generalize inB [11, 13, 15] a.kind = I3 at *
  clear hr he hmay hrho e13 e18 e0 e1
  clear a
  grind
end Go.Proofs.YtdlbjngpohkglaaGreatDoor
end
section
set_option linter.unusedVariables false
set_option maxRecDepth 100000
set_option linter.unusedSimpArgs false
namespace Go.Proofs.YtdlbjngpohkglaaGreatDoor
open Go.RowKit

/-- what a node that may be is -/
structure NodeOk (a : AH) : Prop where
  k1 : 1 ≤ a.kind
  k18 : a.kind ≤ 18
  kids : kidsI (if a.kind = 17 then 4 else if a.kind = 18 then 1 else a.kind) = a.kn
  op : a.kind = 9 → 1 ≤ a.op ∧ a.op ≤ 5
  op0 : a.kind ≠ 9 → a.op = 0
  n : 0 ≤ a.n
  n0 : a.kind ≠ 1 → a.n = 0
  name : (a.kind = 2 ∨ a.kind = 12 ∨ a.kind = 13 ∨ a.kind = 18) → nameB a.name = true
  name0 : ¬ (a.kind = 2 ∨ a.kind = 12 ∨ a.kind = 13 ∨ a.kind = 18) → a.name.size = 0
  arg : (a.kind = 11 ∨ a.kind = 13 ∨ a.kind = 16) → nameB a.arg = true
  arg0 : ¬ (a.kind = 11 ∨ a.kind = 13 ∨ a.kind = 16) → a.arg.size = 0
  exn : (a.kind = 15 ∨ a.kind = 16) → exnB a.exn = true
  exn0 : ¬ (a.kind = 15 ∨ a.kind = 16) → a.exn.size = 0
  rho : 0 ≤ a.rho
  rho0 : inB [3, 6, 11, 13, 17, 18] a.kind = false → a.rho = 0
  rhos : ∀ r ∈ a.rhos, 0 ≤ r
  rhos0 : a.kind ≠ 13 → a.kind ≠ 18 → a.rn = 0
  eff : mayB a.eff = true
  eff0 : inB [11, 13, 18] a.kind = false → a.en = 0
  ty : inB [11, 13, 15] a.kind = true → mayT a.ty.er = true
  ty0 : inB [11, 13, 15] a.kind = false → plainB a.ty.head = true
  res : a.kind = 13 → mayT a.res.er = true
  res0 : a.kind ≠ 13 → plainB a.res.head = true
theorem fitsB_true {b : Bool} {s : ByteArray} {q : Bool} (h : fitsB b s q = true) : (b = true → q = true) ∧ (b = false → s.size = 0) := by
  unfold fitsB at h
  cases b
  · simpa using h
  · simpa using h
theorem node4B_ok {k op at_ n : Int} {name arg exn : ByteArray} {m : Nat} (h : node4B ⟨k, op, at_, n, name, arg, exn⟩ m = true) :
    0 ≤ kidsI k ∧ (m : Int) = kidsI k ∧ (k = 9 → 1 ≤ op ∧ op ≤ 5) ∧ (k ≠ 9 → op = 0) ∧ 0 ≤ n ∧ (k ≠ 1 → n = 0) ∧
      ((wName k = true → nameB name = true) ∧ (wName k = false → name.size = 0)) ∧ ((wArg k = true → nameB arg = true) ∧ (wArg k = false → arg.size = 0)) ∧ ((wExn k = true → exnB exn = true) ∧ (wExn k = false → exn.size = 0)) := by
  unfold node4B at h
  simp only [Bool.and_eq_true, Bool.not_eq_true', Bool.or_eq_false_iff, decide_eq_false_iff_not, Bool.and_eq_false_imp, bne_eq_false_iff_eq] at h
  obtain ⟨⟨⟨⟨⟨h1, h2⟩, h3⟩, h4, h5⟩, ⟨h6, h7⟩, h8⟩, ⟨h9, h10⟩, h11⟩ := h
  refine ⟨by omega, h2, fun hk => ?_, fun hk => ?_, by omega, fun hk => ?_, fitsB_true h9, fitsB_true h10, fitsB_true h11⟩
  · have := h4 (by simp [hk])
    omega
  · exact h5 (by simp [hk])
  · exact h8 (by simp [hk])
theorem wName_iff (k : Int) : (wName k = true ↔ k = 2 ∨ k = 12 ∨ k = 13) ∧ (wName k = false ↔ ¬ (k = 2 ∨ k = 12 ∨ k = 13)) := by
  unfold wName
  constructor
  · simp only [Bool.or_eq_true, beq_iff_eq]; omega
  · simp only [Bool.or_eq_false_iff, beq_eq_false_iff_ne]; omega
theorem wArg_iff (k : Int) : (wArg k = true ↔ k = 11 ∨ k = 13 ∨ k = 16) ∧ (wArg k = false ↔ ¬ (k = 11 ∨ k = 13 ∨ k = 16)) := by
  unfold wArg
  constructor
  · simp only [Bool.or_eq_true, beq_iff_eq]; omega
  · simp only [Bool.or_eq_false_iff, beq_eq_false_iff_ne]; omega
theorem wExn_iff (k : Int) : (wExn k = true ↔ k = 15 ∨ k = 16) ∧ (wExn k = false ↔ ¬ (k = 15 ∨ k = 16)) := by
  unfold wExn
  constructor
  · simp only [Bool.or_eq_true, beq_iff_eq]
  · simp only [Bool.or_eq_false_iff, beq_eq_false_iff_ne]; omega
theorem kidsI_rng {k : Int} (h : 0 ≤ kidsI k) : 1 ≤ k ∧ k ≤ 16 := by
  by_cases h1 : 1 ≤ k ∧ k ≤ 16
  · exact h1
  · have : kidsI k = -1 := by unfold kidsI; rw [if_neg (by omega), if_neg (by omega), if_neg (by omega), if_neg (by omega)]
    omega
theorem kidsI_le (k : Int) : kidsI k ≤ 3 := by
  unfold kidsI
  split
  · omega
  · split
    · omega
    · split
      · omega
      · split <;> omega
theorem headB_ok (k op at_ n : Int) (name arg exn : ByteArray) (m : Nat) (h : headB ⟨k, op, at_, n, name, arg, exn⟩ m = true) :
    1 ≤ k ∧ k ≤ 18 ∧ kidsI (if k = 17 then 4 else if k = 18 then 1 else k) = m ∧ (k = 9 → 1 ≤ op ∧ op ≤ 5) ∧ (k ≠ 9 → op = 0) ∧ 0 ≤ n ∧ (k ≠ 1 → n = 0) ∧
      ((k = 2 ∨ k = 12 ∨ k = 13 ∨ k = 18) → nameB name = true) ∧ (¬ (k = 2 ∨ k = 12 ∨ k = 13 ∨ k = 18) → name.size = 0) ∧
      ((k = 11 ∨ k = 13 ∨ k = 16) → nameB arg = true) ∧ (¬ (k = 11 ∨ k = 13 ∨ k = 16) → arg.size = 0) ∧ ((k = 15 ∨ k = 16) → exnB exn = true) ∧ (¬ (k = 15 ∨ k = 16) → exn.size = 0) := by
  unfold headB at h
  split at h
  · rename_i h17
    have h17 : k = 17 := h17
    subst h17
    simp only [bareB, Bool.and_eq_true, beq_iff_eq, toList_empty, decide_eq_true_eq] at h
    obtain ⟨⟨⟨⟨⟨⟨h1, h2⟩, h3⟩, h4⟩, h5⟩, h6⟩, h7⟩ := h
    refine ⟨by omega, by omega, ?_, by omega, fun _ => h1, by omega, fun _ => h2, by omega, fun _ => h5, by omega, fun _ => h3, by omega, fun _ => h4⟩
    rw [h7]; rfl
  · rename_i h17
    have h17 : ¬ k = 17 := h17
    split at h
    · rename_i h18
      have h18 : k = 18 := h18
      subst h18
      simp only [bareB, Bool.and_eq_true, beq_iff_eq, toList_empty, decide_eq_true_eq] at h
      obtain ⟨⟨⟨⟨⟨⟨h1, h2⟩, h3⟩, h4⟩, h5⟩, h6⟩, h7⟩ := h
      refine ⟨by omega, by omega, ?_, by omega, fun _ => h1, by omega, fun _ => h2, fun _ => h5, by omega, by omega, fun _ => h3, by omega, fun _ => h4⟩
      rw [h7]; rfl
    · rename_i h18
      have h18 : ¬ k = 18 := h18
      obtain ⟨h1, h2, h3, h4, h5, h6, ⟨h7, h7'⟩, ⟨h8, h8'⟩, ⟨h9, h9'⟩⟩ := node4B_ok h
      obtain ⟨hr1, hr2⟩ := kidsI_rng h1
      have hm : (m : Int) = kidsI k := by
        have := kidsI_le k
        rw [Nat.min_def] at h2
        split at h2 <;> omega
      refine ⟨hr1, by omega, by rw [if_neg h17, if_neg h18, hm], h3, h4, h5, h6, fun hk => h7 ((wName_iff k).1.2 (by omega)), fun hk => h7' ((wName_iff k).2.2 (by omega)), fun hk => h8 ((wArg_iff k).1.2 hk), fun hk => h8' ((wArg_iff k).2.2 hk), fun hk => h9 ((wExn_iff k).1.2 hk), fun hk => h9' ((wExn_iff k).2.2 hk)⟩
theorem node_ok {a : AH} (h : node13 a = true) (hr : a.rhos.length = a.rn) : NodeOk a := by
  unfold node13 at h
  simp only [Bool.and_eq_true, Bool.not_eq_true', Bool.or_eq_false_iff, Bool.and_eq_false_imp, Bool.or_eq_true, decide_eq_false_iff_not, Bool.not_eq_false', bne_iff_ne, beq_iff_eq, bne_eq_false_iff_eq, beq_eq_false_iff_ne] at h
  obtain ⟨⟨⟨⟨⟨⟨⟨⟨h1, h2⟩, h3⟩, h4⟩, h5⟩, h6⟩, ⟨h7, h8⟩⟩, ⟨h9, h10⟩⟩, h11⟩ := h
  obtain ⟨k1, k2, k3, k4, k5, k6, k7, k8, k9, k10, k11, k12, k13⟩ := headB_ok _ _ _ _ _ _ _ _ h1
  rw [← hr, rhosB_iff] at h6
  refine ⟨k1, k2, k3, k4, k5, k6, k7, k8, k9, k10, k11, k12, k13, by omega, fun h => h4 h, fun r hr => by have := h6.1 r hr; omega, fun ha hb => by have := h5 ⟨ha, hb⟩; omega, h8, fun h => by have := h7 h; omega, h9, h10, fun h => ?_, fun h => ?_⟩
  · rcases h11 with ⟨_, h11⟩ | ⟨h11, _⟩
    · exact h11
    · exact absurd h h11
  · rcases h11 with ⟨h11, _⟩ | ⟨_, h11⟩
    · exact absurd h11 h
    · exact h11
end Go.Proofs.YtdlbjngpohkglaaGreatDoor
end
