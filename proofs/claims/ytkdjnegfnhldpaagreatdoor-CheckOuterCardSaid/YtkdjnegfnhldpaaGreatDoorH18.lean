/- Part 18 of the texts: Cp2, Cp3, Cm, Ca. -/
import Derived.Test.YtkdjnegfnhldpaaGreatDoorH17
import Derived.Test.YtkdjnegfnhldpaaGreatDoorH05
import Derived.WalkSmall
set_option linter.unusedVariables false
set_option maxRecDepth 100000
set_option linter.unusedSimpArgs false
namespace Go.Proofs.YtkdjnegfnhldpaaGreatDoor
open Go.Lib (hid)
section
open Go.RowKit
theorem mayB_of : ∀ {l : List Atom}, Rising Atom.lt l → (∀ x ∈ l, atomB x = true) → mayB l = true
  | [], _, _ => rfl
  | [a], _, h => h a (by simp)
  | a :: b :: l, hr, h => by
    have hr' := List.pairwise_cons.1 hr
    simp only [mayB, Bool.and_eq_true]
    exact ⟨⟨h a (by simp), hr'.1 b (by simp)⟩, mayB_of hr'.2 (fun x hx => h x (by simp [hx]))⟩
theorem mayB_atoms : ∀ {l : List Atom}, mayB l = true → Rising Atom.lt l ∧ ∀ x ∈ l, atomB x = true
  | [], _ => ⟨List.Pairwise.nil, by simp⟩
  | [a], h => ⟨List.pairwise_singleton _ _, by intro x hx; rw [List.mem_singleton] at hx; subst hx; exact h⟩
  | a :: b :: l, h => by
    simp only [mayB, Bool.and_eq_true] at h
    obtain ⟨⟨h1, h2⟩, h3⟩ := h
    obtain ⟨h4, h5⟩ := mayB_atoms h3
    refine ⟨List.pairwise_cons.2 ⟨fun x hx => ?_, h4⟩, fun x hx => ?_⟩
    · rcases List.mem_cons.1 hx with rfl | hx
      · exact h2
      · exact Atom.lt_trans h2 ((List.pairwise_cons.1 h4).1 x hx)
    · rcases List.mem_cons.1 hx with rfl | hx
      · exact h1
      · exact h5 x hx
theorem effL_can {l : List Atom} (h : mayB l = true) : effL l = l := by
  obtain ⟨h1, h2⟩ := mayB_atoms h
  exact (eq_sortA h1 (fun a => by rw [List.mem_filter]; exact ⟨fun hx => ⟨hx, h2 a hx⟩, And.left⟩)).symm
theorem mayB_effL (l : List Atom) : mayB (effL l) = true := mayB_of (rising_sortA _) (fun x hx => ((mem_effL _ _).1 hx).2)
theorem effL_nil : effL [] = [] := rfl
theorem effL_idem (l : List Atom) : effL (effL l) = effL l := effL_can (mayB_effL l)
theorem mayB_filter {l : List Atom} (q : Atom → Bool) (h : mayB l = true) : mayB (l.filter q) = true := by
  obtain ⟨h1, h2⟩ := mayB_atoms h
  exact mayB_of (List.Pairwise.filter _ h1) (fun x hx => h2 x (List.mem_filter.1 hx).1)
theorem effL_len0 (l : List Atom) : (effL l).length ≤ l.length := Nat.le_trans (sortR_length _ _) (List.length_filter_le _ _)
theorem withoutL_length (l : List Atom) (r : List Int) : (withoutL l r).length ≤ l.length := Nat.le_trans (List.length_filter_le _ _) (effL_len0 l)
theorem handledL_length (l : List Atom) (r : List ByteArray) : (handledL l r).length ≤ l.length := Nat.le_trans (List.length_filter_le _ _) (effL_len0 l)
structure GoodN (a : LAH) (n : Nat) : Prop where
  k1 : 1 ≤ a.kind
  k18 : a.kind ≤ 18
  kids : kidsI (if a.kind = 17 then 4 else if a.kind = 18 then 1 else a.kind) = n
  rho : 0 ≤ a.rho
  rhos : ∀ r ∈ a.rhos, 0 ≤ r
  eff : mayB a.eff = true
  gr : greatB a.eff = false
  ty : inB [11, 13, 15] a.kind = true → mayT a.ty = true
  res : a.kind = 13 → mayT a.res = true
  tys : SmallT a.ty 100
  ress : SmallT a.res 100
  exn : a.exn.size ≤ 100
  at0 : 0 ≤ a.at_
inductive GoodT : AT → Prop where
  | node (a : LAH) (l : List AT) (h : GoodN a l.length) (hl : ∀ t ∈ l, GoodT t) : GoodT (.node a l)
theorem GoodT.head {a : LAH} {l : List AT} (h : GoodT (.node a l)) : GoodN a l.length := by cases h; assumption
theorem GoodT.kid {a : LAH} {l : List AT} (h : GoodT (.node a l)) : ∀ t ∈ l, GoodT t := by cases h; assumption
structure GoodE (B : Nat) (x : TE) : Prop where
  may : mayT x.1 = true
  effs : effsOK x.1 = true
  can : mayB x.2 = true
  exn : ∀ a ∈ x.2, a.exn.size ≤ 100
  len : x.2.length ≤ B
theorem GoodE.mono {B B' : Nat} {x : TE} (h : GoodE B x) (hb : B ≤ B') : GoodE B' x := ⟨h.may, h.effs, h.can, h.exn, Nat.le_trans h.len hb⟩
structure GoodB (b : Bnd) : Prop where
  may : b.fn = none → mayT b.ty = true
  effs : effsOK b.ty = true
  fn : ∀ f, b.fn = some f → ∃ n, GoodN f n ∧ mayT f.ty = true ∧ mayT f.res = true
theorem greatB_iff (l : List Atom) : greatB l = false ↔ l.length ≤ 100 ∧ ∀ a ∈ l, a.exn.size ≤ 100 := by
  unfold greatB
  simp only [Bool.or_eq_false_iff, decide_eq_false_iff_not, Nat.not_lt, List.any_eq_false, decide_eq_true_eq]
theorem greatB_effL {l : List Atom} (h : greatB l = false) : greatB (effL l) = false := by
  rw [greatB_iff] at h ⊢
  exact ⟨Nat.le_trans (effL_len0 l) h.1, fun a ha => h.2 a ((mem_effL _ _).1 ha).1⟩
theorem greatB_swL {l : List Atom} (f t : List Int) (h : greatB l = false) : greatB (swL f t l) = false := by
  rw [greatB_iff] at h ⊢
  refine ⟨?_, fun a ha => ?_⟩
  · unfold swL
    refine Nat.le_trans (sortR_length _ _) (Nat.le_trans (List.length_filter_le _ _) ?_)
    rw [List.length_map]
    exact Nat.le_trans (effL_len0 l) h.1
  · obtain ⟨y, hy, _, rfl, _⟩ := mem_swL ha
    have := h.2 y hy
    unfold swA
    split <;> exact this
theorem mayB_swL (f t : List Int) (l : List Atom) : mayB (swL f t l) = true := mayB_effL _
theorem turnI_nonneg {r : Int} {f t : List Int} (hr : 0 ≤ r) (ht : ∀ z ∈ t, 0 ≤ z) : 0 ≤ turnI r f t := by
  rcases turnI_in r f t with h | h
  · rw [h]; exact hr
  · exact ht _ h
theorem nodeB_swH {a : LH} {n : Nat} {f t : List Int} (ht : ∀ z ∈ t, 0 ≤ z) (h : nodeB a n = true) : nodeB (swH f t a) n = true := by
  unfold nodeB swH at *
  by_cases h1 : a.kind = 1
  · simpa [h1] using h
  · have hnil : swL f t [] = [] := rfl
    simp only [h1, if_false] at h ⊢
    by_cases h2 : a.kind = 2
    · simp only [h2, if_true, Bool.and_eq_true, decide_eq_true_eq] at h ⊢
      exact ⟨⟨turnI_nonneg h.1.1 ht, by rw [h.1.2, hnil]⟩, h.2⟩
    · by_cases h3 : a.kind = 3
      · simp [h3] at h ⊢
        exact ⟨⟨turnI_nonneg h.1.1 ht, by rw [h.1.2, hnil]⟩, h.2⟩
      · by_cases h4 : a.kind = 4
        · simp [h4] at h ⊢
          exact ⟨⟨turnI_nonneg h.1.1 ht, mayB_swL f t _⟩, h.2⟩
        · simp [h2, h3, h4] at h
theorem mayT_swap {f t : List Int} (ht : ∀ z ∈ t, 0 ≤ z) (x : RT) : mayT x = true → mayT (swapT f t x) = true := by
  refine Rose.ind (P := fun (x : RT) => mayT x = true → mayT (swapT f t x) = true) (fun a l ih h => ?_) x
  rw [mayT_node, Bool.and_eq_true, List.all_eq_true] at h
  unfold swapT at ih ⊢
  rw [Rose.map_node, mayT_node, Bool.and_eq_true, List.length_map, List.all_map, List.all_eq_true]
  exact ⟨nodeB_swH ht h.1, fun u hu => ih u hu (h.2 u hu)⟩
theorem effsOK_swap (f t : List Int) (x : RT) : effsOK x = true → effsOK (swapT f t x) = true := by
  refine Rose.ind (P := fun (x : RT) => effsOK x = true → effsOK (swapT f t x) = true) (fun a l ih h => ?_) x
  rw [effsOK_node, Bool.and_eq_true, List.all_eq_true] at h
  unfold swapT at ih ⊢
  rw [Rose.map_node, effsOK_node, Bool.and_eq_true, List.all_map, List.all_eq_true]
  refine ⟨?_, fun u hu => ih u hu (h.2 u hu)⟩
  have h1 := h.1
  simp only [Bool.not_eq_true'] at h1 ⊢
  unfold swH
  split
  · exact h1
  · exact greatB_swL f t h1
theorem size_swap (f t : List Int) (x : RT) : (swapT f t x).size = x.size := Rose.size_map _ x
theorem mayT_kid {x : RT} {k : Int} {i : Nat} (h : mayT x = true) (hk : x.head.kind = k) (hi : (k = 2 ∨ k = 4) ∧ i < 2 ∨ k = 3 ∧ i < 1) : i < x.kids.length ∧ mayT (x.kids.getD i tZero) = true := by
  cases x with
  | node a l =>
    simp only [Rose.head, Rose.kids] at hk ⊢
    rw [mayT_node, Bool.and_eq_true, List.all_eq_true] at h
    obtain ⟨h1, h2⟩ := h
    have hlt : i < l.length := by
      unfold nodeB at h1
      rcases hi with ⟨rfl | rfl, hi⟩ | ⟨rfl, hi⟩
      · simp [hk] at h1; omega
      · simp [hk] at h1; omega
      · simp [hk] at h1; omega
    refine ⟨hlt, ?_⟩
    rw [List.getD_eq_getElem?_getD, List.getElem?_eq_getElem hlt]
    exact h2 _ (List.getElem_mem hlt)
theorem effsOK_kid {x : RT} {i : Nat} (h : effsOK x = true) : effsOK (x.kids.getD i tZero) = true := by
  cases x with
  | node a l =>
    rw [effsOK_node, Bool.and_eq_true, List.all_eq_true] at h
    simp only [Rose.kids]
    rw [List.getD_eq_getElem?_getD]
    cases hx : l[i]? with
    | none => rfl
    | some y => exact h.2 y (List.mem_of_getElem? hx)
theorem effsOK_head {x : RT} (h : effsOK x = true) : greatB x.head.eff = false := by
  cases x with
  | node a l =>
    rw [effsOK_node, Bool.and_eq_true] at h
    show greatB a.eff = false
    simpa using h.1
def sumE (l : List TE) : Nat := (l.map (fun y => y.2.length)).sum
theorem sumE_flat (l : List TE) : (l.flatMap (·.2)).length = sumE l := by
  unfold sumE; rw [List.length_flatMap]
theorem allE_length (l : List TE) (more : List Atom) : (allE l more).length ≤ more.length + sumE l := by
  unfold allE
  refine Nat.le_trans (effL_len0 _) ?_
  rw [List.length_append, sumE_flat]
  exact Nat.le_refl _
theorem sumE_get {l : List TE} (j : Nat) : (l.getD j dTE).2.length ≤ sumE l := by
  rw [List.getD_eq_getElem?_getD]
  cases h : l[j]? with
  | none => simp [dTE]
  | some y =>
    unfold sumE
    exact le_sum_of_mem (List.mem_map_of_mem (f := fun y : TE => y.2.length) (List.mem_of_getElem? h))
theorem sumE_drop (l : List TE) (k : Nat) : sumE (l.drop k) ≤ sumE l := by
  have h : sumE l = sumE (l.take k) + sumE (l.drop k) := by
    unfold sumE
    rw [← List.sum_append, ← List.map_append, List.take_append_drop]
  omega
theorem sumE_two (l : List TE) : (l.getD 0 dTE).2.length + (l.getD 1 dTE).2.length ≤ sumE l := by
  match l with
  | [] => simp [dTE, sumE]
  | [x] => simp [dTE, sumE]
  | x :: y :: l => simp [sumE] <;> omega
theorem allE_mem {l : List TE} {more : List Atom} {x : Atom} (h : x ∈ allE l more) : (x ∈ more ∨ ∃ y ∈ l, x ∈ y.2) ∧ atomB x = true := by
  unfold allE at h
  rw [mem_effL, List.mem_append, List.mem_flatMap] at h
  exact h
theorem mayT_ty2 {k rho : Int} {eff : List Atom} {x y : RT} (hk : k = 2 ∧ eff = [] ∨ k = 4) (hr : 0 ≤ rho) (hx : mayT x = true) (hy : mayT y = true) : mayT (tyP k rho eff [x, y]) = true := by
  unfold tyP
  rw [mayT_node, Bool.and_eq_true]
  refine ⟨?_, by simp [hx, hy]⟩
  rcases hk with ⟨rfl, rfl⟩ | rfl
  · simp [nodeB, hr, effL_nil]
  · simp [nodeB, hr]; exact mayB_effL eff
theorem effsOK_ty {k rho : Int} {eff : List Atom} {l : List RT} (he : greatB eff = false) (hl : ∀ x ∈ l, effsOK x = true) : effsOK (tyP k rho eff l) = true := by
  unfold tyP
  rw [effsOK_node, Bool.and_eq_true, List.all_eq_true]
  exact ⟨by rw [greatB_effL he]; rfl, hl⟩
theorem GoodN.two {a : LAH} {n : Nat} (h : GoodN a n) (hk : a.kind = 3 ∨ a.kind = 8 ∨ a.kind = 9 ∨ a.kind = 10 ∨ a.kind = 12 ∨ a.kind = 13 ∨ a.kind = 16) : n = 2 := by
  have := h.kids
  rcases hk with e | e | e | e | e | e | e <;> simp [e, kidsI] at this <;> omega
theorem GoodN.one {a : LAH} {n : Nat} (h : GoodN a n) (hk : a.kind = 4 ∨ a.kind = 5 ∨ a.kind = 6 ∨ a.kind = 7 ∨ a.kind = 11 ∨ a.kind = 15 ∨ a.kind = 17) : n = 1 := by
  have := h.kids
  rcases hk with e | e | e | e | e | e | e <;> simp [e, kidsI] at this <;> omega
theorem GoodN.three {a : LAH} {n : Nat} (h : GoodN a n) (hk : a.kind = 14) : n = 3 := by
  have := h.kids
  simp [hk, kidsI] at this; omega
theorem rule_good {a : LAH} {l : List TE} {x : TE} (ha : GoodN a l.length) (hl : ∀ y ∈ l, ∃ B, GoodE B y) (h2 : a.kind ≠ 2) (h18 : a.kind ≠ 18) (h : RuleOk a l x) : GoodE (sumE l + 102) x := by
  have hg : ∀ j, j < l.length → ∃ B, GoodE B (l.getD j dTE) := fun j hj => by
    rw [List.getD_eq_getElem?_getD, List.getElem?_eq_getElem hj]
    exact hl _ (List.getElem_mem hj)
  have hex : ∀ more : List Atom, (∀ x ∈ more, x.exn.size ≤ 100) → ∀ m : List TE, (∀ y ∈ m, ∃ B, GoodE B y) → ∀ x ∈ allE m more, x.exn.size ≤ 100 := fun more hm m hmm x hx => by
    rcases (allE_mem hx).1 with h | ⟨y, hy, h⟩
    · exact hm x h
    · obtain ⟨B, hB⟩ := hmm y hy
      exact hB.exn x h
  have hlen : ∀ more : List Atom, more.length ≤ 1 → ∀ m : List TE, sumE m ≤ sumE l → (allE m more).length ≤ sumE l + 102 := fun more hm m h => by
    have := allE_length m more
    omega
  have hput : ∀ (f : Int → Atom), (f = aPut ∨ f = aGet) → ∀ r, ∀ x ∈ [f r], x.exn.size ≤ 100 := fun f hf r x hx => by
    rw [List.mem_singleton] at hx; subst hx
    rcases hf with rfl | rfl <;> exact Nat.zero_le _
  have hnil : ∀ x ∈ ([] : List Atom), x.exn.size ≤ 100 := fun x hx => by cases hx
  cases h with
  | pair k =>
    have hn := ha.two (by omega)
    obtain ⟨B0, g0⟩ := hg 0 (by omega)
    obtain ⟨B1, g1⟩ := hg 1 (by omega)
    exact ⟨mayT_ty2 (.inl ⟨rfl, rfl⟩) ha.rho g0.may g1.may, effsOK_ty rfl (by intro x hx; simp only [List.mem_cons, List.not_mem_nil, or_false] at hx; rcases hx with rfl | rfl; exact g0.effs; exact g1.effs),
      mayB_effL _, hex _ (hput _ (.inl rfl) _) l hl, hlen _ (by simp) _ (Nat.le_refl _)⟩
  | proj k ht =>
    have hn := ha.one (by omega)
    obtain ⟨B0, g0⟩ := hg 0 (by omega)
    have hk : (l.getD 0 dTE).1.head.kind = 2 := by simpa [isK] using ht
    exact ⟨(mayT_kid g0.may hk (.inl ⟨.inl rfl, by omega⟩)).2, effsOK_kid g0.effs, mayB_effL _, hex _ (hput _ (.inr rfl) _) l hl, hlen _ (by simp) _ (Nat.le_refl _)⟩
  | ref k =>
    have hn := ha.one (by omega)
    obtain ⟨B0, g0⟩ := hg 0 (by omega)
    refine ⟨?_, effsOK_ty rfl (by intro x hx; rw [List.mem_singleton] at hx; subst hx; exact g0.effs), mayB_effL _, hex _ (hput _ (.inl rfl) _) l hl, hlen _ (by simp) _ (Nat.le_refl _)⟩
    unfold tyP
    rw [mayT_node, Bool.and_eq_true]
    exact ⟨by simp [nodeB, ha.rho, effL_nil], by simpa using g0.may⟩
  | get k ht =>
    have hn := ha.one (by omega)
    obtain ⟨B0, g0⟩ := hg 0 (by omega)
    have hk : (l.getD 0 dTE).1.head.kind = 3 := by simpa [isK] using ht
    exact ⟨(mayT_kid g0.may hk (.inr ⟨rfl, by omega⟩)).2, effsOK_kid g0.effs, mayB_effL _, hex _ (hput _ (.inr rfl) _) l hl, hlen _ (by simp) _ (Nat.le_refl _)⟩
  | set k ht hs => exact ⟨rfl, rfl, mayB_effL _, hex _ (hput _ (.inl rfl) _) l hl, hlen _ (by simp) _ (Nat.le_refl _)⟩
  | app k ht hs =>
    have hn := ha.two (by omega)
    obtain ⟨B0, g0⟩ := hg 0 (by omega)
    have hk : (l.getD 0 dTE).1.head.kind = 4 := by simpa [isK] using ht
    have hgr := (greatB_iff _).1 (effsOK_head g0.effs)
    refine ⟨(mayT_kid g0.may hk (.inl ⟨.inr rfl, by omega⟩)).2, effsOK_kid g0.effs, mayB_effL _, fun x hx => ?_, ?_⟩
    · rcases List.mem_append.1 ((mem_effL _ _).1 hx).1 with hx | hx
      · exact hex _ (hput _ (.inr rfl) _) l hl x hx
      · exact hgr.2 x hx
    · refine Nat.le_trans (effL_len0 _) ?_
      rw [List.length_append]
      have := allE_length l [aGet (l.getD 0 dTE).1.head.rho]
      have := hgr.1
      simp only [List.length_cons, List.length_nil] at *
      omega
  | op k ht => exact ⟨rfl, rfl, mayB_effL _, hex _ hnil l hl, hlen _ (by simp) _ (Nat.le_refl _)⟩
  | ite k ht hs =>
    have hn := ha.three (by omega)
    obtain ⟨B1, g1⟩ := hg 1 (by omega)
    exact ⟨g1.may, g1.effs, mayB_effL _, hex _ hnil l hl, hlen _ (by simp) _ (Nat.le_refl _)⟩
  | raise k ht =>
    exact ⟨ha.ty (by simp [k, inB]), ha.tys.effs, mayB_effL _, hex _ (fun x hx => by rw [List.mem_singleton] at hx; subst hx; exact ha.exn) l hl, hlen _ (by simp) _ (Nat.le_refl _)⟩
  | num k => exact ⟨rfl, rfl, mayB_effL _, hex _ hnil l hl, hlen _ (by simp) _ (Nat.le_refl _)⟩
  | fn k hw =>
    have hn := ha.one (by omega)
    obtain ⟨B0, g0⟩ := hg 0 (by omega)
    refine ⟨mayT_ty2 (.inr rfl) ha.rho (ha.ty (by simp [k, inB])) g0.may, effsOK_ty ha.gr (by intro x hx; simp only [List.mem_cons, List.not_mem_nil, or_false] at hx; rcases hx with rfl | rfl; exact ha.tys.effs; exact g0.effs), mayB_effL _, fun x hx => ?_, ?_⟩
    · exact hput _ (.inl rfl) _ x ((mem_effL _ _).1 hx).1
    · refine Nat.le_trans (effL_len0 _) ?_
      simp only [List.length_cons, List.length_nil]
      omega
  | letrec k hs hw =>
    have hn := ha.two (by omega)
    obtain ⟨B1, g1⟩ := hg 1 (by omega)
    exact ⟨g1.may, g1.effs, mayB_effL _, hex _ (hput _ (.inl rfl) _) _ (fun y hy => hl y (List.mem_of_mem_drop hy)), hlen _ (by simp) _ (sumE_drop l 1)⟩
  | handle k hs =>
    have hn := ha.two (by omega)
    obtain ⟨B0, g0⟩ := hg 0 (by omega)
    obtain ⟨B1, g1⟩ := hg 1 (by omega)
    refine ⟨g0.may, g0.effs, mayB_effL _, fun x hx => ?_, ?_⟩
    · rcases List.mem_append.1 ((mem_effL _ _).1 hx).1 with hx | hx
      · exact g0.exn x ((mem_handledL _ _ _).1 hx).1
      · exact g1.exn x hx
    · refine Nat.le_trans (effL_len0 _) ?_
      rw [List.length_append]
      have := handledL_length (l.getD 0 dTE).2 [a.exn]
      have := sumE_two l
      omega
  | region k hni =>
    have hn := ha.one (by omega)
    obtain ⟨B0, g0⟩ := hg 0 (by omega)
    refine ⟨g0.may, g0.effs, mayB_filter _ (mayB_effL _), fun x hx => g0.exn x ((mem_withoutL _ _ _).1 hx).1, ?_⟩
    show (withoutL (l.getD 0 dTE).2 [a.rho]).length ≤ _
    have := withoutL_length (l.getD 0 dTE).2 [a.rho]
    have := sumE_get (l := l) 0
    omega
  | other k =>
    simp only [List.mem_cons, List.not_mem_nil, or_false, not_or] at k
    have hk12 : a.kind = 12 := by have := ha.k1; have := ha.k18; omega
    have hn := ha.two (by omega)
    obtain ⟨B1, g1⟩ := hg 1 (by omega)
    exact ⟨g1.may, g1.effs, mayB_effL _, hex _ hnil l hl, hlen _ (by simp) _ (Nat.le_refl _)⟩
theorem env_good {env : List Bnd} {a : LAH} {n i : Nat} {acc : List TE} (ha : GoodN a n) (he : ∀ b ∈ env, GoodB b) (hacc : a.kind = 12 → i = 1 → mayT (acc.getD 0 dTE).1 = true ∧ effsOK (acc.getD 0 dTE).1 = true) : ∀ b ∈ innerE env a i acc, GoodB b := by
  have hrec : a.kind = 13 → GoodB ⟨a.name, tZero, some a⟩ := fun k => ⟨fun h => (nomatch h), rfl, fun f hf => by
    cases hf
    exact ⟨n, ha, ha.ty (by simp [k, inB]), ha.res k⟩⟩
  have harg : inB [11, 13, 15] a.kind = true → GoodB ⟨a.arg, a.ty, none⟩ := fun k => ⟨fun _ => ha.ty k, ha.tys.effs, fun f hf => by cases hf⟩
  intro b hb
  unfold innerE at hb
  split at hb
  · rename_i k
    rcases List.mem_append.1 hb with hb | hb
    · exact he b hb
    · rw [List.mem_singleton] at hb; subst hb
      exact harg (by simp [k, inB])
  split at hb
  · rename_i k
    rcases List.mem_append.1 hb with hb | hb
    · exact he b hb
    · rw [List.mem_singleton] at hb; subst hb
      exact ⟨fun _ => (hacc k.1 k.2).1, (hacc k.1 k.2).2, fun f hf => by cases hf⟩
  split at hb
  · rename_i k
    rcases List.mem_append.1 hb with hb | hb
    · exact he b hb
    · simp only [List.mem_cons, List.not_mem_nil, or_false] at hb
      rcases hb with rfl | rfl
      · exact hrec k.1
      · exact harg (by simp [k.1, inB])
  split at hb
  · rename_i k
    rcases List.mem_append.1 hb with hb | hb
    · exact he b hb
    · rw [List.mem_singleton] at hb; subst hb
      exact hrec k
  split at hb
  · rcases List.mem_append.1 hb with hb | hb
    · exact he b hb
    · rw [List.mem_singleton] at hb; subst hb
      exact ⟨fun _ => rfl, rfl, fun f hf => by cases hf⟩
  · exact he b hb
theorem sumE_le {l : List AT} {rs : List TE} (hl : rs.length = l.length) (h : ∀ (j : Nat) (t : AT) (r : TE), l[j]? = some t → rs[j]? = some r → r.2.length ≤ 102 * t.size) : sumE rs ≤ 102 * (l.map Rose.size).sum := by
  induction l generalizing rs with
  | nil => have : rs = [] := List.length_eq_zero_iff.1 (by simpa using hl)
           subst this; simp [sumE]
  | cons t l ih =>
    cases rs with
    | nil => simp at hl
    | cons r rs =>
      have h0 := h 0 t r rfl rfl
      have h1 := ih (rs := rs) (by simpa using hl) (fun j u q hu hq => h (j + 1) u q (by simpa using hu) (by simpa using hq))
      simp only [sumE, List.map_cons, List.sum_cons] at h1 ⊢
      rw [Nat.mul_add]
      omega
theorem chk_good (t : AT) : ∀ env rhos x, GoodT t → (∀ b ∈ env, GoodB b) → chk env rhos t = .ok x → GoodE (102 * t.size) x := by
  refine Rose.ind (P := fun (t : AT) => ∀ env rhos x, GoodT t → (∀ b ∈ env, GoodB b) → chk env rhos t = .ok x → GoodE (102 * t.size) x) (fun a l ih env rhos x hT he h => ?_) t
  have ha := hT.head
  have hkids := hT.kid
  rw [chk_ok, found_ok] at h
  obtain ⟨⟨hr, h⟩, _⟩ := h
  have hsz : Rose.size (Rose.node a l) = 1 + (l.map Rose.size).sum := Rose.size_node a l
  rcases h with ⟨k, h⟩ | ⟨k, h⟩ | ⟨k2, k18, ks, hks, h⟩
  · unfold varP errP at h
    cases hf : findP env a.name with
    | none => rw [hf] at h; cases h
    | some b =>
      rw [hf] at h
      simp only [mustP_ok] at h
      obtain ⟨hn, h⟩ := h
      cases h
      have hb := he b (findP_mem hf).1
      exact ⟨hb.may (by simpa using hn), hb.effs, rfl, fun x hx => (nomatch hx), Nat.zero_le _⟩
  · unfold instP errP at h
    cases hf : findP env a.name with
    | none => rw [hf] at h; cases h
    | some b =>
      rw [hf] at h
      simp only at h
      cases hb : b.fn with
      | none => rw [hb] at h; cases h
      | some f =>
        rw [hb] at h
        simp only [mustP_ok, decide_eq_true_eq] at h
        obtain ⟨hlen, _, h⟩ := h
        cases h
        obtain ⟨n, hfn, hft, hfr⟩ := (he b (findP_mem hf).1).fn f hb
        refine ⟨mayT_ty2 (.inr rfl) ha.rho (mayT_swap ha.rhos _ hft) (mayT_swap ha.rhos _ hfr), effsOK_ty ha.gr (fun x hx => ?_), mayB_effL _, fun x hx => ?_, ?_⟩
        · simp only [List.mem_cons, List.not_mem_nil, or_false] at hx
          rcases hx with rfl | rfl
          · exact effsOK_swap _ _ _ hfn.tys.effs
          · exact effsOK_swap _ _ _ hfn.ress.effs
        · have := ((mem_effL _ _).1 hx).1
          simp only [List.mem_cons, List.not_mem_nil, or_false] at this
          rcases this with rfl | rfl <;> exact Nat.zero_le _
        · refine Nat.le_trans (effL_len0 _) ?_
          simp only [List.length_cons, List.length_nil]
          omega
  · rw [ruleP_ok] at h
    obtain ⟨rs, hrs, hl, hj⟩ := chkL_ok _ _ _ _ hks
    rw [List.nil_append] at hrs
    rw [hrs] at h
    simp only [List.nil_append, Nat.zero_add] at hj
    have hkid : ∀ (j : Nat) (t : AT) (y : TE), l[j]? = some t → rs[j]? = some y → GoodE (102 * t.size) y := by
      intro j
      induction j using Nat.strongRecOn with
      | _ j ihj =>
        intro t y ht hy
        obtain ⟨r, e1, e2⟩ := hj j t ht
        rw [e1] at hy; cases hy
        refine ih t (List.mem_of_getElem? ht) _ _ _ (hkids t (List.mem_of_getElem? ht)) (env_good ha he (fun k h1 => ?_)) e2
        subst h1
        have hlt := get_lt ht
        have h00 : (rs.take 1)[0]? = rs[0]? := by rw [List.getElem?_take]; simp
        have hr0 : rs[0]? = some (rs[0]'(by omega)) := List.getElem?_eq_getElem _
        have hg := ihj 0 (by omega) _ _ (List.getElem?_eq_getElem (show 0 < l.length by omega)) hr0
        rw [List.getD_eq_getElem?_getD, h00, hr0]
        exact ⟨hg.may, hg.effs⟩
    have hall : ∀ y ∈ rs, ∃ B, GoodE B y := fun y hy => by
      obtain ⟨j, hj'⟩ := List.getElem?_of_mem hy
      have hlt : j < l.length := by rw [← hl]; exact get_lt hj'
      exact ⟨_, hkid j _ y (List.getElem?_eq_getElem hlt) hj'⟩
    have hs := sumE_le hl (fun j t r ht hr => (hkid j t r ht hr).len)
    refine (rule_good (by rw [hl]; exact ha) hall k2 k18 h).mono ?_
    rw [hsz, Nat.mul_add]
    omega
end
section
open Go.RowKit
def clashP (met : List Int) : List Int → Bool
  | [] => false
  | r :: l => inN met r || clashP (met ++ [r]) l
def apartG : List LAH → List Int → Option Int
  | [], _ => none
  | a :: l, met => if clashP met (bindsR a) then some a.at_ else apartG l (met ++ bindsR a)
def apartP (t : AT) : Option Int := apartG (Rose.nodes t) []
def checkA (t : AT) : ChkR :=
  match apartP t with
  | some at_ => .error (at_, 6)
  | none => chk [] [0] t
theorem checkA_ok {t : AT} {x : TE} : checkA t = .ok x ↔ apartP t = none ∧ chk [] [0] t = .ok x := by
  unfold checkA
  cases h : apartP t with
  | some z => simp
  | none => simp
theorem outer_plain {t : AT} {x : TE} (h : checkA t = .ok x) : (∀ z ∈ gathT x.1, z = 0) ∧ ∀ z ∈ rhosOf x.2, z = 0 := by
  have hi := chk_in t [] [0] x (by simp) (fun b hb => by cases hb) (checkA_ok.1 h).2
  exact ⟨fun z hz => by simpa using hi.ty z hz, fun z hz => by simpa using hi.eff z hz⟩
theorem swL_nil {l : List Atom} (h : mayB l = true) : swL [] [] l = l := by
  have e : ∀ m : List Atom, m.map (swA [] []) = m := fun m => by
    have : swA [] [] = id := by funext a; unfold swA; split <;> rfl
    rw [this, List.map_id]
  show effL ((effL l).map (swA [] [])) = l
  rw [e, effL_idem, effL_can h]
theorem swapT_nil (x : RT) : mayT x = true → swapT [] [] x = x := by
  refine Rose.ind (P := fun (x : RT) => mayT x = true → swapT [] [] x = x) (fun a l ih h => ?_) x
  rw [mayT_node, Bool.and_eq_true, List.all_eq_true] at h
  unfold swapT at ih ⊢
  rw [Rose.map_node]
  have e1 : swH [] [] a = a := by
    unfold swH
    split
    · rfl
    · rename_i hk
      have he : mayB a.eff = true := by
        have h1 := h.1
        unfold nodeB at h1
        rw [if_neg hk] at h1
        split at h1
        · simp only [Bool.and_eq_true, decide_eq_true_eq] at h1; rw [h1.1.2]; rfl
        · split at h1
          · simp only [Bool.and_eq_true, decide_eq_true_eq] at h1; rw [h1.1.2]; rfl
          · split at h1
            · simp only [Bool.and_eq_true, decide_eq_true_eq] at h1; exact h1.1.2
            · cases h1
      rw [swL_nil he]
      rfl
  have e2 : l.map (Rose.map (swH [] [])) = l := by
    have : l.map (Rose.map (swH [] [])) = l.map id := List.map_congr_left (fun y hy => ih y hy (h.2 y hy))
    rw [this, List.map_id]
  rw [e1, e2]
end
section
open Go.RowKit
def blkOf : Option Addr → List Nat
  | some ad => [ad.block]
  | none => []
theorem mem_blkOf {p : Option Addr} {b : Nat} : b ∈ blkOf p ↔ ∃ ad, p = some ad ∧ ad.block = b := by
  cases p with
  | none => simp [blkOf]
  | some ad => simp [blkOf, eq_comm]
def usesR : PT → List Nat := Rose.fold (fun a l => (if l.isEmpty then [] else blkOf a.kp) ++ (if a.eff.isEmpty then [] else blkOf a.ep) ++ l.flatten)
theorem usesR_node (a : RH) (l : List PT) : usesR (.node a l) = (if l.isEmpty then [] else blkOf a.kp) ++ (if a.eff.isEmpty then [] else blkOf a.ep) ++ l.flatMap usesR := by
  unfold usesR
  rw [Rose.fold_node, List.isEmpty_map, List.flatMap_def]
theorem usesR_kp {a : RH} {l : List PT} {ad : Addr} (hl : l ≠ []) (h : a.kp = some ad) : ad.block ∈ usesR (.node a l) := by
  rw [usesR_node]
  cases l with
  | nil => exact absurd rfl hl
  | cons x l => simp [mem_blkOf, h]
theorem usesR_ep {a : RH} {l : List PT} {ad : Addr} (hl : a.eff ≠ []) (h : a.ep = some ad) : ad.block ∈ usesR (.node a l) := by
  rw [usesR_node]
  cases he : a.eff with
  | nil => exact absurd he hl
  | cons x m => simp [mem_blkOf, h]
theorem usesR_kid {a : RH} {l : List PT} {t : PT} (ht : t ∈ l) {b : Nat} (hb : b ∈ usesR t) : b ∈ usesR (.node a l) := by
  rw [usesR_node]
  exact List.mem_append.2 (.inr (List.mem_flatMap.2 ⟨t, ht, hb⟩))
theorem usesR_cases {a : RH} {l : List PT} {b : Nat} (h : b ∈ usesR (.node a l)) : (l ≠ [] ∧ ∃ ad, a.kp = some ad ∧ ad.block = b) ∨ (a.eff ≠ [] ∧ ∃ ad, a.ep = some ad ∧ ad.block = b) ∨ ∃ t ∈ l, b ∈ usesR t := by
  rw [usesR_node, List.mem_append, List.mem_append] at h
  rcases h with (h | h) | h
  · refine .inl ?_
    split at h
    · cases h
    · rename_i hl
      exact ⟨by intro e; subst e; simp at hl, mem_blkOf.1 h⟩
  · refine .inr (.inl ?_)
    split at h
    · cases h
    · rename_i hl
      exact ⟨by intro e; rw [e] at hl; simp at hl, mem_blkOf.1 h⟩
  · exact .inr (.inr (List.mem_flatMap.1 h))
theorem rowE_lt {α : Type} {enc : α → List Value} {k : Nat} {w : World} {p : Option Addr} {l : List α} (h : RowE enc k w p l) (hl : l ≠ []) {ad : Addr} (hp : p = some ad) : ad.block < w.heap.size := by
  rcases h with h | ⟨b, o, hb, hlt, _⟩
  · exact absurd h hl
  · rw [hp] at hb; cases hb; exact hlt
theorem lies_uses {w : World} (t : PT) : LR.lies w t → ∀ b ∈ usesR t, b < w.heap.size := by
  refine Rose.ind (P := fun (t : PT) => LR.lies w t → ∀ b ∈ usesR t, b < w.heap.size) (fun a l ih h b hb => ?_) t
  have hn := nodeIn h
  rcases usesR_cases hb with ⟨hl, ad, hp, rfl⟩ | ⟨hl, ad, hp, rfl⟩ | ⟨u, hu, hb⟩
  · exact rowE_lt hn.kids.row hl hp
  · exact rowE_lt hn.own.eff.row hl hp
  · exact ih u hu (hn.each u hu) b hb
theorem lies_grownU {w w' : World} {r : Option Nat} (hg : w.grownBy w' r) (t : PT) : (∀ b ∈ usesR t, r ≠ some b) → LR.lies w t → LR.lies w' t := by
  refine Rose.ind (P := fun (t : PT) => (∀ b ∈ usesR t, r ≠ some b) → LR.lies w t → LR.lies w' t) (fun a l ih ho h => ?_) t
  have hn := nodeIn h
  refine NodeIn.lies ⟨⟨isRow_grown hg (fun he ad hp => ho _ (usesR_ep he hp)) hn.own.eff, hn.own.ok, hn.own.k0, hn.own.k1, hn.own.r0, hn.own.r1, hn.own.kmax, hn.own.kle, hn.own.knil⟩, isRow_grown hg (fun hl ad hp => ho _ (usesR_kp hl hp)) hn.kids, fun t ht => ih t ht (fun b hb => ho b (usesR_kid ht hb)) (hn.each t ht)⟩
theorem span_uses {N B E : Nat} (t : PT) : SpanR N B E t → ∀ b ∈ usesR t, b < N ∨ B ≤ b := by
  refine Rose.ind (P := fun (t : PT) => SpanR N B E t → ∀ b ∈ usesR t, b < N ∨ B ≤ b) (fun a l ih h b hb => ?_) t
  have h0 := h a (by rw [Rose.nodes_node]; simp)
  rcases usesR_cases hb with ⟨hl, ad, hp, rfl⟩ | ⟨hl, ad, hp, rfl⟩ | ⟨u, hu, hb⟩
  · exact .inr (h0.1 ad hp).1
  · exact (h0.2 hl ad hp).1
  · exact ih u hu (fun x hx => h x (by rw [Rose.nodes_node, List.mem_cons, List.mem_flatten]; exact .inr ⟨u.nodes, List.mem_map_of_mem hu, hx⟩)) b hb
structure BV where
  name : ByteArray
  ty : PT
  fn : Option (AH × Nat)
def encBV (b : BV) : List Value := [.string b.name, .int .u8 b.ty.head.kind, .int .i64 b.ty.head.rho, .slice b.ty.head.ep b.ty.head.en b.ty.head.ec, .slice b.ty.head.kp b.ty.head.kn b.ty.head.kc, .pointer (b.fn.map (fun x => ⟨x.2, 0, none⟩))]
theorem encBV_len (b : BV) : (encBV b).length = 6 := rfl
theorem encBV_one : ∀ b : BV, ∀ u ∈ encBV b, u.oneCell' = true := by
  intro b u hu
  simp [encBV] at hu
  rcases hu with rfl | rfl | rfl | rfl | rfl | rfl <;> rfl
abbrev aggBV (b : BV) : Value := .agg #[.string b.name, .int .u8 b.ty.head.kind, .int .i64 b.ty.head.rho, .slice b.ty.head.ep b.ty.head.en b.ty.head.ec, .slice b.ty.head.kp b.ty.head.kn b.ty.head.kc, .pointer (b.fn.map (fun x => ⟨x.2, 0, none⟩))]
def BV.er (b : BV) : Bnd := ⟨b.name, b.ty.er, b.fn.map (fun x => x.1.plain)⟩
structure BV.Ok (w0 w : World) (S : Nat → Prop) (b : BV) : Prop where
  ty : LR.lies w b.ty
  uses : ∀ x ∈ usesR b.ty, S x
  fn : ∀ a g, b.fn = some (a, g) → CellsA w g 0 a ∧ AH.Own w0 a ∧ g < w.heap.size
  name : b.name.size ≤ 9223372036854775807
theorem BV.Ok.below {w0 w w' : World} {S : Nat → Prop} {b : BV} (h : b.Ok w0 w S) (hb : Below w.heap.size w w') : b.Ok w0 w' S :=
  ⟨LR.lies_below hb _ h.ty, h.uses, fun a g e => ⟨(h.fn a g e).1.below hb (h.fn a g e).2.2, (h.fn a g e).2.1, Nat.lt_of_lt_of_le (h.fn a g e).2.2 hb.size⟩, h.name⟩
theorem BV.Ok.weak {w0 w : World} {S S' : Nat → Prop} {b : BV} (h : b.Ok w0 w S) (hs : ∀ x ∈ usesR b.ty, S' x) : b.Ok w0 w S' := ⟨h.ty, hs, h.fn, h.name⟩
structure EnvAt (w0 w : World) (S : Nat → Prop) (p : Option Addr) (n c : Nat) (env : List BV) : Prop where
  row : IsRow encBV 6 w p n c env
  each : ∀ b ∈ env, b.Ok w0 w S
theorem EnvAt.below {w0 w w' : World} {S : Nat → Prop} {p : Option Addr} {n c : Nat} {env : List BV} (h : EnvAt w0 w S p n c env) (hb : Below w.heap.size w w') : EnvAt w0 w' S p n c env := ⟨h.row.below hb, fun b hbm => (h.each b hbm).below hb⟩
theorem EnvAt.weak {w0 w : World} {S S' : Nat → Prop} {p : Option Addr} {n c : Nat} {env : List BV} (h : EnvAt w0 w S p n c env) (hs : ∀ x, x < w.heap.size → S x → S' x) : EnvAt w0 w S' p n c env :=
  ⟨h.row, fun b hb => (h.each b hb).weak (fun x hx => hs x (lies_uses _ (h.each b hb).ty x hx) ((h.each b hb).uses x hx))⟩
def erE (env : List BV) : List Bnd := env.map BV.er
structure RV where
  ty : PT
  ep : Option Addr
  en : Nat
  ec : Nat
  eff : List Atom
def encRV (r : RV) : List Value := [.int .u8 r.ty.head.kind, .int .i64 r.ty.head.rho, .slice r.ty.head.ep r.ty.head.en r.ty.head.ec, .slice r.ty.head.kp r.ty.head.kn r.ty.head.kc, .slice r.ep r.en r.ec]
theorem encRV_len (r : RV) : (encRV r).length = 5 := rfl
theorem encRV_one : ∀ r : RV, ∀ u ∈ encRV r, u.oneCell' = true := by
  intro r u hu
  simp [encRV] at hu
  rcases hu with rfl | rfl | rfl | rfl | rfl <;> rfl
abbrev aggRV (r : RV) : Value := .agg #[.int .u8 r.ty.head.kind, .int .i64 r.ty.head.rho, .slice r.ty.head.ep r.ty.head.en r.ty.head.ec, .slice r.ty.head.kp r.ty.head.kn r.ty.head.kc, .slice r.ep r.en r.ec]
def RV.er (r : RV) : TE := (r.ty.er, r.eff)
structure RV.Ok (w : World) (S : Nat → Prop) (r : RV) : Prop where
  ty : LR.lies w r.ty
  uses : ∀ x ∈ usesR r.ty, S x
  eff : IsRow encA 3 w r.ep r.en r.ec r.eff
  eok : ∀ x ∈ r.eff, okAt x
  euse : r.eff ≠ [] → ∀ ad, r.ep = some ad → S ad.block
theorem RV.Ok.below {w w' : World} {S : Nat → Prop} {r : RV} (h : r.Ok w S) (hb : Below w.heap.size w w') : r.Ok w' S := ⟨LR.lies_below hb _ h.ty, h.uses, h.eff.below hb, h.eok, h.euse⟩
theorem RV.Ok.weak {w : World} {S S' : Nat → Prop} {r : RV} (h : r.Ok w S) (hs : ∀ x, x < w.heap.size → S x → S' x) : r.Ok w S' :=
  ⟨h.ty, fun x hx => hs x (lies_uses _ h.ty x hx) (h.uses x hx), h.eff, h.eok, fun he ad hp => hs _ (rowE_lt h.eff.row he hp) (h.euse he ad hp)⟩
theorem RV.Ok.grown {w w' : World} {S : Nat → Prop} {r : RV} {row : Option Nat} (h : r.Ok w S) (hg : w.grownBy w' row) (hr : ∀ b, row = some b → ¬ S b) : r.Ok w' S :=
  ⟨lies_grownU hg _ (fun b hb e => hr b e (h.uses b hb)) h.ty, h.uses, isRow_grown hg (fun he ad hp e => hr _ e (h.euse he ad hp)) h.eff, h.eok, h.euse⟩
structure ResAt (w : World) (S : Nat → Prop) (p : Option Addr) (n c : Nat) (l : List RV) : Prop where
  row : IsRow encRV 5 w p n c l
  each : ∀ r ∈ l, r.Ok w S
theorem ResAt.below {w w' : World} {S : Nat → Prop} {p : Option Addr} {n c : Nat} {l : List RV} (h : ResAt w S p n c l) (hb : Below w.heap.size w w') : ResAt w' S p n c l := ⟨h.row.below hb, fun r hr => (h.each r hr).below hb⟩
def erL (l : List RV) : List TE := l.map RV.er
abbrev wrongV (at_ no : Int) : Value := .iface 79 (.agg #[.int .i64 at_, .int .i64 no])
def OutC (W : World) (S : Nat → Prop) (r : ChkR) (e : Ending) (w' : World) : Prop :=
  (match r with
    | .ok x => ∃ y : RV, e = .returned (aggRV y) ∧ y.er = x ∧ y.Ok w' S
    | .error (a, n) => e = .panicked [{ v := wrongV a n, recovered := false }]) ∧ Below W.heap.size W w'
end
section
open Go.RowKit
theorem check_get_any (r : Int) (w : World) : Calls Tryz.prog 137 #[.int .i64 r] w fun e w' => e = .returned (aggA (aGet r)) ∧ Below w.heap.size w w' := by
  go_enter Tryz.func137, Tryz.ntmps137
  go_wp2_with fail
  refine bodyPost_ret (results_cell_row rfl _ _ _ _ _ _ _ rfl (heap_alloc_new w _) Tryz.underlying59 rfl (by kernel_rfl)) rfl ?_
  exact ⟨rfl, (Below.refl w.heap.size w).alloc (Nat.le_refl _) _⟩
theorem check_put_any (r : Int) (w : World) : Calls Tryz.prog 138 #[.int .i64 r] w fun e w' => e = .returned (aggA (aPut r)) ∧ Below w.heap.size w w' := by
  go_enter Tryz.func138, Tryz.ntmps138
  go_wp2_with fail
  refine bodyPost_ret (results_cell_row rfl _ _ _ _ _ _ _ rfl (heap_alloc_new w _) Tryz.underlying59 rfl (by kernel_rfl)) rfl ?_
  exact ⟨rfl, (Below.refl w.heap.size w).alloc (Nat.le_refl _) _⟩
set_option maxHeartbeats 1000000 in
theorem must_yes (a : AH) (no : Int) (w : World) : Calls Tryz.prog 64 #[.bool true, aggT a, .int .i64 no] w fun e w' => e = .returned (.tuple #[]) ∧ Below w.heap.size w w' := by
  have HB := hid ((Below.refl w.heap.size w).alloc (Nat.le_refl _) (boxA a))
  go_enter Tryz.func64, Tryz.ntmps64
  go_wp2_with fail
  go_end0
  exact ⟨rfl, HB.out⟩
set_option maxHeartbeats 1000000 in
theorem must_no (a : AH) (no : Int) (w : World) : Calls Tryz.prog 64 #[.bool false, aggT a, .int .i64 no] w fun e w' => e = .panicked [{ v := wrongV a.at_ no, recovered := false }] ∧ Below w.heap.size w w' := by
  have HB := hid ((Below.refl w.heap.size w).alloc (Nat.le_refl _) (boxA a))
  go_enter Tryz.func64, Tryz.ntmps64
  go_wp2_with fail
  exact ⟨rfl, rfl, HB.out⟩
theorem result_is_any (r : RV) (k : Int) (w : World) : Calls Tryz.prog 141 #[aggRV r, .int .u8 k] w fun e w' => e = .returned (.bool (r.ty.head.kind == k)) ∧ Below w.heap.size w w' := by
  go_enter Tryz.func141, Tryz.ntmps141
  go_wp2_with fail
  go_ret
  exact ⟨ret_bool rfl, (Below.refl w.heap.size w).alloc (Nat.le_refl _) _⟩
set_option maxHeartbeats 1000000 in
theorem check_of_any (k rho : Int) {p : Option Addr} {n c : Nat} {l : List Atom} {w : World} (hr : IsRow encA 3 w p n c l) (hm : n ≤ 1000000) (kp : Option Addr) (kn kc : Nat) :
    Calls Tryz.prog 136 #[.int .u8 k, .int .i64 rho, .slice p n c, .slice kp kn kc] w fun e w' => ∃ q m qc, e = .returned (.agg #[.int .u8 k, .int .i64 rho, .slice q m qc, .slice kp kn kc]) ∧ IsRow encA 3 w' q m qc (effL l) ∧ (∀ ad, q = some ad → w.heap.size ≤ ad.block) ∧ Below w.heap.size w w' := by
  have hb0 : Below w.heap.size w (w.alloc (.cells #[.int .u8 0, .int .i64 0, .slice none 0 0, .slice none 0 0] 28)) := (Below.refl w.heap.size w).alloc (Nat.le_refl _) _
  have HR := hid (hr.below hb0)
  have HB0 := hid hb0
  clear hr hb0
  go_enter Tryz.func136, Tryz.ntmps136
  go_wp2_with fail
  refine (effect_Of_any p n c l _ HR.out.len hm HR.out.row).mono ?_
  rintro e w2 ⟨v, m, rfl, hle, hown, hb⟩
  obtain ⟨q, qc, rfl, hrow⟩ := OwnE.isRow encA_len (by omega) hown
  have hfrom := fun b hb => OwnE.from hown b hb
  have HROW := hid hrow
  have HFR := hid hfrom
  have HB := hid (HB0.out.trans (hb.mono HB0.out.size))
  have hblk : w2.heap[w.heap.size]? = some (.cells #[.int .u8 0, .int .i64 0, .slice none 0 0, .slice none 0 0] 28 (0, 0)) := (hb.block _ (by simp)).trans (heap_alloc_new w _)
  have HBLK := hid hblk
  clear hown hrow hfrom hb hblk
  go_wp2_with (refine wpList_store_row rfl 28 _ _ rfl w.heap.size #[.int .u8 k, .int .i64 rho, .slice q m qc, .slice kp kn kc] rfl rfl 28 _ HBLK.out (by kernel_rfl) rfl (by simp [Value.oneCell']) ?_)
  refine bodyPost_ret (results_cell_row rfl _ _ _ _ _ _ _ rfl (setRow_heap _ _ _ _ _ _ HBLK.out) Tryz.underlying28 rfl (by kernel_rfl)) rfl ?_
  have hg : w2.grownBy (w2.setRow w.heap.size #[.int .u8 k, .int .i64 rho, .slice q m qc, .slice kp kn kc]) (some w.heap.size) := ⟨rfl, rfl, rfl, by simp, fun k hk hne => setRow_other _ _ _ _ (fun e => hne (by rw [e]))⟩
  have hne : ∀ ad, q = some ad → w.heap.size + 1 ≤ ad.block := fun ad hp => by
    subst hp
    have := HFR.out ad.block rfl
    simpa using this
  exact ⟨q, m, qc, rfl, isRow_grown hg (fun _ ad hp e => by have := hne ad hp; injection e with e; omega) HROW.out, fun ad hp => by have := hne ad hp; omega, HB.out.grown hg HB.out.size (fun k e => by cases e; exact Nat.le_refl _)⟩
end
end Go.Proofs.YtkdjnegfnhldpaaGreatDoor
