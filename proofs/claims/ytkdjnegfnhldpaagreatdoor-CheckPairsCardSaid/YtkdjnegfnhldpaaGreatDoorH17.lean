/- Part 17: Onc2, My, Nf, Gr. -/
import Derived.Test.YtkdjnegfnhldpaaGreatDoorH16
import Derived.Test.YtkdjnegfnhldpaaGreatDoorH14
import Derived.Test.YtkdjnegfnhldpaaGreatDoorH08
import Derived.Deep.MidRow
set_option linter.unusedVariables false
set_option maxRecDepth 100000
set_option linter.unusedSimpArgs false
namespace Go.Proofs.YtkdjnegfnhldpaaGreatDoor
open Go.Lib (hid)
section
open Go.RowKit Go.Lib
set_option maxHeartbeats 1000000 in
theorem values_any (p : Option Addr) (n c : Nat) (w : World) :
    Calls Tryz.prog 125 #[.slice p n c] w fun e w' => e = .returned (.func (.func 173) #[] #[.pointer (some ⟨w.heap.size, 0, none⟩)]) ∧ w' = w.alloc (.cells #[.slice p n c] 24) := by
  go_enter Tryz.func125, Tryz.ntmps125
  go_wp2_with fail
  go_ret
  exact ⟨rfl, rfl⟩
set_option maxHeartbeats 1000000 in
theorem collect_any (Bs : Nat) (sv : Value) (xs : List Int) (hbytes : xs.length * 8 ≤ 140737488351232) (w : World)
    (hBs : Bs < w.heap.size) (hcs : w.cell? ⟨Bs, 0, none⟩ = some sv) (hI : IntsB w.heap.size w sv xs) :
    Calls Tryz.prog 171 #[.func (.func 173) #[] #[.pointer (some ⟨Bs, 0, none⟩)]] w fun e W' => ∃ v, e = .returned v ∧ OwnE encN 1 W' w.heap.size 3 v xs.length xs ∧ Below w.heap.size w W' := by
  have HC := hid (appendSeq_any Bs sv xs hbytes w hBs hcs hI)
  clear hcs hI
  go_enter Tryz.func171, Tryz.ntmps171
  go_wp2_with (go_at_call 208; refine HC.out.mono ?_; rintro e w2 ⟨v, rfl, hown, hb⟩; have HO := hid hown; have HB := hid hb; clear hown hb)
  go_ret
  refine ⟨_, rfl, ?_, HB.out⟩
  show World.ownsRow _ _ _ _ _ _ _
  rw [flatN]
  exact HO.out
theorem intsB_of {w : World} {p : Option Addr} {n c : Nat} {l : List Int} (h : IsRow encN 1 w p n c l) : IntsB w.heap.size w (.slice p n c) l := by
  rcases h.row with h0 | ⟨b, o, hp, hb, hc⟩
  · left
    subst h0
    have : n = 0 := by simpa using h.len.symm
    subst this
    exact ⟨p, c, rfl, rfl⟩
  · refine .inr ⟨b, o, c, by rw [hp, h.len], hb, fun j hj => ?_⟩
    have := hc j (l[j]) (List.getElem?_eq_getElem hj) 0 (.int .i64 l[j]) rfl
    rw [List.getElem?_eq_getElem hj]
    simpa using this
set_option maxHeartbeats 2000000 in
theorem sorted_any (Bs : Nat) (sv : Value) (xs : List Int) (hn : xs.length ≤ 1000000) (w : World)
    (hBs : Bs < w.heap.size) (hcs : w.cell? ⟨Bs, 0, none⟩ = some sv) (hI : IntsB w.heap.size w sv xs) :
    Calls Tryz.prog 124 #[.func (.func 173) #[] #[.pointer (some ⟨Bs, 0, none⟩)]] w fun e W' => ∃ v, e = .returned v ∧ OwnE encN 1 W' w.heap.size 3 v xs.length (msortI xs) ∧ Below w.heap.size w W' := by
  have HC := hid (collect_any Bs sv xs (by omega) w hBs hcs hI)
  clear hcs hI
  go_enter Tryz.func124, Tryz.ntmps124
  go_upto_region 2 with (go_at_call 171; refine HC.out.mono ?_; rintro e w2 ⟨v, rfl, hown, hb⟩; have HO := hid hown; have HB := hid hb; clear hown hb)
  rcases HO.out.2 with ⟨hv, h0⟩ | ⟨g, cap, cur, hv, hb, hg, hn', hm, hs, ht⟩
  · subst hv
    have hx : xs = [] := List.eq_nil_of_length_eq_zero h0
    subst hx
    go_wp2_with (go_at_call 172; refine (Tryz.slices_Sort_int_none none 0 w2).mono ?_; rintro e w3 ⟨rfl, rfl⟩)
    go_ret
    exact ⟨_, rfl, by rw [show msortI [] = [] by simp [msortI]]; exact OwnE.nil _ _ _ _ _, HB.out⟩
  · subst hv
    clear hg hs ht
    go_wp2_with (go_at_call 172; refine (sortN_any g cap xs.length xs w.heap.size w2 HO.out (by omega)).mono ?_; rintro e w3 ⟨rfl, hown3, hg3⟩; have HO3 := hid hown3; have HB3 := hid (HB.out.grown hg3 HB.out.size (fun b hb' => by injection hb' with hb'; omega)); clear hown3 hg3)
    go_ret
    exact ⟨_, rfl, HO3.out, HB3.out⟩
def onceB (l : List Int) : Bool := decide (((sortI l).length : Int) = l.length)
set_option maxHeartbeats 2000000 in
theorem once_any {p : Option Addr} {n c : Nat} {l : List Int} {w : World} (h : IsRow encN 1 w p n c l) (hn : n ≤ 1000000) :
    Calls Tryz.prog 92 #[.slice p n c] w fun e w' => e = .returned (.bool (onceB l)) ∧ Below w.heap.size w w' := by
  have HI := hid (intsB_of h)
  have hln := h.len
  have HLN := hid hln
  have HB1 := hid ((Below.refl w.heap.size w).alloc (Nat.le_refl _) (.cells #[.slice p n c] 24))
  have HS := hid (sorted_any w.heap.size (.slice p n c) l (by omega) (w.alloc (.cells #[.slice p n c] 24)) (by simp) (by rw [cell_new]; rfl) (by
    rcases HI.out.below HB1.out with h | ⟨b, off, cap, h1, h2, h3⟩
    · exact .inl h
    · exact .inr ⟨b, off, cap, h1, by have := HB1.out.size; omega, h3⟩))
  have HM : Hid (compact (msortI l) = sortI l) := compact_msortI l
  clear h hln
  go_enter Tryz.func92, Tryz.ntmps92
  go_upto_region 2 with (first
    | (go_at_call 125; refine (values_any p n c w).mono ?_; rintro e w1 ⟨rfl, rfl⟩)
    | (go_at_call 124; refine HS.out.mono ?_; rintro e w2 ⟨v, rfl, hown, hb⟩; have HO := hid hown; have HB := hid (HB1.out.trans (hb.mono HB1.out.size)); clear hown hb))
  have hbool : ∀ m : Nat, ((m : Int) == (n : Int)) = decide ((m : Int) = n) := fun m => rfl
  rcases HO.out.2 with ⟨hv, h0⟩ | ⟨g, cap, cur, hv, hb, hg, hn', hm, hs, ht⟩
  · subst hv
    have hx : l = [] := List.eq_nil_of_length_eq_zero h0
    subst hx
    have hn0 : n = 0 := by simpa using HLN.out.symm
    subst hn0
    go_wp2_with (go_at_call 126; refine (Tryz.slices_Compact_int_empty none 0 w2).mono ?_; rintro e w3 ⟨rfl, rfl⟩)
    go_ret
    exact ⟨rfl, HB.out⟩
  · subst hv
    have hcap : l.length ≤ cap := hn'
    clear hg hs ht
    have hn2 : l.length ≤ 1000000000 := by have := HLN.out; omega
    have HCP := hid (compactN_any g cap l.length (msortI l) (w.alloc (.cells #[.slice p n c] 24)).heap.size w2 HO.out hcap hn2)
    go_wp2_with (go_at_call 126; refine HCP.out.mono ?_; rintro e w3 ⟨m, rfl, hm1, hown3, hg3⟩; have HO3 := hid hown3; have HB3 := hid (HB.out.grown hg3 HB.out.size (fun b hb' => by injection hb' with hb'; have := HB1.out.size; omega)); clear hown3 hg3)
    go_ret
    refine ⟨ret_bool ?_, HB3.out⟩
    have h1 := HO3.out.len encN_len (by omega)
    rw [HM.out] at h1
    unfold onceB
    rw [← h1, HLN.out]
/-! The plain law: the document's regions. -/
theorem sortI_fold (l : List Int) : sortI l = l.foldl (fun e a => putI a e) [] := by
  obtain ⟨h1, h2⟩ := foldI l [] (by simp [Rising])
  exact (eq_sortI h1 (fun x => by rw [h2]; simp)).symm
theorem sortI_snoc (l : List Int) (x : Int) : sortI (l ++ [x]) = putI x (sortI l) := by
  rw [sortI_fold, List.foldl_append, ← sortI_fold]; rfl
theorem snoc_ind {α : Type} {P : List α → Prop} (h0 : P []) (h1 : ∀ l x, P l → P (l ++ [x])) (l : List α) : P l := by
  have : ∀ m : List α, P m.reverse := by
    intro m
    induction m with
    | nil => exact h0
    | cons x m ih => rw [List.reverse_cons]; exact h1 _ x ih
  have h := this l.reverse
  rwa [List.reverse_reverse] at h
theorem sortI_le (l : List Int) : (sortI l).length ≤ l.length := by
  refine snoc_ind (P := fun l => (sortI l).length ≤ l.length) (by simp [sortI_fold]) (fun l x ih => ?_) l
  rw [sortI_snoc]
  have := putI_length x (sortI l)
  simp only [List.length_append, List.length_cons, List.length_nil]
  omega
theorem once_iff (l : List Int) : onceB l = true ↔ ∀ i x, l[i]? = some x → inN (l.take i) x = false := by
  unfold onceB
  rw [decide_eq_true_iff]
  refine snoc_ind (P := fun l => ((sortI l).length : Int) = l.length ↔ ∀ i x, l[i]? = some x → inN (l.take i) x = false) (by simp [sortI_fold]) (fun l x ih => ?_) l
  · rw [sortI_snoc]
    have h1 := sortI_le l
    by_cases hx : inN (sortI l) x = true
    · have h2 : putI x (sortI l) = sortI l := by unfold putI; rw [if_pos hx]
      rw [h2]
      constructor
      · intro h
        simp only [List.length_append, List.length_cons, List.length_nil] at h
        omega
      · intro h
        have h3 := h l.length x (by simp)
        have h4 : x ∈ l := by
          have : x ∈ sortI l := by simpa [inN] using hx
          rwa [mem_sortI] at this
        simp [inN] at h3
        exact absurd rfl (h3 x h4)
    · have h2 : putI x (sortI l) = putPosI x (sortI l) := by unfold putI; rw [if_neg hx]
      rw [h2, putPosI_length]
      have hx' : x ∉ l := by
        intro h
        apply hx
        have : x ∈ sortI l := by rw [mem_sortI]; exact h
        simpa [inN] using this
      simp only [List.length_append, List.length_cons, List.length_nil]
      constructor
      · intro h i y hi
        by_cases hil : i < l.length
        · rw [List.getElem?_append_left hil] at hi
          rw [List.take_append_of_le_length (by omega)]
          exact ih.1 (by omega) i y hi
        · have : i = l.length := by
            have := (List.getElem?_eq_some_iff.1 hi).1
            simp at this; omega
          subst this
          simp at hi
          subst hi
          simp [inN]
          exact fun y hy e => hx' (e ▸ hy)
      · intro h
        have := ih.2 (fun i y hi => by
          have hil : i < l.length := (List.getElem?_eq_some_iff.1 hi).1
          have := h i y (by rw [List.getElem?_append_left hil]; exact hi)
          rwa [List.take_append_of_le_length (by omega)] at this)
        omega
end
section
open Go.RowKit
def nodeM (a : AH) : Bool :=
  headB a.hd a.kn && regB a (inB [3, 6, 11, 13, 17, 18] a.kind) ((a.kind == 13) || (a.kind == 18)) && (!(a.kind == 13) || onceB a.rhos) && (!(inB [11, 13, 18] a.kind) || mayB a.eff) && (inB [11, 13, 18] a.kind || !decide (0 < a.en)) &&
    (fitsT (inB [11, 13, 15] a.kind) a.ty && fitsT (a.kind == 13) a.res)
theorem rhosB_iff (k : Int) (l : List Int) : rhosB k l l.length = true ↔ (∀ r ∈ l, ¬ r < 0) ∧ (k = 13 → (∀ r ∈ l, ¬ r < 1) ∧ onceB l = true) := by
  unfold rhosB
  rw [List.all_eq_true, once_iff]
  constructor
  · intro h
    have h' : ∀ i x, l[i]? = some x → rhoB k l i x = true := by
      intro i x hx
      have hi := (List.getElem?_eq_some_iff.1 hx).1
      have := h i (List.mem_range.2 hi)
      rw [hx] at this
      exact this
    refine ⟨fun r hr => ?_, fun hk => ⟨fun r hr => ?_, fun i x hx => ?_⟩⟩
    · obtain ⟨i, hi⟩ := List.getElem?_of_mem hr
      have := h' i r hi
      unfold rhoB at this
      simp at this
      omega
    · obtain ⟨i, hi⟩ := List.getElem?_of_mem hr
      have := h' i r hi
      unfold rhoB at this
      simp [hk] at this
      omega
    · have := h' i x hx
      unfold rhoB at this
      simp only [hk, beq_self_eq_true, Bool.true_and, Bool.not_eq_true', Bool.or_eq_false_iff] at this
      exact this.2.2
  · rintro ⟨h1, h2⟩ i hi
    have hi := List.mem_range.1 hi
    rw [List.getElem?_eq_getElem hi]
    have h3 := h1 _ (List.getElem_mem hi)
    show rhoB k l i l[i] = true
    unfold rhoB
    have e1 : decide (l[i] < 0) = false := by simpa using h3
    rw [e1]
    by_cases hk : k = 13
    · obtain ⟨h4, h5⟩ := h2 hk
      have h6 := h4 _ (List.getElem_mem hi)
      have e2 : (l[i] == 0) = false := by simp; omega
      rw [e2, h5 i _ (List.getElem?_eq_getElem hi)]
      simp
    · have e2 : (k == 13) = false := by simpa using hk
      rw [e2]; rfl
theorem nodeM_eq (a : AH) (hr : a.rhos.length = a.rn) (he : a.eff.length = a.en) : nodeM a = node13 a := by
  have hmay : a.en = 0 → mayB a.eff = true := by
    intro h
    have : a.eff = [] := List.eq_nil_of_length_eq_zero (by omega)
    rw [this]
    decide
  have hrho : rhosB a.kind a.rhos a.rn = (!(a.rhos.any (fun r => decide (r < if a.kind = 13 then 1 else 0))) && (!(a.kind == 13) || onceB a.rhos)) := by
    rw [← hr, Bool.eq_iff_iff, rhosB_iff]
    by_cases hk : a.kind = 13
    · simp only [hk, if_true, forall_const, beq_self_eq_true, Bool.not_true, Bool.false_or, Bool.and_eq_true, Bool.not_eq_true', List.any_eq_false, decide_eq_true_eq]
      constructor
      · rintro ⟨_, h2, h3⟩; exact ⟨h2, h3⟩
      · rintro ⟨h2, h3⟩; exact ⟨fun r hr' h => h2 r hr' (by omega), h2, h3⟩
    · have e2 : (a.kind == 13) = false := by simpa using hk
      simp only [hk, if_false, e2, Bool.not_false, Bool.true_or, Bool.and_true, Bool.not_eq_true', List.any_eq_false, decide_eq_true_eq, false_implies, and_true]
  unfold nodeM node13 regB fitsT
  rw [hrho]
  generalize a.rhos.any (fun r => decide (r < if a.kind = 13 then 1 else 0)) = R
  generalize onceB a.rhos = O
  generalize headB a.hd a.kn = H
  generalize mayT a.ty.er = T1
  generalize mayT a.res.er = T2
  generalize plainB a.ty.head = P1
  generalize plainB a.res.head = P2
  have e13 : (a.kind != 13) = !(a.kind == 13) := rfl
  have e18 : (a.kind != 18) = !(a.kind == 18) := rfl
  have e0 : (a.rho != 0) = !(a.rho == 0) := rfl
  have e1 : decide (a.rho < 1) = (decide (a.rho < 0) || (a.rho == 0)) := by
    rw [Bool.eq_iff_iff]; simp; omega
  have em : decide (0 < a.en) = false → mayB a.eff = true := fun h => hmay (by simpa using h)
  rw [e13, e18, e0, e1]
  generalize (a.kind == 13) = K13 at *
  generalize (a.kind == 18) = K18 at *
  generalize (a.kind == 17) = K17 at *
  generalize (a.rho == 0) = Z at *
  generalize decide (a.rho < 0) = N at *
  generalize decide (0 < a.rn) = RN at *
  generalize decide (0 < a.en) = EN at *
  generalize mayB a.eff = M at *
  generalize inB [3, 6, 11, 13, 17, 18] a.kind = I1 at *
  generalize inB [11, 13, 18] a.kind = I2 at *
  generalize inB [11, 13, 15] a.kind = I3 at *
  clear hr he hmay hrho e13 e18 e0 e1
  clear a
  grind
end
section
open Go.RowKit
structure NodeOk (a : AH) : Prop where
  k1 : 1 ≤ a.kind
  k18 : a.kind ≤ 18
  kids : kidsI (if a.kind = 17 then 4 else if a.kind = 18 then 1 else a.kind) = a.kn
  op : a.kind = 9 → 1 ≤ a.op ∧ a.op ≤ 5
  op0 : a.kind ≠ 9 → a.op = 0
  n : 0 ≤ a.n
  n0 : a.kind ≠ 1 → a.n = 0
  name : (a.kind = 2 ∨ a.kind = 12 ∨ a.kind = 13 ∨ a.kind = 18) → nameB a.name = true
  name0 : ¬ (a.kind = 2 ∨ a.kind = 12 ∨ a.kind = 13 ∨ a.kind = 18) → a.name.size = 0
  arg : (a.kind = 11 ∨ a.kind = 13 ∨ a.kind = 16) → nameB a.arg = true
  arg0 : ¬ (a.kind = 11 ∨ a.kind = 13 ∨ a.kind = 16) → a.arg.size = 0
  exn : (a.kind = 15 ∨ a.kind = 16) → exnB a.exn = true
  exn0 : ¬ (a.kind = 15 ∨ a.kind = 16) → a.exn.size = 0
  rho : 0 ≤ a.rho
  rho0 : inB [3, 6, 11, 13, 17, 18] a.kind = false → a.rho = 0
  rhos : ∀ r ∈ a.rhos, 0 ≤ r
  rhos0 : a.kind ≠ 13 → a.kind ≠ 18 → a.rn = 0
  eff : mayB a.eff = true
  eff0 : inB [11, 13, 18] a.kind = false → a.en = 0
  ty : inB [11, 13, 15] a.kind = true → mayT a.ty.er = true
  ty0 : inB [11, 13, 15] a.kind = false → plainB a.ty.head = true
  res : a.kind = 13 → mayT a.res.er = true
  res0 : a.kind ≠ 13 → plainB a.res.head = true
theorem fitsB_true {b : Bool} {s : ByteArray} {q : Bool} (h : fitsB b s q = true) : (b = true → q = true) ∧ (b = false → s.size = 0) := by
  unfold fitsB at h
  cases b
  · simpa using h
  · simpa using h
theorem node4B_ok {k op at_ n : Int} {name arg exn : ByteArray} {m : Nat} (h : node4B ⟨k, op, at_, n, name, arg, exn⟩ m = true) :
    0 ≤ kidsI k ∧ (m : Int) = kidsI k ∧ (k = 9 → 1 ≤ op ∧ op ≤ 5) ∧ (k ≠ 9 → op = 0) ∧ 0 ≤ n ∧ (k ≠ 1 → n = 0) ∧
      ((wName k = true → nameB name = true) ∧ (wName k = false → name.size = 0)) ∧ ((wArg k = true → nameB arg = true) ∧ (wArg k = false → arg.size = 0)) ∧ ((wExn k = true → exnB exn = true) ∧ (wExn k = false → exn.size = 0)) := by
  unfold node4B at h
  simp only [Bool.and_eq_true, Bool.not_eq_true', Bool.or_eq_false_iff, decide_eq_false_iff_not, Bool.and_eq_false_imp, bne_eq_false_iff_eq] at h
  obtain ⟨⟨⟨⟨⟨h1, h2⟩, h3⟩, h4, h5⟩, ⟨h6, h7⟩, h8⟩, ⟨h9, h10⟩, h11⟩ := h
  refine ⟨by omega, h2, fun hk => ?_, fun hk => ?_, by omega, fun hk => ?_, fitsB_true h9, fitsB_true h10, fitsB_true h11⟩
  · have := h4 (by simp [hk])
    omega
  · exact h5 (by simp [hk])
  · exact h8 (by simp [hk])
theorem wName_iff (k : Int) : (wName k = true ↔ k = 2 ∨ k = 12 ∨ k = 13) ∧ (wName k = false ↔ ¬ (k = 2 ∨ k = 12 ∨ k = 13)) := by
  unfold wName
  constructor
  · simp only [Bool.or_eq_true, beq_iff_eq]; omega
  · simp only [Bool.or_eq_false_iff, beq_eq_false_iff_ne]; omega
theorem wArg_iff (k : Int) : (wArg k = true ↔ k = 11 ∨ k = 13 ∨ k = 16) ∧ (wArg k = false ↔ ¬ (k = 11 ∨ k = 13 ∨ k = 16)) := by
  unfold wArg
  constructor
  · simp only [Bool.or_eq_true, beq_iff_eq]; omega
  · simp only [Bool.or_eq_false_iff, beq_eq_false_iff_ne]; omega
theorem wExn_iff (k : Int) : (wExn k = true ↔ k = 15 ∨ k = 16) ∧ (wExn k = false ↔ ¬ (k = 15 ∨ k = 16)) := by
  unfold wExn
  constructor
  · simp only [Bool.or_eq_true, beq_iff_eq]
  · simp only [Bool.or_eq_false_iff, beq_eq_false_iff_ne]; omega
theorem kidsI_rng {k : Int} (h : 0 ≤ kidsI k) : 1 ≤ k ∧ k ≤ 16 := by
  by_cases h1 : 1 ≤ k ∧ k ≤ 16
  · exact h1
  · have : kidsI k = -1 := by unfold kidsI; rw [if_neg (by omega), if_neg (by omega), if_neg (by omega), if_neg (by omega)]
    omega
theorem kidsI_le (k : Int) : kidsI k ≤ 3 := by
  unfold kidsI
  split
  · omega
  · split
    · omega
    · split
      · omega
      · split <;> omega
theorem headB_ok (k op at_ n : Int) (name arg exn : ByteArray) (m : Nat) (h : headB ⟨k, op, at_, n, name, arg, exn⟩ m = true) :
    1 ≤ k ∧ k ≤ 18 ∧ kidsI (if k = 17 then 4 else if k = 18 then 1 else k) = m ∧ (k = 9 → 1 ≤ op ∧ op ≤ 5) ∧ (k ≠ 9 → op = 0) ∧ 0 ≤ n ∧ (k ≠ 1 → n = 0) ∧
      ((k = 2 ∨ k = 12 ∨ k = 13 ∨ k = 18) → nameB name = true) ∧ (¬ (k = 2 ∨ k = 12 ∨ k = 13 ∨ k = 18) → name.size = 0) ∧
      ((k = 11 ∨ k = 13 ∨ k = 16) → nameB arg = true) ∧ (¬ (k = 11 ∨ k = 13 ∨ k = 16) → arg.size = 0) ∧ ((k = 15 ∨ k = 16) → exnB exn = true) ∧ (¬ (k = 15 ∨ k = 16) → exn.size = 0) := by
  unfold headB at h
  split at h
  · rename_i h17
    have h17 : k = 17 := h17
    subst h17
    simp only [bareB, Bool.and_eq_true, beq_iff_eq, toList_empty, decide_eq_true_eq] at h
    obtain ⟨⟨⟨⟨⟨⟨h1, h2⟩, h3⟩, h4⟩, h5⟩, h6⟩, h7⟩ := h
    refine ⟨by omega, by omega, ?_, by omega, fun _ => h1, by omega, fun _ => h2, by omega, fun _ => h5, by omega, fun _ => h3, by omega, fun _ => h4⟩
    rw [h7]; rfl
  · rename_i h17
    have h17 : ¬ k = 17 := h17
    split at h
    · rename_i h18
      have h18 : k = 18 := h18
      subst h18
      simp only [bareB, Bool.and_eq_true, beq_iff_eq, toList_empty, decide_eq_true_eq] at h
      obtain ⟨⟨⟨⟨⟨⟨h1, h2⟩, h3⟩, h4⟩, h5⟩, h6⟩, h7⟩ := h
      refine ⟨by omega, by omega, ?_, by omega, fun _ => h1, by omega, fun _ => h2, fun _ => h5, by omega, by omega, fun _ => h3, by omega, fun _ => h4⟩
      rw [h7]; rfl
    · rename_i h18
      have h18 : ¬ k = 18 := h18
      obtain ⟨h1, h2, h3, h4, h5, h6, ⟨h7, h7'⟩, ⟨h8, h8'⟩, ⟨h9, h9'⟩⟩ := node4B_ok h
      obtain ⟨hr1, hr2⟩ := kidsI_rng h1
      have hm : (m : Int) = kidsI k := by
        have := kidsI_le k
        rw [Nat.min_def] at h2
        split at h2 <;> omega
      refine ⟨hr1, by omega, by rw [if_neg h17, if_neg h18, hm], h3, h4, h5, h6, fun hk => h7 ((wName_iff k).1.2 (by omega)), fun hk => h7' ((wName_iff k).2.2 (by omega)), fun hk => h8 ((wArg_iff k).1.2 hk), fun hk => h8' ((wArg_iff k).2.2 hk), fun hk => h9 ((wExn_iff k).1.2 hk), fun hk => h9' ((wExn_iff k).2.2 hk)⟩
theorem node_ok {a : AH} (h : node13 a = true) (hr : a.rhos.length = a.rn) : NodeOk a := by
  unfold node13 at h
  simp only [Bool.and_eq_true, Bool.not_eq_true', Bool.or_eq_false_iff, Bool.and_eq_false_imp, Bool.or_eq_true, decide_eq_false_iff_not, Bool.not_eq_false', bne_iff_ne, beq_iff_eq, bne_eq_false_iff_eq, beq_eq_false_iff_ne] at h
  obtain ⟨⟨⟨⟨⟨⟨⟨⟨h1, h2⟩, h3⟩, h4⟩, h5⟩, h6⟩, ⟨h7, h8⟩⟩, ⟨h9, h10⟩⟩, h11⟩ := h
  obtain ⟨k1, k2, k3, k4, k5, k6, k7, k8, k9, k10, k11, k12, k13⟩ := headB_ok _ _ _ _ _ _ _ _ h1
  rw [← hr, rhosB_iff] at h6
  refine ⟨k1, k2, k3, k4, k5, k6, k7, k8, k9, k10, k11, k12, k13, by omega, fun h => h4 h, fun r hr => by have := h6.1 r hr; omega, fun ha hb => by have := h5 ⟨ha, hb⟩; omega, h8, fun h => by have := h7 h; omega, h9, h10, fun h => ?_, fun h => ?_⟩
  · rcases h11 with ⟨_, h11⟩ | ⟨h11, _⟩
    · exact h11
    · exact absurd h h11
  · rcases h11 with ⟨h11, _⟩ | ⟨_, h11⟩
    · exact absurd h11 h
    · exact h11
end
section
open Go.RowKit
structure SmallN (a : AH) : Prop where
  name : a.name.size ≤ 100
  arg : a.arg.size ≤ 100
  exn : a.exn.size ≤ 100
  rhos : a.rn ≤ 50
  eff : greatB a.eff = false
  ty : SmallT a.ty.er 100
  res : SmallT a.res.er 100
def SmallNs (t : PA) : Prop := ∀ a ∈ Rose.nodes t, SmallN a
theorem SmallNs.node {a : AH} {l : List PA} (ha : SmallN a) (hl : ∀ t ∈ l, SmallNs t) : SmallNs (.node a l) := by
  intro x hx
  rw [Rose.nodes_node, List.mem_cons] at hx
  rcases hx with rfl | hx
  · exact ha
  · rw [List.mem_flatten] at hx
    obtain ⟨m, hm, hx⟩ := hx
    obtain ⟨t, ht, rfl⟩ := List.mem_map.1 hm
    exact hl t ht x hx
def LeftA (t : PA) (n r : Int) : Prop := -1 ≤ r ∧ r ≤ n ∧ (0 ≤ r → (t.size : Int) + r = n ∧ SmallNs t)
def LeftATo (l : List PA) (n r : Int) : Prop := -1 ≤ r ∧ r ≤ n ∧ (0 ≤ r → ((l.map Rose.size).sum : Int) + r = n ∧ ∀ t ∈ l, SmallNs t)
theorem LeftATo.step {l : List PA} {n r r' : Int} {t : PA} (h : LeftATo l n r) (h0 : 0 ≤ r) (h' : LeftA t r r') : LeftATo (l ++ [t]) n r' := by
  refine ⟨h'.1, by have := h.2.1; have := h'.2.1; omega, fun hr => ?_⟩
  obtain ⟨h1, h2⟩ := h.2.2 h0
  obtain ⟨h3, h4⟩ := h'.2.2 hr
  refine ⟨?_, fun x hx => ?_⟩
  · simp only [List.map_append, List.map_cons, List.map_nil, List.sum_append, List.sum_cons, List.sum_nil]
    omega
  · rcases List.mem_append.1 hx with hx | hx
    · exact h2 x hx
    · rw [List.mem_singleton] at hx; subst hx; exact h4
theorem ref_Great12_b {t : PT} {w : World} (hl : LR.lies w t) :
    Calls Tryz.prog 87 #[aggR t.head] w fun e w' => (∃ r, e = .returned (.bool r) ∧ (r = false → SmallT t.er 100)) ∧ Below w.heap.size w w' := ref_Great12_any hl
theorem ref_Great_b {a : AH} {w : World} {r : Bool} (h : greatB a.eff = r) (ho : IsRow encA 3 w a.ep a.en a.ec a.eff) :
    Calls Tryz.prog 86 #[.slice a.ep a.en a.ec] w fun e w' => e = .returned (.bool r) ∧ w = w' := by
  subst h; exact ref_Great_any _ _ _ _ w ho.len ho.max ho.row
def LeftAt (t : PA) (w : World) : Prop := ∀ n : Int, 0 ≤ n → n ≤ 1000000 → Calls Tryz.prog 57 #[aggT t.head, .int .i64 n] w fun e w' => (∃ r : Int, e = .returned (.int .i64 r) ∧ LeftA t n r) ∧ Below w.heap.size w w'
set_option maxHeartbeats 4000000 in
theorem ref13_left_of {a : AH} {l : List PA} {w : World} (hN : NodeA w a l) (hf : ∀ x ∈ l, ∀ W, Below w.heap.size w W → LeftAt x W) : LeftAt (.node a l) w := by
  intro n h0 hn
  have HN := hid hN
  have HF := hid hf
  have hkm := hN.own.kmax
  have hrm := hN.own.rhos.max
  have hnm := hN.own.name
  have ham := hN.own.arg
  have hem := hN.own.exn
  have HA := hid (boxA_new w a)
  have HBX := hid ((Below.refl w.heap.size w).alloc (Nat.le_refl _) (boxA a))
  show Calls _ _ #[aggT a, .int .i64 n] w _
  clear hN hf
  go_enter Tryz.func57, Tryz.ntmps57
  go_upto_region 2 with fail
  generalize w.alloc (.cells #[.int .u8 a.kind, .int .u8 a.op, .int .i64 a.at_, .int .i64 a.n, .string a.name, .string a.arg, .string a.exn, .int .i64 a.rho, .slice a.rp a.rn a.rc, .slice a.ep a.en a.ec, .int .u8 a.ty.head.kind, .int .i64 a.ty.head.rho, .slice a.ty.head.ep a.ty.head.en a.ty.head.ec, .slice a.ty.head.kp a.ty.head.kn a.ty.head.kc, .int .u8 a.res.head.kind, .int .i64 a.res.head.rho, .slice a.res.head.ep a.res.head.en a.res.head.ec, .slice a.res.head.kp a.res.head.kn a.res.head.kc, .slice a.kp a.kn a.kc] 31) = W0 at *
  go_cut [47] from 8 to 47 (fun s47 wx => ∃ b, s47 = .bool b ∧ (b = false → SmallN a) ∧ Below W0.heap.size W0 wx)
  case first =>
    obtain ⟨_, _, _, _, q4, q5, q6, q7, q8, q9, q10, q11, q12, q13, q14, q15, q16, q17, _⟩ := HA.out.all
    by_cases h1 : 100 < a.name.size
    · have e1 : decide ((100 : Int) < (a.name.size : Int)) = true := by simp; omega
      clear h1
      go_wp2_with fail
      go_meet
      case rel => exact ⟨true, rfl, (fun h => by cases h), Below.refl _ _⟩
    have e1 : decide ((100 : Int) < (a.name.size : Int)) = false := by simp; omega
    by_cases h2 : 100 < a.arg.size
    · have e2 : decide ((100 : Int) < (a.arg.size : Int)) = true := by simp; omega
      clear h1 h2
      go_wp2_with fail
      go_meet
      case rel => exact ⟨true, rfl, (fun h => by cases h), Below.refl _ _⟩
    have e2 : decide ((100 : Int) < (a.arg.size : Int)) = false := by simp; omega
    by_cases h3 : 100 < a.exn.size
    · have e3 : decide ((100 : Int) < (a.exn.size : Int)) = true := by simp; omega
      clear h1 h2 h3
      go_wp2_with fail
      go_meet
      case rel => exact ⟨true, rfl, (fun h => by cases h), Below.refl _ _⟩
    have e3 : decide ((100 : Int) < (a.exn.size : Int)) = false := by simp; omega
    by_cases h4 : 50 < a.rn
    · have e4 : decide ((50 : Int) < (a.rn : Int)) = true := by simp; omega
      clear h1 h2 h3 h4
      go_wp2_with fail
      go_meet
      case rel => exact ⟨true, rfl, (fun h => by cases h), Below.refl _ _⟩
    have e4 : decide ((50 : Int) < (a.rn : Int)) = false := by simp; omega
    have HSZ : Hid (a.name.size ≤ 100 ∧ a.arg.size ≤ 100 ∧ a.exn.size ≤ 100 ∧ a.rn ≤ 50) := by show _ ∧ _; omega
    have HEF := hid (HN.out.own.eff.below HBX.out)
    clear h1 h2 h3 h4
    cases hg : greatB a.eff
    · have HG := hid hg
      clear hg
      go_wp2_with fail
      refine (ref_Great_b HG.out HEF.out).mono ?_
      rintro e w1 ⟨rfl, rfl⟩
      go_wp2_with fail
      refine (ref_Great12_b (LR.lies_below HBX.out _ HN.out.own.ty)).mono ?_
      rintro e w2 ⟨⟨r, rfl, hr⟩, hb⟩
      have HR := hid hr
      have HB2 := hid hb
      have HA2 := hid (HA.out.below hb)
      clear hb hr q4 q5 q6 q7 q8 q9 q10 q11 q12 q13 q14 q15 q16 q17
      cases r
      · obtain ⟨_, _, _, _, q4, q5, q6, q7, q8, q9, q10, q11, q12, q13, q14, q15, q16, q17, _⟩ := HA2.out.all
        go_wp2_with fail
        refine (ref_Great12_b (LR.lies_below (HBX.out.trans (HB2.out.mono HBX.out.size)) _ HN.out.own.res)).mono ?_
        rintro e w3 ⟨⟨r', rfl, hr⟩, hb⟩
        have HR2 := hid hr
        have HB3 := hid (HB2.out.trans (hb.mono HB2.out.size))
        clear hb hr q4 q5 q6 q7 q8 q9 q10 q11 q12 q13 q14 q15 q16 q17
        go_wp2_with fail
        go_meet
        case rel => exact ⟨r', rfl, fun h => ⟨HSZ.out.1, HSZ.out.2.1, HSZ.out.2.2.1, HSZ.out.2.2.2, HG.out, HR.out (by first | rfl | trivial), HR2.out h⟩, HB3.out⟩
      · go_wp2_with fail
        go_meet
        case rel => exact ⟨true, rfl, (fun h => by cases h), HB2.out⟩
    · have HG := hid hg
      clear hg
      go_wp2_with fail
      refine (ref_Great_b HG.out HEF.out).mono ?_
      rintro e w1 ⟨rfl, rfl⟩
      go_wp2_with fail
      go_meet
      case rel => exact ⟨true, rfl, (fun h => by cases h), Below.refl _ _⟩
  case rest =>
    obtain ⟨b, rfl, hs, hb⟩ := hcut
    have HSM := hid hs
    have HB := hid (HBX.out.trans (hb.mono HBX.out.size))
    have HA1 := hid (HA.out.below hb)
    clear hb hs
    cases b
    · have hlt0 : w.heap.size < wc.heap.size := (Array.getElem?_eq_some_iff.1 HA1.out.blk).1
      have HNW := hid (HN.out.below HB.out)
      go_upto_region 4 with fail
      go_wp2_with fail
      go_loopw [1, 5] (fun u i wr => ∃ (k : Nat) (r : Int), k ≤ a.kn ∧ i = .int .i64 k ∧ u = .int .i64 r ∧ LeftATo (l.take k) (n - 1) r ∧ Below wc.heap.size wc wr) (fun _ i _ => a.kn - (intOf i).toNat)
      case atStart => exact ⟨0, n - 1, by omega, rfl, by go_num, ⟨by omega, by omega, fun _ => ⟨by simp, fun t ht => by simp at ht⟩⟩, Below.refl _ _⟩
      case round =>
        obtain ⟨k, r, hk, rfl, rfl, hto, hb⟩ := hrel
        have hr1 := hto.1
        have hr2 := hto.2.1
        have HTO := hid hto
        have HBR := hid hb
        clear hto hb
        have q18 : wr.cell? ⟨w.heap.size, 18, none⟩ = some (.slice a.kp a.kn a.kc) := (HA1.out.below HBR.out).c 18 _ rfl
        by_cases hlt : k < a.kn
        · by_cases hr0 : 0 ≤ r
          · obtain ⟨x, hx⟩ := (HNW.out.rowT).at (j := k) hlt
            have HE := hid hx
            obtain ⟨b, o, hbo, hbl, hcs⟩ := (HNW.out.rowT.below HBR.out).kid hx
            have HCS := hid hcs
            rw [hbo] at q18
            clear hx hbl hbo hcs
            go_wp2_with (refine wpList_load_mid rfl 31 _ rfl b (o + k * 19) rfl (encAH x.head) _ HCS.out.c Tryz.underlying31 rfl (by kernel_rfl) ?_)
            refine Calls.mono (HF.out x (List.mem_of_getElem? HE.out) wr (HB.out.trans (HBR.out.mono HB.out.size)) r hr0 (by omega)) ?_
            rintro e w2 ⟨⟨r', rfl, hok⟩, hb⟩
            have HOK := hid hok
            have HB2 := hid (HBR.out.trans (hb.mono HBR.out.size))
            clear hok hb q18
            go_wp2_with fail
            go_roundw
            case rel => exact ⟨k + 1, r', by omega, by go_num, rfl, by rw [take_succ_get HE.out]; exact HTO.out.step hr0 HOK.out, HB2.out⟩
            case measure => simp [intOf]; omega
          · have hd : decide (0 ≤ r) = false := by simpa using hr0
            go_wp2_with fail
            go_ret
            exact ⟨⟨r, rfl, by have := HTO.out; refine ⟨this.1, by omega, fun h => absurd h (by omega)⟩⟩, HB.out.trans (HBR.out.mono HB.out.size)⟩
        · have hkn : k = a.kn := by omega
          have h := HTO.out
          rw [take_full (by rw [HNW.out.kids.len]; omega)] at h
          have H := hid h
          clear hkn h
          go_wp2_with fail
          go_ret
          refine ⟨⟨r, rfl, H.out.1, by omega, fun h0 => ?_⟩, HB.out.trans (HBR.out.mono HB.out.size)⟩
          obtain ⟨h1, h2⟩ := H.out.2.2 h0
          refine ⟨by rw [Rose.size_node]; omega, SmallNs.node (HSM.out (by first | rfl | trivial)) h2⟩
    · go_wp2_with fail
      go_ret
      exact ⟨⟨-1, rfl, by omega, by omega, fun h => absurd h (by omega)⟩, HB.out⟩
theorem leftAt_any (t : PA) : ∀ w, LA.lies w t → LeftAt t w := by
  refine Rose.ind (P := fun (t : PA) => ∀ w, LA.lies w t → LeftAt t w) (fun a l ih => ?_) t
  intro w hl
  have HN := nodeA hl
  exact ref13_left_of HN (fun x hx W hW => ih x hx W (LA.lies_below hW x (HN.each x hx)))
theorem ref13_Great_any {t : PA} {w : World} (hl : LA.lies w t) :
    Calls Tryz.prog 33 #[aggT t.head] w fun e w' => (∃ r, e = .returned (.bool r) ∧ (r = false → t.size ≤ 400 ∧ SmallNs t)) ∧ Below w.heap.size w w' := by
  have HBX := hid ((Below.refl w.heap.size w).alloc (Nat.le_refl _) (boxA t.head))
  have HL := hid (leftAt_any t _ (LA.lies_below ((Below.refl w.heap.size w).alloc (Nat.le_refl _) (boxA t.head)) t hl) 400 (by omega) (by omega))
  have HA := hid (boxA_new w t.head)
  obtain ⟨a, l⟩ := t
  show Calls _ _ #[aggT a] w _
  clear hl
  go_enter Tryz.func33, Tryz.ntmps33
  go_wp2_with (refine wpList_load_row rfl 31 _ rfl w.heap.size rfl 31 _ (0, 0) _ (HA.out.blk) Tryz.underlying31 rfl (by kernel_rfl) ?_)
  refine Calls.mono HL.out ?_
  rintro e w1 ⟨⟨r, rfl, hok⟩, hb⟩
  have HOK := hid hok
  have HB := hid (HBX.out.trans (hb.mono HBX.out.size))
  clear hok hb
  go_wp2_with fail
  go_ret
  refine ⟨⟨_, rfl, fun h => ?_⟩, HB.out⟩
  have h0 : 0 ≤ r := by simpa using h
  obtain ⟨h1, h2⟩ := HOK.out.2.2 h0
  exact ⟨by omega, h2⟩
end
end Go.Proofs.YtkdjnegfnhldpaaGreatDoor
