/- Plain facts on effects; rows of slices just laid. -/
import Derived.Test.YtekhblomdlehhaaGreatDoorEff17
set_option linter.unusedVariables false
set_option maxRecDepth 100000
set_option linter.unusedSimpArgs false
namespace Go.Proofs.YtekhblomdlehhaaGreatDoor
open Go.RowKit Go.Sort Go.Lib

theorem withinB_iff (a b : List Atom) : withinB a b = true ↔ ∀ x ∈ a, atomB x = true → x ∈ b := by
  unfold withinB
  rw [List.all_eq_true]
  constructor
  · intro h x hx ha
    have := h x hx
    rw [ha] at this
    exact (inA_iff b x).1 (by simpa using this)
  · intro h x hx
    cases ha : atomB x
    · rfl
    · simp [(inA_iff b x).2 (h x hx ha)]
theorem withinB_refl (a : List Atom) : withinB a a = true := (withinB_iff a a).2 (fun x hx _ => hx)
theorem greatB_len {l : List Atom} (h : greatB l = false) : l.length ≤ 100 := by
  unfold greatB at h
  simp only [Bool.or_eq_false_iff, decide_eq_false_iff_not] at h
  have := h.1; omega
/-- a row of two slices, just laid -/
theorem two_rows {w : World} {p q : Option Addr} {n m nc mc : Nat} (l l' : List Atom) (t : TypeId) : RowE encSl 1 (w.alloc (.cells #[.slice p n nc, .slice q m mc] t)) (some ⟨w.heap.size, 0, none⟩) [⟨p, n, nc, l⟩, ⟨q, m, mc, l'⟩] :=
  RowE.newAt encSl_len w _ _ rfl _ _ _ rfl

theorem two_ok {w : World} {p q : Option Addr} {n m nc mc : Nat} {l l' : List Atom} (h : IsRow encA 3 w p n nc l) (h' : IsRow encA 3 w q m mc l') : ∀ r ∈ [(⟨p, n, nc, l⟩ : SlE Atom), ⟨q, m, mc, l'⟩], r.Ok encA 3 w := by
  intro r hr
  simp only [List.mem_cons, List.not_mem_nil, or_false] at hr
  rcases hr with rfl | rfl
  · exact ⟨h.len, h.le, h.nil, h.row⟩
  · exact ⟨h'.len, h'.le, h'.nil, h'.row⟩

theorem ref_Great_is {p : Option Addr} {n cap : Nat} {l : List Atom} {w : World} {r : Bool} (h : greatB l = r) (hl : IsRow encA 3 w p n cap l) :
    Calls Tryz.prog 20 #[.slice p n cap] w fun e w' => e = .returned (.bool r) ∧ w = w' := by
  subst h; exact ref_Great_any p n cap l w hl.len hl.max hl.row

theorem mem_withoutL (l : List Atom) (rhos : List Int) (x : Atom) : x ∈ withoutL l rhos ↔ x ∈ l ∧ atomB x = true ∧ goesR rhos x = false := by
  unfold withoutL
  rw [List.mem_filter, mem_sortA, List.mem_filter]
  simp [and_assoc]
theorem mem_handledL (l : List Atom) (exns : List ByteArray) (x : Atom) : x ∈ handledL l exns ↔ x ∈ l ∧ atomB x = true ∧ goesX exns x = false := by
  unfold handledL
  rw [List.mem_filter, mem_sortA, List.mem_filter]
  simp [and_assoc]
theorem mem_exnsL (S : List Atom) (s : ByteArray) : s ∈ exnsL S ↔ ∃ x ∈ S, x.kind = 3 ∧ x.exn = s := by
  unfold exnsL
  rw [List.mem_map]
  constructor
  · rintro ⟨x, hx, rfl⟩
    rw [List.mem_filter] at hx
    exact ⟨x, hx.1, by simpa using hx.2, rfl⟩
  · rintro ⟨x, hx, h3, rfl⟩
    exact ⟨x, by rw [List.mem_filter]; exact ⟨hx, by simpa using h3⟩, rfl⟩
/-- the effect of a row -/
abbrev effL (l : List Atom) : List Atom := sortA (l.filter atomB)
/-- without the exceptions that it has, an effect has none -/
theorem mem_handled_own (l : List Atom) (x : Atom) : x ∈ handledL l (exnsL (effL l)) ↔ x ∈ l ∧ atomB x = true ∧ x.kind ≠ 3 := by
  rw [mem_handledL]
  constructor
  · rintro ⟨h1, h2, h3⟩
    refine ⟨h1, h2, fun h => ?_⟩
    unfold goesX at h3
    rw [decide_eq_true h, Bool.true_and] at h3
    have : x.exn ∈ exnsL (effL l) := (mem_exnsL _ _).2 ⟨x, by rw [mem_sortA, List.mem_filter]; exact ⟨h1, h2⟩, h, rfl⟩
    rw [(inS_mem _ _).2 this] at h3; cases h3
  · rintro ⟨h1, h2, h3⟩
    exact ⟨h1, h2, by simp [goesX, h3]⟩
def goneL (l : List Atom) (rhos : List Int) : List Atom := l.filter (goesR rhos)

theorem parts_union (l : List Atom) (rhos : List Int) : effL (withoutL l rhos ++ goneL l rhos) = effL l := by
  refine sortA_congr (fun x => ?_)
  simp only [List.mem_filter, List.mem_append, mem_withoutL, goneL]
  constructor
  · rintro ⟨h | h, h'⟩
    · exact ⟨h.1, h'⟩
    · exact ⟨h.1, h'⟩
  · rintro ⟨h, h'⟩
    cases hg : goesR rhos x
    · exact ⟨.inl ⟨h, h', rfl⟩, h'⟩
    · exact ⟨.inr ⟨h, rfl⟩, h'⟩
theorem parts_within (l : List Atom) (rhos : List Int) : withinB (withoutL l rhos) l = true :=
  (withinB_iff _ _).2 (fun x hx _ => ((mem_withoutL l rhos x).1 hx).1)
theorem parts_same (l : List Atom) (rhos : List Int) : (withinB (handledL (withoutL l rhos) (exnsL (effL (withoutL l rhos)))) (withoutL (handledL l (exnsL (effL l))) rhos) && withinB (withoutL (handledL l (exnsL (effL l))) rhos) (handledL (withoutL l rhos) (exnsL (effL (withoutL l rhos))))) = true := by
  have h : ∀ x, x ∈ handledL (withoutL l rhos) (exnsL (effL (withoutL l rhos))) ↔ x ∈ withoutL (handledL l (exnsL (effL l))) rhos := by
    intro x
    rw [mem_handled_own, mem_withoutL, mem_withoutL, mem_handled_own]
    constructor
    · rintro ⟨⟨h1, h2, h3⟩, h4, h5⟩; exact ⟨⟨h1, h2, h5⟩, h4, h3⟩
    · rintro ⟨⟨h1, h2, h5⟩, h4, h3⟩; exact ⟨⟨h1, h2, h3⟩, h4, h5⟩
  rw [Bool.and_eq_true]
  exact ⟨(withinB_iff _ _).2 (fun x hx _ => (h x).1 hx), (withinB_iff _ _).2 (fun x hx _ => (h x).2 hx)⟩

theorem one_row {w : World} {p : Option Addr} {n nc : Nat} (l : List Atom) (t : TypeId) : RowE encSl 1 (w.alloc (.cells #[.slice p n nc] t)) (some ⟨w.heap.size, 0, none⟩) [⟨p, n, nc, l⟩] :=
  RowE.newAt encSl_len w _ _ rfl _ _ _ rfl
theorem one_ok {w : World} {p : Option Addr} {n nc : Nat} {l : List Atom} (h : IsRow encA 3 w p n nc l) : ∀ r ∈ [(⟨p, n, nc, l⟩ : SlE Atom)], r.Ok encA 3 w := by
  intro r hr
  simp only [List.mem_cons, List.not_mem_nil, or_false] at hr
  subst hr
  exact ⟨h.len, h.le, h.nil, h.row⟩
theorem ref_Ints_is {p : Option Addr} {n cap : Nat} {l : List Int} {x : Int} {w : World} {r : Bool} (hq : inN l x = r) (h : IsRow encN 1 w p n cap l) :
    Calls Tryz.prog 25 #[.slice p n cap, .int .i64 x] w fun e w' => e = .returned (.bool r) ∧ w = w' := by
  subst hq; exact ref_Ints_any p n cap l x w h.len h.max h.row

end Go.Proofs.YtekhblomdlehhaaGreatDoor
