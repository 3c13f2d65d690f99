/- Slices of elements of k cells, read: RowE. -/
import Derived.Test.YtekhblomdlehhaaDoorMem
set_option linter.unusedVariables false
set_option maxRecDepth 100000
set_option linter.unusedSimpArgs false
namespace Go.Proofs.YtekhblomdlehhaaDoor
open Go.RowKit

variable {α : Type}

/-- The cells from p on hold the elements l, each of k cells. -/
def RowE (enc : α → List Value) (k : Nat) (w : World) (p : Option Addr) (l : List α) : Prop :=
  l = [] ∨ ∃ b o, p = some ⟨b, o, none⟩ ∧ b < w.heap.size ∧ ∀ j x, l[j]? = some x → ∀ i v, (enc x)[i]? = some v → w.cell? ⟨b, o + j * k + i, none⟩ = some v

theorem RowE.nil (enc : α → List Value) (k : Nat) (w : World) (p : Option Addr) : RowE enc k w p [] := .inl rfl

theorem RowE.below {enc : α → List Value} {k : Nat} {w w' : World} {p : Option Addr} {l : List α} (h : RowE enc k w p l) (hb : Below w.heap.size w w') : RowE enc k w' p l := by
  rcases h with h | ⟨b, o, hp, hlt, hc⟩
  · exact .inl h
  · exact .inr ⟨b, o, hp, Nat.lt_of_lt_of_le hlt hb.size, fun j x hx i v hv => by rw [hb.cell (p := ⟨b, o + j * k + i, none⟩) hlt]; exact hc j x hx i v hv⟩

theorem RowE.alloc {enc : α → List Value} {k : Nat} {w : World} {p : Option Addr} {l : List α} (h : RowE enc k w p l) (o : Obj) : RowE enc k (w.alloc o) p l := h.below ((Below.refl _ _).alloc (Nat.le_refl _) _)
theorem RowE.drewN {enc : α → List Value} {k : Nat} {w : World} {p : Option Addr} {l : List α} (h : RowE enc k w p l) (n : Nat) : RowE enc k (w.drewN n) p l := h

theorem RowE.at {enc : α → List Value} {k : Nat} {w : World} {p : Option Addr} {l : List α} (h : RowE enc k w p l) (hne : 0 < l.length) :
    ∃ b o, p = some ⟨b, o, none⟩ ∧ b < w.heap.size ∧ ∀ j x, l[j]? = some x → ∀ i v, (enc x)[i]? = some v → w.cell? ⟨b, o + j * k + i, none⟩ = some v := by
  rcases h with h | h
  · subst h; simp at hne
  · exact h

/-- what is known of element j -/
theorem RowE.elem {enc : α → List Value} {k : Nat} {w : World} {p : Option Addr} {l : List α} (h : RowE enc k w p l) {j : Nat} {x : α} (hx : l[j]? = some x) :
    ∃ b o, p = some ⟨b, o, none⟩ ∧ b < w.heap.size ∧ ∀ i v, (enc x)[i]? = some v → w.cell? ⟨b, o + j * k + i, none⟩ = some v := by
  rcases h with h | ⟨b, o, hp, hb, hc⟩
  · subst h; simp at hx
  · exact ⟨b, o, hp, hb, fun i v hv => hc j x hx i v hv⟩

theorem RowE.take {enc : α → List Value} {k : Nat} {w : World} {p : Option Addr} {l : List α} (h : RowE enc k w p l) (n : Nat) : RowE enc k w p (l.take n) := by
  rcases h with h | ⟨b, o, hp, hb, hc⟩
  · subst h; exact .inl (by simp)
  · refine .inr ⟨b, o, hp, hb, fun j x hx i v hv => hc j x ?_ i v hv⟩
    rw [List.getElem?_take] at hx
    split at hx
    · exact hx
    · cases hx

theorem get_lt {l : List α} {j : Nat} {x : α} (h : l[j]? = some x) : j < l.length := (List.getElem?_eq_some_iff.1 h).1
theorem get_of_lt {l : List α} {j : Nat} (h : j < l.length) : ∃ x, l[j]? = some x := ⟨l[j], List.getElem?_eq_getElem h⟩
theorem take_succ_get {l : List α} {j : Nat} {x : α} (h : l[j]? = some x) : l.take (j + 1) = l.take j ++ [x] := by
  obtain ⟨hj, rfl⟩ := List.getElem?_eq_some_iff.1 h
  exact List.take_succ_eq_append_getElem hj
theorem take_full {l : List α} {n : Nat} (h : l.length ≤ n) : l.take n = l := List.take_of_length_le h
theorem any_get {l : List α} {q : α → Bool} {j : Nat} {x : α} (h : l[j]? = some x) (hq : q x = true) : l.any q = true := by
  rw [List.any_eq_true]
  exact ⟨x, List.mem_of_getElem? h, hq⟩
theorem all_get {l : List α} {q : α → Bool} {j : Nat} {x : α} (h : l[j]? = some x) (hq : q x = false) : l.all q = false := by
  rw [List.all_eq_false]
  exact ⟨x, List.mem_of_getElem? h, by simp [hq]⟩
theorem any_take_get {l : List α} {q : α → Bool} {j : Nat} {x : α} (h : l[j]? = some x) : (l.take (j + 1)).any q = ((l.take j).any q || q x) := by
  rw [take_succ_get h, List.any_append]; simp
theorem all_take_get {l : List α} {q : α → Bool} {j : Nat} {x : α} (h : l[j]? = some x) : (l.take (j + 1)).all q = ((l.take j).all q && q x) := by
  rw [take_succ_get h, List.all_append]; simp

/-- elements of k cells, flattened -/
theorem flat_get {enc : α → List Value} {k : Nat} (hk : ∀ x, (enc x).length = k) : ∀ (l : List α) (j : Nat) (x : α) (i : Nat), l[j]? = some x → i < k → (l.flatMap enc)[j * k + i]? = (enc x)[i]?
  | [], j, x, i, h, _ => by simp at h
  | y :: l, 0, x, i, h, hi => by
    simp at h; subst h
    rw [List.flatMap_cons, List.getElem?_append_left (by rw [hk]; omega)]
    simp
  | y :: l, j + 1, x, i, h, hi => by
    simp only [List.getElem?_cons_succ] at h
    rw [List.flatMap_cons, List.getElem?_append_right (by rw [hk, Nat.add_mul]; omega), hk]
    rw [show (j + 1) * k + i - k = j * k + i from by rw [Nat.add_mul]; omega]
    exact flat_get hk l j x i h hi

theorem flat_length {enc : α → List Value} {k : Nat} (hk : ∀ x, (enc x).length = k) (l : List α) : (l.flatMap enc).length = l.length * k := by
  induction l with
  | nil => simp
  | cons a l ih => rw [List.flatMap_cons, List.length_append, hk, ih, List.length_cons, Nat.add_mul]; omega

theorem add_lit' (b o i : Nat) : (⟨b, o, none⟩ : Addr).add i = ⟨b, o + i, none⟩ := by unfold Addr.add; split <;> simp_all

/-- A row of the call's own, read. -/
theorem own_row {enc : α → List Value} {k : Nat} (hk : ∀ x, (enc x).length = k) {w : World} {base e n : Nat} {v : Value} {l : List α} (h : w.ownsRow base e k v n (l.flatMap enc)) (hk0 : 0 < k) :
    ∃ p cap, v = .slice p n cap ∧ l.length = n ∧ n ≤ cap ∧ RowE enc k w p l ∧ cap ≤ maxLen ∧ (p = none → n = 0 ∧ cap = 0) ∧ (∀ a, p = some a → base ≤ a.block ∧ a.off = 0 ∧ a.spot = none ∧ a.block < w.heap.size) := by
  have hl : l.length = n := by
    have := h.1
    rw [flat_length hk] at this
    exact Nat.eq_of_mul_eq_mul_right hk0 this
  rcases h.2 with ⟨rfl, h0⟩ | ⟨g, cap, cur, rfl, hb, hg, hnc, hcm, hsz, htk⟩
  · subst h0
    exact ⟨none, 0, rfl, hl, by omega, .inl (List.length_eq_zero_iff.1 hl), by simp [maxLen], (fun _ => ⟨rfl, rfl⟩), (fun a ha => by cases ha)⟩
  · have hlt : g < w.heap.size := (Array.getElem?_eq_some_iff.1 hg).1
    refine ⟨_, cap, rfl, hl, hnc, .inr ⟨g, 0, rfl, hlt, fun j x hx i v hv => ?_⟩, hcm, (fun e => by cases e), (fun a ha => by cases ha; exact ⟨hb, rfl, rfl, hlt⟩)⟩
    have hi : i < k := by rw [← hk x]; exact get_lt hv
    have hf := flat_get hk l j x i hx hi
    have := h.cells (g := g) rfl (j * k + i) v (by rw [hf]; exact hv)
    rw [add_lit'] at this
    simpa [Nat.add_assoc] using this

/-- strings: one cell each -/
def encS (s : ByteArray) : List Value := [.string s]
theorem encS_len (s : ByteArray) : (encS s).length = 1 := rfl
/-- numbers: one cell each -/
def encN (n : Int) : List Value := [.int .i64 n]
theorem encN_len (n : Int) : (encN n).length = 1 := rfl

theorem RowE.str {w : World} {p : Option Addr} {l : List ByteArray} (h : RowE encS 1 w p l) {j : Nat} {x : ByteArray} (hx : l[j]? = some x) :
    ∃ b o, p = some ⟨b, o, none⟩ ∧ w.cell? ⟨b, o + j, none⟩ = some (.string x) := by
  obtain ⟨b, o, rfl, _, hc⟩ := h.elem hx
  exact ⟨b, o, rfl, by simpa using hc 0 _ rfl⟩
theorem RowE.num {w : World} {p : Option Addr} {l : List Int} (h : RowE encN 1 w p l) {j : Nat} {x : Int} (hx : l[j]? = some x) :
    ∃ b o, p = some ⟨b, o, none⟩ ∧ w.cell? ⟨b, o + j, none⟩ = some (.int .i64 x) := by
  obtain ⟨b, o, rfl, _, hc⟩ := h.elem hx
  exact ⟨b, o, rfl, by simpa using hc 0 _ rfl⟩

/-- a new block of cells, as elements -/
theorem RowE.newAt {enc : α → List Value} {k : Nat} (hk : ∀ x, (enc x).length = k) (w : World) (l : List α) (cs : Array Value) (hcs : cs.toList = l.flatMap enc) (t : TypeId) (fr : Nat × Nat) (b : Nat) (h : w.heap.size = b) :
    RowE enc k (w.alloc (.cells cs t fr)) (some ⟨b, 0, none⟩) l := by
  subst h
  refine .inr ⟨_, 0, rfl, by simp, fun j x hx i v hv => ?_⟩
  rw [cell_new w _ t _ fr, ← Array.getElem?_toList, hcs]
  have hi : i < k := by rw [← hk x]; exact get_lt hv
  have := flat_get hk l j x i hx hi
  rw [Nat.zero_add, this]; exact hv
end Go.Proofs.YtekhblomdlehhaaDoor
