/- Slices that are read: what a slice's cells hold, and that it stays so while only newer blocks are written. -/
import Derived.Test.YtekhblomdlehhaaDoorRows
import Derived.WalkKit
import Derived.WalkSpells
import Derived.WalkLawsBesides
import Derived.Lib.Hide
set_option linter.unusedVariables false
set_option maxRecDepth 100000
set_option linter.unusedSimpArgs false
namespace Go.Proofs.YtekhblomdlehhaaDoor
open Go.RowKit

/-- The cells from p on hold xs (of an empty row nothing is asked). -/
def Row (w : World) (p : Option Addr) (xs : List Value) : Prop :=
  xs = [] ∨ ∃ b o, p = some ⟨b, o, none⟩ ∧ ∀ i, i < xs.length → w.cell? ⟨b, o + i, none⟩ = some (xs.getD i undef)

theorem cell_block {w : World} {a : Addr} {v : Value} (h : w.cell? a = some v) : a.block < w.heap.size := by
  rcases Nat.lt_or_ge a.block w.heap.size with hlt | hge
  · exact hlt
  · unfold World.cell? at h
    rw [Array.getElem?_eq_none hge] at h
    cases h

theorem Row.nil (w : World) (p : Option Addr) : Row w p [] := .inl rfl

/-- While old blocks stay, the row stays. -/
theorem Row.below {w w' : World} {p : Option Addr} {xs : List Value} (h : Row w p xs) (hb : Below w.heap.size w w') : Row w' p xs := by
  rcases h with h | ⟨b, o, hp, hc⟩
  · exact .inl h
  · exact .inr ⟨b, o, hp, fun i hi => by rw [hb.cell (p := ⟨b, o + i, none⟩) (cell_block (hc i hi))]; exact hc i hi⟩

theorem Row.drewN {w : World} {p : Option Addr} {xs : List Value} (h : Row w p xs) (n : Nat) : Row (w.drewN n) p xs := h
theorem Row.drew {w : World} {p : Option Addr} {xs : List Value} (h : Row w p xs) : Row w.drew p xs := h

theorem Row.at {w : World} {p : Option Addr} {xs : List Value} (h : Row w p xs) (hne : 0 < xs.length) :
    ∃ b o, p = some ⟨b, o, none⟩ ∧ ∀ i, i < xs.length → w.cell? ⟨b, o + i, none⟩ = some (xs.getD i undef) := by
  rcases h with h | h
  · subst h; simp at hne
  · exact h

/-- bytes, as cells -/
def u8s (l : List Int) : List Value := l.map (Value.int .u8)
theorem u8s_length (l : List Int) : (u8s l).length = l.length := by simp [u8s]
theorem u8s_getD (l : List Int) (i : Nat) (h : i < l.length) : (u8s l).getD i undef = .int .u8 (l.getD i 0) := by
  simp [u8s, List.getD, h]
/-- ints, as cells -/
def i64s (l : List Int) : List Value := l.map (Value.int .i64)
theorem i64s_length (l : List Int) : (i64s l).length = l.length := by simp [i64s]
theorem i64s_getD (l : List Int) (i : Nat) (h : i < l.length) : (i64s l).getD i undef = .int .i64 (l.getD i 0) := by
  simp [i64s, List.getD, h]

theorem Row.u8 {w : World} {p : Option Addr} {xs : List Int} (h : Row w p (u8s xs)) (hne : 0 < xs.length) :
    ∃ b o, p = some ⟨b, o, none⟩ ∧ ∀ i, i < xs.length → w.cell? ⟨b, o + i, none⟩ = some (.int .u8 (xs.getD i 0)) := by
  obtain ⟨b, o, hp, hc⟩ := h.at (by rw [u8s_length]; exact hne)
  exact ⟨b, o, hp, fun i hi => by rw [hc i (by rw [u8s_length]; exact hi), u8s_getD _ _ hi]⟩
theorem Row.i64 {w : World} {p : Option Addr} {xs : List Int} (h : Row w p (i64s xs)) (hne : 0 < xs.length) :
    ∃ b o, p = some ⟨b, o, none⟩ ∧ ∀ i, i < xs.length → w.cell? ⟨b, o + i, none⟩ = some (.int .i64 (xs.getD i 0)) := by
  obtain ⟨b, o, hp, hc⟩ := h.at (by rw [i64s_length]; exact hne)
  exact ⟨b, o, hp, fun i hi => by rw [hc i (by rw [i64s_length]; exact hi), i64s_getD _ _ hi]⟩

theorem cell_new (w : World) (cs : Array Value) (t : TypeId) (k : Nat) (fr : Nat × Nat := (0, 0)) : (w.alloc (.cells cs t fr)).cell? ⟨w.heap.size, k, none⟩ = cs[k]? := by
  have h := (MapKept.heap_alloc w (.cells cs t fr)).1
  unfold World.cell?
  simp only [h]
  rfl

theorem ret_int {k : IntKind} {a b : Int} (h : a = b) : Ending.returned (.int k a) = .returned (.int k b) := by rw [h]
theorem ret_pair {k k' : IntKind} {a a' b b' : Int} (h : a = a') (h' : b = b') : Ending.returned (.tuple #[.int k a, .int k' b]) = .returned (.tuple #[.int k a', .int k' b']) := by rw [h, h']
theorem ret_bool {a b : Bool} (h : a = b) : Ending.returned (.bool a) = .returned (.bool b) := by rw [h]
theorem int_congr {k : IntKind} {a b : Int} (h : a = b) : Value.int k a = .int k b := by rw [h]

/-- What is known of a slice of bytes that came in. -/
structure Bytes (w : World) (p : Option Addr) (n cap : Nat) (xs : List Int) : Prop where
  len : xs.length = n
  cap : n ≤ cap
  max : n ≤ 9223372036854775807
  rng : ∀ x ∈ xs, 0 ≤ x ∧ x ≤ 255
  row : Row w p (u8s xs)

theorem row_of_cells {w : World} {x : Addr} {k : IntKind} {zs : List Int} {n : Nat} (hn : n ≤ zs.length) (hcell : ∀ i, i < zs.length → w.cell? (x.add i) = some (.int k (zs.getD i 0))) :
    Row w (some x) ((zs.take n).map (Value.int k)) := by
  rcases Nat.eq_zero_or_pos n with h0 | h0
  · subst h0; exact .inl (by simp)
  · obtain ⟨b, off, spot⟩ := x
    have hc := hcell 0 (by omega)
    have hspot : spot = none := by simpa [Addr.add] using World.cell?_spot hc
    subst hspot
    refine .inr ⟨b, off, rfl, fun i hi => ?_⟩
    simp only [List.length_map, List.length_take] at hi
    have := hcell i (by omega)
    have e : (⟨b, off, none⟩ : Addr).add i = ⟨b, off + i, none⟩ := by unfold Addr.add; split <;> simp_all
    rw [e] at this
    rw [this]
    have hi' : i < zs.length := by omega
    have hin : i < n := by omega
    simp [List.getD, hi', hin]

theorem cell_alloc_old {w : World} {o : Obj} {a : Addr} (h : a.block < w.heap.size) : (w.alloc o).cell? a = w.cell? a :=
  ((Below.refl w.heap.size w).alloc (Nat.le_refl _) o).cell h

theorem Row.new (w : World) (xs : List Value) (t : TypeId) (fr : Nat × Nat := (0, 0)) : Row (w.alloc (.cells xs.toArray t fr)) (some ⟨w.heap.size, 0, none⟩) xs := by
  refine .inr ⟨_, _, rfl, fun i hi => ?_⟩
  rw [cell_new w _ t _ fr]
  simp [List.getD, hi]
theorem Row.newAt (w : World) (xs : List Value) (t : TypeId) (fr : Nat × Nat) (b : Nat) (h : w.heap.size = b) : Row (w.alloc (.cells xs.toArray t fr)) (some ⟨b, 0, none⟩) xs := by
  subst h; exact Row.new w xs t fr
theorem Row.alloc {w : World} {p : Option Addr} {xs : List Value} (h : Row w p xs) (o : Obj) : Row (w.alloc o) p xs := h.below ((Below.refl _ _).alloc (Nat.le_refl _) _)
end Go.Proofs.YtekhblomdlehhaaDoor
