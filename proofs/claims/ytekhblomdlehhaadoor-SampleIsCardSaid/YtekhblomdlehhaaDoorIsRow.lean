/- What is known of a slice that came in, or was made: IsRow. -/
import Derived.Test.YtekhblomdlehhaaDoorOwn
set_option linter.unusedVariables false
set_option maxRecDepth 100000
set_option linter.unusedSimpArgs false
namespace Go.Proofs.YtekhblomdlehhaaDoor
open Go.RowKit

/-- The slice p n cap holds the elements l. -/
structure IsRow {α : Type} (enc : α → List Value) (k : Nat) (w : World) (p : Option Addr) (n cap : Nat) (l : List α) : Prop where
  len : l.length = n
  max : n ≤ 9223372036854775807
  le : n ≤ cap
  nil : p = none → cap = 0
  row : RowE enc k w p l
section
variable {α : Type} {enc : α → List Value} {k : Nat} {w w' : World} {p : Option Addr} {n cap : Nat} {l : List α}
theorem IsRow.below (h : IsRow enc k w p n cap l) (hb : Below w.heap.size w w') : IsRow enc k w' p n cap l := ⟨h.1, h.2, h.3, h.4, h.5.below hb⟩
theorem IsRow.alloc (h : IsRow enc k w p n cap l) (o : Obj) : IsRow enc k (w.alloc o) p n cap l := h.below ((Below.refl _ _).alloc (Nat.le_refl _) _)
theorem OwnE.isRow {base e : Nat} {v : Value} (hk : ∀ x, (enc x).length = k) (hk0 : 0 < k) (h : OwnE enc k w base e v n l) : ∃ p cap, v = .slice p n cap ∧ IsRow enc k w p n cap l := by
  obtain ⟨p, cap, hv, hl, hc, hr, hm, hn, _⟩ := h.row hk hk0
  unfold maxLen at hm
  exact ⟨p, cap, hv, hl, by omega, hc, fun e => (hn e).2, hr⟩
theorem IsRow.none (enc : α → List Value) (k : Nat) (w : World) : IsRow enc k w Option.none 0 0 [] := ⟨rfl, by omega, by omega, fun _ => rfl, .inl rfl⟩
end
end Go.Proofs.YtekhblomdlehhaaDoor
