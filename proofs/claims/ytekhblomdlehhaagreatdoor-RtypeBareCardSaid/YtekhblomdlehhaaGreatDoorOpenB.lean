/- Arguments opened: slices of atoms, ints, strings that came in, as IsRow. -/
import Derived.Test.YtekhblomdlehhaaGreatDoorOpenA
import Derived.Test.YtekhblomdlehhaaGreatDoorIsRow
set_option linter.unusedVariables false
set_option maxRecDepth 100000
set_option linter.unusedSimpArgs false
namespace Go.Proofs.YtekhblomdlehhaaGreatDoor
open Go.ChangeShapes Go.WideShapes Go.ChangeAt Go.RowKit Go.Deep

section
variable {H : Type} {enc : TypeId × Value → H} {W : World} {base : Nat} {t e : TypeId} {v : Value} {d : DataW H} {ps : List MemPlace}

theorem slice_shape {p : Option Addr} {n cap : Nat} (ht : Tryz.prog.underlying t = some (.slice e)) (h : DataW.Trod enc Tryz.prog W 0 (fun _ => true) true t (.slice p n cap) d ps) : n ≤ cap ∧ (p = none → cap = 0) := by
  obtain ⟨fuel, hf⟩ := h
  rcases open_slice ht hf with ⟨hcs, _⟩ | ⟨a, len, c, m, fu, D, Pl, hcs, _, hl, hm, hmm, _, hx⟩
  · simp [Value.cells] at hcs
    obtain ⟨rfl, rfl, rfl⟩ := hcs
    exact ⟨Nat.le_refl _, fun _ => rfl⟩
  · simp [Value.cells] at hcs
    obtain ⟨rfl, rfl, rfl⟩ := hcs
    exact ⟨hl, fun h => by cases h⟩

theorem open_rowA (ht : Tryz.prog.underlying t = some (.slice 70))
    (hv : Value.okWide Tryz.prog W .any base t v) (h : DataW.Trod enc Tryz.prog W 0 (fun _ => true) true t v d ps) :
    ∃ p n cap, ∃ l : List Atom, v = .slice p n cap ∧ IsRow encA 3 W p n cap l := by
  obtain ⟨p, n, cap, l, rfl, h1, h2, h3⟩ := open_atoms ht hv h
  obtain ⟨h4, h5⟩ := slice_shape ht h
  exact ⟨p, n, cap, l, rfl, h1, h2, h4, h5, h3⟩
theorem open_rowN (ht : Tryz.prog.underlying t = some (.slice 3))
    (hv : Value.okWide Tryz.prog W .any base t v) (h : DataW.Trod enc Tryz.prog W 0 (fun _ => true) true t v d ps) :
    ∃ p n cap, ∃ l : List Int, v = .slice p n cap ∧ IsRow encN 1 W p n cap l := by
  obtain ⟨p, n, cap, l, rfl, h1, h2, h3⟩ := open_nums ht Tryz.underlying3 (by kernel_rfl) hv h
  obtain ⟨h4, h5⟩ := slice_shape ht h
  exact ⟨p, n, cap, l, rfl, h1, h2, h4, h5, h3⟩
end
end Go.Proofs.YtekhblomdlehhaaGreatDoor
