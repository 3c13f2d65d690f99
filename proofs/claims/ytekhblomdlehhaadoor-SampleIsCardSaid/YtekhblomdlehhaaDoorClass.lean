/- Regions that draw their order and hold calls that lay blocks of their own: one walk in the order of the text, over the class of all worlds in which what lay lies. -/
import Derived.Test.YtekhblomdlehhaaDoorMem
import Derived.Deep.QuietTactic
set_option linter.unusedVariables false
set_option maxRecDepth 100000
set_option linter.unusedSimpArgs false
namespace Go.Proofs.YtekhblomdlehhaaDoor
open Go.RowKit

/-- w with some draws and some new blocks -/
structure Later where
  drawn : Nat
  blocks : Array Obj
deriving Inhabited
def gw (w : World) (g : Later) : World := { w with heap := w.heap ++ g.blocks, drawn := g.drawn }

theorem gw_below (w : World) (g : Later) : Below w.heap.size w (gw w g) := by
  refine ⟨rfl, rfl, rfl, by simp [gw], fun k hk => ?_⟩
  simp [gw, Array.getElem?_append_left hk]

theorem below_gw {w w' : World} (h : Below w.heap.size w w') : ∃ g, w' = gw w g := by
  refine ⟨⟨w'.drawn, w'.heap.extract w.heap.size w'.heap.size⟩, ?_⟩
  obtain ⟨heap, tape, drawn, os, output⟩ := w
  obtain ⟨heap', tape', drawn', os', output'⟩ := w'
  obtain ⟨h1, h2, h3, h4, h5⟩ := h
  simp only at h1 h2 h3 h4 h5
  subst h1; subst h2; subst h3
  simp only [gw, World.mk.injEq, true_and, and_true]
  apply Array.ext_getElem?
  intro i
  rcases Nat.lt_or_ge i heap.size with hi | hi
  · rw [Array.getElem?_append_left hi]; exact h5 i hi
  · rw [Array.getElem?_append_right hi, Array.getElem?_extract]
    simp only [Nat.add_sub_cancel' hi]
    split
    · rfl
    · rw [Array.getElem?_eq_none (by omega)]

theorem gw_cell {w : World} {a : Addr} {v : Value} (h : w.cell? a = some v) (g : Later) : (gw w g).cell? a = some v := by
  rw [(gw_below w g).cell (cell_block h)]; exact h

/-- a callee's contract, in the class -/
theorem calls_gw {P : Program} {f : FuncId} {args : Array Value} {w : World} {g : Later} {v : Value}
    (h : Calls P f args (gw w g) fun e w' => e = .returned v ∧ Below (gw w g).heap.size (gw w g) w') : Calls P f args (gw w g) fun e w' => e = .returned v ∧ ∃ g', w' = gw w g' :=
  h.mono fun _ _ ⟨he, hb⟩ => ⟨he, below_gw ((gw_below w g).trans (hb.mono (gw_below w g).size))⟩

theorem wp_region_gw {P : Program} {id : Nat} {Q : Exit → Act → World → Prop} {a : Act} {w : World} {l : List Oper} (hm : P.follows .mixedOrders = true) (hB : Region.lexB .any l.toArray = true)
    (h : wpQuiet P l.toArray (fun w' => ∃ g, w' = gw w g) (fun a' => ∀ w', (∃ g, w' = gw w g) → Q .normal a' w') l a) : (Code.region id l.toArray true).wp P Q a w :=
  wp_region_quiet (C := fun w' => ∃ g, w' = gw w g) hm hB ⟨⟨w.drawn + 1, #[]⟩, by simp [gw]⟩ (by simpa using h)
end Go.Proofs.YtekhblomdlehhaaDoor
