/- Part 39: LaidK. -/
import Derived.Test.YtkdjnegfnhldpaaGreatDoorCards
import Derived.Test.YtkdjnegfnhldpaaGreatDoorTie
import Derived.LaidMore
import Derived.ProofKit
import Derived.Deep.DeepHandedRow
set_option linter.unusedVariables false
set_option maxRecDepth 100000
set_option linter.unusedSimpArgs false
namespace Go.Proofs.YtkdjnegfnhldpaaGreatDoor
section
open Go.RowKit
def litV1 : DataW Unit → List Value
  | .lit (.int k z) => [.int k z]
  | _ => []
def litV2 : DataW Unit → List Value
  | .agg l => l.flatMap litV1
  | d => litV1 d
def litV3 : DataW Unit → List Value
  | .agg l => l.flatMap litV2
  | _ => []
def putW (h : Array Obj) (g : Nat) (cs : Array Value) : Array Obj := h.modify g fun
  | .cells _ t frozen => .cells cs t frozen
  | o => o
noncomputable def laidW (os : Os) : World :=
  { World.holding Tryz.prog os ⟨#[], #[], []⟩ with heap := putW (putW (World.holding Tryz.prog os ⟨#[], #[], []⟩).heap 1 (litV3 Rows.laid_unicode_utf8_first).toArray) 2 (litV3 Rows.laid_unicode_utf8_acceptRanges).toArray }
end
end Go.Proofs.YtkdjnegfnhldpaaGreatDoor
