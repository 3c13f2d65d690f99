/- The statement DisplayBrackets (a tied card), out of its walk. No condition of its own. -/
import Derived.Test.YtdlbjngpohkglaaGreatDoorCards
import Derived.Test.YtdlbjngpohkglaaGreatDoorTie
import Derived.Test.YtdlbjngpohkglaaGreatDoorG38
import Derived.Test.YtdlbjngpohkglaaGreatDoorG20
import Derived.Test.YtdlbjngpohkglaaGreatDoorG17
import Derived.ProofKit
import Derived.OpenShut
import Derived.ShutString
import Derived.ChangeOld
import Derived.Below
import Derived.Deep.DeepHandedRow
import Derived.Lib.LaidTab
import Derived.LaidMore
set_option maxRecDepth 100000
set_option linter.unusedVariables false
set_option linter.unusedSimpArgs false
namespace Go.Proofs.YtdlbjngpohkglaaGreatDoor.displayBrackets
open Go.ChangeShapes Go.WideShapes Go.ChangeAt Go.RowKit
open Go.ChangeMaps (open_string shut_string)
theorem own : ownKnob Tryz.prog.godebug = none := by kernel_rfl
theorem laidOut : laidOutB Tryz.prog = true := by kernel_rfl
theorem laid_met (os : Os) : laidMet Tryz.prog Rows.displayBracketsRow.laid ((laidW os).forCall (fun _ _ => 0) ⟨#[], #[.agg #[.int .u8 0, .int .u8 0, .int .i64 0, .int .i64 0, .string .empty, .string .empty, .string .empty, .int .i64 0, .slice none 0 0, .slice none 0 0, .int .u8 0, .int .i64 0, .slice none 0 0, .slice none 0 0, .int .u8 0, .int .i64 0, .slice none 0 0, .slice none 0 0, .slice none 0 0]], []⟩).memory :=
  laidMet_of_run' 8 (by kernel_rfl) (by kernel_rfl)
theorem reads (os : Os) {H : Type} (enc : TypeId × Value → H) : ∃ places, DataW.whole enc Tryz.prog ((laidW os).forCall (fun _ _ => 0) ⟨#[], #[.agg #[.int .u8 0, .int .u8 0, .int .i64 0, .int .i64 0, .string .empty, .string .empty, .string .empty, .int .i64 0, .slice none 0 0, .slice none 0 0, .int .u8 0, .int .i64 0, .slice none 0 0, .slice none 0 0, .int .u8 0, .int .i64 0, .slice none 0 0, .slice none 0 0, .slice none 0 0]], []⟩).memory Tryz.f7.params.toList Rows.displayBracketsSpec.vars false (#[.agg #[.int .u8 0, .int .u8 0, .int .i64 0, .int .i64 0, .string .empty, .string .empty, .string .empty, .int .i64 0, .slice none 0 0, .slice none 0 0, .int .u8 0, .int .i64 0, .slice none 0 0, .slice none 0 0, .int .u8 0, .int .i64 0, .slice none 0 0, .slice none 0 0, .slice none 0 0]] : Array Value).toList 8 = some ([.agg [.agg [.lit (.int .u8 0), .lit (.int .u8 0), .lit (.int .i64 0), .lit (.int .i64 0), .lit (.string []), .lit (.string []), .lit (.string [])], .lit (.int .i64 0), .nil, .nil, .agg [.lit (.int .u8 0), .lit (.int .i64 0), .nil, .nil], .agg [.lit (.int .u8 0), .lit (.int .i64 0), .nil, .nil], .nil]], [], places) :=
  ⟨[], by kernel_rfl⟩
theorem plain (f : FuncId) (fn : Func) (hf : Tryz.pinned.checked.prog.funcNamed "enclave/enclavelaw14.DisplayBrackets" = some f) (hfn : Tryz.pinned.checked.prog.funcs[f]? = some fn) :
    false = Tryz.pinned.checked.prog.looks [] ∧ ∀ (j : Nat) t, fn.params[j]? = some t → Tryz.pinned.checked.prog.wantsStandIn t = false := by
  obtain rfl : f = 7 := Option.some.inj ((show Tryz.prog.funcNamed "enclave/enclavelaw14.DisplayBrackets" = some 7 by kernel_rfl).symm.trans hf) |>.symm
  obtain rfl : fn = Tryz.f7 := (Option.some.inj (Tryz.func7.symm.trans hfn)).symm
  refine ⟨by kernel_rfl, fun j t ht => ?_⟩
  rw [Tryz.params7] at ht
  have s0 : Tryz.prog.wantsStandIn 31 = false := by kernel_rfl
  have hm := Array.mem_of_getElem? ht
  simp only [List.mem_toArray, List.mem_cons, List.not_mem_nil, or_false] at hm
  rcases hm with rfl
  all_goals first | exact s0
end Go.Proofs.YtdlbjngpohkglaaGreatDoor.displayBrackets
