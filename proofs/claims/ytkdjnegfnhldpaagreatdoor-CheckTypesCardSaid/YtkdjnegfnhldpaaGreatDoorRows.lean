/-
  NARROWER THAN 'FOR EVERY INPUT', by the rows' own cells (each row's printed sentence says how): CheckLets: loops, laid · CheckOuter: loops, laid · CheckTypes: loops, laid · CheckWraps: loops, laid · CheckWider: loops, laid · CheckPairs: loops, laid · CheckIs: loops, laid.
  DERIVED. THE GIVEN ROWS OF THIS SEAT. 7 by the template 'for every input the law returns true; each argument reads behind the call as it read before'; 0 by the template 'total and deterministic' (their statements: YtkdjnegfnhldpaaGreatDoorTotals.lean).
  GIVEN WITH THE SEED: the statements are not yours to turn. If you find one false, say at which input.
  Laid BY PROGRAM, IN A SANDBOX (cutbox-rows.mjs): the forced cells as the released guide's own fill.sh prints them over the translation 19979c4b166078e0… (all of the seat's roots in one cut). By AI agents, Wed Nov 11 2026. No macro, syntax, notation, axiom, sorry.
-/
import Derived.Test.YtkdjnegfnhldpaaGreatDoorChecked
import GoSem.PinnedTables
import GoSem.Claim
import GoSem.ClaimJoined
import GoSem.ClaimMapViews
import Derived.JoinedTies
import Derived.KernelRfl
namespace Go.Proofs.YtkdjnegfnhldpaaGreatDoor
/- THE CELL 'sum', in the pinned program and in every row, IS THE sha256 OF THE DUMP (.gsa) THAT YtkdjnegfnhldpaaGreatDoorProg.lean LOADS. Nothing in Lean hashes anything: it is a label: what it is worth is what the hold of that sum in a sandbox is worth. -/
noncomputable def Tryz.pinned : Pinned := { name := "ytkdjnegfnhldpaagreatdoor", sum := "19979c4b166078e03bf114482e74a75fec08b4635e83fc2b152b2761c3482bda", checked := Tryz.checked }
namespace Rows
def none {H : Type} : Left H := { results := [], args := [] }

/- WHAT THE LISTED PACKAGE-LEVEL VARIABLES READ AS WHEN THE CALL BEGINS. Each datum BY PROGRAM (the guide's laid-datum.mjs) off the statement by which the dump's own 'gosem.cut.vars' lays the variable. In a bare row this is a premise. The card (YtkdjnegfnhldpaaGreatDoorCards.lean) ties it to the program's text. -/
def laid_unicode_utf8_acceptRanges {H : Type} : DataW H := .agg [.agg [.lit (.int .u8 128), .lit (.int .u8 191)], .agg [.lit (.int .u8 160), .lit (.int .u8 191)], .agg [.lit (.int .u8 128), .lit (.int .u8 159)], .agg [.lit (.int .u8 144), .lit (.int .u8 191)], .agg [.lit (.int .u8 128), .lit (.int .u8 143)], .agg [.lit (.int .u8 0), .lit (.int .u8 0)], .agg [.lit (.int .u8 0), .lit (.int .u8 0)], .agg [.lit (.int .u8 0), .lit (.int .u8 0)], .agg [.lit (.int .u8 0), .lit (.int .u8 0)], .agg [.lit (.int .u8 0), .lit (.int .u8 0)], .agg [.lit (.int .u8 0), .lit (.int .u8 0)], .agg [.lit (.int .u8 0), .lit (.int .u8 0)], .agg [.lit (.int .u8 0), .lit (.int .u8 0)], .agg [.lit (.int .u8 0), .lit (.int .u8 0)], .agg [.lit (.int .u8 0), .lit (.int .u8 0)], .agg [.lit (.int .u8 0), .lit (.int .u8 0)]]
/-- One of Go's own tables, pinned by name: the form's constant. -/
def laid_unicode_utf8_first : DataW Unit := Go.Pinned.utf8First

/-- 'enclavelaw15.CheckLets': WHATEVER THE INPUT: true; the input reads as it did. -/
def checkLetsSpec : ChangeSpec := { name := "checkLets", fn := fun _ => fun
  | [d] => { results := [.lit (.bool true)], args := [d] }
  | _ => none }
def checkLetsRow : OpenClaim := { program := "ytkdjnegfnhldpaagreatdoor", sum := "19979c4b166078e03bf114482e74a75fec08b4635e83fc2b152b2761c3482bda", func := "enclave/enclavelaw15.CheckLets", spec := "checkLets", inPlace := ["internal/bytealg.IndexByteString", "internal/bytealg.CountString", "internal/bytealg.IndexString"], unfollowed := true, recurses := true, named := ["unicode/utf8.first", "unicode/utf8.acceptRanges", "internal/bytealg.MaxLen"], loops := true, apart := false, laid := [("unicode/utf8.acceptRanges", laid_unicode_utf8_acceptRanges), ("unicode/utf8.first", laid_unicode_utf8_first)] }
def CheckLetsSaid : Prop := checkLetsRow.holds Tryz.pinned (OpenSpec.ofChange checkLetsSpec)

/-- ITS FALSE NEIGHBOUR: 'it returns false'. Refute it at one input. -/
def checkLetsWrong : ChangeSpec := { name := "checkLets", fn := fun _ => fun
  | [d] => { results := [.lit (.bool false)], args := [d] }
  | _ => none }
def CheckLetsWrongFalsely : Prop := checkLetsRow.holds Tryz.pinned (OpenSpec.ofChange checkLetsWrong)

/-- 'enclavelaw15.CheckOuter': WHATEVER THE INPUT: true; the input reads as it did. -/
def checkOuterSpec : ChangeSpec := { name := "checkOuter", fn := fun _ => fun
  | [d] => { results := [.lit (.bool true)], args := [d] }
  | _ => none }
def checkOuterRow : OpenClaim := { program := "ytkdjnegfnhldpaagreatdoor", sum := "19979c4b166078e03bf114482e74a75fec08b4635e83fc2b152b2761c3482bda", func := "enclave/enclavelaw15.CheckOuter", spec := "checkOuter", inPlace := ["internal/bytealg.IndexByteString", "internal/bytealg.CountString", "internal/bytealg.IndexString"], unfollowed := true, recurses := true, named := ["unicode/utf8.first", "unicode/utf8.acceptRanges", "internal/bytealg.MaxLen"], loops := true, apart := false, laid := [("unicode/utf8.acceptRanges", laid_unicode_utf8_acceptRanges), ("unicode/utf8.first", laid_unicode_utf8_first)] }
def CheckOuterSaid : Prop := checkOuterRow.holds Tryz.pinned (OpenSpec.ofChange checkOuterSpec)

/-- ITS FALSE NEIGHBOUR: 'it returns false'. Refute it at one input. -/
def checkOuterWrong : ChangeSpec := { name := "checkOuter", fn := fun _ => fun
  | [d] => { results := [.lit (.bool false)], args := [d] }
  | _ => none }
def CheckOuterWrongFalsely : Prop := checkOuterRow.holds Tryz.pinned (OpenSpec.ofChange checkOuterWrong)

/-- 'enclavelaw15.CheckTypes': WHATEVER THE INPUT: true; the input reads as it did. -/
def checkTypesSpec : ChangeSpec := { name := "checkTypes", fn := fun _ => fun
  | [d] => { results := [.lit (.bool true)], args := [d] }
  | _ => none }
def checkTypesRow : OpenClaim := { program := "ytkdjnegfnhldpaagreatdoor", sum := "19979c4b166078e03bf114482e74a75fec08b4635e83fc2b152b2761c3482bda", func := "enclave/enclavelaw15.CheckTypes", spec := "checkTypes", inPlace := ["internal/bytealg.IndexByteString", "internal/bytealg.CountString", "internal/bytealg.IndexString"], unfollowed := true, recurses := true, named := ["unicode/utf8.first", "unicode/utf8.acceptRanges", "internal/bytealg.MaxLen"], loops := true, apart := false, laid := [("unicode/utf8.acceptRanges", laid_unicode_utf8_acceptRanges), ("unicode/utf8.first", laid_unicode_utf8_first)] }
def CheckTypesSaid : Prop := checkTypesRow.holds Tryz.pinned (OpenSpec.ofChange checkTypesSpec)

/-- ITS FALSE NEIGHBOUR: 'it returns false'. Refute it at one input. -/
def checkTypesWrong : ChangeSpec := { name := "checkTypes", fn := fun _ => fun
  | [d] => { results := [.lit (.bool false)], args := [d] }
  | _ => none }
def CheckTypesWrongFalsely : Prop := checkTypesRow.holds Tryz.pinned (OpenSpec.ofChange checkTypesWrong)

/-- 'enclavelaw15.CheckWraps': WHATEVER THE INPUT: true; the input reads as it did. -/
def checkWrapsSpec : ChangeSpec := { name := "checkWraps", fn := fun _ => fun
  | [d1, d2] => { results := [.lit (.bool true)], args := [d1, d2] }
  | _ => none }
def checkWrapsRow : OpenClaim := { program := "ytkdjnegfnhldpaagreatdoor", sum := "19979c4b166078e03bf114482e74a75fec08b4635e83fc2b152b2761c3482bda", func := "enclave/enclavelaw15.CheckWraps", spec := "checkWraps", inPlace := ["internal/bytealg.IndexByteString", "internal/bytealg.CountString", "internal/bytealg.IndexString"], unfollowed := true, recurses := true, named := ["unicode/utf8.first", "unicode/utf8.acceptRanges", "internal/bytealg.MaxLen"], loops := true, apart := false, laid := [("unicode/utf8.acceptRanges", laid_unicode_utf8_acceptRanges), ("unicode/utf8.first", laid_unicode_utf8_first)] }
def CheckWrapsSaid : Prop := checkWrapsRow.holds Tryz.pinned (OpenSpec.ofChange checkWrapsSpec)

/-- ITS FALSE NEIGHBOUR: 'it returns false'. Refute it at one input. -/
def checkWrapsWrong : ChangeSpec := { name := "checkWraps", fn := fun _ => fun
  | [d1, d2] => { results := [.lit (.bool false)], args := [d1, d2] }
  | _ => none }
def CheckWrapsWrongFalsely : Prop := checkWrapsRow.holds Tryz.pinned (OpenSpec.ofChange checkWrapsWrong)

/-- 'enclavelaw15.CheckWider': WHATEVER THE INPUT: true; the input reads as it did. -/
def checkWiderSpec : ChangeSpec := { name := "checkWider", fn := fun _ => fun
  | [d1, d2] => { results := [.lit (.bool true)], args := [d1, d2] }
  | _ => none }
def checkWiderRow : OpenClaim := { program := "ytkdjnegfnhldpaagreatdoor", sum := "19979c4b166078e03bf114482e74a75fec08b4635e83fc2b152b2761c3482bda", func := "enclave/enclavelaw15.CheckWider", spec := "checkWider", inPlace := ["internal/bytealg.IndexByteString", "internal/bytealg.CountString", "internal/bytealg.IndexString"], unfollowed := true, recurses := true, named := ["unicode/utf8.first", "unicode/utf8.acceptRanges", "internal/bytealg.MaxLen"], loops := true, apart := false, laid := [("unicode/utf8.acceptRanges", laid_unicode_utf8_acceptRanges), ("unicode/utf8.first", laid_unicode_utf8_first)] }
def CheckWiderSaid : Prop := checkWiderRow.holds Tryz.pinned (OpenSpec.ofChange checkWiderSpec)

/-- ITS FALSE NEIGHBOUR: 'it returns false'. Refute it at one input. -/
def checkWiderWrong : ChangeSpec := { name := "checkWider", fn := fun _ => fun
  | [d1, d2] => { results := [.lit (.bool false)], args := [d1, d2] }
  | _ => none }
def CheckWiderWrongFalsely : Prop := checkWiderRow.holds Tryz.pinned (OpenSpec.ofChange checkWiderWrong)

/-- 'enclavelaw15.CheckPairs': WHATEVER THE INPUT: true; the input reads as it did. -/
def checkPairsSpec : ChangeSpec := { name := "checkPairs", fn := fun _ => fun
  | [d1, d2] => { results := [.lit (.bool true)], args := [d1, d2] }
  | _ => none }
def checkPairsRow : OpenClaim := { program := "ytkdjnegfnhldpaagreatdoor", sum := "19979c4b166078e03bf114482e74a75fec08b4635e83fc2b152b2761c3482bda", func := "enclave/enclavelaw15.CheckPairs", spec := "checkPairs", inPlace := ["internal/bytealg.IndexByteString", "internal/bytealg.CountString", "internal/bytealg.IndexString"], unfollowed := true, recurses := true, named := ["unicode/utf8.first", "unicode/utf8.acceptRanges", "internal/bytealg.MaxLen"], loops := true, apart := false, laid := [("unicode/utf8.acceptRanges", laid_unicode_utf8_acceptRanges), ("unicode/utf8.first", laid_unicode_utf8_first)] }
def CheckPairsSaid : Prop := checkPairsRow.holds Tryz.pinned (OpenSpec.ofChange checkPairsSpec)

/-- ITS FALSE NEIGHBOUR: 'it returns false'. Refute it at one input. -/
def checkPairsWrong : ChangeSpec := { name := "checkPairs", fn := fun _ => fun
  | [d1, d2] => { results := [.lit (.bool false)], args := [d1, d2] }
  | _ => none }
def CheckPairsWrongFalsely : Prop := checkPairsRow.holds Tryz.pinned (OpenSpec.ofChange checkPairsWrong)

/-- 'enclavelaw15.CheckIs': WHATEVER THE INPUT: true; the input reads as it did. -/
def checkIsSpec : ChangeSpec := { name := "checkIs", fn := fun _ => fun
  | [d] => { results := [.lit (.bool true)], args := [d] }
  | _ => none }
def checkIsRow : OpenClaim := { program := "ytkdjnegfnhldpaagreatdoor", sum := "19979c4b166078e03bf114482e74a75fec08b4635e83fc2b152b2761c3482bda", func := "enclave/enclavelaw15.CheckIs", spec := "checkIs", inPlace := ["internal/bytealg.IndexByteString", "internal/bytealg.CountString", "internal/bytealg.IndexString"], unfollowed := true, recurses := true, named := ["unicode/utf8.first", "unicode/utf8.acceptRanges", "internal/bytealg.MaxLen"], loops := true, apart := false, laid := [("unicode/utf8.acceptRanges", laid_unicode_utf8_acceptRanges), ("unicode/utf8.first", laid_unicode_utf8_first)] }
def CheckIsSaid : Prop := checkIsRow.holds Tryz.pinned (OpenSpec.ofChange checkIsSpec)

/-- ITS FALSE NEIGHBOUR: 'it returns false'. Refute it at one input. -/
def checkIsWrong : ChangeSpec := { name := "checkIs", fn := fun _ => fun
  | [d] => { results := [.lit (.bool false)], args := [d] }
  | _ => none }
def CheckIsWrongFalsely : Prop := checkIsRow.holds Tryz.pinned (OpenSpec.ofChange checkIsWrong)

/- THE SECOND FORM. 'bulk': how many values and letters a reading holds, each counted each time it is reached (what is shared counts as often as it is met; a slice's spare places count too). A statement '..UptoSaid' is the law's where the arguments, and the package variables that the reading takes, are together of bulk at most 1048576: NARROWER than '..Said'. Prove '..Said' where nothing that the law and all that it calls make is longer than what came in: it says more and counts as full. Else prove '..UptoSaid'. A law counts once. -/
mutual
def uptoBulk {H : Type} : DataW H → Nat
  | .lit (.string bytes) => bytes.length + 1
  | .lit _ => 1
  | .nil => 1
  | .ptr d => uptoBulk d + 1
  | .slice elems spare => uptoBulkAll elems + uptoBulkAll spare + 1
  | .agg parts => uptoBulkAll parts + 1
  | .iface _ d => uptoBulk d + 1
  | .map entries => uptoBulkEntries entries + 1
  | .held _ => 1
def uptoBulkAll {H : Type} : List (DataW H) → Nat
  | [] => 0
  | d :: r => uptoBulk d + uptoBulkAll r
def uptoBulkEntries {H : Type} : List (Lit × DataW H) → Nat
  | [] => 0
  | x :: r => uptoBulkEntry x + uptoBulkEntries r
def uptoBulkEntry {H : Type} : Lit × DataW H → Nat
  | (.string bytes, d) => bytes.length + uptoBulk d + 1
  | (_, d) => uptoBulk d + 1
 end
def uptoSmall : (H : Type) → List (DataW H) → Bool := fun _ ds => decide (uptoBulkAll ds ≤ 1048576)
def OpenSpec.upto (s : _root_.Go.ChangeSpec) : _root_.Go.OpenSpec := { _root_.Go.OpenSpec.ofChange s with cond := some uptoSmall }

/-- 'enclavelaw15.CheckLets', WHERE WHAT IT READS IS OF BULK AT MOST 1048576: true; the input reads as it did. -/
def checkLetsUptoRow : OpenClaim := { program := "ytkdjnegfnhldpaagreatdoor", sum := "19979c4b166078e03bf114482e74a75fec08b4635e83fc2b152b2761c3482bda", func := "enclave/enclavelaw15.CheckLets", spec := "checkLets", inPlace := ["internal/bytealg.IndexByteString", "internal/bytealg.CountString", "internal/bytealg.IndexString"], unfollowed := true, recurses := true, named := ["unicode/utf8.first", "unicode/utf8.acceptRanges", "internal/bytealg.MaxLen"], loops := true, apart := false, laid := [("unicode/utf8.acceptRanges", laid_unicode_utf8_acceptRanges), ("unicode/utf8.first", laid_unicode_utf8_first)], narrowed := true }
def CheckLetsUptoSaid : Prop := checkLetsUptoRow.holds Tryz.pinned (OpenSpec.upto checkLetsSpec)

/-- 'enclavelaw15.CheckOuter', WHERE WHAT IT READS IS OF BULK AT MOST 1048576: true; the input reads as it did. -/
def checkOuterUptoRow : OpenClaim := { program := "ytkdjnegfnhldpaagreatdoor", sum := "19979c4b166078e03bf114482e74a75fec08b4635e83fc2b152b2761c3482bda", func := "enclave/enclavelaw15.CheckOuter", spec := "checkOuter", inPlace := ["internal/bytealg.IndexByteString", "internal/bytealg.CountString", "internal/bytealg.IndexString"], unfollowed := true, recurses := true, named := ["unicode/utf8.first", "unicode/utf8.acceptRanges", "internal/bytealg.MaxLen"], loops := true, apart := false, laid := [("unicode/utf8.acceptRanges", laid_unicode_utf8_acceptRanges), ("unicode/utf8.first", laid_unicode_utf8_first)], narrowed := true }
def CheckOuterUptoSaid : Prop := checkOuterUptoRow.holds Tryz.pinned (OpenSpec.upto checkOuterSpec)

/-- 'enclavelaw15.CheckTypes', WHERE WHAT IT READS IS OF BULK AT MOST 1048576: true; the input reads as it did. -/
def checkTypesUptoRow : OpenClaim := { program := "ytkdjnegfnhldpaagreatdoor", sum := "19979c4b166078e03bf114482e74a75fec08b4635e83fc2b152b2761c3482bda", func := "enclave/enclavelaw15.CheckTypes", spec := "checkTypes", inPlace := ["internal/bytealg.IndexByteString", "internal/bytealg.CountString", "internal/bytealg.IndexString"], unfollowed := true, recurses := true, named := ["unicode/utf8.first", "unicode/utf8.acceptRanges", "internal/bytealg.MaxLen"], loops := true, apart := false, laid := [("unicode/utf8.acceptRanges", laid_unicode_utf8_acceptRanges), ("unicode/utf8.first", laid_unicode_utf8_first)], narrowed := true }
def CheckTypesUptoSaid : Prop := checkTypesUptoRow.holds Tryz.pinned (OpenSpec.upto checkTypesSpec)

/-- 'enclavelaw15.CheckWraps', WHERE WHAT IT READS IS OF BULK AT MOST 1048576: true; the input reads as it did. -/
def checkWrapsUptoRow : OpenClaim := { program := "ytkdjnegfnhldpaagreatdoor", sum := "19979c4b166078e03bf114482e74a75fec08b4635e83fc2b152b2761c3482bda", func := "enclave/enclavelaw15.CheckWraps", spec := "checkWraps", inPlace := ["internal/bytealg.IndexByteString", "internal/bytealg.CountString", "internal/bytealg.IndexString"], unfollowed := true, recurses := true, named := ["unicode/utf8.first", "unicode/utf8.acceptRanges", "internal/bytealg.MaxLen"], loops := true, apart := false, laid := [("unicode/utf8.acceptRanges", laid_unicode_utf8_acceptRanges), ("unicode/utf8.first", laid_unicode_utf8_first)], narrowed := true }
def CheckWrapsUptoSaid : Prop := checkWrapsUptoRow.holds Tryz.pinned (OpenSpec.upto checkWrapsSpec)

/-- 'enclavelaw15.CheckWider', WHERE WHAT IT READS IS OF BULK AT MOST 1048576: true; the input reads as it did. -/
def checkWiderUptoRow : OpenClaim := { program := "ytkdjnegfnhldpaagreatdoor", sum := "19979c4b166078e03bf114482e74a75fec08b4635e83fc2b152b2761c3482bda", func := "enclave/enclavelaw15.CheckWider", spec := "checkWider", inPlace := ["internal/bytealg.IndexByteString", "internal/bytealg.CountString", "internal/bytealg.IndexString"], unfollowed := true, recurses := true, named := ["unicode/utf8.first", "unicode/utf8.acceptRanges", "internal/bytealg.MaxLen"], loops := true, apart := false, laid := [("unicode/utf8.acceptRanges", laid_unicode_utf8_acceptRanges), ("unicode/utf8.first", laid_unicode_utf8_first)], narrowed := true }
def CheckWiderUptoSaid : Prop := checkWiderUptoRow.holds Tryz.pinned (OpenSpec.upto checkWiderSpec)

/-- 'enclavelaw15.CheckPairs', WHERE WHAT IT READS IS OF BULK AT MOST 1048576: true; the input reads as it did. -/
def checkPairsUptoRow : OpenClaim := { program := "ytkdjnegfnhldpaagreatdoor", sum := "19979c4b166078e03bf114482e74a75fec08b4635e83fc2b152b2761c3482bda", func := "enclave/enclavelaw15.CheckPairs", spec := "checkPairs", inPlace := ["internal/bytealg.IndexByteString", "internal/bytealg.CountString", "internal/bytealg.IndexString"], unfollowed := true, recurses := true, named := ["unicode/utf8.first", "unicode/utf8.acceptRanges", "internal/bytealg.MaxLen"], loops := true, apart := false, laid := [("unicode/utf8.acceptRanges", laid_unicode_utf8_acceptRanges), ("unicode/utf8.first", laid_unicode_utf8_first)], narrowed := true }
def CheckPairsUptoSaid : Prop := checkPairsUptoRow.holds Tryz.pinned (OpenSpec.upto checkPairsSpec)

/-- 'enclavelaw15.CheckIs', WHERE WHAT IT READS IS OF BULK AT MOST 1048576: true; the input reads as it did. -/
def checkIsUptoRow : OpenClaim := { program := "ytkdjnegfnhldpaagreatdoor", sum := "19979c4b166078e03bf114482e74a75fec08b4635e83fc2b152b2761c3482bda", func := "enclave/enclavelaw15.CheckIs", spec := "checkIs", inPlace := ["internal/bytealg.IndexByteString", "internal/bytealg.CountString", "internal/bytealg.IndexString"], unfollowed := true, recurses := true, named := ["unicode/utf8.first", "unicode/utf8.acceptRanges", "internal/bytealg.MaxLen"], loops := true, apart := false, laid := [("unicode/utf8.acceptRanges", laid_unicode_utf8_acceptRanges), ("unicode/utf8.first", laid_unicode_utf8_first)], narrowed := true }
def CheckIsUptoSaid : Prop := checkIsUptoRow.holds Tryz.pinned (OpenSpec.upto checkIsSpec)

end Rows
end Go.Proofs.YtkdjnegfnhldpaaGreatDoor
