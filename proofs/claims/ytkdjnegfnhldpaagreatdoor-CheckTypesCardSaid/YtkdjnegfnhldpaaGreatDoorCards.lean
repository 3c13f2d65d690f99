/-
  DERIVED. GIVEN WITH THE SEED: THE CARDS: each row of YtkdjnegfnhldpaaGreatDoorRows.lean that lists a variable, with what it lists TIED to the program's text (the seventh form; the later family's looks); each row that meets fmt, with fmt's text TOLD by the authors' own Lean function (tested against real Go, not proved from fmt's source: count such statements apart). THE CARD IS WHAT COUNTS. Prove the row's statement (the work); the ties are given (YtkdjnegfnhldpaaGreatDoorTie.lean); close each card by the builder's one call (the guide's Derived/Test/ToyasCard.lean, 'card_holds'). Laid BY PROGRAM, IN A SANDBOX (cutbox-door.mjs). By AI agents, Wed Nov 11 2026. No macro, syntax, notation, axiom, sorry.
-/
import Derived.Test.YtkdjnegfnhldpaaGreatDoorRows
import GoSem.ClaimSeven
namespace Go.Proofs.YtkdjnegfnhldpaaGreatDoor
namespace Rows

/-- THE TIED CARD OF 'enclavelaw15.CheckLets'. -/
def checkLetsCard : Claim7 := { stood := { row := checkLetsRow, standIns := [], harness := (true, "607574ea26fc470d3da1bb77a2d3618828d0234b455689f63a018215adb33c7d"), looks := true }, kinds := [], alts := [], laidByText := true, laidKinds := [.data, .pinned], laidTests := true, laidLooks := .later }
def CheckLetsCardSaid : Prop := Claim7.holds Tryz.pinned (.plain (OpenSpec.ofChange checkLetsSpec)) checkLetsCard

/-- THE TIED CARD OF 'enclavelaw15.CheckOuter'. -/
def checkOuterCard : Claim7 := { stood := { row := checkOuterRow, standIns := [], harness := (true, "607574ea26fc470d3da1bb77a2d3618828d0234b455689f63a018215adb33c7d"), looks := true }, kinds := [], alts := [], laidByText := true, laidKinds := [.data, .pinned], laidTests := true, laidLooks := .later }
def CheckOuterCardSaid : Prop := Claim7.holds Tryz.pinned (.plain (OpenSpec.ofChange checkOuterSpec)) checkOuterCard

/-- THE TIED CARD OF 'enclavelaw15.CheckTypes'. -/
def checkTypesCard : Claim7 := { stood := { row := checkTypesRow, standIns := [], harness := (true, "607574ea26fc470d3da1bb77a2d3618828d0234b455689f63a018215adb33c7d"), looks := true }, kinds := [], alts := [], laidByText := true, laidKinds := [.data, .pinned], laidTests := true, laidLooks := .later }
def CheckTypesCardSaid : Prop := Claim7.holds Tryz.pinned (.plain (OpenSpec.ofChange checkTypesSpec)) checkTypesCard

/-- THE TIED CARD OF 'enclavelaw15.CheckWraps'. -/
def checkWrapsCard : Claim7 := { stood := { row := checkWrapsRow, standIns := [], harness := (true, "607574ea26fc470d3da1bb77a2d3618828d0234b455689f63a018215adb33c7d"), looks := true }, kinds := [], alts := [], laidByText := true, laidKinds := [.data, .pinned], laidTests := true, laidLooks := .later }
def CheckWrapsCardSaid : Prop := Claim7.holds Tryz.pinned (.plain (OpenSpec.ofChange checkWrapsSpec)) checkWrapsCard

/-- THE TIED CARD OF 'enclavelaw15.CheckWider'. -/
def checkWiderCard : Claim7 := { stood := { row := checkWiderRow, standIns := [], harness := (true, "607574ea26fc470d3da1bb77a2d3618828d0234b455689f63a018215adb33c7d"), looks := true }, kinds := [], alts := [], laidByText := true, laidKinds := [.data, .pinned], laidTests := true, laidLooks := .later }
def CheckWiderCardSaid : Prop := Claim7.holds Tryz.pinned (.plain (OpenSpec.ofChange checkWiderSpec)) checkWiderCard

/-- THE TIED CARD OF 'enclavelaw15.CheckPairs'. -/
def checkPairsCard : Claim7 := { stood := { row := checkPairsRow, standIns := [], harness := (true, "607574ea26fc470d3da1bb77a2d3618828d0234b455689f63a018215adb33c7d"), looks := true }, kinds := [], alts := [], laidByText := true, laidKinds := [.data, .pinned], laidTests := true, laidLooks := .later }
def CheckPairsCardSaid : Prop := Claim7.holds Tryz.pinned (.plain (OpenSpec.ofChange checkPairsSpec)) checkPairsCard

/-- THE TIED CARD OF 'enclavelaw15.CheckIs'. -/
def checkIsCard : Claim7 := { stood := { row := checkIsRow, standIns := [], harness := (true, "607574ea26fc470d3da1bb77a2d3618828d0234b455689f63a018215adb33c7d"), looks := true }, kinds := [], alts := [], laidByText := true, laidKinds := [.data, .pinned], laidTests := true, laidLooks := .later }
def CheckIsCardSaid : Prop := Claim7.holds Tryz.pinned (.plain (OpenSpec.ofChange checkIsSpec)) checkIsCard

/-- THE SECOND FORM's CARD OF 'enclavelaw15.CheckLets'. -/
def checkLetsUptoCard : Claim7 := { stood := { row := checkLetsUptoRow, standIns := [], harness := (true, "607574ea26fc470d3da1bb77a2d3618828d0234b455689f63a018215adb33c7d"), looks := true }, kinds := [], alts := [], laidByText := true, laidKinds := [.data, .pinned], laidTests := true, laidLooks := .later }
def CheckLetsUptoCardSaid : Prop := Claim7.holds Tryz.pinned (.plain (OpenSpec.upto checkLetsSpec)) checkLetsUptoCard

/-- THE SECOND FORM's CARD OF 'enclavelaw15.CheckOuter'. -/
def checkOuterUptoCard : Claim7 := { stood := { row := checkOuterUptoRow, standIns := [], harness := (true, "607574ea26fc470d3da1bb77a2d3618828d0234b455689f63a018215adb33c7d"), looks := true }, kinds := [], alts := [], laidByText := true, laidKinds := [.data, .pinned], laidTests := true, laidLooks := .later }
def CheckOuterUptoCardSaid : Prop := Claim7.holds Tryz.pinned (.plain (OpenSpec.upto checkOuterSpec)) checkOuterUptoCard

/-- THE SECOND FORM's CARD OF 'enclavelaw15.CheckTypes'. -/
def checkTypesUptoCard : Claim7 := { stood := { row := checkTypesUptoRow, standIns := [], harness := (true, "607574ea26fc470d3da1bb77a2d3618828d0234b455689f63a018215adb33c7d"), looks := true }, kinds := [], alts := [], laidByText := true, laidKinds := [.data, .pinned], laidTests := true, laidLooks := .later }
def CheckTypesUptoCardSaid : Prop := Claim7.holds Tryz.pinned (.plain (OpenSpec.upto checkTypesSpec)) checkTypesUptoCard

/-- THE SECOND FORM's CARD OF 'enclavelaw15.CheckWraps'. -/
def checkWrapsUptoCard : Claim7 := { stood := { row := checkWrapsUptoRow, standIns := [], harness := (true, "607574ea26fc470d3da1bb77a2d3618828d0234b455689f63a018215adb33c7d"), looks := true }, kinds := [], alts := [], laidByText := true, laidKinds := [.data, .pinned], laidTests := true, laidLooks := .later }
def CheckWrapsUptoCardSaid : Prop := Claim7.holds Tryz.pinned (.plain (OpenSpec.upto checkWrapsSpec)) checkWrapsUptoCard

/-- THE SECOND FORM's CARD OF 'enclavelaw15.CheckWider'. -/
def checkWiderUptoCard : Claim7 := { stood := { row := checkWiderUptoRow, standIns := [], harness := (true, "607574ea26fc470d3da1bb77a2d3618828d0234b455689f63a018215adb33c7d"), looks := true }, kinds := [], alts := [], laidByText := true, laidKinds := [.data, .pinned], laidTests := true, laidLooks := .later }
def CheckWiderUptoCardSaid : Prop := Claim7.holds Tryz.pinned (.plain (OpenSpec.upto checkWiderSpec)) checkWiderUptoCard

/-- THE SECOND FORM's CARD OF 'enclavelaw15.CheckPairs'. -/
def checkPairsUptoCard : Claim7 := { stood := { row := checkPairsUptoRow, standIns := [], harness := (true, "607574ea26fc470d3da1bb77a2d3618828d0234b455689f63a018215adb33c7d"), looks := true }, kinds := [], alts := [], laidByText := true, laidKinds := [.data, .pinned], laidTests := true, laidLooks := .later }
def CheckPairsUptoCardSaid : Prop := Claim7.holds Tryz.pinned (.plain (OpenSpec.upto checkPairsSpec)) checkPairsUptoCard

/-- THE SECOND FORM's CARD OF 'enclavelaw15.CheckIs'. -/
def checkIsUptoCard : Claim7 := { stood := { row := checkIsUptoRow, standIns := [], harness := (true, "607574ea26fc470d3da1bb77a2d3618828d0234b455689f63a018215adb33c7d"), looks := true }, kinds := [], alts := [], laidByText := true, laidKinds := [.data, .pinned], laidTests := true, laidLooks := .later }
def CheckIsUptoCardSaid : Prop := Claim7.holds Tryz.pinned (.plain (OpenSpec.upto checkIsSpec)) checkIsUptoCard
end Rows
end Go.Proofs.YtkdjnegfnhldpaaGreatDoor
