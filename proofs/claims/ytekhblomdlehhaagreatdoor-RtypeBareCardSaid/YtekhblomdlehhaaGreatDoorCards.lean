/-
  DERIVED. GIVEN WITH THE SEED: THE CARDS: each row of YtekhblomdlehhaaGreatDoorRows.lean that lists a variable, with what it lists TIED to the program's text (the seventh form; the later family's looks); each row that meets fmt, with fmt's text TOLD by the authors' own Lean function (tested against real Go, not proved from fmt's source: count such statements apart). THE CARD IS WHAT COUNTS. Prove the row's statement (the work); the ties are given (YtekhblomdlehhaaGreatDoorTie.lean); close each card by the builder's one call (the guide's Derived/Test/ToyasCard.lean, 'card_holds'). Laid BY PROGRAM, IN A SANDBOX (cutbox-door.mjs). By AI agents, Wed Nov 11 2026. No macro, syntax, notation, axiom, sorry.
-/
import Derived.Test.YtekhblomdlehhaaGreatDoorRows
import GoSem.ClaimSeven
namespace Go.Proofs.YtekhblomdlehhaaGreatDoor
namespace Rows

/-- THE TIED CARD OF 'enclavelaw11.EffectJoins'. -/
def effectJoinsCard : Claim7 := { stood := { row := effectJoinsRow, standIns := [], harness := (true, "1bf8febc13098ce8f67d8fbf6b16893e388af488f60abf361ea91930f65ba543"), looks := false }, kinds := [], alts := [], laidByText := true, laidKinds := [.data, .data, .data], laidTests := true, laidLooks := .later }
def EffectJoinsCardSaid : Prop := Claim7.holds Tryz.pinned (.plain (OpenSpec.ofChange effectJoinsSpec)) effectJoinsCard

/-- THE TIED CARD OF 'enclavelaw11.EffectDrops'. -/
def effectDropsCard : Claim7 := { stood := { row := effectDropsRow, standIns := [], harness := (true, "1bf8febc13098ce8f67d8fbf6b16893e388af488f60abf361ea91930f65ba543"), looks := false }, kinds := [], alts := [], laidByText := true, laidKinds := [.data, .data, .data], laidTests := true, laidLooks := .later }
def EffectDropsCardSaid : Prop := Claim7.holds Tryz.pinned (.plain (OpenSpec.ofChange effectDropsSpec)) effectDropsCard

/-- THE TIED CARD OF 'enclavelaw12.RtypeParts'. -/
def rtypePartsCard : Claim7 := { stood := { row := rtypePartsRow, standIns := [], harness := (true, "1bf8febc13098ce8f67d8fbf6b16893e388af488f60abf361ea91930f65ba543"), looks := false }, kinds := [], alts := [], laidByText := true, laidKinds := [.data, .data, .data], laidTests := true, laidLooks := .later }
def RtypePartsCardSaid : Prop := Claim7.holds Tryz.pinned (.plain (OpenSpec.ofChange rtypePartsSpec)) rtypePartsCard

/-- THE TIED CARD OF 'enclavelaw12.RtypeIs'. -/
def rtypeIsCard : Claim7 := { stood := { row := rtypeIsRow, standIns := [], harness := (true, "1bf8febc13098ce8f67d8fbf6b16893e388af488f60abf361ea91930f65ba543"), looks := false }, kinds := [], alts := [], laidByText := true, laidKinds := [.data, .data, .data], laidTests := true, laidLooks := .later }
def RtypeIsCardSaid : Prop := Claim7.holds Tryz.pinned (.plain (OpenSpec.ofChange rtypeIsSpec)) rtypeIsCard

/-- THE TIED CARD OF 'enclavelaw12.RtypeSame'. -/
def rtypeSameCard : Claim7 := { stood := { row := rtypeSameRow, standIns := [], harness := (true, "1bf8febc13098ce8f67d8fbf6b16893e388af488f60abf361ea91930f65ba543"), looks := false }, kinds := [], alts := [], laidByText := true, laidKinds := [.data, .data, .data], laidTests := true, laidLooks := .later }
def RtypeSameCardSaid : Prop := Claim7.holds Tryz.pinned (.plain (OpenSpec.ofChange rtypeSameSpec)) rtypeSameCard

/-- THE TIED CARD OF 'enclavelaw12.RtypeBare'. -/
def rtypeBareCard : Claim7 := { stood := { row := rtypeBareRow, standIns := [], harness := (true, "1bf8febc13098ce8f67d8fbf6b16893e388af488f60abf361ea91930f65ba543"), looks := false }, kinds := [], alts := [], laidByText := true, laidKinds := [.data, .data, .data], laidTests := true, laidLooks := .later }
def RtypeBareCardSaid : Prop := Claim7.holds Tryz.pinned (.plain (OpenSpec.ofChange rtypeBareSpec)) rtypeBareCard

/-- THE SECOND FORM's CARD OF 'enclavelaw11.EffectJoins'. -/
def effectJoinsUptoCard : Claim7 := { stood := { row := effectJoinsUptoRow, standIns := [], harness := (true, "1bf8febc13098ce8f67d8fbf6b16893e388af488f60abf361ea91930f65ba543"), looks := false }, kinds := [], alts := [], laidByText := true, laidKinds := [.data, .data, .data], laidTests := true, laidLooks := .later }
def EffectJoinsUptoCardSaid : Prop := Claim7.holds Tryz.pinned (.plain (OpenSpec.upto effectJoinsSpec)) effectJoinsUptoCard

/-- THE SECOND FORM's CARD OF 'enclavelaw11.EffectDrops'. -/
def effectDropsUptoCard : Claim7 := { stood := { row := effectDropsUptoRow, standIns := [], harness := (true, "1bf8febc13098ce8f67d8fbf6b16893e388af488f60abf361ea91930f65ba543"), looks := false }, kinds := [], alts := [], laidByText := true, laidKinds := [.data, .data, .data], laidTests := true, laidLooks := .later }
def EffectDropsUptoCardSaid : Prop := Claim7.holds Tryz.pinned (.plain (OpenSpec.upto effectDropsSpec)) effectDropsUptoCard

/-- THE SECOND FORM's CARD OF 'enclavelaw12.RtypeParts'. -/
def rtypePartsUptoCard : Claim7 := { stood := { row := rtypePartsUptoRow, standIns := [], harness := (true, "1bf8febc13098ce8f67d8fbf6b16893e388af488f60abf361ea91930f65ba543"), looks := false }, kinds := [], alts := [], laidByText := true, laidKinds := [.data, .data, .data], laidTests := true, laidLooks := .later }
def RtypePartsUptoCardSaid : Prop := Claim7.holds Tryz.pinned (.plain (OpenSpec.upto rtypePartsSpec)) rtypePartsUptoCard

/-- THE SECOND FORM's CARD OF 'enclavelaw12.RtypeIs'. -/
def rtypeIsUptoCard : Claim7 := { stood := { row := rtypeIsUptoRow, standIns := [], harness := (true, "1bf8febc13098ce8f67d8fbf6b16893e388af488f60abf361ea91930f65ba543"), looks := false }, kinds := [], alts := [], laidByText := true, laidKinds := [.data, .data, .data], laidTests := true, laidLooks := .later }
def RtypeIsUptoCardSaid : Prop := Claim7.holds Tryz.pinned (.plain (OpenSpec.upto rtypeIsSpec)) rtypeIsUptoCard

/-- THE SECOND FORM's CARD OF 'enclavelaw12.RtypeSame'. -/
def rtypeSameUptoCard : Claim7 := { stood := { row := rtypeSameUptoRow, standIns := [], harness := (true, "1bf8febc13098ce8f67d8fbf6b16893e388af488f60abf361ea91930f65ba543"), looks := false }, kinds := [], alts := [], laidByText := true, laidKinds := [.data, .data, .data], laidTests := true, laidLooks := .later }
def RtypeSameUptoCardSaid : Prop := Claim7.holds Tryz.pinned (.plain (OpenSpec.upto rtypeSameSpec)) rtypeSameUptoCard

/-- THE SECOND FORM's CARD OF 'enclavelaw12.RtypeBare'. -/
def rtypeBareUptoCard : Claim7 := { stood := { row := rtypeBareUptoRow, standIns := [], harness := (true, "1bf8febc13098ce8f67d8fbf6b16893e388af488f60abf361ea91930f65ba543"), looks := false }, kinds := [], alts := [], laidByText := true, laidKinds := [.data, .data, .data], laidTests := true, laidLooks := .later }
def RtypeBareUptoCardSaid : Prop := Claim7.holds Tryz.pinned (.plain (OpenSpec.upto rtypeBareSpec)) rtypeBareUptoCard
end Rows
end Go.Proofs.YtekhblomdlehhaaGreatDoor
