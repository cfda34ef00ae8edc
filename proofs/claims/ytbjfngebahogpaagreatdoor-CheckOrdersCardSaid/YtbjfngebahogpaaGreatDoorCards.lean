/-
  DERIVED. GIVEN WITH THE SEED: THE CARDS: each row of YtbjfngebahogpaaGreatDoorRows.lean that lists a variable, with what it lists TIED to the program's text (the seventh form; the later family's looks); each row that meets fmt, with fmt's text TOLD by the authors' own Lean function (tested against real Go, not proved from fmt's source: count such statements apart). THE CARD IS WHAT COUNTS. Prove the row's statement (the work); the ties are given (YtbjfngebahogpaaGreatDoorTie.lean); close each card by the builder's one call (the guide's Derived/Test/ToyasCard.lean, 'card_holds'). Laid BY PROGRAM, IN A SANDBOX (cutbox-door.mjs). By AI agents, Wed Nov 11 2026. No macro, syntax, notation, axiom, sorry.
-/
import Derived.Test.YtbjfngebahogpaaGreatDoorRows
import GoSem.ClaimSeven
namespace Go.Proofs.YtbjfngebahogpaaGreatDoor
namespace Rows

/-- THE TIED CARD OF 'casuistlaw26.CheckOrders'. -/
def checkOrdersCard : Claim7 := { stood := { row := checkOrdersRow, standIns := [], harness := (true, "81173c508aa2188bb1d196a135237577c98aadcdab9875869032f36654000b0b"), looks := true }, kinds := [], alts := [], laidByText := true, laidKinds := [.data, .data, .data, .data, .sentinel, .sentinel, .pinned], laidTests := true, laidLooks := .later }
def CheckOrdersCardSaid : Prop := Claim7.holds Tryz.pinned (.plain (OpenSpec.ofChange checkOrdersSpec)) checkOrdersCard

/-- THE TIED CARD OF 'casuistlaw26.CheckLoose'. -/
def checkLooseCard : Claim7 := { stood := { row := checkLooseRow, standIns := [], harness := (true, "81173c508aa2188bb1d196a135237577c98aadcdab9875869032f36654000b0b"), looks := true }, kinds := [], alts := [], laidByText := true, laidKinds := [.data, .data, .data, .data, .sentinel, .sentinel, .pinned], laidTests := true, laidLooks := .later }
def CheckLooseCardSaid : Prop := Claim7.holds Tryz.pinned (.plain (OpenSpec.ofChange checkLooseSpec)) checkLooseCard

/-- THE TIED CARD OF 'casuistlaw26.CheckRules'. -/
def checkRulesCard : Claim7 := { stood := { row := checkRulesRow, standIns := [], harness := (true, "81173c508aa2188bb1d196a135237577c98aadcdab9875869032f36654000b0b"), looks := true }, kinds := [], alts := [], laidByText := true, laidKinds := [.data, .data, .data, .data, .sentinel, .sentinel, .pinned], laidTests := true, laidLooks := .later }
def CheckRulesCardSaid : Prop := Claim7.holds Tryz.pinned (.plain (OpenSpec.ofChange checkRulesSpec)) checkRulesCard

/-- THE TIED CARD OF 'casuistlaw26.CheckNames'. -/
def checkNamesCard : Claim7 := { stood := { row := checkNamesRow, standIns := [], harness := (true, "81173c508aa2188bb1d196a135237577c98aadcdab9875869032f36654000b0b"), looks := true }, kinds := [], alts := [], laidByText := true, laidKinds := [.data, .data, .data, .data, .sentinel, .sentinel, .pinned], laidTests := true, laidLooks := .later }
def CheckNamesCardSaid : Prop := Claim7.holds Tryz.pinned (.plain (OpenSpec.ofChange checkNamesSpec)) checkNamesCard

/-- THE SECOND FORM's CARD OF 'casuistlaw26.CheckOrders'. -/
def checkOrdersUptoCard : Claim7 := { stood := { row := checkOrdersUptoRow, standIns := [], harness := (true, "81173c508aa2188bb1d196a135237577c98aadcdab9875869032f36654000b0b"), looks := true }, kinds := [], alts := [], laidByText := true, laidKinds := [.data, .data, .data, .data, .sentinel, .sentinel, .pinned], laidTests := true, laidLooks := .later }
def CheckOrdersUptoCardSaid : Prop := Claim7.holds Tryz.pinned (.plain (OpenSpec.upto checkOrdersSpec)) checkOrdersUptoCard

/-- THE SECOND FORM's CARD OF 'casuistlaw26.CheckLoose'. -/
def checkLooseUptoCard : Claim7 := { stood := { row := checkLooseUptoRow, standIns := [], harness := (true, "81173c508aa2188bb1d196a135237577c98aadcdab9875869032f36654000b0b"), looks := true }, kinds := [], alts := [], laidByText := true, laidKinds := [.data, .data, .data, .data, .sentinel, .sentinel, .pinned], laidTests := true, laidLooks := .later }
def CheckLooseUptoCardSaid : Prop := Claim7.holds Tryz.pinned (.plain (OpenSpec.upto checkLooseSpec)) checkLooseUptoCard

/-- THE SECOND FORM's CARD OF 'casuistlaw26.CheckRules'. -/
def checkRulesUptoCard : Claim7 := { stood := { row := checkRulesUptoRow, standIns := [], harness := (true, "81173c508aa2188bb1d196a135237577c98aadcdab9875869032f36654000b0b"), looks := true }, kinds := [], alts := [], laidByText := true, laidKinds := [.data, .data, .data, .data, .sentinel, .sentinel, .pinned], laidTests := true, laidLooks := .later }
def CheckRulesUptoCardSaid : Prop := Claim7.holds Tryz.pinned (.plain (OpenSpec.upto checkRulesSpec)) checkRulesUptoCard

/-- THE SECOND FORM's CARD OF 'casuistlaw26.CheckNames'. -/
def checkNamesUptoCard : Claim7 := { stood := { row := checkNamesUptoRow, standIns := [], harness := (true, "81173c508aa2188bb1d196a135237577c98aadcdab9875869032f36654000b0b"), looks := true }, kinds := [], alts := [], laidByText := true, laidKinds := [.data, .data, .data, .data, .sentinel, .sentinel, .pinned], laidTests := true, laidLooks := .later }
def CheckNamesUptoCardSaid : Prop := Claim7.holds Tryz.pinned (.plain (OpenSpec.upto checkNamesSpec)) checkNamesUptoCard
end Rows
end Go.Proofs.YtbjfngebahogpaaGreatDoor
