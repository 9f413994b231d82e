/-
  DERIVED. GIVEN WITH THE SEED: THE CARDS: each row of YthjlmocbeoimaaaGreatDoorRows.lean that lists a variable, with what it lists TIED to the program's text (the seventh form; the later family's looks); each row that meets fmt, with fmt's text TOLD by the authors' own Lean function (tested against real Go, not proved from fmt's source: count such statements apart). THE CARD IS WHAT COUNTS. Prove the row's statement (the work); the ties are given (YthjlmocbeoimaaaGreatDoorTie.lean); close each card by the builder's one call (the guide's Derived/Test/ToyasCard.lean, 'card_holds'). Laid BY PROGRAM, IN A SANDBOX (cutbox-door.mjs). By AI agents, Wed Nov 11 2026. No macro, syntax, notation, axiom, sorry.
-/
import Derived.Test.YthjlmocbeoimaaaGreatDoorRows
import GoSem.ClaimSeven
namespace Go.Proofs.YthjlmocbeoimaaaGreatDoor
namespace Rows

/-- THE TIED CARD OF 'riddlelaw09.SimpNil'. -/
def simpNilCard : Claim7 := { stood := { row := simpNilRow, standIns := [], harness := (true, "98dc0670b3be38e8ef0d7696e3fc9584f0d815d684271c287039a7292eccbe3c"), looks := false }, kinds := [], alts := [], laidByText := true, laidKinds := [.data, .data, .data], laidTests := true, laidLooks := .later }
def SimpNilCardSaid : Prop := Claim7.holds Tryz.pinned (.plain (OpenSpec.ofChange simpNilSpec)) simpNilCard

/-- THE TIED CARD OF 'riddlelaw09.SimpOrders'. -/
def simpOrdersCard : Claim7 := { stood := { row := simpOrdersRow, standIns := [], harness := (true, "98dc0670b3be38e8ef0d7696e3fc9584f0d815d684271c287039a7292eccbe3c"), looks := false }, kinds := [], alts := [], laidByText := true, laidKinds := [.data, .data, .data], laidTests := true, laidLooks := .later }
def SimpOrdersCardSaid : Prop := Claim7.holds Tryz.pinned (.plain (OpenSpec.ofChange simpOrdersSpec)) simpOrdersCard

/-- THE TIED CARD OF 'riddlelaw09.SimpMeans'. -/
def simpMeansCard : Claim7 := { stood := { row := simpMeansRow, standIns := [], harness := (true, "98dc0670b3be38e8ef0d7696e3fc9584f0d815d684271c287039a7292eccbe3c"), looks := false }, kinds := [], alts := [], laidByText := true, laidKinds := [.data, .data, .data], laidTests := true, laidLooks := .later }
def SimpMeansCardSaid : Prop := Claim7.holds Tryz.pinned (.plain (OpenSpec.ofChange simpMeansSpec)) simpMeansCard

/-- THE SECOND FORM's CARD OF 'riddlelaw09.SimpNil'. -/
def simpNilUptoCard : Claim7 := { stood := { row := simpNilUptoRow, standIns := [], harness := (true, "98dc0670b3be38e8ef0d7696e3fc9584f0d815d684271c287039a7292eccbe3c"), looks := false }, kinds := [], alts := [], laidByText := true, laidKinds := [.data, .data, .data], laidTests := true, laidLooks := .later }
def SimpNilUptoCardSaid : Prop := Claim7.holds Tryz.pinned (.plain (OpenSpec.upto simpNilSpec)) simpNilUptoCard

/-- THE SECOND FORM's CARD OF 'riddlelaw09.SimpOrders'. -/
def simpOrdersUptoCard : Claim7 := { stood := { row := simpOrdersUptoRow, standIns := [], harness := (true, "98dc0670b3be38e8ef0d7696e3fc9584f0d815d684271c287039a7292eccbe3c"), looks := false }, kinds := [], alts := [], laidByText := true, laidKinds := [.data, .data, .data], laidTests := true, laidLooks := .later }
def SimpOrdersUptoCardSaid : Prop := Claim7.holds Tryz.pinned (.plain (OpenSpec.upto simpOrdersSpec)) simpOrdersUptoCard

/-- THE SECOND FORM's CARD OF 'riddlelaw09.SimpMeans'. -/
def simpMeansUptoCard : Claim7 := { stood := { row := simpMeansUptoRow, standIns := [], harness := (true, "98dc0670b3be38e8ef0d7696e3fc9584f0d815d684271c287039a7292eccbe3c"), looks := false }, kinds := [], alts := [], laidByText := true, laidKinds := [.data, .data, .data], laidTests := true, laidLooks := .later }
def SimpMeansUptoCardSaid : Prop := Claim7.holds Tryz.pinned (.plain (OpenSpec.upto simpMeansSpec)) simpMeansUptoCard
end Rows
end Go.Proofs.YthjlmocbeoimaaaGreatDoor
