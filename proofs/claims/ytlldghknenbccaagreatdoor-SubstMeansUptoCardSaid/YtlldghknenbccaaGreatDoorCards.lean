/-
  DERIVED. GIVEN WITH THE SEED: THE CARDS: each row of YtlldghknenbccaaGreatDoorRows.lean that lists a variable, with what it lists TIED to the program's text (the seventh form; the later family's looks); each row that meets fmt, with fmt's text TOLD by the authors' own Lean function (tested against real Go, not proved from fmt's source: count such statements apart). THE CARD IS WHAT COUNTS. Prove the row's statement (the work); the ties are given (YtlldghknenbccaaGreatDoorTie.lean); close each card by the builder's one call (the guide's Derived/Test/ToyasCard.lean, 'card_holds'). Laid BY PROGRAM, IN A SANDBOX (cutbox-door.mjs). By AI agents, Wed Nov 11 2026. No macro, syntax, notation, axiom, sorry.
-/
import Derived.Test.YtlldghknenbccaaGreatDoorRows
import GoSem.ClaimSeven
namespace Go.Proofs.YtlldghknenbccaaGreatDoor
namespace Rows

/-- THE TIED CARD OF 'riddlelaw12.SubstNil'. -/
def substNilCard : Claim7 := { stood := { row := substNilRow, standIns := [], harness := (true, "f9f5cc6107605b2176e3fa534412e3beb269947be175c05d94894a26c1ab1b66"), looks := false }, kinds := [], alts := [], laidByText := true, laidKinds := [.data, .data, .data], laidTests := true, laidLooks := .later }
def SubstNilCardSaid : Prop := Claim7.holds Tryz.pinned (.plain (OpenSpec.ofChange substNilSpec)) substNilCard

/-- THE TIED CARD OF 'riddlelaw13.UnitMeans'. -/
def unitMeansCard : Claim7 := { stood := { row := unitMeansRow, standIns := [], harness := (true, "f9f5cc6107605b2176e3fa534412e3beb269947be175c05d94894a26c1ab1b66"), looks := false }, kinds := [], alts := [], laidByText := true, laidKinds := [.data, .data, .data], laidTests := true, laidLooks := .later }
def UnitMeansCardSaid : Prop := Claim7.holds Tryz.pinned (.plain (OpenSpec.ofChange unitMeansSpec)) unitMeansCard

/-- THE TIED CARD OF 'riddlelaw13.UnitOnes'. -/
def unitOnesCard : Claim7 := { stood := { row := unitOnesRow, standIns := [], harness := (true, "f9f5cc6107605b2176e3fa534412e3beb269947be175c05d94894a26c1ab1b66"), looks := false }, kinds := [], alts := [], laidByText := true, laidKinds := [.data, .data, .data], laidTests := true, laidLooks := .later }
def UnitOnesCardSaid : Prop := Claim7.holds Tryz.pinned (.plain (OpenSpec.ofChange unitOnesSpec)) unitOnesCard

/-- THE TIED CARD OF 'riddlelaw12.SubstGone'. -/
def substGoneCard : Claim7 := { stood := { row := substGoneRow, standIns := [], harness := (true, "f9f5cc6107605b2176e3fa534412e3beb269947be175c05d94894a26c1ab1b66"), looks := false }, kinds := [], alts := [], laidByText := true, laidKinds := [.data, .data, .data], laidTests := true, laidLooks := .later }
def SubstGoneCardSaid : Prop := Claim7.holds Tryz.pinned (.plain (OpenSpec.ofChange substGoneSpec)) substGoneCard

/-- THE TIED CARD OF 'riddlelaw12.SubstMeans'. -/
def substMeansCard : Claim7 := { stood := { row := substMeansRow, standIns := [], harness := (true, "f9f5cc6107605b2176e3fa534412e3beb269947be175c05d94894a26c1ab1b66"), looks := false }, kinds := [], alts := [], laidByText := true, laidKinds := [.data, .data, .data], laidTests := true, laidLooks := .later }
def SubstMeansCardSaid : Prop := Claim7.holds Tryz.pinned (.plain (OpenSpec.ofChange substMeansSpec)) substMeansCard

/-- THE SECOND FORM's CARD OF 'riddlelaw12.SubstNil'. -/
def substNilUptoCard : Claim7 := { stood := { row := substNilUptoRow, standIns := [], harness := (true, "f9f5cc6107605b2176e3fa534412e3beb269947be175c05d94894a26c1ab1b66"), looks := false }, kinds := [], alts := [], laidByText := true, laidKinds := [.data, .data, .data], laidTests := true, laidLooks := .later }
def SubstNilUptoCardSaid : Prop := Claim7.holds Tryz.pinned (.plain (OpenSpec.upto substNilSpec)) substNilUptoCard

/-- THE SECOND FORM's CARD OF 'riddlelaw13.UnitMeans'. -/
def unitMeansUptoCard : Claim7 := { stood := { row := unitMeansUptoRow, standIns := [], harness := (true, "f9f5cc6107605b2176e3fa534412e3beb269947be175c05d94894a26c1ab1b66"), looks := false }, kinds := [], alts := [], laidByText := true, laidKinds := [.data, .data, .data], laidTests := true, laidLooks := .later }
def UnitMeansUptoCardSaid : Prop := Claim7.holds Tryz.pinned (.plain (OpenSpec.upto unitMeansSpec)) unitMeansUptoCard

/-- THE SECOND FORM's CARD OF 'riddlelaw13.UnitOnes'. -/
def unitOnesUptoCard : Claim7 := { stood := { row := unitOnesUptoRow, standIns := [], harness := (true, "f9f5cc6107605b2176e3fa534412e3beb269947be175c05d94894a26c1ab1b66"), looks := false }, kinds := [], alts := [], laidByText := true, laidKinds := [.data, .data, .data], laidTests := true, laidLooks := .later }
def UnitOnesUptoCardSaid : Prop := Claim7.holds Tryz.pinned (.plain (OpenSpec.upto unitOnesSpec)) unitOnesUptoCard

/-- THE SECOND FORM's CARD OF 'riddlelaw12.SubstGone'. -/
def substGoneUptoCard : Claim7 := { stood := { row := substGoneUptoRow, standIns := [], harness := (true, "f9f5cc6107605b2176e3fa534412e3beb269947be175c05d94894a26c1ab1b66"), looks := false }, kinds := [], alts := [], laidByText := true, laidKinds := [.data, .data, .data], laidTests := true, laidLooks := .later }
def SubstGoneUptoCardSaid : Prop := Claim7.holds Tryz.pinned (.plain (OpenSpec.upto substGoneSpec)) substGoneUptoCard

/-- THE SECOND FORM's CARD OF 'riddlelaw12.SubstMeans'. -/
def substMeansUptoCard : Claim7 := { stood := { row := substMeansUptoRow, standIns := [], harness := (true, "f9f5cc6107605b2176e3fa534412e3beb269947be175c05d94894a26c1ab1b66"), looks := false }, kinds := [], alts := [], laidByText := true, laidKinds := [.data, .data, .data], laidTests := true, laidLooks := .later }
def SubstMeansUptoCardSaid : Prop := Claim7.holds Tryz.pinned (.plain (OpenSpec.upto substMeansSpec)) substMeansUptoCard
end Rows
end Go.Proofs.YtlldghknenbccaaGreatDoor
