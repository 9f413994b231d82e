/-
  DERIVED. GIVEN WITH THE SEED: THE CARDS: each row of YtnheefnlcnkefaaGreatDoorRows.lean that lists a variable, with what it lists TIED to the program's text (the seventh form; the later family's looks); each row that meets fmt, with fmt's text TOLD by the authors' own Lean function (tested against real Go, not proved from fmt's source: count such statements apart). THE CARD IS WHAT COUNTS. Prove the row's statement (the work); the ties are given (YtnheefnlcnkefaaGreatDoorTie.lean); close each card by the builder's one call (the guide's Derived/Test/ToyasCard.lean, 'card_holds'). Laid BY PROGRAM, IN A SANDBOX (cutbox-door.mjs). By AI agents, Wed Nov 11 2026. No macro, syntax, notation, axiom, sorry.
-/
import Derived.Test.YtnheefnlcnkefaaGreatDoorRows
import GoSem.ClaimSeven
namespace Go.Proofs.YtnheefnlcnkefaaGreatDoor
namespace Rows

/-- THE TIED CARD OF 'riddlelaw08.ArenaApart'. -/
def arenaApartCard : Claim7 := { stood := { row := arenaApartRow, standIns := [], harness := (true, "631d3a95aa2e507c9a95537716a0fbfa99f7aef5862eeed9a00930c78f5d2118"), looks := false }, kinds := [], alts := [], laidByText := true, laidKinds := [.data, .data, .data], laidTests := true, laidLooks := .later }
def ArenaApartCardSaid : Prop := Claim7.holds Tryz.pinned (.plain (OpenSpec.ofChange arenaApartSpec)) arenaApartCard

/-- THE TIED CARD OF 'riddlelaw08.ArenaOnce'. -/
def arenaOnceCard : Claim7 := { stood := { row := arenaOnceRow, standIns := [], harness := (true, "631d3a95aa2e507c9a95537716a0fbfa99f7aef5862eeed9a00930c78f5d2118"), looks := false }, kinds := [], alts := [], laidByText := true, laidKinds := [.data, .data, .data], laidTests := true, laidLooks := .later }
def ArenaOnceCardSaid : Prop := Claim7.holds Tryz.pinned (.plain (OpenSpec.ofChange arenaOnceSpec)) arenaOnceCard

/-- THE TIED CARD OF 'riddlelaw08.ArenaLets'. -/
def arenaLetsCard : Claim7 := { stood := { row := arenaLetsRow, standIns := [], harness := (true, "631d3a95aa2e507c9a95537716a0fbfa99f7aef5862eeed9a00930c78f5d2118"), looks := false }, kinds := [], alts := [], laidByText := true, laidKinds := [.data, .data, .data], laidTests := true, laidLooks := .later }
def ArenaLetsCardSaid : Prop := Claim7.holds Tryz.pinned (.plain (OpenSpec.ofChange arenaLetsSpec)) arenaLetsCard

/-- THE TIED CARD OF 'riddlelaw08.ArenaPlays'. -/
def arenaPlaysCard : Claim7 := { stood := { row := arenaPlaysRow, standIns := [], harness := (true, "631d3a95aa2e507c9a95537716a0fbfa99f7aef5862eeed9a00930c78f5d2118"), looks := false }, kinds := [], alts := [], laidByText := true, laidKinds := [.data, .data, .data], laidTests := true, laidLooks := .later }
def ArenaPlaysCardSaid : Prop := Claim7.holds Tryz.pinned (.plain (OpenSpec.ofChange arenaPlaysSpec)) arenaPlaysCard

/-- THE TIED CARD OF 'riddlelaw08.ArenaNil'. -/
def arenaNilCard : Claim7 := { stood := { row := arenaNilRow, standIns := [], harness := (true, "631d3a95aa2e507c9a95537716a0fbfa99f7aef5862eeed9a00930c78f5d2118"), looks := false }, kinds := [], alts := [], laidByText := true, laidKinds := [.data, .data, .data], laidTests := true, laidLooks := .later }
def ArenaNilCardSaid : Prop := Claim7.holds Tryz.pinned (.plain (OpenSpec.ofChange arenaNilSpec)) arenaNilCard

/-- THE TIED CARD OF 'riddlelaw08.ArenaLooks'. -/
def arenaLooksCard : Claim7 := { stood := { row := arenaLooksRow, standIns := [], harness := (true, "631d3a95aa2e507c9a95537716a0fbfa99f7aef5862eeed9a00930c78f5d2118"), looks := false }, kinds := [], alts := [], laidByText := true, laidKinds := [.data, .data, .data], laidTests := true, laidLooks := .later }
def ArenaLooksCardSaid : Prop := Claim7.holds Tryz.pinned (.plain (OpenSpec.ofChange arenaLooksSpec)) arenaLooksCard

/-- THE SECOND FORM's CARD OF 'riddlelaw08.ArenaApart'. -/
def arenaApartUptoCard : Claim7 := { stood := { row := arenaApartUptoRow, standIns := [], harness := (true, "631d3a95aa2e507c9a95537716a0fbfa99f7aef5862eeed9a00930c78f5d2118"), looks := false }, kinds := [], alts := [], laidByText := true, laidKinds := [.data, .data, .data], laidTests := true, laidLooks := .later }
def ArenaApartUptoCardSaid : Prop := Claim7.holds Tryz.pinned (.plain (OpenSpec.upto arenaApartSpec)) arenaApartUptoCard

/-- THE SECOND FORM's CARD OF 'riddlelaw08.ArenaOnce'. -/
def arenaOnceUptoCard : Claim7 := { stood := { row := arenaOnceUptoRow, standIns := [], harness := (true, "631d3a95aa2e507c9a95537716a0fbfa99f7aef5862eeed9a00930c78f5d2118"), looks := false }, kinds := [], alts := [], laidByText := true, laidKinds := [.data, .data, .data], laidTests := true, laidLooks := .later }
def ArenaOnceUptoCardSaid : Prop := Claim7.holds Tryz.pinned (.plain (OpenSpec.upto arenaOnceSpec)) arenaOnceUptoCard

/-- THE SECOND FORM's CARD OF 'riddlelaw08.ArenaLets'. -/
def arenaLetsUptoCard : Claim7 := { stood := { row := arenaLetsUptoRow, standIns := [], harness := (true, "631d3a95aa2e507c9a95537716a0fbfa99f7aef5862eeed9a00930c78f5d2118"), looks := false }, kinds := [], alts := [], laidByText := true, laidKinds := [.data, .data, .data], laidTests := true, laidLooks := .later }
def ArenaLetsUptoCardSaid : Prop := Claim7.holds Tryz.pinned (.plain (OpenSpec.upto arenaLetsSpec)) arenaLetsUptoCard

/-- THE SECOND FORM's CARD OF 'riddlelaw08.ArenaPlays'. -/
def arenaPlaysUptoCard : Claim7 := { stood := { row := arenaPlaysUptoRow, standIns := [], harness := (true, "631d3a95aa2e507c9a95537716a0fbfa99f7aef5862eeed9a00930c78f5d2118"), looks := false }, kinds := [], alts := [], laidByText := true, laidKinds := [.data, .data, .data], laidTests := true, laidLooks := .later }
def ArenaPlaysUptoCardSaid : Prop := Claim7.holds Tryz.pinned (.plain (OpenSpec.upto arenaPlaysSpec)) arenaPlaysUptoCard

/-- THE SECOND FORM's CARD OF 'riddlelaw08.ArenaNil'. -/
def arenaNilUptoCard : Claim7 := { stood := { row := arenaNilUptoRow, standIns := [], harness := (true, "631d3a95aa2e507c9a95537716a0fbfa99f7aef5862eeed9a00930c78f5d2118"), looks := false }, kinds := [], alts := [], laidByText := true, laidKinds := [.data, .data, .data], laidTests := true, laidLooks := .later }
def ArenaNilUptoCardSaid : Prop := Claim7.holds Tryz.pinned (.plain (OpenSpec.upto arenaNilSpec)) arenaNilUptoCard

/-- THE SECOND FORM's CARD OF 'riddlelaw08.ArenaLooks'. -/
def arenaLooksUptoCard : Claim7 := { stood := { row := arenaLooksUptoRow, standIns := [], harness := (true, "631d3a95aa2e507c9a95537716a0fbfa99f7aef5862eeed9a00930c78f5d2118"), looks := false }, kinds := [], alts := [], laidByText := true, laidKinds := [.data, .data, .data], laidTests := true, laidLooks := .later }
def ArenaLooksUptoCardSaid : Prop := Claim7.holds Tryz.pinned (.plain (OpenSpec.upto arenaLooksSpec)) arenaLooksUptoCard
end Rows
end Go.Proofs.YtnheefnlcnkefaaGreatDoor
