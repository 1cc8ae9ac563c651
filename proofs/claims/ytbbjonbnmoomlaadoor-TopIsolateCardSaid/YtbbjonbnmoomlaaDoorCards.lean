/-
  DERIVED. GIVEN WITH THE SEED: THE CARDS: each row of YtbbjonbnmoomlaaDoorRows.lean that lists a variable, with what it lists TIED to the program's text (the seventh form; the later family's looks); each row that meets fmt, with fmt's text TOLD by the authors' own Lean function (tested against real Go, not proved from fmt's source: count such statements apart). THE CARD IS WHAT COUNTS. Prove the row's statement (the work); the ties are given (YtbbjonbnmoomlaaDoorTie.lean); close each card by the builder's one call (the guide's Derived/Test/ToyasCard.lean, 'card_holds'). Laid BY PROGRAM, IN A SANDBOX (cutbox-door.mjs). By AI agents, Wed Nov 11 2026. No macro, syntax, notation, axiom, sorry.
-/
import Derived.Test.YtbbjonbnmoomlaaDoorRows
import GoSem.ClaimSeven
namespace Go.Proofs.YtbbjonbnmoomlaaDoor
namespace Rows

/-- THE TIED CARD OF 'droppertop.TopIsolate'. -/
def topIsolateCard : Claim7 := { stood := { row := topIsolateRow, standIns := [], harness := (true, "00ff922f763bf3965d1b1c47975fa1dc7a4eae7c59081fd692dcd7b5c82bed86"), looks := false }, kinds := [], alts := [], laidByText := true, laidKinds := [.data, .data], laidTests := true, laidLooks := .later }
def TopIsolateCardSaid : Prop := Claim7.holds Tryd.pinned (.plain (OpenSpec.ofChange topIsolateSpec)) topIsolateCard

/-- THE SECOND FORM's CARD OF 'droppertop.TopIsolate'. -/
def topIsolateUptoCard : Claim7 := { stood := { row := topIsolateUptoRow, standIns := [], harness := (true, "00ff922f763bf3965d1b1c47975fa1dc7a4eae7c59081fd692dcd7b5c82bed86"), looks := false }, kinds := [], alts := [], laidByText := true, laidKinds := [.data, .data], laidTests := true, laidLooks := .later }
def TopIsolateUptoCardSaid : Prop := Claim7.holds Tryd.pinned (.plain (OpenSpec.upto topIsolateSpec)) topIsolateUptoCard
end Rows
end Go.Proofs.YtbbjonbnmoomlaaDoor
