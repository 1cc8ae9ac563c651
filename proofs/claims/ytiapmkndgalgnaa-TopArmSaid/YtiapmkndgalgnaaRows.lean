/-
  No cell of these rows narrows 'for every input' (looked for: loops, veiled, ifaces, maps, wideKeys, modest, calm, conditions, laid).
  DERIVED. THE GIVEN ROWS OF THIS SEAT. 10 by the template 'for every input the law returns true; each argument reads behind the call as it read before'; 0 by the template 'total and deterministic' (their statements: YtiapmkndgalgnaaTotals.lean).
  GIVEN WITH THE SEED: the statements are not yours to turn. If you find one false, say at which input.
  Laid BY PROGRAM, IN A SANDBOX (cutbox-rows.mjs): the forced cells as the released guide's own fill.sh prints them over the translation 830887f182e869b5… (all of the seat's roots in one cut). By AI agents, Wed Nov 11 2026. No macro, syntax, notation, axiom, sorry.
-/
import Derived.Test.YtiapmkndgalgnaaChecked
import GoSem.Claim
import GoSem.ClaimJoined
import GoSem.ClaimMapViews
import Derived.JoinedTies
import Derived.KernelRfl
namespace Go.Proofs.Ytiapmkndgalgnaa
/- THE CELL 'sum', in the pinned program and in every row, IS THE sha256 OF THE DUMP (.gsa) THAT YtiapmkndgalgnaaProg.lean LOADS. Nothing in Lean hashes anything: it is a label: what it is worth is what the hold of that sum in a sandbox is worth. -/
noncomputable def Try.pinned : Pinned := { name := "ytiapmkndgalgnaa", sum := "830887f182e869b5af2e4d5b91009217ff9560d6bd52ce45e990f2924d7f3e6f", checked := Try.checked }
namespace Rows
def none {H : Type} : Left H := { results := [], args := [] }

/-- 'dropperlaw03.ArmVersines': WHATEVER THE INPUT: true; the input reads as it did. -/
def armVersinesSpec : ChangeSpec := { name := "armVersines", fn := fun _ => fun
  | [d1, d2] => { results := [.lit (.bool true)], args := [d1, d2] }
  | _ => none }
def armVersinesRow : OpenClaim := { program := "ytiapmkndgalgnaa", sum := "830887f182e869b5af2e4d5b91009217ff9560d6bd52ce45e990f2924d7f3e6f", func := "dropper/dropperlaw03.ArmVersines", spec := "armVersines", apart := false }
def ArmVersinesSaid : Prop := armVersinesRow.holds Try.pinned (OpenSpec.ofChange armVersinesSpec)

/-- ITS FALSE NEIGHBOUR: 'it returns false'. Refute it at one input. -/
def armVersinesWrong : ChangeSpec := { name := "armVersines", fn := fun _ => fun
  | [d1, d2] => { results := [.lit (.bool false)], args := [d1, d2] }
  | _ => none }
def ArmVersinesWrongFalsely : Prop := armVersinesRow.holds Try.pinned (OpenSpec.ofChange armVersinesWrong)

/-- 'dropperlaw03.ArmForbids': WHATEVER THE INPUT: true; the input reads as it did. -/
def armForbidsSpec : ChangeSpec := { name := "armForbids", fn := fun _ => fun
  | [d1, d2] => { results := [.lit (.bool true)], args := [d1, d2] }
  | _ => none }
def armForbidsRow : OpenClaim := { program := "ytiapmkndgalgnaa", sum := "830887f182e869b5af2e4d5b91009217ff9560d6bd52ce45e990f2924d7f3e6f", func := "dropper/dropperlaw03.ArmForbids", spec := "armForbids", apart := false }
def ArmForbidsSaid : Prop := armForbidsRow.holds Try.pinned (OpenSpec.ofChange armForbidsSpec)

/-- ITS FALSE NEIGHBOUR: 'it returns false'. Refute it at one input. -/
def armForbidsWrong : ChangeSpec := { name := "armForbids", fn := fun _ => fun
  | [d1, d2] => { results := [.lit (.bool false)], args := [d1, d2] }
  | _ => none }
def ArmForbidsWrongFalsely : Prop := armForbidsRow.holds Try.pinned (OpenSpec.ofChange armForbidsWrong)

/-- 'dropperlaw03.ArmSlopes': WHATEVER THE INPUT: true; the input reads as it did. -/
def armSlopesSpec : ChangeSpec := { name := "armSlopes", fn := fun _ => fun
  | [d] => { results := [.lit (.bool true)], args := [d] }
  | _ => none }
def armSlopesRow : OpenClaim := { program := "ytiapmkndgalgnaa", sum := "830887f182e869b5af2e4d5b91009217ff9560d6bd52ce45e990f2924d7f3e6f", func := "dropper/dropperlaw03.ArmSlopes", spec := "armSlopes", apart := false }
def ArmSlopesSaid : Prop := armSlopesRow.holds Try.pinned (OpenSpec.ofChange armSlopesSpec)

/-- ITS FALSE NEIGHBOUR: 'it returns false'. Refute it at one input. -/
def armSlopesWrong : ChangeSpec := { name := "armSlopes", fn := fun _ => fun
  | [d] => { results := [.lit (.bool false)], args := [d] }
  | _ => none }
def ArmSlopesWrongFalsely : Prop := armSlopesRow.holds Try.pinned (OpenSpec.ofChange armSlopesWrong)

/-- 'dropperlaw03.ArmPieces': WHATEVER THE INPUT: true; the input reads as it did. -/
def armPiecesSpec : ChangeSpec := { name := "armPieces", fn := fun _ => fun
  | [d1, d2] => { results := [.lit (.bool true)], args := [d1, d2] }
  | _ => none }
def armPiecesRow : OpenClaim := { program := "ytiapmkndgalgnaa", sum := "830887f182e869b5af2e4d5b91009217ff9560d6bd52ce45e990f2924d7f3e6f", func := "dropper/dropperlaw03.ArmPieces", spec := "armPieces", apart := false }
def ArmPiecesSaid : Prop := armPiecesRow.holds Try.pinned (OpenSpec.ofChange armPiecesSpec)

/-- ITS FALSE NEIGHBOUR: 'it returns false'. Refute it at one input. -/
def armPiecesWrong : ChangeSpec := { name := "armPieces", fn := fun _ => fun
  | [d1, d2] => { results := [.lit (.bool false)], args := [d1, d2] }
  | _ => none }
def ArmPiecesWrongFalsely : Prop := armPiecesRow.holds Try.pinned (OpenSpec.ofChange armPiecesWrong)

/-- 'dropperlaw03.ArmThrough': WHATEVER THE INPUT: true; the input reads as it did. -/
def armThroughSpec : ChangeSpec := { name := "armThrough", fn := fun _ => fun
  | [d1, d2, d3] => { results := [.lit (.bool true)], args := [d1, d2, d3] }
  | _ => none }
def armThroughRow : OpenClaim := { program := "ytiapmkndgalgnaa", sum := "830887f182e869b5af2e4d5b91009217ff9560d6bd52ce45e990f2924d7f3e6f", func := "dropper/dropperlaw03.ArmThrough", spec := "armThrough", unfollowed := true, recurses := true, apart := false }
def ArmThroughSaid : Prop := armThroughRow.holds Try.pinned (OpenSpec.ofChange armThroughSpec)

/-- ITS FALSE NEIGHBOUR: 'it returns false'. Refute it at one input. -/
def armThroughWrong : ChangeSpec := { name := "armThrough", fn := fun _ => fun
  | [d1, d2, d3] => { results := [.lit (.bool false)], args := [d1, d2, d3] }
  | _ => none }
def ArmThroughWrongFalsely : Prop := armThroughRow.holds Try.pinned (OpenSpec.ofChange armThroughWrong)

/-- 'dropperlaw03.ArmCurves': WHATEVER THE INPUT: true; the input reads as it did. -/
def armCurvesSpec : ChangeSpec := { name := "armCurves", fn := fun _ => fun
  | [d1, d2, d3] => { results := [.lit (.bool true)], args := [d1, d2, d3] }
  | _ => none }
def armCurvesRow : OpenClaim := { program := "ytiapmkndgalgnaa", sum := "830887f182e869b5af2e4d5b91009217ff9560d6bd52ce45e990f2924d7f3e6f", func := "dropper/dropperlaw03.ArmCurves", spec := "armCurves", unfollowed := true, recurses := true, apart := false }
def ArmCurvesSaid : Prop := armCurvesRow.holds Try.pinned (OpenSpec.ofChange armCurvesSpec)

/-- ITS FALSE NEIGHBOUR: 'it returns false'. Refute it at one input. -/
def armCurvesWrong : ChangeSpec := { name := "armCurves", fn := fun _ => fun
  | [d1, d2, d3] => { results := [.lit (.bool false)], args := [d1, d2, d3] }
  | _ => none }
def ArmCurvesWrongFalsely : Prop := armCurvesRow.holds Try.pinned (OpenSpec.ofChange armCurvesWrong)

/-- 'dropperlaw03.ArmTurns': WHATEVER THE INPUT: true; the input reads as it did. -/
def armTurnsSpec : ChangeSpec := { name := "armTurns", fn := fun _ => fun
  | [d1, d2] => { results := [.lit (.bool true)], args := [d1, d2] }
  | _ => none }
def armTurnsRow : OpenClaim := { program := "ytiapmkndgalgnaa", sum := "830887f182e869b5af2e4d5b91009217ff9560d6bd52ce45e990f2924d7f3e6f", func := "dropper/dropperlaw03.ArmTurns", spec := "armTurns", unfollowed := true, recurses := true, apart := false }
def ArmTurnsSaid : Prop := armTurnsRow.holds Try.pinned (OpenSpec.ofChange armTurnsSpec)

/-- ITS FALSE NEIGHBOUR: 'it returns false'. Refute it at one input. -/
def armTurnsWrong : ChangeSpec := { name := "armTurns", fn := fun _ => fun
  | [d1, d2] => { results := [.lit (.bool false)], args := [d1, d2] }
  | _ => none }
def ArmTurnsWrongFalsely : Prop := armTurnsRow.holds Try.pinned (OpenSpec.ofChange armTurnsWrong)

/-- 'dropperlaw03.ArmSides': WHATEVER THE INPUT: true; the input reads as it did. -/
def armSidesSpec : ChangeSpec := { name := "armSides", fn := fun _ => fun
  | [d1, d2] => { results := [.lit (.bool true)], args := [d1, d2] }
  | _ => none }
def armSidesRow : OpenClaim := { program := "ytiapmkndgalgnaa", sum := "830887f182e869b5af2e4d5b91009217ff9560d6bd52ce45e990f2924d7f3e6f", func := "dropper/dropperlaw03.ArmSides", spec := "armSides", unfollowed := true, recurses := true, apart := false }
def ArmSidesSaid : Prop := armSidesRow.holds Try.pinned (OpenSpec.ofChange armSidesSpec)

/-- ITS FALSE NEIGHBOUR: 'it returns false'. Refute it at one input. -/
def armSidesWrong : ChangeSpec := { name := "armSides", fn := fun _ => fun
  | [d1, d2] => { results := [.lit (.bool false)], args := [d1, d2] }
  | _ => none }
def ArmSidesWrongFalsely : Prop := armSidesRow.holds Try.pinned (OpenSpec.ofChange armSidesWrong)

/-- 'droppertop.TopArm': WHATEVER THE INPUT: true; the input reads as it did. -/
def topArmSpec : ChangeSpec := { name := "topArm", fn := fun _ => fun
  | [d1, d2] => { results := [.lit (.bool true)], args := [d1, d2] }
  | _ => none }
def topArmRow : OpenClaim := { program := "ytiapmkndgalgnaa", sum := "830887f182e869b5af2e4d5b91009217ff9560d6bd52ce45e990f2924d7f3e6f", func := "dropper/droppertop.TopArm", spec := "topArm", unfollowed := true, recurses := true, apart := false }
def TopArmSaid : Prop := topArmRow.holds Try.pinned (OpenSpec.ofChange topArmSpec)

/-- ITS FALSE NEIGHBOUR: 'it returns false'. Refute it at one input. -/
def topArmWrong : ChangeSpec := { name := "topArm", fn := fun _ => fun
  | [d1, d2] => { results := [.lit (.bool false)], args := [d1, d2] }
  | _ => none }
def TopArmWrongFalsely : Prop := topArmRow.holds Try.pinned (OpenSpec.ofChange topArmWrong)

/-- 'dropperlaw03.ArmBlocks': WHATEVER THE INPUT: true; the input reads as it did. -/
def armBlocksSpec : ChangeSpec := { name := "armBlocks", fn := fun _ => fun
  | [d1, d2] => { results := [.lit (.bool true)], args := [d1, d2] }
  | _ => none }
def armBlocksRow : OpenClaim := { program := "ytiapmkndgalgnaa", sum := "830887f182e869b5af2e4d5b91009217ff9560d6bd52ce45e990f2924d7f3e6f", func := "dropper/dropperlaw03.ArmBlocks", spec := "armBlocks", unfollowed := true, recurses := true, apart := false }
def ArmBlocksSaid : Prop := armBlocksRow.holds Try.pinned (OpenSpec.ofChange armBlocksSpec)

/-- ITS FALSE NEIGHBOUR: 'it returns false'. Refute it at one input. -/
def armBlocksWrong : ChangeSpec := { name := "armBlocks", fn := fun _ => fun
  | [d1, d2] => { results := [.lit (.bool false)], args := [d1, d2] }
  | _ => none }
def ArmBlocksWrongFalsely : Prop := armBlocksRow.holds Try.pinned (OpenSpec.ofChange armBlocksWrong)

/- THE SECOND FORM. 'bulk': how many values and letters a reading holds, each counted each time it is reached (what is shared counts as often as it is met; a slice's spare places count too). A statement '..UptoSaid' is the law's where the arguments, and the package variables that the reading takes, are together of bulk at most 1048576: NARROWER than '..Said'. Prove '..Said' where nothing that the law and all that it calls make is longer than what came in: it says more and counts as full. Else prove '..UptoSaid'. A law counts once. -/
mutual
def uptoBulk {H : Type} : DataW H → Nat
  | .lit (.string bytes) => bytes.length + 1
  | .lit _ => 1
  | .nil => 1
  | .ptr d => uptoBulk d + 1
  | .slice elems spare => uptoBulkAll elems + uptoBulkAll spare + 1
  | .agg parts => uptoBulkAll parts + 1
  | .iface _ d => uptoBulk d + 1
  | .map entries => uptoBulkEntries entries + 1
  | .held _ => 1
def uptoBulkAll {H : Type} : List (DataW H) → Nat
  | [] => 0
  | d :: r => uptoBulk d + uptoBulkAll r
def uptoBulkEntries {H : Type} : List (Lit × DataW H) → Nat
  | [] => 0
  | x :: r => uptoBulkEntry x + uptoBulkEntries r
def uptoBulkEntry {H : Type} : Lit × DataW H → Nat
  | (.string bytes, d) => bytes.length + uptoBulk d + 1
  | (_, d) => uptoBulk d + 1
 end
def uptoSmall : (H : Type) → List (DataW H) → Bool := fun _ ds => decide (uptoBulkAll ds ≤ 1048576)
def OpenSpec.upto (s : _root_.Go.ChangeSpec) : _root_.Go.OpenSpec := { _root_.Go.OpenSpec.ofChange s with cond := some uptoSmall }

/-- 'dropperlaw03.ArmVersines', WHERE WHAT IT READS IS OF BULK AT MOST 1048576: true; the input reads as it did. -/
def armVersinesUptoRow : OpenClaim := { program := "ytiapmkndgalgnaa", sum := "830887f182e869b5af2e4d5b91009217ff9560d6bd52ce45e990f2924d7f3e6f", func := "dropper/dropperlaw03.ArmVersines", spec := "armVersines", apart := false, narrowed := true }
def ArmVersinesUptoSaid : Prop := armVersinesUptoRow.holds Try.pinned (OpenSpec.upto armVersinesSpec)

/-- 'dropperlaw03.ArmForbids', WHERE WHAT IT READS IS OF BULK AT MOST 1048576: true; the input reads as it did. -/
def armForbidsUptoRow : OpenClaim := { program := "ytiapmkndgalgnaa", sum := "830887f182e869b5af2e4d5b91009217ff9560d6bd52ce45e990f2924d7f3e6f", func := "dropper/dropperlaw03.ArmForbids", spec := "armForbids", apart := false, narrowed := true }
def ArmForbidsUptoSaid : Prop := armForbidsUptoRow.holds Try.pinned (OpenSpec.upto armForbidsSpec)

/-- 'dropperlaw03.ArmSlopes', WHERE WHAT IT READS IS OF BULK AT MOST 1048576: true; the input reads as it did. -/
def armSlopesUptoRow : OpenClaim := { program := "ytiapmkndgalgnaa", sum := "830887f182e869b5af2e4d5b91009217ff9560d6bd52ce45e990f2924d7f3e6f", func := "dropper/dropperlaw03.ArmSlopes", spec := "armSlopes", apart := false, narrowed := true }
def ArmSlopesUptoSaid : Prop := armSlopesUptoRow.holds Try.pinned (OpenSpec.upto armSlopesSpec)

/-- 'dropperlaw03.ArmPieces', WHERE WHAT IT READS IS OF BULK AT MOST 1048576: true; the input reads as it did. -/
def armPiecesUptoRow : OpenClaim := { program := "ytiapmkndgalgnaa", sum := "830887f182e869b5af2e4d5b91009217ff9560d6bd52ce45e990f2924d7f3e6f", func := "dropper/dropperlaw03.ArmPieces", spec := "armPieces", apart := false, narrowed := true }
def ArmPiecesUptoSaid : Prop := armPiecesUptoRow.holds Try.pinned (OpenSpec.upto armPiecesSpec)

/-- 'dropperlaw03.ArmThrough', WHERE WHAT IT READS IS OF BULK AT MOST 1048576: true; the input reads as it did. -/
def armThroughUptoRow : OpenClaim := { program := "ytiapmkndgalgnaa", sum := "830887f182e869b5af2e4d5b91009217ff9560d6bd52ce45e990f2924d7f3e6f", func := "dropper/dropperlaw03.ArmThrough", spec := "armThrough", unfollowed := true, recurses := true, apart := false, narrowed := true }
def ArmThroughUptoSaid : Prop := armThroughUptoRow.holds Try.pinned (OpenSpec.upto armThroughSpec)

/-- 'dropperlaw03.ArmCurves', WHERE WHAT IT READS IS OF BULK AT MOST 1048576: true; the input reads as it did. -/
def armCurvesUptoRow : OpenClaim := { program := "ytiapmkndgalgnaa", sum := "830887f182e869b5af2e4d5b91009217ff9560d6bd52ce45e990f2924d7f3e6f", func := "dropper/dropperlaw03.ArmCurves", spec := "armCurves", unfollowed := true, recurses := true, apart := false, narrowed := true }
def ArmCurvesUptoSaid : Prop := armCurvesUptoRow.holds Try.pinned (OpenSpec.upto armCurvesSpec)

/-- 'dropperlaw03.ArmTurns', WHERE WHAT IT READS IS OF BULK AT MOST 1048576: true; the input reads as it did. -/
def armTurnsUptoRow : OpenClaim := { program := "ytiapmkndgalgnaa", sum := "830887f182e869b5af2e4d5b91009217ff9560d6bd52ce45e990f2924d7f3e6f", func := "dropper/dropperlaw03.ArmTurns", spec := "armTurns", unfollowed := true, recurses := true, apart := false, narrowed := true }
def ArmTurnsUptoSaid : Prop := armTurnsUptoRow.holds Try.pinned (OpenSpec.upto armTurnsSpec)

/-- 'dropperlaw03.ArmSides', WHERE WHAT IT READS IS OF BULK AT MOST 1048576: true; the input reads as it did. -/
def armSidesUptoRow : OpenClaim := { program := "ytiapmkndgalgnaa", sum := "830887f182e869b5af2e4d5b91009217ff9560d6bd52ce45e990f2924d7f3e6f", func := "dropper/dropperlaw03.ArmSides", spec := "armSides", unfollowed := true, recurses := true, apart := false, narrowed := true }
def ArmSidesUptoSaid : Prop := armSidesUptoRow.holds Try.pinned (OpenSpec.upto armSidesSpec)

/-- 'droppertop.TopArm', WHERE WHAT IT READS IS OF BULK AT MOST 1048576: true; the input reads as it did. -/
def topArmUptoRow : OpenClaim := { program := "ytiapmkndgalgnaa", sum := "830887f182e869b5af2e4d5b91009217ff9560d6bd52ce45e990f2924d7f3e6f", func := "dropper/droppertop.TopArm", spec := "topArm", unfollowed := true, recurses := true, apart := false, narrowed := true }
def TopArmUptoSaid : Prop := topArmUptoRow.holds Try.pinned (OpenSpec.upto topArmSpec)

/-- 'dropperlaw03.ArmBlocks', WHERE WHAT IT READS IS OF BULK AT MOST 1048576: true; the input reads as it did. -/
def armBlocksUptoRow : OpenClaim := { program := "ytiapmkndgalgnaa", sum := "830887f182e869b5af2e4d5b91009217ff9560d6bd52ce45e990f2924d7f3e6f", func := "dropper/dropperlaw03.ArmBlocks", spec := "armBlocks", unfollowed := true, recurses := true, apart := false, narrowed := true }
def ArmBlocksUptoSaid : Prop := armBlocksUptoRow.holds Try.pinned (OpenSpec.upto armBlocksSpec)

end Rows
end Go.Proofs.Ytiapmkndgalgnaa
