/-
  No cell of these rows narrows 'for every input' (looked for: loops, veiled, ifaces, maps, wideKeys, modest, calm, conditions, laid).
  DERIVED. THE GIVEN ROWS OF THIS SEAT. 10 by the template 'for every input the law returns true; each argument reads behind the call as it read before'; 0 by the template 'total and deterministic' (their statements: YtciepmpadcpkbaaTotals.lean).
  GIVEN WITH THE SEED: the statements are not yours to turn. If you find one false, say at which input.
  Laid BY PROGRAM, IN A SANDBOX (cutbox-rows.mjs): the forced cells as the released guide's own fill.sh prints them over the translation c71c27f30c25664b… (all of the seat's roots in one cut). By AI agents, Wed Nov 11 2026. No macro, syntax, notation, axiom, sorry.
-/
import Derived.Test.YtciepmpadcpkbaaChecked
import GoSem.Claim
import GoSem.ClaimJoined
import GoSem.ClaimMapViews
import Derived.JoinedTies
import Derived.KernelRfl
namespace Go.Proofs.Ytciepmpadcpkbaa
/- THE CELL 'sum', in the pinned program and in every row, IS THE sha256 OF THE DUMP (.gsa) THAT YtciepmpadcpkbaaProg.lean LOADS. Nothing in Lean hashes anything: it is a label: what it is worth is what the hold of that sum in a sandbox is worth. -/
noncomputable def Try.pinned : Pinned := { name := "ytciepmpadcpkbaa", sum := "c71c27f30c25664bccfa94cefd49741bbac8427a7020d0778f1778101a03d611", checked := Try.checked }
namespace Rows
def none {H : Type} : Left H := { results := [], args := [] }

/-- 'dropperlaw02.WireClashes': WHATEVER THE INPUT: true; the input reads as it did. -/
def wireClashesSpec : ChangeSpec := { name := "wireClashes", fn := fun _ => fun
  | [d1, d2, d3] => { results := [.lit (.bool true)], args := [d1, d2, d3] }
  | _ => none }
def wireClashesRow : OpenClaim := { program := "ytciepmpadcpkbaa", sum := "c71c27f30c25664bccfa94cefd49741bbac8427a7020d0778f1778101a03d611", func := "dropper/dropperlaw02.WireClashes", spec := "wireClashes", unfollowed := true, recurses := true, apart := false }
def WireClashesSaid : Prop := wireClashesRow.holds Try.pinned (OpenSpec.ofChange wireClashesSpec)

/-- ITS FALSE NEIGHBOUR: 'it returns false'. Refute it at one input. -/
def wireClashesWrong : ChangeSpec := { name := "wireClashes", fn := fun _ => fun
  | [d1, d2, d3] => { results := [.lit (.bool false)], args := [d1, d2, d3] }
  | _ => none }
def WireClashesWrongFalsely : Prop := wireClashesRow.holds Try.pinned (OpenSpec.ofChange wireClashesWrong)

/-- 'droppertop.TopWire': WHATEVER THE INPUT: true; the input reads as it did. -/
def topWireSpec : ChangeSpec := { name := "topWire", fn := fun _ => fun
  | [d1, d2, d3] => { results := [.lit (.bool true)], args := [d1, d2, d3] }
  | _ => none }
def topWireRow : OpenClaim := { program := "ytciepmpadcpkbaa", sum := "c71c27f30c25664bccfa94cefd49741bbac8427a7020d0778f1778101a03d611", func := "dropper/droppertop.TopWire", spec := "topWire", unfollowed := true, recurses := true, apart := false }
def TopWireSaid : Prop := topWireRow.holds Try.pinned (OpenSpec.ofChange topWireSpec)

/-- ITS FALSE NEIGHBOUR: 'it returns false'. Refute it at one input. -/
def topWireWrong : ChangeSpec := { name := "topWire", fn := fun _ => fun
  | [d1, d2, d3] => { results := [.lit (.bool false)], args := [d1, d2, d3] }
  | _ => none }
def TopWireWrongFalsely : Prop := topWireRow.holds Try.pinned (OpenSpec.ofChange topWireWrong)

/-- 'dropperlaw02.WireThrough': WHATEVER THE INPUT: true; the input reads as it did. -/
def wireThroughSpec : ChangeSpec := { name := "wireThrough", fn := fun _ => fun
  | [d1, d2, d3] => { results := [.lit (.bool true)], args := [d1, d2, d3] }
  | _ => none }
def wireThroughRow : OpenClaim := { program := "ytciepmpadcpkbaa", sum := "c71c27f30c25664bccfa94cefd49741bbac8427a7020d0778f1778101a03d611", func := "dropper/dropperlaw02.WireThrough", spec := "wireThrough", unfollowed := true, recurses := true, apart := false }
def WireThroughSaid : Prop := wireThroughRow.holds Try.pinned (OpenSpec.ofChange wireThroughSpec)

/-- ITS FALSE NEIGHBOUR: 'it returns false'. Refute it at one input. -/
def wireThroughWrong : ChangeSpec := { name := "wireThrough", fn := fun _ => fun
  | [d1, d2, d3] => { results := [.lit (.bool false)], args := [d1, d2, d3] }
  | _ => none }
def WireThroughWrongFalsely : Prop := wireThroughRow.holds Try.pinned (OpenSpec.ofChange wireThroughWrong)

/-- 'dropperlaw02.WireGentlest': WHATEVER THE INPUT: true; the input reads as it did. -/
def wireGentlestSpec : ChangeSpec := { name := "wireGentlest", fn := fun _ => fun
  | [d1, d2] => { results := [.lit (.bool true)], args := [d1, d2] }
  | _ => none }
def wireGentlestRow : OpenClaim := { program := "ytciepmpadcpkbaa", sum := "c71c27f30c25664bccfa94cefd49741bbac8427a7020d0778f1778101a03d611", func := "dropper/dropperlaw02.WireGentlest", spec := "wireGentlest", unfollowed := true, recurses := true, apart := false }
def WireGentlestSaid : Prop := wireGentlestRow.holds Try.pinned (OpenSpec.ofChange wireGentlestSpec)

/-- ITS FALSE NEIGHBOUR: 'it returns false'. Refute it at one input. -/
def wireGentlestWrong : ChangeSpec := { name := "wireGentlest", fn := fun _ => fun
  | [d1, d2] => { results := [.lit (.bool false)], args := [d1, d2] }
  | _ => none }
def WireGentlestWrongFalsely : Prop := wireGentlestRow.holds Try.pinned (OpenSpec.ofChange wireGentlestWrong)

/-- 'dropperlaw02.WireSags': WHATEVER THE INPUT: true; the input reads as it did. -/
def wireSagsSpec : ChangeSpec := { name := "wireSags", fn := fun _ => fun
  | [d1, d2, d3] => { results := [.lit (.bool true)], args := [d1, d2, d3] }
  | _ => none }
def wireSagsRow : OpenClaim := { program := "ytciepmpadcpkbaa", sum := "c71c27f30c25664bccfa94cefd49741bbac8427a7020d0778f1778101a03d611", func := "dropper/dropperlaw02.WireSags", spec := "wireSags", unfollowed := true, recurses := true, apart := false }
def WireSagsSaid : Prop := wireSagsRow.holds Try.pinned (OpenSpec.ofChange wireSagsSpec)

/-- ITS FALSE NEIGHBOUR: 'it returns false'. Refute it at one input. -/
def wireSagsWrong : ChangeSpec := { name := "wireSags", fn := fun _ => fun
  | [d1, d2, d3] => { results := [.lit (.bool false)], args := [d1, d2, d3] }
  | _ => none }
def WireSagsWrongFalsely : Prop := wireSagsRow.holds Try.pinned (OpenSpec.ofChange wireSagsWrong)

/-- 'dropperlaw02.WireDroppers': WHATEVER THE INPUT: true; the input reads as it did. -/
def wireDroppersSpec : ChangeSpec := { name := "wireDroppers", fn := fun _ => fun
  | [d1, d2, d3] => { results := [.lit (.bool true)], args := [d1, d2, d3] }
  | _ => none }
def wireDroppersRow : OpenClaim := { program := "ytciepmpadcpkbaa", sum := "c71c27f30c25664bccfa94cefd49741bbac8427a7020d0778f1778101a03d611", func := "dropper/dropperlaw02.WireDroppers", spec := "wireDroppers", unfollowed := true, recurses := true, apart := false }
def WireDroppersSaid : Prop := wireDroppersRow.holds Try.pinned (OpenSpec.ofChange wireDroppersSpec)

/-- ITS FALSE NEIGHBOUR: 'it returns false'. Refute it at one input. -/
def wireDroppersWrong : ChangeSpec := { name := "wireDroppers", fn := fun _ => fun
  | [d1, d2, d3] => { results := [.lit (.bool false)], args := [d1, d2, d3] }
  | _ => none }
def WireDroppersWrongFalsely : Prop := wireDroppersRow.holds Try.pinned (OpenSpec.ofChange wireDroppersWrong)

/-- 'dropperlaw02.WireMeets': WHATEVER THE INPUT: true; the input reads as it did. -/
def wireMeetsSpec : ChangeSpec := { name := "wireMeets", fn := fun _ => fun
  | [d1, d2] => { results := [.lit (.bool true)], args := [d1, d2] }
  | _ => none }
def wireMeetsRow : OpenClaim := { program := "ytciepmpadcpkbaa", sum := "c71c27f30c25664bccfa94cefd49741bbac8427a7020d0778f1778101a03d611", func := "dropper/dropperlaw02.WireMeets", spec := "wireMeets", unfollowed := true, recurses := true, apart := false }
def WireMeetsSaid : Prop := wireMeetsRow.holds Try.pinned (OpenSpec.ofChange wireMeetsSpec)

/-- ITS FALSE NEIGHBOUR: 'it returns false'. Refute it at one input. -/
def wireMeetsWrong : ChangeSpec := { name := "wireMeets", fn := fun _ => fun
  | [d1, d2] => { results := [.lit (.bool false)], args := [d1, d2] }
  | _ => none }
def WireMeetsWrongFalsely : Prop := wireMeetsRow.holds Try.pinned (OpenSpec.ofChange wireMeetsWrong)

/-- 'dropperlaw02.WireEnds': WHATEVER THE INPUT: true; the input reads as it did. -/
def wireEndsSpec : ChangeSpec := { name := "wireEnds", fn := fun _ => fun
  | [d1, d2] => { results := [.lit (.bool true)], args := [d1, d2] }
  | _ => none }
def wireEndsRow : OpenClaim := { program := "ytciepmpadcpkbaa", sum := "c71c27f30c25664bccfa94cefd49741bbac8427a7020d0778f1778101a03d611", func := "dropper/dropperlaw02.WireEnds", spec := "wireEnds", unfollowed := true, recurses := true, apart := false }
def WireEndsSaid : Prop := wireEndsRow.holds Try.pinned (OpenSpec.ofChange wireEndsSpec)

/-- ITS FALSE NEIGHBOUR: 'it returns false'. Refute it at one input. -/
def wireEndsWrong : ChangeSpec := { name := "wireEnds", fn := fun _ => fun
  | [d1, d2] => { results := [.lit (.bool false)], args := [d1, d2] }
  | _ => none }
def WireEndsWrongFalsely : Prop := wireEndsRow.holds Try.pinned (OpenSpec.ofChange wireEndsWrong)

/-- 'dropperlaw02.WireSlopes': WHATEVER THE INPUT: true; the input reads as it did. -/
def wireSlopesSpec : ChangeSpec := { name := "wireSlopes", fn := fun _ => fun
  | [d1, d2, d3] => { results := [.lit (.bool true)], args := [d1, d2, d3] }
  | _ => none }
def wireSlopesRow : OpenClaim := { program := "ytciepmpadcpkbaa", sum := "c71c27f30c25664bccfa94cefd49741bbac8427a7020d0778f1778101a03d611", func := "dropper/dropperlaw02.WireSlopes", spec := "wireSlopes", unfollowed := true, recurses := true, apart := false }
def WireSlopesSaid : Prop := wireSlopesRow.holds Try.pinned (OpenSpec.ofChange wireSlopesSpec)

/-- ITS FALSE NEIGHBOUR: 'it returns false'. Refute it at one input. -/
def wireSlopesWrong : ChangeSpec := { name := "wireSlopes", fn := fun _ => fun
  | [d1, d2, d3] => { results := [.lit (.bool false)], args := [d1, d2, d3] }
  | _ => none }
def WireSlopesWrongFalsely : Prop := wireSlopesRow.holds Try.pinned (OpenSpec.ofChange wireSlopesWrong)

/-- 'dropperlaw02.WireFits': WHATEVER THE INPUT: true; the input reads as it did. -/
def wireFitsSpec : ChangeSpec := { name := "wireFits", fn := fun _ => fun
  | [d1, d2, d3] => { results := [.lit (.bool true)], args := [d1, d2, d3] }
  | _ => none }
def wireFitsRow : OpenClaim := { program := "ytciepmpadcpkbaa", sum := "c71c27f30c25664bccfa94cefd49741bbac8427a7020d0778f1778101a03d611", func := "dropper/dropperlaw02.WireFits", spec := "wireFits", unfollowed := true, recurses := true, apart := false }
def WireFitsSaid : Prop := wireFitsRow.holds Try.pinned (OpenSpec.ofChange wireFitsSpec)

/-- ITS FALSE NEIGHBOUR: 'it returns false'. Refute it at one input. -/
def wireFitsWrong : ChangeSpec := { name := "wireFits", fn := fun _ => fun
  | [d1, d2, d3] => { results := [.lit (.bool false)], args := [d1, d2, d3] }
  | _ => none }
def WireFitsWrongFalsely : Prop := wireFitsRow.holds Try.pinned (OpenSpec.ofChange wireFitsWrong)

/- THE SECOND FORM. 'bulk': how many values and letters a reading holds, each counted each time it is reached (what is shared counts as often as it is met; a slice's spare places count too). A statement '..UptoSaid' is the law's where the arguments, and the package variables that the reading takes, are together of bulk at most 1048576: NARROWER than '..Said'. Prove '..Said' where nothing that the law and all that it calls make is longer than what came in: it says more and counts as full. Else prove '..UptoSaid'. A law counts once. -/
mutual
def uptoBulk {H : Type} : DataW H → Nat
  | .lit (.string bytes) => bytes.length + 1
  | .lit _ => 1
  | .nil => 1
  | .ptr d => uptoBulk d + 1
  | .slice elems spare => uptoBulkAll elems + uptoBulkAll spare + 1
  | .agg parts => uptoBulkAll parts + 1
  | .iface _ d => uptoBulk d + 1
  | .map entries => uptoBulkEntries entries + 1
  | .held _ => 1
def uptoBulkAll {H : Type} : List (DataW H) → Nat
  | [] => 0
  | d :: r => uptoBulk d + uptoBulkAll r
def uptoBulkEntries {H : Type} : List (Lit × DataW H) → Nat
  | [] => 0
  | x :: r => uptoBulkEntry x + uptoBulkEntries r
def uptoBulkEntry {H : Type} : Lit × DataW H → Nat
  | (.string bytes, d) => bytes.length + uptoBulk d + 1
  | (_, d) => uptoBulk d + 1
 end
def uptoSmall : (H : Type) → List (DataW H) → Bool := fun _ ds => decide (uptoBulkAll ds ≤ 1048576)
def OpenSpec.upto (s : _root_.Go.ChangeSpec) : _root_.Go.OpenSpec := { _root_.Go.OpenSpec.ofChange s with cond := some uptoSmall }

/-- 'dropperlaw02.WireClashes', WHERE WHAT IT READS IS OF BULK AT MOST 1048576: true; the input reads as it did. -/
def wireClashesUptoRow : OpenClaim := { program := "ytciepmpadcpkbaa", sum := "c71c27f30c25664bccfa94cefd49741bbac8427a7020d0778f1778101a03d611", func := "dropper/dropperlaw02.WireClashes", spec := "wireClashes", unfollowed := true, recurses := true, apart := false, narrowed := true }
def WireClashesUptoSaid : Prop := wireClashesUptoRow.holds Try.pinned (OpenSpec.upto wireClashesSpec)

/-- 'droppertop.TopWire', WHERE WHAT IT READS IS OF BULK AT MOST 1048576: true; the input reads as it did. -/
def topWireUptoRow : OpenClaim := { program := "ytciepmpadcpkbaa", sum := "c71c27f30c25664bccfa94cefd49741bbac8427a7020d0778f1778101a03d611", func := "dropper/droppertop.TopWire", spec := "topWire", unfollowed := true, recurses := true, apart := false, narrowed := true }
def TopWireUptoSaid : Prop := topWireUptoRow.holds Try.pinned (OpenSpec.upto topWireSpec)

/-- 'dropperlaw02.WireThrough', WHERE WHAT IT READS IS OF BULK AT MOST 1048576: true; the input reads as it did. -/
def wireThroughUptoRow : OpenClaim := { program := "ytciepmpadcpkbaa", sum := "c71c27f30c25664bccfa94cefd49741bbac8427a7020d0778f1778101a03d611", func := "dropper/dropperlaw02.WireThrough", spec := "wireThrough", unfollowed := true, recurses := true, apart := false, narrowed := true }
def WireThroughUptoSaid : Prop := wireThroughUptoRow.holds Try.pinned (OpenSpec.upto wireThroughSpec)

/-- 'dropperlaw02.WireGentlest', WHERE WHAT IT READS IS OF BULK AT MOST 1048576: true; the input reads as it did. -/
def wireGentlestUptoRow : OpenClaim := { program := "ytciepmpadcpkbaa", sum := "c71c27f30c25664bccfa94cefd49741bbac8427a7020d0778f1778101a03d611", func := "dropper/dropperlaw02.WireGentlest", spec := "wireGentlest", unfollowed := true, recurses := true, apart := false, narrowed := true }
def WireGentlestUptoSaid : Prop := wireGentlestUptoRow.holds Try.pinned (OpenSpec.upto wireGentlestSpec)

/-- 'dropperlaw02.WireSags', WHERE WHAT IT READS IS OF BULK AT MOST 1048576: true; the input reads as it did. -/
def wireSagsUptoRow : OpenClaim := { program := "ytciepmpadcpkbaa", sum := "c71c27f30c25664bccfa94cefd49741bbac8427a7020d0778f1778101a03d611", func := "dropper/dropperlaw02.WireSags", spec := "wireSags", unfollowed := true, recurses := true, apart := false, narrowed := true }
def WireSagsUptoSaid : Prop := wireSagsUptoRow.holds Try.pinned (OpenSpec.upto wireSagsSpec)

/-- 'dropperlaw02.WireDroppers', WHERE WHAT IT READS IS OF BULK AT MOST 1048576: true; the input reads as it did. -/
def wireDroppersUptoRow : OpenClaim := { program := "ytciepmpadcpkbaa", sum := "c71c27f30c25664bccfa94cefd49741bbac8427a7020d0778f1778101a03d611", func := "dropper/dropperlaw02.WireDroppers", spec := "wireDroppers", unfollowed := true, recurses := true, apart := false, narrowed := true }
def WireDroppersUptoSaid : Prop := wireDroppersUptoRow.holds Try.pinned (OpenSpec.upto wireDroppersSpec)

/-- 'dropperlaw02.WireMeets', WHERE WHAT IT READS IS OF BULK AT MOST 1048576: true; the input reads as it did. -/
def wireMeetsUptoRow : OpenClaim := { program := "ytciepmpadcpkbaa", sum := "c71c27f30c25664bccfa94cefd49741bbac8427a7020d0778f1778101a03d611", func := "dropper/dropperlaw02.WireMeets", spec := "wireMeets", unfollowed := true, recurses := true, apart := false, narrowed := true }
def WireMeetsUptoSaid : Prop := wireMeetsUptoRow.holds Try.pinned (OpenSpec.upto wireMeetsSpec)

/-- 'dropperlaw02.WireEnds', WHERE WHAT IT READS IS OF BULK AT MOST 1048576: true; the input reads as it did. -/
def wireEndsUptoRow : OpenClaim := { program := "ytciepmpadcpkbaa", sum := "c71c27f30c25664bccfa94cefd49741bbac8427a7020d0778f1778101a03d611", func := "dropper/dropperlaw02.WireEnds", spec := "wireEnds", unfollowed := true, recurses := true, apart := false, narrowed := true }
def WireEndsUptoSaid : Prop := wireEndsUptoRow.holds Try.pinned (OpenSpec.upto wireEndsSpec)

/-- 'dropperlaw02.WireSlopes', WHERE WHAT IT READS IS OF BULK AT MOST 1048576: true; the input reads as it did. -/
def wireSlopesUptoRow : OpenClaim := { program := "ytciepmpadcpkbaa", sum := "c71c27f30c25664bccfa94cefd49741bbac8427a7020d0778f1778101a03d611", func := "dropper/dropperlaw02.WireSlopes", spec := "wireSlopes", unfollowed := true, recurses := true, apart := false, narrowed := true }
def WireSlopesUptoSaid : Prop := wireSlopesUptoRow.holds Try.pinned (OpenSpec.upto wireSlopesSpec)

/-- 'dropperlaw02.WireFits', WHERE WHAT IT READS IS OF BULK AT MOST 1048576: true; the input reads as it did. -/
def wireFitsUptoRow : OpenClaim := { program := "ytciepmpadcpkbaa", sum := "c71c27f30c25664bccfa94cefd49741bbac8427a7020d0778f1778101a03d611", func := "dropper/dropperlaw02.WireFits", spec := "wireFits", unfollowed := true, recurses := true, apart := false, narrowed := true }
def WireFitsUptoSaid : Prop := wireFitsUptoRow.holds Try.pinned (OpenSpec.upto wireFitsSpec)

end Rows
end Go.Proofs.Ytciepmpadcpkbaa
