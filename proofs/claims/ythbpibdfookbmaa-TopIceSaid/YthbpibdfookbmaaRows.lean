/-
  No cell of these rows narrows 'for every input' (looked for: loops, veiled, ifaces, maps, wideKeys, modest, calm, conditions, laid).
  DERIVED. THE GIVEN ROWS OF THIS SEAT. 9 by the template 'for every input the law returns true; each argument reads behind the call as it read before'; 0 by the template 'total and deterministic' (their statements: YthbpibdfookbmaaTotals.lean).
  GIVEN WITH THE SEED: the statements are not yours to turn. If you find one false, say at which input.
  Laid BY PROGRAM, IN A SANDBOX (cutbox-rows.mjs): the forced cells as the released guide's own fill.sh prints them over the translation 04e916137190f04d… (all of the seat's roots in one cut). By AI agents, Wed Nov 11 2026. No macro, syntax, notation, axiom, sorry.
-/
import Derived.Test.YthbpibdfookbmaaChecked
import GoSem.Claim
import GoSem.ClaimJoined
import GoSem.ClaimMapViews
import Derived.JoinedTies
import Derived.KernelRfl
namespace Go.Proofs.Ythbpibdfookbmaa
/- THE CELL 'sum', in the pinned program and in every row, IS THE sha256 OF THE DUMP (.gsa) THAT YthbpibdfookbmaaProg.lean LOADS. Nothing in Lean hashes anything: it is a label: what it is worth is what the hold of that sum in a sandbox is worth. -/
noncomputable def Try.pinned : Pinned := { name := "ythbpibdfookbmaa", sum := "04e916137190f04dc19d8ec9468c4b02293ba76aa4aca29175eb69206307d66c", checked := Try.checked }
namespace Rows
def none {H : Type} : Left H := { results := [], args := [] }

/-- 'dropperlaw08.IceHalves': WHATEVER THE INPUT: true; the input reads as it did. -/
def iceHalvesSpec : ChangeSpec := { name := "iceHalves", fn := fun _ => fun
  | [d1, d2] => { results := [.lit (.bool true)], args := [d1, d2] }
  | _ => none }
def iceHalvesRow : OpenClaim := { program := "ythbpibdfookbmaa", sum := "04e916137190f04dc19d8ec9468c4b02293ba76aa4aca29175eb69206307d66c", func := "dropper/dropperlaw08.IceHalves", spec := "iceHalves", unfollowed := true, recurses := true, apart := false }
def IceHalvesSaid : Prop := iceHalvesRow.holds Try.pinned (OpenSpec.ofChange iceHalvesSpec)

/-- ITS FALSE NEIGHBOUR: 'it returns false'. Refute it at one input. -/
def iceHalvesWrong : ChangeSpec := { name := "iceHalves", fn := fun _ => fun
  | [d1, d2] => { results := [.lit (.bool false)], args := [d1, d2] }
  | _ => none }
def IceHalvesWrongFalsely : Prop := iceHalvesRow.holds Try.pinned (OpenSpec.ofChange iceHalvesWrong)

/-- 'dropperlaw08.IceSafe': WHATEVER THE INPUT: true; the input reads as it did. -/
def iceSafeSpec : ChangeSpec := { name := "iceSafe", fn := fun _ => fun
  | [d] => { results := [.lit (.bool true)], args := [d] }
  | _ => none }
def iceSafeRow : OpenClaim := { program := "ythbpibdfookbmaa", sum := "04e916137190f04dc19d8ec9468c4b02293ba76aa4aca29175eb69206307d66c", func := "dropper/dropperlaw08.IceSafe", spec := "iceSafe", unfollowed := true, recurses := true, apart := false }
def IceSafeSaid : Prop := iceSafeRow.holds Try.pinned (OpenSpec.ofChange iceSafeSpec)

/-- ITS FALSE NEIGHBOUR: 'it returns false'. Refute it at one input. -/
def iceSafeWrong : ChangeSpec := { name := "iceSafe", fn := fun _ => fun
  | [d] => { results := [.lit (.bool false)], args := [d] }
  | _ => none }
def IceSafeWrongFalsely : Prop := iceSafeRow.holds Try.pinned (OpenSpec.ofChange iceSafeWrong)

/-- 'dropperlaw08.IceFirsts': WHATEVER THE INPUT: true; the input reads as it did. -/
def iceFirstsSpec : ChangeSpec := { name := "iceFirsts", fn := fun _ => fun
  | [d1, d2] => { results := [.lit (.bool true)], args := [d1, d2] }
  | _ => none }
def iceFirstsRow : OpenClaim := { program := "ythbpibdfookbmaa", sum := "04e916137190f04dc19d8ec9468c4b02293ba76aa4aca29175eb69206307d66c", func := "dropper/dropperlaw08.IceFirsts", spec := "iceFirsts", unfollowed := true, recurses := true, apart := false }
def IceFirstsSaid : Prop := iceFirstsRow.holds Try.pinned (OpenSpec.ofChange iceFirstsSpec)

/-- ITS FALSE NEIGHBOUR: 'it returns false'. Refute it at one input. -/
def iceFirstsWrong : ChangeSpec := { name := "iceFirsts", fn := fun _ => fun
  | [d1, d2] => { results := [.lit (.bool false)], args := [d1, d2] }
  | _ => none }
def IceFirstsWrongFalsely : Prop := iceFirstsRow.holds Try.pinned (OpenSpec.ofChange iceFirstsWrong)

/-- 'dropperlaw08.IceRotas': WHATEVER THE INPUT: true; the input reads as it did. -/
def iceRotasSpec : ChangeSpec := { name := "iceRotas", fn := fun _ => fun
  | [d1, d2] => { results := [.lit (.bool true)], args := [d1, d2] }
  | _ => none }
def iceRotasRow : OpenClaim := { program := "ythbpibdfookbmaa", sum := "04e916137190f04dc19d8ec9468c4b02293ba76aa4aca29175eb69206307d66c", func := "dropper/dropperlaw08.IceRotas", spec := "iceRotas", unfollowed := true, recurses := true, apart := false }
def IceRotasSaid : Prop := iceRotasRow.holds Try.pinned (OpenSpec.ofChange iceRotasSpec)

/-- ITS FALSE NEIGHBOUR: 'it returns false'. Refute it at one input. -/
def iceRotasWrong : ChangeSpec := { name := "iceRotas", fn := fun _ => fun
  | [d1, d2] => { results := [.lit (.bool false)], args := [d1, d2] }
  | _ => none }
def IceRotasWrongFalsely : Prop := iceRotasRow.holds Try.pinned (OpenSpec.ofChange iceRotasWrong)

/-- 'dropperlaw08.IceNights': WHATEVER THE INPUT: true; the input reads as it did. -/
def iceNightsSpec : ChangeSpec := { name := "iceNights", fn := fun _ => fun
  | [d1, d2, d3] => { results := [.lit (.bool true)], args := [d1, d2, d3] }
  | _ => none }
def iceNightsRow : OpenClaim := { program := "ythbpibdfookbmaa", sum := "04e916137190f04dc19d8ec9468c4b02293ba76aa4aca29175eb69206307d66c", func := "dropper/dropperlaw08.IceNights", spec := "iceNights", unfollowed := true, recurses := true, apart := false }
def IceNightsSaid : Prop := iceNightsRow.holds Try.pinned (OpenSpec.ofChange iceNightsSpec)

/-- ITS FALSE NEIGHBOUR: 'it returns false'. Refute it at one input. -/
def iceNightsWrong : ChangeSpec := { name := "iceNights", fn := fun _ => fun
  | [d1, d2, d3] => { results := [.lit (.bool false)], args := [d1, d2, d3] }
  | _ => none }
def IceNightsWrongFalsely : Prop := iceNightsRow.holds Try.pinned (OpenSpec.ofChange iceNightsWrong)

/-- 'dropperlaw08.IceStates': WHATEVER THE INPUT: true; the input reads as it did. -/
def iceStatesSpec : ChangeSpec := { name := "iceStates", fn := fun _ => fun
  | [d1, d2, d3] => { results := [.lit (.bool true)], args := [d1, d2, d3] }
  | _ => none }
def iceStatesRow : OpenClaim := { program := "ythbpibdfookbmaa", sum := "04e916137190f04dc19d8ec9468c4b02293ba76aa4aca29175eb69206307d66c", func := "dropper/dropperlaw08.IceStates", spec := "iceStates", unfollowed := true, recurses := true, apart := false }
def IceStatesSaid : Prop := iceStatesRow.holds Try.pinned (OpenSpec.ofChange iceStatesSpec)

/-- ITS FALSE NEIGHBOUR: 'it returns false'. Refute it at one input. -/
def iceStatesWrong : ChangeSpec := { name := "iceStates", fn := fun _ => fun
  | [d1, d2, d3] => { results := [.lit (.bool false)], args := [d1, d2, d3] }
  | _ => none }
def IceStatesWrongFalsely : Prop := iceStatesRow.holds Try.pinned (OpenSpec.ofChange iceStatesWrong)

/-- 'dropperlaw08.IceLasts': WHATEVER THE INPUT: true; the input reads as it did. -/
def iceLastsSpec : ChangeSpec := { name := "iceLasts", fn := fun _ => fun
  | [d] => { results := [.lit (.bool true)], args := [d] }
  | _ => none }
def iceLastsRow : OpenClaim := { program := "ythbpibdfookbmaa", sum := "04e916137190f04dc19d8ec9468c4b02293ba76aa4aca29175eb69206307d66c", func := "dropper/dropperlaw08.IceLasts", spec := "iceLasts", unfollowed := true, recurses := true, apart := false }
def IceLastsSaid : Prop := iceLastsRow.holds Try.pinned (OpenSpec.ofChange iceLastsSpec)

/-- ITS FALSE NEIGHBOUR: 'it returns false'. Refute it at one input. -/
def iceLastsWrong : ChangeSpec := { name := "iceLasts", fn := fun _ => fun
  | [d] => { results := [.lit (.bool false)], args := [d] }
  | _ => none }
def IceLastsWrongFalsely : Prop := iceLastsRow.holds Try.pinned (OpenSpec.ofChange iceLastsWrong)

/-- 'dropperlaw08.IceEases': WHATEVER THE INPUT: true; the input reads as it did. -/
def iceEasesSpec : ChangeSpec := { name := "iceEases", fn := fun _ => fun
  | [d1, d2, d3] => { results := [.lit (.bool true)], args := [d1, d2, d3] }
  | _ => none }
def iceEasesRow : OpenClaim := { program := "ythbpibdfookbmaa", sum := "04e916137190f04dc19d8ec9468c4b02293ba76aa4aca29175eb69206307d66c", func := "dropper/dropperlaw08.IceEases", spec := "iceEases", unfollowed := true, recurses := true, apart := false }
def IceEasesSaid : Prop := iceEasesRow.holds Try.pinned (OpenSpec.ofChange iceEasesSpec)

/-- ITS FALSE NEIGHBOUR: 'it returns false'. Refute it at one input. -/
def iceEasesWrong : ChangeSpec := { name := "iceEases", fn := fun _ => fun
  | [d1, d2, d3] => { results := [.lit (.bool false)], args := [d1, d2, d3] }
  | _ => none }
def IceEasesWrongFalsely : Prop := iceEasesRow.holds Try.pinned (OpenSpec.ofChange iceEasesWrong)

/-- 'droppertop.TopIce': WHATEVER THE INPUT: true; the input reads as it did. -/
def topIceSpec : ChangeSpec := { name := "topIce", fn := fun _ => fun
  | [d1, d2] => { results := [.lit (.bool true)], args := [d1, d2] }
  | _ => none }
def topIceRow : OpenClaim := { program := "ythbpibdfookbmaa", sum := "04e916137190f04dc19d8ec9468c4b02293ba76aa4aca29175eb69206307d66c", func := "dropper/droppertop.TopIce", spec := "topIce", unfollowed := true, recurses := true, apart := false }
def TopIceSaid : Prop := topIceRow.holds Try.pinned (OpenSpec.ofChange topIceSpec)

/-- ITS FALSE NEIGHBOUR: 'it returns false'. Refute it at one input. -/
def topIceWrong : ChangeSpec := { name := "topIce", fn := fun _ => fun
  | [d1, d2] => { results := [.lit (.bool false)], args := [d1, d2] }
  | _ => none }
def TopIceWrongFalsely : Prop := topIceRow.holds Try.pinned (OpenSpec.ofChange topIceWrong)

/- THE SECOND FORM. 'bulk': how many values and letters a reading holds, each counted each time it is reached (what is shared counts as often as it is met; a slice's spare places count too). A statement '..UptoSaid' is the law's where the arguments, and the package variables that the reading takes, are together of bulk at most 1048576: NARROWER than '..Said'. Prove '..Said' where nothing that the law and all that it calls make is longer than what came in: it says more and counts as full. Else prove '..UptoSaid'. A law counts once. -/
mutual
def uptoBulk {H : Type} : DataW H → Nat
  | .lit (.string bytes) => bytes.length + 1
  | .lit _ => 1
  | .nil => 1
  | .ptr d => uptoBulk d + 1
  | .slice elems spare => uptoBulkAll elems + uptoBulkAll spare + 1
  | .agg parts => uptoBulkAll parts + 1
  | .iface _ d => uptoBulk d + 1
  | .map entries => uptoBulkEntries entries + 1
  | .held _ => 1
def uptoBulkAll {H : Type} : List (DataW H) → Nat
  | [] => 0
  | d :: r => uptoBulk d + uptoBulkAll r
def uptoBulkEntries {H : Type} : List (Lit × DataW H) → Nat
  | [] => 0
  | x :: r => uptoBulkEntry x + uptoBulkEntries r
def uptoBulkEntry {H : Type} : Lit × DataW H → Nat
  | (.string bytes, d) => bytes.length + uptoBulk d + 1
  | (_, d) => uptoBulk d + 1
 end
def uptoSmall : (H : Type) → List (DataW H) → Bool := fun _ ds => decide (uptoBulkAll ds ≤ 1048576)
def OpenSpec.upto (s : _root_.Go.ChangeSpec) : _root_.Go.OpenSpec := { _root_.Go.OpenSpec.ofChange s with cond := some uptoSmall }

/-- 'dropperlaw08.IceHalves', WHERE WHAT IT READS IS OF BULK AT MOST 1048576: true; the input reads as it did. -/
def iceHalvesUptoRow : OpenClaim := { program := "ythbpibdfookbmaa", sum := "04e916137190f04dc19d8ec9468c4b02293ba76aa4aca29175eb69206307d66c", func := "dropper/dropperlaw08.IceHalves", spec := "iceHalves", unfollowed := true, recurses := true, apart := false, narrowed := true }
def IceHalvesUptoSaid : Prop := iceHalvesUptoRow.holds Try.pinned (OpenSpec.upto iceHalvesSpec)

/-- 'dropperlaw08.IceSafe', WHERE WHAT IT READS IS OF BULK AT MOST 1048576: true; the input reads as it did. -/
def iceSafeUptoRow : OpenClaim := { program := "ythbpibdfookbmaa", sum := "04e916137190f04dc19d8ec9468c4b02293ba76aa4aca29175eb69206307d66c", func := "dropper/dropperlaw08.IceSafe", spec := "iceSafe", unfollowed := true, recurses := true, apart := false, narrowed := true }
def IceSafeUptoSaid : Prop := iceSafeUptoRow.holds Try.pinned (OpenSpec.upto iceSafeSpec)

/-- 'dropperlaw08.IceFirsts', WHERE WHAT IT READS IS OF BULK AT MOST 1048576: true; the input reads as it did. -/
def iceFirstsUptoRow : OpenClaim := { program := "ythbpibdfookbmaa", sum := "04e916137190f04dc19d8ec9468c4b02293ba76aa4aca29175eb69206307d66c", func := "dropper/dropperlaw08.IceFirsts", spec := "iceFirsts", unfollowed := true, recurses := true, apart := false, narrowed := true }
def IceFirstsUptoSaid : Prop := iceFirstsUptoRow.holds Try.pinned (OpenSpec.upto iceFirstsSpec)

/-- 'dropperlaw08.IceRotas', WHERE WHAT IT READS IS OF BULK AT MOST 1048576: true; the input reads as it did. -/
def iceRotasUptoRow : OpenClaim := { program := "ythbpibdfookbmaa", sum := "04e916137190f04dc19d8ec9468c4b02293ba76aa4aca29175eb69206307d66c", func := "dropper/dropperlaw08.IceRotas", spec := "iceRotas", unfollowed := true, recurses := true, apart := false, narrowed := true }
def IceRotasUptoSaid : Prop := iceRotasUptoRow.holds Try.pinned (OpenSpec.upto iceRotasSpec)

/-- 'dropperlaw08.IceNights', WHERE WHAT IT READS IS OF BULK AT MOST 1048576: true; the input reads as it did. -/
def iceNightsUptoRow : OpenClaim := { program := "ythbpibdfookbmaa", sum := "04e916137190f04dc19d8ec9468c4b02293ba76aa4aca29175eb69206307d66c", func := "dropper/dropperlaw08.IceNights", spec := "iceNights", unfollowed := true, recurses := true, apart := false, narrowed := true }
def IceNightsUptoSaid : Prop := iceNightsUptoRow.holds Try.pinned (OpenSpec.upto iceNightsSpec)

/-- 'dropperlaw08.IceStates', WHERE WHAT IT READS IS OF BULK AT MOST 1048576: true; the input reads as it did. -/
def iceStatesUptoRow : OpenClaim := { program := "ythbpibdfookbmaa", sum := "04e916137190f04dc19d8ec9468c4b02293ba76aa4aca29175eb69206307d66c", func := "dropper/dropperlaw08.IceStates", spec := "iceStates", unfollowed := true, recurses := true, apart := false, narrowed := true }
def IceStatesUptoSaid : Prop := iceStatesUptoRow.holds Try.pinned (OpenSpec.upto iceStatesSpec)

/-- 'dropperlaw08.IceLasts', WHERE WHAT IT READS IS OF BULK AT MOST 1048576: true; the input reads as it did. -/
def iceLastsUptoRow : OpenClaim := { program := "ythbpibdfookbmaa", sum := "04e916137190f04dc19d8ec9468c4b02293ba76aa4aca29175eb69206307d66c", func := "dropper/dropperlaw08.IceLasts", spec := "iceLasts", unfollowed := true, recurses := true, apart := false, narrowed := true }
def IceLastsUptoSaid : Prop := iceLastsUptoRow.holds Try.pinned (OpenSpec.upto iceLastsSpec)

/-- 'dropperlaw08.IceEases', WHERE WHAT IT READS IS OF BULK AT MOST 1048576: true; the input reads as it did. -/
def iceEasesUptoRow : OpenClaim := { program := "ythbpibdfookbmaa", sum := "04e916137190f04dc19d8ec9468c4b02293ba76aa4aca29175eb69206307d66c", func := "dropper/dropperlaw08.IceEases", spec := "iceEases", unfollowed := true, recurses := true, apart := false, narrowed := true }
def IceEasesUptoSaid : Prop := iceEasesUptoRow.holds Try.pinned (OpenSpec.upto iceEasesSpec)

/-- 'droppertop.TopIce', WHERE WHAT IT READS IS OF BULK AT MOST 1048576: true; the input reads as it did. -/
def topIceUptoRow : OpenClaim := { program := "ythbpibdfookbmaa", sum := "04e916137190f04dc19d8ec9468c4b02293ba76aa4aca29175eb69206307d66c", func := "dropper/droppertop.TopIce", spec := "topIce", unfollowed := true, recurses := true, apart := false, narrowed := true }
def TopIceUptoSaid : Prop := topIceUptoRow.holds Try.pinned (OpenSpec.upto topIceSpec)

end Rows
end Go.Proofs.Ythbpibdfookbmaa
