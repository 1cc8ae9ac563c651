/-
  No cell of these rows narrows 'for every input' (looked for: loops, veiled, ifaces, maps, wideKeys, modest, calm, conditions, laid).
  DERIVED. THE GIVEN ROWS OF THIS SEAT. 9 by the template 'for every input the law returns true; each argument reads behind the call as it read before'; 0 by the template 'total and deterministic' (their statements: YtiebfmenkpodeaaTotals.lean).
  GIVEN WITH THE SEED: the statements are not yours to turn. If you find one false, say at which input.
  Laid BY PROGRAM, IN A SANDBOX (cutbox-rows.mjs): the forced cells as the released guide's own fill.sh prints them over the translation 90d7a9f177bf8107… (all of the seat's roots in one cut). By AI agents, Wed Nov 11 2026. No macro, syntax, notation, axiom, sorry.
-/
import Derived.Test.YtiebfmenkpodeaaChecked
import GoSem.Claim
import GoSem.ClaimJoined
import GoSem.ClaimMapViews
import Derived.JoinedTies
import Derived.KernelRfl
namespace Go.Proofs.Ytiebfmenkpodeaa
/- THE CELL 'sum', in the pinned program and in every row, IS THE sha256 OF THE DUMP (.gsa) THAT YtiebfmenkpodeaaProg.lean LOADS. Nothing in Lean hashes anything: it is a label: what it is worth is what the hold of that sum in a sandbox is worth. -/
noncomputable def Try.pinned : Pinned := { name := "ytiebfmenkpodeaa", sum := "90d7a9f177bf8107543b53d1f0633be58279cf3834dc554ceec6bc6dc6f44222", checked := Try.checked }
namespace Rows
def none {H : Type} : Left H := { results := [], args := [] }

/-- 'dropperlaw04.PullStacks': WHATEVER THE INPUT: true; the input reads as it did. -/
def pullStacksSpec : ChangeSpec := { name := "pullStacks", fn := fun _ => fun
  | [d1, d2] => { results := [.lit (.bool true)], args := [d1, d2] }
  | _ => none }
def pullStacksRow : OpenClaim := { program := "ytiebfmenkpodeaa", sum := "90d7a9f177bf8107543b53d1f0633be58279cf3834dc554ceec6bc6dc6f44222", func := "dropper/dropperlaw04.PullStacks", spec := "pullStacks", unfollowed := true, recurses := true, apart := false }
def PullStacksSaid : Prop := pullStacksRow.holds Try.pinned (OpenSpec.ofChange pullStacksSpec)

/-- ITS FALSE NEIGHBOUR: 'it returns false'. Refute it at one input. -/
def pullStacksWrong : ChangeSpec := { name := "pullStacks", fn := fun _ => fun
  | [d1, d2] => { results := [.lit (.bool false)], args := [d1, d2] }
  | _ => none }
def PullStacksWrongFalsely : Prop := pullStacksRow.holds Try.pinned (OpenSpec.ofChange pullStacksWrong)

/-- 'dropperlaw04.PullLongest': WHATEVER THE INPUT: true; the input reads as it did. -/
def pullLongestSpec : ChangeSpec := { name := "pullLongest", fn := fun _ => fun
  | [d1, d2, d3] => { results := [.lit (.bool true)], args := [d1, d2, d3] }
  | _ => none }
def pullLongestRow : OpenClaim := { program := "ytiebfmenkpodeaa", sum := "90d7a9f177bf8107543b53d1f0633be58279cf3834dc554ceec6bc6dc6f44222", func := "dropper/dropperlaw04.PullLongest", spec := "pullLongest", unfollowed := true, recurses := true, apart := false }
def PullLongestSaid : Prop := pullLongestRow.holds Try.pinned (OpenSpec.ofChange pullLongestSpec)

/-- ITS FALSE NEIGHBOUR: 'it returns false'. Refute it at one input. -/
def pullLongestWrong : ChangeSpec := { name := "pullLongest", fn := fun _ => fun
  | [d1, d2, d3] => { results := [.lit (.bool false)], args := [d1, d2, d3] }
  | _ => none }
def PullLongestWrongFalsely : Prop := pullLongestRow.holds Try.pinned (OpenSpec.ofChange pullLongestWrong)

/-- 'dropperlaw04.PullNumbers': WHATEVER THE INPUT: true; the input reads as it did. -/
def pullNumbersSpec : ChangeSpec := { name := "pullNumbers", fn := fun _ => fun
  | [d1, d2, d3] => { results := [.lit (.bool true)], args := [d1, d2, d3] }
  | _ => none }
def pullNumbersRow : OpenClaim := { program := "ytiebfmenkpodeaa", sum := "90d7a9f177bf8107543b53d1f0633be58279cf3834dc554ceec6bc6dc6f44222", func := "dropper/dropperlaw04.PullNumbers", spec := "pullNumbers", unfollowed := true, recurses := true, apart := false }
def PullNumbersSaid : Prop := pullNumbersRow.holds Try.pinned (OpenSpec.ofChange pullNumbersSpec)

/-- ITS FALSE NEIGHBOUR: 'it returns false'. Refute it at one input. -/
def pullNumbersWrong : ChangeSpec := { name := "pullNumbers", fn := fun _ => fun
  | [d1, d2, d3] => { results := [.lit (.bool false)], args := [d1, d2, d3] }
  | _ => none }
def PullNumbersWrongFalsely : Prop := pullNumbersRow.holds Try.pinned (OpenSpec.ofChange pullNumbersWrong)

/-- 'dropperlaw04.PullWider': WHATEVER THE INPUT: true; the input reads as it did. -/
def pullWiderSpec : ChangeSpec := { name := "pullWider", fn := fun _ => fun
  | [d1, d2, d3] => { results := [.lit (.bool true)], args := [d1, d2, d3] }
  | _ => none }
def pullWiderRow : OpenClaim := { program := "ytiebfmenkpodeaa", sum := "90d7a9f177bf8107543b53d1f0633be58279cf3834dc554ceec6bc6dc6f44222", func := "dropper/dropperlaw04.PullWider", spec := "pullWider", unfollowed := true, recurses := true, apart := false }
def PullWiderSaid : Prop := pullWiderRow.holds Try.pinned (OpenSpec.ofChange pullWiderSpec)

/-- ITS FALSE NEIGHBOUR: 'it returns false'. Refute it at one input. -/
def pullWiderWrong : ChangeSpec := { name := "pullWider", fn := fun _ => fun
  | [d1, d2, d3] => { results := [.lit (.bool false)], args := [d1, d2, d3] }
  | _ => none }
def PullWiderWrongFalsely : Prop := pullWiderRow.holds Try.pinned (OpenSpec.ofChange pullWiderWrong)

/-- 'droppertop.TopPull': WHATEVER THE INPUT: true; the input reads as it did. -/
def topPullSpec : ChangeSpec := { name := "topPull", fn := fun _ => fun
  | [d1, d2, d3] => { results := [.lit (.bool true)], args := [d1, d2, d3] }
  | _ => none }
def topPullRow : OpenClaim := { program := "ytiebfmenkpodeaa", sum := "90d7a9f177bf8107543b53d1f0633be58279cf3834dc554ceec6bc6dc6f44222", func := "dropper/droppertop.TopPull", spec := "topPull", unfollowed := true, recurses := true, apart := false }
def TopPullSaid : Prop := topPullRow.holds Try.pinned (OpenSpec.ofChange topPullSpec)

/-- ITS FALSE NEIGHBOUR: 'it returns false'. Refute it at one input. -/
def topPullWrong : ChangeSpec := { name := "topPull", fn := fun _ => fun
  | [d1, d2, d3] => { results := [.lit (.bool false)], args := [d1, d2, d3] }
  | _ => none }
def TopPullWrongFalsely : Prop := topPullRow.holds Try.pinned (OpenSpec.ofChange topPullWrong)

/-- 'dropperlaw04.PullAnchors': WHATEVER THE INPUT: true; the input reads as it did. -/
def pullAnchorsSpec : ChangeSpec := { name := "pullAnchors", fn := fun _ => fun
  | [d1, d2] => { results := [.lit (.bool true)], args := [d1, d2] }
  | _ => none }
def pullAnchorsRow : OpenClaim := { program := "ytiebfmenkpodeaa", sum := "90d7a9f177bf8107543b53d1f0633be58279cf3834dc554ceec6bc6dc6f44222", func := "dropper/dropperlaw04.PullAnchors", spec := "pullAnchors", unfollowed := true, recurses := true, apart := false }
def PullAnchorsSaid : Prop := pullAnchorsRow.holds Try.pinned (OpenSpec.ofChange pullAnchorsSpec)

/-- ITS FALSE NEIGHBOUR: 'it returns false'. Refute it at one input. -/
def pullAnchorsWrong : ChangeSpec := { name := "pullAnchors", fn := fun _ => fun
  | [d1, d2] => { results := [.lit (.bool false)], args := [d1, d2] }
  | _ => none }
def PullAnchorsWrongFalsely : Prop := pullAnchorsRow.holds Try.pinned (OpenSpec.ofChange pullAnchorsWrong)

/-- 'dropperlaw04.PullFree': WHATEVER THE INPUT: true; the input reads as it did. -/
def pullFreeSpec : ChangeSpec := { name := "pullFree", fn := fun _ => fun
  | [d1, d2, d3] => { results := [.lit (.bool true)], args := [d1, d2, d3] }
  | _ => none }
def pullFreeRow : OpenClaim := { program := "ytiebfmenkpodeaa", sum := "90d7a9f177bf8107543b53d1f0633be58279cf3834dc554ceec6bc6dc6f44222", func := "dropper/dropperlaw04.PullFree", spec := "pullFree", unfollowed := true, recurses := true, apart := false }
def PullFreeSaid : Prop := pullFreeRow.holds Try.pinned (OpenSpec.ofChange pullFreeSpec)

/-- ITS FALSE NEIGHBOUR: 'it returns false'. Refute it at one input. -/
def pullFreeWrong : ChangeSpec := { name := "pullFree", fn := fun _ => fun
  | [d1, d2, d3] => { results := [.lit (.bool false)], args := [d1, d2, d3] }
  | _ => none }
def PullFreeWrongFalsely : Prop := pullFreeRow.holds Try.pinned (OpenSpec.ofChange pullFreeWrong)

/-- 'dropperlaw04.PullPlans': WHATEVER THE INPUT: true; the input reads as it did. -/
def pullPlansSpec : ChangeSpec := { name := "pullPlans", fn := fun _ => fun
  | [d1, d2, d3] => { results := [.lit (.bool true)], args := [d1, d2, d3] }
  | _ => none }
def pullPlansRow : OpenClaim := { program := "ytiebfmenkpodeaa", sum := "90d7a9f177bf8107543b53d1f0633be58279cf3834dc554ceec6bc6dc6f44222", func := "dropper/dropperlaw04.PullPlans", spec := "pullPlans", unfollowed := true, recurses := true, apart := false }
def PullPlansSaid : Prop := pullPlansRow.holds Try.pinned (OpenSpec.ofChange pullPlansSpec)

/-- ITS FALSE NEIGHBOUR: 'it returns false'. Refute it at one input. -/
def pullPlansWrong : ChangeSpec := { name := "pullPlans", fn := fun _ => fun
  | [d1, d2, d3] => { results := [.lit (.bool false)], args := [d1, d2, d3] }
  | _ => none }
def PullPlansWrongFalsely : Prop := pullPlansRow.holds Try.pinned (OpenSpec.ofChange pullPlansWrong)

/-- 'dropperlaw04.PullBests': WHATEVER THE INPUT: true; the input reads as it did. -/
def pullBestsSpec : ChangeSpec := { name := "pullBests", fn := fun _ => fun
  | [d1, d2] => { results := [.lit (.bool true)], args := [d1, d2] }
  | _ => none }
def pullBestsRow : OpenClaim := { program := "ytiebfmenkpodeaa", sum := "90d7a9f177bf8107543b53d1f0633be58279cf3834dc554ceec6bc6dc6f44222", func := "dropper/dropperlaw04.PullBests", spec := "pullBests", unfollowed := true, recurses := true, apart := false }
def PullBestsSaid : Prop := pullBestsRow.holds Try.pinned (OpenSpec.ofChange pullBestsSpec)

/-- ITS FALSE NEIGHBOUR: 'it returns false'. Refute it at one input. -/
def pullBestsWrong : ChangeSpec := { name := "pullBests", fn := fun _ => fun
  | [d1, d2] => { results := [.lit (.bool false)], args := [d1, d2] }
  | _ => none }
def PullBestsWrongFalsely : Prop := pullBestsRow.holds Try.pinned (OpenSpec.ofChange pullBestsWrong)

/- THE SECOND FORM. 'bulk': how many values and letters a reading holds, each counted each time it is reached (what is shared counts as often as it is met; a slice's spare places count too). A statement '..UptoSaid' is the law's where the arguments, and the package variables that the reading takes, are together of bulk at most 1048576: NARROWER than '..Said'. Prove '..Said' where nothing that the law and all that it calls make is longer than what came in: it says more and counts as full. Else prove '..UptoSaid'. A law counts once. -/
mutual
def uptoBulk {H : Type} : DataW H → Nat
  | .lit (.string bytes) => bytes.length + 1
  | .lit _ => 1
  | .nil => 1
  | .ptr d => uptoBulk d + 1
  | .slice elems spare => uptoBulkAll elems + uptoBulkAll spare + 1
  | .agg parts => uptoBulkAll parts + 1
  | .iface _ d => uptoBulk d + 1
  | .map entries => uptoBulkEntries entries + 1
  | .held _ => 1
def uptoBulkAll {H : Type} : List (DataW H) → Nat
  | [] => 0
  | d :: r => uptoBulk d + uptoBulkAll r
def uptoBulkEntries {H : Type} : List (Lit × DataW H) → Nat
  | [] => 0
  | x :: r => uptoBulkEntry x + uptoBulkEntries r
def uptoBulkEntry {H : Type} : Lit × DataW H → Nat
  | (.string bytes, d) => bytes.length + uptoBulk d + 1
  | (_, d) => uptoBulk d + 1
 end
def uptoSmall : (H : Type) → List (DataW H) → Bool := fun _ ds => decide (uptoBulkAll ds ≤ 1048576)
def OpenSpec.upto (s : _root_.Go.ChangeSpec) : _root_.Go.OpenSpec := { _root_.Go.OpenSpec.ofChange s with cond := some uptoSmall }

/-- 'dropperlaw04.PullStacks', WHERE WHAT IT READS IS OF BULK AT MOST 1048576: true; the input reads as it did. -/
def pullStacksUptoRow : OpenClaim := { program := "ytiebfmenkpodeaa", sum := "90d7a9f177bf8107543b53d1f0633be58279cf3834dc554ceec6bc6dc6f44222", func := "dropper/dropperlaw04.PullStacks", spec := "pullStacks", unfollowed := true, recurses := true, apart := false, narrowed := true }
def PullStacksUptoSaid : Prop := pullStacksUptoRow.holds Try.pinned (OpenSpec.upto pullStacksSpec)

/-- 'dropperlaw04.PullLongest', WHERE WHAT IT READS IS OF BULK AT MOST 1048576: true; the input reads as it did. -/
def pullLongestUptoRow : OpenClaim := { program := "ytiebfmenkpodeaa", sum := "90d7a9f177bf8107543b53d1f0633be58279cf3834dc554ceec6bc6dc6f44222", func := "dropper/dropperlaw04.PullLongest", spec := "pullLongest", unfollowed := true, recurses := true, apart := false, narrowed := true }
def PullLongestUptoSaid : Prop := pullLongestUptoRow.holds Try.pinned (OpenSpec.upto pullLongestSpec)

/-- 'dropperlaw04.PullNumbers', WHERE WHAT IT READS IS OF BULK AT MOST 1048576: true; the input reads as it did. -/
def pullNumbersUptoRow : OpenClaim := { program := "ytiebfmenkpodeaa", sum := "90d7a9f177bf8107543b53d1f0633be58279cf3834dc554ceec6bc6dc6f44222", func := "dropper/dropperlaw04.PullNumbers", spec := "pullNumbers", unfollowed := true, recurses := true, apart := false, narrowed := true }
def PullNumbersUptoSaid : Prop := pullNumbersUptoRow.holds Try.pinned (OpenSpec.upto pullNumbersSpec)

/-- 'dropperlaw04.PullWider', WHERE WHAT IT READS IS OF BULK AT MOST 1048576: true; the input reads as it did. -/
def pullWiderUptoRow : OpenClaim := { program := "ytiebfmenkpodeaa", sum := "90d7a9f177bf8107543b53d1f0633be58279cf3834dc554ceec6bc6dc6f44222", func := "dropper/dropperlaw04.PullWider", spec := "pullWider", unfollowed := true, recurses := true, apart := false, narrowed := true }
def PullWiderUptoSaid : Prop := pullWiderUptoRow.holds Try.pinned (OpenSpec.upto pullWiderSpec)

/-- 'droppertop.TopPull', WHERE WHAT IT READS IS OF BULK AT MOST 1048576: true; the input reads as it did. -/
def topPullUptoRow : OpenClaim := { program := "ytiebfmenkpodeaa", sum := "90d7a9f177bf8107543b53d1f0633be58279cf3834dc554ceec6bc6dc6f44222", func := "dropper/droppertop.TopPull", spec := "topPull", unfollowed := true, recurses := true, apart := false, narrowed := true }
def TopPullUptoSaid : Prop := topPullUptoRow.holds Try.pinned (OpenSpec.upto topPullSpec)

/-- 'dropperlaw04.PullAnchors', WHERE WHAT IT READS IS OF BULK AT MOST 1048576: true; the input reads as it did. -/
def pullAnchorsUptoRow : OpenClaim := { program := "ytiebfmenkpodeaa", sum := "90d7a9f177bf8107543b53d1f0633be58279cf3834dc554ceec6bc6dc6f44222", func := "dropper/dropperlaw04.PullAnchors", spec := "pullAnchors", unfollowed := true, recurses := true, apart := false, narrowed := true }
def PullAnchorsUptoSaid : Prop := pullAnchorsUptoRow.holds Try.pinned (OpenSpec.upto pullAnchorsSpec)

/-- 'dropperlaw04.PullFree', WHERE WHAT IT READS IS OF BULK AT MOST 1048576: true; the input reads as it did. -/
def pullFreeUptoRow : OpenClaim := { program := "ytiebfmenkpodeaa", sum := "90d7a9f177bf8107543b53d1f0633be58279cf3834dc554ceec6bc6dc6f44222", func := "dropper/dropperlaw04.PullFree", spec := "pullFree", unfollowed := true, recurses := true, apart := false, narrowed := true }
def PullFreeUptoSaid : Prop := pullFreeUptoRow.holds Try.pinned (OpenSpec.upto pullFreeSpec)

/-- 'dropperlaw04.PullPlans', WHERE WHAT IT READS IS OF BULK AT MOST 1048576: true; the input reads as it did. -/
def pullPlansUptoRow : OpenClaim := { program := "ytiebfmenkpodeaa", sum := "90d7a9f177bf8107543b53d1f0633be58279cf3834dc554ceec6bc6dc6f44222", func := "dropper/dropperlaw04.PullPlans", spec := "pullPlans", unfollowed := true, recurses := true, apart := false, narrowed := true }
def PullPlansUptoSaid : Prop := pullPlansUptoRow.holds Try.pinned (OpenSpec.upto pullPlansSpec)

/-- 'dropperlaw04.PullBests', WHERE WHAT IT READS IS OF BULK AT MOST 1048576: true; the input reads as it did. -/
def pullBestsUptoRow : OpenClaim := { program := "ytiebfmenkpodeaa", sum := "90d7a9f177bf8107543b53d1f0633be58279cf3834dc554ceec6bc6dc6f44222", func := "dropper/dropperlaw04.PullBests", spec := "pullBests", unfollowed := true, recurses := true, apart := false, narrowed := true }
def PullBestsUptoSaid : Prop := pullBestsUptoRow.holds Try.pinned (OpenSpec.upto pullBestsSpec)

end Rows
end Go.Proofs.Ytiebfmenkpodeaa
