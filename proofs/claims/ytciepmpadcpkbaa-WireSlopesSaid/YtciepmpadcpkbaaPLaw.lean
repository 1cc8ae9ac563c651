/- What all laws of this seat begin with: the bound on sizes, the check of the examples, lists that are the same. Plain Lean. -/
import Derived.Test.YtciepmpadcpkbaaRat
import Derived.Test.YtciepmpadcpkbaaPBase
import Derived.Test.YtciepmpadcpkbaaGF13
import Derived.Test.YtciepmpadcpkbaaGF14
namespace Go.Proofs.Ytciepmpadcpkbaa.G
set_option linter.unusedVariables false
set_option linter.unusedSimpArgs false
open Go.RowKit Go.Proofs.YtciepmpadcpkbaaW.PrintWords Go.Proofs.YtciepmpadcpkbaaW.PrintLast
theorem awake_ev : Ev (fun k => dropperlaw02_Awake.f k) true := Ev.of (fun k => dropperlaw02_Awake.mono k) (k := 40) (by decide +kernel)
theorem large0_ev (l : List S72) : Ev (fun k => dropperlaw02_Large.f k l []) (decide ((l.length : Int) > 50)) := by
  refine ev_some _ fun k => ?_
  show dropperlaw02_Large.l0 (k + 1) l [] 0 = _
  rw [dropperlaw02_Large.l0, if_neg (by simp)]
theorem large_ev (l : List S72) : ∀ (hs : List (List Int)), hs.length ≤ 2 → ∃ b : Bool, Ev (fun k => dropperlaw02_Large.f k l hs) b ∧ (b = false → l.length ≤ 50 ∧ ∀ x ∈ hs, x.length ≤ 50) := by
  intro hs hh
  have loop : ∀ (d i : Nat), hs.length - i = d → i ≤ hs.length → (∀ j, j < i → (rd_L1 hs (j : Int)).length ≤ 50) → ∃ b : Bool, Ev (fun k => dropperlaw02_Large.l0 k l hs i) b ∧ (b = false → l.length ≤ 50 ∧ ∀ j, j < hs.length → (rd_L1 hs (j : Int)).length ≤ 50) := by
    intro d
    induction d with
    | zero =>
      intro i hd hi h1
      obtain rfl : i = hs.length := by omega
      refine ⟨decide ((l.length : Int) > 50), ev_some _ fun k => ?_, fun h => ⟨by have := of_decide_eq_false h; omega, h1⟩⟩
      rw [dropperlaw02_Large.l0, if_neg (by omega)]
    | succ d ih =>
      intro i hd hi h1
      by_cases c : ((rd_L1 hs (i : Int)).length : Int) > 50
      · refine ⟨true, ev_some _ fun k => ?_, fun h => by cases h⟩
        rw [dropperlaw02_Large.l0, if_pos (by omega), if_pos (by omega), if_pos c]
      · obtain ⟨b, e, hb⟩ := ih (i + 1) (by omega) (by omega) (fun j hj => if q : j = i then by subst q; omega else h1 j (by omega))
        refine ⟨b, Ev.step (fun k => ?_) e, hb⟩
        rw [dropperlaw02_Large.l0, if_pos (by omega), if_pos (by omega), if_neg c, wsucc i (by omega)]
  obtain ⟨b, e, hb⟩ := loop hs.length 0 (by omega) (by omega) (by omega)
  refine ⟨b, e, fun h => ⟨(hb h).1, fun x hx => ?_⟩⟩
  obtain ⟨j, hj, rfl⟩ := List.getElem_of_mem hx
  have := (hb h).2 j hj
  simpa [rd_L1, List.getD_eq_getElem?_getD, hj] using this
theorem same_loop (l : List Int) (hl : l.length ≤ 4611686018427387904) : ∀ (d i : Nat), l.length - i = d → i ≤ l.length → Ev (fun k => dropperlaw02_SameInts.l0 k l l i) true := by
  intro d
  induction d with
  | zero =>
    intro i hd hi
    refine ev_some _ fun k => ?_
    rw [dropperlaw02_SameInts.l0, if_neg (by omega)]
  | succ d ih =>
    intro i hd hi
    refine Ev.step (fun k => ?_) (ih (i + 1) (by omega) (by omega))
    rw [dropperlaw02_SameInts.l0, if_pos (by omega), if_pos (by omega), if_pos (by omega), if_pos rfl, wsucc i (by omega)]
theorem same_ev (l : List Int) (hl : l.length ≤ 4611686018427387904) : Ev (fun k => dropperlaw02_SameInts.f k l l) true := by
  refine Ev.congr (fun k => ?_) (same_loop l hl l.length 0 (by omega) (by omega))
  unfold dropperlaw02_SameInts.f
  rw [if_pos rfl]; rfl
end Go.Proofs.Ytciepmpadcpkbaa.G
