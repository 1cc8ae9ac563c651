/- The document's Some: whether some line goes through all windows. Plain Lean. -/
import Derived.Test.YtiapmkndgalgnaaPRef
import Derived.Test.YtiapmkndgalgnaaGF25
namespace Go.Proofs.Ytiapmkndgalgnaa.G
set_option linter.unusedVariables false
open Go.RowKit Go.Proofs.YtiapmkndgalgnaaW.PrintWords Go.Proofs.YtiapmkndgalgnaaW.PrintLast
theorem feas_some {l : List S73} (h : Okl l) (h2 : 2 ≤ l.length) : Feas l ↔ (encS (finS l)).2.2.2.2 = true := by
  have hF := feas_iff h
  have hE := all_ext h
  unfold finS
  generalize allS l l.length = s at *
  cases s with
  | none =>
    refine absurd ⟨rd_mem (show 0 < l.length by omega), rd_mem (show 1 < l.length by omega), h.lt (show 0 < 1 by omega) (by omega)⟩ (hE _ _)
  | some z =>
    obtain ⟨p, q⟩ := z
    rw [hF]
    dsimp only
    by_cases c : q < p
    · simp [c, encS]
    · simp [c, encS]
theorem feas_one {l : List S73} (h : Okl l) (h2 : l.length < 2) : Feas l := by
  match l, h2 with
  | [], _ => exact ⟨0, 0, by simp⟩
  | [w], _ =>
    refine ⟨0, w.f1, ?_⟩
    intro x hx
    simp at hx
    subst hx
    have : (x.f1 : Rat) ≤ x.f2 := Rat.intCast_le_intCast.2 (h.bnd x (by simp)).2.2.2.1
    unfold thr
    grind

open Classical in
theorem some_ev {l : List S73} (h : Okl l) (hl : l.length ≤ 4611686018427387904) : Ev (fun k => dropperref03_Some.f k l) (decide (Feas l)) := by
  by_cases c : l.length < 2
  · rw [decide_eq_true (feas_one h c)]
    refine Ev.congr (fun k => ?_) (Ev.now _)
    unfold dropperref03_Some.f
    rw [if_pos (by omega)]
  · have e := ref_slopes_ev h hl
    have hf := feas_some h (by omega)
    have hd : decide (Feas l) = (encS (finS l)).2.2.2.2 := by
      by_cases z : Feas l
      · rw [decide_eq_true z, hf.1 z]
      · rw [decide_eq_false z]
        cases q : (encS (finS l)).2.2.2.2 with
        | false => rfl
        | true => exact absurd (hf.2 q) z
    rw [hd]
    refine Ev.congr (fun k => ?_) (Ev.bind (f := fun _ t => some t.2.2.2.2) e (Ev.now _))
    unfold dropperref03_Some.f
    rw [if_neg (by omega)]
end Go.Proofs.Ytiapmkndgalgnaa.G
