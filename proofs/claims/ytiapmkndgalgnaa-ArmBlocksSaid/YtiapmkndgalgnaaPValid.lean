/- Windows as described: both programs' Valid tell the same, of lists of at most 2^62 windows. Plain Lean. -/
import Derived.Test.YtiapmkndgalgnaaRat
import Derived.Test.YtiapmkndgalgnaaGF23
import Derived.Test.YtiapmkndgalgnaaGF24
namespace Go.Proofs.Ytiapmkndgalgnaa.G
open Go.RowKit Go.Proofs.YtiapmkndgalgnaaW.PrintWords Go.Proofs.YtiapmkndgalgnaaW.PrintLast

theorem rd_nat (l : List S73) (i : Nat) (h : i < l.length) : rd_T73 l (i : Int) = l[i] := by
  simp [rd_T73, List.getD_eq_getElem?_getD, h]
theorem drop_rd (l : List S73) (i : Nat) (h : i < l.length) : l.drop i = rd_T73 l (i : Int) :: l.drop (i + 1) := by
  rw [rd_nat l i h]; exact List.drop_eq_getElem_cons h

/-- A window that is as described, behind one at 'last'. -/
def okN (last : Int) (w : S73) : Prop := last + 1 ≤ w.f0 ∧ w.f0 ≤ 100000 ∧ -1000 ≤ w.f1 ∧ w.f1 ≤ w.f2 ∧ w.f2 ≤ 1000
instance (last : Int) (w : S73) : Decidable (okN last w) := by unfold okN; infer_instance
/-- Windows that are as described, behind one at 'last'. -/
def okF : Int → List S73 → Bool
  | _, [] => true
  | last, w :: ws => decide (okN last w) && okF w.f0 ws
/-- Valid. -/
def okV (l : List S73) : Bool := decide (1 ≤ l.length ∧ l.length ≤ 30) && okF (-1) l

theorem ev_some {α : Type} (r : α) {g : Nat → Option α} (h : ∀ k, g (k + 1) = some r) : Ev g r := Ev.step (f := fun _ => some r) h (Ev.now r)

theorem arm_valid_loop (l : List S73) (hl : l.length ≤ 4611686018427387904) : ∀ (d i : Nat) (last : Int), l.length - i = d → i ≤ l.length → -1 ≤ last → last ≤ 100000 →
    Ev (fun k => arm_Valid.l0 k last l l.length i) (okF last (l.drop i)) := by
  intro d
  induction d with
  | zero =>
    intro i last hd hi h1 h2
    have e : i = l.length := by omega
    subst e
    refine ev_some _ fun k => ?_
    simp only [arm_Valid.l0]
    rw [if_neg (by omega), List.drop_length]
    rfl
  | succ d ih =>
    intro i last hd hi h1 h2
    have hlt : i < l.length := by omega
    rw [drop_rd l i hlt]
    generalize hw : rd_T73 l (i : Int) = w
    by_cases c : okN last w
    · have c' := c
      obtain ⟨c1, c2, c3, c4, c5⟩ := c'
      refine Ev.step (f := fun k => arm_Valid.l0 k w.f0 l l.length (i + 1 : Nat)) (fun k => ?_) ?_
      · simp only [arm_Valid.l0]
        rw [if_pos (by omega), if_pos (by omega), if_pos (by omega), hw, within_some, within_some, w64 (n := last + 1) (by omega) (by omega), decide_eq_true (by omega), decide_eq_true (by omega)]
        simp only [Option.bind_some, if_true]
        rw [if_neg (by omega), w64 (by omega) (by omega)]
        rfl
      · have := ih (i + 1) w.f0 (by omega) (by omega) (by omega) (by omega)
        simpa [okF, c] using this
    · have e : okF last (w :: l.drop (i + 1)) = false := by simp [okF, c]
      rw [e]
      refine ev_some _ fun k => ?_
      simp only [arm_Valid.l0]
      rw [if_pos (by omega), if_pos (by omega), if_pos (by omega), hw, within_some, within_some, w64 (n := last + 1) (by omega) (by omega)]
      by_cases a1 : last + 1 ≤ w.f0 ∧ w.f0 ≤ 100000
      · rw [decide_eq_true a1]
        simp only [Option.bind_some, if_true]
        by_cases a2 : -1000 ≤ w.f1 ∧ w.f1 ≤ w.f2
        · rw [decide_eq_true a2]
          simp only [if_true]
          rw [if_pos]
          unfold okN at c
          omega
        · rw [decide_eq_false a2]
          simp
      · rw [decide_eq_false a1]
        simp

theorem arm_valid_ev (l : List S73) (hl : l.length ≤ 4611686018427387904) : Ev (fun k => arm_Valid.f k l) (okV l) := by
  obtain ⟨K, h⟩ := arm_valid_loop l hl l.length 0 (-1) (by omega) (by omega) (by omega) (by omega)
  refine ⟨K, fun k hk => ?_⟩
  have := h k hk
  dsimp only at this ⊢
  unfold arm_Valid.f okV
  rw [within_some]
  by_cases c : (1 : Int) ≤ l.length ∧ (l.length : Int) ≤ 30
  · rw [decide_eq_true c, decide_eq_true (show 1 ≤ l.length ∧ l.length ≤ 30 by omega)]
    simp only [Option.bind_some, if_true, Bool.true_and]
    simpa using this
  · rw [decide_eq_false c, decide_eq_false (show ¬ (1 ≤ l.length ∧ l.length ≤ 30) by omega)]
    simp

/-- Where the window ahead of i is. -/
def lastOf (l : List S73) (i : Nat) : Int := if i = 0 then -1 else (rd_T73 l ((i - 1 : Nat) : Int)).f0

theorem ref_valid_loop (l : List S73) (hl : l.length ≤ 9223372036854775807) : ∀ (d i : Nat), l.length - i = d → i ≤ l.length → -1 ≤ lastOf l i →
    Ev (fun k => dropperref03_Valid.l0 k l i) (decide (1 ≤ l.length ∧ l.length ≤ 30) && okF (lastOf l i) (l.drop i)) := by
  intro d
  induction d with
  | zero =>
    intro i hd hi ho
    have e : i = l.length := by omega
    subst e
    refine ev_some _ fun k => ?_
    simp only [dropperref03_Valid.l0]
    rw [if_neg (by omega), List.drop_length]
    by_cases c : 1 ≤ l.length
    · rw [if_pos (by omega)]
      simp [okF, c]
      omega
    · rw [if_neg (by omega)]
      simp [okF, c]
  | succ d ih =>
    intro i hd hi ho
    have hlt : i < l.length := by omega
    have hn : lastOf l (i + 1) = (rd_T73 l (i : Int)).f0 := by simp [lastOf]
    rw [drop_rd l i hlt]
    generalize hw : rd_T73 l (i : Int) = w at *
    have hp : ∀ (a : Option Bool), (if (i : Int) > 0 then (if 0 ≤ wrap64 ((i : Int) - 1) then (if wrap64 ((i : Int) - 1) < (l.length : Int) then (if w.f0 ≤ (rd_T73 l (wrap64 ((i : Int) - 1))).f0 then some false else a) else none) else none) else a) =
        if (0 < i ∧ w.f0 ≤ lastOf l i) then some false else a := by
      intro a
      by_cases c : 0 < i
      · have e1 : wrap64 ((i : Int) - 1) = ((i - 1 : Nat) : Int) := by rw [w64 (by omega) (by omega)]; omega
        have e2 : lastOf l i = (rd_T73 l ((i - 1 : Nat) : Int)).f0 := by unfold lastOf; rw [if_neg (by omega)]
        rw [e1, e2, if_pos (by omega), if_pos (by omega), if_pos (by omega)]
        by_cases c2 : w.f0 ≤ (rd_T73 l ((i - 1 : Nat) : Int)).f0
        · rw [if_pos c2, if_pos ⟨c, c2⟩]
        · rw [if_neg c2, if_neg (fun h => c2 h.2)]
      · rw [if_neg (by omega), if_neg (fun h => c h.1)]
    have h0 : i = 0 → lastOf l i = -1 := by intro e; unfold lastOf; rw [if_pos e]
    by_cases c : okN (lastOf l i) w
    · have c' := c
      obtain ⟨c1, c2, c3, c4, c5⟩ := c'
      refine Ev.step (f := fun k => dropperref03_Valid.l0 k l (i + 1 : Nat)) (fun k => ?_) ?_
      · simp only [dropperref03_Valid.l0]
        rw [if_pos (by omega), if_pos (by omega), hw, hp, if_neg (by omega), if_neg (by omega), if_neg (by omega), if_neg (by omega), if_neg (by omega), if_neg (by omega), w64 (by omega) (by omega)]
        rfl
      · have := ih (i + 1) (by omega) (by omega) (by omega)
        rw [hn] at this
        simpa [okF, c] using this
    · have e : okF (lastOf l i) (w :: l.drop (i + 1)) = false := by simp [okF, c]
      rw [e, Bool.and_false]
      refine ev_some _ fun k => ?_
      simp only [dropperref03_Valid.l0]
      rw [if_pos (by omega), if_pos (by omega), hw, hp]
      unfold okN at c
      by_cases a1 : w.f0 < 0
      · rw [if_pos a1]
      rw [if_neg a1]
      by_cases a2 : w.f0 > 100000
      · rw [if_pos a2]
      rw [if_neg a2]
      by_cases a3 : 0 < i ∧ w.f0 ≤ lastOf l i
      · rw [if_pos a3]
      rw [if_neg a3]
      by_cases a4 : w.f1 < -1000
      · rw [if_pos a4]
      rw [if_neg a4]
      by_cases a5 : w.f2 > 1000
      · rw [if_pos a5]
      rw [if_neg a5, if_pos]
      by_cases a6 : 0 < i
      · omega
      · have := h0 (by omega)
        omega

theorem ref_valid_far (l : List S73) (hl : l.length ≤ 9223372036854775807) : Ev (fun k => dropperref03_Valid.f k l) (okV l) := by
  have h := ref_valid_loop l hl l.length 0 (by omega) (by omega) (by simp [lastOf])
  simpa [okV, lastOf, dropperref03_Valid.f] using h
theorem ref_valid_ev (l : List S73) (hl : l.length ≤ 4611686018427387904) : Ev (fun k => dropperref03_Valid.f k l) (okV l) := ref_valid_far l (by omega)
end Go.Proofs.Ytiapmkndgalgnaa.G
