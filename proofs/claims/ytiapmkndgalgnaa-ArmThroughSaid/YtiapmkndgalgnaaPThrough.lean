/- The law ArmThrough of the printed functions. Plain Lean. -/
import Derived.Test.YtiapmkndgalgnaaPRef
import Derived.Test.YtiapmkndgalgnaaPFirst
import Derived.Test.YtiapmkndgalgnaaGF7
namespace Go.Proofs.Ytiapmkndgalgnaa.G
set_option linter.unusedVariables false
open Go.RowKit Go.Proofs.YtiapmkndgalgnaaW.PrintWords Go.Proofs.YtiapmkndgalgnaaW.PrintLast
open Rat (divInt)

/-- A line within bounds. -/
def isL (A B D : Int) : Prop := -1000000 ≤ A ∧ A ≤ 1000000 ∧ -1000000000000 ≤ B ∧ B ≤ 1000000000000 ∧ 1 ≤ D ∧ D ≤ 1000000
instance (A B D : Int) : Decidable (isL A B D) := by unfold isL; infer_instance
theorem arm_isl (A B D : Int) : arm_isLine.f A B D = some (decide (isL A B D)) := by
  unfold arm_isLine.f
  simp only [within_some]
  by_cases c1 : -1000000 ≤ A ∧ A ≤ 1000000
  · rw [decide_eq_true c1]
    simp only [Option.bind_some, if_true]
    by_cases c2 : -1000000000000 ≤ B ∧ B ≤ 1000000000000
    · rw [decide_eq_true c2]
      simp only [if_true]
      exact congrArg some (decide_eq_decide.2 ⟨fun z => ⟨c1.1, c1.2, c2.1, c2.2, z.1, z.2⟩, fun z => ⟨z.2.2.2.2.1, z.2.2.2.2.2⟩⟩)
    · rw [decide_eq_false c2]
      simp only [Bool.false_eq_true, if_false]
      rw [decide_eq_false (fun z => c2 ⟨z.2.2.1, z.2.2.2.1⟩)]
  · rw [decide_eq_false c1]
    simp only [Option.bind_some, Bool.false_eq_true, if_false]
    rw [decide_eq_false (fun z => c1 ⟨z.1, z.2.1⟩)]
theorem ref_isl (A B D : Int) : dropperref03_IsLine.f A B D = some (decide (isL A B D)) := by
  unfold dropperref03_IsLine.f
  by_cases c1 : A ≥ -1000000
  · rw [if_pos c1]
    by_cases c2 : A ≤ 1000000
    · rw [if_pos c2]
      by_cases c3 : B ≥ -1000000000000
      · rw [if_pos c3]
        by_cases c4 : B ≤ 1000000000000
        · rw [if_pos c4]
          by_cases c5 : D ≥ 1
          · rw [if_pos c5]
            exact congrArg some (decide_eq_decide.2 ⟨fun z => ⟨c1, c2, c3, c4, c5, z⟩, fun z => z.2.2.2.2.2⟩)
          · rw [if_neg c5, decide_eq_false (fun z => c5 z.2.2.2.2.1)]
        · rw [if_neg c4, decide_eq_false (fun z => c4 z.2.2.2.1)]
      · rw [if_neg c3, decide_eq_false (fun z => c3 z.2.2.1)]
    · rw [if_neg c2, decide_eq_false (fun z => c2 z.2.1)]
  · rw [if_neg c1, decide_eq_false (fun z => c1 z.1)]

theorem ref_thr_loop (l : List S73) (hl : l.length ≤ 4611686018427387904) (A B D : Int) : ∀ (d i : Nat), l.length - i = d → i ≤ l.length →
    Ev (fun k => dropperref03_Through.l0 k l i A B D) (!((l.drop i).any (arm_Through.miss A B D)), 0) := by
  intro d
  induction d with
  | zero =>
    intro i hd hi
    obtain rfl : i = l.length := by omega
    refine ev_some _ fun k => ?_
    rw [dropperref03_Through.l0, if_neg (by omega), List.drop_length]
    rfl
  | succ d ih =>
    intro i hd hi
    have hlt : i < l.length := by omega
    have hw : wrap64 ((i : Int) + 1) = ((i + 1 : Nat) : Int) := by rw [w64 (by omega) (by omega)]; rfl
    have q1 : (i : Int) < (l.length : Int) := by omega
    have q2 : (0 : Int) ≤ (i : Int) := by omega
    have e := ih (i + 1) (by omega) (by omega)
    rw [drop_rd l i hlt, List.any_cons]
    generalize hx : rd_T73 l (i : Int) = x
    have red : ∀ k, dropperref03_Through.l0 (k + 1) l i A B D = if wrap64 (wrap64 (A * x.f0) + B) < wrap64 (x.f1 * D) then some (false, 0) else if wrap64 (wrap64 (A * x.f0) + B) > wrap64 (x.f2 * D) then some (false, 0) else dropperref03_Through.l0 k l ((i + 1 : Nat) : Int) A B D := by
      intro k
      rewrite [dropperref03_Through.l0, if_pos q1, if_pos q2, hx, hw]
      rfl
    unfold arm_Through.miss at e ⊢
    generalize wrap64 (wrap64 (A * x.f0) + B) = v at *
    generalize wrap64 (x.f1 * D) = lo at *
    generalize wrap64 (x.f2 * D) = hi at *
    by_cases c1 : v < lo
    · refine ev_some _ fun k => ?_
      rw [red, if_pos c1, decide_eq_false (by omega)]
      simp
    by_cases c2 : v > hi
    · refine ev_some _ fun k => ?_
      rw [red, if_neg c1, if_pos c2, decide_eq_false (by omega)]
      simp
    · rw [decide_eq_true (by omega)]
      simp only [Bool.not_true, Bool.false_or]
      exact Ev.step (fun k => by rw [red, if_neg c1, if_neg c2]) e

def thrR (l : List S73) (A B D : Int) : Bool × Int := if okV l = true then (if isL A B D then (!(l.any (arm_Through.miss A B D)), 0) else (false, 2)) else (false, 20)
theorem arm_Through_ev (l : List S73) (hl : l.length ≤ 4611686018427387904) (A B D : Int) : Ev (fun k => arm_Through.f k l A B D) (thrR l A B D) := by
  have v1 := arm_valid_ev l hl
  unfold thrR
  cases hv : okV l with
  | false => rw [hv] at v1; exact Ev.bind v1 (Ev.now _)
  | true =>
    rw [hv] at v1
    refine Ev.bind v1 ?_
    simp only [if_true]
    rw [arm_isl]
    by_cases c : isL A B D
    · simp only [c, decide_true, Option.bind_some, if_true]; exact Ev.now _
    · simp only [c, decide_false, Option.bind_some, if_false, Bool.false_eq_true]; exact Ev.now _
theorem ref_Through_ev (l : List S73) (hl : l.length ≤ 4611686018427387904) (A B D : Int) : Ev (fun k => dropperref03_Through.f k l A B D) (thrR l A B D) := by
  have v1 := ref_valid_ev l hl
  unfold thrR
  cases hv : okV l with
  | false => rw [hv] at v1; exact Ev.bind v1 (Ev.now _)
  | true =>
    rw [hv] at v1
    refine Ev.bind v1 ?_
    simp only [if_true]
    rw [ref_isl]
    by_cases c : isL A B D
    · simp only [c, decide_true, Option.bind_some, if_true]
      exact ref_thr_loop l hl A B D l.length 0 (by omega) (by omega)
    · simp only [c, decide_false, Option.bind_some, if_false, Bool.false_eq_true]; exact Ev.now _

theorem at_bound {A B D t : Int} (h : isL A B D) (h0 : 0 ≤ t) (h1 : t ≤ 100000) : wrap64 (wrap64 (A * t) + B) = A * t + B ∧ -4611686018427387904 ≤ A * t + B ∧ A * t + B ≤ 4611686018427387904 := by
  obtain ⟨a1, a2, a3, a4, _⟩ := h
  have m := mul_bd' (a := A) (b := t) (A := 1000000) (B := 100000) (by omega) (by omega)
  rw [w64 (n := A * t) (by omega) (by omega), w64 (by omega) (by omega)]
  omega
def whereR (A B D t : Int) : Int × Int × Int := if isL A B D ∧ 0 ≤ t ∧ t ≤ 100000 then ((divInt (A * t + B) D).num, ((divInt (A * t + B) D).den : Int), 0) else (0, 0, 2)
theorem arm_Where_ev (A B D t : Int) : Ev (fun k => arm_Where.f k A B D t) (whereR A B D t) := by
  unfold whereR
  by_cases c : isL A B D
  · by_cases c2 : 0 ≤ t ∧ t ≤ 100000
    · rw [if_pos ⟨c, c2.1, c2.2⟩]
      obtain ⟨e, n1, n2⟩ := at_bound c c2.1 c2.2
      obtain ⟨K, hK⟩ := lowest_ev (A * t + B) D n1 n2 (by have := c.2.2.2.2.1; omega) (by have := c.2.2.2.2.2; omega)
      refine ⟨K, fun k hk => ?_⟩
      have := hK k hk
      dsimp only at this ⊢
      unfold arm_Where.f
      rw [arm_isl, decide_eq_true c, within_some, decide_eq_true c2, e]
      simp only [Option.bind_some, if_true]
      rw [this]
      rfl
    · rw [if_neg (fun z => c2 z.2)]
      refine Ev.congr (fun k => ?_) (Ev.now _)
      unfold arm_Where.f
      rw [arm_isl, decide_eq_true c, within_some, decide_eq_false c2]
      rfl
  · rw [if_neg (fun z => c z.1)]
    refine Ev.congr (fun k => ?_) (Ev.now _)
    unfold arm_Where.f
    rw [arm_isl, decide_eq_false c]
    rfl
theorem ref_Where_ev (A B D t : Int) : Ev (fun k => dropperref03_Where.f k A B D t) (whereR A B D t) := by
  unfold whereR
  by_cases c : isL A B D
  · by_cases c2 : 0 ≤ t ∧ t ≤ 100000
    · rw [if_pos ⟨c, c2.1, c2.2⟩]
      obtain ⟨e, n1, n2⟩ := at_bound c c2.1 c2.2
      obtain ⟨K, hK⟩ := ratio_ev (A * t + B) D n1 n2 (by have := c.2.2.2.2.1; omega) (by have := c.2.2.2.2.2; omega)
      refine ⟨K, fun k hk => ?_⟩
      have := hK k hk
      dsimp only at this ⊢
      unfold dropperref03_Where.f
      rw [ref_isl, decide_eq_true c, e]
      simp only [Option.bind_some, if_true]
      rw [if_neg (by omega), if_neg (by omega), this]
      rfl
    · rw [if_neg (fun z => c2 z.2)]
      refine Ev.congr (fun k => ?_) (Ev.now _)
      unfold dropperref03_Where.f
      rw [ref_isl, decide_eq_true c]
      simp only [Option.bind_some, if_true]
      by_cases c3 : t < 0
      · rw [if_pos c3]
      · rw [if_neg c3, if_pos (by omega)]
  · rw [if_neg (fun z => c z.1)]
    refine Ev.congr (fun k => ?_) (Ev.now _)
    unfold dropperref03_Where.f
    rw [ref_isl, decide_eq_false c]
    rfl

theorem ArmThrough_pure (l : List S73) (A B D t : Int) (hx : ∀ x ∈ l, (Lit.int .i64 x.f0).wf = true ∧ (Lit.int .i64 x.f1).wf = true ∧ (Lit.int .i64 x.f2).wf = true) (wA : (Lit.int .i64 A).wf = true) (wB : (Lit.int .i64 B).wf = true) (wD : (Lit.int .i64 D).wf = true) (wt : (Lit.int .i64 t).wf = true) : ∃ k, dropperlaw03_ArmThrough.f k l A B D t = some true := by
  obtain ⟨K6, f1⟩ := first_ev
  by_cases c : (l.length : Int) > 40
  · refine ⟨K6, ?_⟩
    have := f1 K6 (Nat.le_refl _)
    dsimp only at this
    unfold dropperlaw03_ArmThrough.f dropperlaw03_Long.f
    rw [decide_eq_true c]
    simp [this]
  have hl : l.length ≤ 4611686018427387904 := by omega
  obtain ⟨K1, s1⟩ := arm_Through_ev l hl A B D
  obtain ⟨K2, s2⟩ := ref_Through_ev l hl A B D
  obtain ⟨K3, s3⟩ := arm_Where_ev A B D t
  obtain ⟨K4, s4⟩ := ref_Where_ev A B D t
  generalize hk : K1 + K2 + K3 + K4 + K6 = k
  have a1 := s1 k (by omega)
  have a2 := s2 k (by omega)
  have a3 := s3 k (by omega)
  have a4 := s4 k (by omega)
  have a6 := f1 k (by omega)
  dsimp only at a1 a2 a3 a4 a6
  refine ⟨k, ?_⟩
  unfold dropperlaw03_ArmThrough.f dropperlaw03_Long.f
  rw [decide_eq_false c]
  generalize thrR l A B D = x at *
  generalize whereR A B D t = y at *
  simp [a1, a2, a3, a4, a6]
end Go.Proofs.Ytiapmkndgalgnaa.G
