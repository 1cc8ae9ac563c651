/- The law PullNumbers of the printed functions. Plain Lean. -/
import Derived.Test.YtiebfmenkpodeaaPNum2
namespace Go.Proofs.Ytiebfmenkpodeaa.G
set_option linter.unusedVariables false
set_option linter.unusedSimpArgs false
open Go.RowKit Go.Proofs.YtiebfmenkpodeaaW.PrintWords Go.Proofs.YtiebfmenkpodeaaW.PrintLast
theorem same_ev {x : List Int} (hx : x.length ≤ 1000) : Ev (fun k => dropperlaw04_SameInts.f k x x) true := by
  have loop : ∀ (d i : Nat), i + d = x.length → Ev (fun k => dropperlaw04_SameInts.l0 k x x (i : Int)) true := by
    intro d
    induction d with
    | zero =>
      intro i hi
      refine ev_some _ fun k => ?_
      rw [dropperlaw04_SameInts.l0, if_neg (by omega)]
    | succ d ih =>
      intro i hi
      refine Ev.step (fun k => ?_) (ih (i + 1) (by omega))
      rw [dropperlaw04_SameInts.l0, if_pos (by omega), if_pos (by omega), if_pos (by omega), if_pos rfl, wsucc i (by omega)]
  refine Ev.congr (fun k => ?_) (loop x.length 0 (by omega))
  unfold dropperlaw04_SameInts.f
  rw [if_pos rfl]
  rfl
theorem open_ev {l : List Int} {a b : Int} {v : Bool} (e : Ev (fun k => pull_Valid.f k l a b) v) : Ev (fun k => pull_open.f k l a b) (if v = true then (l, a, b, 0) else ([], 0, 0, 40)) := by
  obtain ⟨K, s⟩ := e
  refine ⟨K, fun k hk => ?_⟩
  have := s k hk
  dsimp only at this ⊢
  unfold pull_open.f
  rw [this]
  cases v <;> rfl
theorem number_ev (l : List Int) (hl : l.length ≤ 50) (a b : Int) : ∃ R : Int × Int, Ev (fun k => pull_Number.f k l a b) R ∧ Ev (fun k => dropperref04_Number.f k l a b) R := by
  obtain ⟨v, e1, e2, hv⟩ := valid_ev l hl a b
  obtain ⟨K1, s1⟩ := open_ev e1
  obtain ⟨K2, s2⟩ := e2
  cases v with
  | false =>
    refine ⟨(0, 40), ⟨K1, fun k hk => ?_⟩, ⟨K2, fun k hk => ?_⟩⟩
    · have t : pull_open.f k l a b = some ([], 0, 0, 40) := s1 k hk
      dsimp only; unfold pull_Number.f; rw [t]; rfl
    · have t : dropperref04_Valid.f k l a b = some false := s2 k hk
      dsimp only; unfold dropperref04_Number.f; rw [t]; rfl
  | true =>
    obtain ⟨h2, h30⟩ := hv rfl
    obtain ⟨N, hN⟩ := onw_ex (mayB l a b) (n := l.length) (by omega)
    obtain ⟨K3, s3⟩ := numbers_ev hN h30 h2
    obtain ⟨K4, s4⟩ := onward_ev hN h30 h2
    have e0 : rd ((List.range l.length).map N) 0 = N 0 := rd_map N (i := 0) (by omega)
    refine ⟨(N 0, 0), ⟨K1 + K3, fun k hk => ?_⟩, ⟨K2 + K4, fun k hk => ?_⟩⟩
    · have t : pull_open.f k l a b = some (l, a, b, 0) := s1 k (by omega)
      have t3 := s3 k (by omega)
      dsimp only at t3 ⊢
      unfold pull_Number.f
      rw [t]
      simp only [Option.bind_some, if_true]
      rw [t3]
      simp only [Option.bind_some, List.length_map, List.length_range, e0]
      rw [if_pos (by omega)]
    · have t : dropperref04_Valid.f k l a b = some true := s2 k (by omega)
      have t4 := s4 k (by omega)
      dsimp only at t4 ⊢
      unfold dropperref04_Number.f
      rw [t]
      simp only [Option.bind_some, if_true]
      rw [t4]
      simp only [Option.bind_some, List.length_map, List.length_range, e0]
      rw [if_pos (by omega)]
theorem plan_ev (l : List Int) (hl : l.length ≤ 50) (a b r : Int) : ∃ R : List Int × Int, R.1.length ≤ 50 ∧ Ev (fun k => pull_Plan.f k l a b r) R ∧ Ev (fun k => dropperref04_Plan.f k l a b r) R := by
  obtain ⟨v, e1, e2, hv⟩ := valid_ev l hl a b
  obtain ⟨K1, s1⟩ := open_ev e1
  obtain ⟨K2, s2⟩ := e2
  cases v with
  | false =>
    refine ⟨([], 40), by simp, ⟨K1, fun k hk => ?_⟩, ⟨K2, fun k hk => ?_⟩⟩
    · have t : pull_open.f k l a b = some ([], 0, 0, 40) := s1 k hk
      dsimp only; unfold pull_Plan.f; rw [t]; rfl
    · have t : dropperref04_Valid.f k l a b = some false := s2 k hk
      dsimp only; unfold dropperref04_Plan.f; rw [t]; rfl
  | true =>
    obtain ⟨h2, h30⟩ := hv rfl
    obtain ⟨N, hN⟩ := onw_ex (mayB l a b) (n := l.length) (by omega)
    obtain ⟨K3, s3⟩ := numbers_ev hN h30 h2
    obtain ⟨K4, s4⟩ := onward_ev hN h30 h2
    have e0 : rd ((List.range l.length).map N) 0 = N 0 := rd_map N (i := 0) (by omega)
    have bn := onw_bd hN l.length 0 (by omega) (by omega)
    have ps := p2_small (a := l.length - 1 - 0) (by omega)
    have ew : wrap64 (N 0 - 1) = N 0 - 1 := w64 (by omega) (by omega)
    have p1 : ∀ k, K1 ≤ k → K3 ≤ k → pull_Plan.f k l a b r = (if 0 ≤ r ∧ r ≤ N 0 - 1 then (pull_layout_ranked.l0 k r ((List.range l.length).map N) [0] 0 l a b).bind fun bt106 => (if bt106.2.1 = true then (some (bt106.1, 0)) else (some (([] : List Int), 2))) else some ([], 2)) := by
      intro k h1 h3
      have t : pull_open.f k l a b = some (l, a, b, 0) := s1 k h1
      have t3 := s3 k h3
      dsimp only at t3
      unfold pull_Plan.f
      rw [t]
      simp only [Option.bind_some, if_true]
      unfold pull_layout_ranked.f
      rw [t3]
      simp only [Option.bind_some, List.length_map, List.length_range, e0, ew, within_some]
      rw [if_pos (by omega)]
      by_cases c : 0 ≤ r ∧ r ≤ N 0 - 1
      · simp only [decide_eq_true c, if_true, if_pos c, Option.bind_some]
      · simp only [decide_eq_false c, Bool.false_eq_true, if_false, if_neg c, Option.bind_some]
    have p2' : ∀ k, K2 ≤ k → K4 ≤ k → dropperref04_Plan.f k l a b r = (if 0 ≤ r ∧ r ≤ N 0 - 1 then dropperref04_Plan.l0 k l a b r ((List.range l.length).map N) [0] 0 else some ([], 2)) := by
      intro k h1 h3
      have t : dropperref04_Valid.f k l a b = some true := s2 k h1
      have t4 := s4 k h3
      dsimp only at t4
      unfold dropperref04_Plan.f
      rw [t]
      simp only [Option.bind_some, if_true]
      rw [t4]
      simp only [Option.bind_some, List.length_map, List.length_range, e0, ew, from_some]
      rw [if_pos (by omega)]
      by_cases c : 0 ≤ r ∧ r ≤ N 0 - 1
      · simp only [decide_eq_true c, if_true, if_pos c, Option.bind_some]
      · simp only [decide_eq_false c, Bool.false_eq_true, if_false, if_neg c, Option.bind_some]
    by_cases c : 0 ≤ r ∧ r ≤ N 0 - 1
    · obtain ⟨R, fl, ⟨K5, f1⟩, ⟨K6, f2⟩⟩ := rank_loop hN h30 h2 l.length 0 r [0] (by omega) (by omega) c.1 (by omega) (by simp)
      refine ⟨(R, 0), by dsimp only; omega, ⟨K1 + K3 + K5, fun k hk => ?_⟩, ⟨K2 + K4 + K6, fun k hk => ?_⟩⟩
      · have t5 : pull_layout_ranked.l0 k r ((List.range l.length).map N) [0] 0 l a b = some (R, true, a, b) := f1 k (by omega)
        dsimp only
        rw [p1 k (by omega) (by omega), if_pos c, t5]
        rfl
      · have t6 : dropperref04_Plan.l0 k l a b r ((List.range l.length).map N) [0] 0 = some (R, 0) := f2 k (by omega)
        dsimp only
        rw [p2' k (by omega) (by omega), if_pos c, t6]
    · refine ⟨([], 2), by simp, ⟨K1 + K3, fun k hk => ?_⟩, ⟨K2 + K4, fun k hk => ?_⟩⟩
      · dsimp only
        rw [p1 k (by omega) (by omega), if_neg c]
      · dsimp only
        rw [p2' k (by omega) (by omega), if_neg c]
theorem PullNumbers_pure (l : List Int) (a b r : Int) (hx : ∀ x ∈ l, (Lit.int .i64 x).wf = true) (w0 : (Lit.int .i64 a).wf = true) (w1 : (Lit.int .i64 b).wf = true) (w2 : (Lit.int .i64 r).wf = true) : ∃ k, dropperlaw04_PullNumbers.f k l a b r = some true := by
  obtain ⟨K0, s0⟩ := awake_num
  by_cases c : (l.length : Int) > 50
  · refine ⟨K0, ?_⟩
    have a0 := s0 K0 (Nat.le_refl _)
    dsimp only at a0
    unfold dropperlaw04_PullNumbers.f dropperlaw04_long.f
    rw [if_pos c]
    simp [a0]
  · have hl : l.length ≤ 50 := by omega
    obtain ⟨R1, ⟨K1, s1⟩, ⟨K2, s2⟩⟩ := number_ev l hl a b
    obtain ⟨R2, hR, ⟨K3, s3⟩, ⟨K4, s4⟩⟩ := plan_ev l hl a b r
    obtain ⟨K5, s5⟩ := same_ev (x := R2.1) (by omega)
    generalize hk : K0 + K1 + K2 + K3 + K4 + K5 = K
    have a0 := s0 K (by omega)
    have a1 := s1 K (by omega)
    have a2 := s2 K (by omega)
    have a3 := s3 K (by omega)
    have a4 := s4 K (by omega)
    have a5 := s5 K (by omega)
    dsimp only at a0 a1 a2 a3 a4 a5
    refine ⟨K, ?_⟩
    unfold dropperlaw04_PullNumbers.f dropperlaw04_long.f
    rw [if_neg c, a1, a2, a3, a4]
    simp [a0, a5]
end Go.Proofs.Ytiebfmenkpodeaa.G
