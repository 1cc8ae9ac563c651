/- The law ArmCurves of the printed functions. Plain Lean. -/
import Derived.Test.YtiapmkndgalgnaaPChanged
import Derived.Test.YtiapmkndgalgnaaPRatio
import Derived.Test.YtiapmkndgalgnaaPFirst
import Derived.Test.YtiapmkndgalgnaaGF8
namespace Go.Proofs.Ytiapmkndgalgnaa.G
set_option linter.unusedVariables false
open Go.RowKit Go.Proofs.YtiapmkndgalgnaaW.PrintWords Go.Proofs.YtiapmkndgalgnaaW.PrintLast
open Rat (divInt)

/-- A window on a curve. -/
def curveG (l : List S73) (r : Int) (x : S73) : S73 := ⟨x.f0, mn (wrap64 (x.f1 + wrap64 (Int.tdiv (wrap64 ((wrap64 (x.f0 - (rd_T73 l 0).f0)) * (wrap64 (x.f0 - (rd_T73 l 0).f0)))) (wrap64 (2 * r))))) 1000, mn (wrap64 (x.f2 + wrap64 (Int.tdiv (wrap64 ((wrap64 (x.f0 - (rd_T73 l 0).f0)) * (wrap64 (x.f0 - (rd_T73 l 0).f0)))) (wrap64 (2 * r))))) 1000⟩

theorem ref_curved_loop {l : List S73} (h1 : 0 < l.length) (hl : l.length ≤ 30) {r : Int} (hr : wrap64 (2 * r) ≠ 0) : ∀ (d i : Nat) (out : List S73), l.length - i = d → i ≤ l.length → out.length ≤ i →
    Ev (fun k => dropperref03_Curved.l0 k l r out i) (out ++ (l.drop i).map (curveG l r), 0) := by
  intro d
  induction d with
  | zero =>
    intro i out hd hi ho
    obtain rfl : i = l.length := by omega
    refine ev_some _ fun k => ?_
    rw [dropperref03_Curved.l0, if_neg (by omega), List.drop_length]
    simp
  | succ d ih =>
    intro i out hd hi ho
    have hlt : i < l.length := by omega
    have hw : wrap64 ((i : Int) + 1) = ((i + 1 : Nat) : Int) := by unfold wrap64; omega
    have q1 : (i : Int) < (l.length : Int) := by omega
    have q2 : (0 : Int) ≤ (i : Int) := by omega
    have q3 : out.length < 5864062014805 := by omega
    have q4 : (0 : Int) < (l.length : Int) := by omega
    have e := ih (i + 1) (out ++ [curveG l r (rd_T73 l (i : Int))]) (by omega) (by omega) (by rw [List.length_append]; simp; omega)
    rw [drop_rd l i hlt, List.map_cons]
    rw [List.append_assoc] at e
    refine Ev.step (fun k => ?_) e
    rewrite [dropperref03_Curved.l0, if_pos q1, if_pos q2, if_pos q4, if_neg hr, if_pos q3, hw]
    rewrite [mn_comm 1000, mn_comm 1000]
    rfl

def curvedR (l : List S73) (r : Int) : List S73 × Int := if okV l = true then (if 1 ≤ r ∧ r ≤ 1000000 then (l.map (curveG l r), 0) else ([], 2)) else ([], 20)
theorem okV_pos {l : List S73} (hv : okV l = true) : 0 < l.length ∧ l.length ≤ 30 := by
  simp only [okV, Bool.and_eq_true, decide_eq_true_eq] at hv
  omega
theorem arm_Curved_ev (l : List S73) (hl : l.length ≤ 4611686018427387904) (r : Int) : Ev (fun k => arm_Curved.f k l r) (curvedR l r) := by
  have v1 := arm_valid_ev l hl
  unfold curvedR
  cases hv : okV l with
  | false => rw [hv] at v1; exact Ev.bind v1 (Ev.now _)
  | true =>
    rw [hv] at v1
    refine Ev.bind v1 ?_
    simp only [if_true]
    rw [within_some]
    by_cases c : 1 ≤ r ∧ r ≤ 1000000
    · rw [decide_eq_true c, if_pos c]
      simp only [Option.bind_some, if_true]
      have e := changed_ev (fn := arm_Curved.fn l r) (g := curveG l r) hl (fun _ x _ => by
        unfold arm_Curved.fn
        rw [if_pos (by have := (okV_pos hv).1; omega), if_neg (by rw [w64 (by omega) (by omega)]; omega)]
        rfl)
      rw [hv] at e
      exact e
    · rw [decide_eq_false c, if_neg c]
      exact Ev.now _
theorem ref_Curved_ev (l : List S73) (hl : l.length ≤ 4611686018427387904) (r : Int) : Ev (fun k => dropperref03_Curved.f k l r) (curvedR l r) := by
  have v1 := ref_valid_ev l hl
  unfold curvedR
  cases hv : okV l with
  | false => rw [hv] at v1; exact Ev.bind v1 (Ev.now _)
  | true =>
    rw [hv] at v1
    refine Ev.bind v1 ?_
    simp only [if_true]
    by_cases c : 1 ≤ r ∧ r ≤ 1000000
    · rw [if_pos c]
      simp only [if_neg (show ¬ r < 1 by omega), if_neg (show ¬ r > 1000000 by omega)]
      simpa using ref_curved_loop (okV_pos hv).1 (okV_pos hv).2 (r := r) (by rw [w64 (by omega) (by omega)]; omega) l.length 0 [] (by omega) (by omega) (by simp)
    · rw [if_neg c]
      by_cases c1 : r < 1
      · simp only [if_pos c1]; exact Ev.now _
      · simp only [if_neg c1, if_pos (show r > 1000000 by omega)]; exact Ev.now _

def versR (c r : Int) : Int × Int × Int := if (0 ≤ c ∧ c ≤ 10000) ∧ 1 ≤ r ∧ r ≤ 1000000 then ((divInt (c * c) (8 * r)).num, ((divInt (c * c) (8 * r)).den : Int), 0) else (0, 0, 2)
theorem vers_bd {c r : Int} (h : 0 ≤ c ∧ c ≤ 10000) (h2 : 1 ≤ r ∧ r ≤ 1000000) : wrap64 (c * c) = c * c ∧ wrap64 (8 * r) = 8 * r ∧ 0 ≤ c * c ∧ c * c ≤ 100000000 := by
  have hc : 0 ≤ c * c ∧ c * c ≤ 10000 * 10000 := ⟨Int.mul_nonneg h.1 h.1, Int.mul_le_mul h.2 h.2 h.1 (by omega)⟩
  rw [w64 (n := c * c) (by omega) (by omega), w64 (n := 8 * r) (by omega) (by omega)]
  omega
theorem arm_Vers_ev (c r : Int) : Ev (fun k => arm_Versine.f k c r) (versR c r) := by
  unfold versR
  by_cases h : 0 ≤ c ∧ c ≤ 10000
  · by_cases h2 : 1 ≤ r ∧ r ≤ 1000000
    · obtain ⟨e1, e2, e3, e4⟩ := vers_bd h h2
      rw [if_pos ⟨h, h2⟩]
      obtain ⟨K, hK⟩ := lowest_ev (c * c) (8 * r) (by omega) (by omega) (by omega) (by omega)
      refine ⟨K, fun k hk => ?_⟩
      have := hK k hk
      dsimp only at this ⊢
      unfold arm_Versine.f
      rw [within_some, decide_eq_true h, within_some, decide_eq_true h2, e1, e2]
      simp only [Option.bind_some, if_true]
      rw [this]
      rfl
    · rw [if_neg (fun z => h2 z.2)]
      refine Ev.congr (fun k => ?_) (Ev.now _)
      unfold arm_Versine.f
      rw [within_some, decide_eq_true h, within_some, decide_eq_false h2]
      rfl
  · rw [if_neg (fun z => h z.1)]
    refine Ev.congr (fun k => ?_) (Ev.now _)
    unfold arm_Versine.f
    rw [within_some, decide_eq_false h]
    rfl
theorem ref_Vers_ev (c r : Int) : Ev (fun k => dropperref03_Versine.f k c r) (versR c r) := by
  unfold versR
  by_cases h : (0 ≤ c ∧ c ≤ 10000) ∧ 1 ≤ r ∧ r ≤ 1000000
  · obtain ⟨e1, e2, e3, e4⟩ := vers_bd h.1 h.2
    rw [if_pos h]
    obtain ⟨K, hK⟩ := ratio_ev (c * c) (8 * r) (by omega) (by omega) (by omega) (by omega)
    refine ⟨K, fun k hk => ?_⟩
    have := hK k hk
    dsimp only at this ⊢
    unfold dropperref03_Versine.f
    rw [if_neg (by omega), if_neg (by omega), if_neg (by omega), if_neg (by omega), e1, e2, this]
    rfl
  · rw [if_neg h]
    refine Ev.congr (fun k => ?_) (Ev.now _)
    unfold dropperref03_Versine.f
    by_cases c1 : c < 0
    · rw [if_pos c1]
    · rw [if_neg c1]
      by_cases c2 : c > 10000
      · rw [if_pos c2]
      · rw [if_neg c2]
        by_cases c3 : r < 1
        · rw [if_pos c3]
        · rw [if_neg c3, if_pos (by omega)]

theorem ArmCurves_pure (l : List S73) (c r : Int) (hx : ∀ x ∈ l, (Lit.int .i64 x.f0).wf = true ∧ (Lit.int .i64 x.f1).wf = true ∧ (Lit.int .i64 x.f2).wf = true) (wc : (Lit.int .i64 c).wf = true) (wr : (Lit.int .i64 r).wf = true) : ∃ k, dropperlaw03_ArmCurves.f k l c r = some true := by
  obtain ⟨K6, f1⟩ := first_ev
  by_cases c0 : (l.length : Int) > 40
  · refine ⟨K6, ?_⟩
    have := f1 K6 (Nat.le_refl _)
    dsimp only at this
    unfold dropperlaw03_ArmCurves.f dropperlaw03_Long.f
    rw [decide_eq_true c0]
    simp [this]
  have hl : l.length ≤ 4611686018427387904 := by omega
  obtain ⟨K1, s1⟩ := arm_Curved_ev l hl r
  obtain ⟨K2, s2⟩ := ref_Curved_ev l hl r
  obtain ⟨K3, s3⟩ := arm_Vers_ev c r
  obtain ⟨K4, s4⟩ := ref_Vers_ev c r
  obtain ⟨K5, s5⟩ := same_ev (curvedR l r).1 (by
    unfold curvedR
    split
    · split
      · simpa using hl
      · simp
    · simp)
  generalize hk : K1 + K2 + K3 + K4 + K5 + K6 = k
  have a1 := s1 k (by omega)
  have a2 := s2 k (by omega)
  have a3 := s3 k (by omega)
  have a4 := s4 k (by omega)
  have a5 := s5 k (by omega)
  have a6 := f1 k (by omega)
  dsimp only at a1 a2 a3 a4 a5 a6
  refine ⟨k, ?_⟩
  unfold dropperlaw03_ArmCurves.f dropperlaw03_Long.f
  rw [decide_eq_false c0]
  generalize curvedR l r = x at *
  generalize versR c r = y at *
  simp [a1, a2, a3, a4, a5, a6]
end Go.Proofs.Ytiapmkndgalgnaa.G
