/- The versine of twice the chord is four times as great, of the printed functions: plain Lean, no program. -/
import Derived.Test.YtiapmkndgalgnaaRat
import Derived.Test.YtiapmkndgalgnaaGF3
namespace Go.Proofs.Ytiapmkndgalgnaa.G
open Go.RowKit Go.Proofs.YtiapmkndgalgnaaW.PrintWords Go.Proofs.YtiapmkndgalgnaaW.PrintLast
open Rat (divInt)

theorem first_ev : Ev (fun k => dropperlaw03_First.f k) true := Ev.of (fun k => dropperlaw03_First.mono k) (k := 40) (by decide +kernel)

theorem versine_ev (c r : Int) (h : 0 ≤ c) (h2 : c ≤ 10000) (h3 : 1 ≤ r) (h4 : r ≤ 1000000) :
    Ev (fun k => arm_Versine.f k c r) ((divInt (c * c) (8 * r)).num, ((divInt (c * c) (8 * r)).den : Int), 0) := by
  have hc : 0 ≤ c * c ∧ c * c ≤ 10000 * 10000 := ⟨Int.mul_nonneg h h, Int.mul_le_mul h2 h2 h (by omega)⟩
  obtain ⟨K, hK⟩ := lowest_ev (c * c) (8 * r) (by omega) (by omega) (by omega) (by omega)
  refine ⟨K, fun k hk => ?_⟩
  have := hK k hk
  dsimp only at this ⊢
  unfold arm_Versine.f
  rw [within_some, decide_eq_true (by omega)]
  simp only [Option.bind_some, if_true]
  rw [within_some, decide_eq_true (by omega)]
  simp only [Option.bind_some, if_true]
  rw [w64 (by omega) (by omega), w64 (by omega) (by omega), this]
  rfl

theorem u16_of {a : Int} (w : (Lit.int .u16 a).wf = true) : 0 ≤ a ∧ a ≤ 65535 := by
  have w' : (decide ((0 : Int) ≤ a) && decide (a ≤ 65535)) = true := w
  simpa using w'

theorem ArmVersines_pure (a0 a1 : Int) (w0 : (Lit.int .u16 a0).wf = true) (w1 : (Lit.int .u16 a1).wf = true) : ∃ k, dropperlaw03_ArmVersines.f k a0 a1 = some true := by
  obtain ⟨h0, h0'⟩ := u16_of w0
  obtain ⟨h1, h1'⟩ := u16_of w1
  have hm : a0.tmod 5001 = a0 % 5001 := Int.tmod_eq_emod_of_nonneg h0
  have hb : 0 ≤ a0 % 5001 ∧ a0 % 5001 ≤ 5000 := by omega
  obtain ⟨K1, e1⟩ := versine_ev (a0 % 5001) (1 + a1) (by omega) (by omega) (by omega) (by omega)
  obtain ⟨K2, e2⟩ := versine_ev (2 * (a0 % 5001)) (1 + a1) (by omega) (by omega) (by omega) (by omega)
  obtain ⟨K3, e3⟩ := first_ev
  generalize hk : max K1 (max K2 K3) = k
  have e1 := e1 k (by omega)
  have e2 := e2 k (by omega)
  have e3 := e3 k (by omega)
  refine ⟨k, ?_⟩
  dsimp only at e1 e2 e3
  unfold dropperlaw03_ArmVersines.f
  rw [w64 (n := a0) (by omega) (by omega), hm, w64 (n := a1) (by omega) (by omega), w64 (n := 1 + a1) (by omega) (by omega), w64 (n := 2 * (a0 % 5001)) (by omega) (by omega), e1]
  simp only [Option.bind_some]
  rw [e2]
  simp only [Option.bind_some, if_true]
  generalize hc : a0 % 5001 = c at *
  have hcc : 0 ≤ c * c ∧ c * c ≤ 5000 * 5000 := ⟨Int.mul_nonneg hb.1 hb.1, Int.mul_le_mul hb.2 hb.2 hb.1 (by omega)⟩
  have hcd : (2 * c) * (2 * c) = 4 * (c * c) := by grind
  have r1 := ratio_num_le (n := c * c) (d := 8 * (1 + a1)) (by omega)
  have r2 := ratio_num_le (n := 2 * c * (2 * c)) (d := 8 * (1 + a1)) (by omega)
  have hx : divInt (2 * c * (2 * c)) (8 * (1 + a1)) = 4 * divInt (c * c) (8 * (1 + a1)) := by
    rw [Rat.divInt_eq_div, Rat.divInt_eq_div, hcd]
    have : ((4 * (c * c) : Int) : Rat) = 4 * ((c * c : Int) : Rat) := by simp
    rw [this]
    grind
  generalize hp : divInt (c * c) (8 * (1 + a1)) = p at *
  generalize hq : divInt (2 * c * (2 * c)) (8 * (1 + a1)) = q at *
  have hpd : 0 < p.den := p.den_pos
  have hqd : 0 < q.den := q.den_pos
  have hcross : q.num * (p.den : Int) = (4 * p.num) * (q.den : Int) := by
    have h4 : Rat.divInt q.num q.den = Rat.divInt (4 * p.num) p.den := by
      rw [Rat.num_divInt_den, hx, Rat.divInt_eq_div]
      have e4 : ((4 * p.num : Int) : Rat) = 4 * (p.num : Rat) := by simp
      rw [e4]
      have := Rat.num_divInt_den p
      rw [Rat.divInt_eq_div] at this
      grind
    exact (Rat.divInt_eq_divInt_iff (by omega) (by omega)).mp h4
  have b1 : (4 * p.num * (q.den : Int)).natAbs ≤ 100000000 * 600000 := by
    rw [Int.natAbs_mul]
    refine Nat.mul_le_mul ?_ ?_
    · have := r1.1; omega
    · have := r2.2; simp only [Int.natAbs_natCast]; omega
  rw [if_pos (by omega), if_pos (by omega), w64 (n := 4 * p.num) (by have := r1.1; omega) (by have := r1.1; omega), w64 (by omega) (by omega), w64 (by rw [hcross]; omega) (by rw [hcross]; omega), if_pos hcross.symm, e3]
  rfl
end Go.Proofs.Ytiapmkndgalgnaa.G
