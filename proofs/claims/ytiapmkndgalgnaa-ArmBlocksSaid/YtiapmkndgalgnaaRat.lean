/- Plain lemmas for the arm seat: the printed 'lowest' and 'less' are fractions in lowest terms (Lean's Rat) and their order. -/
import Derived.Test.YtiapmkndgalgnaaGF52
import Derived.Test.YtiapmkndgalgnaaGF56
import Derived.Test.YtiapmkndgalgnaaGF51
namespace Go.Proofs.Ytiapmkndgalgnaa.G
open Go.RowKit Go.Proofs.YtiapmkndgalgnaaW.PrintWords Go.Proofs.YtiapmkndgalgnaaW.PrintLast
open Rat (divInt)

theorem w64 {n : Int} (h : -9223372036854775808 ≤ n) (h2 : n ≤ 9223372036854775807) : wrap64 n = n := by unfold wrap64; omega

theorem lowest_loop (x0 x1 : Int) : ∀ (k : Nat) (a b : Int), 0 ≤ a → 0 ≤ b → (a ≠ 0 ∨ b ≠ 0) → b < k →
    arm_lowest.l0 k x0 x1 a b = some (wrap64 (x0.tdiv (Int.gcd a b)), wrap64 (x1.tdiv (Int.gcd a b)))
  | 0, a, b, ha, hb, h, hk => by omega
  | k + 1, a, b, ha, hb, h, hk => by
    simp only [arm_lowest.l0]
    by_cases e : b = 0
    · subst e
      have ha' : a ≠ 0 := by omega
      rw [if_pos rfl, if_neg ha']
      simp [Int.natAbs_of_nonneg ha]
    · rw [if_neg e]
      have hm : 0 ≤ a.tmod b := Int.tmod_nonneg _ ha
      have hl : a.tmod b < b := Int.tmod_lt_of_pos _ (by omega)
      rw [lowest_loop x0 x1 k b (a.tmod b) hb hm (Or.inl e) (by omega)]
      have hg : Int.gcd b (a.tmod b) = Int.gcd a b := by
        rw [Int.tmod_eq_emod_of_nonneg ha]
        obtain ⟨m, rfl⟩ := Int.eq_ofNat_of_zero_le ha
        obtain ⟨j, rfl⟩ := Int.eq_ofNat_of_zero_le hb
        show Nat.gcd j (m % j) = Nat.gcd m j
        rw [Nat.gcd_comm j, ← Nat.gcd_rec, Nat.gcd_comm]
      rw [hg]

/-- 'lowest' tells the fraction n / d as Lean's Rat does. -/
theorem lowest_ev (n d : Int) (hn : -4611686018427387904 ≤ n) (hn2 : n ≤ 4611686018427387904) (hd : 0 < d) (hd2 : d ≤ 4611686018427387904) :
    Ev (fun k => arm_lowest.f k n d) ((divInt n d).num, ((divInt n d).den : Int)) := by
  refine ⟨d.toNat + 1, fun k hk => ?_⟩
  have hmx : mx n (wrap64 (-n)) = (n.natAbs : Int) := by
    rw [w64 (by omega) (by omega)]; unfold mx; omega
  show arm_lowest.f k n d = _
  unfold arm_lowest.f
  rw [hmx, lowest_loop n d k _ d (by omega) (by omega) (by omega) (by omega)]
  have hg : Int.gcd (n.natAbs : Int) d = Int.gcd d n := by
    rw [Int.gcd_comm]; simp [Int.gcd]
  rw [hg]
  have hg0 : 0 < Int.gcd d n := Int.gcd_pos_of_ne_zero_left _ (by omega)
  have d1 : ((Int.gcd d n : Nat) : Int) ∣ n := Int.gcd_dvd_right ..
  have d2 : ((Int.gcd d n : Nat) : Int) ∣ d := Int.gcd_dvd_left ..
  have e1 : n.tdiv (Int.gcd d n) = n / (Int.gcd d n : Int) := Int.tdiv_eq_ediv_of_dvd d1
  have e2 : d.tdiv (Int.gcd d n) = d / (Int.gcd d n : Int) := Int.tdiv_eq_ediv_of_dvd d2
  rw [e1, e2, Rat.num_divInt, Rat.den_divInt, if_neg (by omega), Int.sign_eq_one_of_pos hd, Int.one_mul]
  have b1 : -4611686018427387904 ≤ n / (Int.gcd d n : Int) ∧ n / (Int.gcd d n : Int) ≤ 4611686018427387904 := by
    have hg1 : (1 : Int) ≤ (Int.gcd d n : Int) := by omega
    clear hg0 e1 e2 d2 hg hmx
    generalize (Int.gcd d n : Int) = g at *
    obtain ⟨q, rfl⟩ := d1
    rw [Int.mul_ediv_cancel_left _ (by omega)]
    constructor
    · by_cases hq : 0 ≤ q
      · omega
      · have : g * q ≤ 1 * q := Int.mul_le_mul_of_nonpos_right hg1 (by omega)
        omega
    · by_cases hq : 0 ≤ q
      · have : 1 * q ≤ g * q := Int.mul_le_mul_of_nonneg_right hg1 hq
        omega
      · omega
  have b2 : 0 ≤ d / (Int.gcd d n : Int) ∧ d / (Int.gcd d n : Int) ≤ 4611686018427387904 := ⟨Int.ediv_nonneg (by omega) (by omega), by
    have := Int.ediv_le_self (b := (Int.gcd d n : Int)) (a := d) (by omega)
    omega⟩
  rw [w64 (by omega) (by omega), w64 (by omega) (by omega)]
  have e3 : d / (Int.gcd d n : Int) = ((d.natAbs / Int.gcd d n : Nat) : Int) := by
    rw [Int.natCast_ediv, Int.natAbs_of_nonneg (by omega)]
  rw [e3]

theorem ratio_num_le {n d : Int} (hd : 0 < d) : (divInt n d).num.natAbs ≤ n.natAbs ∧ (divInt n d).den ≤ d.natAbs := by
  rw [Rat.num_divInt, Rat.den_divInt, if_neg (by omega), Int.sign_eq_one_of_pos hd, Int.one_mul]
  refine ⟨?_, Nat.div_le_self _ _⟩
  have d1 : ((Int.gcd d n : Nat) : Int) ∣ n := Int.gcd_dvd_right ..
  have hg0 : 0 < Int.gcd d n := Int.gcd_pos_of_ne_zero_left _ (by omega)
  generalize Int.gcd d n = g at *
  obtain ⟨q, rfl⟩ := d1
  rw [Int.mul_ediv_cancel_left _ (by omega), Int.natAbs_mul]
  have : 1 * q.natAbs ≤ g * q.natAbs := Nat.mul_le_mul_right _ (by omega)
  simp only [Int.natAbs_natCast]
  omega

/-- 'less' of two fractions is their order. -/
theorem less_ev (a b : Rat) (ha : a.num.natAbs ≤ 2147483647) (ha2 : a.den ≤ 2147483647) (hb : b.num.natAbs ≤ 2147483647) (hb2 : b.den ≤ 2147483647) :
    arm_less.f a.num a.den b.num b.den = some (decide (a < b)) := by
  unfold arm_less.f
  have p : ∀ (x : Int) (y : Nat), x.natAbs ≤ 2147483647 → y ≤ 2147483647 → -9223372036854775808 ≤ x * y ∧ x * y ≤ 9223372036854775807 := by
    intro x y hx hy
    have h1 : (x * y).natAbs ≤ 2147483647 * 2147483647 := by
      rw [Int.natAbs_mul]; exact Nat.mul_le_mul hx (by simpa using hy)
    omega
  rw [w64 (p _ _ ha hb2).1 (p _ _ ha hb2).2, w64 (p _ _ hb ha2).1 (p _ _ hb ha2).2]
  congr 1
  rw [decide_eq_decide, Rat.lt_iff]

theorem within_some (a b c : Int) : arm_within.f a b c = some (decide (a ≤ b ∧ b ≤ c)) := by
  unfold arm_within.f
  by_cases h : a ≤ b <;> simp [h]
end Go.Proofs.Ytiapmkndgalgnaa.G
