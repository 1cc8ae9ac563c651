/- The document's ratio. Plain Lean. -/
import Derived.Test.YtiapmkndgalgnaaRat
import Derived.Test.YtiapmkndgalgnaaGF64
namespace Go.Proofs.Ytiapmkndgalgnaa.G
set_option linter.unusedVariables false
open Go.RowKit Go.Proofs.YtiapmkndgalgnaaW.PrintWords Go.Proofs.YtiapmkndgalgnaaW.PrintLast
open Rat (divInt)

theorem divisor_loop : ∀ (k : Nat) (a b : Int), 0 ≤ a → 0 ≤ b → (a ≠ 0 ∨ b ≠ 0) → b < k → dropperref03_divisor.l0 k a b = some (Int.gcd a b : Int)
  | 0, a, b, ha, hb, h, hk => by omega
  | k + 1, a, b, ha, hb, h, hk => by
    simp only [dropperref03_divisor.l0]
    by_cases e : b = 0
    · subst e
      rw [if_pos rfl]
      have : mx a 1 = a := by unfold mx; omega
      rw [this]
      simp [Int.natAbs_of_nonneg ha]
    · rw [if_neg e]
      have hm : 0 ≤ a.tmod b := Int.tmod_nonneg _ ha
      have hl : a.tmod b < b := Int.tmod_lt_of_pos _ (by omega)
      rw [divisor_loop k b (a.tmod b) hb hm (Or.inl e) (by omega)]
      have hg : Int.gcd b (a.tmod b) = Int.gcd a b := by
        rw [Int.tmod_eq_emod_of_nonneg ha]
        obtain ⟨m, rfl⟩ := Int.eq_ofNat_of_zero_le ha
        obtain ⟨j, rfl⟩ := Int.eq_ofNat_of_zero_le hb
        show Nat.gcd j (m % j) = Nat.gcd m j
        rw [Nat.gcd_comm j, ← Nat.gcd_rec, Nat.gcd_comm]
      rw [hg]

/-- The document's 'ratio' tells the fraction n / d as Lean's Rat does. -/
theorem ratio_ev (n d : Int) (hn : -4611686018427387904 ≤ n) (hn2 : n ≤ 4611686018427387904) (hd : 0 < d) (hd2 : d ≤ 4611686018427387904) :
    Ev (fun k => dropperref03_ratio.f k n d) ((divInt n d).num, ((divInt n d).den : Int)) := by
  obtain ⟨K, hK⟩ := lowest_ev n d hn hn2 hd hd2
  refine ⟨K + d.toNat + 1, fun k hk => ?_⟩
  have h1 := hK k (by omega)
  dsimp only at h1 ⊢
  have hmx : mx n (wrap64 (-n)) = (n.natAbs : Int) := by
    rw [w64 (by omega) (by omega)]; unfold mx; omega
  have hmy : mx d (wrap64 (-d)) = d := by
    rw [w64 (by omega) (by omega)]; unfold mx; omega
  unfold arm_lowest.f at h1
  rw [hmx, lowest_loop n d k _ d (by omega) (by omega) (by omega) (by omega)] at h1
  unfold dropperref03_ratio.f dropperref03_divisor.f
  rw [hmx, hmy, divisor_loop k _ d (by omega) (by omega) (by omega) (by omega)]
  simp only [Option.bind_some]
  have hg0 : 0 < Int.gcd (n.natAbs : Int) d := Int.gcd_pos_of_ne_zero_right _ (by omega)
  rw [if_neg (by omega)]
  exact h1
end Go.Proofs.Ytiapmkndgalgnaa.G
