/- Words for the plain laws of this seat: numbers of 64 bits, lists of numbers, bounds. Plain Lean. -/
import Derived.Test.YtiebfmenkpodeaaGF50
import Derived.Test.YtiebfmenkpodeaaGF52
namespace Go.Proofs.Ytiebfmenkpodeaa.G
set_option linter.unusedVariables false
set_option linter.unusedSimpArgs false
open Go.RowKit Go.Proofs.YtiebfmenkpodeaaW.PrintWords Go.Proofs.YtiebfmenkpodeaaW.PrintLast
theorem w64 {n : Int} (h : -9223372036854775808 ≤ n) (h2 : n ≤ 9223372036854775807) : wrap64 n = n := by unfold wrap64; omega
theorem ev_some {α : Type} (r : α) {g : Nat → Option α} (h : ∀ k, g (k + 1) = some r) : Ev g r := Ev.step (f := fun _ => some r) h (Ev.now r)
theorem mul_bd {a b : Int} {A B : Nat} (ha : a.natAbs ≤ A) (hb : b.natAbs ≤ B) : (a * b).natAbs ≤ A * B := by
  rw [Int.natAbs_mul]; exact Nat.mul_le_mul ha hb
theorem within_some (a b c : Int) : pull_within.f a b c = some (decide (a ≤ b ∧ b ≤ c)) := by
  unfold pull_within.f
  by_cases h : a ≤ b <;> simp [h]
theorem from_some (a b c : Int) : dropperref04_from.f a b c = some (decide (a ≤ b ∧ b ≤ c)) := by
  unfold dropperref04_from.f
  by_cases h : a ≤ b <;> simp [h]
theorem wsucc (i : Nat) (h : i < 9223372036854775807) : wrap64 ((i : Int) + 1) = ((i + 1 : Nat) : Int) := by rw [w64 (by omega) (by omega)]; rfl
theorem wpred (i : Nat) (h : i < 9223372036854775807) : wrap64 (((i + 1 : Nat) : Int) - 1) = (i : Int) := by rw [w64 (by omega) (by omega)]; omega
theorem mx_eq (a b : Int) : mx a b = max a b := by unfold mx; split <;> omega
theorem mn_eq (a b : Int) : mn a b = min a b := by unfold mn; split <;> omega
theorem rd_map (f : Nat → Int) {m i : Nat} (h : i < m) : rd ((List.range m).map f) (i : Int) = f i := by
  simp [rd, List.getD_eq_getElem?_getD, h]
theorem rd_set (x : List Int) {i j : Nat} (v : Int) (hi : i < x.length) (hj : j < x.length) : rd (x.set i v) (j : Int) = if j = i then v else rd x (j : Int) := by
  simp only [rd, List.getD_eq_getElem?_getD, Int.toNat_natCast, List.getElem?_set]
  by_cases e : i = j
  · subst e; simp [hi]
  · rw [if_neg e, if_neg (fun h => e h.symm)]
theorem rd_ext {x : List Int} {m : Nat} {f : Nat → Int} (hl : x.length = m) (h : ∀ i, i < m → rd x (i : Int) = f i) : x = (List.range m).map f := by
  refine List.ext_getElem (by simp [hl]) fun i h1 h2 => ?_
  have := h i (by omega)
  simp only [rd, List.getD_eq_getElem?_getD, Int.toNat_natCast, List.getElem?_eq_getElem h1, Option.getD_some] at this
  simp [this]
theorem rd_snoc {x : List Int} {i j : Nat} {v : Int} (hx : x.length = i) (hj : j < i + 1) : rd (x ++ [v]) (j : Int) = if j = i then v else rd x (j : Int) := by
  by_cases q : j = i
  · subst q
    rw [if_pos rfl]
    simp [rd, List.getD_eq_getElem?_getD, ← hx]
  · rw [if_neg q]
    simp only [rd, List.getD_eq_getElem?_getD, Int.toNat_natCast]
    rw [List.getElem?_append_left (by omega)]
theorem snoc_inv {x : List Int} {i : Nat} {v : Int} {f : Nat → Int} (hx : x.length = i) (h1 : ∀ j, j < i → rd x (j : Int) = f j) (hv : v = f i) : (x ++ [v]).length = i + 1 ∧ ∀ j, j < i + 1 → rd (x ++ [v]) (j : Int) = f j := by
  refine ⟨by simp [hx], fun j hj => ?_⟩
  rw [rd_snoc hx hj]
  by_cases q : j = i
  · rw [if_pos q, q, hv]
  · rw [if_neg q, h1 j (by omega)]
theorem rd_rep (m i : Nat) : rd (List.replicate m (0 : Int)) (i : Int) = 0 := by
  simp only [rd, List.getD_eq_getElem?_getD, Int.toNat_natCast, List.getElem?_replicate]
  split <;> rfl
end Go.Proofs.Ytiebfmenkpodeaa.G
