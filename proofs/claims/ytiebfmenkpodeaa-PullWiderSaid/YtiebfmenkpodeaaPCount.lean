/- Counting ways: by the first length or by the last one, onward or backward, within wider bounds. For the law PullWider. Plain Lean. -/
import Derived.Test.YtiebfmenkpodeaaPNum
namespace Go.Proofs.Ytiebfmenkpodeaa.G
set_option linter.unusedVariables false
set_option linter.unusedSimpArgs false
open Go.RowKit Go.Proofs.YtiebfmenkpodeaaW.PrintWords Go.Proofs.YtiebfmenkpodeaaW.PrintLast
theorem sm_add {f g : Nat → Int} : ∀ (d k : Nat), sm (fun j => f j + g j) k d = sm f k d + sm g k d
  | 0, _ => rfl
  | d + 1, k => by rw [sm, sm, sm, sm_add d (k + 1)]; omega
theorem sm_mul {f : Nat → Int} (c : Int) : ∀ (d k : Nat), sm (fun j => c * f j) k d = c * sm f k d
  | 0, _ => by simp [sm]
  | d + 1, k => by rw [sm, sm, sm_mul c d (k + 1), Int.mul_add]
theorem sm_mono {f g : Nat → Int} : ∀ (d k : Nat), (∀ j, k ≤ j → j < k + d → f j ≤ g j) → sm f k d ≤ sm g k d
  | 0, _, _ => Int.le_refl _
  | d + 1, k, h => by
    have h1 := h k (Nat.le_refl _) (by omega)
    have h2 := sm_mono d (k + 1) (fun j h1 h2 => h j (by omega) (by omega))
    rw [sm, sm]; omega
/-- A sum over a triangle, by rows or by columns. -/
theorem sm_swap (G : Nat → Nat → Int) (s : Nat) : ∀ d, sm (fun j => sm (fun q => G j q) j (s + d - j)) s d = sm (fun q => sm (fun j => G j q) s (q + 1 - s)) s d
  | 0 => rfl
  | d + 1 => by
    have ih := sm_swap G s d
    have e1 : sm (fun j => sm (fun q => G j q) j (s + (d + 1) - j)) s d = sm (fun j => sm (fun q => G j q) j (s + d - j) + G j (s + d)) s d := by
      refine sm_congr _ _ fun j h1 h2 => ?_
      rw [show s + (d + 1) - j = (s + d - j) + 1 by omega, sm_snoc, show j + (s + d - j) = s + d by omega]
    rw [sm_snoc, sm_snoc, e1, sm_add, ih, show s + (d + 1) - (s + d) = 0 + 1 by omega, show s + d + 1 - s = d + 1 by omega, sm_snoc, sm_snoc]
    simp only [sm, Nat.add_zero, Int.zero_add]
    omega
/-- One for a length that may be, else none. -/
def one (M : Nat → Nat → Bool) (i k : Nat) : Int := if M i k = true then 1 else 0
theorem wy_one (M : Nat → Nat → Bool) (N : Nat → Int) (i j : Nat) : wy M N i j = one M i j * N j := by unfold wy one; split <;> simp
theorem wb_one (M : Nat → Nat → Bool) (B : Nat → Int) (k j : Nat) : wb M B k j = one M j k * B j := by unfold wb one; split <;> simp
/-- The ways from each place to each later one. -/
def Way (M : Nat → Nat → Bool) (F : Nat → Nat → Int) : Prop := ∀ k, Onw M (k + 1) (fun i => F i k)
theorem way_ex (M : Nat → Nat → Bool) : ∃ F, Way M F := by
  have h : ∀ k, ∃ N, Onw M (k + 1) N := fun k => onw_ex M (by omega)
  exact ⟨fun i k => Classical.choose (h k) i, fun k => Classical.choose_spec (h k)⟩
theorem Way.one {M : Nat → Nat → Bool} {F : Nat → Nat → Int} (h : Way M F) (k : Nat) : F k k = 1 := (h k).1
theorem Way.first {M : Nat → Nat → Bool} {F : Nat → Nat → Int} (h : Way M F) {i k : Nat} (hi : i < k) : F i k = sm (fun j => G.one M i j * F j k) (i + 1) (k - i) := by
  have e := (h k).2 i (by omega)
  dsimp only at e
  rw [e, show k + 1 - 1 - i = k - i by omega]
  exact sm_congr _ _ fun j _ _ => wy_one M _ i j
/-- The same, by the last length. -/
theorem Way.last {M : Nat → Nat → Bool} {F : Nat → Nat → Int} (h : Way M F) : ∀ (e i k : Nat), k - i ≤ e → i < k → F i k = sm (fun q => G.one M q k * F i q) i (k - i)
  | 0, i, k, h1, h2 => by omega
  | e + 1, i, k, h1, h2 => by
    obtain ⟨d, hd⟩ : ∃ d, k - i = d + 1 := ⟨k - i - 1, by omega⟩
    have a1 : sm (fun j => G.one M i j * F j k) (i + 1) d = sm (fun j => sm (fun q => G.one M i j * (G.one M q k * F j q)) j (i + 1 + d - j)) (i + 1) d := by
      refine sm_congr _ _ fun j h3 h4 => ?_
      rw [Way.last h e j k (by omega) (by omega), show i + 1 + d - j = k - j by omega, sm_mul]
    have a2 : sm (fun q => sm (fun j => G.one M i j * (G.one M q k * F j q)) (i + 1) (q + 1 - (i + 1))) (i + 1) d = sm (fun q => G.one M q k * F i q) (i + 1) d := by
      refine sm_congr _ _ fun q h3 h4 => ?_
      have : sm (fun j => G.one M i j * (G.one M q k * F j q)) (i + 1) (q + 1 - (i + 1)) = sm (fun j => G.one M q k * (G.one M i j * F j q)) (i + 1) (q - i) := by
        rw [show q + 1 - (i + 1) = q - i by omega]
        exact sm_congr _ _ fun j _ _ => Int.mul_left_comm _ _ _
      rw [this, sm_mul, ← h.first (by omega)]
    rw [h.first h2, hd, sm_snoc, a1, sm_swap, a2, show i + 1 + d = k by omega, h.one, sm, h.one]
    omega
/-- The ways to a place from the first one are counted either way. -/
theorem Way.bhd {M : Nat → Nat → Bool} {F : Nat → Nat → Int} (h : Way M F) {n : Nat} {B : Nat → Int} (hB : Bhd M n B) : ∀ (d k : Nat), k ≤ d → k < n → B k = F 0 k := by
  intro d
  induction d with
  | zero =>
    intro k h1 h2
    obtain rfl : k = 0 := by omega
    rw [hB.1, h.one]
  | succ d ih =>
    intro k h1 h2
    by_cases e : k = 0
    · subst e; rw [hB.1, h.one]
    · rw [hB.2 k (by omega) h2, h.last k 0 k (by omega) (by omega), Nat.sub_zero]
      refine sm_congr _ _ fun j h3 h4 => ?_
      rw [wb_one, ih j (by omega) (by omega)]
theorem onw_one {M : Nat → Nat → Bool} {n : Nat} {N N' : Nat → Int} (h : Onw M n N) (h' : Onw M n N') : ∀ (d i : Nat), i < n → n - 1 - i ≤ d → N i = N' i := by
  intro d
  induction d with
  | zero =>
    intro i h1 h2
    obtain rfl : i = n - 1 := by omega
    rw [h.1, h'.1]
  | succ d ih =>
    intro i h1 h2
    by_cases e : i + 1 = n
    · obtain rfl : i = n - 1 := by omega
      rw [h.1, h'.1]
    · rw [h.2 i (by omega), h'.2 i (by omega)]
      refine sm_congr _ _ fun j h3 h4 => ?_
      rw [wy_one, wy_one, ih j (by omega) (by omega)]
/-- Wider bounds never make the ways fewer. -/
theorem onw_wider {M M' : Nat → Nat → Bool} {n : Nat} {N N' : Nat → Int} (hM : ∀ i k, M i k = true → M' i k = true) (h : Onw M n N) (h' : Onw M' n N') : ∀ (d i : Nat), i < n → n - 1 - i ≤ d → N i ≤ N' i := by
  intro d
  induction d with
  | zero =>
    intro i h1 h2
    obtain rfl : i = n - 1 := by omega
    rw [h.1, h'.1]; exact Int.le_refl _
  | succ d ih =>
    intro i h1 h2
    by_cases e : i + 1 = n
    · obtain rfl : i = n - 1 := by omega
      rw [h.1, h'.1]; exact Int.le_refl _
    · rw [h.2 i (by omega), h'.2 i (by omega)]
      refine sm_mono _ _ fun j h3 h4 => ?_
      have a := ih j (by omega) (by omega)
      have b := (onw_bd h' n j (by omega) (by omega)).1
      unfold wy
      by_cases c : M i j = true
      · rw [if_pos c, if_pos (hM i j c)]; exact a
      · rw [if_neg c]
        split <;> omega
theorem sm_rev (g : Nat → Int) : ∀ (d k c : Nat), c = k + d → sm (fun j => g (c - 1 - j + k)) k d = sm g k d
  | 0, _, _, _ => rfl
  | d + 1, k, c, hc => by
    have ih := sm_rev g d k (k + d) rfl
    rw [sm_snoc (g := g), sm]
    have e : sm (fun j => g (c - 1 - j + k)) (k + 1) d = sm g k d := by
      rw [← ih]
      have sh : ∀ (f : Nat → Int) (d k : Nat), sm f (k + 1) d = sm (fun j => f (j + 1)) k d := by
        intro f d
        induction d with
        | zero => intro k; rfl
        | succ d ihd => intro k; rw [sm, sm, ihd (k + 1)]
      rw [sh]
      refine sm_congr _ _ fun j h1 h2 => ?_
      congr 1
      omega
    rw [e, show c - 1 - k + k = k + d by omega]
    omega
/-- The other way round there are as many ways. -/
theorem onw_back {M M' : Nat → Nat → Bool} {n : Nat} (hn : 1 ≤ n) (hM : ∀ i k, i < k → k < n → M' i k = M (n - 1 - k) (n - 1 - i)) {N N' : Nat → Int} (h : Onw M n N) (h' : Onw M' n N') : N' 0 = N 0 := by
  obtain ⟨F, hF⟩ := way_ex M
  have hB : Bhd M n (fun j => N' (n - 1 - j)) := by
    refine ⟨by show N' (n - 1 - 0) = 1; exact h'.1, fun k h1 h2 => ?_⟩
    have e := h'.2 (n - 1 - k) (by omega)
    dsimp only
    rw [e, show n - 1 - (n - 1 - k) = k by omega]
    have r := sm_rev (fun j => wy M' N' (n - 1 - k) (j + (n - 1 - k + 1) - 0)) k 0 k (by omega)
    have sh : ∀ (f : Nat → Int) (d c k : Nat), sm f (k + c) d = sm (fun j => f (j + c)) k d := by
      intro f d c
      induction d with
      | zero => intro k; rfl
      | succ d ihd => intro k; rw [sm, sm, show k + c + 1 = (k + 1) + c by omega, ihd (k + 1)]
    rw [show n - 1 - k + 1 = 0 + (n - 1 - k + 1) by omega, sh]
    simp only [Nat.sub_zero, Nat.add_zero] at r
    rw [← r]
    refine sm_congr _ _ fun j h3 h4 => ?_
    rw [wy_one, wb_one, show k - 1 - j + (n - 1 - k + 1) = n - 1 - j by omega]
    congr 1
    unfold G.one
    rw [hM (n - 1 - k) (n - 1 - j) (by omega) (by omega), show n - 1 - (n - 1 - j) = j by omega, show n - 1 - (n - 1 - k) = k by omega]
  have e1 := hF.bhd hB n (n - 1) (by omega) (by omega)
  rw [Nat.sub_self] at e1
  have e2 : Onw M n (fun i => F i (n - 1)) := by
    have := hF (n - 1)
    rwa [show n - 1 + 1 = n by omega] at this
  have e3 : F 0 (n - 1) = N 0 := onw_one e2 h n 0 (by omega) (by omega)
  rw [e1, e3]
end Go.Proofs.Ytiebfmenkpodeaa.G
