/- Plain laws of the printed functions, out of this session's plain texts: what TopPull_pure needs. Plain Lean. -/
import Derived.Test.YtiebfmenkpodeaaGF18
import Derived.Test.YtiebfmenkpodeaaGF24
import Derived.Test.YtiebfmenkpodeaaGF26
import Derived.Test.YtiebfmenkpodeaaGF28
import Derived.Test.YtiebfmenkpodeaaGF29
import Derived.Test.YtiebfmenkpodeaaGF30
import Derived.Test.YtiebfmenkpodeaaGF31
import Derived.Test.YtiebfmenkpodeaaGF32
import Derived.Test.YtiebfmenkpodeaaGF33
import Derived.Test.YtiebfmenkpodeaaGF34
import Derived.Test.YtiebfmenkpodeaaGF35
import Derived.Test.YtiebfmenkpodeaaGF36
import Derived.Test.YtiebfmenkpodeaaGF37
import Derived.Test.YtiebfmenkpodeaaGF38
import Derived.Test.YtiebfmenkpodeaaGF39
import Derived.Test.YtiebfmenkpodeaaGF40
import Derived.Test.YtiebfmenkpodeaaGF44
import Derived.Test.YtiebfmenkpodeaaGF50
import Derived.Test.YtiebfmenkpodeaaGF52
import Derived.Test.YtiebfmenkpodeaaGF58
import Derived.Test.YtiebfmenkpodeaaGF59
import Derived.Test.YtiebfmenkpodeaaGF61
import Derived.Test.YtiebfmenkpodeaaGF63
import Derived.Test.YtiebfmenkpodeaaGF64
import Derived.Test.YtiebfmenkpodeaaGF65
import Derived.Test.YtiebfmenkpodeaaGF66
import Derived.Test.YtiebfmenkpodeaaGF67
import Derived.Test.YtiebfmenkpodeaaGF68
import Derived.Test.YtiebfmenkpodeaaGF69
import Derived.Test.YtiebfmenkpodeaaGF70
import Derived.Test.YtiebfmenkpodeaaGF71
import Derived.Test.YtiebfmenkpodeaaGF72
import Derived.Test.YtiebfmenkpodeaaGF73
import Derived.Test.YtiebfmenkpodeaaGF74
import Derived.Test.YtiebfmenkpodeaaGF75
import Derived.Test.YtiebfmenkpodeaaGF76
import Derived.Test.YtiebfmenkpodeaaGF77
import Derived.Test.YtiebfmenkpodeaaGF7D
import Derived.Test.YtiebfmenkpodeaaGF83
import Derived.Test.YtiebfmenkpodeaaGBase
namespace Go.Proofs.Ytiebfmenkpodeaa.G
set_option linter.unusedVariables false
set_option linter.unusedSimpArgs false
set_option linter.unusedSectionVars false
open Go.RowKit Go.Proofs.YtiebfmenkpodeaaW.PrintWords Go.Proofs.YtiebfmenkpodeaaW.PrintLast
theorem w64 {n : Int} (h : -9223372036854775808 ≤ n) (h2 : n ≤ 9223372036854775807) : wrap64 n = n := by unfold wrap64; omega
theorem ev_some {α : Type} (r : α) {g : Nat → Option α} (h : ∀ k, g (k + 1) = some r) : Ev g r := Ev.step (f := fun _ => some r) h (Ev.now r)
theorem within_some (a b c : Int) : pull_within.f a b c = some (decide (a ≤ b ∧ b ≤ c)) := by
  unfold pull_within.f
  by_cases h : a ≤ b <;> simp [h]
theorem from_some (a b c : Int) : dropperref04_from.f a b c = some (decide (a ≤ b ∧ b ≤ c)) := by
  unfold dropperref04_from.f
  by_cases h : a ≤ b <;> simp [h]
theorem wsucc (i : Nat) (h : i < 9223372036854775807) : wrap64 ((i : Int) + 1) = ((i + 1 : Nat) : Int) := by rw [w64 (by omega) (by omega)]; rfl
theorem wpred (i : Nat) (h : i < 9223372036854775807) : wrap64 (((i + 1 : Nat) : Int) - 1) = (i : Int) := by rw [w64 (by omega) (by omega)]; omega
theorem mx_eq (a b : Int) : mx a b = max a b := by unfold mx; split <;> omega
theorem rd_map (f : Nat → Int) {m i : Nat} (h : i < m) : rd ((List.range m).map f) (i : Int) = f i := by
  simp [rd, List.getD_eq_getElem?_getD, h]
theorem rd_set (x : List Int) {i j : Nat} (v : Int) (hi : i < x.length) (hj : j < x.length) : rd (x.set i v) (j : Int) = if j = i then v else rd x (j : Int) := by
  simp only [rd, List.getD_eq_getElem?_getD, Int.toNat_natCast, List.getElem?_set]
  by_cases e : i = j
  · subst e; simp [hi]
  · rw [if_neg e, if_neg (fun h => e h.symm)]
theorem rd_ext {x : List Int} {m : Nat} {f : Nat → Int} (hl : x.length = m) (h : ∀ i, i < m → rd x (i : Int) = f i) : x = (List.range m).map f := by
  refine List.ext_getElem (by simp [hl]) fun i h1 h2 => ?_
  have := h i (by omega)
  simp only [rd, List.getD_eq_getElem?_getD, Int.toNat_natCast, List.getElem?_eq_getElem h1, Option.getD_some] at this
  simp [this]
theorem rd_snoc {x : List Int} {i j : Nat} {v : Int} (hx : x.length = i) (hj : j < i + 1) : rd (x ++ [v]) (j : Int) = if j = i then v else rd x (j : Int) := by
  by_cases q : j = i
  · subst q
    rw [if_pos rfl]
    simp [rd, List.getD_eq_getElem?_getD, ← hx]
  · rw [if_neg q]
    simp only [rd, List.getD_eq_getElem?_getD, Int.toNat_natCast]
    rw [List.getElem?_append_left (by omega)]
theorem snoc_inv {x : List Int} {i : Nat} {v : Int} {f : Nat → Int} (hx : x.length = i) (h1 : ∀ j, j < i → rd x (j : Int) = f j) (hv : v = f i) : (x ++ [v]).length = i + 1 ∧ ∀ j, j < i + 1 → rd (x ++ [v]) (j : Int) = f j := by
  refine ⟨by simp [hx], fun j hj => ?_⟩
  rw [rd_snoc hx hj]
  by_cases q : j = i
  · rw [if_pos q, q, hv]
  · rw [if_neg q, h1 j (by omega)]
theorem rd_rep (m i : Nat) : rd (List.replicate m (0 : Int)) (i : Int) = 0 := by
  simp only [rd, List.getD_eq_getElem?_getD, Int.toNat_natCast, List.getElem?_replicate]
  split <;> rfl
theorem awake_num : Ev (fun k => dropperlaw04_Awake.f k) true := Ev.of (fun k => dropperlaw04_Awake.mono k) (k := 200) (by decide +kernel)
/-- Powers of two. -/
def p2 : Nat → Int
  | 0 => 1
  | d + 1 => 2 * p2 d
theorem p2_pos : ∀ d, 1 ≤ p2 d
  | 0 => by simp [p2]
  | d + 1 => by have := p2_pos d; rw [p2]; omega
theorem p2_le {a : Nat} : ∀ d, p2 a ≤ p2 (a + d)
  | 0 => Int.le_refl _
  | d + 1 => by have := p2_le (a := a) d; have := p2_pos (a + d); rw [← Nat.add_assoc, p2]; omega
theorem p2_add (a : Nat) : ∀ d, p2 (a + d) = p2 a * p2 d
  | 0 => by simp [p2]
  | d + 1 => by rw [← Nat.add_assoc, p2, p2, p2_add a d, Int.mul_left_comm]
theorem p2_small {a : Nat} (h : a ≤ 29) : p2 a ≤ 536870912 := by
  have := p2_le (a := a) (29 - a)
  rw [show a + (29 - a) = 29 by omega] at this
  exact Int.le_trans this (by decide)
/-- A sum of d from k on. -/
def sm (g : Nat → Int) : Nat → Nat → Int
  | _, 0 => 0
  | k, d + 1 => g k + sm g (k + 1) d
theorem sm_congr {g h : Nat → Int} : ∀ (d k : Nat), (∀ j, k ≤ j → j < k + d → g j = h j) → sm g k d = sm h k d
  | 0, k, _ => rfl
  | d + 1, k, e => by rw [sm, sm, e k (by omega) (by omega), sm_congr d (k + 1) (fun j h1 h2 => e j (by omega) (by omega))]
theorem sm_nonneg {g : Nat → Int} : ∀ (d k : Nat), (∀ j, k ≤ j → j < k + d → 0 ≤ g j) → 0 ≤ sm g k d
  | 0, k, _ => Int.le_refl _
  | d + 1, k, e => by have := e k (by omega) (by omega); have := sm_nonneg d (k + 1) (fun j h1 h2 => e j (by omega) (by omega)); rw [sm]; omega
theorem sm_bd (n : Nat) {g : Nat → Int} : ∀ (d k : Nat), k + d = n → (∀ j, k ≤ j → j < n → g j ≤ p2 (n - 1 - j)) → sm g k d ≤ p2 d - 1
  | 0, k, _, _ => by simp [sm, p2]
  | d + 1, k, hk, e => by
    have h1 := e k (by omega) (by omega)
    have h2 := sm_bd n d (k + 1) (by omega) (fun j h1 h2 => e j (by omega) h2)
    rw [show n - 1 - k = d by omega] at h1
    rw [sm, p2]; omega
theorem sm_snoc {g : Nat → Int} : ∀ (d k : Nat), sm g k (d + 1) = sm g k d + g (k + d)
  | 0, k => by simp [sm]
  | d + 1, k => by
    have h := sm_snoc (g := g) d (k + 1)
    rw [sm, h, sm, show k + 1 + d = k + (d + 1) by omega]; omega
theorem sm_bd0 {g : Nat → Int} : ∀ (d : Nat), (∀ j, j < d → g j ≤ p2 j) → sm g 0 d ≤ p2 d - 1
  | 0, _ => by simp [sm, p2]
  | d + 1, e => by
    have h1 := e d (by omega)
    have h2 := sm_bd0 d (fun j h => e j (by omega))
    rw [sm_snoc, p2, Nat.zero_add]; omega
/-- The ways from the places behind i. -/
def wy (M : Nat → Nat → Bool) (N : Nat → Int) (i : Nat) : Nat → Int := fun j => if M i j = true then N j else 0
/-- The ways to the places ahead of k. -/
def wb (M : Nat → Nat → Bool) (B : Nat → Int) (k : Nat) : Nat → Int := fun j => if M j k = true then B j else 0
/-- N tells for each place how many ways lead from it to the last one. -/
def Onw (M : Nat → Nat → Bool) (n : Nat) (N : Nat → Int) : Prop := N (n - 1) = 1 ∧ ∀ i, i + 1 < n → N i = sm (wy M N i) (i + 1) (n - 1 - i)
/-- B tells for each place how many ways lead to it. -/
def Bhd (M : Nat → Nat → Bool) (n : Nat) (B : Nat → Int) : Prop := B 0 = 1 ∧ ∀ k, 0 < k → k < n → B k = sm (wb M B k) 0 k
theorem onw_ex (M : Nat → Nat → Bool) {n : Nat} (hn : 1 ≤ n) : ∃ N, Onw M n N := by
  have key : ∀ d, d + 1 ≤ n → ∃ N : Nat → Int, N (n - 1) = 1 ∧ ∀ i, n - 1 - d ≤ i → i + 1 < n → N i = sm (wy M N i) (i + 1) (n - 1 - i) := by
    intro d
    induction d with
    | zero => exact fun _ => ⟨fun _ => 1, rfl, fun i h1 h2 => by omega⟩
    | succ d ih =>
      intro hd
      obtain ⟨N, h0, h1⟩ := ih (by omega)
      obtain ⟨m, hm⟩ : ∃ m, m = n - 1 - (d + 1) := ⟨_, rfl⟩
      refine ⟨fun j => if j = m then sm (wy M N m) (m + 1) (n - 1 - m) else N j, ?_, fun i h2 h3 => ?_⟩
      · dsimp only; rw [if_neg (by omega), h0]
      · have cg : sm (wy M N i) (i + 1) (n - 1 - i) = sm (wy M (fun j => if j = m then sm (wy M N m) (m + 1) (n - 1 - m) else N j) i) (i + 1) (n - 1 - i) := by
          refine sm_congr _ _ fun j h4 h5 => ?_
          unfold wy
          dsimp only
          rw [if_neg (show ¬ j = m by omega)]
        rw [← cg]
        dsimp only
        by_cases e : i = m
        · subst e; rw [if_pos rfl]
        · rw [if_neg e, h1 i (by omega) h3]
  obtain ⟨N, h0, h1⟩ := key (n - 1) (by omega)
  exact ⟨N, h0, fun i hi => h1 i (by omega) hi⟩
theorem bhd_ex (M : Nat → Nat → Bool) (n : Nat) : ∃ B, Bhd M n B := by
  have key : ∀ d, ∃ B : Nat → Int, B 0 = 1 ∧ ∀ k, 0 < k → k ≤ d → B k = sm (wb M B k) 0 k := by
    intro d
    induction d with
    | zero => exact ⟨fun _ => 1, rfl, fun k h1 h2 => by omega⟩
    | succ d ih =>
      obtain ⟨B, h0, h1⟩ := ih
      refine ⟨fun j => if j = d + 1 then sm (wb M B (d + 1)) 0 (d + 1) else B j, ?_, fun i h2 h3 => ?_⟩
      · dsimp only; rw [if_neg (by omega), h0]
      · have cg : sm (wb M B i) 0 i = sm (wb M (fun j => if j = d + 1 then sm (wb M B (d + 1)) 0 (d + 1) else B j) i) 0 i := by
          refine sm_congr _ _ fun j h4 h5 => ?_
          unfold wb
          dsimp only
          rw [if_neg (show ¬ j = d + 1 by omega)]
        rw [← cg]
        dsimp only
        by_cases e : i = d + 1
        · subst e; rw [if_pos rfl]
        · rw [if_neg e, h1 i h2 (by omega)]
  obtain ⟨B, h0, h1⟩ := key n
  exact ⟨B, h0, fun i h2 h3 => h1 i h2 (by omega)⟩
theorem onw_bd {M : Nat → Nat → Bool} {n : Nat} {N : Nat → Int} (h : Onw M n N) : ∀ (d i : Nat), i < n → n - 1 - i ≤ d → 0 ≤ N i ∧ N i ≤ p2 (n - 1 - i) := by
  intro d
  have last : ∀ i, i + 1 = n → 0 ≤ N i ∧ N i ≤ p2 (n - 1 - i) := by
    intro i hi
    obtain rfl : i = n - 1 := by omega
    rw [h.1, Nat.sub_self]
    exact ⟨by omega, by simp [p2]⟩
  induction d with
  | zero => exact fun i h1 h2 => last i (by omega)
  | succ d ih =>
    intro i h1 h2
    by_cases e : i + 1 = n
    · exact last i e
    · rw [h.2 i (by omega)]
      have b : ∀ j, i + 1 ≤ j → j < n → 0 ≤ wy M N i j ∧ wy M N i j ≤ p2 (n - 1 - j) := by
        intro j h3 h4
        have := ih j h4 (by omega)
        have := p2_pos (n - 1 - j)
        unfold wy
        split <;> omega
      refine ⟨sm_nonneg _ _ fun j h3 h4 => (b j h3 (by omega)).1, ?_⟩
      have := sm_bd n (g := wy M N i) (n - 1 - i) (i + 1) (by omega) (fun j h3 h4 => (b j h3 h4).2)
      omega
theorem bhd_bd {M : Nat → Nat → Bool} {n : Nat} {B : Nat → Int} (h : Bhd M n B) : ∀ (d k : Nat), k ≤ d → k < n → 0 ≤ B k ∧ B k ≤ p2 k := by
  intro d
  induction d with
  | zero =>
    intro k h1 h2
    obtain rfl : k = 0 := by omega
    rw [h.1]; exact ⟨by omega, by simp [p2]⟩
  | succ d ih =>
    intro k h1 h2
    by_cases e : k = 0
    · exact ih k (by omega) h2
    · rw [h.2 k (by omega) h2]
      have b : ∀ j, j < k → 0 ≤ wb M B k j ∧ wb M B k j ≤ p2 j := by
        intro j h3
        have := ih j (by omega) (by omega)
        have := p2_pos j
        unfold wb
        split <;> omega
      refine ⟨sm_nonneg _ _ fun j h3 h4 => (b j (by omega)).1, ?_⟩
      have := sm_bd0 (g := wb M B k) k (fun j h3 => (b j h3).2)
      omega
/-- A length that may lead from i to k. -/
def mayB (l : List Int) (a b : Int) (i k : Nat) : Bool := decide (a ≤ wrap64 (rd l (k : Int) - rd l (i : Int)) ∧ wrap64 (rd l (k : Int) - rd l (i : Int)) ≤ b)
theorem length_some {l : List Int} {a b : Int} {i k : Nat} (h : i < l.length) (hk : k < l.length) : pull_layout_length.f l a b (i : Int) (k : Int) = some (wrap64 (rd l (k : Int) - rd l (i : Int)), mayB l a b i k, a, b) := by
  unfold pull_layout_length.f mayB
  rw [if_pos (by omega), if_pos (by omega), if_pos (by omega), if_pos (by omega), within_some]
  rfl
/-- A row of the counts from m on. -/
def FromM (n : Nat) (N : Nat → Int) (m : Nat) (x : List Int) : Prop := x.length = n ∧ ∀ j, j < n → rd x (j : Int) = if m ≤ j then N j else 0
/-- A row of the counts behind i, the one at i under way. -/
def FromI (n : Nat) (N : Nat → Int) (i : Nat) (v : Int) (x : List Int) : Prop := x.length = n ∧ rd x (i : Int) = v ∧ ∀ j, j < n → j ≠ i → rd x (j : Int) = if i < j then N j else 0
theorem FromI.of {n : Nat} {N : Nat → Int} {i : Nat} {x : List Int} (h : FromM n N (i + 1) x) (hi : i < n) : FromI n N i 0 x := by
  refine ⟨h.1, by rw [h.2 i hi, if_neg (by omega)], fun j h1 h2 => ?_⟩
  rw [h.2 j h1]
  by_cases c : i < j
  · rw [if_pos (by omega), if_pos c]
  · rw [if_neg (by omega), if_neg c]
theorem FromI.to {n : Nat} {N : Nat → Int} {i : Nat} {x : List Int} (h : FromI n N i (N i) x) : FromM n N i x := by
  refine ⟨h.1, fun j h1 => ?_⟩
  by_cases e : j = i
  · subst e; rw [h.2.1, if_pos (Nat.le_refl _)]
  · rw [h.2.2 j h1 e]
    by_cases c : i < j
    · rw [if_pos c, if_pos (by omega)]
    · rw [if_neg c, if_neg (by omega)]
theorem FromI.set {n : Nat} {N : Nat → Int} {i : Nat} {v u : Int} {x : List Int} (h : FromI n N i v x) (hi : i < n) : FromI n N i u (x.set i u) := by
  have hx := h.1
  refine ⟨by simp [hx], ?_, fun j h1 h2 => ?_⟩
  · rw [rd_set x u (by omega) (by omega), if_pos rfl]
  · rw [rd_set x u (by omega) (by omega), if_neg h2, h.2.2 j h1 h2]
theorem add_ok {n : Nat} {M : Nat → Nat → Bool} {N : Nat → Int} (h : Onw M n N) (hn : n ≤ 30) {i k d : Nat} {v : Int} {x : List Int} (hk : k + (d + 1) = n) (hik : i < k) (hx : FromI n N i v x) (hv : 0 ≤ v) (hs : v + sm (wy M N i) k (d + 1) = N i) (hM : M i k = true) :
    wrap64 (rd x (i : Int) + rd x (k : Int)) = v + N k ∧ v + N k + sm (wy M N i) (k + 1) d = N i ∧ 0 ≤ v + N k := by
  have e : wy M N i k = N k := by unfold wy; rw [if_pos hM]
  rw [sm, e] at hs
  have bi := onw_bd h n i (by omega) (by omega)
  have bk := onw_bd h n k (by omega) (by omega)
  have ps := p2_small (a := n - 1 - i) (by omega)
  have sn : 0 ≤ sm (wy M N i) (k + 1) d := sm_nonneg _ _ fun j h3 h4 => by
    have := onw_bd h n j (by omega) (by omega)
    unfold wy
    split <;> omega
  rw [hx.2.1, hx.2.2 k (by omega) (by omega), if_pos hik]
  refine ⟨w64 (by omega) (by omega), by omega, by omega⟩
theorem skip_ok {M : Nat → Nat → Bool} {N : Nat → Int} {i k d : Nat} {v c : Int} (hs : v + sm (wy M N i) k (d + 1) = c) (hM : M i k = false) : v + sm (wy M N i) (k + 1) d = c := by
  have e : wy M N i k = 0 := by unfold wy; rw [hM]; rfl
  rw [sm, e] at hs
  omega
section
variable {l : List Int} {a b : Int} {N : Nat → Int} (h : Onw (mayB l a b) l.length N) (hn : l.length ≤ 30)
include h hn
theorem on_inner_p {i : Nat} {R : List Int × Int × Int} (cont : ∀ x', FromM l.length N i x' → Ev (fun k => pull_layout_numbers.l0 k x' ((i : Int) - 1) l a b) R) : ∀ (d k : Nat) (v : Int) (x : List Int), k + d = l.length → i < k → FromI l.length N i v x → 0 ≤ v → v + sm (wy (mayB l a b) N i) k d = N i →
    Ev (fun q => pull_layout_numbers.l1 q x (i : Int) (k : Int) l a b) R := by
  intro d
  induction d with
  | zero =>
    intro k v x hk hik hx hv hs
    rw [sm, Int.add_zero] at hs
    subst hs
    refine Ev.step (fun q => ?_) (cont x hx.to)
    rw [pull_layout_numbers.l1]
    unfold pull_layout_last.f
    rw [w64 (n := (l.length : Int) - 1) (by omega) (by omega), w64 (n := (i : Int) - 1) (by omega) (by omega)]
    simp only [Option.bind_some]
    rw [if_neg (by omega)]
  | succ d ih =>
    intro k v x hk hik hx hv hs
    have el := length_some (l := l) (a := a) (b := b) (i := i) (k := k) (by omega) (by omega)
    have hx1 := hx.1
    cases hM : mayB l a b i k with
    | true =>
      obtain ⟨e1, e2, e3⟩ := add_ok h hn hk hik hx hv hs hM
      refine Ev.step (fun q => ?_) (ih (k + 1) (v + N k) _ (by omega) (by omega) (hx.set (u := v + N k) (by omega)) e3 e2)
      rw [pull_layout_numbers.l1]
      unfold pull_layout_last.f
      rw [w64 (n := (l.length : Int) - 1) (by omega) (by omega), wsucc k (by omega)]
      simp only [Option.bind_some, el, hM, if_true]
      rw [if_pos (by omega), if_pos (by omega), if_pos (by omega), if_pos (by omega), if_pos (by omega), e1, Int.toNat_natCast]
    | false =>
      refine Ev.step (fun q => ?_) (ih (k + 1) v x (by omega) (by omega) hx hv (skip_ok hs hM))
      rw [pull_layout_numbers.l1]
      unfold pull_layout_last.f
      rw [w64 (n := (l.length : Int) - 1) (by omega) (by omega), wsucc k (by omega)]
      simp only [Option.bind_some, el, hM, Bool.false_eq_true, if_false]
      rw [if_pos (by omega)]
theorem on_sum {m : Nat} (hm : m + 2 ≤ l.length) : (0 : Int) + sm (wy (mayB l a b) N m) (m + 1) (l.length - 1 - m) = N m := by
  rw [h.2 m (by omega)]; omega
theorem on_outer (hn1 : 1 ≤ l.length) : ∀ (m : Nat) (x : List Int), m + 1 ≤ l.length → FromM l.length N m x → Ev (fun k => pull_layout_numbers.l0 k x ((m : Int) - 1) l a b) ((List.range l.length).map N, a, b) := by
  intro m
  induction m with
  | zero =>
    intro x hm hx
    obtain rfl : x = (List.range l.length).map N := rd_ext hx.1 fun i hi => by rw [hx.2 i hi, if_pos (by omega)]
    refine ev_some _ fun k => ?_
    rw [pull_layout_numbers.l0, if_neg (by omega)]
  | succ m ih =>
    intro x hm hx
    have s0 := on_sum h hn (m := m) (by omega)
    have q1 := on_inner_p h hn (i := m) (fun x' h' => ih x' (by omega) h') (l.length - 1 - m) (m + 1) 0 x (by omega) (by omega) (FromI.of hx (by omega)) (by omega) s0
    have em : ((m + 1 : Nat) : Int) - 1 = (m : Int) := by omega
    rw [em]
    refine Ev.step (fun k => ?_) q1
    rw [pull_layout_numbers.l0, if_pos (by omega), wsucc m (by omega)]
theorem on_first (hn1 : 2 ≤ l.length) : FromM l.length N (l.length - 1) ((List.replicate l.length (0 : Int)).set (l.length - 1) 1) := by
  refine ⟨by simp, fun j hj => ?_⟩
  rw [rd_set _ _ (by simp; omega) (by simp; omega), rd_rep]
  by_cases e : j = l.length - 1
  · subst e; rw [if_pos rfl, if_pos (Nat.le_refl _), h.1]
  · rw [if_neg e, if_neg (by omega)]
theorem numbers_ev (hn1 : 2 ≤ l.length) : Ev (fun k => pull_layout_numbers.f k l a b) ((List.range l.length).map N, a, b) := by
  refine Ev.congr (fun k => ?_) (on_outer h hn (by omega) (l.length - 1) _ (by omega) (on_first h hn hn1))
  unfold pull_layout_numbers.f pull_layout_last.f
  rw [if_pos (by omega), if_pos (by omega)]
  simp only [Option.bind_some, Int.toNat_natCast, List.length_replicate]
  rw [w64 (n := (l.length : Int) - 1) (by omega) (by omega), w64 (n := (l.length : Int) - 1 - 1) (by omega) (by omega), if_pos (by omega), if_pos (by omega), show ((l.length : Int) - 1).toNat = l.length - 1 by omega, show (((l.length - 1 : Nat) : Int) - 1) = (l.length : Int) - 1 - 1 by omega]
end
theorem sm_add {f g : Nat → Int} : ∀ (d k : Nat), sm (fun j => f j + g j) k d = sm f k d + sm g k d
  | 0, _ => rfl
  | d + 1, k => by rw [sm, sm, sm, sm_add d (k + 1)]; omega
theorem sm_mul {f : Nat → Int} (c : Int) : ∀ (d k : Nat), sm (fun j => c * f j) k d = c * sm f k d
  | 0, _ => by simp [sm]
  | d + 1, k => by rw [sm, sm, sm_mul c d (k + 1), Int.mul_add]
theorem sm_mono {f g : Nat → Int} : ∀ (d k : Nat), (∀ j, k ≤ j → j < k + d → f j ≤ g j) → sm f k d ≤ sm g k d
  | 0, _, _ => Int.le_refl _
  | d + 1, k, h => by
    have h1 := h k (Nat.le_refl _) (by omega)
    have h2 := sm_mono d (k + 1) (fun j h1 h2 => h j (by omega) (by omega))
    rw [sm, sm]; omega
/-- A sum over a triangle, by rows or by columns. -/
theorem sm_swap (G : Nat → Nat → Int) (s : Nat) : ∀ d, sm (fun j => sm (fun q => G j q) j (s + d - j)) s d = sm (fun q => sm (fun j => G j q) s (q + 1 - s)) s d
  | 0 => rfl
  | d + 1 => by
    have ih := sm_swap G s d
    have e1 : sm (fun j => sm (fun q => G j q) j (s + (d + 1) - j)) s d = sm (fun j => sm (fun q => G j q) j (s + d - j) + G j (s + d)) s d := by
      refine sm_congr _ _ fun j h1 h2 => ?_
      rw [show s + (d + 1) - j = (s + d - j) + 1 by omega, sm_snoc, show j + (s + d - j) = s + d by omega]
    rw [sm_snoc, sm_snoc, e1, sm_add, ih, show s + (d + 1) - (s + d) = 0 + 1 by omega, show s + d + 1 - s = d + 1 by omega, sm_snoc, sm_snoc]
    simp only [sm, Nat.add_zero, Int.zero_add]
    omega
/-- One for a length that may be, else none. -/
def one (M : Nat → Nat → Bool) (i k : Nat) : Int := if M i k = true then 1 else 0
theorem wy_one (M : Nat → Nat → Bool) (N : Nat → Int) (i j : Nat) : wy M N i j = one M i j * N j := by unfold wy one; split <;> simp
theorem wb_one (M : Nat → Nat → Bool) (B : Nat → Int) (k j : Nat) : wb M B k j = one M j k * B j := by unfold wb one; split <;> simp
/-- The ways from each place to each later one. -/
def Way (M : Nat → Nat → Bool) (F : Nat → Nat → Int) : Prop := ∀ k, Onw M (k + 1) (fun i => F i k)
theorem way_ex (M : Nat → Nat → Bool) : ∃ F, Way M F := by
  have h : ∀ k, ∃ N, Onw M (k + 1) N := fun k => onw_ex M (by omega)
  exact ⟨fun i k => Classical.choose (h k) i, fun k => Classical.choose_spec (h k)⟩
theorem Way.one {M : Nat → Nat → Bool} {F : Nat → Nat → Int} (h : Way M F) (k : Nat) : F k k = 1 := (h k).1
theorem Way.first {M : Nat → Nat → Bool} {F : Nat → Nat → Int} (h : Way M F) {i k : Nat} (hi : i < k) : F i k = sm (fun j => G.one M i j * F j k) (i + 1) (k - i) := by
  have e := (h k).2 i (by omega)
  dsimp only at e
  rw [e, show k + 1 - 1 - i = k - i by omega]
  exact sm_congr _ _ fun j _ _ => wy_one M _ i j
/-- The same, by the last length. -/
theorem Way.last {M : Nat → Nat → Bool} {F : Nat → Nat → Int} (h : Way M F) : ∀ (e i k : Nat), k - i ≤ e → i < k → F i k = sm (fun q => G.one M q k * F i q) i (k - i)
  | 0, i, k, h1, h2 => by omega
  | e + 1, i, k, h1, h2 => by
    obtain ⟨d, hd⟩ : ∃ d, k - i = d + 1 := ⟨k - i - 1, by omega⟩
    have a1 : sm (fun j => G.one M i j * F j k) (i + 1) d = sm (fun j => sm (fun q => G.one M i j * (G.one M q k * F j q)) j (i + 1 + d - j)) (i + 1) d := by
      refine sm_congr _ _ fun j h3 h4 => ?_
      rw [Way.last h e j k (by omega) (by omega), show i + 1 + d - j = k - j by omega, sm_mul]
    have a2 : sm (fun q => sm (fun j => G.one M i j * (G.one M q k * F j q)) (i + 1) (q + 1 - (i + 1))) (i + 1) d = sm (fun q => G.one M q k * F i q) (i + 1) d := by
      refine sm_congr _ _ fun q h3 h4 => ?_
      have : sm (fun j => G.one M i j * (G.one M q k * F j q)) (i + 1) (q + 1 - (i + 1)) = sm (fun j => G.one M q k * (G.one M i j * F j q)) (i + 1) (q - i) := by
        rw [show q + 1 - (i + 1) = q - i by omega]
        exact sm_congr _ _ fun j _ _ => Int.mul_left_comm _ _ _
      rw [this, sm_mul, ← h.first (by omega)]
    rw [h.first h2, hd, sm_snoc, a1, sm_swap, a2, show i + 1 + d = k by omega, h.one, sm, h.one]
    omega
/-- The ways to a place from the first one are counted either way. -/
theorem Way.bhd {M : Nat → Nat → Bool} {F : Nat → Nat → Int} (h : Way M F) {n : Nat} {B : Nat → Int} (hB : Bhd M n B) : ∀ (d k : Nat), k ≤ d → k < n → B k = F 0 k := by
  intro d
  induction d with
  | zero =>
    intro k h1 h2
    obtain rfl : k = 0 := by omega
    rw [hB.1, h.one]
  | succ d ih =>
    intro k h1 h2
    by_cases e : k = 0
    · subst e; rw [hB.1, h.one]
    · rw [hB.2 k (by omega) h2, h.last k 0 k (by omega) (by omega), Nat.sub_zero]
      refine sm_congr _ _ fun j h3 h4 => ?_
      rw [wb_one, ih j (by omega) (by omega)]
theorem same_ev {x : List Int} (hx : x.length ≤ 1000) : Ev (fun k => dropperlaw04_SameInts.f k x x) true := by
  have loop : ∀ (d i : Nat), i + d = x.length → Ev (fun k => dropperlaw04_SameInts.l0 k x x (i : Int)) true := by
    intro d
    induction d with
    | zero =>
      intro i hi
      refine ev_some _ fun k => ?_
      rw [dropperlaw04_SameInts.l0, if_neg (by omega)]
    | succ d ih =>
      intro i hi
      refine Ev.step (fun k => ?_) (ih (i + 1) (by omega))
      rw [dropperlaw04_SameInts.l0, if_pos (by omega), if_pos (by omega), if_pos (by omega), if_pos rfl, wsucc i (by omega)]
  refine Ev.congr (fun k => ?_) (loop x.length 0 (by omega))
  unfold dropperlaw04_SameInts.f
  rw [if_pos rfl]
  rfl
theorem open_anch {l : List Int} {a b : Int} {v : Bool} (e : Ev (fun k => pull_Valid.f k l a b) v) : Ev (fun k => pull_open.f k l a b) (if v = true then (l, a, b, 0) else ([], 0, 0, 40)) := by
  obtain ⟨K, s⟩ := e
  refine ⟨K, fun k hk => ?_⟩
  have := s k hk
  dsimp only at this ⊢
  unfold pull_open.f
  rw [this]
  cases v <;> rfl
/-- A row of the counts below k; the others as they began. -/
def BelK (n : Nat) (B : Nat → Int) (k : Nat) (x : List Int) : Prop := x.length = n ∧ ∀ j, j < n → rd x (j : Int) = if j < k then B j else if j = 0 then 1 else 0
/-- Such a row, the count at k under way. -/
def BelI (n : Nat) (B : Nat → Int) (k : Nat) (v : Int) (x : List Int) : Prop := x.length = n ∧ rd x (k : Int) = v ∧ ∀ j, j < n → j ≠ k → rd x (j : Int) = if j < k then B j else if j = 0 then 1 else 0
theorem BelI.of {n : Nat} {B : Nat → Int} {k : Nat} {x : List Int} (h : BelK n B k x) (hk : k < n) : BelI n B k (if k = 0 then 1 else 0) x := ⟨h.1, by rw [h.2 k hk, if_neg (by omega)], fun j h1 h2 => h.2 j h1⟩
theorem BelI.to {n : Nat} {B : Nat → Int} {k : Nat} {x : List Int} (h : BelI n B k (B k) x) : BelK n B (k + 1) x := by
  refine ⟨h.1, fun j h1 => ?_⟩
  by_cases e : j = k
  · subst e; rw [h.2.1, if_pos (by omega)]
  · rw [h.2.2 j h1 e]
    by_cases c : j < k
    · rw [if_pos c, if_pos (by omega)]
    · rw [if_neg c, if_neg (show ¬ j < k + 1 by omega)]
theorem BelI.set {n : Nat} {B : Nat → Int} {k : Nat} {v u : Int} {x : List Int} (h : BelI n B k v x) (hk : k < n) : BelI n B k u (x.set k u) := by
  have hx := h.1
  refine ⟨by simp [hx], ?_, fun j h1 h2 => ?_⟩
  · rw [rd_set x u (by omega) (by omega), if_pos rfl]
  · rw [rd_set x u (by omega) (by omega), if_neg h2, h.2.2 j h1 h2]
theorem addb_ok {n : Nat} {M : Nat → Nat → Bool} {B : Nat → Int} (h : Bhd M n B) (hn : n ≤ 30) {i k d : Nat} {v : Int} {x : List Int} (hk : i + (d + 1) = k) (hkn : k < n) (hx : BelI n B k v x) (hv : 0 ≤ v) (hs : v + sm (wb M B k) i (d + 1) = B k) (hM : M i k = true) :
    wrap64 (rd x (k : Int) + rd x (i : Int)) = v + B i ∧ v + B i + sm (wb M B k) (i + 1) d = B k ∧ 0 ≤ v + B i := by
  have e : wb M B k i = B i := by unfold wb; rw [if_pos hM]
  rw [sm, e] at hs
  have bi := bhd_bd h n i (by omega) (by omega)
  have bk := bhd_bd h n k (by omega) hkn
  have ps := p2_small (a := k) (by omega)
  have sn : 0 ≤ sm (wb M B k) (i + 1) d := sm_nonneg _ _ fun j h3 h4 => by
    have := bhd_bd h n j (by omega) (by omega)
    unfold wb
    split <;> omega
  rw [hx.2.1, hx.2.2 i (by omega) (by omega), if_pos (by omega)]
  refine ⟨w64 (by omega) (by omega), by omega, by omega⟩
theorem skipb_ok {M : Nat → Nat → Bool} {B : Nat → Int} {i k d : Nat} {v c : Int} (hs : v + sm (wb M B k) i (d + 1) = c) (hM : M i k = false) : v + sm (wb M B k) (i + 1) d = c := by
  have e : wb M B k i = 0 := by unfold wb; rw [hM]; rfl
  rw [sm, e] at hs
  omega
section
variable {l : List Int} {a b : Int} {B : Nat → Int} (h : Bhd (mayB l a b) l.length B) (hn : l.length ≤ 30)
include h hn
theorem sumb {k : Nat} (hk : k < l.length) : (if k = 0 then (1 : Int) else 0) + sm (wb (mayB l a b) B k) 0 k = B k := by
  by_cases e : k = 0
  · subst e; rw [if_pos rfl, sm, h.1]; rfl
  · rw [if_neg e, ← h.2 k (by omega) hk]; omega
theorem be_inner_p {nums : List Int} {k : Nat} (hk : k < l.length) {R : List Int × Int × Int × Int} (cont : ∀ x', BelK l.length B (k + 1) x' → Ev (fun q => pull_layout_anchors.l0 q nums x' (l.length : Int) ((k + 1 : Nat) : Int) l a b) R) : ∀ (d i : Nat) (v : Int) (x : List Int), i + d = k → BelI l.length B k v x → 0 ≤ v → v + sm (wb (mayB l a b) B k) i d = B k →
    Ev (fun q => pull_layout_anchors.l1 q nums x (k : Int) (l.length : Int) (k : Int) (k : Int) (i : Int) l a b) R := by
  intro d
  induction d with
  | zero =>
    intro i v x hi hx hv hs
    rw [sm, Int.add_zero] at hs
    subst hs
    refine Ev.step (fun q => ?_) (cont x hx.to)
    rw [pull_layout_anchors.l1, wsucc k (by omega), if_neg (by omega)]
  | succ d ih =>
    intro i v x hi hx hv hs
    have el := length_some (l := l) (a := a) (b := b) (i := i) (k := k) (by omega) (by omega)
    have hx1 := hx.1
    cases hM : mayB l a b i k with
    | true =>
      obtain ⟨e1, e2, e3⟩ := addb_ok h hn hi hk hx hv hs hM
      refine Ev.step (fun q => ?_) (ih (i + 1) (v + B i) _ (by omega) (hx.set (u := v + B i) hk) e3 e2)
      rw [pull_layout_anchors.l1, wsucc i (by omega)]
      simp only [Option.bind_some, el, hM, if_true]
      rw [if_pos (by omega), if_pos (by omega), if_pos (by omega), if_pos (by omega), if_pos (by omega), e1, Int.toNat_natCast]
    | false =>
      refine Ev.step (fun q => ?_) (ih (i + 1) v x (by omega) hx hv (skipb_ok hs hM))
      rw [pull_layout_anchors.l1, wsucc i (by omega)]
      simp only [Option.bind_some, el, hM, Bool.false_eq_true, if_false]
      rw [if_pos (by omega)]
theorem be_outer_p {nums : List Int} {R : List Int × Int × Int × Int} (cont : Ev (fun q => pull_layout_anchors.l2 q [] nums ((List.range l.length).map B) (l.length : Int) 0 l a b) R) : ∀ (d k : Nat) (x : List Int), k + d = l.length → BelK l.length B k x → Ev (fun q => pull_layout_anchors.l0 q nums x (l.length : Int) (k : Int) l a b) R := by
  intro d
  induction d with
  | zero =>
    intro k x hk hx
    obtain rfl : x = (List.range l.length).map B := rd_ext hx.1 fun i hi => by rw [hx.2 i hi, if_pos (by omega)]
    refine Ev.step (fun q => ?_) cont
    rw [pull_layout_anchors.l0, if_neg (by omega)]
  | succ d ih =>
    intro k x hk hx
    refine Ev.step (fun q => ?_) (be_inner_p h hn (nums := nums) (k := k) (by omega) (fun x' h' => ih (k + 1) x' (by omega) h') k 0 _ x (by omega) (BelI.of hx (by omega)) (by split <;> omega) (sumb h hn (by omega)))
    rw [pull_layout_anchors.l0, if_pos (by omega)]
    rfl
theorem be_first (hn1 : 2 ≤ l.length) : BelK l.length B 0 ((List.replicate l.length (0 : Int)).set 0 1) ∧ BelK l.length B 1 ((List.replicate l.length (0 : Int)).set 0 1) := by
  have key : ∀ j : Nat, j < l.length → rd ((List.replicate l.length (0 : Int)).set 0 1) (j : Int) = if j = 0 then 1 else 0 := by
    intro j hj
    rw [rd_set _ _ (by simp; omega) (by simp; omega), rd_rep]
  refine ⟨⟨by simp, fun j hj => ?_⟩, ⟨by simp, fun j hj => ?_⟩⟩
  · rw [key j hj, if_neg (by omega : ¬ j < 0)]
  · rw [key j hj]
    by_cases e : j = 0
    · subst e; rw [if_pos rfl, if_pos (by omega), h.1]
    · rw [if_neg e, if_neg (by omega)]
end
/-- The products. -/
def prF (B N : Nat → Int) : Nat → Int := fun j => wrap64 (B j * N j)
theorem prod_loop {l : List Int} {a b : Int} {B N : Nat → Int} (hn1 : 2 ≤ l.length) (hn : l.length ≤ 30) : ∀ (d i : Nat) (out : List Int), i + d = l.length → out.length = i → (∀ j, j < i → rd out (j : Int) = prF B N j) →
    Ev (fun q => pull_layout_anchors.l2 q out ((List.range l.length).map N) ((List.range l.length).map B) (l.length : Int) (i : Int) l a b) ((List.range l.length).map (prF B N), N 0, a, b) := by
  intro d
  induction d with
  | zero =>
    intro i out hi ho h1
    obtain rfl : i = l.length := by omega
    obtain rfl : out = (List.range l.length).map (prF B N) := rd_ext ho h1
    have e0 : rd ((List.range l.length).map N) 0 = N 0 := rd_map N (i := 0) (by omega)
    refine ev_some _ fun q => ?_
    rw [pull_layout_anchors.l2, if_neg (by omega), e0]
    simp only [List.length_map, List.length_range]
    rw [if_pos (by omega)]
  | succ d ih =>
    intro i out hi ho h1
    have e1 : rd ((List.range l.length).map N) (i : Int) = N i := rd_map N (by omega)
    have e2 : rd ((List.range l.length).map B) (i : Int) = B i := rd_map B (by omega)
    have sn := snoc_inv (f := prF B N) (v := wrap64 (B i * N i)) ho h1 rfl
    refine Ev.step (fun q => ?_) (ih (i + 1) (out ++ [wrap64 (B i * N i)]) (by omega) sn.1 sn.2)
    rw [pull_layout_anchors.l2, if_pos (by omega), e1, e2, wsucc i (by omega)]
    simp only [List.length_map, List.length_range]
    rw [if_pos (by omega), if_pos (by omega), if_pos (by omega), if_pos (by omega)]
theorem anchors_ev {l : List Int} {a b : Int} {B N : Nat → Int} (hB : Bhd (mayB l a b) l.length B) (hN : Onw (mayB l a b) l.length N) (hn1 : 2 ≤ l.length) (hn : l.length ≤ 30) : Ev (fun k => pull_layout_anchors.f k l a b) ((List.range l.length).map (prF B N), N 0, a, b) := by
  obtain ⟨K1, s1⟩ := numbers_ev hN hn hn1
  obtain ⟨K2, s2⟩ := be_outer_p hB hn (prod_loop (l := l) (a := a) (b := b) (B := B) (N := N) hn1 hn l.length 0 [] (by omega) rfl (fun j hj => by omega)) l.length 0 _ (by omega) (be_first hB hn hn1).1
  refine ⟨K1 + K2, fun k hk => ?_⟩
  have a1 := s1 k (by omega)
  have a2 := s2 k (by omega)
  dsimp only at a1 a2 ⊢
  unfold pull_layout_anchors.f
  rw [a1]
  simp only [Option.bind_some, Int.toNat_natCast, List.length_replicate]
  rw [if_pos (by omega), if_pos (by omega), if_pos (by omega)]
  exact a2
/-- The indexes from i on, d of them, that are such. -/
def idx (p : Nat → Bool) : Nat → Nat → List Int
  | _, 0 => []
  | i, d + 1 => (if p i = true then [(i : Int)] else []) ++ idx p (i + 1) d
theorem idx_len (p : Nat → Bool) : ∀ d i, (idx p i d).length ≤ d
  | 0, _ => by simp [idx]
  | d + 1, i => by
    have := idx_len p d (i + 1)
    rw [idx, List.length_append]
    split
    · rw [List.length_singleton]; omega
    · rw [List.length_nil]; omega
section
variable {n : Nat} (hn : n ≤ 30) {p : Nat → Bool}
include hn
theorem idx_p {f : Nat → Int} {fn : Int → Option Bool} (hf : ∀ j, j < n → fn (f j) = some (p j)) : ∀ (d i : Nat) (out : List Int), i + d = n → out.length ≤ i → Ev (fun k => pull_indexes.l0 k fn out ((List.range n).map f) (n : Int) (i : Int)) (out ++ idx p i d) := by
  intro d
  induction d with
  | zero =>
    intro i out hi ho
    refine ev_some _ fun k => ?_
    rw [pull_indexes.l0, if_neg (by omega), idx, List.append_nil]
  | succ d ih =>
    intro i out hi ho
    have e1 : rd ((List.range n).map f) (i : Int) = f i := rd_map f (by omega)
    cases hp : p i with
    | true =>
      have e := ih (i + 1) (out ++ [(i : Int)]) (by omega) (by simp; omega)
      rw [idx, hp, if_pos rfl, ← List.append_assoc]
      refine Ev.step (fun k => ?_) e
      rw [pull_indexes.l0, if_pos (by omega), e1, hf i (by omega), hp, wsucc i (by omega)]
      simp only [Option.bind_some, if_true, List.length_map, List.length_range]
      rw [if_pos (by omega), if_pos (by omega), if_pos (by omega)]
    | false =>
      have e := ih (i + 1) out (by omega) (by omega)
      rw [idx, hp, if_neg (by decide), List.nil_append]
      refine Ev.step (fun k => ?_) e
      rw [pull_indexes.l0, if_pos (by omega), e1, hf i (by omega), hp, wsucc i (by omega)]
      simp only [Option.bind_some, Bool.false_eq_true, if_false, List.length_map, List.length_range]
      rw [if_pos (by omega), if_pos (by omega)]
end
theorem prod_pos {n : Nat} {M : Nat → Nat → Bool} {B N : Nat → Int} (hB : Bhd M n B) (hN : Onw M n N) (hn : n ≤ 30) {j : Nat} (hj : j < n) : decide (prF B N j > 0) = decide (B j > 0 ∧ N j > 0) := by
  have b1 := bhd_bd hB n j (by omega) hj
  have b2 := onw_bd hN n j hj (by omega)
  have m : B j * N j ≤ p2 j * p2 (n - 1 - j) := Int.mul_le_mul b1.2 b2.2 b2.1 (by have := p2_pos j; omega)
  rw [← p2_add] at m
  have ps := p2_small (a := j + (n - 1 - j)) (by omega)
  have m0 : 0 ≤ B j * N j := Int.mul_nonneg b1.1 b2.1
  unfold prF
  rw [w64 (by omega) (by omega)]
  refine decide_eq_decide.2 ⟨fun z => ?_, fun z => Int.mul_pos z.1 z.2⟩
  refine ⟨?_, ?_⟩
  · by_cases c : B j = 0
    · rw [c, Int.zero_mul] at z; omega
    · omega
  · by_cases c : N j = 0
    · rw [c, Int.mul_zero] at z; omega
    · omega
/-- Masts as described. -/
def MOk (l : List Int) : Prop := 2 ≤ l.length ∧ l.length ≤ 30 ∧ (∀ j, j < l.length → 0 ≤ rd l (j : Int) ∧ rd l (j : Int) ≤ 100000) ∧ ∀ j, j + 1 < l.length → rd l (j : Int) < rd l ((j + 1 : Nat) : Int)
theorem masts_ref (l : List Int) (hl : l.length ≤ 9223372036854775807) : ∀ (d i : Nat), i + d = l.length → ∃ b : Bool, Ev (fun k => dropperref04_Masts.l0 k l (i : Int)) b ∧ (b = true → 2 ≤ l.length ∧ l.length ≤ 30 ∧ (∀ j, i ≤ j → j < l.length → 0 ≤ rd l (j : Int) ∧ rd l (j : Int) ≤ 100000) ∧ ∀ j, i ≤ j + 1 → j + 1 < l.length → rd l (j : Int) < rd l ((j + 1 : Nat) : Int)) := by
  intro d
  induction d with
  | zero =>
    intro i hi
    refine ⟨decide ((2 : Int) ≤ l.length ∧ (l.length : Int) ≤ 30), ev_some _ fun k => ?_, fun h => ?_⟩
    · rw [dropperref04_Masts.l0, if_neg (by omega), from_some]; rfl
    · have := of_decide_eq_true h
      exact ⟨by omega, by omega, fun j h1 h2 => by omega, fun j h1 h2 => by omega⟩
  | succ d ih =>
    intro i hi
    obtain ⟨b, e2, hb⟩ := ih (i + 1) (by omega)
    rw [← wsucc i (by omega)] at e2
    by_cases c1 : 0 ≤ rd l (i : Int) ∧ rd l (i : Int) ≤ 100000
    · by_cases c2 : 0 < i ∧ rd l (i : Int) ≤ rd l (wrap64 ((i : Int) - 1))
      · refine ⟨false, ev_some _ fun k => ?_, fun h => by cases h⟩
        rw [dropperref04_Masts.l0, if_pos (by omega), if_pos (by omega), from_some, decide_eq_true c1]
        simp only [Option.bind_some, if_true]
        rw [if_pos (by omega), if_pos c2.2]
        rw [if_pos (by rw [w64 (by omega) (by omega)]; omega), if_pos (by rw [w64 (by omega) (by omega)]; omega)]
      · refine ⟨b, Ev.step (fun k => ?_) e2, fun h => ?_⟩
        · rw [dropperref04_Masts.l0, if_pos (by omega), if_pos (by omega), from_some, decide_eq_true c1]
          simp only [Option.bind_some, if_true]
          by_cases c3 : 0 < i
          · rw [if_pos (by omega), if_neg (fun z => c2 ⟨c3, z⟩)]
            rw [if_pos (by rw [w64 (by omega) (by omega)]; omega), if_pos (by rw [w64 (by omega) (by omega)]; omega)]
          · rw [if_neg (by omega)]
        · obtain ⟨g1, g2, g3, g4⟩ := hb h
          refine ⟨g1, g2, fun j h1 h2 => ?_, fun j h1 h2 => ?_⟩
          · by_cases e : j = i
            · subst e; exact c1
            · exact g3 j (by omega) h2
          · by_cases e : j + 1 = i
            · subst e
              have z : ¬ rd l ((j + 1 : Nat) : Int) ≤ rd l (wrap64 (((j + 1 : Nat) : Int) - 1)) := fun z => c2 ⟨by omega, z⟩
              rw [wpred j (by omega)] at z
              omega
            · exact g4 j (by omega) h2
    · refine ⟨false, ev_some _ fun k => ?_, fun h => by cases h⟩
      rw [dropperref04_Masts.l0, if_pos (by omega), if_pos (by omega), from_some, decide_eq_false c1]
      rfl
theorem masts_ok {l : List Int} (h : MOk l) : ∀ (d i : Nat), i + d = l.length → Ev (fun k => pull_areMasts.l0 k l l (l.length : Int) (i : Int)) true := by
  obtain ⟨h2, h30, hb, ha⟩ := h
  intro d
  induction d with
  | zero =>
    intro i hi
    refine ev_some _ fun k => ?_
    rw [pull_areMasts.l0, if_neg (by omega), within_some, decide_eq_true (⟨by omega, by omega⟩ : (2 : Int) ≤ l.length ∧ (l.length : Int) ≤ 30)]; rfl
  | succ d ih =>
    intro i hi
    have e1 := ih (i + 1) (by omega)
    rw [← wsucc i (by omega)] at e1
    refine Ev.step (fun k => ?_) e1
    rw [pull_areMasts.l0, if_pos (by omega), if_pos (by omega), if_pos (by omega), within_some, decide_eq_true (hb i (by omega))]
    simp only [Option.bind_some, if_true]
    by_cases c3 : 0 < i
    · obtain ⟨j, rfl⟩ : ∃ j, i = j + 1 := ⟨i - 1, by omega⟩
      have := ha j (by omega)
      rw [if_pos (by omega), wpred j (by omega), if_pos (by omega), if_pos (by omega), if_neg (by omega)]
    · rw [if_neg (by omega)]
def BOk (a b : Int) : Prop := 1 ≤ a ∧ a ≤ b ∧ b ≤ 100000
theorem valid_ref (l : List Int) (hl : l.length ≤ 9223372036854775807) (a b : Int) : ∃ v : Bool, Ev (fun k => dropperref04_Valid.f k l a b) v ∧ (v = true → MOk l ∧ BOk a b) := by
  obtain ⟨m, e2, hm⟩ := masts_ref l hl l.length 0 (by omega)
  have rest : ∀ x : Bool, (if x = true then some (decide (b ≤ 100000)) else some false) = some (x && decide (b ≤ 100000)) := by intro x; cases x <;> rfl
  refine ⟨m && (decide (1 ≤ a ∧ a ≤ b) && decide (b ≤ 100000)), ?_, fun h => ?_⟩
  · refine Ev.bind (g := fun k => dropperref04_Masts.l0 k l 0) (f := fun k m => if m = true then ((dropperref04_from.f 1 a b).bind fun t102 => (if t102 = true then (some (decide (b ≤ 100000))) else (some false))) else (some false)) e2 ?_
    refine Ev.congr (fun k => ?_) (Ev.now _)
    rw [from_some]
    cases m <;> simp [rest]
  · have h1 : m = true := by cases m <;> simp_all
    subst h1
    obtain ⟨g1, g2, g3, g4⟩ := hm rfl
    have h3 : (1 ≤ a ∧ a ≤ b) ∧ b ≤ 100000 := by simpa using h
    exact ⟨⟨g1, g2, fun j h => g3 j (by omega) h, fun j h => g4 j (by omega) h⟩, h3.1.1, h3.1.2, h3.2⟩
theorem valid_p {l : List Int} (h : MOk l) {a b : Int} (hb : BOk a b) : Ev (fun k => pull_Valid.f k l a b) true := by
  refine Ev.bind (g := fun k => pull_areMasts.l0 k l l (l.length : Int) 0) (f := fun k m => if m = true then ((pull_within.f 1 a b).bind fun t102 => (if t102 = true then (some (decide (b ≤ 100000))) else (some false))) else (some false)) (masts_ok h l.length 0 (by omega)) ?_
  refine Ev.congr (fun k => ?_) (Ev.now _)
  rw [within_some, decide_eq_true (show 1 ≤ a ∧ a ≤ b from ⟨hb.1, hb.2.1⟩)]
  simp [decide_eq_true hb.2.2]
theorem number_val {l : List Int} (h : MOk l) {a b : Int} (hb : BOk a b) {N : Nat → Int} (hN : Onw (mayB l a b) l.length N) : Ev (fun k => pull_Number.f k l a b) (N 0, 0) := by
  obtain ⟨K1, s1⟩ := open_anch (valid_p h hb)
  obtain ⟨K3, s3⟩ := numbers_ev hN h.2.1 h.1
  have h1 := h.1
  have e0 : rd ((List.range l.length).map N) 0 = N 0 := rd_map N (i := 0) (by omega)
  refine ⟨K1 + K3, fun k hk => ?_⟩
  have t : pull_open.f k l a b = some (l, a, b, 0) := s1 k (by omega)
  have t3 := s3 k (by omega)
  dsimp only at t3 ⊢
  unfold pull_Number.f
  rw [t]
  simp only [Option.bind_some, if_true]
  rw [t3]
  simp only [Option.bind_some, List.length_map, List.length_range, e0]
  rw [if_pos (by omega)]
theorem anchors_val {l : List Int} (h : MOk l) {a b : Int} (hb : BOk a b) {B N : Nat → Int} (hB : Bhd (mayB l a b) l.length B) (hN : Onw (mayB l a b) l.length N) : Ev (fun k => pull_Anchors.f k l a b) (idx (fun j => decide (B j > 0 ∧ N j > 0)) 0 l.length, 0) := by
  obtain ⟨K1, s1⟩ := open_anch (valid_p h hb)
  obtain ⟨K3, s3⟩ := anchors_ev hB hN h.1 h.2.1
  obtain ⟨K6, s6⟩ := idx_p (n := l.length) h.2.1 (p := fun j => decide (B j > 0 ∧ N j > 0)) (f := prF B N) (fn := pull_Anchors_1.f) (fun j hj => by unfold pull_Anchors_1.f; rw [prod_pos hB hN h.2.1 hj]) l.length 0 [] (by omega) (by simp)
  rw [List.nil_append] at s6
  refine ⟨K1 + K3 + K6, fun k hk => ?_⟩
  have t : pull_open.f k l a b = some (l, a, b, 0) := s1 k (by omega)
  have t3 := s3 k (by omega)
  have t6 := s6 k (by omega)
  dsimp only at t3 t6 ⊢
  unfold pull_Anchors.f pull_indexes.f
  rw [t]
  simp only [Option.bind_some, if_true]
  rw [t3]
  simp only [Option.bind_some, List.length_map, List.length_range]
  rw [show (0 : Int) = ((0 : Nat) : Int) from rfl, t6]
  rfl
theorem idx_mem (p : Nat → Bool) : ∀ (d i : Nat) (x : Int), x ∈ idx p i d ↔ ∃ j, i ≤ j ∧ j < i + d ∧ p j = true ∧ x = (j : Int)
  | 0, i, x => by simp [idx]; intro j h1 h2; omega
  | d + 1, i, x => by
    rw [idx, List.mem_append, idx_mem p d (i + 1) x]
    constructor
    · rintro (h | ⟨j, h1, h2, h3, h4⟩)
      · by_cases c : p i = true
        · rw [if_pos c, List.mem_singleton] at h; exact ⟨i, by omega, by omega, c, h⟩
        · rw [if_neg c] at h; cases h
      · exact ⟨j, by omega, by omega, h3, h4⟩
    · rintro ⟨j, h1, h2, h3, h4⟩
      by_cases e : j = i
      · subst e; left; rw [if_pos h3, List.mem_singleton]; exact h4
      · right; exact ⟨j, by omega, by omega, h3, h4⟩
theorem rd_mem (l : List Int) (x : Int) : x ∈ l ↔ ∃ j, j < l.length ∧ rd l ((j : Nat) : Int) = x := by
  rw [List.mem_iff_getElem]
  constructor
  · rintro ⟨j, h, e⟩; exact ⟨j, h, by simp [rd, List.getD_eq_getElem?_getD, h, e]⟩
  · rintro ⟨j, h, e⟩; exact ⟨j, h, by simpa [rd, List.getD_eq_getElem?_getD, h] using e⟩
/-- A list begins at the first mast and ends at the last one. -/
def Ends (l p : List Int) : Prop := 2 ≤ p.length ∧ rd p 0 = 0 ∧ rd p ((p.length - 1 : Nat) : Int) = (l.length : Int) - 1
/-- A list ascends from the first mast to the last one. -/
def Asc (l p : List Int) : Prop := (∀ j : Nat, 1 ≤ j → j < p.length → rd p ((j - 1 : Nat) : Int) < rd p (j : Int)) ∧ Ends l p
theorem Asc.low {l p : List Int} (h : Asc l p) : ∀ j : Nat, j < p.length → 0 ≤ rd p (j : Int)
  | 0, _ => by simp [h.2.2.1]
  | j + 1, hj => by
    have h1 := h.1 (j + 1) (by omega) hj
    have h2 := Asc.low h j (by omega)
    simp only [Nat.add_sub_cancel] at h1
    omega
theorem Asc.high {l p : List Int} (h : Asc l p) : ∀ (d j : Nat), j + d + 1 = p.length → rd p (j : Int) ≤ (l.length : Int) - 1
  | 0, j, hj => by
    have := h.2.2.2
    rw [show p.length - 1 = j by omega] at this
    omega
  | d + 1, j, hj => by
    have h1 := h.1 (j + 1) (by omega) (by omega)
    have h2 := Asc.high h d (j + 1) (by omega)
    simp only [Nat.add_sub_cancel] at h1
    omega
theorem end_val {l p : List Int} (hl : l.length ≤ 50) (hp : p.length ≤ 50) (h2 : 2 ≤ p.length) : wrap64 ((p.length : Int) - 1) = ((p.length - 1 : Nat) : Int) ∧ wrap64 ((l.length : Int) - 1) = (l.length : Int) - 1 := by
  rw [w64 (n := (p.length : Int) - 1) (by omega) (by omega), w64 (n := (l.length : Int) - 1) (by omega) (by omega)]
  exact ⟨by omega, rfl⟩
theorem asc_p {l p : List Int} (hl : l.length ≤ 50) (hp : p.length ≤ 50) : ∀ (d i : Nat), p.length - i = d → 1 ≤ i → ∃ b : Bool, Ev (fun k => pull_ascends.l0 k l p (i : Int)) b ∧ (b = true ↔ (∀ j : Nat, i ≤ j → j < p.length → rd p ((j - 1 : Nat) : Int) < rd p (j : Int)) ∧ Ends l p) := by
  intro d
  induction d with
  | zero =>
    intro i hd hi
    by_cases c : 2 ≤ p.length
    · obtain ⟨e1, e2⟩ := end_val (l := l) hl hp c
      by_cases c0 : rd p 0 = 0
      · refine ⟨rd p ((p.length - 1 : Nat) : Int) == (l.length : Int) - 1, ev_some _ fun k => ?_, ?_⟩
        · rw [pull_ascends.l0, if_neg (by omega), if_pos (by omega), if_pos (by omega), if_pos c0, e1, e2, if_pos (by omega), if_pos (by omega)]
        · rw [beq_iff_eq]
          exact ⟨fun z => ⟨fun j h1 h2 => by omega, c, c0, z⟩, fun z => z.2.2.2⟩
      · refine ⟨false, ev_some _ fun k => ?_, ⟨fun z => (by cases z), fun z => absurd z.2.2.1 c0⟩⟩
        rw [pull_ascends.l0, if_neg (by omega), if_pos (by omega), if_pos (by omega), if_neg c0]
    · refine ⟨false, ev_some _ fun k => ?_, ⟨fun z => (by cases z), fun z => absurd z.2.1 c⟩⟩
      rw [pull_ascends.l0, if_neg (by omega), if_neg (by omega)]
  | succ d ih =>
    intro i hd hi
    obtain ⟨b, e, hb⟩ := ih (i + 1) (by omega) (by omega)
    have ew : wrap64 ((i : Int) - 1) = ((i - 1 : Nat) : Int) := by rw [w64 (by omega) (by omega)]; omega
    by_cases c : rd p (i : Int) ≤ rd p ((i - 1 : Nat) : Int)
    · refine ⟨false, ev_some _ fun k => ?_, ⟨fun z => (by cases z), fun z => absurd (z.1 i (Nat.le_refl _) (by omega)) (by omega)⟩⟩
      rw [pull_ascends.l0, if_pos (by omega), if_pos (by omega), ew, if_pos (by omega), if_pos (by omega), if_pos c]
    · refine ⟨b, Ev.step (fun k => ?_) e, hb.trans ⟨fun z => ⟨fun j h1 h2 => ?_, z.2⟩, fun z => ⟨fun j h1 h2 => z.1 j (by omega) h2, z.2⟩⟩⟩
      · rw [pull_ascends.l0, if_pos (by omega), if_pos (by omega), ew, if_pos (by omega), if_pos (by omega), if_neg c, wsucc i (by omega)]
      · by_cases q : j = i
        · subst q; omega
        · exact z.1 j (by omega) h2
section
variable {l p : List Int} (hl : l.length ≤ 50) (hp : p.length ≤ 50) (hA : Asc l p)
include hl hp hA
theorem asc_at {i : Nat} (h : i + 1 < p.length) : 0 ≤ rd p (i : Int) ∧ rd p (i : Int) < rd p ((i + 1 : Nat) : Int) ∧ rd p ((i + 1 : Nat) : Int) < (l.length : Int) := by
  have h1 := hA.low i (by omega)
  have h2 := hA.1 (i + 1) (by omega) h
  have h3 := hA.high (p.length - 2 - i) (i + 1) (by omega)
  simp only [Nat.add_sub_cancel] at h2
  exact ⟨h1, h2, by omega⟩
end
/-- Some way from i takes q lengths. -/
def Lq (M : Nat → Nat → Bool) (n : Nat) : Nat → Nat → Bool
  | 0, i => decide (i + 1 = n)
  | q + 1, i => (List.range n).any fun k => decide (i < k) && M i k && Lq M n q k
theorem Lq_succ {M : Nat → Nat → Bool} {n q i : Nat} : Lq M n (q + 1) i = true ↔ ∃ k, i < k ∧ k < n ∧ M i k = true ∧ Lq M n q k = true := by
  rw [Lq, List.any_eq_true]
  simp only [List.mem_range, Bool.and_eq_true, decide_eq_true_eq]
  exact ⟨fun ⟨k, h1, ⟨h2, h3⟩, h4⟩ => ⟨k, h2, h1, h3, h4⟩, fun ⟨k, h2, h1, h3, h4⟩ => ⟨k, h1, ⟨h2, h3⟩, h4⟩⟩
theorem Lq_len {M : Nat → Nat → Bool} {n : Nat} : ∀ q i, Lq M n q i = true → q + i + 1 ≤ n
  | 0, i, h => by have := of_decide_eq_true h; omega
  | q + 1, i, h => by
    obtain ⟨k, h1, h2, h3, h4⟩ := Lq_succ.1 h
    have := Lq_len q k h4
    omega
/-- The path by a row of next places. -/
def pth (X : Nat → Nat) (n : Nat) : Nat → Nat → List Int
  | 0, _ => []
  | e + 1, i => if i + 1 = n then [] else (X i : Int) :: pth X n e (X i)
/-- No way leads on. -/
def nv : Int := 1099511627776
section
variable (M : Nat → Nat → Bool) (g : Int → Int → Int) (ln : Nat → Nat → Int)
/-- The cheapest of the next places from k on, d of them. -/
def bs (C : Nat → Int) (i : Nat) : Nat → Nat → Int × Nat → Int × Nat
  | _, 0, s => s
  | k, d + 1, s => bs C i (k + 1) d (if M i k = true ∧ C k ≠ nv ∧ g (C k) (ln i k) < s.1 then (g (C k) (ln i k), k) else s)
theorem bs_congr {C D : Nat → Int} {i : Nat} : ∀ (d k : Nat) (s : Int × Nat), (∀ j, k ≤ j → j < k + d → C j = D j) → bs M g ln C i k d s = bs M g ln D i k d s
  | 0, k, s, _ => rfl
  | d + 1, k, s, h => by
    rw [bs, bs, h k (by omega) (by omega)]
    exact bs_congr d (k + 1) _ (fun j h1 h2 => h j (by omega) (by omega))
/-- The costs and the next places. -/
def Chp (n : Nat) (C : Nat → Int) (X : Nat → Nat) : Prop := C (n - 1) = 0 ∧ ∀ i, i + 1 < n → (C i, X i) = bs M g ln C i (i + 1) (n - 1 - i) (nv, 0)
theorem chp_ex {n : Nat} (hn : 1 ≤ n) : ∃ C X, Chp M g ln n C X := by
  have key : ∀ d, d + 1 ≤ n → ∃ (C : Nat → Int) (X : Nat → Nat), C (n - 1) = 0 ∧ ∀ i, n - 1 - d ≤ i → i + 1 < n → (C i, X i) = bs M g ln C i (i + 1) (n - 1 - i) (nv, 0) := by
    intro d
    induction d with
    | zero => exact fun _ => ⟨fun _ => 0, fun _ => 0, rfl, fun i h1 h2 => by omega⟩
    | succ d ih =>
      intro hd
      obtain ⟨C, X, h0, h1⟩ := ih (by omega)
      obtain ⟨m, hm⟩ : ∃ m, m = n - 1 - (d + 1) := ⟨_, rfl⟩
      obtain ⟨z, hz⟩ : ∃ z, z = bs M g ln C m (m + 1) (n - 1 - m) (nv, 0) := ⟨_, rfl⟩
      refine ⟨fun j => if j = m then z.1 else C j, fun j => if j = m then z.2 else X j, ?_, fun i h2 h3 => ?_⟩
      · dsimp only; rw [if_neg (by omega), h0]
      · have cg : bs M g ln C i (i + 1) (n - 1 - i) (nv, 0) = bs M g ln (fun j => if j = m then z.1 else C j) i (i + 1) (n - 1 - i) (nv, 0) := by
          refine bs_congr M g ln _ _ _ fun j h4 h5 => ?_
          rw [if_neg (show ¬ j = m by omega)]
        rw [← cg]
        dsimp only
        by_cases e : i = m
        · subst e; rw [if_pos rfl, if_pos rfl, ← hz]
        · rw [if_neg e, if_neg e, h1 i (by omega) h3]
  obtain ⟨C, X, h0, h1⟩ := key (n - 1) (by omega)
  exact ⟨C, X, h0, fun i hi => h1 i (by omega) hi⟩
/-- What is found among the places below k. -/
def Bst (C : Nat → Int) (i k : Nat) (s : Int × Nat) : Prop :=
  (s.1 = nv ∧ ∀ j, i < j → j < k → M i j = true → C j = nv) ∨
  (s.1 ≠ nv ∧ (i < s.2 ∧ s.2 < k) ∧ M i s.2 = true ∧ C s.2 ≠ nv ∧ s.1 = g (C s.2) (ln i s.2) ∧ s.1 < nv ∧ (∀ j, i < j → j < k → M i j = true → C j ≠ nv → s.1 ≤ g (C j) (ln i j)) ∧ ∀ j, i < j → j < s.2 → M i j = true → C j ≠ nv → s.1 < g (C j) (ln i j))
theorem bst_all {C : Nat → Int} {i n : Nat} (hlt : ∀ j, i < j → j < n → M i j = true → C j ≠ nv → g (C j) (ln i j) < nv) : ∀ (d k : Nat) (s : Int × Nat), k + d = n → i < k → Bst M g ln C i k s → Bst M g ln C i n (bs M g ln C i k d s)
  | 0, k, s, hk, _, h => by
    obtain rfl : k = n := by omega
    exact h
  | d + 1, k, s, hk, hik, h => by
    rw [bs]
    refine bst_all hlt d (k + 1) _ (by omega) (by omega) ?_
    by_cases c : M i k = true ∧ C k ≠ nv ∧ g (C k) (ln i k) < s.1
    · rw [if_pos c]
      have h3 := hlt k hik (by omega) c.1 c.2.1
      refine .inr ⟨by dsimp only; omega, ⟨hik, Nat.lt_succ_self _⟩, c.1, c.2.1, rfl, h3, fun j h4 h5 h6 h7 => ?_, fun j h4 h5 h6 h7 => ?_⟩
      · dsimp only
        by_cases e : j = k
        · subst e; exact Int.le_refl _
        · rcases h with ⟨z1, z2⟩ | ⟨_, _, _, _, _, _, z, _⟩
          · exact absurd (z2 j h4 (by omega) h6) h7
          · have := z j h4 (by omega) h6 h7; omega
      · dsimp only at h5 ⊢
        rcases h with ⟨z1, z2⟩ | ⟨_, _, _, _, _, _, z, _⟩
        · exact absurd (z2 j h4 (by omega) h6) h7
        · have := z j h4 (by omega) h6 h7; omega
    · rw [if_neg c]
      rcases h with ⟨z1, z2⟩ | ⟨y1, y2, y3, y4, y5, y6, y7, y8⟩
      · refine .inl ⟨z1, fun j h4 h5 h6 => ?_⟩
        by_cases e : j = k
        · subst e
          by_cases q : C j = nv
          · exact q
          · exact absurd ⟨h6, q, by rw [z1]; exact hlt j hik (by omega) h6 q⟩ c
        · exact z2 j h4 (by omega) h6
      · refine .inr ⟨y1, ⟨y2.1, by omega⟩, y3, y4, y5, y6, fun j h4 h5 h6 h7 => ?_, y8⟩
        by_cases e : j = k
        · subst e
          by_cases q : g (C j) (ln i j) < s.1
          · exact absurd ⟨h6, h7, q⟩ c
          · omega
        · exact y7 j h4 (by omega) h6 h7
end
/-- The length from i to k. -/
def lnI (l : List Int) (i k : Nat) : Int := wrap64 (rd l (k : Int) - rd l (i : Int))
/-- The rows of costs and next places from m on. -/
def CM (n : Nat) (C : Nat → Int) (X : Nat → Nat) (m : Nat) (x y : List Int) : Prop := x.length = n ∧ y.length = n ∧ (∀ j, m ≤ j → j < n → rd x (j : Int) = C j) ∧ (∀ j, m ≤ j → j + 1 < n → rd y (j : Int) = (X j : Int)) ∧ ∀ j, j < m → j < n → rd y (j : Int) = 0
/-- The same, those at i under way. -/
def CI (n : Nat) (C : Nat → Int) (X : Nat → Nat) (i : Nat) (s : Int × Nat) (x y : List Int) : Prop := x.length = n ∧ y.length = n ∧ rd x (i : Int) = s.1 ∧ rd y (i : Int) = (s.2 : Int) ∧ (∀ j, i < j → j < n → rd x (j : Int) = C j) ∧ (∀ j, i < j → j + 1 < n → rd y (j : Int) = (X j : Int)) ∧ ∀ j, j < i → j < n → rd y (j : Int) = 0
section
variable {l : List Int} {a b : Int} {g : Int → Int → Int} {fn : Int → Int → Option Int} (hfn : ∀ c d, fn c d = some (g c d)) {C : Nat → Int} {X : Nat → Nat} (h : Chp (mayB l a b) g (lnI l) l.length C X) (hn : l.length ≤ 30)
include hfn h hn
theorem ch_l1 {i : Nat} (hi : i + 1 < l.length) {R : List Int × Int × Int × Int} (cont : ∀ x y, CM l.length C X i x y → Ev (fun s => pull_layout_cheapest.l0 s fn x y ((i : Int) - 1) l a b) R) :
    ∀ (d k : Nat) (s : Int × Nat) (x y : List Int), k + d = l.length → i < k → CI l.length C X i s x y → bs (mayB l a b) g (lnI l) C i k d s = (C i, X i) → Ev (fun q => pull_layout_cheapest.l1 q fn x y (i : Int) (k : Int) l a b) R := by
  intro d
  induction d with
  | zero =>
    intro k s x y hk hik hx hs
    rw [bs] at hs
    subst hs
    refine Ev.step (fun q => ?_) (cont x y ⟨hx.1, hx.2.1, fun j h1 h2 => ?_, fun j h1 h2 => ?_, fun j h1 h2 => hx.2.2.2.2.2.2 j h1 h2⟩)
    · rw [pull_layout_cheapest.l1]
      unfold pull_layout_last.f
      rw [w64 (n := (l.length : Int) - 1) (by omega) (by omega), w64 (n := (i : Int) - 1) (by omega) (by omega)]
      simp only [Option.bind_some]
      rw [if_neg (by omega)]
    · by_cases e : j = i
      · subst e; exact hx.2.2.1
      · exact hx.2.2.2.2.1 j (by omega) h2
    · by_cases e : j = i
      · subst e; exact hx.2.2.2.1
      · exact hx.2.2.2.2.2.1 j (by omega) h2
  | succ d ih =>
    intro k s x y hk hik hx hs
    have hx1 := hx.1
    have hy1 := hx.2.1
    have el := length_some (l := l) (a := a) (b := b) (i := i) (k := k) (by omega) (by omega)
    have ek := hx.2.2.2.2.1 k hik (by omega)
    have ei := hx.2.2.1
    rw [bs] at hs
    have first : ∀ q, pull_layout_cheapest.l1 (q + 1) fn x y (i : Int) (k : Int) l a b = (if mayB l a b i k = true then pull_layout_cheapest.j2 q fn x y (i : Int) (k : Int) (lnI l i k) (C k == 1099511627776) l a b else pull_layout_cheapest.j2 q fn x y (i : Int) (k : Int) (lnI l i k) true l a b) := by
      intro q
      rw [pull_layout_cheapest.l1]
      unfold pull_layout_last.f
      rw [w64 (n := (l.length : Int) - 1) (by omega) (by omega)]
      simp only [Option.bind_some, el]
      rw [if_pos (by omega), if_pos (show (0 : Int) ≤ (k : Int) by omega), if_pos (show (k : Int) < (x.length : Int) by omega), ek]
      rfl
    by_cases c0 : mayB l a b i k = true ∧ C k ≠ nv
    · have bq : (C k == 1099511627776) = false := by rw [beq_eq_false_iff_ne]; exact c0.2
      by_cases c1 : g (C k) (lnI l i k) < s.1
      · rw [if_pos ⟨c0.1, c0.2, c1⟩] at hs
        have e := ih (k + 1) (g (C k) (lnI l i k), k) (x.set i (g (C k) (lnI l i k))) (y.set i (k : Int)) (by omega) (by omega) ⟨by simp [hx1], by simp [hy1], by rw [rd_set _ _ (by omega) (by omega), if_pos rfl], by rw [rd_set _ _ (by omega) (by omega), if_pos rfl], fun j h1 h2 => by rw [rd_set _ _ (by omega) (by omega), if_neg (by omega)]; exact hx.2.2.2.2.1 j h1 h2, fun j h1 h2 => by rw [rd_set _ _ (by omega) (by omega), if_neg (by omega)]; exact hx.2.2.2.2.2.1 j h1 h2, fun j h1 h2 => by rw [rd_set _ _ (by omega) (by omega), if_neg (by omega)]; exact hx.2.2.2.2.2.2 j h1 h2⟩ hs
        refine Ev.step (f := fun q => pull_layout_cheapest.j2 q fn x y (i : Int) (k : Int) (lnI l i k) false l a b) (fun q => ?_) (Ev.step (fun q => ?_) e)
        · rw [first q, if_pos c0.1, bq]
        · rw [pull_layout_cheapest.j2, if_neg (by decide), if_pos (by omega), if_pos (by omega), ek, hfn]
          simp only [Option.bind_some]
          rw [if_pos (by omega), if_pos (by omega), ei, if_pos c1, if_pos (by omega), Int.toNat_natCast, wsucc k (by omega)]
      · rw [if_neg (fun z => c1 z.2.2)] at hs
        have e := ih (k + 1) s x y (by omega) (by omega) hx hs
        refine Ev.step (f := fun q => pull_layout_cheapest.j2 q fn x y (i : Int) (k : Int) (lnI l i k) false l a b) (fun q => ?_) (Ev.step (fun q => ?_) e)
        · rw [first q, if_pos c0.1, bq]
        · rw [pull_layout_cheapest.j2, if_neg (by decide), if_pos (by omega), if_pos (by omega), ek, hfn]
          simp only [Option.bind_some]
          rw [if_pos (by omega), if_pos (by omega), ei, if_neg c1, wsucc k (by omega)]
    · rw [if_neg (fun z => c0 ⟨z.1, z.2.1⟩)] at hs
      have e := ih (k + 1) s x y (by omega) (by omega) hx hs
      refine Ev.step (f := fun q => pull_layout_cheapest.j2 q fn x y (i : Int) (k : Int) (lnI l i k) true l a b) (fun q => ?_) (Ev.step (fun q => ?_) e)
      · rw [first q]
        by_cases c2 : mayB l a b i k = true
        · have bq : (C k == 1099511627776) = true := by
            rw [beq_iff_eq]
            by_cases c3 : C k = nv
            · exact c3
            · exact absurd ⟨c2, c3⟩ c0
          rw [if_pos c2, bq]
        · rw [if_neg c2]
      · rw [pull_layout_cheapest.j2, if_pos rfl, wsucc k (by omega)]
theorem ch_l2 {y : List Int} (hy : y.length = l.length) (hy2 : ∀ j, j + 1 < l.length → rd y (j : Int) = (X j : Int)) (hX : ∀ i, i + 1 < l.length → C i ≠ nv → i < X i ∧ X i < l.length ∧ C (X i) ≠ nv) :
    ∀ (e i : Nat) (out : List Int), l.length - 1 - i ≤ e → i < l.length → C i ≠ nv → out.length ≤ i + 1 → Ev (fun s => pull_layout_cheapest.l2 s y out (i : Int) l a b) (out ++ pth X l.length e i, 0, a, b) := by
  have last : ∀ (e i : Nat) (out : List Int), i + 1 = l.length → Ev (fun s => pull_layout_cheapest.l2 s y out (i : Int) l a b) (out ++ pth X l.length e i, 0, a, b) := by
    intro e i out hi
    have : pth X l.length e i = [] := by cases e with
      | zero => rfl
      | succ e => rw [pth, if_pos hi]
    rw [this, List.append_nil]
    refine ev_some _ fun s => ?_
    rw [pull_layout_cheapest.l2]
    unfold pull_layout_last.f
    rw [w64 (n := (l.length : Int) - 1) (by omega) (by omega)]
    simp only [Option.bind_some]
    rw [if_pos (by omega)]
  intro e
  induction e with
  | zero => exact fun i out he hi _ _ => last 0 i out (by omega)
  | succ e ih =>
    intro i out he hi hc ho
    by_cases c : i + 1 = l.length
    · exact last _ i out c
    · obtain ⟨x1, x2, x3⟩ := hX i (by omega) hc
      have en := ih (X i) (out ++ [(X i : Int)]) (by omega) x2 x3 (by simp; omega)
      rw [List.append_assoc] at en
      rw [pth, if_neg c]
      refine Ev.step (fun s => ?_) en
      rw [pull_layout_cheapest.l2]
      unfold pull_layout_last.f
      rw [w64 (n := (l.length : Int) - 1) (by omega) (by omega)]
      simp only [Option.bind_some]
      rw [if_neg (by omega), if_pos (by omega), if_pos (by omega), if_pos (by omega), hy2 i (by omega)]
/-- What cheapest tells. -/
def chR (l : List Int) (a b : Int) (C : Nat → Int) (X : Nat → Nat) : List Int × Int × Int × Int := if C 0 = nv then ([], 5, a, b) else ((0 : Int) :: pth X l.length l.length 0, 0, a, b)
theorem ch_l0 (hn1 : 2 ≤ l.length) (hX : ∀ i, i + 1 < l.length → C i ≠ nv → i < X i ∧ X i < l.length ∧ C (X i) ≠ nv) : ∀ (m : Nat) (x y : List Int), m + 1 ≤ l.length → CM l.length C X m x y → Ev (fun s => pull_layout_cheapest.l0 s fn x y ((m : Int) - 1) l a b) (chR l a b C X) := by
  intro m
  induction m with
  | zero =>
    intro x y hm hx
    have hx1 := hx.1
    have e0 : rd x 0 = C 0 := hx.2.2.1 0 (Nat.le_refl _) (by omega)
    unfold chR
    by_cases c : C 0 = nv
    · rw [if_pos c]
      refine ev_some _ fun s => ?_
      rw [pull_layout_cheapest.l0, if_neg (by omega), if_pos (by omega), e0, if_pos (show C 0 = 1099511627776 from c)]
    · rw [if_neg c]
      have e := ch_l2 hfn h hn (y := y) hx.2.1 (fun j hj => hx.2.2.2.1 j (by omega) hj) hX l.length 0 [0] (by omega) (by omega) c (by simp)
      refine Ev.step (fun s => ?_) e
      rw [pull_layout_cheapest.l0, if_neg (by omega), if_pos (by omega), e0, if_neg (show ¬ C 0 = 1099511627776 from c)]
      rfl
  | succ m ih =>
    intro x y hm hx
    have hx1 := hx.1
    have hy1 := hx.2.1
    have em : ((m + 1 : Nat) : Int) - 1 = (m : Int) := by omega
    rw [em]
    have q := ch_l1 hfn h hn (i := m) (by omega) (fun x' y' h' => ih x' y' (by omega) h') (l.length - 1 - m) (m + 1) (nv, 0) (x.set m nv) y (by omega) (by omega) ⟨by simp [hx1], hy1, by rw [rd_set _ _ (by omega) (by omega), if_pos rfl], hx.2.2.2.2 m (by omega) (by omega), fun j h1 h2 => by rw [rd_set _ _ (by omega) (by omega), if_neg (by omega)]; exact hx.2.2.1 j (by omega) h2, fun j h1 h2 => hx.2.2.2.1 j (by omega) h2, fun j h1 h2 => hx.2.2.2.2 j (by omega) h2⟩ (h.2 m (by omega)).symm
    refine Ev.step (fun s => ?_) q
    rw [pull_layout_cheapest.l0, if_pos (by omega), if_pos (by omega), if_pos (by omega), wsucc m (by omega), Int.toNat_natCast]
    rfl
theorem cheapest_ev (hn1 : 2 ≤ l.length) (hX : ∀ i, i + 1 < l.length → C i ≠ nv → i < X i ∧ X i < l.length ∧ C (X i) ≠ nv) : Ev (fun s => pull_layout_cheapest.f s l a b fn) (chR l a b C X) := by
  have e := ch_l0 hfn h hn hn1 hX (l.length - 1) (List.replicate l.length 0) (List.replicate l.length 0) (by omega) ⟨by simp, by simp, fun j h1 h2 => by
    obtain rfl : j = l.length - 1 := by omega
    rw [rd_rep, h.1], fun j h1 h2 => by omega, fun j h1 h2 => rd_rep _ _⟩
  refine Ev.congr (fun s => ?_) e
  unfold pull_layout_cheapest.f pull_layout_last.f
  rw [if_pos (by omega), if_pos (by omega)]
  simp only [Option.bind_some, Int.toNat_natCast]
  rw [w64 (n := (l.length : Int) - 1) (by omega) (by omega), w64 (n := (l.length : Int) - 1 - 1) (by omega) (by omega), show (((l.length - 1 : Nat) : Int) - 1) = (l.length : Int) - 1 - 1 by omega]
end
section
variable {M : Nat → Nat → Bool} {ln : Nat → Nat → Int} {n : Nat} {C : Nat → Int} {X : Nat → Nat} {σ : Int} (hσ : σ = 1 ∨ σ = -1) (hn : n ≤ 30) (hn1 : 1 ≤ n) (h : Chp M (fun c _ => wrap64 (c + σ)) ln n C X)
include hσ hn hn1 h
/-- What the cost at i tells. -/
def Kp (M : Nat → Nat → Bool) (n : Nat) (C : Nat → Int) (σ : Int) (i : Nat) : Prop :=
  (C i = nv ∧ ∀ q, Lq M n q i = false) ∨ (C i ≠ nv ∧ ∃ q : Nat, q ≤ 30 ∧ C i = σ * q ∧ Lq M n q i = true ∧ ∀ q' : Nat, Lq M n q' i = true → σ * q ≤ σ * q')
theorem sig : ∀ (d i : Nat), i < n → n - 1 - i ≤ d → Kp M n C σ i ∧ (i + 1 < n → Bst M (fun c _ => wrap64 (c + σ)) ln C i n (C i, X i)) := by
  intro d
  have last : ∀ i, i + 1 = n → Kp M n C σ i := by
    intro i hi
    have c0 : C i = 0 := by
      have := h.1
      rwa [show n - 1 = i by omega] at this
    refine .inr ⟨by rw [c0]; decide, 0, by omega, by rw [c0]; simp, decide_eq_true hi, fun q' hq => ?_⟩
    have := Lq_len _ _ hq
    obtain rfl : q' = 0 := by omega
    exact Int.le_refl _
  induction d with
  | zero => exact fun i h1 h2 => ⟨last i (by omega), fun z => by omega⟩
  | succ d ih =>
    intro i h1 h2
    by_cases e : i + 1 = n
    · exact ⟨last i e, fun z => by omega⟩
    · have w : ∀ c : Int, -100 ≤ c → c ≤ 100 → wrap64 (c + σ) = c + σ := fun c h3 h4 => by rcases hσ with rfl | rfl <;> exact w64 (by omega) (by omega)
      have bd : ∀ j, i < j → j < n → C j ≠ nv → -30 ≤ C j ∧ C j ≤ 30 := by
        intro j h3 h4 h5
        rcases (ih j h4 (by omega)).1 with z | ⟨_, q, z1, z2, _⟩
        · exact absurd z.1 h5
        · rcases hσ with rfl | rfl <;> omega
      have hB : Bst M (fun c _ => wrap64 (c + σ)) ln C i n (C i, X i) := by
        rw [h.2 i (by omega)]
        refine bst_all M _ ln (fun j h3 h4 h5 h6 => ?_) (n - 1 - i) (i + 1) (nv, 0) (by omega) (by omega) (.inl ⟨rfl, fun j h3 h4 => by omega⟩)
        have := bd j h3 h4 h6
        rw [w _ (by omega) (by omega)]
        unfold nv
        rcases hσ with rfl | rfl <;> omega
      refine ⟨?_, fun _ => hB⟩
      have nq : Lq M n 0 i = false := decide_eq_false e
      rcases hB with ⟨z1, z2⟩ | ⟨y1, y2, y3, y4, y5, y6, y7, y8⟩
      · refine .inl ⟨z1, fun q => ?_⟩
        cases q with
        | zero => exact nq
        | succ q =>
          refine Bool.eq_false_iff.2 fun t => ?_
          obtain ⟨k, t1, t2, t3, t4⟩ := Lq_succ.1 t
          rcases (ih k t2 (by omega)).1 with z | z
          · rw [z.2 q] at t4; cases t4
          · exact z.1 (z2 k t1 t2 t3)
      · dsimp only at y1 y2 y3 y4 y5 y6 y7 y8
        rcases (ih (X i) y2.2 (by omega)).1 with z | ⟨_, q, q1, q2, q3, q4⟩
        · exact absurd z.1 y4
        · have bx := bd (X i) y2.1 y2.2 y4
          rw [w _ (by omega) (by omega)] at y5
          have lq : Lq M n (q + 1) i = true := Lq_succ.2 ⟨X i, y2.1, y2.2, y3, q3⟩
          have ll := Lq_len _ _ lq
          refine .inr ⟨y1, q + 1, by omega, ?_, lq, fun q' hq' => ?_⟩
          · rcases hσ with rfl | rfl <;> push_cast <;> omega
          · cases q' with
            | zero => rw [nq] at hq'; cases hq'
            | succ q' =>
              obtain ⟨k, t1, t2, t3, t4⟩ := Lq_succ.1 hq'
              rcases (ih k t2 (by omega)).1 with z | ⟨u0, qk, u1, u2, u3, u4⟩
              · rw [z.2 q'] at t4; cases t4
              · have m1 := u4 q' t4
                have bk := bd k t1 t2 u0
                have m2 := y7 k t1 t2 t3 u0
                rw [w _ (by omega) (by omega)] at m2
                rcases hσ with rfl | rfl <;> push_cast <;> omega
/-- How many lengths there are left at i. -/
def Qs (σ : Int) (C : Nat → Int) (i : Nat) : Nat := (σ * C i).toNat
theorem sig_q {i : Nat} (hi : i < n) (ha : C i ≠ nv) : C i = σ * (Qs σ C i : Int) ∧ Qs σ C i ≤ 30 ∧ Lq M n (Qs σ C i) i = true ∧ ∀ q' : Nat, Lq M n q' i = true → σ * (Qs σ C i : Int) ≤ σ * q' := by
  rcases (sig hσ hn hn1 h n i hi (by omega)).1 with z | ⟨_, q, q1, q2, q3, q4⟩
  · exact absurd z.1 ha
  · have e : Qs σ C i = q := by unfold Qs; rw [q2]; rcases hσ with rfl | rfl <;> omega
    rw [e]
    exact ⟨q2, q1, q3, q4⟩
theorem sig_next {i : Nat} (hi : i + 1 < n) (ha : C i ≠ nv) : i < X i ∧ X i < n ∧ C (X i) ≠ nv ∧ M i (X i) = true ∧ Qs σ C i = Qs σ C (X i) + 1 ∧ ∀ k, i < k → k < X i → M i k = true → Lq M n (Qs σ C i - 1) k = false := by
  have w : ∀ c : Int, -100 ≤ c → c ≤ 100 → wrap64 (c + σ) = c + σ := fun c h3 h4 => by rcases hσ with rfl | rfl <;> exact w64 (by omega) (by omega)
  rcases (sig hσ hn hn1 h n i (by omega) (by omega)).2 hi with z | ⟨y1, y2, y3, y4, y5, y6, y7, y8⟩
  · exact absurd z.1 ha
  · dsimp only at y1 y2 y3 y4 y5 y6 y7 y8
    obtain ⟨a1, a2, a3, a4⟩ := sig_q hσ hn hn1 h (i := i) (by omega) ha
    obtain ⟨b1, b2, b3, b4⟩ := sig_q hσ hn hn1 h y2.2 y4
    rw [w _ (by rcases hσ with rfl | rfl <;> omega) (by rcases hσ with rfl | rfl <;> omega)] at y5
    have qe : Qs σ C i = Qs σ C (X i) + 1 := by rcases hσ with rfl | rfl <;> omega
    refine ⟨y2.1, y2.2, y4, y3, qe, fun k h1 h2 h3 => Bool.eq_false_iff.2 fun t => ?_⟩
    have ck : C k ≠ nv := by
      rcases (sig hσ hn hn1 h n k (by omega) (by omega)).1 with z | z
      · rw [z.2 _] at t; cases t
      · exact z.1
    obtain ⟨c1, c2, c3, c4⟩ := sig_q hσ hn hn1 h (i := k) (by omega) ck
    have m := y8 k h1 h2 h3 ck
    rw [w _ (by rcases hσ with rfl | rfl <;> omega) (by rcases hσ with rfl | rfl <;> omega)] at m
    have m2 := c4 _ t
    rcases hσ with rfl | rfl <;> omega
end
theorem may_iff {l : List Int} {a b : Int} {i k : Nat} : mayB l a b i k = true ↔ (a ≤ lnI l i k ∧ lnI l i k ≤ b) := by
  unfold mayB lnI
  rw [decide_eq_true_eq]
theorem sm_pos {g : Nat → Int} : ∀ (d k : Nat), (∀ j, k ≤ j → j < k + d → 0 ≤ g j) → (0 < sm g k d ↔ ∃ j, k ≤ j ∧ j < k + d ∧ 0 < g j)
  | 0, k, _ => ⟨fun z => by rw [sm] at z; omega, fun ⟨j, h1, h2, _⟩ => by omega⟩
  | d + 1, k, e => by
    have h0 := e k (by omega) (by omega)
    have hs := sm_nonneg (g := g) d (k + 1) (fun j h1 h2 => e j (by omega) (by omega))
    have ih := sm_pos (g := g) d (k + 1) (fun j h1 h2 => e j (by omega) (by omega))
    rw [sm]
    constructor
    · intro z
      by_cases c : 0 < g k
      · exact ⟨k, by omega, by omega, c⟩
      · obtain ⟨j, h1, h2, h3⟩ := ih.1 (by omega)
        exact ⟨j, by omega, by omega, h3⟩
    · rintro ⟨j, h1, h2, h3⟩
      by_cases c : j = k
      · subst c; omega
      · have := ih.2 ⟨j, by omega, by omega, h3⟩; omega
/-- The places on a path. -/
def nd (X : Nat → Nat) : Nat → Nat → Nat
  | 0, i => i
  | j + 1, i => nd X j (X i)
theorem nd_succ (X : Nat → Nat) : ∀ j i, nd X (j + 1) i = X (nd X j i)
  | 0, i => rfl
  | j + 1, i => by rw [nd, nd_succ X j (X i), ← nd]
theorem pth_nd {X : Nat → Nat} {n : Nat} {al : Nat → Prop} (hX : ∀ i, i + 1 < n → al i → i < X i ∧ X i < n ∧ al (X i)) : ∀ (e i : Nat), n - 1 - i ≤ e → i < n → al i →
    ∃ m, m ≤ e ∧ (i : Int) :: pth X n e i = (List.range (m + 1)).map (fun j => (nd X j i : Int)) ∧ nd X m i + 1 = n ∧ ∀ j, j < m → nd X j i + 1 < n ∧ al (nd X j i) := by
  have last : ∀ e i, i + 1 = n → ∃ m, m ≤ e ∧ (i : Int) :: pth X n e i = (List.range (m + 1)).map (fun j => (nd X j i : Int)) ∧ nd X m i + 1 = n ∧ ∀ j, j < m → nd X j i + 1 < n ∧ al (nd X j i) := by
    intro e i hi
    have : pth X n e i = [] := by cases e with
      | zero => rfl
      | succ e => rw [pth, if_pos hi]
    refine ⟨0, by omega, by rw [this]; rfl, hi, fun j hj => by omega⟩
  intro e
  induction e with
  | zero => exact fun i h1 h2 h3 => last 0 i (by omega)
  | succ e ih =>
    intro i h1 h2 h3
    by_cases c : i + 1 = n
    · exact last _ i c
    · obtain ⟨x1, x2, x3⟩ := hX i (by omega) h3
      obtain ⟨m, m1, m2, m3, m4⟩ := ih (X i) (by omega) x2 x3
      refine ⟨m + 1, by omega, ?_, m3, fun j hj => ?_⟩
      · rw [pth, if_neg c, m2, List.range_succ_eq_map (n := m + 1), List.map_cons, List.map_map]
        rfl
      · cases j with
        | zero => exact ⟨by show i + 1 < n; omega, h3⟩
        | succ j => exact m4 j (by omega)
section
variable {l : List Int} {a b : Int} {C : Nat → Int} {X : Nat → Nat} (ha : 1 ≤ a) (hb : b ≤ 100000) (hn : l.length ≤ 30) (hn1 : 2 ≤ l.length) (h : Chp (mayB l a b) mx (lnI l) l.length C X)
include ha hb hn hn1 h
theorem even : ∀ (d i : Nat), i < l.length → l.length - 1 - i ≤ d → (C i = nv ∨ (0 ≤ C i ∧ C i ≤ 100000)) ∧ (i + 1 < l.length → Bst (mayB l a b) mx (lnI l) C i l.length (C i, X i)) := by
  intro d
  have last : ∀ i, i + 1 = l.length → C i = nv ∨ (0 ≤ C i ∧ C i ≤ 100000) := by
    intro i hi
    have c0 : C i = 0 := by
      have := h.1
      rwa [show l.length - 1 = i by omega] at this
    rw [c0]; exact .inr ⟨by omega, by omega⟩
  induction d with
  | zero => exact fun i h1 h2 => ⟨last i (by omega), fun z => by omega⟩
  | succ d ih =>
    intro i h1 h2
    by_cases e : i + 1 = l.length
    · exact ⟨last i e, fun z => by omega⟩
    · have hB : Bst (mayB l a b) mx (lnI l) C i l.length (C i, X i) := by
        rw [h.2 i (by omega)]
        refine bst_all (mayB l a b) mx (lnI l) (fun j h3 h4 h5 h6 => ?_) (l.length - 1 - i) (i + 1) (nv, 0) (by omega) (by omega) (.inl ⟨rfl, fun j h3 h4 => by omega⟩)
        have m := may_iff.1 h5
        rcases (ih j h4 (by omega)).1 with z | z
        · exact absurd z h6
        · rw [mx_eq]; unfold nv; omega
      refine ⟨?_, fun _ => hB⟩
      rcases hB with ⟨z1, z2⟩ | ⟨y1, y2, y3, y4, y5, y6, y7, y8⟩
      · exact .inl z1
      · dsimp only at y1 y2 y3 y4 y5
        have m := may_iff.1 y3
        rcases (ih (X i) y2.2 (by omega)).1 with z | z
        · exact absurd z y4
        · rw [mx_eq] at y5; omega
theorem even_next {i : Nat} (hi : i + 1 < l.length) (hc : C i ≠ nv) : i < X i ∧ X i < l.length ∧ C (X i) ≠ nv ∧ mayB l a b i (X i) = true ∧ C i = max (C (X i)) (lnI l i (X i)) ∧ ∀ j, i < j → j < l.length → mayB l a b i j = true → C j ≠ nv → C i ≤ max (C j) (lnI l i j) := by
  rcases (even ha hb hn hn1 h l.length i (by omega) (by omega)).2 hi with z | ⟨y1, y2, y3, y4, y5, y6, y7, y8⟩
  · exact absurd z.1 hc
  · dsimp only at y1 y2 y3 y4 y5 y7
    rw [mx_eq] at y5
    exact ⟨y2.1, y2.2, y4, y3, y5, fun j h1 h2 h3 h4 => by have := y7 j h1 h2 h3 h4; rwa [mx_eq] at this⟩
/-- There is a way within a bound exactly if the cost is. -/
theorem even_thr {t : Int} (ht : 0 ≤ t) (htb : t ≤ b) {N : Nat → Int} (hN : Onw (mayB l a t) l.length N) : ∀ (d i : Nat), i < l.length → l.length - 1 - i ≤ d → (0 < N i ↔ C i ≤ t) := by
  intro d
  have last : ∀ i, i + 1 = l.length → (0 < N i ↔ C i ≤ t) := by
    intro i hi
    have c0 := h.1
    have n0 := hN.1
    rw [show l.length - 1 = i by omega] at c0 n0
    rw [c0, n0]; omega
  induction d with
  | zero => exact fun i h1 h2 => last i (by omega)
  | succ d ih =>
    intro i h1 h2
    by_cases e : i + 1 = l.length
    · exact last i e
    · have pos : ∀ j, i + 1 ≤ j → j < i + 1 + (l.length - 1 - i) → 0 ≤ wy (mayB l a t) N i j := by
        intro j h3 h4
        have := onw_bd hN l.length j (by omega) (by omega)
        unfold wy
        split <;> omega
      rw [hN.2 i (by omega), sm_pos _ _ pos]
      constructor
      · rintro ⟨j, h3, h4, h5⟩
        unfold wy at h5
        split at h5
        · rename_i hM
          have m := may_iff.1 hM
          have cj := (ih j (by omega) (by omega)).1 h5
          have cn : C j ≠ nv := by unfold nv; omega
          have hM' : mayB l a b i j = true := may_iff.2 ⟨m.1, by omega⟩
          have ci : C i ≠ nv := fun z => by
            rcases (even ha hb hn hn1 h l.length i (by omega) (by omega)).2 (by omega) with y | y
            · exact cn (y.2 j (by omega) (by omega) hM')
            · exact y.1 z
          have := (even_next ha hb hn hn1 h (i := i) (by omega) ci).2.2.2.2.2 j (by omega) (by omega) hM' cn
          omega
        · omega
      · intro z
        have ci : C i ≠ nv := by unfold nv; omega
        obtain ⟨x1, x2, x3, x4, x5, _⟩ := even_next ha hb hn hn1 h (i := i) (by omega) ci
        have m := may_iff.1 x4
        have hM : mayB l a t i (X i) = true := may_iff.2 ⟨m.1, by omega⟩
        refine ⟨X i, by omega, by omega, ?_⟩
        unfold wy
        rw [if_pos hM]
        exact (ih (X i) x2 (by omega)).2 (by omega)
end
theorem lens_ev {l p : List Int} (hl : l.length ≤ 50) (hp : p.length ≤ 50) (hA : Asc l p) {f : Nat → Int} (hf : ∀ j : Nat, j + 1 < p.length → wrap64 (rd l (rd p ((j + 1 : Nat) : Int)) - rd l (rd p (j : Int))) = f j) : ∀ (d i : Nat) (out : List Int), i + 1 + d = p.length → out.length = i → (∀ j, j < i → rd out (j : Int) = f j) → Ev (fun k => pull_Lengths.l0 k l p out ((p.drop 1).length : Int) (i : Int)) ((List.range (p.length - 1)).map f, 0) := by
  have hd : ((p.drop 1).length : Int) = (p.length : Int) - 1 := by rw [List.length_drop]; have := hA.2.1; omega
  rw [hd]
  intro d
  induction d with
  | zero =>
    intro i out hi ho h1
    obtain rfl : out = (List.range (p.length - 1)).map f := rd_ext (by omega) (fun j hj => h1 j (by omega))
    refine ev_some _ fun k => ?_
    rw [pull_Lengths.l0, if_neg (by omega)]
  | succ d ih =>
    intro i out hi ho h1
    obtain ⟨b1, b2, b3⟩ := asc_at hl hp hA (i := i) (by omega)
    have sn := snoc_inv (f := f) (v := wrap64 (rd l (rd p ((i + 1 : Nat) : Int)) - rd l (rd p (i : Int)))) ho h1 (hf i (by omega))
    refine Ev.step (fun k => ?_) (ih (i + 1) _ (by omega) sn.1 sn.2)
    rw [pull_Lengths.l0, wsucc i (by omega), if_pos (by omega), if_pos (by omega), if_pos (by omega), if_pos (by omega), if_pos (by omega), if_pos (by omega), if_pos (by omega), if_pos (by omega), if_pos (by omega), if_pos (by omega)]
/-- The greatest of a path's lengths is its cost. -/
theorem max_ev {f c : Nat → Int} {m : Nat} (hm : m ≤ 50) (hm1 : 1 ≤ m) (hc : ∀ j, j < m → c j = max (c (j + 1)) (f j)) (hf : ∀ j, j < m → 0 ≤ f j) (h0 : c m = 0) : Ev (fun k => slices_Max_int_int.f k ((List.range m).map f)) (c 0) := by
  have loop : ∀ (d i : Nat) (acc : Int), i + d = m → 0 ≤ acc → max acc (c i) = c 0 → Ev (fun k => slices_Max_int_int.l0 k ((List.range m).map f) acc (i : Int)) (c 0) := by
    intro d
    induction d with
    | zero =>
      intro i acc hi h1 h2
      obtain rfl : i = m := by omega
      obtain rfl : acc = c 0 := by omega
      refine ev_some _ fun k => ?_
      rw [slices_Max_int_int.l0]
      simp only [List.length_map, List.length_range]
      rw [if_neg (by omega)]
    | succ d ih =>
      intro i acc hi h1 h2
      have e1 : rd ((List.range m).map f) (i : Int) = f i := rd_map f (by omega)
      have e2 := hc i (by omega)
      have e3 := hf i (by omega)
      refine Ev.step (fun k => ?_) (ih (i + 1) (mx acc (f i)) (by omega) (by rw [mx_eq]; omega) (by rw [mx_eq]; omega))
      rw [slices_Max_int_int.l0, e1, wsucc i (by omega)]
      simp only [List.length_map, List.length_range]
      rw [if_pos (by omega), if_pos (by omega)]
  have e0 : rd ((List.range m).map f) 0 = f 0 := rd_map f (i := 0) (by omega)
  have c0 := hc 0 (by omega)
  have f0 := hf 0 (by omega)
  refine Ev.congr (fun k => ?_) (loop (m - 1) 1 (f 0) (by omega) f0 (by have c0' : c 0 = max (c 1) (f 0) := c0; omega))
  unfold slices_Max_int_int.f
  simp only [List.length_map, List.length_range]
  rw [if_neg (by omega), if_pos (by omega), e0]
  rfl
section
variable {l : List Int} {a b : Int} {C : Nat → Int} {X : Nat → Nat} (ha : 1 ≤ a) (hb : b ≤ 100000) (hn : l.length ≤ 30) (hn1 : 2 ≤ l.length) (h : Chp (mayB l a b) mx (lnI l) l.length C X)
include ha hb hn hn1 h
/-- The path that is found, its places, and its greatest length. -/
theorem even_path (hc : C 0 ≠ nv) (hm : Ev (fun k => pull_areMasts.f k l) true) : Asc l ((0 : Int) :: pth X l.length l.length 0) ∧ (∃ D : List Int, Ev (fun k => pull_Lengths.f k l ((0 : Int) :: pth X l.length l.length 0)) (D, 0) ∧ Ev (fun k => slices_Max_int_int.f k D) (C 0)) ∧ (∃ i k, i < k ∧ k < l.length ∧ mayB l a b i k = true ∧ lnI l i k = C 0) := by
  have nx := fun i hi hc => even_next ha hb hn hn1 h (i := i) hi hc
  obtain ⟨m, m1, m2, m3, m4⟩ := pth_nd (X := X) (n := l.length) (al := fun i => C i ≠ nv) (fun i hi hc => ⟨(nx i hi hc).1, (nx i hi hc).2.1, (nx i hi hc).2.2.1⟩) l.length 0 (by omega) (by omega) hc
  have m2' : (0 : Int) :: pth X l.length l.length 0 = (List.range (m + 1)).map (fun j => (nd X j 0 : Int)) := m2
  rw [m2']
  have mp : 1 ≤ m := by
    cases m with
    | zero => have : nd X 0 0 = 0 := rfl; omega
    | succ m => omega
  have rdn : ∀ j : Nat, j < m + 1 → rd ((List.range (m + 1)).map (fun j => (nd X j 0 : Int))) (j : Int) = (nd X j 0 : Int) := fun j hj => rd_map (fun j => (nd X j 0 : Int)) hj
  have st : ∀ j, j < m → nd X j 0 < nd X (j + 1) 0 ∧ nd X (j + 1) 0 < l.length ∧ mayB l a b (nd X j 0) (nd X (j + 1) 0) = true ∧ C (nd X j 0) = max (C (nd X (j + 1) 0)) (lnI l (nd X j 0) (nd X (j + 1) 0)) := by
    intro j hj
    obtain ⟨a1, a2⟩ := m4 j hj
    obtain ⟨x1, x2, x3, x4, x5, _⟩ := nx _ a1 a2
    rw [nd_succ]
    exact ⟨x1, x2, x4, x5⟩
  generalize hp : (List.range (m + 1)).map (fun j => (nd X j 0 : Int)) = p at *
  have pl : p.length = m + 1 := by rw [← hp]; simp
  have hA : Asc l p := by
    refine ⟨fun j h1 h2 => ?_, by omega, ?_, ?_⟩
    · obtain ⟨q, rfl⟩ : ∃ q, j = q + 1 := ⟨j - 1, by omega⟩
      rw [Nat.add_sub_cancel, rdn q (by omega), rdn (q + 1) (by omega)]
      have := (st q (by omega)).1
      omega
    · have := rdn 0 (by omega); exact this
    · rw [show p.length - 1 = m by omega, rdn m (by omega)]; omega
  have e0 : C (nd X 0 0) = C 0 := rfl
  have em : C (nd X m 0) = 0 := by
    have := h.1
    rwa [show l.length - 1 = nd X m 0 by omega] at this
  refine ⟨hA, ⟨(List.range (p.length - 1)).map (fun j => lnI l (nd X j 0) (nd X (j + 1) 0)), ?_, ?_⟩, ?_⟩
  · obtain ⟨bb, ⟨K1, s1⟩, hbb⟩ := asc_p (l := l) (p := p) (by omega) (by omega) _ 1 rfl (Nat.le_refl _)
    have b1 : bb = true := hbb.2 hA
    subst b1
    obtain ⟨K2, s2⟩ := hm
    obtain ⟨K3, s3⟩ := lens_ev (l := l) (p := p) (f := fun j => lnI l (nd X j 0) (nd X (j + 1) 0)) (by omega) (by omega) hA (fun j hj => by rw [rdn j (by omega), rdn (j + 1) (by omega)]; rfl) (p.length - 1) 0 [] (by omega) rfl (fun j hj => by omega)
    refine ⟨K1 + K2 + K3, fun k hk => ?_⟩
    have t1 : pull_ascends.f k l p = some true := s1 k (by omega)
    have t2 := s2 k (by omega)
    have t3 := s3 k (by omega)
    dsimp only at t2 t3 ⊢
    unfold pull_Lengths.f
    rw [t2]
    simp only [Option.bind_some, if_true]
    rw [t1]
    simp only [Option.bind_some, if_true]
    rw [if_pos (by omega)]
    exact t3
  · rw [show p.length - 1 = m by omega]
    exact max_ev (c := fun j => C (nd X j 0)) (by omega) mp (fun j hj => (st j hj).2.2.2) (fun j hj => by have := may_iff.1 (st j hj).2.2.1; omega) em
  · have key : ∀ d j, j + d = m → j < m → ∃ q, j ≤ q ∧ q < m ∧ C (nd X j 0) = lnI l (nd X q 0) (nd X (q + 1) 0) := by
      intro d
      induction d with
      | zero => intro j h1 h2; omega
      | succ d ih =>
        intro j h1 h2
        have s := st j h2
        have ms := may_iff.1 s.2.2.1
        by_cases c : C (nd X (j + 1) 0) ≤ lnI l (nd X j 0) (nd X (j + 1) 0)
        · exact ⟨j, Nat.le_refl _, h2, by rw [s.2.2.2]; omega⟩
        · by_cases c2 : j + 1 < m
          · obtain ⟨q, q1, q2, q3⟩ := ih (j + 1) (by omega) c2
            exact ⟨q, by omega, q2, by rw [s.2.2.2, ← q3]; omega⟩
          · rw [show j + 1 = m by omega, em] at c
            rw [show j + 1 = m by omega] at ms
            omega
    obtain ⟨q, _, q2, q3⟩ := key m 0 (by omega) (by omega)
    exact ⟨nd X q 0, nd X (q + 1) 0, (st q q2).1, (st q q2).2.1, (st q q2).2.2.1, q3.symm⟩
end
/-- From i on, in m steps, to the last of n places. -/
structure Path (M : Nat → Nat → Bool) (n m : Nat) (c : Nat → Nat) : Prop where
  last : c m + 1 = n
  step : ∀ j, j < m → c j < c (j + 1) ∧ M (c j) (c (j + 1)) = true
theorem Path.lt {M : Nat → Nat → Bool} {n m : Nat} {c : Nat → Nat} (h : Path M n m c) : ∀ (d j : Nat), j + d = m → c j + d + 1 ≤ n
  | 0, j, e => by have := h.last; rw [← e] at this; simp at this; omega
  | d + 1, j, e => by have := h.lt d (j + 1) (by omega); have := (h.step j (by omega)).1; omega
theorem Path.le {M : Nat → Nat → Bool} {n m : Nat} {c : Nat → Nat} (h : Path M n m c) {j : Nat} (hj : j ≤ m) : c j < n := by have := h.lt (m - j) j (by omega); omega
/-- A list is such a path. -/
structure PlanOf (M : Nat → Nat → Bool) (n : Nat) (p : List Int) (m : Nat) (c : Nat → Nat) : Prop extends Path M n m c where
  len : p.length = m + 1
  val : ∀ j : Nat, j ≤ m → rd p (j : Int) = (c j : Int)
  zero : c 0 = 0
theorem PlanOf.m1 {M : Nat → Nat → Bool} {n : Nat} {p : List Int} {m : Nat} {c : Nat → Nat} (h : PlanOf M n p m c) (hn : 2 ≤ n) : 1 ≤ m := by
  have := h.zero
  have := h.last
  cases m with
  | zero => omega
  | succ m => omega
theorem PlanOf.mle {M : Nat → Nat → Bool} {n : Nat} {p : List Int} {m : Nat} {c : Nat → Nat} (h : PlanOf M n p m c) : m + 1 ≤ n := by
  have := h.lt m 0 (by omega); omega
theorem plan_mk {M : Nat → Nat → Bool} {n m : Nat} {c : Nat → Nat} (h : Path M n m c) (hz : c 0 = 0) : PlanOf M n ((List.range (m + 1)).map (fun j => (c j : Int))) m c :=
  { h with len := by simp, val := fun j hj => rd_map (fun j => (c j : Int)) (by omega), zero := hz }
theorem PlanOf.imp {M M' : Nat → Nat → Bool} {n : Nat} {p : List Int} {m : Nat} {c : Nat → Nat} (h : PlanOf M n p m c) (hM : ∀ j, j < m → M (c j) (c (j + 1)) = true → M' (c j) (c (j + 1)) = true) : PlanOf M' n p m c :=
  { len := h.len, val := h.val, zero := h.zero, last := h.last, step := fun j hj => ⟨(h.step j hj).1, hM j hj (h.step j hj).2⟩ }
/-- How many ways lie ahead of a path, from place j on, d steps. -/
def rkF (M : Nat → Nat → Bool) (N : Nat → Int) (c : Nat → Nat) : Nat → Nat → Int
  | 0, _ => 0
  | d + 1, j => sm (wy M N (c j)) (c j + 1) (c (j + 1) - (c j + 1)) + rkF M N c d (j + 1)
theorem sm_split (g : Nat → Int) : ∀ (d e k : Nat), sm g k (d + e) = sm g k d + sm g (k + d) e
  | 0, e, k => by rw [sm, Nat.zero_add, Nat.add_zero]; omega
  | d + 1, e, k => by rw [show d + 1 + e = (d + e) + 1 by omega, sm, sm, sm_split g d e (k + 1), show k + 1 + d = k + (d + 1) by omega]; omega
theorem wy_nn {M : Nat → Nat → Bool} {n : Nat} {N : Nat → Int} (h : Onw M n N) (i : Nat) : ∀ j, j < n → 0 ≤ wy M N i j := by
  intro j hj
  have := (onw_bd h n j hj (by omega)).1
  unfold wy
  split <;> omega
theorem onw_at {M : Nat → Nat → Bool} {n : Nat} {N : Nat → Int} (h : Onw M n N) {i k : Nat} (hi : i < k) (hk : k < n) (hM : M i k = true) : N i = sm (wy M N i) (i + 1) (k - (i + 1)) + (N k + sm (wy M N i) (k + 1) (n - 1 - k)) := by
  have e : n - 1 - i = (k - (i + 1)) + ((n - 1 - k) + 1) := by omega
  rw [h.2 i (by omega), e, sm_split, sm, show i + 1 + (k - (i + 1)) = k by omega]
  have : wy M N i k = N k := by unfold wy; rw [if_pos hM]
  omega
theorem rk_bd {M : Nat → Nat → Bool} {n m : Nat} {c : Nat → Nat} {N : Nat → Int} (h : Onw M n N) (hp : Path M n m c) : ∀ (d j : Nat), j + d = m → 0 ≤ rkF M N c d j ∧ rkF M N c d j < N (c j)
  | 0, j, e => by
    have := hp.last
    obtain rfl : m = j := by omega
    have hh := h.1
    rw [show n - 1 = c m by omega] at hh
    rw [hh, rkF]; omega
  | d + 1, j, e => by
    have ih := rk_bd h hp d (j + 1) (by omega)
    obtain ⟨s1, s2⟩ := hp.step j (by omega)
    have l1 := hp.le (j := j + 1) (by omega)
    have a := onw_at h s1 l1 s2
    have n1 := sm_nonneg (g := wy M N (c j)) (c (j + 1) - (c j + 1)) (c j + 1) (fun q h1 h2 => wy_nn h _ q (by omega))
    have n2 := sm_nonneg (g := wy M N (c j)) (n - 1 - c (j + 1)) (c (j + 1) + 1) (fun q h1 h2 => wy_nn h _ q (by omega))
    rw [rkF]; omega
theorem rk_congr {M : Nat → Nat → Bool} {N : Nat → Int} {c c' : Nat → Nat} : ∀ (d j j' : Nat), (∀ q, q ≤ d → c (j + q) = c' (j' + q)) → rkF M N c d j = rkF M N c' d j'
  | 0, _, _, _ => rfl
  | d + 1, j, j', h => by
    have h0 := h 0 (by omega)
    have h1 := h 1 (by omega)
    simp only [Nat.add_zero] at h0
    rw [rkF, rkF, h0, h1, rk_congr d (j + 1) (j' + 1) (fun q hq => by have := h (q + 1) (by omega); rw [show j + 1 + q = j + (q + 1) by omega, show j' + 1 + q = j' + (q + 1) by omega]; exact this)]
/-- Where a sum passes a number. -/
theorem sm_find {g : Nat → Int} : ∀ (d k : Nat) (r : Int), 0 ≤ r → r < sm g k d → ∃ q, k ≤ q ∧ q < k + d ∧ sm g k (q - k) ≤ r ∧ r < sm g k (q - k) + g q
  | 0, k, r, h0, h1 => by rw [sm] at h1; omega
  | d + 1, k, r, h0, h1 => by
    rw [sm] at h1
    by_cases e : r < g k
    · exact ⟨k, by omega, by omega, by rw [Nat.sub_self, sm]; exact h0, by rw [Nat.sub_self, sm]; omega⟩
    · obtain ⟨q, q1, q2, q3, q4⟩ := sm_find (g := g) d (k + 1) (r - g k) (by omega) (by omega)
      refine ⟨q, by omega, by omega, ?_, ?_⟩ <;> rw [show q - k = (q - (k + 1)) + 1 by omega, sm] <;> omega
/-- There is a path with each rank. -/
theorem rk_ex {M : Nat → Nat → Bool} {n : Nat} {N : Nat → Int} (h : Onw M n N) : ∀ (e i : Nat) (r : Int), i < n → n - 1 - i ≤ e → 0 ≤ r → r < N i → ∃ m c, c 0 = i ∧ Path M n m c ∧ rkF M N c m 0 = r := by
  intro e
  have last : ∀ (i : Nat) (r : Int), i + 1 = n → 0 ≤ r → r < N i → ∃ m c, c 0 = i ∧ Path M n m c ∧ rkF M N c m 0 = r := by
    intro i r hi h0 h1
    have hh := h.1
    rw [show n - 1 = i by omega] at hh
    exact ⟨0, fun _ => i, rfl, ⟨hi, fun j hj => by omega⟩, by rw [rkF]; omega⟩
  induction e with
  | zero => exact fun i r h1 h2 h3 h4 => last i r (by omega) h3 h4
  | succ e ih =>
    intro i r h1 h2 h3 h4
    by_cases ce : i + 1 = n
    · exact last i r ce h3 h4
    · rw [h.2 i (by omega)] at h4
      obtain ⟨q, q1, q2, q3, q4⟩ := sm_find (n - 1 - i) (i + 1) r h3 h4
      have hM : M i q = true := by
        by_cases z : M i q = true
        · exact z
        · have : wy M N i q = 0 := by unfold wy; rw [if_neg z]
          omega
      have ew : wy M N i q = N q := by unfold wy; rw [if_pos hM]
      obtain ⟨m, c, c0, cp, cr⟩ := ih q (r - sm (wy M N i) (i + 1) (q - (i + 1))) (by omega) (by omega) (by omega) (by omega)
      refine ⟨m + 1, fun j => if j = 0 then i else c (j - 1), rfl, ⟨?_, fun j hj => ?_⟩, ?_⟩
      · rw [if_neg (by omega), Nat.add_sub_cancel]; exact cp.last
      · rw [if_neg (show ¬ j + 1 = 0 by omega), Nat.add_sub_cancel]
        by_cases z : j = 0
        · rw [if_pos z, z, c0]; exact ⟨by omega, hM⟩
        · rw [if_neg z]
          have := cp.step (j - 1) (by omega)
          rwa [show j - 1 + 1 = j by omega] at this
      · rw [rkF]
        rw [if_pos rfl, if_neg (show ¬ 0 + 1 = 0 by omega)]
        have e1 : rkF M N (fun j => if j = 0 then i else c (j - 1)) m (0 + 1) = rkF M N c m 0 := rk_congr m (0 + 1) 0 (fun q hq => by rw [if_neg (by omega)]; congr 1; omega)
        rw [e1, cr]
        rw [show (0 + 1 - 1 : Nat) = 0 from rfl, c0]
        omega
section
variable {l : List Int} {a b : Int} {N : Nat → Int} (h : Onw (mayB l a b) l.length N) (hn : l.length ≤ 30)
include h hn
/-- The program's steps to the plan with a rank. -/
theorem unrank {p : List Int} {m : Nat} {c : Nat → Nat} (hp : PlanOf (mayB l a b) l.length p m c) : ∀ (d j : Nat), j + d = m → Ev (fun k => pull_layout_ranked.l0 k (rkF (mayB l a b) N c d j) ((List.range l.length).map N) (p.take (j + 1)) (c j : Int) l a b) (p, true, a, b) := by
  intro d
  induction d with
  | zero =>
    intro j hj
    have e : p.take (j + 1) = p := List.take_of_length_le (by rw [hp.len]; omega)
    have hl := hp.last
    obtain rfl : m = j := by omega
    rw [e]
    refine ev_some _ fun k => ?_
    rw [pull_layout_ranked.l0]
    unfold pull_layout_last.f
    rw [w64 (n := (l.length : Int) - 1) (by omega) (by omega)]
    simp only [Option.bind_some]
    rw [if_pos (by omega)]
  | succ d ih =>
    intro j hj
    obtain ⟨s1, s2⟩ := hp.step j (by omega)
    have l0 := hp.le (j := j) (by omega)
    have l1 := hp.le (j := j + 1) (by omega)
    have tk : p.take (j + 1 + 1) = p.take (j + 1) ++ [(c (j + 1) : Int)] := by
      have hl := hp.len
      rw [List.take_succ_eq_append_getElem (by omega)]
      have := hp.val (j + 1) (by omega)
      simp only [rd, List.getD_eq_getElem?_getD, Int.toNat_natCast, List.getElem?_eq_getElem (show j + 1 < p.length by omega), Option.getD_some] at this
      rw [this]
    have pl := hp.len
    have pm := hp.mle
    have tl : (p.take (j + 1)).length ≤ 30 := by rw [List.length_take]; omega
    have rb := rk_bd h hp.toPath d (j + 1) (by omega)
    have bN := onw_bd h l.length (c (j + 1)) l1 (by omega)
    have inner : ∀ (e k : Nat), k + e = c (j + 1) → c j < k → Ev (fun q => pull_layout_ranked.l1 q (sm (wy (mayB l a b) N (c j)) k e + rkF (mayB l a b) N c d (j + 1)) ((List.range l.length).map N) (p.take (j + 1)) (c j : Int) (k : Int) l a b) (p, true, a, b) := by
      intro e
      induction e with
      | zero =>
        intro k hk hk2
        obtain rfl : k = c (j + 1) := by omega
        have e1 : rd ((List.range l.length).map N) (c (j + 1) : Int) = N (c (j + 1)) := rd_map N l1
        have el := length_some (l := l) (a := a) (b := b) (i := c j) (k := c (j + 1)) l0 l1
        have e2 := ih (j + 1) (by omega)
        rw [tk] at e2
        refine Ev.step (fun q => ?_) e2
        rw [pull_layout_ranked.l1, sm, Int.zero_add, el, s2]
        simp only [Option.bind_some, if_true, List.length_map, List.length_range]
        rw [if_pos (by omega), if_pos (by omega), e1, if_pos (by omega), if_pos (by omega)]
      | succ e ihe =>
        intro k hk hk2
        have kl : k < l.length := by omega
        have e1 : rd ((List.range l.length).map N) (k : Int) = N k := rd_map N kl
        have el := length_some (l := l) (a := a) (b := b) (i := c j) (k := k) l0 kl
        have bk := onw_bd h l.length k kl (by omega)
        have n1 := sm_nonneg (g := wy (mayB l a b) N (c j)) e (k + 1) (fun q h1 h2 => wy_nn h _ q (by omega))
        have bi := onw_bd h l.length (c j) l0 (by omega)
        have ps := p2_small (a := l.length - 1 - c j) (by omega)
        have ps2 := p2_small (a := l.length - 1 - c (j + 1)) (by omega)
        have ps3 := p2_small (a := l.length - 1 - k) (by omega)
        have up : sm (wy (mayB l a b) N (c j)) (k + 1) e ≤ N (c j) := by
          rw [h.2 (c j) (by omega)]
          have sp := sm_split (wy (mayB l a b) N (c j)) (k + 1 - (c j + 1)) (e + (l.length - 1 - c j - (k + 1 - (c j + 1)) - e)) (c j + 1)
          rw [show k + 1 - (c j + 1) + (e + (l.length - 1 - c j - (k + 1 - (c j + 1)) - e)) = l.length - 1 - c j by omega, show c j + 1 + (k + 1 - (c j + 1)) = k + 1 by omega, sm_split] at sp
          have z1 := sm_nonneg (g := wy (mayB l a b) N (c j)) (k + 1 - (c j + 1)) (c j + 1) (fun q h1 h2 => wy_nn h _ q (by omega))
          have z2 := sm_nonneg (g := wy (mayB l a b) N (c j)) (l.length - 1 - c j - (k + 1 - (c j + 1)) - e) (k + 1 + e) (fun q h1 h2 => wy_nn h _ q (by omega))
          omega
        rw [sm]
        cases hM : mayB l a b (c j) k with
        | true =>
          have ew : wy (mayB l a b) N (c j) k = N k := by unfold wy; rw [if_pos hM]
          rw [ew]
          refine Ev.step (fun q => ?_) (ihe (k + 1) (by omega) (by omega))
          rw [pull_layout_ranked.l1, el, hM, wsucc k (by omega)]
          simp only [Option.bind_some, if_true, List.length_map, List.length_range]
          rw [if_pos (by omega), if_pos (by omega), e1, if_neg (by omega), w64 (by omega) (by omega)]
          rw [show N k + sm (wy (mayB l a b) N (c j)) (k + 1) e + rkF (mayB l a b) N c d (j + 1) - N k = sm (wy (mayB l a b) N (c j)) (k + 1) e + rkF (mayB l a b) N c d (j + 1) by omega]
        | false =>
          have ew : wy (mayB l a b) N (c j) k = 0 := by unfold wy; rw [hM]; rfl
          rw [ew, Int.zero_add]
          refine Ev.step (fun q => ?_) (ihe (k + 1) (by omega) (by omega))
          rw [pull_layout_ranked.l1, el, hM, wsucc k (by omega)]
          simp only [Option.bind_some, Bool.false_eq_true, if_false]
    refine Ev.step (fun k => ?_) (inner (c (j + 1) - (c j + 1)) (c j + 1) (by omega) (by omega))
    rw [pull_layout_ranked.l0]
    unfold pull_layout_last.f
    rw [w64 (n := (l.length : Int) - 1) (by omega) (by omega), wsucc (c j) (by omega)]
    simp only [Option.bind_some]
    rw [if_neg (by omega)]
    rfl
theorem ranked_ev (hn1 : 2 ≤ l.length) {p : List Int} {m : Nat} {c : Nat → Nat} (hp : PlanOf (mayB l a b) l.length p m c) : Ev (fun k => pull_layout_ranked.f k l a b (rkF (mayB l a b) N c m 0)) (p, true, a, b) := by
  obtain ⟨K3, s3⟩ := numbers_ev h hn hn1
  obtain ⟨K5, s5⟩ := unrank h hn hp m 0 (by omega)
  have rb := rk_bd h hp.toPath m 0 (by omega)
  rw [hp.zero] at rb
  have e0 : rd ((List.range l.length).map N) 0 = N 0 := rd_map N (i := 0) (by omega)
  have bn := onw_bd h l.length 0 (by omega) (by omega)
  have ps := p2_small (a := l.length - 1 - 0) (by omega)
  have ew : wrap64 (N 0 - 1) = N 0 - 1 := w64 (by omega) (by omega)
  have t1 : p.take (0 + 1) = [0] := by
    have hl := hp.len
    have := hp.val 0 (by omega)
    rw [hp.zero] at this
    cases p with
    | nil => simp at hl
    | cons x xs => simp [rd] at this; simp [this]
  refine ⟨K3 + K5, fun k hk => ?_⟩
  have a3 := s3 k (by omega)
  have a5 := s5 k (by omega)
  dsimp only at a3 a5 ⊢
  rw [t1, hp.zero] at a5
  unfold pull_layout_ranked.f
  rw [a3]
  simp only [Option.bind_some, List.length_map, List.length_range, e0, ew, within_some]
  rw [if_pos (by omega), decide_eq_true (show 0 ≤ rkF (mayB l a b) N c m 0 ∧ rkF (mayB l a b) N c m 0 ≤ N 0 - 1 by omega)]
  simp only [Option.bind_some, if_true]
  exact a5
/-- The program's rank of a plan. -/
theorem rank_loop {p : List Int} {m : Nat} {c : Nat → Nat} (hp : PlanOf (mayB l a b) l.length p m c) : ∀ (d j : Nat) (acc : Int), j + d = m → 0 ≤ acc → acc + rkF (mayB l a b) N c d j < N 0 → Ev (fun k => pull_Rank.l0 k p ((List.range l.length).map N) acc ((p.drop 1).length : Int) (j : Int) l a b) (acc + rkF (mayB l a b) N c d j, 0) := by
  have hd : ((p.drop 1).length : Int) = (m : Int) := by rw [List.length_drop, hp.len]; omega
  have hpl := hp.len
  have ml := hp.mle
  have bn := onw_bd h l.length 0 (by omega) (by omega)
  have ps := p2_small (a := l.length - 1 - 0) (by omega)
  rw [hd]
  intro d
  induction d with
  | zero =>
    intro j acc hj h1 h2
    refine ev_some _ fun k => ?_
    rw [pull_Rank.l0, if_neg (by omega), rkF, Int.add_zero]
  | succ d ih =>
    intro j acc hj h1 h2
    obtain ⟨s1, s2⟩ := hp.step j (by omega)
    have l0 := hp.le (j := j) (by omega)
    have l1 := hp.le (j := j + 1) (by omega)
    have v0 := hp.val j (by omega)
    have v1 := hp.val (j + 1) (by omega)
    have rb := rk_bd h hp.toPath d (j + 1) (by omega)
    have inner : ∀ (e k : Nat) (acc : Int), k + e = c (j + 1) → c j < k → 0 ≤ acc → acc + (sm (wy (mayB l a b) N (c j)) k e + rkF (mayB l a b) N c d (j + 1)) < N 0 → Ev (fun q => pull_Rank.l1 q p ((List.range l.length).map N) acc (j : Int) (k : Int) (m : Int) (j : Int) l a b) (acc + (sm (wy (mayB l a b) N (c j)) k e + rkF (mayB l a b) N c d (j + 1)), 0) := by
      intro e
      induction e with
      | zero =>
        intro k acc hk hk2 g1 g2
        rw [sm, Int.zero_add] at g2 ⊢
        refine Ev.step (fun q => ?_) (ih (j + 1) acc (by omega) g1 g2)
        rw [pull_Rank.l1, wsucc j (by omega), if_pos (by omega), if_pos (by omega), v1, if_neg (by omega)]
      | succ e ihe =>
        intro k acc hk hk2 g1 g2
        have kl : k < l.length := by omega
        have e1 : rd ((List.range l.length).map N) (k : Int) = N k := rd_map N kl
        have el := length_some (l := l) (a := a) (b := b) (i := c j) (k := k) l0 kl
        have bk := onw_bd h l.length k kl (by omega)
        have n1 := sm_nonneg (g := wy (mayB l a b) N (c j)) e (k + 1) (fun q h1 h2 => wy_nn h _ q (by omega))
        rw [sm] at g2 ⊢
        cases hM : mayB l a b (c j) k with
        | true =>
          have ew : wy (mayB l a b) N (c j) k = N k := by unfold wy; rw [if_pos hM]
          rw [ew] at g2 ⊢
          have e2 := ihe (k + 1) (acc + N k) (by omega) (by omega) (by omega) (by omega)
          rw [show acc + N k + (sm (wy (mayB l a b) N (c j)) (k + 1) e + rkF (mayB l a b) N c d (j + 1)) = acc + (N k + sm (wy (mayB l a b) N (c j)) (k + 1) e + rkF (mayB l a b) N c d (j + 1)) by omega] at e2
          refine Ev.step (fun q => ?_) e2
          rw [pull_Rank.l1, wsucc j (by omega), if_pos (by omega), if_pos (by omega), v1, if_pos (by omega), if_pos (by omega), if_pos (by omega), v0, el, hM, wsucc k (by omega)]
          simp only [Option.bind_some, if_true, List.length_map, List.length_range]
          rw [if_pos (by omega), if_pos (by omega), e1, w64 (by omega) (by omega)]
        | false =>
          have ew : wy (mayB l a b) N (c j) k = 0 := by unfold wy; rw [hM]; rfl
          rw [ew, Int.zero_add] at g2 ⊢
          refine Ev.step (fun q => ?_) (ihe (k + 1) acc (by omega) (by omega) g1 g2)
          rw [pull_Rank.l1, wsucc j (by omega), if_pos (by omega), if_pos (by omega), v1, if_pos (by omega), if_pos (by omega), if_pos (by omega), v0, el, hM, wsucc k (by omega)]
          simp only [Option.bind_some, Bool.false_eq_true, if_false]
    rw [rkF] at h2 ⊢
    refine Ev.step (fun k => ?_) (inner (c (j + 1) - (c j + 1)) (c j + 1) acc (by omega) (by omega) h1 h2)
    rw [pull_Rank.l0, if_pos (by omega), if_pos (by omega), if_pos (by omega), v0, wsucc (c j) (by omega)]
end
/-- Which lists are plans. -/
theorem isplan_ev {l p : List Int} (hl : l.length ≤ 30) (hn1 : 2 ≤ l.length) (hp : p.length ≤ 50) (a b : Int) : ∃ t : Bool, Ev (fun k => pull_layout_isPlan.f k l a b p) (t, a, b) ∧ (t = true ↔ ∃ m c, PlanOf (mayB l a b) l.length p m c) := by
  obtain ⟨bb, ⟨K1, s1⟩, hbb⟩ := asc_p (l := l) (p := p) (by omega) hp _ 1 rfl (Nat.le_refl _)
  cases bb with
  | false =>
    refine ⟨false, ⟨K1, fun k hk => ?_⟩, fun z => (by cases z), fun ⟨m, c, hc⟩ => ?_⟩
    · have t1 : pull_ascends.f k l p = some false := s1 k (by omega)
      dsimp only
      unfold pull_layout_isPlan.f
      rw [t1]; rfl
    · have hm := hc.m1 hn1
      have hlen := hc.len
      refine hbb.2 ⟨fun j h1 h2 => ?_, by omega, ?_, ?_⟩
      · obtain ⟨q, rfl⟩ : ∃ q, j = q + 1 := ⟨j - 1, by omega⟩
        rw [Nat.add_sub_cancel, hc.val q (by omega), hc.val (q + 1) (by omega)]
        have := (hc.step q (by omega)).1
        omega
      · have := hc.val 0 (by omega); rw [hc.zero] at this; exact this
      · have := hc.last; rw [hlen, Nat.add_sub_cancel, hc.val m (by omega)]; omega
  | true =>
    have hA : Asc l p := hbb.1 rfl
    have h2 := hA.2.1
    have hd : ((p.drop 1).length : Int) = (p.length : Int) - 1 := by rw [List.length_drop]; omega
    have loop : ∀ (d i : Nat), i + 1 + d = p.length → ∃ t : Bool, Ev (fun k => pull_layout_isPlan.l0 k p ((p.length : Int) - 1) (i : Int) l a b) (t, a, b) ∧ (t = true ↔ ∀ j : Nat, i ≤ j → j + 1 < p.length → mayB l a b (rd p (j : Int)).toNat (rd p ((j + 1 : Nat) : Int)).toNat = true) := by
      intro d
      induction d with
      | zero =>
        intro i hi
        refine ⟨true, ev_some _ fun k => ?_, fun _ j h1 h2 => by omega, fun _ => rfl⟩
        rw [pull_layout_isPlan.l0, if_neg (by omega)]
      | succ d ih =>
        intro i hi
        obtain ⟨b1, b2, b3⟩ := asc_at (by omega) hp hA (i := i) (by omega)
        have el : pull_layout_length.f l a b (rd p (i : Int)) (rd p ((i + 1 : Nat) : Int)) = some (wrap64 (rd l (rd p ((i + 1 : Nat) : Int)) - rd l (rd p (i : Int))), mayB l a b (rd p (i : Int)).toNat (rd p ((i + 1 : Nat) : Int)).toNat, a, b) := by
          have := length_some (l := l) (a := a) (b := b) (i := (rd p (i : Int)).toNat) (k := (rd p ((i + 1 : Nat) : Int)).toNat) (by omega) (by omega)
          rwa [Int.toNat_of_nonneg b1, Int.toNat_of_nonneg (by omega)] at this
        obtain ⟨t, e, ht⟩ := ih (i + 1) (by omega)
        cases hM : mayB l a b (rd p (i : Int)).toNat (rd p ((i + 1 : Nat) : Int)).toNat with
        | true =>
          refine ⟨t, Ev.step (fun k => ?_) e, ?_⟩
          · rw [pull_layout_isPlan.l0, wsucc i (by omega), if_pos (by omega), if_pos (by omega), if_pos (by omega), if_pos (by omega), if_pos (by omega), el, hM]
            rfl
          · rw [ht]
            refine ⟨fun z j h1 h2 => ?_, fun z j h1 h2 => z j (by omega) h2⟩
            by_cases ej : j = i
            · subst ej; exact hM
            · exact z j (by omega) h2
        | false =>
          refine ⟨false, ev_some _ fun k => ?_, fun z => (by cases z), fun z => ?_⟩
          · rw [pull_layout_isPlan.l0, wsucc i (by omega), if_pos (by omega), if_pos (by omega), if_pos (by omega), if_pos (by omega), if_pos (by omega), el, hM]
            rfl
          · have := z i (Nat.le_refl _) (by omega); rw [hM] at this; exact this
    obtain ⟨t, ⟨K2, s2⟩, ht⟩ := loop (p.length - 1) 0 (by omega)
    refine ⟨t, ⟨K1 + K2, fun k hk => ?_⟩, ?_⟩
    · have t1 : pull_ascends.f k l p = some true := s1 k (by omega)
      have t2 := s2 k (by omega)
      dsimp only at t2 ⊢
      unfold pull_layout_isPlan.f
      rw [t1]
      simp only [Option.bind_some, if_true]
      rw [if_pos (by omega), hd]
      exact t2
    · rw [ht]
      have low : ∀ j : Nat, j < p.length → 0 ≤ rd p (j : Int) := fun j hj => hA.low j hj
      constructor
      · intro z
        refine ⟨p.length - 1, fun j => (rd p (j : Int)).toNat, { len := by omega, val := fun j hj => (Int.toNat_of_nonneg (low j (by omega))).symm, zero := ?_, last := ?_, step := fun j hj => ⟨?_, z j (by omega) (by omega)⟩ }⟩
        · have := hA.2.2.2
          rw [this]; omega
        · have b := asc_at (by omega) hp hA (i := j) (by omega)
          omega
        · show (rd p 0).toNat = 0
          rw [hA.2.2.1]; rfl
      · rintro ⟨m, c, hc⟩ j _ hj
        have hlen := hc.len
        rw [hc.val j (by omega), hc.val (j + 1) (by omega), Int.toNat_natCast, Int.toNat_natCast]
        exact (hc.step j (by omega)).2
/-- A path of m steps is one of the document's numbers of lengths. -/
theorem path_lq {M : Nat → Nat → Bool} {n m : Nat} {c : Nat → Nat} (h : Path M n m c) : ∀ (d j : Nat), j + d = m → Lq M n d (c j) = true
  | 0, j, e => by
    have := h.last
    obtain rfl : m = j := by omega
    exact decide_eq_true this
  | d + 1, j, e => by
    obtain ⟨s1, s2⟩ := h.step j (by omega)
    exact Lq_succ.2 ⟨c (j + 1), s1, h.le (by omega), s2, path_lq h d (j + 1) (by omega)⟩
theorem path_pth {M : Nat → Nat → Bool} {n : Nat} {X : Nat → Nat} {al : Nat → Prop} (hn : 2 ≤ n) (hX : ∀ i, i + 1 < n → al i → i < X i ∧ X i < n ∧ al (X i) ∧ M i (X i) = true) (h0 : al 0) : ∃ m, PlanOf M n ((0 : Int) :: pth X n n 0) m (fun j => nd X j 0) ∧ ∀ j, j < m → nd X j 0 + 1 < n ∧ al (nd X j 0) := by
  obtain ⟨m, m1, m2, m3, m4⟩ := pth_nd (X := X) (n := n) (al := al) (fun i hi hc => ⟨(hX i hi hc).1, (hX i hi hc).2.1, (hX i hi hc).2.2.1⟩) n 0 (by omega) (by omega) h0
  have hp : Path M n m (fun j => nd X j 0) := ⟨m3, fun j hj => by
    obtain ⟨a1, a2⟩ := m4 j hj
    obtain ⟨x1, x2, x3, x4⟩ := hX _ a1 a2
    rw [nd_succ]
    exact ⟨x1, x4⟩⟩
  refine ⟨m, ?_, m4⟩
  have m2' : (0 : Int) :: pth X n n 0 = (List.range (m + 1)).map (fun j => (nd X j 0 : Int)) := m2
  rw [m2']
  exact plan_mk hp rfl
section
variable {l : List Int} (hm : MOk l) {a b : Int} (hb : BOk a b)
include hm hb
/-- The plan with the fewest (the most) lengths. -/
theorem sig_ev {σ : Int} (hσ : σ = 1 ∨ σ = -1) {fn : Int → Int → Option Int} (hfn : ∀ c d, fn c d = some (wrap64 (c + σ))) :
    (∃ p m c, PlanOf (mayB l a b) l.length p m c ∧ (∀ p' m' c', PlanOf (mayB l a b) l.length p' m' c' → σ * (m : Int) ≤ σ * m') ∧ Ev (fun k => pull_layout_cheapest.f k l a b fn) (p, 0, a, b)) ∨ ((∀ p' m' c', ¬ PlanOf (mayB l a b) l.length p' m' c') ∧ Ev (fun k => pull_layout_cheapest.f k l a b fn) ([], 5, a, b)) := by
  have h2 := hm.1
  have h30 := hm.2.1
  obtain ⟨C, X, h⟩ := chp_ex (mayB l a b) (fun c _ => wrap64 (c + σ)) (lnI l) (n := l.length) (by omega)
  have nx := fun i hi hc => sig_next hσ h30 (by omega) h (i := i) hi hc
  have e := cheapest_ev (fn := fn) (g := fun c _ => wrap64 (c + σ)) hfn h h30 h2 (fun i hi hc => ⟨(nx i hi hc).1, (nx i hi hc).2.1, (nx i hi hc).2.2.1⟩)
  unfold chR at e
  by_cases c : C 0 = nv
  · rw [if_pos c] at e
    refine Or.inr ⟨fun p' m' c' hp' => ?_, e⟩
    have q := path_lq hp'.toPath m' 0 (by omega)
    rw [hp'.zero] at q
    rcases (sig hσ h30 (by omega) h l.length 0 (by omega) (by omega)).1 with z | z
    · rw [z.2 m'] at q; cases q
    · exact z.1 c
  · rw [if_neg c] at e
    obtain ⟨m, hp, m4⟩ := path_pth (M := mayB l a b) h2 (fun i hi (hc : C i ≠ nv) => ⟨(nx i hi hc).1, (nx i hi hc).2.1, (nx i hi hc).2.2.1, (nx i hi hc).2.2.2.1⟩) c
    have cnt : ∀ (d j : Nat), j + d = m → Qs σ C (nd X j 0) = d := by
      intro d
      induction d with
      | zero =>
        intro j hj
        obtain rfl : m = j := by omega
        have := hp.last
        have h0 := h.1
        rw [show l.length - 1 = nd X m 0 by omega] at h0
        unfold Qs
        rw [h0]; simp
      | succ d ih =>
        intro j hj
        obtain ⟨a1, a2⟩ := m4 j (by omega)
        have := (nx _ a1 a2).2.2.2.2.1
        rw [this, ← nd_succ X j 0, ih (j + 1) (by omega)]
    have q0 : Qs σ C 0 = m := cnt m 0 (by omega)
    refine Or.inl ⟨_, m, _, hp, fun p' m' c' hp' => ?_, e⟩
    have q := path_lq hp'.toPath m' 0 (by omega)
    rw [hp'.zero] at q
    have := (sig_q hσ h30 (by omega) h (i := 0) (by omega) c).2.2.2 m' q
    rwa [q0] at this
theorem few_ev : (∃ p m c, PlanOf (mayB l a b) l.length p m c ∧ (∀ p' m' c', PlanOf (mayB l a b) l.length p' m' c' → m ≤ m') ∧ Ev (fun k => pull_Fewest.f k l a b) (p, 0)) ∨ ((∀ p' m' c', ¬ PlanOf (mayB l a b) l.length p' m' c') ∧ Ev (fun k => pull_Fewest.f k l a b) ([], 5)) := by
  obtain ⟨K1, s1⟩ := open_anch (valid_p hm hb)
  rcases sig_ev hm hb (σ := 1) (Or.inl rfl) (fn := pull_Fewest_1.f) (fun c d => rfl) with ⟨p, m, c, hp, hl, ⟨K2, s2⟩⟩ | ⟨hn, ⟨K2, s2⟩⟩
  · refine Or.inl ⟨p, m, c, hp, fun p' m' c' h' => by have := hl p' m' c' h'; omega, K1 + K2, fun k hk => ?_⟩
    have t : pull_open.f k l a b = some (l, a, b, 0) := s1 k (by omega)
    have t2 := s2 k (by omega)
    dsimp only at t2 ⊢
    unfold pull_Fewest.f
    rw [t]
    simp only [Option.bind_some, if_true]
    rw [t2]; rfl
  · refine Or.inr ⟨hn, K1 + K2, fun k hk => ?_⟩
    have t : pull_open.f k l a b = some (l, a, b, 0) := s1 k (by omega)
    have t2 := s2 k (by omega)
    dsimp only at t2 ⊢
    unfold pull_Fewest.f
    rw [t]
    simp only [Option.bind_some, if_true]
    rw [t2]; rfl
theorem most_ev : (∃ p m c, PlanOf (mayB l a b) l.length p m c ∧ (∀ p' m' c', PlanOf (mayB l a b) l.length p' m' c' → m' ≤ m) ∧ Ev (fun k => pull_Most.f k l a b) (p, 0)) ∨ ((∀ p' m' c', ¬ PlanOf (mayB l a b) l.length p' m' c') ∧ Ev (fun k => pull_Most.f k l a b) ([], 5)) := by
  obtain ⟨K1, s1⟩ := open_anch (valid_p hm hb)
  rcases sig_ev hm hb (σ := -1) (Or.inr rfl) (fn := pull_Most_1.f) (fun c d => by unfold pull_Most_1.f; rw [Int.sub_eq_add_neg]) with ⟨p, m, c, hp, hl, ⟨K2, s2⟩⟩ | ⟨hn, ⟨K2, s2⟩⟩
  · refine Or.inl ⟨p, m, c, hp, fun p' m' c' h' => by have := hl p' m' c' h'; omega, K1 + K2, fun k hk => ?_⟩
    have t : pull_open.f k l a b = some (l, a, b, 0) := s1 k (by omega)
    have t2 := s2 k (by omega)
    dsimp only at t2 ⊢
    unfold pull_Most.f
    rw [t]
    simp only [Option.bind_some, if_true]
    rw [t2]; rfl
  · refine Or.inr ⟨hn, K1 + K2, fun k hk => ?_⟩
    have t : pull_open.f k l a b = some (l, a, b, 0) := s1 k (by omega)
    have t2 := s2 k (by omega)
    dsimp only at t2 ⊢
    unfold pull_Most.f
    rw [t]
    simp only [Option.bind_some, if_true]
    rw [t2]; rfl
end
/-- There is a plan exactly if the number of plans isn't 0. -/
theorem num_ex {M : Nat → Nat → Bool} {n : Nat} {N : Nat → Int} (hn : 2 ≤ n) (h : Onw M n N) : 0 < N 0 ↔ ∃ p m c, PlanOf M n p m c := by
  constructor
  · intro z
    obtain ⟨m, c, c0, cp, cr⟩ := rk_ex h n 0 0 (by omega) (by omega) (Int.le_refl _) z
    exact ⟨_, m, c, plan_mk cp c0⟩
  · rintro ⟨p, m, c, hc⟩
    have := rk_bd h hc.toPath m 0 (by omega)
    rw [hc.zero] at this
    omega
/-- The greatest length of a path, from place j on. -/
def lgF (l : List Int) (c : Nat → Nat) : Nat → Nat → Int
  | 0, _ => 0
  | d + 1, j => max (lnI l (c j) (c (j + 1))) (lgF l c d (j + 1))
theorem lg_nn (l : List Int) (c : Nat → Nat) : ∀ (d j : Nat), 0 ≤ lgF l c d j
  | 0, j => Int.le_refl _
  | d + 1, j => by have := lg_nn l c d (j + 1); rw [lgF]; omega
theorem lg_le {l : List Int} {c : Nat → Nat} {t : Int} : ∀ (d j : Nat), lgF l c d j ≤ t → ∀ q, j ≤ q → q < j + d → lnI l (c q) (c (q + 1)) ≤ t
  | 0, j, _, q, h1, h2 => by omega
  | d + 1, j, h, q, h1, h2 => by
    rw [lgF] at h
    by_cases e : q = j
    · subst e; omega
    · exact lg_le d (j + 1) (by omega) q (by omega) (by omega)
theorem le_lg {l : List Int} {c : Nat → Nat} {t : Int} (ht : 0 ≤ t) : ∀ (d j : Nat), (∀ q, j ≤ q → q < j + d → lnI l (c q) (c (q + 1)) ≤ t) → lgF l c d j ≤ t
  | 0, j, _ => ht
  | d + 1, j, h => by
    rw [lgF]
    have := h j (Nat.le_refl _) (by omega)
    have := le_lg ht d (j + 1) (fun q h1 h2 => h q (by omega) (by omega))
    omega
section
variable {l : List Int} (hm : MOk l) {a b : Int} (hb : BOk a b)
include hm hb
/-- The evenest plan: no other plan's greatest length is less. -/
theorem even_ev : (∃ p m c, PlanOf (mayB l a b) l.length p m c ∧ (∀ p' m' c', PlanOf (mayB l a b) l.length p' m' c' → lgF l c m 0 ≤ lgF l c' m' 0) ∧ Ev (fun k => pull_Evenest.f k l a b) (p, 0)) ∨ ((∀ p' m' c', ¬ PlanOf (mayB l a b) l.length p' m' c') ∧ Ev (fun k => pull_Evenest.f k l a b) ([], 5)) := by
  have h2 := hm.1
  have h30 := hm.2.1
  obtain ⟨K1, s1⟩ := open_anch (valid_p hm hb)
  obtain ⟨C, X, h⟩ := chp_ex (mayB l a b) mx (lnI l) (n := l.length) (by omega)
  have nx := fun i hi hc => even_next hb.1 hb.2.2 h30 h2 h (i := i) hi hc
  obtain ⟨K3, s3⟩ := cheapest_ev (fn := pull_Evenest_1.f) (g := mx) (fun c d => rfl) h h30 h2 (fun i hi hc => ⟨(nx i hi hc).1, (nx i hi hc).2.1, (nx i hi hc).2.2.1⟩)
  unfold chR at s3
  have thr : ∀ p' m' c', PlanOf (mayB l a b) l.length p' m' c' → C 0 ≤ lgF l c' m' 0 := by
    intro p' m' c' hp'
    have tb : lgF l c' m' 0 ≤ b := le_lg (by have := hb.1; have := hb.2.1; omega) m' 0 (fun q h1 h2 => (may_iff.1 (hp'.step q (by omega)).2).2)
    have t0 := lg_nn l c' m' 0
    obtain ⟨N, hN⟩ := onw_ex (mayB l a (lgF l c' m' 0)) (n := l.length) (by omega)
    refine (even_thr hb.1 hb.2.2 h30 h2 h t0 tb hN l.length 0 (by omega) (by omega)).1 ((num_ex h2 hN).2 ⟨p', m', c', hp'.imp fun j hj hM => ?_⟩)
    exact may_iff.2 ⟨(may_iff.1 hM).1, lg_le m' 0 (Int.le_refl _) j (by omega) (by omega)⟩
  by_cases c : C 0 = nv
  · rw [if_pos c] at s3
    refine Or.inr ⟨fun p' m' c' hp' => ?_, K1 + K3, fun k hk => ?_⟩
    · have := thr p' m' c' hp'
      have tb : lgF l c' m' 0 ≤ b := le_lg (by have := hb.1; have := hb.2.1; omega) m' 0 (fun q h1 h2 => (may_iff.1 (hp'.step q (by omega)).2).2)
      have := hb.2.2
      unfold nv at c
      omega
    · have t : pull_open.f k l a b = some (l, a, b, 0) := s1 k (by omega)
      have t3 := s3 k (by omega)
      dsimp only at t3 ⊢
      unfold pull_Evenest.f
      rw [t]
      simp only [Option.bind_some, if_true]
      rw [t3]; rfl
  · rw [if_neg c] at s3
    have em : Ev (fun k => pull_areMasts.f k l) true := masts_ok hm l.length 0 (by omega)
    obtain ⟨hA, ⟨D, ⟨K5, s5⟩, ⟨K6, s6⟩⟩, hE⟩ := even_path hb.1 hb.2.2 h30 h2 h c em
    obtain ⟨i, k0, g1, g2, g3, g4⟩ := hE
    have mg := may_iff.1 g3
    obtain ⟨N, hN⟩ := onw_ex (mayB l a (C 0)) (n := l.length) (by omega)
    have hp : 0 < N 0 := (even_thr hb.1 hb.2.2 h30 h2 h (t := C 0) (by have := hb.1; omega) (by omega) hN l.length 0 (by omega) (by omega)).2 (Int.le_refl _)
    obtain ⟨m, cc, c0, cp, cr⟩ := rk_ex hN l.length 0 0 (by omega) (by omega) (Int.le_refl _) hp
    have pp := plan_mk cp c0
    obtain ⟨K7, s7⟩ := ranked_ev hN h30 h2 pp
    rw [cr] at s7
    refine Or.inl ⟨_, m, cc, pp.imp fun j hj hM => may_iff.2 ⟨(may_iff.1 hM).1, by have := (may_iff.1 hM).2; omega⟩, fun p' m' c' hp' => ?_, K1 + K3 + K5 + K6 + K7, fun k hk => ?_⟩
    · have t1 := thr p' m' c' hp'
      have t2 : lgF l cc m 0 ≤ C 0 := le_lg (by have := hb.1; omega) m 0 (fun q h1 h2 => (may_iff.1 (cp.step q (by omega)).2).2)
      omega
    · have t : pull_open.f k l a b = some (l, a, b, 0) := s1 k (by omega)
      have t3 := s3 k (by omega)
      have t5 := s5 k (by omega)
      have t6 := s6 k (by omega)
      have t7 := s7 k (by omega)
      dsimp only at t3 t5 t6 t7 ⊢
      unfold pull_Evenest.f
      rw [t]
      simp only [Option.bind_some, if_true]
      rw [t3]
      simp only [Option.bind_some, if_true]
      rw [t5]
      simp only [Option.bind_some]
      rw [t6]
      simp only [Option.bind_some]
      unfold pull_layout_first.f
      rw [t7]
      rfl
end
section
variable {l : List Int} (hm : MOk l) {M : Nat → Nat → Bool} {p : List Int} {m : Nat} {c : Nat → Nat} (hp : PlanOf M l.length p m c)
include hm hp
theorem ln_plain {j : Nat} (hj : j < m) : lnI l (c j) (c (j + 1)) = rd l (c (j + 1) : Int) - rd l (c j : Int) ∧ 0 ≤ rd l (c (j + 1) : Int) ∧ rd l (c (j + 1) : Int) ≤ 100000 ∧ 0 ≤ rd l (c j : Int) ∧ rd l (c j : Int) ≤ 100000 := by
  have b1 := hm.2.2.1 (c (j + 1)) (hp.le (by omega))
  have b2 := hm.2.2.1 (c j) (hp.le (by omega))
  unfold lnI
  rw [w64 (by omega) (by omega)]
  exact ⟨rfl, b1.1, b1.2, b2.1, b2.2⟩
theorem longest_ev : Ev (fun k => droppertop_longest.f k l p) (lgF l c m 0) := by
  have hl := hp.len
  have hm30 := hm.2.1
  have hml := hp.mle
  have loop : ∀ (d j : Nat) (acc : Int), j + d = m → 0 ≤ acc → Ev (fun k => droppertop_longest.l0 k l p acc ((j + 1 : Nat) : Int)) (max acc (lgF l c d j)) := by
    intro d
    induction d with
    | zero =>
      intro j acc hj ha
      refine ev_some _ fun k => ?_
      rw [droppertop_longest.l0, if_neg (by omega), lgF, show max acc 0 = acc by omega]
    | succ d ih =>
      intro j acc hj ha
      have v0 := hp.val j (by omega)
      have v1 := hp.val (j + 1) (by omega)
      have l0 := hp.le (j := j) (by omega)
      have l1 := hp.le (j := j + 1) (by omega)
      have e := ih (j + 1) (max acc (lnI l (c j) (c (j + 1)))) (by omega) (by omega)
      rw [lgF, show max acc (max (lnI l (c j) (c (j + 1))) (lgF l c d (j + 1))) = max (max acc (lnI l (c j) (c (j + 1)))) (lgF l c d (j + 1)) by omega]
      refine Ev.step (fun k => ?_) e
      rw [droppertop_longest.l0, wsucc (j + 1) (by omega), wpred j (by omega), v0, v1, if_pos (by omega), if_pos (by omega), if_pos (by omega), if_pos (by omega), if_pos (by omega), if_pos (by omega), if_pos (by omega), if_pos (by omega), mx_eq]
      rfl
  have e := loop m 0 0 (by omega) (Int.le_refl _)
  have := lg_nn l c m 0
  rw [show max 0 (lgF l c m 0) = lgF l c m 0 by omega] at e
  exact e
theorem lengths_val (hn : 2 ≤ l.length) : Ev (fun k => pull_Lengths.f k l p) ((List.range m).map (fun j => lnI l (c j) (c (j + 1))), 0) := by
  have hl := hp.len
  have hm1 := hp.m1 hn
  have hm30 := hm.2.1
  have hml := hp.mle
  obtain ⟨bb, ⟨K1, s1⟩, hbb⟩ := asc_p (l := l) (p := p) (by omega) (by omega) _ 1 rfl (Nat.le_refl _)
  have hA : Asc l p := by
    refine ⟨fun j h1 h2 => ?_, by omega, ?_, ?_⟩
    · obtain ⟨q, rfl⟩ : ∃ q, j = q + 1 := ⟨j - 1, by omega⟩
      rw [Nat.add_sub_cancel, hp.val q (by omega), hp.val (q + 1) (by omega)]
      have := (hp.step q (by omega)).1
      omega
    · have := hp.val 0 (by omega); rw [hp.zero] at this; exact this
    · have := hp.last; rw [hl, Nat.add_sub_cancel, hp.val m (by omega)]; omega
  have b1 : bb = true := hbb.2 hA
  subst b1
  obtain ⟨K2, s2⟩ := masts_ok hm l.length 0 (by omega)
  obtain ⟨K3, s3⟩ := lens_ev (l := l) (p := p) (f := fun j => lnI l (c j) (c (j + 1))) (by omega) (by omega) hA (fun j hj => by rw [hp.val j (by omega), hp.val (j + 1) (by omega)]; rfl) (p.length - 1) 0 [] (by omega) rfl (fun j hj => by omega)
  rw [show p.length - 1 = m by omega] at s3
  refine ⟨K1 + K2 + K3, fun k hk => ?_⟩
  have t1 : pull_ascends.f k l p = some true := s1 k (by omega)
  have t2 : pull_areMasts.f k l = some true := s2 k (by omega)
  have t3 := s3 k (by omega)
  dsimp only at t3 ⊢
  unfold pull_Lengths.f
  rw [t2]
  simp only [Option.bind_some, if_true]
  rw [t1]
  simp only [Option.bind_some, if_true]
  rw [if_pos (by omega)]
  exact t3
theorem sum_ev : Ev (fun k => droppertop_sum.f k ((List.range m).map (fun j => lnI l (c j) (c (j + 1))))) (rd l (c m : Int) - rd l (c 0 : Int)) := by
  have hm30 := hm.2.1
  have hml := hp.mle
  have loop : ∀ (d j : Nat), j + d = m → Ev (fun k => droppertop_sum.l0 k ((List.range m).map (fun j => lnI l (c j) (c (j + 1)))) (rd l (c j : Int) - rd l (c 0 : Int)) (j : Int)) (rd l (c m : Int) - rd l (c 0 : Int)) := by
    intro d
    induction d with
    | zero =>
      intro j hj
      obtain rfl : m = j := by omega
      refine ev_some _ fun k => ?_
      rw [droppertop_sum.l0]
      simp only [List.length_map, List.length_range]
      rw [if_neg (by omega)]
    | succ d ih =>
      intro j hj
      obtain ⟨e1, e2, e3, e4, e5⟩ := ln_plain hm hp (j := j) (by omega)
      have b0 := hm.2.2.1 (c 0) (hp.le (by omega))
      have er : rd ((List.range m).map (fun j => lnI l (c j) (c (j + 1)))) (j : Int) = lnI l (c j) (c (j + 1)) := rd_map (fun j => lnI l (c j) (c (j + 1))) (by omega)
      refine Ev.step (fun k => ?_) (ih (j + 1) (by omega))
      rw [droppertop_sum.l0, er, wsucc j (by omega), e1]
      simp only [List.length_map, List.length_range]
      rw [if_pos (by omega), if_pos (by omega), w64 (by omega) (by omega), show rd l (c j : Int) - rd l (c 0 : Int) + (rd l (c (j + 1) : Int) - rd l (c j : Int)) = rd l (c (j + 1) : Int) - rd l (c 0 : Int) by omega]
  have e := loop m 0 (by omega)
  rw [Int.sub_self] at e
  exact e
end
/-- All of a list are in another one. -/
theorem within_ev {x y : List Int} (hx : x.length ≤ 1000) (hy : y.length ≤ 1000) (h : ∀ v ∈ x, v ∈ y) : Ev (fun k => droppertop_within.f k x y) true := by
  have loop : ∀ (d i : Nat), i + d = x.length → Ev (fun k => droppertop_within.l0 k x y (i : Int)) true := by
    intro d
    induction d with
    | zero =>
      intro i hi
      refine ev_some _ fun k => ?_
      rw [droppertop_within.l0, if_neg (by omega)]
    | succ d ih =>
      intro i hi
      have inner : ∀ (e j : Nat) (f : Bool), j + e = y.length → (f = true ∨ ∃ q, j ≤ q ∧ q < y.length ∧ rd x (i : Int) = rd y ((q : Nat) : Int)) → Ev (fun k => droppertop_within.l1 k x y (i : Int) f (j : Int)) true := by
        intro e
        induction e with
        | zero =>
          intro j f hj hf
          have ft : f = true := by
            rcases hf with z | ⟨q, q1, q2, _⟩
            · exact z
            · omega
          subst ft
          refine Ev.step (fun k => ?_) (ih (i + 1) (by omega))
          rw [droppertop_within.l1, if_neg (by omega), if_pos rfl, wsucc i (by omega)]
        | succ e ihe =>
          intro j f hj hf
          cases f with
          | true =>
            refine Ev.step (fun k => ?_) (ihe (j + 1) true (by omega) (Or.inl rfl))
            rw [droppertop_within.l1, if_pos (by omega), if_pos rfl, wsucc j (by omega)]
          | false =>
            refine Ev.step (fun k => ?_) (ihe (j + 1) (rd x (i : Int) == rd y (j : Int)) (by omega) ?_)
            · rw [droppertop_within.l1, if_pos (by omega), if_neg (by decide), if_pos (by omega), if_pos (by omega), if_pos (by omega), wsucc j (by omega)]
            · rcases hf with z | ⟨q, q1, q2, q3⟩
              · cases z
              · by_cases eq : q = j
                · subst eq; left; simp [q3]
                · right; exact ⟨q, by omega, q2, q3⟩
      have hin : rd x (i : Int) ∈ y := h _ ((rd_mem x _).2 ⟨i, by omega, rfl⟩)
      obtain ⟨q, q1, q2⟩ := (rd_mem y _).1 hin
      refine Ev.step (fun k => ?_) (inner y.length 0 false (by omega) (Or.inr ⟨q, by omega, q1, q2.symm⟩))
      rw [droppertop_within.l0, if_pos (by omega)]
      rfl
  exact loop x.length 0 (by omega)
/-- Products of ways: those by a place are at most all. -/
theorem way_by {M : Nat → Nat → Bool} {n : Nat} {F : Nat → Nat → Int} (hF : Way M F) {N : Nat → Int} (hN : Onw M n N) {J : Nat} (hJ : J < n) : ∀ (e i : Nat), i ≤ J → J - i ≤ e → F i J * N J ≤ N i ∧ 0 ≤ F i J := by
  have nJ := (onw_bd hN n J hJ (by omega)).1
  intro e
  have last : F J J * N J ≤ N J ∧ 0 ≤ F J J := by rw [hF.one]; omega
  induction e with
  | zero =>
    intro i h1 h2
    obtain rfl : i = J := by omega
    exact last
  | succ e ih =>
    intro i h1 h2
    by_cases c : i = J
    · subst c; exact last
    · have ef := hF.first (i := i) (k := J) (by omega)
      have fn : 0 ≤ F i J := by
        rw [ef]
        refine sm_nonneg _ _ fun q h3 h4 => ?_
        have := (ih q (by omega) (by omega)).2
        unfold G.one
        split <;> omega
      refine ⟨?_, fn⟩
      have en : N i = sm (wy M N i) (i + 1) (J - i) + sm (wy M N i) (J + 1) (n - 1 - J) := by
        rw [hN.2 i (by omega), show n - 1 - i = (J - i) + (n - 1 - J) by omega, sm_split, show i + 1 + (J - i) = J + 1 by omega]
      have n2 := sm_nonneg (g := wy M N i) (n - 1 - J) (J + 1) (fun q h1 h2 => wy_nn hN _ q (by omega))
      have ml : F i J * N J = sm (fun q => N J * (G.one M i q * F q J)) (i + 1) (J - i) := by rw [sm_mul, ← ef, Int.mul_comm]
      have mo : sm (fun q => N J * (G.one M i q * F q J)) (i + 1) (J - i) ≤ sm (wy M N i) (i + 1) (J - i) := by
        refine sm_mono _ _ fun q h3 h4 => ?_
        have := (ih q (by omega) (by omega)).1
        unfold G.one wy
        split
        · rw [Int.one_mul, Int.mul_comm]; exact this
        · simp
      omega
/-- A sum that is greater at one place. -/
theorem sm_gap {f g : Nat → Int} : ∀ (d k q : Nat), (∀ j, k ≤ j → j < k + d → f j ≤ g j) → k ≤ q → q < k + d → f q + 1 ≤ g q → sm f k d + 1 ≤ sm g k d
  | 0, k, q, _, h1, h2, _ => by omega
  | d + 1, k, q, h, h1, h2, h3 => by
    rw [sm, sm]
    by_cases e : q = k
    · subst e
      have := sm_mono (f := f) (g := g) d (q + 1) (fun j h4 h5 => h j (by omega) (by omega))
      omega
    · have := sm_gap (f := f) (g := g) d (k + 1) q (fun j h4 h5 => h j (by omega) (by omega)) (by omega) (by omega) h3
      have := h k (Nat.le_refl _) (by omega)
      omega
/-- A path that leaves a place out. -/
theorem way_out {M : Nat → Nat → Bool} {n : Nat} {F : Nat → Nat → Int} (hF : Way M F) {N : Nat → Int} (hN : Onw M n N) {J m : Nat} {c : Nat → Nat} (hp : Path M n m c) (hJ : J + 1 < n) (ho : ∀ j, j ≤ m → c j ≠ J) : ∀ (d j : Nat), j + d = m → c j < J → F (c j) J * N J + 1 ≤ N (c j) := by
  intro d
  induction d with
  | zero =>
    intro j hj h1
    have := hp.last
    obtain rfl : m = j := by omega
    omega
  | succ d ih =>
    intro j hj h1
    obtain ⟨s1, s2⟩ := hp.step j (by omega)
    have l1 := hp.le (j := j + 1) (by omega)
    have o1 := ho (j + 1) (by omega)
    have ef := hF.first (i := c j) (k := J) h1
    have en : N (c j) = sm (wy M N (c j)) (c j + 1) (J - c j) + sm (wy M N (c j)) (J + 1) (n - 1 - J) := by
      rw [hN.2 (c j) (by omega), show n - 1 - c j = (J - c j) + (n - 1 - J) by omega, sm_split, show c j + 1 + (J - c j) = J + 1 by omega]
    have ml : F (c j) J * N J = sm (fun q => N J * (G.one M (c j) q * F q J)) (c j + 1) (J - c j) := by rw [sm_mul, ← ef, Int.mul_comm]
    have le : ∀ q, c j + 1 ≤ q → q < c j + 1 + (J - c j) → N J * (G.one M (c j) q * F q J) ≤ wy M N (c j) q := by
      intro q h3 h4
      have := (way_by hF hN (J := J) (by omega) n q (by omega) (by omega)).1
      unfold G.one wy
      split
      · rw [Int.one_mul, Int.mul_comm]; exact this
      · simp
    have rb := rk_bd hN hp d (j + 1) (by omega)
    have ew : wy M N (c j) (c (j + 1)) = N (c (j + 1)) := by unfold wy; rw [if_pos s2]
    by_cases k : c (j + 1) < J
    · have n2 := sm_nonneg (g := wy M N (c j)) (n - 1 - J) (J + 1) (fun q h1 h2 => wy_nn hN _ q (by omega))
      have := ih (j + 1) (by omega) k
      have := sm_gap (J - c j) (c j + 1) (c (j + 1)) le (by omega) (by omega) (by
        rw [ew]
        unfold G.one
        rw [if_pos s2, Int.one_mul, Int.mul_comm]
        exact this)
      omega
    · have mo := sm_mono (J - c j) (c j + 1) le
      have := (sm_pos (g := wy M N (c j)) (n - 1 - J) (J + 1) (fun q h1 h2 => wy_nn hN _ q (by omega))).2 ⟨c (j + 1), by omega, by omega, by rw [ew]; omega⟩
      omega
/-- A path's places are behind some ways. -/
theorem bhd_path {M : Nat → Nat → Bool} {n : Nat} {B : Nat → Int} (hB : Bhd M n B) {m : Nat} {c : Nat → Nat} (hp : Path M n m c) (hz : c 0 = 0) : ∀ j, j ≤ m → 0 < B (c j)
  | 0, _ => by rw [hz, hB.1]; decide
  | j + 1, hj => by
    obtain ⟨s1, s2⟩ := hp.step j (by omega)
    have l1 := hp.le hj
    rw [hB.2 (c (j + 1)) (by omega) l1]
    refine (sm_pos _ _ fun q h1 h2 => ?_).2 ⟨c j, by omega, by omega, ?_⟩
    · have := (bhd_bd hB n q (by omega) (by omega)).1
      unfold wb
      split <;> omega
    · have := bhd_path hB hp hz j (by omega)
      unfold wb
      rw [if_pos s2]; exact this
theorem prod_val {n : Nat} {M : Nat → Nat → Bool} {B N : Nat → Int} (hB : Bhd M n B) (hN : Onw M n N) (hn : n ≤ 30) {j : Nat} (hj : j < n) : prF B N j = B j * N j := by
  have b1 := bhd_bd hB n j (by omega) hj
  have b2 := onw_bd hN n j hj (by omega)
  have m : B j * N j ≤ p2 j * p2 (n - 1 - j) := Int.mul_le_mul b1.2 b2.2 b2.1 (by have := p2_pos j; omega)
  rw [← p2_add] at m
  have ps := p2_small (a := j + (n - 1 - j)) (by omega)
  have m0 : 0 ≤ B j * N j := Int.mul_nonneg b1.1 b2.1
  unfold prF
  exact w64 (by omega) (by omega)
section
variable {l : List Int} (hm : MOk l) {a b : Int} (hb : BOk a b)
include hm hb
/-- The masts that all plans have. -/
theorem must_val {B N : Nat → Int} (hB : Bhd (mayB l a b) l.length B) (hN : Onw (mayB l a b) l.length N) : Ev (fun k => pull_Must.f k l a b) (if N 0 = 0 then ([], 5) else (idx (fun j => decide (B j * N j = N 0)) 0 l.length, 0)) := by
  obtain ⟨K1, s1⟩ := open_anch (valid_p hm hb)
  obtain ⟨K3, s3⟩ := anchors_ev hB hN hm.1 hm.2.1
  obtain ⟨K8, s8⟩ := idx_p (n := l.length) hm.2.1 (p := fun j => decide (B j * N j = N 0)) (f := prF B N) (fn := fun z => pull_Must_1.f z (N 0)) (fun j hj => by unfold pull_Must_1.f; rw [prod_val hB hN hm.2.1 hj]; rfl) l.length 0 [] (by omega) (by simp)
  rw [List.nil_append] at s8
  refine ⟨K1 + K3 + K8, fun k hk => ?_⟩
  have t : pull_open.f k l a b = some (l, a, b, 0) := s1 k (by omega)
  have t3 := s3 k (by omega)
  have t8 := s8 k (by omega)
  dsimp only at t3 t8 ⊢
  unfold pull_Must.f pull_indexes.f
  rw [t]
  simp only [Option.bind_some, if_true]
  rw [t3]
  simp only [Option.bind_some, List.length_map, List.length_range]
  by_cases c : N 0 = 0
  · rw [if_pos c, if_pos c]
  · rw [if_neg c, if_neg c]
    have t8' : pull_indexes.l0 k (fun z0_ => pull_Must_1.f z0_ (N 0)) [] ((List.range l.length).map (prF B N)) (l.length : Int) 0 = some (idx (fun j => decide (B j * N j = N 0)) 0 l.length) := t8
    rw [t8']
    rfl
theorem isplan_val (p : List Int) (hp : p.length ≤ 50) : ∃ t : Bool, Ev (fun k => pull_IsPlan.f k l a b p) (t, 0) ∧ (t = true ↔ ∃ m c, PlanOf (mayB l a b) l.length p m c) := by
  obtain ⟨K1, s1⟩ := open_anch (valid_p hm hb)
  obtain ⟨t, ⟨K2, s2⟩, ht⟩ := isplan_ev hm.2.1 hm.1 hp a b
  refine ⟨t, ⟨K1 + K2, fun k hk => ?_⟩, ht⟩
  have o : pull_open.f k l a b = some (l, a, b, 0) := s1 k (by omega)
  have t2 := s2 k (by omega)
  dsimp only at t2 ⊢
  unfold pull_IsPlan.f
  rw [o]
  simp only [Option.bind_some, if_true]
  rw [t2]; rfl
theorem plan_val {N : Nat → Int} (hN : Onw (mayB l a b) l.length N) {p : List Int} {m : Nat} {c : Nat → Nat} (hp : PlanOf (mayB l a b) l.length p m c) : Ev (fun k => pull_Plan.f k l a b (rkF (mayB l a b) N c m 0)) (p, 0) := by
  obtain ⟨K1, s1⟩ := open_anch (valid_p hm hb)
  obtain ⟨K2, s2⟩ := ranked_ev hN hm.2.1 hm.1 hp
  refine ⟨K1 + K2, fun k hk => ?_⟩
  have o : pull_open.f k l a b = some (l, a, b, 0) := s1 k (by omega)
  have t2 := s2 k (by omega)
  dsimp only at t2 ⊢
  unfold pull_Plan.f
  rw [o]
  simp only [Option.bind_some, if_true]
  rw [t2]; rfl
theorem rank_val {N : Nat → Int} (hN : Onw (mayB l a b) l.length N) {p : List Int} {m : Nat} {c : Nat → Nat} (hp : PlanOf (mayB l a b) l.length p m c) : Ev (fun k => pull_Rank.f k l a b p) (rkF (mayB l a b) N c m 0, 0) := by
  have hl := hp.len
  have ml := hp.mle
  have h30 := hm.2.1
  obtain ⟨K1, s1⟩ := open_anch (valid_p hm hb)
  obtain ⟨t, ⟨K2, s2⟩, ht⟩ := isplan_ev hm.2.1 hm.1 (p := p) (by omega) a b
  have t1 : t = true := ht.2 ⟨m, c, hp⟩
  subst t1
  obtain ⟨K3, s3⟩ := numbers_ev hN hm.2.1 hm.1
  have rb := rk_bd hN hp.toPath m 0 (by omega)
  rw [hp.zero] at rb
  obtain ⟨K4, s4⟩ := rank_loop hN hm.2.1 hp m 0 0 (by omega) (Int.le_refl _) (by omega)
  rw [Int.zero_add] at s4
  refine ⟨K1 + K2 + K3 + K4, fun k hk => ?_⟩
  have o : pull_open.f k l a b = some (l, a, b, 0) := s1 k (by omega)
  have t2 := s2 k (by omega)
  have t3 := s3 k (by omega)
  have t4 := s4 k (by omega)
  dsimp only at t2 t3 t4 ⊢
  unfold pull_Rank.f
  rw [o]
  simp only [Option.bind_some, if_true]
  rw [t2]
  simp only [Option.bind_some, if_true]
  rw [t3]
  simp only [Option.bind_some]
  rw [if_pos (by omega)]
  exact t4
end
theorem u32_lim {x : Int} (h : (Lit.int .u32 x).wf = true) : 0 ≤ x ∧ x ≤ 4294967295 := by
  have w' : (decide ((0 : Int) ≤ x) && decide (x ≤ 4294967295)) = true := h
  simpa using w'
theorem TopPull_pure (l : List Int) (a b : Int) (q : List Int) (r : Int) (hx : ∀ x ∈ l, (Lit.int .i64 x).wf = true) (w0 : (Lit.int .i64 a).wf = true) (w1 : (Lit.int .i64 b).wf = true) (hy : ∀ x ∈ q, (Lit.int .i64 x).wf = true) (wr : (Lit.int .u32 r).wf = true) (hl : l.length ≤ 9223372036854775807) (hq : q.length ≤ 9223372036854775807) : ∃ k, droppertop_TopPull.f k l a b q r = some true := by
  obtain ⟨K0, s0⟩ := awake_num
  have a0 : ∀ k, K0 ≤ k → dropperlaw04_Awake.f k = some true := s0
  obtain ⟨v, ⟨K1, s1⟩, hv⟩ := valid_ref l hl a b
  have a1 : ∀ k, K1 ≤ k → dropperref04_Valid.f k l a b = some v := s1
  have early : ∀ k, K0 ≤ k → droppertop_TopPull.j0 (k + 1) l true a b q r = some true := fun k hk => by
    rw [droppertop_TopPull.j0, if_pos rfl, a0 k hk]; rfl
  cases v with
  | false =>
    refine ⟨K0 + K1 + 1, ?_⟩
    unfold droppertop_TopPull.f
    rw [a1 _ (by omega)]
    simp only [Option.bind_some, Bool.false_eq_true, if_false]
    exact early _ (by omega)
  | true =>
    by_cases cq : (q.length : Int) > 50
    · refine ⟨K0 + K1 + 1, ?_⟩
      unfold droppertop_TopPull.f
      rw [a1 _ (by omega)]
      simp only [Option.bind_some, if_true]
      rw [decide_eq_true cq]
      exact early _ (by omega)
    · obtain ⟨hm, hb⟩ := hv rfl
      have h2 := hm.1
      have h30 := hm.2.1
      have br := u32_lim wr
      have hq50 : q.length ≤ 50 := by omega
      obtain ⟨F, hF⟩ := way_ex (mayB l a b)
      obtain ⟨N, eN⟩ : ∃ N, N = (fun i => F i (l.length - 1)) := ⟨_, rfl⟩
      have hN : Onw (mayB l a b) l.length N := by
        have := hF (l.length - 1)
        rw [show l.length - 1 + 1 = l.length by omega] at this
        rw [eN]; exact this
      obtain ⟨B, hB⟩ := bhd_ex (mayB l a b) l.length
      have eB : ∀ k, k < l.length → B k = F 0 k := fun k hk => hF.bhd hB l.length k (by omega) hk
      have n0 := onw_bd hN l.length 0 (by omega) (by omega)
      have ps := p2_small (a := l.length - 1 - 0) (by omega)
      obtain ⟨K2, s2⟩ := number_val hm hb hN
      have a2 : ∀ k, K2 ≤ k → pull_Number.f k l a b = some (N 0, 0) := s2
      obtain ⟨K3, s3⟩ := anchors_val hm hb hB hN
      obtain ⟨an, ean⟩ : ∃ z, z = idx (fun j => decide (B j > 0 ∧ N j > 0)) 0 l.length := ⟨_, rfl⟩
      rw [← ean] at s3
      have a3 : ∀ k, K3 ≤ k → pull_Anchors.f k l a b = some (an, 0) := s3
      obtain ⟨K4, s4⟩ := must_val hm hb hB hN
      obtain ⟨isq, ⟨K5, s5⟩, hisq⟩ := isplan_val hm hb q hq50
      have a5 : ∀ k, K5 ≤ k → pull_IsPlan.f k l a b q = some (isq, 0) := s5
      have ni := num_ex h2 hN
      by_cases cn : N 0 = 0
      · -- there is no plan
        have no : ∀ p m c, ¬ PlanOf (mayB l a b) l.length p m c := fun p m c hp => by have := ni.2 ⟨p, m, c, hp⟩; omega
        rw [if_pos cn] at s4
        have a4 : ∀ k, K4 ≤ k → pull_Must.f k l a b = some ([], 5) := s4
        rcases few_ev hm hb with ⟨p, m, c, hp, _⟩ | ⟨_, K6, s6⟩
        · exact absurd hp (no p m c)
        rcases most_ev hm hb with ⟨p, m, c, hp, _⟩ | ⟨_, K7, s7⟩
        · exact absurd hp (no p m c)
        rcases even_ev hm hb with ⟨p, m, c, hp, _⟩ | ⟨_, K8, s8⟩
        · exact absurd hp (no p m c)
        have a6 : ∀ k, K6 ≤ k → pull_Fewest.f k l a b = some ([], 5) := s6
        have a7 : ∀ k, K7 ≤ k → pull_Most.f k l a b = some ([], 5) := s7
        have a8 : ∀ k, K8 ≤ k → pull_Evenest.f k l a b = some ([], 5) := s8
        have fq : isq = false := by
          cases isq with
          | false => rfl
          | true => obtain ⟨m, c, hc⟩ := hisq.1 rfl; exact absurd hc (no q m c)
        subst fq
        have e0 : an = [] := by
          refine List.eq_nil_iff_forall_not_mem.2 fun x hx => ?_
          rw [ean] at hx
          obtain ⟨j, j1, j2, j3, j4⟩ := (idx_mem _ _ _ _).1 hx
          have jj := of_decide_eq_true j3
          have := (way_by hF hN (J := j) (by omega) l.length 0 (by omega) (by omega)).1
          rw [← eB j (by omega), cn] at this
          have := Int.mul_pos jj.1 jj.2
          omega
        subst e0
        refine ⟨K0 + K1 + K2 + K3 + K4 + K5 + K6 + K7 + K8 + 2, ?_⟩
        unfold droppertop_TopPull.f
        rw [a1 _ (by omega)]
        simp only [Option.bind_some, if_true]
        rw [decide_eq_false cq, droppertop_TopPull.j0, if_neg (by decide), a2 _ (by omega), a3 _ (by omega), a4 _ (by omega), a5 _ (by omega), a6 _ (by omega), a7 _ (by omega), a8 _ (by omega)]
        simp only [Option.bind_some, if_true]
        rw [droppertop_TopPull.j1, decide_eq_false (show ¬ N 0 < 0 by omega), if_neg (by decide), if_pos cn, if_pos rfl, if_pos rfl, if_pos rfl, if_pos rfl, if_pos (show (([] : List Int).length : Int) = 0 from rfl), if_neg (by decide), a0 _ (by omega)]
        rfl
      · have np : 0 < N 0 := by omega
        obtain ⟨p0, m0, c0, hp0⟩ := ni.1 np
        rw [if_neg cn] at s4
        obtain ⟨mu, emu⟩ : ∃ z, z = idx (fun j => decide (B j * N j = N 0)) 0 l.length := ⟨_, rfl⟩
        rw [← emu] at s4
        have a4 : ∀ k, K4 ≤ k → pull_Must.f k l a b = some (mu, 0) := s4
        rcases few_ev hm hb with ⟨pf, mf, cf, hpf, hf, K6, s6⟩ | ⟨no, _⟩
        rotate_left
        · exact absurd hp0 (no _ _ _)
        rcases most_ev hm hb with ⟨pm, mm, cm, hpm, hmo, K7, s7⟩ | ⟨no, _⟩
        rotate_left
        · exact absurd hp0 (no _ _ _)
        rcases even_ev hm hb with ⟨pe, me, ce, hpe, hev, K8, s8⟩ | ⟨no, _⟩
        rotate_left
        · exact absurd hp0 (no _ _ _)
        have a6 : ∀ k, K6 ≤ k → pull_Fewest.f k l a b = some (pf, 0) := s6
        have a7 : ∀ k, K7 ≤ k → pull_Most.f k l a b = some (pm, 0) := s7
        have a8 : ∀ k, K8 ≤ k → pull_Evenest.f k l a b = some (pe, 0) := s8
        -- the plan with the rank
        obtain ⟨rk, erk⟩ : ∃ z : Int, z = Int.tmod (wrap64 r) (N 0) := ⟨_, rfl⟩
        have rkb : 0 ≤ rk ∧ rk < N 0 := by
          rw [w64 (by omega) (by omega)] at erk
          rw [erk]
          exact ⟨Int.tmod_nonneg _ (by omega), Int.tmod_lt_of_pos _ np⟩
        obtain ⟨mr, cr, cr0, cpr, crr⟩ := rk_ex hN l.length 0 rk (by omega) (by omega) rkb.1 rkb.2
        have hpr := plan_mk cpr cr0
        obtain ⟨pr, epr⟩ : ∃ z, z = (List.range (mr + 1)).map (fun j => (cr j : Int)) := ⟨_, rfl⟩
        rw [← epr] at hpr
        obtain ⟨K9, s9⟩ := plan_val hm hb hN hpr
        obtain ⟨K10, s10⟩ := rank_val hm hb hN hpr
        rw [crr] at s9 s10
        have a9 : ∀ k, K9 ≤ k → pull_Plan.f k l a b rk = some (pr, 0) := s9
        have a10 : ∀ k, K10 ≤ k → pull_Rank.f k l a b pr = some (rk, 0) := s10
        -- what holds of each plan
        have inMust : ∀ p m c, PlanOf (mayB l a b) l.length p m c → ∀ x ∈ mu, x ∈ p := by
          intro p m c hp x hx
          rw [emu] at hx
          obtain ⟨j, j1, j2, j3, j4⟩ := (idx_mem _ _ _ _).1 hx
          have jj := of_decide_eq_true j3
          have hlen := hp.len
          by_cases on : ∃ i, i ≤ m ∧ c i = j
          · obtain ⟨i, i1, i2⟩ := on
            rw [rd_mem]
            exact ⟨i, by omega, by rw [hp.val i i1, i2, j4]⟩
          · exfalso
            have ho : ∀ i, i ≤ m → c i ≠ j := fun i h1 h2 => on ⟨i, h1, h2⟩
            have z0 := ho 0 (by omega)
            rw [hp.zero] at z0
            have zl := ho m (Nat.le_refl _)
            have la := hp.last
            have := way_out hF hN hp.toPath (J := j) (by omega) ho m 0 (by omega) (by rw [hp.zero]; omega)
            rw [hp.zero, ← eB j (by omega)] at this
            omega
        have inAnch : ∀ p m c, PlanOf (mayB l a b) l.length p m c → ∀ x ∈ p, x ∈ an := by
          intro p m c hp x hx
          obtain ⟨i, i1, i2⟩ := (rd_mem _ _).1 hx
          have hlen := hp.len
          rw [hp.val i (by omega)] at i2
          rw [ean, idx_mem]
          have lt := hp.le (j := i) (by omega)
          have b1 := bhd_path hB hp.toPath hp.zero i (by omega)
          have b2 := rk_bd hN hp.toPath (m - i) i (by omega)
          exact ⟨c i, by omega, by omega, decide_eq_true ⟨b1, by omega⟩, i2.symm⟩
        have mustAnch : ∀ x ∈ mu, x ∈ an := fun x hx => inAnch _ _ _ hp0 x (inMust _ _ _ hp0 x hx)
        have ml : mu.length ≤ 30 := by rw [emu]; have := idx_len (fun j => decide (B j * N j = N 0)) l.length 0; omega
        have al : an.length ≤ 30 := by rw [ean]; have := idx_len (fun j => decide (B j > 0 ∧ N j > 0)) l.length 0; omega
        obtain ⟨K11, s11⟩ := within_ev (x := mu) (y := an) (by omega) (by omega) mustAnch
        have a11 : ∀ k, K11 ≤ k → droppertop_within.f k mu an = some true := s11
        obtain ⟨K12, s12⟩ := longest_ev hm hpe
        have a12 : ∀ k, K12 ≤ k → droppertop_longest.f k l pe = some (lgF l ce me 0) := s12
        have w1 : wrap64 ((l.length : Int) - 1) = ((l.length - 1 : Nat) : Int) := by rw [w64 (by omega) (by omega)]; omega
        have loop : ∀ (all : List (List Int)), all.length ≤ 10 → (∀ p ∈ all, ∃ m c, PlanOf (mayB l a b) l.length p m c) → ∀ (d i : Nat), i + d = all.length → Ev (fun k => droppertop_TopPull.l0 k l (N 0) pf pm mu an all (lgF l ce me 0) (i : Int) a b) true := by
          intro all hal hall d
          induction d with
          | zero =>
            intro i hi
            refine ⟨K11 + K0 + 1, fun k hk => ?_⟩
            obtain ⟨k, rfl⟩ : ∃ z, k = z + 1 := ⟨k - 1, by omega⟩
            dsimp only
            rw [droppertop_TopPull.l0, if_neg (by omega), a11 k (by omega)]
            simp only [Option.bind_some, if_true]
            rw [a0 k (by omega)]; rfl
          | succ d ih =>
            intro i hi
            obtain ⟨p, ep⟩ : ∃ p, p = rd_L1 all (i : Int) := ⟨_, rfl⟩
            have pin : p ∈ all := by
              rw [ep]; unfold rd_L1
              rw [Int.toNat_natCast, List.getD_eq_getElem?_getD, List.getElem?_eq_getElem (show i < all.length by omega), Option.getD_some]
              exact List.getElem_mem _
            obtain ⟨m, c, hp⟩ := hall p pin
            have hlen := hp.len
            have hml := hp.mle
            have hm1 := hp.m1 h2
            have rb := rk_bd hN hp.toPath m 0 (by omega)
            rw [hp.zero] at rb
            obtain ⟨t, ⟨L1, e1⟩, ht⟩ := isplan_val hm hb p (by omega)
            have t1 : t = true := ht.2 ⟨m, c, hp⟩
            subst t1
            obtain ⟨L2, e2⟩ := rank_val hm hb hN hp
            obtain ⟨L3, e3⟩ := plan_val hm hb hN hp
            obtain ⟨L4, e4⟩ := lengths_val hm hp h2
            obtain ⟨L5, e5⟩ := sum_ev hm hp
            obtain ⟨L6, e6⟩ := longest_ev hm hp
            obtain ⟨L7, e7⟩ := within_ev (x := mu) (y := p) (by omega) (by omega) (inMust p m c hp)
            obtain ⟨L8, e8⟩ := within_ev (x := p) (y := an) (by omega) (by omega) (inAnch p m c hp)
            obtain ⟨L9, e9⟩ := same_ev (x := p) (by omega)
            obtain ⟨L10, e10⟩ := ih (i + 1) (by omega)
            refine ⟨L1 + L2 + L3 + L4 + L5 + L6 + L7 + L8 + L9 + L10 + 3, fun k hk => ?_⟩
            obtain ⟨k, rfl⟩ : ∃ z, k = z + 3 := ⟨k - 3, by omega⟩
            have g1 : pull_IsPlan.f (k + 2) l a b p = some (true, 0) := e1 (k + 2) (by omega)
            have g2 := e2 (k + 2) (by omega)
            have g3 := e3 (k + 1) (by omega)
            have g4 := e4 (k + 1) (by omega)
            have g5 := e5 (k + 1) (by omega)
            have g6 := e6 k (by omega)
            have g7 := e7 k (by omega)
            have g8 := e8 k (by omega)
            have g9 := e9 (k + 1) (by omega)
            have g10 := e10 k (by omega)
            dsimp only at g2 g3 g4 g5 g6 g7 g8 g9 g10 ⊢
            rw [droppertop_TopPull.l0, if_pos (by omega), if_pos (by omega), ← ep, g1, g2]
            simp only [Option.bind_some, if_true]
            rw [if_neg (by omega), decide_eq_false (by omega), droppertop_TopPull.j6, if_neg (by decide), g3, g4]
            simp only [Option.bind_some, if_true]
            rw [g9]
            simp only [Option.bind_some, if_true]
            rw [g5, w1]
            simp only [Option.bind_some]
            have cz : (c m : Int) = ((l.length - 1 : Nat) : Int) := by have := hp.last; omega
            have bz := hm.2.2.1 (l.length - 1) (by omega)
            have b0 := hm.2.2.1 0 (by omega)
            have b0' : 0 ≤ rd l 0 ∧ rd l 0 ≤ 100000 := b0
            have ws : wrap64 (rd l ((l.length - 1 : Nat) : Int) - rd l 0) = rd l ((l.length - 1 : Nat) : Int) - rd l 0 := w64 (by omega) (by omega)
            have sq : rd l (c m : Int) - rd l (c 0 : Int) = wrap64 (rd l ((l.length - 1 : Nat) : Int) - rd l 0) := by rw [ws, cz, hp.zero]; rfl
            rw [if_pos (by omega), if_pos (by omega), if_pos (by omega), if_pos sq]
            have lw : (((List.range m).map (fun j => lnI l (c j) (c (j + 1)))).length : Int) = wrap64 ((p.length : Int) - 1) := by
              rw [w64 (by omega) (by omega)]
              simp only [List.length_map, List.length_range]
              omega
            rw [lw, show (wrap64 ((p.length : Int) - 1) != wrap64 ((p.length : Int) - 1)) = false by simp, droppertop_TopPull.j7, if_neg (by decide)]
            have f1 := hf p m c hp
            have f2 := hmo p m c hp
            have f3 := hev p m c hp
            have lf := hpf.len
            have lm := hpm.len
            rw [if_neg (by omega), if_neg (by omega), g6]
            simp only [Option.bind_some]
            rw [if_neg (by omega), g7]
            simp only [Option.bind_some, if_true]
            rw [g8]
            simp only [Option.bind_some, if_true]
            rw [wsucc i (by omega)]
            exact g10
        have j4 : ∀ (all : List (List Int)), all.length ≤ 10 → (∀ p ∈ all, ∃ m c, PlanOf (mayB l a b) l.length p m c) → Ev (fun k => droppertop_TopPull.j4 k l (N 0) pf pm pe mu an all a b) true := by
          intro all h1 h2
          obtain ⟨L, e⟩ := loop all h1 h2 all.length 0 (by omega)
          refine ⟨L + K12 + 1, fun k hk => ?_⟩
          obtain ⟨k, rfl⟩ : ∃ z, k = z + 1 := ⟨k - 1, by omega⟩
          have g := e k (by omega)
          dsimp only at g ⊢
          rw [droppertop_TopPull.j4, a12 k (by omega)]
          exact g
        have j3 : Ev (fun k => droppertop_TopPull.j3 k l (N 0) pf pm pe mu an isq pr false a b q r) true := by
          have all4 : ∀ p ∈ [pf, pm, pe, pr], ∃ m c, PlanOf (mayB l a b) l.length p m c := by
            intro p hp
            simp only [List.mem_cons, List.not_mem_nil, or_false] at hp
            rcases hp with rfl | rfl | rfl | rfl
            · exact ⟨_, _, hpf⟩
            · exact ⟨_, _, hpm⟩
            · exact ⟨_, _, hpe⟩
            · exact ⟨_, _, hpr⟩
          cases isq with
          | false =>
            refine Ev.step (fun k => ?_) (j4 [pf, pm, pe, pr] (by simp) all4)
            rw [droppertop_TopPull.j3, if_neg (by decide)]
            rfl
          | true =>
            refine Ev.step (fun k => ?_) (j4 ([pf, pm, pe, pr] ++ [q]) (by simp) fun p hp => ?_)
            · rw [droppertop_TopPull.j3, if_neg (by decide)]
              rfl
            · rw [List.mem_append, List.mem_singleton] at hp
              rcases hp with h | rfl
              · exact all4 p h
              · exact hisq.1 rfl
        obtain ⟨L, e⟩ := j3
        refine ⟨K0 + K1 + K2 + K3 + K4 + K5 + K6 + K7 + K8 + K9 + K10 + L + 3, ?_⟩
        have g := e (K0 + K1 + K2 + K3 + K4 + K5 + K6 + K7 + K8 + K9 + K10 + L) (by omega)
        dsimp only at g
        unfold droppertop_TopPull.f
        rw [a1 _ (by omega)]
        simp only [Option.bind_some, if_true]
        rw [decide_eq_false cq, droppertop_TopPull.j0, if_neg (by decide), a2 _ (by omega), a3 _ (by omega), a4 _ (by omega), a5 _ (by omega), a6 _ (by omega), a7 _ (by omega), a8 _ (by omega)]
        simp only [Option.bind_some, if_true]
        rw [droppertop_TopPull.j1, decide_eq_false (show ¬ N 0 < 0 by omega), if_neg (by decide), if_neg cn, if_pos rfl, if_pos rfl, if_pos rfl]
        rw [show ((0 : Int) != 0) = false from rfl, droppertop_TopPull.j2, if_neg (by decide), if_neg cn, ← erk, a9 _ (by omega)]
        simp only [Option.bind_some]
        rw [a10 _ (by omega)]
        simp only [Option.bind_some, if_true]
        rw [show (rk != rk) = false by simp]
        exact g
end Go.Proofs.Ytiebfmenkpodeaa.G
