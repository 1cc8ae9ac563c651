/- The laws PullNumbers and PullAnchors of the printed functions. Plain Lean. -/
import Derived.Test.YtiebfmenkpodeaaPBase
import Derived.Test.YtiebfmenkpodeaaGF5
import Derived.Test.YtiebfmenkpodeaaGF8
namespace Go.Proofs.Ytiebfmenkpodeaa.G
set_option linter.unusedVariables false
set_option linter.unusedSimpArgs false
open Go.RowKit Go.Proofs.YtiebfmenkpodeaaW.PrintWords Go.Proofs.YtiebfmenkpodeaaW.PrintLast
theorem awake_num : Ev (fun k => dropperlaw04_Awake.f k) true := Ev.of (fun k => dropperlaw04_Awake.mono k) (k := 200) (by decide +kernel)
/-- Powers of two. -/
def p2 : Nat → Int
  | 0 => 1
  | d + 1 => 2 * p2 d
theorem p2_pos : ∀ d, 1 ≤ p2 d
  | 0 => by simp [p2]
  | d + 1 => by have := p2_pos d; rw [p2]; omega
theorem p2_le {a : Nat} : ∀ d, p2 a ≤ p2 (a + d)
  | 0 => Int.le_refl _
  | d + 1 => by have := p2_le (a := a) d; have := p2_pos (a + d); rw [← Nat.add_assoc, p2]; omega
theorem p2_add (a : Nat) : ∀ d, p2 (a + d) = p2 a * p2 d
  | 0 => by simp [p2]
  | d + 1 => by rw [← Nat.add_assoc, p2, p2, p2_add a d, Int.mul_left_comm]
theorem p2_small {a : Nat} (h : a ≤ 29) : p2 a ≤ 536870912 := by
  have := p2_le (a := a) (29 - a)
  rw [show a + (29 - a) = 29 by omega] at this
  exact Int.le_trans this (by decide)
/-- A sum of d from k on. -/
def sm (g : Nat → Int) : Nat → Nat → Int
  | _, 0 => 0
  | k, d + 1 => g k + sm g (k + 1) d
theorem sm_congr {g h : Nat → Int} : ∀ (d k : Nat), (∀ j, k ≤ j → j < k + d → g j = h j) → sm g k d = sm h k d
  | 0, k, _ => rfl
  | d + 1, k, e => by rw [sm, sm, e k (by omega) (by omega), sm_congr d (k + 1) (fun j h1 h2 => e j (by omega) (by omega))]
theorem sm_nonneg {g : Nat → Int} : ∀ (d k : Nat), (∀ j, k ≤ j → j < k + d → 0 ≤ g j) → 0 ≤ sm g k d
  | 0, k, _ => Int.le_refl _
  | d + 1, k, e => by have := e k (by omega) (by omega); have := sm_nonneg d (k + 1) (fun j h1 h2 => e j (by omega) (by omega)); rw [sm]; omega
theorem sm_bd (n : Nat) {g : Nat → Int} : ∀ (d k : Nat), k + d = n → (∀ j, k ≤ j → j < n → g j ≤ p2 (n - 1 - j)) → sm g k d ≤ p2 d - 1
  | 0, k, _, _ => by simp [sm, p2]
  | d + 1, k, hk, e => by
    have h1 := e k (by omega) (by omega)
    have h2 := sm_bd n d (k + 1) (by omega) (fun j h1 h2 => e j (by omega) h2)
    rw [show n - 1 - k = d by omega] at h1
    rw [sm, p2]; omega
theorem sm_snoc {g : Nat → Int} : ∀ (d k : Nat), sm g k (d + 1) = sm g k d + g (k + d)
  | 0, k => by simp [sm]
  | d + 1, k => by
    have h := sm_snoc (g := g) d (k + 1)
    rw [sm, h, sm, show k + 1 + d = k + (d + 1) by omega]; omega
theorem sm_bd0 {g : Nat → Int} : ∀ (d : Nat), (∀ j, j < d → g j ≤ p2 j) → sm g 0 d ≤ p2 d - 1
  | 0, _ => by simp [sm, p2]
  | d + 1, e => by
    have h1 := e d (by omega)
    have h2 := sm_bd0 d (fun j h => e j (by omega))
    rw [sm_snoc, p2, Nat.zero_add]; omega
/-- The ways from the places behind i. -/
def wy (M : Nat → Nat → Bool) (N : Nat → Int) (i : Nat) : Nat → Int := fun j => if M i j = true then N j else 0
/-- The ways to the places ahead of k. -/
def wb (M : Nat → Nat → Bool) (B : Nat → Int) (k : Nat) : Nat → Int := fun j => if M j k = true then B j else 0
/-- N tells for each place how many ways lead from it to the last one. -/
def Onw (M : Nat → Nat → Bool) (n : Nat) (N : Nat → Int) : Prop := N (n - 1) = 1 ∧ ∀ i, i + 1 < n → N i = sm (wy M N i) (i + 1) (n - 1 - i)
/-- B tells for each place how many ways lead to it. -/
def Bhd (M : Nat → Nat → Bool) (n : Nat) (B : Nat → Int) : Prop := B 0 = 1 ∧ ∀ k, 0 < k → k < n → B k = sm (wb M B k) 0 k
theorem onw_ex (M : Nat → Nat → Bool) {n : Nat} (hn : 1 ≤ n) : ∃ N, Onw M n N := by
  have key : ∀ d, d + 1 ≤ n → ∃ N : Nat → Int, N (n - 1) = 1 ∧ ∀ i, n - 1 - d ≤ i → i + 1 < n → N i = sm (wy M N i) (i + 1) (n - 1 - i) := by
    intro d
    induction d with
    | zero => exact fun _ => ⟨fun _ => 1, rfl, fun i h1 h2 => by omega⟩
    | succ d ih =>
      intro hd
      obtain ⟨N, h0, h1⟩ := ih (by omega)
      obtain ⟨m, hm⟩ : ∃ m, m = n - 1 - (d + 1) := ⟨_, rfl⟩
      refine ⟨fun j => if j = m then sm (wy M N m) (m + 1) (n - 1 - m) else N j, ?_, fun i h2 h3 => ?_⟩
      · dsimp only; rw [if_neg (by omega), h0]
      · have cg : sm (wy M N i) (i + 1) (n - 1 - i) = sm (wy M (fun j => if j = m then sm (wy M N m) (m + 1) (n - 1 - m) else N j) i) (i + 1) (n - 1 - i) := by
          refine sm_congr _ _ fun j h4 h5 => ?_
          unfold wy
          dsimp only
          rw [if_neg (show ¬ j = m by omega)]
        rw [← cg]
        dsimp only
        by_cases e : i = m
        · subst e; rw [if_pos rfl]
        · rw [if_neg e, h1 i (by omega) h3]
  obtain ⟨N, h0, h1⟩ := key (n - 1) (by omega)
  exact ⟨N, h0, fun i hi => h1 i (by omega) hi⟩
theorem bhd_ex (M : Nat → Nat → Bool) (n : Nat) : ∃ B, Bhd M n B := by
  have key : ∀ d, ∃ B : Nat → Int, B 0 = 1 ∧ ∀ k, 0 < k → k ≤ d → B k = sm (wb M B k) 0 k := by
    intro d
    induction d with
    | zero => exact ⟨fun _ => 1, rfl, fun k h1 h2 => by omega⟩
    | succ d ih =>
      obtain ⟨B, h0, h1⟩ := ih
      refine ⟨fun j => if j = d + 1 then sm (wb M B (d + 1)) 0 (d + 1) else B j, ?_, fun i h2 h3 => ?_⟩
      · dsimp only; rw [if_neg (by omega), h0]
      · have cg : sm (wb M B i) 0 i = sm (wb M (fun j => if j = d + 1 then sm (wb M B (d + 1)) 0 (d + 1) else B j) i) 0 i := by
          refine sm_congr _ _ fun j h4 h5 => ?_
          unfold wb
          dsimp only
          rw [if_neg (show ¬ j = d + 1 by omega)]
        rw [← cg]
        dsimp only
        by_cases e : i = d + 1
        · subst e; rw [if_pos rfl]
        · rw [if_neg e, h1 i h2 (by omega)]
  obtain ⟨B, h0, h1⟩ := key n
  exact ⟨B, h0, fun i h2 h3 => h1 i h2 (by omega)⟩
theorem onw_bd {M : Nat → Nat → Bool} {n : Nat} {N : Nat → Int} (h : Onw M n N) : ∀ (d i : Nat), i < n → n - 1 - i ≤ d → 0 ≤ N i ∧ N i ≤ p2 (n - 1 - i) := by
  intro d
  have last : ∀ i, i + 1 = n → 0 ≤ N i ∧ N i ≤ p2 (n - 1 - i) := by
    intro i hi
    obtain rfl : i = n - 1 := by omega
    rw [h.1, Nat.sub_self]
    exact ⟨by omega, by simp [p2]⟩
  induction d with
  | zero => exact fun i h1 h2 => last i (by omega)
  | succ d ih =>
    intro i h1 h2
    by_cases e : i + 1 = n
    · exact last i e
    · rw [h.2 i (by omega)]
      have b : ∀ j, i + 1 ≤ j → j < n → 0 ≤ wy M N i j ∧ wy M N i j ≤ p2 (n - 1 - j) := by
        intro j h3 h4
        have := ih j h4 (by omega)
        have := p2_pos (n - 1 - j)
        unfold wy
        split <;> omega
      refine ⟨sm_nonneg _ _ fun j h3 h4 => (b j h3 (by omega)).1, ?_⟩
      have := sm_bd n (g := wy M N i) (n - 1 - i) (i + 1) (by omega) (fun j h3 h4 => (b j h3 h4).2)
      omega
theorem bhd_bd {M : Nat → Nat → Bool} {n : Nat} {B : Nat → Int} (h : Bhd M n B) : ∀ (d k : Nat), k ≤ d → k < n → 0 ≤ B k ∧ B k ≤ p2 k := by
  intro d
  induction d with
  | zero =>
    intro k h1 h2
    obtain rfl : k = 0 := by omega
    rw [h.1]; exact ⟨by omega, by simp [p2]⟩
  | succ d ih =>
    intro k h1 h2
    by_cases e : k = 0
    · exact ih k (by omega) h2
    · rw [h.2 k (by omega) h2]
      have b : ∀ j, j < k → 0 ≤ wb M B k j ∧ wb M B k j ≤ p2 j := by
        intro j h3
        have := ih j (by omega) (by omega)
        have := p2_pos j
        unfold wb
        split <;> omega
      refine ⟨sm_nonneg _ _ fun j h3 h4 => (b j (by omega)).1, ?_⟩
      have := sm_bd0 (g := wb M B k) k (fun j h3 => (b j h3).2)
      omega
/-- A length that may lead from i to k. -/
def mayB (l : List Int) (a b : Int) (i k : Nat) : Bool := decide (a ≤ wrap64 (rd l (k : Int) - rd l (i : Int)) ∧ wrap64 (rd l (k : Int) - rd l (i : Int)) ≤ b)
theorem may_some {l : List Int} {a b : Int} {i k : Nat} (h : i < k) (hk : k < l.length) : dropperref04_may.f l a b (i : Int) (k : Int) = some (mayB l a b i k) := by
  unfold dropperref04_may.f mayB
  rw [if_pos (by omega), if_pos (by omega), if_pos (by omega), if_pos (by omega), if_pos (by omega), from_some]
  rfl
theorem length_some {l : List Int} {a b : Int} {i k : Nat} (h : i < l.length) (hk : k < l.length) : pull_layout_length.f l a b (i : Int) (k : Int) = some (wrap64 (rd l (k : Int) - rd l (i : Int)), mayB l a b i k, a, b) := by
  unfold pull_layout_length.f mayB
  rw [if_pos (by omega), if_pos (by omega), if_pos (by omega), if_pos (by omega), within_some]
  rfl
/-- Both tell the same masts as described: of two to thirty. -/
theorem masts_loop (l : List Int) (hl : l.length ≤ 50) : ∀ (d i : Nat), i + d = l.length → ∃ b : Bool, Ev (fun k => pull_areMasts.l0 k l l (l.length : Int) (i : Int)) b ∧ Ev (fun k => dropperref04_Masts.l0 k l (i : Int)) b ∧ (b = true → 2 ≤ l.length ∧ l.length ≤ 30) := by
  intro d
  induction d with
  | zero =>
    intro i hi
    refine ⟨decide ((2 : Int) ≤ l.length ∧ (l.length : Int) ≤ 30), ev_some _ fun k => ?_, ev_some _ fun k => ?_, fun h => ?_⟩
    · rw [pull_areMasts.l0, if_neg (by omega), within_some]; rfl
    · rw [dropperref04_Masts.l0, if_neg (by omega), from_some]; rfl
    · have := of_decide_eq_true h; omega
  | succ d ih =>
    intro i hi
    obtain ⟨b, e1, e2, hb⟩ := ih (i + 1) (by omega)
    rw [← wsucc i (by omega)] at e1 e2
    by_cases c1 : 0 ≤ rd l (i : Int) ∧ rd l (i : Int) ≤ 100000
    · by_cases c2 : 0 < i ∧ rd l (i : Int) ≤ rd l (wrap64 ((i : Int) - 1))
      · refine ⟨false, ev_some _ fun k => ?_, ev_some _ fun k => ?_, fun h => by cases h⟩
        · rw [pull_areMasts.l0, if_pos (by omega), if_pos (by omega), if_pos (by omega), within_some, decide_eq_true c1]
          simp only [Option.bind_some, if_true]
          rw [if_pos (by omega), if_pos c2.2]
          rw [if_pos (by rw [w64 (by omega) (by omega)]; omega), if_pos (by rw [w64 (by omega) (by omega)]; omega)]
        · rw [dropperref04_Masts.l0, if_pos (by omega), if_pos (by omega), from_some, decide_eq_true c1]
          simp only [Option.bind_some, if_true]
          rw [if_pos (by omega), if_pos c2.2]
          rw [if_pos (by rw [w64 (by omega) (by omega)]; omega), if_pos (by rw [w64 (by omega) (by omega)]; omega)]
      · refine ⟨b, Ev.step (fun k => ?_) e1, Ev.step (fun k => ?_) e2, hb⟩
        · rw [pull_areMasts.l0, if_pos (by omega), if_pos (by omega), if_pos (by omega), within_some, decide_eq_true c1]
          simp only [Option.bind_some, if_true]
          by_cases c3 : 0 < i
          · rw [if_pos (by omega), if_neg (fun z => c2 ⟨c3, z⟩)]
            rw [if_pos (by rw [w64 (by omega) (by omega)]; omega), if_pos (by rw [w64 (by omega) (by omega)]; omega)]
          · rw [if_neg (by omega)]
        · rw [dropperref04_Masts.l0, if_pos (by omega), if_pos (by omega), from_some, decide_eq_true c1]
          simp only [Option.bind_some, if_true]
          by_cases c3 : 0 < i
          · rw [if_pos (by omega), if_neg (fun z => c2 ⟨c3, z⟩)]
            rw [if_pos (by rw [w64 (by omega) (by omega)]; omega), if_pos (by rw [w64 (by omega) (by omega)]; omega)]
          · rw [if_neg (by omega)]
    · refine ⟨false, ev_some _ fun k => ?_, ev_some _ fun k => ?_, fun h => by cases h⟩
      · rw [pull_areMasts.l0, if_pos (by omega), if_pos (by omega), if_pos (by omega), within_some, decide_eq_false c1]
        rfl
      · rw [dropperref04_Masts.l0, if_pos (by omega), if_pos (by omega), from_some, decide_eq_false c1]
        rfl
theorem valid_ev (l : List Int) (hl : l.length ≤ 50) (a b : Int) : ∃ v : Bool, Ev (fun k => pull_Valid.f k l a b) v ∧ Ev (fun k => dropperref04_Valid.f k l a b) v ∧ (v = true → 2 ≤ l.length ∧ l.length ≤ 30) := by
  obtain ⟨m, e1, e2, hm⟩ := masts_loop l hl l.length 0 (by omega)
  have rest : ∀ x : Bool, (if x = true then some (decide (b ≤ 100000)) else some false) = some (x && decide (b ≤ 100000)) := by intro x; cases x <;> rfl
  refine ⟨m && (decide (1 ≤ a ∧ a ≤ b) && decide (b ≤ 100000)), ?_, ?_, fun h => hm (by cases m <;> simp_all)⟩
  · refine Ev.bind (g := fun k => pull_areMasts.l0 k l l (l.length : Int) 0) (f := fun k m => if m = true then ((pull_within.f 1 a b).bind fun t102 => (if t102 = true then (some (decide (b ≤ 100000))) else (some false))) else (some false)) e1 ?_
    refine Ev.congr (fun k => ?_) (Ev.now _)
    rw [within_some]
    cases m <;> simp [rest]
  · refine Ev.bind (g := fun k => dropperref04_Masts.l0 k l 0) (f := fun k m => if m = true then ((dropperref04_from.f 1 a b).bind fun t102 => (if t102 = true then (some (decide (b ≤ 100000))) else (some false))) else (some false)) e2 ?_
    refine Ev.congr (fun k => ?_) (Ev.now _)
    rw [from_some]
    cases m <;> simp [rest]
end Go.Proofs.Ytiebfmenkpodeaa.G
