/- Words for the law PullBests. Plain Lean. -/
import Derived.Test.YtiebfmenkpodeaaPBase
import Derived.Test.YtiebfmenkpodeaaGF18
import Derived.Test.YtiebfmenkpodeaaGF23
import Derived.Test.YtiebfmenkpodeaaGF27
import Derived.Test.YtiebfmenkpodeaaGF28
import Derived.Test.YtiebfmenkpodeaaGF29
import Derived.Test.YtiebfmenkpodeaaGF38
import Derived.Test.YtiebfmenkpodeaaGF44
import Derived.Test.YtiebfmenkpodeaaGF58
import Derived.Test.YtiebfmenkpodeaaGF59
import Derived.Test.YtiebfmenkpodeaaGF60
import Derived.Test.YtiebfmenkpodeaaGF61
namespace Go.Proofs.Ytiebfmenkpodeaa.G
set_option linter.unusedVariables false
set_option linter.unusedSimpArgs false
set_option linter.unusedSectionVars false
open Go.RowKit Go.Proofs.YtiebfmenkpodeaaW.PrintWords Go.Proofs.YtiebfmenkpodeaaW.PrintLast
theorem awake_num : Ev (fun k => dropperlaw04_Awake.f k) true := Ev.of (fun k => dropperlaw04_Awake.mono k) (k := 200) (by decide +kernel)
/-- Powers of two. -/
def p2 : Nat → Int
  | 0 => 1
  | d + 1 => 2 * p2 d
theorem p2_pos : ∀ d, 1 ≤ p2 d
  | 0 => by simp [p2]
  | d + 1 => by have := p2_pos d; rw [p2]; omega
theorem p2_le {a : Nat} : ∀ d, p2 a ≤ p2 (a + d)
  | 0 => Int.le_refl _
  | d + 1 => by have := p2_le (a := a) d; have := p2_pos (a + d); rw [← Nat.add_assoc, p2]; omega
theorem p2_add (a : Nat) : ∀ d, p2 (a + d) = p2 a * p2 d
  | 0 => by simp [p2]
  | d + 1 => by rw [← Nat.add_assoc, p2, p2, p2_add a d, Int.mul_left_comm]
theorem p2_small {a : Nat} (h : a ≤ 29) : p2 a ≤ 536870912 := by
  have := p2_le (a := a) (29 - a)
  rw [show a + (29 - a) = 29 by omega] at this
  exact Int.le_trans this (by decide)
/-- A sum of d from k on. -/
def sm (g : Nat → Int) : Nat → Nat → Int
  | _, 0 => 0
  | k, d + 1 => g k + sm g (k + 1) d
theorem sm_congr {g h : Nat → Int} : ∀ (d k : Nat), (∀ j, k ≤ j → j < k + d → g j = h j) → sm g k d = sm h k d
  | 0, k, _ => rfl
  | d + 1, k, e => by rw [sm, sm, e k (by omega) (by omega), sm_congr d (k + 1) (fun j h1 h2 => e j (by omega) (by omega))]
theorem sm_nonneg {g : Nat → Int} : ∀ (d k : Nat), (∀ j, k ≤ j → j < k + d → 0 ≤ g j) → 0 ≤ sm g k d
  | 0, k, _ => Int.le_refl _
  | d + 1, k, e => by have := e k (by omega) (by omega); have := sm_nonneg d (k + 1) (fun j h1 h2 => e j (by omega) (by omega)); rw [sm]; omega
theorem sm_bd (n : Nat) {g : Nat → Int} : ∀ (d k : Nat), k + d = n → (∀ j, k ≤ j → j < n → g j ≤ p2 (n - 1 - j)) → sm g k d ≤ p2 d - 1
  | 0, k, _, _ => by simp [sm, p2]
  | d + 1, k, hk, e => by
    have h1 := e k (by omega) (by omega)
    have h2 := sm_bd n d (k + 1) (by omega) (fun j h1 h2 => e j (by omega) h2)
    rw [show n - 1 - k = d by omega] at h1
    rw [sm, p2]; omega
theorem sm_snoc {g : Nat → Int} : ∀ (d k : Nat), sm g k (d + 1) = sm g k d + g (k + d)
  | 0, k => by simp [sm]
  | d + 1, k => by
    have h := sm_snoc (g := g) d (k + 1)
    rw [sm, h, sm, show k + 1 + d = k + (d + 1) by omega]; omega
theorem sm_bd0 {g : Nat → Int} : ∀ (d : Nat), (∀ j, j < d → g j ≤ p2 j) → sm g 0 d ≤ p2 d - 1
  | 0, _ => by simp [sm, p2]
  | d + 1, e => by
    have h1 := e d (by omega)
    have h2 := sm_bd0 d (fun j h => e j (by omega))
    rw [sm_snoc, p2, Nat.zero_add]; omega
/-- The ways from the places behind i. -/
def wy (M : Nat → Nat → Bool) (N : Nat → Int) (i : Nat) : Nat → Int := fun j => if M i j = true then N j else 0
/-- The ways to the places ahead of k. -/
def wb (M : Nat → Nat → Bool) (B : Nat → Int) (k : Nat) : Nat → Int := fun j => if M j k = true then B j else 0
/-- N tells for each place how many ways lead from it to the last one. -/
def Onw (M : Nat → Nat → Bool) (n : Nat) (N : Nat → Int) : Prop := N (n - 1) = 1 ∧ ∀ i, i + 1 < n → N i = sm (wy M N i) (i + 1) (n - 1 - i)
/-- B tells for each place how many ways lead to it. -/
def Bhd (M : Nat → Nat → Bool) (n : Nat) (B : Nat → Int) : Prop := B 0 = 1 ∧ ∀ k, 0 < k → k < n → B k = sm (wb M B k) 0 k
theorem onw_ex (M : Nat → Nat → Bool) {n : Nat} (hn : 1 ≤ n) : ∃ N, Onw M n N := by
  have key : ∀ d, d + 1 ≤ n → ∃ N : Nat → Int, N (n - 1) = 1 ∧ ∀ i, n - 1 - d ≤ i → i + 1 < n → N i = sm (wy M N i) (i + 1) (n - 1 - i) := by
    intro d
    induction d with
    | zero => exact fun _ => ⟨fun _ => 1, rfl, fun i h1 h2 => by omega⟩
    | succ d ih =>
      intro hd
      obtain ⟨N, h0, h1⟩ := ih (by omega)
      obtain ⟨m, hm⟩ : ∃ m, m = n - 1 - (d + 1) := ⟨_, rfl⟩
      refine ⟨fun j => if j = m then sm (wy M N m) (m + 1) (n - 1 - m) else N j, ?_, fun i h2 h3 => ?_⟩
      · dsimp only; rw [if_neg (by omega), h0]
      · have cg : sm (wy M N i) (i + 1) (n - 1 - i) = sm (wy M (fun j => if j = m then sm (wy M N m) (m + 1) (n - 1 - m) else N j) i) (i + 1) (n - 1 - i) := by
          refine sm_congr _ _ fun j h4 h5 => ?_
          unfold wy
          dsimp only
          rw [if_neg (show ¬ j = m by omega)]
        rw [← cg]
        dsimp only
        by_cases e : i = m
        · subst e; rw [if_pos rfl]
        · rw [if_neg e, h1 i (by omega) h3]
  obtain ⟨N, h0, h1⟩ := key (n - 1) (by omega)
  exact ⟨N, h0, fun i hi => h1 i (by omega) hi⟩
theorem bhd_ex (M : Nat → Nat → Bool) (n : Nat) : ∃ B, Bhd M n B := by
  have key : ∀ d, ∃ B : Nat → Int, B 0 = 1 ∧ ∀ k, 0 < k → k ≤ d → B k = sm (wb M B k) 0 k := by
    intro d
    induction d with
    | zero => exact ⟨fun _ => 1, rfl, fun k h1 h2 => by omega⟩
    | succ d ih =>
      obtain ⟨B, h0, h1⟩ := ih
      refine ⟨fun j => if j = d + 1 then sm (wb M B (d + 1)) 0 (d + 1) else B j, ?_, fun i h2 h3 => ?_⟩
      · dsimp only; rw [if_neg (by omega), h0]
      · have cg : sm (wb M B i) 0 i = sm (wb M (fun j => if j = d + 1 then sm (wb M B (d + 1)) 0 (d + 1) else B j) i) 0 i := by
          refine sm_congr _ _ fun j h4 h5 => ?_
          unfold wb
          dsimp only
          rw [if_neg (show ¬ j = d + 1 by omega)]
        rw [← cg]
        dsimp only
        by_cases e : i = d + 1
        · subst e; rw [if_pos rfl]
        · rw [if_neg e, h1 i h2 (by omega)]
  obtain ⟨B, h0, h1⟩ := key n
  exact ⟨B, h0, fun i h2 h3 => h1 i h2 (by omega)⟩
theorem onw_bd {M : Nat → Nat → Bool} {n : Nat} {N : Nat → Int} (h : Onw M n N) : ∀ (d i : Nat), i < n → n - 1 - i ≤ d → 0 ≤ N i ∧ N i ≤ p2 (n - 1 - i) := by
  intro d
  have last : ∀ i, i + 1 = n → 0 ≤ N i ∧ N i ≤ p2 (n - 1 - i) := by
    intro i hi
    obtain rfl : i = n - 1 := by omega
    rw [h.1, Nat.sub_self]
    exact ⟨by omega, by simp [p2]⟩
  induction d with
  | zero => exact fun i h1 h2 => last i (by omega)
  | succ d ih =>
    intro i h1 h2
    by_cases e : i + 1 = n
    · exact last i e
    · rw [h.2 i (by omega)]
      have b : ∀ j, i + 1 ≤ j → j < n → 0 ≤ wy M N i j ∧ wy M N i j ≤ p2 (n - 1 - j) := by
        intro j h3 h4
        have := ih j h4 (by omega)
        have := p2_pos (n - 1 - j)
        unfold wy
        split <;> omega
      refine ⟨sm_nonneg _ _ fun j h3 h4 => (b j h3 (by omega)).1, ?_⟩
      have := sm_bd n (g := wy M N i) (n - 1 - i) (i + 1) (by omega) (fun j h3 h4 => (b j h3 h4).2)
      omega
theorem bhd_bd {M : Nat → Nat → Bool} {n : Nat} {B : Nat → Int} (h : Bhd M n B) : ∀ (d k : Nat), k ≤ d → k < n → 0 ≤ B k ∧ B k ≤ p2 k := by
  intro d
  induction d with
  | zero =>
    intro k h1 h2
    obtain rfl : k = 0 := by omega
    rw [h.1]; exact ⟨by omega, by simp [p2]⟩
  | succ d ih =>
    intro k h1 h2
    by_cases e : k = 0
    · exact ih k (by omega) h2
    · rw [h.2 k (by omega) h2]
      have b : ∀ j, j < k → 0 ≤ wb M B k j ∧ wb M B k j ≤ p2 j := by
        intro j h3
        have := ih j (by omega) (by omega)
        have := p2_pos j
        unfold wb
        split <;> omega
      refine ⟨sm_nonneg _ _ fun j h3 h4 => (b j (by omega)).1, ?_⟩
      have := sm_bd0 (g := wb M B k) k (fun j h3 => (b j h3).2)
      omega
/-- A length that may lead from i to k. -/
def mayB (l : List Int) (a b : Int) (i k : Nat) : Bool := decide (a ≤ wrap64 (rd l (k : Int) - rd l (i : Int)) ∧ wrap64 (rd l (k : Int) - rd l (i : Int)) ≤ b)
theorem may_some {l : List Int} {a b : Int} {i k : Nat} (h : i < k) (hk : k < l.length) : dropperref04_may.f l a b (i : Int) (k : Int) = some (mayB l a b i k) := by
  unfold dropperref04_may.f mayB
  rw [if_pos (by omega), if_pos (by omega), if_pos (by omega), if_pos (by omega), if_pos (by omega), from_some]
  rfl
theorem length_some {l : List Int} {a b : Int} {i k : Nat} (h : i < l.length) (hk : k < l.length) : pull_layout_length.f l a b (i : Int) (k : Int) = some (wrap64 (rd l (k : Int) - rd l (i : Int)), mayB l a b i k, a, b) := by
  unfold pull_layout_length.f mayB
  rw [if_pos (by omega), if_pos (by omega), if_pos (by omega), if_pos (by omega), within_some]
  rfl
/-- Both tell the same masts as described: of two to thirty. -/
theorem masts_loop (l : List Int) (hl : l.length ≤ 50) : ∀ (d i : Nat), i + d = l.length → ∃ b : Bool, Ev (fun k => pull_areMasts.l0 k l l (l.length : Int) (i : Int)) b ∧ Ev (fun k => dropperref04_Masts.l0 k l (i : Int)) b ∧ (b = true → 2 ≤ l.length ∧ l.length ≤ 30) := by
  intro d
  induction d with
  | zero =>
    intro i hi
    refine ⟨decide ((2 : Int) ≤ l.length ∧ (l.length : Int) ≤ 30), ev_some _ fun k => ?_, ev_some _ fun k => ?_, fun h => ?_⟩
    · rw [pull_areMasts.l0, if_neg (by omega), within_some]; rfl
    · rw [dropperref04_Masts.l0, if_neg (by omega), from_some]; rfl
    · have := of_decide_eq_true h; omega
  | succ d ih =>
    intro i hi
    obtain ⟨b, e1, e2, hb⟩ := ih (i + 1) (by omega)
    rw [← wsucc i (by omega)] at e1 e2
    by_cases c1 : 0 ≤ rd l (i : Int) ∧ rd l (i : Int) ≤ 100000
    · by_cases c2 : 0 < i ∧ rd l (i : Int) ≤ rd l (wrap64 ((i : Int) - 1))
      · refine ⟨false, ev_some _ fun k => ?_, ev_some _ fun k => ?_, fun h => by cases h⟩
        · rw [pull_areMasts.l0, if_pos (by omega), if_pos (by omega), if_pos (by omega), within_some, decide_eq_true c1]
          simp only [Option.bind_some, if_true]
          rw [if_pos (by omega), if_pos c2.2]
          rw [if_pos (by rw [w64 (by omega) (by omega)]; omega), if_pos (by rw [w64 (by omega) (by omega)]; omega)]
        · rw [dropperref04_Masts.l0, if_pos (by omega), if_pos (by omega), from_some, decide_eq_true c1]
          simp only [Option.bind_some, if_true]
          rw [if_pos (by omega), if_pos c2.2]
          rw [if_pos (by rw [w64 (by omega) (by omega)]; omega), if_pos (by rw [w64 (by omega) (by omega)]; omega)]
      · refine ⟨b, Ev.step (fun k => ?_) e1, Ev.step (fun k => ?_) e2, hb⟩
        · rw [pull_areMasts.l0, if_pos (by omega), if_pos (by omega), if_pos (by omega), within_some, decide_eq_true c1]
          simp only [Option.bind_some, if_true]
          by_cases c3 : 0 < i
          · rw [if_pos (by omega), if_neg (fun z => c2 ⟨c3, z⟩)]
            rw [if_pos (by rw [w64 (by omega) (by omega)]; omega), if_pos (by rw [w64 (by omega) (by omega)]; omega)]
          · rw [if_neg (by omega)]
        · rw [dropperref04_Masts.l0, if_pos (by omega), if_pos (by omega), from_some, decide_eq_true c1]
          simp only [Option.bind_some, if_true]
          by_cases c3 : 0 < i
          · rw [if_pos (by omega), if_neg (fun z => c2 ⟨c3, z⟩)]
            rw [if_pos (by rw [w64 (by omega) (by omega)]; omega), if_pos (by rw [w64 (by omega) (by omega)]; omega)]
          · rw [if_neg (by omega)]
    · refine ⟨false, ev_some _ fun k => ?_, ev_some _ fun k => ?_, fun h => by cases h⟩
      · rw [pull_areMasts.l0, if_pos (by omega), if_pos (by omega), if_pos (by omega), within_some, decide_eq_false c1]
        rfl
      · rw [dropperref04_Masts.l0, if_pos (by omega), if_pos (by omega), from_some, decide_eq_false c1]
        rfl
theorem valid_more (l : List Int) (hl : l.length ≤ 50) : ∃ m : Bool, Ev (fun k => pull_areMasts.f k l) m ∧ (∀ a b : Int, Ev (fun k => pull_Valid.f k l a b) (m && (decide (1 ≤ a ∧ a ≤ b) && decide (b ≤ 100000))) ∧ Ev (fun k => dropperref04_Valid.f k l a b) (m && (decide (1 ≤ a ∧ a ≤ b) && decide (b ≤ 100000)))) ∧ (m = true → 2 ≤ l.length ∧ l.length ≤ 30) := by
  obtain ⟨m, e1, e2, hm⟩ := masts_loop l hl l.length 0 (by omega)
  refine ⟨m, e1, fun a b => ⟨?_, ?_⟩, hm⟩
  · refine Ev.bind (g := fun k => pull_areMasts.l0 k l l (l.length : Int) 0) (f := fun k m => if m = true then ((pull_within.f 1 a b).bind fun t102 => (if t102 = true then (some (decide (b ≤ 100000))) else (some false))) else (some false)) e1 ?_
    refine Ev.congr (fun k => ?_) (Ev.now _)
    rw [within_some]
    cases m <;> by_cases c : 1 ≤ a ∧ a ≤ b <;> simp [c]
  · refine Ev.bind (g := fun k => dropperref04_Masts.l0 k l 0) (f := fun k m => if m = true then ((dropperref04_from.f 1 a b).bind fun t102 => (if t102 = true then (some (decide (b ≤ 100000))) else (some false))) else (some false)) e2 ?_
    refine Ev.congr (fun k => ?_) (Ev.now _)
    rw [from_some]
    cases m <;> by_cases c : 1 ≤ a ∧ a ≤ b <;> simp [c]
/-- A row of the counts from m on. -/
def FromM (n : Nat) (N : Nat → Int) (m : Nat) (x : List Int) : Prop := x.length = n ∧ ∀ j, j < n → rd x (j : Int) = if m ≤ j then N j else 0
/-- A row of the counts behind i, the one at i under way. -/
def FromI (n : Nat) (N : Nat → Int) (i : Nat) (v : Int) (x : List Int) : Prop := x.length = n ∧ rd x (i : Int) = v ∧ ∀ j, j < n → j ≠ i → rd x (j : Int) = if i < j then N j else 0
theorem FromI.of {n : Nat} {N : Nat → Int} {i : Nat} {x : List Int} (h : FromM n N (i + 1) x) (hi : i < n) : FromI n N i 0 x := by
  refine ⟨h.1, by rw [h.2 i hi, if_neg (by omega)], fun j h1 h2 => ?_⟩
  rw [h.2 j h1]
  by_cases c : i < j
  · rw [if_pos (by omega), if_pos c]
  · rw [if_neg (by omega), if_neg c]
theorem FromI.to {n : Nat} {N : Nat → Int} {i : Nat} {x : List Int} (h : FromI n N i (N i) x) : FromM n N i x := by
  refine ⟨h.1, fun j h1 => ?_⟩
  by_cases e : j = i
  · subst e; rw [h.2.1, if_pos (Nat.le_refl _)]
  · rw [h.2.2 j h1 e]
    by_cases c : i < j
    · rw [if_pos c, if_pos (by omega)]
    · rw [if_neg c, if_neg (by omega)]
theorem FromI.set {n : Nat} {N : Nat → Int} {i : Nat} {v u : Int} {x : List Int} (h : FromI n N i v x) (hi : i < n) : FromI n N i u (x.set i u) := by
  have hx := h.1
  refine ⟨by simp [hx], ?_, fun j h1 h2 => ?_⟩
  · rw [rd_set x u (by omega) (by omega), if_pos rfl]
  · rw [rd_set x u (by omega) (by omega), if_neg h2, h.2.2 j h1 h2]
theorem add_ok {n : Nat} {M : Nat → Nat → Bool} {N : Nat → Int} (h : Onw M n N) (hn : n ≤ 30) {i k d : Nat} {v : Int} {x : List Int} (hk : k + (d + 1) = n) (hik : i < k) (hx : FromI n N i v x) (hv : 0 ≤ v) (hs : v + sm (wy M N i) k (d + 1) = N i) (hM : M i k = true) :
    wrap64 (rd x (i : Int) + rd x (k : Int)) = v + N k ∧ v + N k + sm (wy M N i) (k + 1) d = N i ∧ 0 ≤ v + N k := by
  have e : wy M N i k = N k := by unfold wy; rw [if_pos hM]
  rw [sm, e] at hs
  have bi := onw_bd h n i (by omega) (by omega)
  have bk := onw_bd h n k (by omega) (by omega)
  have ps := p2_small (a := n - 1 - i) (by omega)
  have sn : 0 ≤ sm (wy M N i) (k + 1) d := sm_nonneg _ _ fun j h3 h4 => by
    have := onw_bd h n j (by omega) (by omega)
    unfold wy
    split <;> omega
  rw [hx.2.1, hx.2.2 k (by omega) (by omega), if_pos hik]
  refine ⟨w64 (by omega) (by omega), by omega, by omega⟩
theorem skip_ok {M : Nat → Nat → Bool} {N : Nat → Int} {i k d : Nat} {v c : Int} (hs : v + sm (wy M N i) k (d + 1) = c) (hM : M i k = false) : v + sm (wy M N i) (k + 1) d = c := by
  have e : wy M N i k = 0 := by unfold wy; rw [hM]; rfl
  rw [sm, e] at hs
  omega
section
variable {l : List Int} {a b : Int} {N : Nat → Int} (h : Onw (mayB l a b) l.length N) (hn : l.length ≤ 30)
include h hn
theorem on_inner_p {i : Nat} {R : List Int × Int × Int} (cont : ∀ x', FromM l.length N i x' → Ev (fun k => pull_layout_numbers.l0 k x' ((i : Int) - 1) l a b) R) : ∀ (d k : Nat) (v : Int) (x : List Int), k + d = l.length → i < k → FromI l.length N i v x → 0 ≤ v → v + sm (wy (mayB l a b) N i) k d = N i →
    Ev (fun q => pull_layout_numbers.l1 q x (i : Int) (k : Int) l a b) R := by
  intro d
  induction d with
  | zero =>
    intro k v x hk hik hx hv hs
    rw [sm, Int.add_zero] at hs
    subst hs
    refine Ev.step (fun q => ?_) (cont x hx.to)
    rw [pull_layout_numbers.l1]
    unfold pull_layout_last.f
    rw [w64 (n := (l.length : Int) - 1) (by omega) (by omega), w64 (n := (i : Int) - 1) (by omega) (by omega)]
    simp only [Option.bind_some]
    rw [if_neg (by omega)]
  | succ d ih =>
    intro k v x hk hik hx hv hs
    have el := length_some (l := l) (a := a) (b := b) (i := i) (k := k) (by omega) (by omega)
    have hx1 := hx.1
    cases hM : mayB l a b i k with
    | true =>
      obtain ⟨e1, e2, e3⟩ := add_ok h hn hk hik hx hv hs hM
      refine Ev.step (fun q => ?_) (ih (k + 1) (v + N k) _ (by omega) (by omega) (hx.set (u := v + N k) (by omega)) e3 e2)
      rw [pull_layout_numbers.l1]
      unfold pull_layout_last.f
      rw [w64 (n := (l.length : Int) - 1) (by omega) (by omega), wsucc k (by omega)]
      simp only [Option.bind_some, el, hM, if_true]
      rw [if_pos (by omega), if_pos (by omega), if_pos (by omega), if_pos (by omega), if_pos (by omega), e1, Int.toNat_natCast]
    | false =>
      refine Ev.step (fun q => ?_) (ih (k + 1) v x (by omega) (by omega) hx hv (skip_ok hs hM))
      rw [pull_layout_numbers.l1]
      unfold pull_layout_last.f
      rw [w64 (n := (l.length : Int) - 1) (by omega) (by omega), wsucc k (by omega)]
      simp only [Option.bind_some, el, hM, Bool.false_eq_true, if_false]
      rw [if_pos (by omega)]
theorem on_inner_r {i : Nat} {R : List Int} (cont : ∀ x', FromM l.length N i x' → Ev (fun k => dropperref04_onward.l0 k l a b x' ((i : Int) - 1)) R) : ∀ (d k : Nat) (v : Int) (x : List Int), k + d = l.length → i < k → FromI l.length N i v x → 0 ≤ v → v + sm (wy (mayB l a b) N i) k d = N i →
    Ev (fun q => dropperref04_onward.l1 q l a b x (i : Int) (k : Int)) R := by
  intro d
  induction d with
  | zero =>
    intro k v x hk hik hx hv hs
    rw [sm, Int.add_zero] at hs
    subst hs
    refine Ev.step (fun q => ?_) (cont x hx.to)
    rw [dropperref04_onward.l1, w64 (n := (i : Int) - 1) (by omega) (by omega), if_neg (by omega)]
  | succ d ih =>
    intro k v x hk hik hx hv hs
    have el := may_some (l := l) (a := a) (b := b) (i := i) (k := k) (by omega) (by omega)
    have hx1 := hx.1
    cases hM : mayB l a b i k with
    | true =>
      obtain ⟨e1, e2, e3⟩ := add_ok h hn hk hik hx hv hs hM
      refine Ev.step (fun q => ?_) (ih (k + 1) (v + N k) _ (by omega) (by omega) (hx.set (u := v + N k) (by omega)) e3 e2)
      rw [dropperref04_onward.l1, wsucc k (by omega)]
      simp only [Option.bind_some, el, hM, if_true]
      rw [if_pos (by omega), if_pos (by omega), if_pos (by omega), if_pos (by omega), if_pos (by omega), e1, Int.toNat_natCast]
    | false =>
      refine Ev.step (fun q => ?_) (ih (k + 1) v x (by omega) (by omega) hx hv (skip_ok hs hM))
      rw [dropperref04_onward.l1, wsucc k (by omega)]
      simp only [Option.bind_some, el, hM, Bool.false_eq_true, if_false]
      rw [if_pos (by omega)]
theorem on_sum {m : Nat} (hm : m + 2 ≤ l.length) : (0 : Int) + sm (wy (mayB l a b) N m) (m + 1) (l.length - 1 - m) = N m := by
  rw [h.2 m (by omega)]; omega
theorem on_outer (hn1 : 1 ≤ l.length) : ∀ (m : Nat) (x : List Int), m + 1 ≤ l.length → FromM l.length N m x → Ev (fun k => pull_layout_numbers.l0 k x ((m : Int) - 1) l a b) ((List.range l.length).map N, a, b) ∧ Ev (fun k => dropperref04_onward.l0 k l a b x ((m : Int) - 1)) ((List.range l.length).map N) := by
  intro m
  induction m with
  | zero =>
    intro x hm hx
    obtain rfl : x = (List.range l.length).map N := rd_ext hx.1 fun i hi => by rw [hx.2 i hi, if_pos (by omega)]
    constructor
    · refine ev_some _ fun k => ?_
      rw [pull_layout_numbers.l0, if_neg (by omega)]
    · refine ev_some _ fun k => ?_
      rw [dropperref04_onward.l0, if_neg (by omega)]
  | succ m ih =>
    intro x hm hx
    have s0 := on_sum h hn (m := m) (by omega)
    have q1 := on_inner_p h hn (i := m) (fun x' h' => (ih x' (by omega) h').1) (l.length - 1 - m) (m + 1) 0 x (by omega) (by omega) (FromI.of hx (by omega)) (by omega) s0
    have q2 := on_inner_r h hn (i := m) (fun x' h' => (ih x' (by omega) h').2) (l.length - 1 - m) (m + 1) 0 x (by omega) (by omega) (FromI.of hx (by omega)) (by omega) s0
    have em : ((m + 1 : Nat) : Int) - 1 = (m : Int) := by omega
    rw [em]
    constructor
    · refine Ev.step (fun k => ?_) q1
      rw [pull_layout_numbers.l0, if_pos (by omega), wsucc m (by omega)]
    · refine Ev.step (fun k => ?_) q2
      rw [dropperref04_onward.l0, if_pos (by omega), wsucc m (by omega)]
theorem on_first (hn1 : 2 ≤ l.length) : FromM l.length N (l.length - 1) ((List.replicate l.length (0 : Int)).set (l.length - 1) 1) := by
  refine ⟨by simp, fun j hj => ?_⟩
  rw [rd_set _ _ (by simp; omega) (by simp; omega), rd_rep]
  by_cases e : j = l.length - 1
  · subst e; rw [if_pos rfl, if_pos (Nat.le_refl _), h.1]
  · rw [if_neg e, if_neg (by omega)]
theorem numbers_ev (hn1 : 2 ≤ l.length) : Ev (fun k => pull_layout_numbers.f k l a b) ((List.range l.length).map N, a, b) := by
  refine Ev.congr (fun k => ?_) (on_outer h hn (by omega) (l.length - 1) _ (by omega) (on_first h hn hn1)).1
  unfold pull_layout_numbers.f pull_layout_last.f
  rw [if_pos (by omega), if_pos (by omega)]
  simp only [Option.bind_some, Int.toNat_natCast, List.length_replicate]
  rw [w64 (n := (l.length : Int) - 1) (by omega) (by omega), w64 (n := (l.length : Int) - 1 - 1) (by omega) (by omega), if_pos (by omega), if_pos (by omega), show ((l.length : Int) - 1).toNat = l.length - 1 by omega, show (((l.length - 1 : Nat) : Int) - 1) = (l.length : Int) - 1 - 1 by omega]
theorem onward_ev (hn1 : 2 ≤ l.length) : Ev (fun k => dropperref04_onward.f k l a b) ((List.range l.length).map N) := by
  refine Ev.congr (fun k => ?_) (on_outer h hn (by omega) (l.length - 1) _ (by omega) (on_first h hn hn1)).2
  unfold dropperref04_onward.f
  rw [if_pos (by omega), if_pos (by omega)]
  simp only [Option.bind_some, Int.toNat_natCast, List.length_replicate]
  rw [w64 (n := (l.length : Int) - 1) (by omega) (by omega), w64 (n := (l.length : Int) - 2) (by omega) (by omega), if_pos (by omega), if_pos (by omega), show ((l.length : Int) - 1).toNat = l.length - 1 by omega, show (((l.length - 1 : Nat) : Int) - 1) = (l.length : Int) - 2 by omega]
/-- A plan by its rank: the same steps. -/
theorem rank_loop (hn1 : 2 ≤ l.length) : ∀ (e i : Nat) (r : Int) (out : List Int), l.length - 1 - i ≤ e → i < l.length → 0 ≤ r → r < N i → out.length ≤ i + 1 →
    ∃ R : List Int, R.length ≤ l.length ∧ Ev (fun k => pull_layout_ranked.l0 k r ((List.range l.length).map N) out (i : Int) l a b) (R, true, a, b) ∧ Ev (fun k => dropperref04_Plan.l0 k l a b r ((List.range l.length).map N) out (i : Int)) (R, 0) := by
  have last : ∀ (i : Nat) (r : Int) (out : List Int), i + 1 = l.length → out.length ≤ i + 1 → ∃ R : List Int, R.length ≤ l.length ∧ Ev (fun k => pull_layout_ranked.l0 k r ((List.range l.length).map N) out (i : Int) l a b) (R, true, a, b) ∧ Ev (fun k => dropperref04_Plan.l0 k l a b r ((List.range l.length).map N) out (i : Int)) (R, 0) := by
    intro i r out hi ho
    refine ⟨out, by omega, ev_some _ fun k => ?_, ev_some _ fun k => ?_⟩
    · rw [pull_layout_ranked.l0]
      unfold pull_layout_last.f
      rw [w64 (n := (l.length : Int) - 1) (by omega) (by omega)]
      simp only [Option.bind_some]
      rw [if_pos (by omega)]
    · rw [dropperref04_Plan.l0, w64 (n := (l.length : Int) - 1) (by omega) (by omega), if_neg (by omega)]
  intro e
  induction e with
  | zero => exact fun i r out h1 h2 _ _ ho => last i r out (by omega) ho
  | succ e ih =>
    intro i r out h1 h2 hr0 hr1 ho
    by_cases c : i + 1 = l.length
    · exact last i r out c ho
    · have inner : ∀ (d k : Nat) (r : Int), k + d = l.length → i < k → 0 ≤ r → r < sm (wy (mayB l a b) N i) k d →
          ∃ R : List Int, R.length ≤ l.length ∧ Ev (fun q => pull_layout_ranked.l1 q r ((List.range l.length).map N) out (i : Int) (k : Int) l a b) (R, true, a, b) ∧ Ev (fun q => dropperref04_Plan.l1 q l a b r ((List.range l.length).map N) out (i : Int) (k : Int)) (R, 0) := by
        intro d
        induction d with
        | zero => intro k r hk hik h3 h4; rw [sm] at h4; omega
        | succ d ihd =>
          intro k r hk hik h3 h4
          have ep := length_some (l := l) (a := a) (b := b) (i := i) (k := k) (by omega) (by omega)
          have er := may_some (l := l) (a := a) (b := b) (i := i) (k := k) (by omega) (by omega)
          have ek : rd ((List.range l.length).map N) (k : Int) = N k := rd_map N (by omega)
          rw [sm] at h4
          cases hM : mayB l a b i k with
          | true =>
            have e0 : wy (mayB l a b) N i k = N k := by unfold wy; rw [if_pos hM]
            rw [e0] at h4
            by_cases c2 : r < N k
            · obtain ⟨R, fl, f1, f2⟩ := ih k r (out ++ [(k : Int)]) (by omega) (by omega) h3 c2 (by simp; omega)
              refine ⟨R, fl, Ev.step (fun q => ?_) f1, Ev.step (fun q => ?_) f2⟩
              · rw [pull_layout_ranked.l1, ep, hM]
                simp only [Option.bind_some, if_true, List.length_map, List.length_range]
                rw [ek, if_pos (by omega), if_pos (by omega), if_pos c2, if_pos (by omega)]
              · rw [dropperref04_Plan.l1, er, hM]
                simp only [Option.bind_some, if_true, List.length_map, List.length_range]
                rw [ek, if_pos (by omega), if_pos (by omega), if_pos (by omega), if_pos c2, if_pos (by omega)]
            · have bk := onw_bd h l.length k (by omega) (by omega)
              have bi := onw_bd h l.length i (by omega) (by omega)
              have ps := p2_small (a := l.length - 1 - k) (by omega)
              have big : r ≤ 2 ^ 62 := by
                have sb := sm_bd l.length (g := wy (mayB l a b) N i) d (k + 1) (by omega) (fun j h5 h6 => by
                  have := onw_bd h l.length j (by omega) (by omega)
                  have := p2_pos (l.length - 1 - j)
                  unfold wy
                  split <;> omega)
                have := p2_small (a := d) (by omega)
                omega
              obtain ⟨R, fl, f1, f2⟩ := ihd (k + 1) (r - N k) (by omega) (by omega) (by omega) (by omega)
              refine ⟨R, fl, Ev.step (fun q => ?_) f1, Ev.step (fun q => ?_) f2⟩
              · rw [pull_layout_ranked.l1, ep, hM]
                simp only [Option.bind_some, if_true, List.length_map, List.length_range]
                rw [ek, if_pos (by omega), if_pos (by omega), if_neg c2, wsucc k (by omega), w64 (n := r - N k) (by omega) (by omega)]
              · rw [dropperref04_Plan.l1, er, hM]
                simp only [Option.bind_some, if_true, List.length_map, List.length_range]
                rw [ek, if_pos (by omega), if_pos (by omega), if_pos (by omega), if_neg c2, wsucc k (by omega), w64 (n := r - N k) (by omega) (by omega)]
          | false =>
            have e0 : wy (mayB l a b) N i k = 0 := by unfold wy; rw [hM]; rfl
            rw [e0] at h4
            obtain ⟨R, fl, f1, f2⟩ := ihd (k + 1) r (by omega) (by omega) h3 (by omega)
            refine ⟨R, fl, Ev.step (fun q => ?_) f1, Ev.step (fun q => ?_) f2⟩
            · rw [pull_layout_ranked.l1, ep, hM]
              simp only [Option.bind_some, Bool.false_eq_true, if_false]
              rw [wsucc k (by omega)]
            · rw [dropperref04_Plan.l1, er, hM]
              simp only [Option.bind_some, Bool.false_eq_true, if_false]
              rw [if_pos (by omega), wsucc k (by omega)]
      obtain ⟨R, fl, f1, f2⟩ := inner (l.length - 1 - i) (i + 1) r (by omega) (by omega) hr0 (by rw [← h.2 i (by omega)]; exact hr1)
      refine ⟨R, fl, Ev.step (fun q => ?_) f1, Ev.step (fun q => ?_) f2⟩
      · rw [pull_layout_ranked.l0]
        unfold pull_layout_last.f
        rw [w64 (n := (l.length : Int) - 1) (by omega) (by omega), wsucc i (by omega)]
        simp only [Option.bind_some]
        rw [if_neg (by omega)]
      · rw [dropperref04_Plan.l0, w64 (n := (l.length : Int) - 1) (by omega) (by omega), wsucc i (by omega), if_pos (by omega)]
end
theorem same_ev {x : List Int} (hx : x.length ≤ 1000) : Ev (fun k => dropperlaw04_SameInts.f k x x) true := by
  have loop : ∀ (d i : Nat), i + d = x.length → Ev (fun k => dropperlaw04_SameInts.l0 k x x (i : Int)) true := by
    intro d
    induction d with
    | zero =>
      intro i hi
      refine ev_some _ fun k => ?_
      rw [dropperlaw04_SameInts.l0, if_neg (by omega)]
    | succ d ih =>
      intro i hi
      refine Ev.step (fun k => ?_) (ih (i + 1) (by omega))
      rw [dropperlaw04_SameInts.l0, if_pos (by omega), if_pos (by omega), if_pos (by omega), if_pos rfl, wsucc i (by omega)]
  refine Ev.congr (fun k => ?_) (loop x.length 0 (by omega))
  unfold dropperlaw04_SameInts.f
  rw [if_pos rfl]
  rfl
theorem open_ev {l : List Int} {a b : Int} {v : Bool} (e : Ev (fun k => pull_Valid.f k l a b) v) : Ev (fun k => pull_open.f k l a b) (if v = true then (l, a, b, 0) else ([], 0, 0, 40)) := by
  obtain ⟨K, s⟩ := e
  refine ⟨K, fun k hk => ?_⟩
  have := s k hk
  dsimp only at this ⊢
  unfold pull_open.f
  rw [this]
  cases v <;> rfl
/-- A list begins at the first mast and ends at the last one. -/
def Ends (l p : List Int) : Prop := 2 ≤ p.length ∧ rd p 0 = 0 ∧ rd p ((p.length - 1 : Nat) : Int) = (l.length : Int) - 1
/-- A list ascends from the first mast to the last one. -/
def Asc (l p : List Int) : Prop := (∀ j : Nat, 1 ≤ j → j < p.length → rd p ((j - 1 : Nat) : Int) < rd p (j : Int)) ∧ Ends l p
theorem Asc.low {l p : List Int} (h : Asc l p) : ∀ j : Nat, j < p.length → 0 ≤ rd p (j : Int)
  | 0, _ => by simp [h.2.2.1]
  | j + 1, hj => by
    have h1 := h.1 (j + 1) (by omega) hj
    have h2 := Asc.low h j (by omega)
    simp only [Nat.add_sub_cancel] at h1
    omega
theorem Asc.high {l p : List Int} (h : Asc l p) : ∀ (d j : Nat), j + d + 1 = p.length → rd p (j : Int) ≤ (l.length : Int) - 1
  | 0, j, hj => by
    have := h.2.2.2
    rw [show p.length - 1 = j by omega] at this
    omega
  | d + 1, j, hj => by
    have h1 := h.1 (j + 1) (by omega) (by omega)
    have h2 := Asc.high h d (j + 1) (by omega)
    simp only [Nat.add_sub_cancel] at h1
    omega
theorem end_val {l p : List Int} (hl : l.length ≤ 50) (hp : p.length ≤ 50) (h2 : 2 ≤ p.length) : wrap64 ((p.length : Int) - 1) = ((p.length - 1 : Nat) : Int) ∧ wrap64 ((l.length : Int) - 1) = (l.length : Int) - 1 := by
  rw [w64 (n := (p.length : Int) - 1) (by omega) (by omega), w64 (n := (l.length : Int) - 1) (by omega) (by omega)]
  exact ⟨by omega, rfl⟩
theorem asc_p {l p : List Int} (hl : l.length ≤ 50) (hp : p.length ≤ 50) : ∀ (d i : Nat), p.length - i = d → 1 ≤ i → ∃ b : Bool, Ev (fun k => pull_ascends.l0 k l p (i : Int)) b ∧ (b = true ↔ (∀ j : Nat, i ≤ j → j < p.length → rd p ((j - 1 : Nat) : Int) < rd p (j : Int)) ∧ Ends l p) := by
  intro d
  induction d with
  | zero =>
    intro i hd hi
    by_cases c : 2 ≤ p.length
    · obtain ⟨e1, e2⟩ := end_val (l := l) hl hp c
      by_cases c0 : rd p 0 = 0
      · refine ⟨rd p ((p.length - 1 : Nat) : Int) == (l.length : Int) - 1, ev_some _ fun k => ?_, ?_⟩
        · rw [pull_ascends.l0, if_neg (by omega), if_pos (by omega), if_pos (by omega), if_pos c0, e1, e2, if_pos (by omega), if_pos (by omega)]
        · rw [beq_iff_eq]
          exact ⟨fun z => ⟨fun j h1 h2 => by omega, c, c0, z⟩, fun z => z.2.2.2⟩
      · refine ⟨false, ev_some _ fun k => ?_, ⟨fun z => (by cases z), fun z => absurd z.2.2.1 c0⟩⟩
        rw [pull_ascends.l0, if_neg (by omega), if_pos (by omega), if_pos (by omega), if_neg c0]
    · refine ⟨false, ev_some _ fun k => ?_, ⟨fun z => (by cases z), fun z => absurd z.2.1 c⟩⟩
      rw [pull_ascends.l0, if_neg (by omega), if_neg (by omega)]
  | succ d ih =>
    intro i hd hi
    obtain ⟨b, e, hb⟩ := ih (i + 1) (by omega) (by omega)
    have ew : wrap64 ((i : Int) - 1) = ((i - 1 : Nat) : Int) := by rw [w64 (by omega) (by omega)]; omega
    by_cases c : rd p (i : Int) ≤ rd p ((i - 1 : Nat) : Int)
    · refine ⟨false, ev_some _ fun k => ?_, ⟨fun z => (by cases z), fun z => absurd (z.1 i (Nat.le_refl _) (by omega)) (by omega)⟩⟩
      rw [pull_ascends.l0, if_pos (by omega), if_pos (by omega), ew, if_pos (by omega), if_pos (by omega), if_pos c]
    · refine ⟨b, Ev.step (fun k => ?_) e, hb.trans ⟨fun z => ⟨fun j h1 h2 => ?_, z.2⟩, fun z => ⟨fun j h1 h2 => z.1 j (by omega) h2, z.2⟩⟩⟩
      · rw [pull_ascends.l0, if_pos (by omega), if_pos (by omega), ew, if_pos (by omega), if_pos (by omega), if_neg c, wsucc i (by omega)]
      · by_cases q : j = i
        · subst q; omega
        · exact z.1 j (by omega) h2
theorem may_int {l : List Int} {a b i k : Int} (hi : 0 ≤ i) (h : i < k) (hk : k < l.length) : dropperref04_may.f l a b i k = some (mayB l a b i.toNat k.toNat) ∧ pull_layout_length.f l a b i k = some (wrap64 (rd l k - rd l i), mayB l a b i.toNat k.toNat, a, b) := by
  obtain ⟨i', rfl⟩ := Int.eq_ofNat_of_zero_le hi
  obtain ⟨k', rfl⟩ := Int.eq_ofNat_of_zero_le (show 0 ≤ k by omega)
  exact ⟨may_some (by omega) (by omega), length_some (by omega) (by omega)⟩
section
variable {l p : List Int} (hl : l.length ≤ 50) (hp : p.length ≤ 50) (hA : Asc l p)
include hl hp hA
theorem asc_at {i : Nat} (h : i + 1 < p.length) : 0 ≤ rd p (i : Int) ∧ rd p (i : Int) < rd p ((i + 1 : Nat) : Int) ∧ rd p ((i + 1 : Nat) : Int) < (l.length : Int) := by
  have h1 := hA.low i (by omega)
  have h2 := hA.1 (i + 1) (by omega) h
  have h3 := hA.high (p.length - 2 - i) (i + 1) (by omega)
  simp only [Nat.add_sub_cancel] at h2
  exact ⟨h1, h2, by omega⟩
end
end Go.Proofs.Ytiebfmenkpodeaa.G
