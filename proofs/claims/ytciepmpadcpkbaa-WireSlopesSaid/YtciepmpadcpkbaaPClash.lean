/- Windows that clash: both programs' searches tell the same. Plain Lean. -/
import Derived.Test.YtciepmpadcpkbaaPSweep
import Derived.Test.YtciepmpadcpkbaaGF15
import Derived.Test.YtciepmpadcpkbaaGF16
import Derived.Test.YtciepmpadcpkbaaGF17
import Derived.Test.YtciepmpadcpkbaaGF18
namespace Go.Proofs.Ytciepmpadcpkbaa.G
set_option linter.unusedVariables false
set_option linter.unusedSimpArgs false
open Go.RowKit Go.Proofs.YtciepmpadcpkbaaW.PrintWords Go.Proofs.YtciepmpadcpkbaaW.PrintLast

/-- The windows i and k clash. -/
def clk (l : List S72) (r n : Int) (i k : Nat) : Prop := (wn l i).f1 > (wn l k).f2 + dst l r n i k
instance (l : List S72) (r n : Int) (i k : Nat) : Decidable (clk l r n i k) := by unfold clk; infer_instance
theorem okV.rng {l : List S72} (h : okV l) {i : Nat} (hi : i < l.length) : -10000 ≤ (wn l i).f1 ∧ (wn l i).f1 ≤ (wn l i).f2 ∧ (wn l i).f2 ≤ 10000 := (h.2 i hi).2.2
theorem clk_wrap {l : List S72} (h : okV l) {r n : Int} (hs : slope r n) {i k : Nat} (hi : i < l.length) (hk : k < l.length) : decide ((wn l i).f1 > wrap64 ((wn l k).f2 + dst l r n i k)) = decide (clk l r n i k) := by
  have := h.rng hk
  have := dst_bd h hs hi hk
  rw [w64 (n := (wn l k).f2 + dst l r n i k) (by omega) (by omega)]
  rfl
theorem ref_clashes_ev {l : List S72} (h : okV l) {r n : Int} (hs : slope r n) {i k : Nat} (hi : i < l.length) (hk : k < l.length) : Ev (fun f => dropperref02_clashes.f f l r n i k) (decide (clk l r n i k)) := by
  obtain ⟨K, hK⟩ := steps_ev h hs hi hk
  refine ⟨K, fun f hf => ?_⟩
  have := hK f hf
  dsimp only at this ⊢
  unfold dropperref02_clashes.f
  rw [if_pos (by omega), if_pos (by omega), if_pos (by omega), if_pos (by omega), this]
  simp only [Option.bind_some]
  rw [clk_wrap h hs hi hk]
/-- The first window from k on, of d, with which i clashes. -/
def rowC (l : List S72) (r n : Int) (i : Nat) : Nat → Nat → Option Nat
  | 0, _ => none
  | d + 1, k => if clk l r n i k then some k else rowC l r n i d (k + 1)
/-- The first clash, of d windows from i on. -/
def allC (l : List S72) (r n : Int) : Nat → Nat → Int × Int × Int
  | 0, _ => (0, 0, 5)
  | d + 1, i => match rowC l r n i l.length 0 with
    | some k => ((i : Int), (k : Int), 0)
    | none => allC l r n d (i + 1)
theorem rowC_none {l : List S72} {r n : Int} {i : Nat} : ∀ {d k : Nat}, rowC l r n i d k = none ↔ ∀ j, k ≤ j → j < k + d → ¬ clk l r n i j
  | 0, k => ⟨fun _ j h1 h2 => by omega, fun _ => rfl⟩
  | d + 1, k => by
    rw [rowC]
    by_cases c : clk l r n i k
    · rw [if_pos c]
      exact ⟨fun h => by simp at h, fun h => absurd c (h k (Nat.le_refl _) (by omega))⟩
    · rw [if_neg c, rowC_none (d := d) (k := k + 1)]
      refine ⟨fun h j h1 h2 => ?_, fun h j h1 h2 => h j (by omega) (by omega)⟩
      by_cases e : j = k
      · subst e; exact c
      · exact h j (by omega) (by omega)
theorem rowC_some {l : List S72} {r n : Int} {i : Nat} : ∀ {d k j : Nat}, rowC l r n i d k = some j → k ≤ j ∧ j < k + d ∧ clk l r n i j
  | 0, k, j, h => by simp [rowC] at h
  | d + 1, k, j, h => by
    rw [rowC] at h
    by_cases c : clk l r n i k
    · rw [if_pos c] at h
      obtain rfl := Option.some.inj h
      exact ⟨by omega, by omega, c⟩
    · rw [if_neg c] at h
      have := rowC_some h
      exact ⟨by omega, by omega, this.2.2⟩
theorem rowC_skip {l : List S72} {r n : Int} {i : Nat} : ∀ {s d k : Nat}, (∀ j, k ≤ j → j < k + s → ¬ clk l r n i j) → rowC l r n i (s + d) k = rowC l r n i d (k + s)
  | 0, d, k, h => by simp
  | s + 1, d, k, h => by
    rw [show s + 1 + d = (s + d) + 1 by omega, rowC, if_neg (h k (Nat.le_refl _) (by omega)), rowC_skip (s := s) (fun j h1 h2 => h j (by omega) (by omega)), show k + 1 + s = k + (s + 1) by omega]
/-- No windows clash. -/
def noC (l : List S72) (r n : Int) : Prop := ∀ i, i < l.length → ∀ k, k < l.length → ¬ clk l r n i k
theorem allC_five {l : List S72} {r n : Int} : ∀ {d i : Nat}, i + d = l.length → ((allC l r n d i).2.2 = 5 ↔ ∀ j, i ≤ j → j < l.length → ∀ k, k < l.length → ¬ clk l r n j k) ∧ ((allC l r n d i).2.2 = 5 ∨ (allC l r n d i).2.2 = 0)
  | 0, i, hd => ⟨⟨fun _ j h1 h2 => by omega, fun _ => rfl⟩, .inl rfl⟩
  | d + 1, i, hd => by
    rw [allC]
    cases c : rowC l r n i l.length 0 with
    | some k =>
      obtain ⟨_, h2, h3⟩ := rowC_some c
      refine ⟨⟨fun h => by simp at h, fun h => absurd h3 (h i (Nat.le_refl _) (by omega) k (by omega))⟩, .inr rfl⟩
    | none =>
      have c' := rowC_none.1 c
      obtain ⟨h1, h2⟩ := allC_five (l := l) (r := r) (n := n) (d := d) (i := i + 1) (by omega)
      refine ⟨⟨fun h j hj hj2 k hk => ?_, fun h => h1.2 fun j hj => h j (by omega)⟩, h2⟩
      by_cases e : j = i
      · subst e; exact c' k (by omega) (by omega)
      · exact h1.1 h j (by omega) hj2 k hk
theorem allC_noC {l : List S72} {r n : Int} : (allC l r n l.length 0).2.2 = 5 ↔ noC l r n := by
  rw [(allC_five (by omega)).1]
  exact ⟨fun h i hi => h i (by omega) hi, fun h i _ hi => h i hi⟩

theorem ref_clash_loop {l : List S72} (h : okV l) {r n : Int} (hs : slope r n) : ∀ (d i : Nat), i + d = l.length → Ev (fun f => dropperref02_Clash.l0 f l r n i) (allC l r n d i) := by
  intro d
  induction d with
  | zero =>
    intro i hd
    refine ev_some _ fun k => ?_
    rw [dropperref02_Clash.l0, if_neg (by omega)]
    rfl
  | succ d ih =>
    intro i hd
    have hl30 := h.1.2
    have inner : ∀ (e k : Nat), k + e = l.length → Ev (fun f => dropperref02_Clash.l1 f l r n i k) (match rowC l r n i e k with | some j => ((i : Int), (j : Int), 0) | none => allC l r n d (i + 1)) := by
      intro e
      induction e with
      | zero =>
        intro k hk
        refine Ev.step (fun f => ?_) (ih (i + 1) (by omega))
        rw [dropperref02_Clash.l1, if_neg (by omega), wsucc i (by omega)]
      | succ e ihe =>
        intro k hk
        have c := ref_clashes_ev h hs (show i < l.length by omega) (show k < l.length by omega)
        refine Ev.step (f := fun f => (dropperref02_clashes.f f l r n i k).bind fun t102 => if t102 = true then some ((i : Int), (k : Int), 0) else dropperref02_Clash.l1 f l r n i ((k + 1 : Nat) : Int)) (fun f => ?_) (Ev.bind c ?_)
        · rw [dropperref02_Clash.l1, if_pos (by omega), wsucc k (by omega)]
        · rw [rowC]
          by_cases c : clk l r n i k
          · rw [if_pos c]
            simp only [decide_eq_true c, if_true]
            exact Ev.now _
          · rw [if_neg c]
            simp only [decide_eq_false c, if_false, Bool.false_eq_true]
            exact ihe (k + 1) (by omega)
    refine Ev.step (fun f => ?_) (inner l.length 0 (by omega))
    rw [dropperref02_Clash.l0, if_pos (by omega)]
    rfl
open Classical in
/-- What Clash tells. -/
noncomputable def clashR (l : List S72) (r n : Int) : Int × Int × Int := if askE l r n = 0 then allC l r n l.length 0 else (0, 0, askE l r n)
theorem ref_Clash_ev (l : List S72) (hl : l.length ≤ 9223372036854775807) (r n : Int) : Ev (fun f => dropperref02_Clash.f f l r n) (clashR l r n) := by
  refine Ev.bind (ref_asked_ev l hl r n) ?_
  unfold clashR
  by_cases c : askE l r n = 0
  · obtain ⟨h, hs⟩ := askE_zero c
    rw [if_pos c, c]
    exact ref_clash_loop h hs l.length 0 (by omega)
  · simp only [if_neg c]
    exact Ev.now _

theorem index_loop {l : List S72} (hl : l.length ≤ 50) {fn : Int → Int → Int → Option Bool} {p : Nat → Prop} [DecidablePred p] (hp : ∀ j, j < l.length → fn (wn l j).f0 (wn l j).f1 (wn l j).f2 = some (decide (p j))) : ∀ (d i : Nat), l.length - i = d → i ≤ l.length → (∀ j, j < i → ¬ p j) →
    ∃ t : Int, Ev (fun f => api_Window.l0 f l fn l.length i) t ∧ ((t = -1 ∧ ∀ j, j < l.length → ¬ p j) ∨ ∃ k : Nat, t = k ∧ k < l.length ∧ p k ∧ ∀ j, j < k → ¬ p j) := by
  intro d
  induction d with
  | zero =>
    intro i hd hi h1
    obtain rfl : i = l.length := by omega
    refine ⟨-1, ev_some _ fun k => ?_, .inl ⟨rfl, h1⟩⟩
    rw [api_Window.l0, if_neg (by omega)]
  | succ d ih =>
    intro i hd hi h1
    by_cases c : p i
    · refine ⟨i, ev_some _ fun k => ?_, .inr ⟨i, rfl, by omega, c, h1⟩⟩
      rw [api_Window.l0, if_pos (by omega), if_pos (by omega), if_pos (by omega), hp i (by omega), decide_eq_true c]
      rfl
    · obtain ⟨t, e, ht⟩ := ih (i + 1) (by omega) (by omega) (fun j hj => if q : j = i then q ▸ c else h1 j (by omega))
      refine ⟨t, Ev.step (fun k => ?_) e, ht⟩
      rw [api_Window.l0, if_pos (by omega), if_pos (by omega), if_pos (by omega), hp i (by omega), decide_eq_false c, wsucc i (by omega)]
      rfl
theorem wire_clash_inner {l : List S72} (h : okV l) {r n : Int} (hs : slope r n) {i : Nat} (hi : i < l.length) {R : Int × Int × Int} (hR : Ev (fun f => wire_Clash.l0 f l (plc l r n) l l.length ((i + 1 : Nat) : Int)) R) : ∀ (e k : Nat), k + e = l.length →
    Ev (fun f => wire_Clash.l1 f l (plc l r n) i k l l.length i (wn l i).f0 (wn l i).f1 (wn l i).f2) (match rowC l r n i e k with | some j => ((i : Int), (j : Int), 0) | none => R) := by
  intro e
  have hl30 := h.1.2
  induction e with
  | zero =>
    intro k hk
    refine Ev.step (fun f => ?_) (Ev.step (g := fun f => wire_Clash.j2 f l (plc l r n) i k l l.length i false (wn l i).f0 (wn l i).f1 (wn l i).f2) (fun f => ?_) hR)
    · rw [wire_Clash.l1, if_pos (by omega), decide_eq_false (by omega)]
    · rw [wire_Clash.j2, if_neg (by decide), wsucc i (by omega)]
  | succ e ihe =>
    intro k hk
    refine Ev.step (fun f => ?_) (Ev.step (g := fun f => wire_Clash.j2 f l (plc l r n) i k l l.length i true (wn l i).f0 (wn l i).f1 (wn l i).f2) (f := fun f => if clk l r n i k then some ((i : Int), (k : Int), 0) else wire_Clash.l1 f l (plc l r n) i ((k + 1 : Nat) : Int) l l.length i (wn l i).f0 (wn l i).f1 (wn l i).f2) (fun f => ?_) ?_)
    · rw [wire_Clash.l1, if_pos (by omega), decide_eq_true (by omega)]
    · have q := clk_wrap h hs hi (show k < l.length by omega)
      rw [wire_Clash.j2, if_pos rfl, if_pos (by omega), if_pos (by omega), to_some h hs hi (by omega), wsucc k (by omega)]
      simp only [Option.bind_some]
      by_cases c : clk l r n i k
      · rw [decide_eq_true c] at q
        rw [if_pos c, if_pos (of_decide_eq_true q)]
      · rw [decide_eq_false c] at q
        rw [if_neg c, if_neg (of_decide_eq_false q)]
    · rw [rowC]
      by_cases c : clk l r n i k
      · simp only [if_pos c]; exact Ev.now _
      · simp only [if_neg c]; exact ihe (k + 1) (by omega)
theorem wire_clash_loop {l : List S72} (h : okV l) {r n : Int} (hs : slope r n) : ∀ (d i : Nat), i + d = l.length → Ev (fun f => wire_Clash.l0 f l (plc l r n) l l.length i) (allC l r n d i) := by
  intro d
  have hl30 := h.1.2
  induction d with
  | zero =>
    intro i hd
    refine ev_some _ fun k => ?_
    rw [wire_Clash.l0, if_neg (by omega)]
    rfl
  | succ d ih =>
    intro i hd
    have hi : i < l.length := by omega
    obtain ⟨t, e, ht⟩ := index_loop (l := l) (by omega) (fn := fun z0 z1 z2 => wire_Clash_1.f z0 z1 z2 (wn l i).f0 (wn l i).f1 (wn l i).f2) (p := fun j => (wn l i).f1 > (wn l j).f2) (fun j hj => by unfold wire_Clash_1.f; rfl) l.length 0 (by omega) (by omega) (by omega)
    refine Ev.step (f := fun f => (api_Window.f f l (fun z0 z1 z2 => wire_Clash_1.f z0 z1 z2 (wn l i).f0 (wn l i).f1 (wn l i).f2)).bind fun t => wire_Clash.l1 f l (plc l r n) i t l l.length i (wn l i).f0 (wn l i).f1 (wn l i).f2) (fun f => ?_) (Ev.bind e ?_)
    · rw [wire_Clash.l0, if_pos (by omega), if_pos (by omega), if_pos (by omega)]
    · have weak : ∀ {j}, j < l.length → clk l r n i j → (wn l i).f1 > (wn l j).f2 := fun {j} hj c => by
        have := dst_bd h hs hi hj
        unfold clk at c
        omega
      rw [allC]
      rcases ht with ⟨rfl, ht⟩ | ⟨k, rfl, hk, _, ht⟩
      · have : rowC l r n i l.length 0 = none := rowC_none.2 fun j _ hj c => ht j (by omega) (weak (by omega) c)
        rw [this]
        refine Ev.step (fun f => ?_) (Ev.step (g := fun f => wire_Clash.j2 f l (plc l r n) i (-1) l l.length i false (wn l i).f0 (wn l i).f1 (wn l i).f2) (fun f => ?_) (ih (i + 1) (by omega)))
        · rw [wire_Clash.l1, if_neg (by omega)]
        · rw [wire_Clash.j2, if_neg (by decide), wsucc i (by omega)]
      · have e := wire_clash_inner h hs hi (ih (i + 1) (by omega)) (l.length - k) k (by omega)
        have s := rowC_skip (l := l) (r := r) (n := n) (i := i) (s := k) (d := l.length - k) (k := 0) (fun j _ hj c => ht j (by omega) (weak (by omega) c))
        rw [show k + (l.length - k) = l.length by omega, Nat.zero_add] at s
        rw [s]
        exact e
theorem wire_Clash_ev (l : List S72) (hl : l.length ≤ 9223372036854775807) (r n : Int) : Ev (fun f => wire_Clash.f f l r n) (clashR l r n) := by
  refine Ev.bind (wire_asked_ev l hl r n) ?_
  unfold clashR
  by_cases c : askE l r n = 0
  · obtain ⟨h, hs⟩ := askE_zero c
    simp only [if_pos c]
    exact wire_clash_loop h hs l.length 0 (by omega)
  · simp only [if_neg c]
    exact Ev.now _

/-- What Clashes tells. -/
noncomputable def clashesR (l : List S72) (r n i k : Int) : Bool × Int := if askE l r n = 0 then (if (0 ≤ i ∧ i < l.length) ∧ 0 ≤ k ∧ k < l.length then (decide (clk l r n i.toNat k.toNat), 0) else (false, 2)) else (false, askE l r n)
theorem wire_Clashes_ev (l : List S72) (hl : l.length ≤ 9223372036854775807) (r n i k : Int) : Ev (fun f => wire_Clashes.f f l r n i k) (clashesR l r n i k) := by
  refine Ev.bind (wire_asked_ev l hl r n) ?_
  unfold clashesR
  by_cases c : askE l r n = 0
  · obtain ⟨h, hs⟩ := askE_zero c
    have hl1 := h.1
    simp only [if_pos c, if_true, within_some, Option.bind_some]
    rw [w64 (n := (l.length : Int) - 1) (by omega) (by omega)]
    by_cases c1 : 0 ≤ i ∧ i < l.length
    · rw [decide_eq_true (show 0 ≤ i ∧ i ≤ (l.length : Int) - 1 by omega)]
      by_cases c2 : 0 ≤ k ∧ k < l.length
      · rw [decide_eq_true (show 0 ≤ k ∧ k ≤ (l.length : Int) - 1 by omega), if_pos (show (0 ≤ i ∧ i < (l.length : Int)) ∧ 0 ≤ k ∧ k < (l.length : Int) from ⟨c1, c2⟩)]
        obtain ⟨a, rfl⟩ := Int.eq_ofNat_of_zero_le c1.1
        obtain ⟨b, rfl⟩ := Int.eq_ofNat_of_zero_le c2.1
        refine Ev.congr (fun f => ?_) (Ev.now _)
        simp only [if_true]
        rw [if_pos c1.1, if_pos c1.2, if_pos c2.1, if_pos c2.2, to_some h hs (by omega) (by omega)]
        simp only [Option.bind_some, Int.toNat_natCast]
        rw [clk_wrap h hs (by omega) (by omega)]
      · rw [decide_eq_false (show ¬ (0 ≤ k ∧ k ≤ (l.length : Int) - 1) by omega), if_neg (show ¬ ((0 ≤ i ∧ i < (l.length : Int)) ∧ 0 ≤ k ∧ k < (l.length : Int)) from fun z => c2 z.2)]
        exact Ev.now _
    · rw [decide_eq_false (show ¬ (0 ≤ i ∧ i ≤ (l.length : Int) - 1) by omega), if_neg (show ¬ ((0 ≤ i ∧ i < (l.length : Int)) ∧ 0 ≤ k ∧ k < (l.length : Int)) from fun z => c1 z.1)]
      exact Ev.now _
  · simp only [if_neg c]
    exact Ev.now _
theorem ref_Clashes_ev (l : List S72) (hl : l.length ≤ 9223372036854775807) (r n i k : Int) : Ev (fun f => dropperref02_Clashes.f f l r n i k) (clashesR l r n i k) := by
  refine Ev.bind (ref_asked_ev l hl r n) ?_
  unfold clashesR
  by_cases c : askE l r n = 0
  · obtain ⟨h, hs⟩ := askE_zero c
    have hl1 := h.1
    simp only [if_pos c, from_some, Option.bind_some]
    rw [w64 (n := (l.length : Int) - 1) (by omega) (by omega)]
    by_cases c1 : 0 ≤ i ∧ i < l.length
    · rw [decide_eq_true (show 0 ≤ i ∧ i ≤ (l.length : Int) - 1 by omega)]
      by_cases c2 : 0 ≤ k ∧ k < l.length
      · rw [decide_eq_true (show 0 ≤ k ∧ k ≤ (l.length : Int) - 1 by omega), if_pos (show (0 ≤ i ∧ i < (l.length : Int)) ∧ 0 ≤ k ∧ k < (l.length : Int) from ⟨c1, c2⟩)]
        obtain ⟨a, rfl⟩ := Int.eq_ofNat_of_zero_le c1.1
        obtain ⟨b, rfl⟩ := Int.eq_ofNat_of_zero_le c2.1
        simp only [if_true]
        exact Ev.bind (ref_clashes_ev h hs (by omega) (by omega)) (Ev.now _)
      · rw [decide_eq_false (show ¬ (0 ≤ k ∧ k ≤ (l.length : Int) - 1) by omega), if_neg (show ¬ ((0 ≤ i ∧ i < (l.length : Int)) ∧ 0 ≤ k ∧ k < (l.length : Int)) from fun z => c2 z.2)]
        exact Ev.now _
    · rw [decide_eq_false (show ¬ (0 ≤ i ∧ i ≤ (l.length : Int) - 1) by omega), if_neg (show ¬ ((0 ≤ i ∧ i < (l.length : Int)) ∧ 0 ≤ k ∧ k < (l.length : Int)) from fun z => c1 z.1)]
      exact Ev.now _
  · simp only [if_neg c]
    exact Ev.now _
end Go.Proofs.Ytciepmpadcpkbaa.G
