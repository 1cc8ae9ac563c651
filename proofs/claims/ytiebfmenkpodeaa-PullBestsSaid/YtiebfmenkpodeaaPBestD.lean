/- The law PullBests of the printed functions. Plain Lean. -/
import Derived.Test.YtiebfmenkpodeaaPBestC
import Derived.Test.YtiebfmenkpodeaaGF11
namespace Go.Proofs.Ytiebfmenkpodeaa.G
set_option linter.unusedVariables false
set_option linter.unusedSimpArgs false
set_option linter.unusedSectionVars false
open Go.RowKit Go.Proofs.YtiebfmenkpodeaaW.PrintWords Go.Proofs.YtiebfmenkpodeaaW.PrintLast
theorem may_iff {l : List Int} {a b : Int} {i k : Nat} : mayB l a b i k = true ↔ (a ≤ lnI l i k ∧ lnI l i k ≤ b) := by
  unfold mayB lnI
  rw [decide_eq_true_eq]
theorem sm_pos {g : Nat → Int} : ∀ (d k : Nat), (∀ j, k ≤ j → j < k + d → 0 ≤ g j) → (0 < sm g k d ↔ ∃ j, k ≤ j ∧ j < k + d ∧ 0 < g j)
  | 0, k, _ => ⟨fun z => by rw [sm] at z; omega, fun ⟨j, h1, h2, _⟩ => by omega⟩
  | d + 1, k, e => by
    have h0 := e k (by omega) (by omega)
    have hs := sm_nonneg (g := g) d (k + 1) (fun j h1 h2 => e j (by omega) (by omega))
    have ih := sm_pos (g := g) d (k + 1) (fun j h1 h2 => e j (by omega) (by omega))
    rw [sm]
    constructor
    · intro z
      by_cases c : 0 < g k
      · exact ⟨k, by omega, by omega, c⟩
      · obtain ⟨j, h1, h2, h3⟩ := ih.1 (by omega)
        exact ⟨j, by omega, by omega, h3⟩
    · rintro ⟨j, h1, h2, h3⟩
      by_cases c : j = k
      · subst c; omega
      · have := ih.2 ⟨j, by omega, by omega, h3⟩; omega
/-- The places on a path. -/
def nd (X : Nat → Nat) : Nat → Nat → Nat
  | 0, i => i
  | j + 1, i => nd X j (X i)
theorem nd_succ (X : Nat → Nat) : ∀ j i, nd X (j + 1) i = X (nd X j i)
  | 0, i => rfl
  | j + 1, i => by rw [nd, nd_succ X j (X i), ← nd]
theorem pth_nd {X : Nat → Nat} {n : Nat} {al : Nat → Prop} (hX : ∀ i, i + 1 < n → al i → i < X i ∧ X i < n ∧ al (X i)) : ∀ (e i : Nat), n - 1 - i ≤ e → i < n → al i →
    ∃ m, m ≤ e ∧ (i : Int) :: pth X n e i = (List.range (m + 1)).map (fun j => (nd X j i : Int)) ∧ nd X m i + 1 = n ∧ ∀ j, j < m → nd X j i + 1 < n ∧ al (nd X j i) := by
  have last : ∀ e i, i + 1 = n → ∃ m, m ≤ e ∧ (i : Int) :: pth X n e i = (List.range (m + 1)).map (fun j => (nd X j i : Int)) ∧ nd X m i + 1 = n ∧ ∀ j, j < m → nd X j i + 1 < n ∧ al (nd X j i) := by
    intro e i hi
    have : pth X n e i = [] := by cases e with
      | zero => rfl
      | succ e => rw [pth, if_pos hi]
    refine ⟨0, by omega, by rw [this]; rfl, hi, fun j hj => by omega⟩
  intro e
  induction e with
  | zero => exact fun i h1 h2 h3 => last 0 i (by omega)
  | succ e ih =>
    intro i h1 h2 h3
    by_cases c : i + 1 = n
    · exact last _ i c
    · obtain ⟨x1, x2, x3⟩ := hX i (by omega) h3
      obtain ⟨m, m1, m2, m3, m4⟩ := ih (X i) (by omega) x2 x3
      refine ⟨m + 1, by omega, ?_, m3, fun j hj => ?_⟩
      · rw [pth, if_neg c, m2, List.range_succ_eq_map (n := m + 1), List.map_cons, List.map_map]
        rfl
      · cases j with
        | zero => exact ⟨by show i + 1 < n; omega, h3⟩
        | succ j => exact m4 j (by omega)
section
variable {l : List Int} {a b : Int} {C : Nat → Int} {X : Nat → Nat} (ha : 1 ≤ a) (hb : b ≤ 100000) (hn : l.length ≤ 30) (hn1 : 2 ≤ l.length) (h : Chp (mayB l a b) mx (lnI l) l.length C X)
include ha hb hn hn1 h
theorem even : ∀ (d i : Nat), i < l.length → l.length - 1 - i ≤ d → (C i = nv ∨ (0 ≤ C i ∧ C i ≤ 100000)) ∧ (i + 1 < l.length → Bst (mayB l a b) mx (lnI l) C i l.length (C i, X i)) := by
  intro d
  have last : ∀ i, i + 1 = l.length → C i = nv ∨ (0 ≤ C i ∧ C i ≤ 100000) := by
    intro i hi
    have c0 : C i = 0 := by
      have := h.1
      rwa [show l.length - 1 = i by omega] at this
    rw [c0]; exact .inr ⟨by omega, by omega⟩
  induction d with
  | zero => exact fun i h1 h2 => ⟨last i (by omega), fun z => by omega⟩
  | succ d ih =>
    intro i h1 h2
    by_cases e : i + 1 = l.length
    · exact ⟨last i e, fun z => by omega⟩
    · have hB : Bst (mayB l a b) mx (lnI l) C i l.length (C i, X i) := by
        rw [h.2 i (by omega)]
        refine bst_all (mayB l a b) mx (lnI l) (fun j h3 h4 h5 h6 => ?_) (l.length - 1 - i) (i + 1) (nv, 0) (by omega) (by omega) (.inl ⟨rfl, fun j h3 h4 => by omega⟩)
        have m := may_iff.1 h5
        rcases (ih j h4 (by omega)).1 with z | z
        · exact absurd z h6
        · rw [mx_eq]; unfold nv; omega
      refine ⟨?_, fun _ => hB⟩
      rcases hB with ⟨z1, z2⟩ | ⟨y1, y2, y3, y4, y5, y6, y7, y8⟩
      · exact .inl z1
      · dsimp only at y1 y2 y3 y4 y5
        have m := may_iff.1 y3
        rcases (ih (X i) y2.2 (by omega)).1 with z | z
        · exact absurd z y4
        · rw [mx_eq] at y5; omega
theorem even_next {i : Nat} (hi : i + 1 < l.length) (hc : C i ≠ nv) : i < X i ∧ X i < l.length ∧ C (X i) ≠ nv ∧ mayB l a b i (X i) = true ∧ C i = max (C (X i)) (lnI l i (X i)) ∧ ∀ j, i < j → j < l.length → mayB l a b i j = true → C j ≠ nv → C i ≤ max (C j) (lnI l i j) := by
  rcases (even ha hb hn hn1 h l.length i (by omega) (by omega)).2 hi with z | ⟨y1, y2, y3, y4, y5, y6, y7, y8⟩
  · exact absurd z.1 hc
  · dsimp only at y1 y2 y3 y4 y5 y7
    rw [mx_eq] at y5
    exact ⟨y2.1, y2.2, y4, y3, y5, fun j h1 h2 h3 h4 => by have := y7 j h1 h2 h3 h4; rwa [mx_eq] at this⟩
/-- There is a way within a bound exactly if the cost is. -/
theorem even_thr {t : Int} (ht : 0 ≤ t) (htb : t ≤ b) {N : Nat → Int} (hN : Onw (mayB l a t) l.length N) : ∀ (d i : Nat), i < l.length → l.length - 1 - i ≤ d → (0 < N i ↔ C i ≤ t) := by
  intro d
  have last : ∀ i, i + 1 = l.length → (0 < N i ↔ C i ≤ t) := by
    intro i hi
    have c0 := h.1
    have n0 := hN.1
    rw [show l.length - 1 = i by omega] at c0 n0
    rw [c0, n0]; omega
  induction d with
  | zero => exact fun i h1 h2 => last i (by omega)
  | succ d ih =>
    intro i h1 h2
    by_cases e : i + 1 = l.length
    · exact last i e
    · have pos : ∀ j, i + 1 ≤ j → j < i + 1 + (l.length - 1 - i) → 0 ≤ wy (mayB l a t) N i j := by
        intro j h3 h4
        have := onw_bd hN l.length j (by omega) (by omega)
        unfold wy
        split <;> omega
      rw [hN.2 i (by omega), sm_pos _ _ pos]
      constructor
      · rintro ⟨j, h3, h4, h5⟩
        unfold wy at h5
        split at h5
        · rename_i hM
          have m := may_iff.1 hM
          have cj := (ih j (by omega) (by omega)).1 h5
          have cn : C j ≠ nv := by unfold nv; omega
          have hM' : mayB l a b i j = true := may_iff.2 ⟨m.1, by omega⟩
          have ci : C i ≠ nv := fun z => by
            rcases (even ha hb hn hn1 h l.length i (by omega) (by omega)).2 (by omega) with y | y
            · exact cn (y.2 j (by omega) (by omega) hM')
            · exact y.1 z
          have := (even_next ha hb hn hn1 h (i := i) (by omega) ci).2.2.2.2.2 j (by omega) (by omega) hM' cn
          omega
        · omega
      · intro z
        have ci : C i ≠ nv := by unfold nv; omega
        obtain ⟨x1, x2, x3, x4, x5, _⟩ := even_next ha hb hn hn1 h (i := i) (by omega) ci
        have m := may_iff.1 x4
        have hM : mayB l a t i (X i) = true := may_iff.2 ⟨m.1, by omega⟩
        refine ⟨X i, by omega, by omega, ?_⟩
        unfold wy
        rw [if_pos hM]
        exact (ih (X i) x2 (by omega)).2 (by omega)
end
theorem lens_ev {l p : List Int} (hl : l.length ≤ 50) (hp : p.length ≤ 50) (hA : Asc l p) {f : Nat → Int} (hf : ∀ j : Nat, j + 1 < p.length → wrap64 (rd l (rd p ((j + 1 : Nat) : Int)) - rd l (rd p (j : Int))) = f j) : ∀ (d i : Nat) (out : List Int), i + 1 + d = p.length → out.length = i → (∀ j, j < i → rd out (j : Int) = f j) → Ev (fun k => pull_Lengths.l0 k l p out ((p.drop 1).length : Int) (i : Int)) ((List.range (p.length - 1)).map f, 0) := by
  have hd : ((p.drop 1).length : Int) = (p.length : Int) - 1 := by rw [List.length_drop]; have := hA.2.1; omega
  rw [hd]
  intro d
  induction d with
  | zero =>
    intro i out hi ho h1
    obtain rfl : out = (List.range (p.length - 1)).map f := rd_ext (by omega) (fun j hj => h1 j (by omega))
    refine ev_some _ fun k => ?_
    rw [pull_Lengths.l0, if_neg (by omega)]
  | succ d ih =>
    intro i out hi ho h1
    obtain ⟨b1, b2, b3⟩ := asc_at hl hp hA (i := i) (by omega)
    have sn := snoc_inv (f := f) (v := wrap64 (rd l (rd p ((i + 1 : Nat) : Int)) - rd l (rd p (i : Int)))) ho h1 (hf i (by omega))
    refine Ev.step (fun k => ?_) (ih (i + 1) _ (by omega) sn.1 sn.2)
    rw [pull_Lengths.l0, wsucc i (by omega), if_pos (by omega), if_pos (by omega), if_pos (by omega), if_pos (by omega), if_pos (by omega), if_pos (by omega), if_pos (by omega), if_pos (by omega), if_pos (by omega), if_pos (by omega)]
/-- The greatest of a path's lengths is its cost. -/
theorem max_ev {f c : Nat → Int} {m : Nat} (hm : m ≤ 50) (hm1 : 1 ≤ m) (hc : ∀ j, j < m → c j = max (c (j + 1)) (f j)) (hf : ∀ j, j < m → 0 ≤ f j) (h0 : c m = 0) : Ev (fun k => slices_Max_int_int.f k ((List.range m).map f)) (c 0) := by
  have loop : ∀ (d i : Nat) (acc : Int), i + d = m → 0 ≤ acc → max acc (c i) = c 0 → Ev (fun k => slices_Max_int_int.l0 k ((List.range m).map f) acc (i : Int)) (c 0) := by
    intro d
    induction d with
    | zero =>
      intro i acc hi h1 h2
      obtain rfl : i = m := by omega
      obtain rfl : acc = c 0 := by omega
      refine ev_some _ fun k => ?_
      rw [slices_Max_int_int.l0]
      simp only [List.length_map, List.length_range]
      rw [if_neg (by omega)]
    | succ d ih =>
      intro i acc hi h1 h2
      have e1 : rd ((List.range m).map f) (i : Int) = f i := rd_map f (by omega)
      have e2 := hc i (by omega)
      have e3 := hf i (by omega)
      refine Ev.step (fun k => ?_) (ih (i + 1) (mx acc (f i)) (by omega) (by rw [mx_eq]; omega) (by rw [mx_eq]; omega))
      rw [slices_Max_int_int.l0, e1, wsucc i (by omega)]
      simp only [List.length_map, List.length_range]
      rw [if_pos (by omega), if_pos (by omega)]
  have e0 : rd ((List.range m).map f) 0 = f 0 := rd_map f (i := 0) (by omega)
  have c0 := hc 0 (by omega)
  have f0 := hf 0 (by omega)
  refine Ev.congr (fun k => ?_) (loop (m - 1) 1 (f 0) (by omega) f0 (by have c0' : c 0 = max (c 1) (f 0) := c0; omega))
  unfold slices_Max_int_int.f
  simp only [List.length_map, List.length_range]
  rw [if_neg (by omega), if_pos (by omega), e0]
  rfl
/-- The first plan within a bound with which there is one. -/
theorem first_ev {l : List Int} {a t : Int} (hn : l.length ≤ 30) (hn1 : 2 ≤ l.length) (hv : Ev (fun k => dropperref04_Valid.f k l a t) true) {N : Nat → Int} (hN : Onw (mayB l a t) l.length N) (hp : 0 < N 0) :
    ∃ R : List Int, R.length ≤ 50 ∧ Ev (fun k => pull_layout_first.f k l a t) (R, a, t) ∧ Ev (fun k => dropperref04_Plan.f k l a t 0) (R, 0) := by
  obtain ⟨K3, s3⟩ := numbers_ev hN hn hn1
  obtain ⟨K4, s4⟩ := onward_ev hN hn hn1
  obtain ⟨K2, s2⟩ := hv
  have e0 : rd ((List.range l.length).map N) 0 = N 0 := rd_map N (i := 0) (by omega)
  have bn := onw_bd hN l.length 0 (by omega) (by omega)
  have ps := p2_small (a := l.length - 1 - 0) (by omega)
  have ew : wrap64 (N 0 - 1) = N 0 - 1 := w64 (by omega) (by omega)
  have c : (0 : Int) ≤ 0 ∧ (0 : Int) ≤ N 0 - 1 := by omega
  obtain ⟨R, fl, ⟨K5, f1⟩, ⟨K6, f2⟩⟩ := rank_loop hN hn hn1 l.length 0 0 [0] (by omega) (by omega) (by omega) hp (by simp)
  refine ⟨R, by omega, ⟨K3 + K5, fun k hk => ?_⟩, ⟨K2 + K4 + K6, fun k hk => ?_⟩⟩
  · have t5 : pull_layout_ranked.l0 k 0 ((List.range l.length).map N) [0] 0 l a t = some (R, true, a, t) := f1 k (by omega)
    have t3 := s3 k (by omega)
    dsimp only at t3 ⊢
    unfold pull_layout_first.f pull_layout_ranked.f
    rw [t3]
    simp only [Option.bind_some, List.length_map, List.length_range, e0, ew, within_some]
    rw [if_pos (by omega), decide_eq_true c]
    simp only [Option.bind_some, if_true]
    rw [t5]
    rfl
  · have t6 : dropperref04_Plan.l0 k l a t 0 ((List.range l.length).map N) [0] 0 = some (R, 0) := f2 k (by omega)
    have t2 : dropperref04_Valid.f k l a t = some true := s2 k (by omega)
    have t4 := s4 k (by omega)
    dsimp only at t4 ⊢
    unfold dropperref04_Plan.f
    rw [t2]
    simp only [Option.bind_some, if_true]
    rw [t4]
    simp only [Option.bind_some, List.length_map, List.length_range, e0, ew, from_some]
    rw [if_pos (by omega), decide_eq_true c]
    simp only [Option.bind_some, if_true]
    exact t6
section
variable {l : List Int} {a b : Int} {C : Nat → Int} {X : Nat → Nat} (ha : 1 ≤ a) (hb : b ≤ 100000) (hn : l.length ≤ 30) (hn1 : 2 ≤ l.length) (h : Chp (mayB l a b) mx (lnI l) l.length C X)
include ha hb hn hn1 h
/-- The least bound so far, of the pairs seen. -/
def Iv (l : List Int) (a b : Int) (C : Nat → Int) (V : Nat → Nat → Prop) (best : Int) : Prop := (best = -1 ∨ (0 ≤ best ∧ best ≤ 100000 ∧ C 0 ≤ best)) ∧ ∀ i k : Nat, V i k → i < k → k < l.length → mayB l a b i k = true → C 0 ≤ lnI l i k → 0 ≤ best ∧ best ≤ lnI l i k
theorem even_l1 {Rr : List Int × Int} {i : Nat} (hi : i < l.length) (cont : ∀ best, Iv l a b C (fun j _ => j < i + 1) best → Ev (fun k => dropperref04_Evenest.l0 k l a b best ((i + 1 : Nat) : Int)) Rr) : ∀ (d k : Nat) (best : Int), k + d = l.length → i < k → Iv l a b C (fun j q => j < i ∨ (j = i ∧ q < k)) best → Ev (fun s => dropperref04_Evenest.l1 s l a b best (i : Int) (k : Int)) Rr := by
  intro d
  induction d with
  | zero =>
    intro k best hk hik hI
    refine Ev.step (fun s => ?_) (cont best ⟨hI.1, fun j q h1 h2 h3 h4 h5 => hI.2 j q (by omega) h2 h3 h4 h5⟩)
    rw [dropperref04_Evenest.l1, if_neg (by omega), wsucc i (by omega)]
  | succ d ih =>
    intro k best hk hik hI
    have red : ∀ s, dropperref04_Evenest.l1 (s + 1) l a b best (i : Int) (k : Int) = (if mayB l a b i k = true then (if best < 0 then ((dropperref04_onward.f s l a (lnI l i k)).bind fun t109 => (if 0 < (t109.length : Int) then (if (rd t109 0) > 0 then (dropperref04_Evenest.l1 s l a b (lnI l i k) (i : Int) ((k + 1 : Nat) : Int)) else (dropperref04_Evenest.l1 s l a b best (i : Int) ((k + 1 : Nat) : Int))) else (none))) else (if lnI l i k < best then ((dropperref04_onward.f s l a (lnI l i k)).bind fun t113 => (if 0 < (t113.length : Int) then (if (rd t113 0) > 0 then (dropperref04_Evenest.l1 s l a b (lnI l i k) (i : Int) ((k + 1 : Nat) : Int)) else (dropperref04_Evenest.l1 s l a b best (i : Int) ((k + 1 : Nat) : Int))) else (none))) else (dropperref04_Evenest.l1 s l a b best (i : Int) ((k + 1 : Nat) : Int)))) else (dropperref04_Evenest.l1 s l a b best (i : Int) ((k + 1 : Nat) : Int))) := by
      intro s
      rw [dropperref04_Evenest.l1, if_pos (by omega), if_pos (by omega), if_pos (by omega), if_pos (by omega), from_some, wsucc k (by omega)]
      rfl
    have keep : (mayB l a b i k = true → C 0 ≤ lnI l i k → 0 ≤ best ∧ best ≤ lnI l i k) → Ev (fun s => dropperref04_Evenest.l1 s l a b best (i : Int) ((k + 1 : Nat) : Int)) Rr := fun hk' => ih (k + 1) best (by omega) (by omega) ⟨hI.1, fun j q h1 h2 h3 h4 h5 => by
      by_cases c : j = i ∧ q = k
      · obtain ⟨rfl, rfl⟩ := c; exact hk' h4 h5
      · exact hI.2 j q (by omega) h2 h3 h4 h5⟩
    cases hM : mayB l a b i k with
    | false =>
      refine Ev.step (fun s => ?_) (keep (fun z => by rw [hM] at z; cases z))
      rw [red s, hM, if_neg (by decide)]
    | true =>
      have m := may_iff.1 hM
      obtain ⟨N, hN⟩ := onw_ex (mayB l a (lnI l i k)) (n := l.length) (by omega)
      have th := even_thr ha hb hn hn1 h (t := lnI l i k) (by omega) m.2 hN l.length 0 (by omega) (by omega)
      have eo := onward_ev hN hn hn1
      have e0 : rd ((List.range l.length).map N) 0 = N 0 := rd_map N (i := 0) (by omega)
      have take : C 0 ≤ lnI l i k → (best < 0 ∨ lnI l i k < best) → Ev (fun s => dropperref04_Evenest.l1 s l a b (lnI l i k) (i : Int) ((k + 1 : Nat) : Int)) Rr := fun z z2 => ih (k + 1) (lnI l i k) (by omega) (by omega) ⟨.inr ⟨by omega, by omega, z⟩, fun j q h1 h2 h3 h4 h5 => by
        by_cases c : j = i ∧ q = k
        · obtain ⟨rfl, rfl⟩ := c; exact ⟨by omega, Int.le_refl _⟩
        · have := hI.2 j q (by omega) h2 h3 h4 h5
          omega⟩
      have pick : (best < 0 ∨ lnI l i k < best) → Ev (fun s => (dropperref04_onward.f s l a (lnI l i k)).bind fun t109 => (if 0 < (t109.length : Int) then (if (rd t109 0) > 0 then (dropperref04_Evenest.l1 s l a b (lnI l i k) (i : Int) ((k + 1 : Nat) : Int)) else (dropperref04_Evenest.l1 s l a b best (i : Int) ((k + 1 : Nat) : Int))) else (none))) Rr := by
        intro z2
        refine Ev.bind (g := fun s => dropperref04_onward.f s l a (lnI l i k)) (f := fun s t109 => (if 0 < (t109.length : Int) then (if (rd t109 0) > 0 then (dropperref04_Evenest.l1 s l a b (lnI l i k) (i : Int) ((k + 1 : Nat) : Int)) else (dropperref04_Evenest.l1 s l a b best (i : Int) ((k + 1 : Nat) : Int))) else (none))) eo ?_
        by_cases c : C 0 ≤ lnI l i k
        · refine Ev.congr (fun s => ?_) (take c z2)
          simp only [List.length_map, List.length_range]
          rw [if_pos (by omega), e0, if_pos (by have := th.2 c; omega)]
        · refine Ev.congr (fun s => ?_) (keep (fun _ z => absurd z c))
          simp only [List.length_map, List.length_range]
          rw [if_pos (by omega), e0, if_neg (fun z => c (th.1 (by omega)))]
      by_cases c1 : best < 0
      · refine Ev.step (fun s => ?_) (pick (.inl c1))
        rw [red s, hM, if_pos rfl, if_pos c1]
      · by_cases c2 : lnI l i k < best
        · refine Ev.step (fun s => ?_) (pick (.inr c2))
          rw [red s, hM, if_pos rfl, if_neg c1, if_pos c2]
        · refine Ev.step (fun s => ?_) (keep (fun _ _ => ⟨by omega, by omega⟩))
          rw [red s, hM, if_pos rfl, if_neg c1, if_neg c2]
theorem even_l0 {Rr : List Int × Int} (last : ∀ best, Iv l a b C (fun _ _ => True) best → Ev (fun k => if best < 0 then (some (([] : List Int), 5)) else ((dropperref04_Plan.f k l a best 0).bind fun bt102 => (some (bt102.1, bt102.2)))) Rr) : ∀ (d i : Nat) (best : Int), i + d = l.length → Iv l a b C (fun j _ => j < i) best → Ev (fun s => dropperref04_Evenest.l0 s l a b best (i : Int)) Rr := by
  intro d
  induction d with
  | zero =>
    intro i best hi hI
    refine Ev.step (fun s => ?_) (last best ⟨hI.1, fun j q _ h2 h3 h4 h5 => hI.2 j q (by omega) h2 h3 h4 h5⟩)
    rw [dropperref04_Evenest.l0, if_neg (by omega)]
  | succ d ih =>
    intro i best hi hI
    have e := even_l1 ha hb hn hn1 h (i := i) (by omega) (fun best' h' => ih (i + 1) best' (by omega) h') (l.length - (i + 1)) (i + 1) best (by omega) (by omega) ⟨hI.1, fun j q h1 h2 h3 h4 h5 => hI.2 j q (by omega) h2 h3 h4 h5⟩
    refine Ev.step (fun s => ?_) e
    rw [dropperref04_Evenest.l0, if_pos (by omega), wsucc i (by omega)]
theorem even_ref {R : List Int} (hP : C 0 ≠ nv → Ev (fun k => dropperref04_Plan.f k l a (C 0) 0) (R, 0)) (hE : C 0 ≠ nv → ∃ i k, i < k ∧ k < l.length ∧ mayB l a b i k = true ∧ lnI l i k = C 0) : Ev (fun k => dropperref04_Evenest.l0 k l a b (-1) 0) (if C 0 = nv then ([], 5) else (R, 0)) := by
  refine even_l0 ha hb hn hn1 h (fun best hI => ?_) l.length 0 (-1) (by omega) ⟨.inl rfl, fun j q h1 => by omega⟩
  by_cases c : C 0 = nv
  · rw [if_pos c]
    have b1 : best = -1 := by
      rcases hI.1 with z | z
      · exact z
      · rw [c] at z; unfold nv at z; omega
    subst b1
    exact Ev.congr (fun k => by rw [if_pos (by decide)]) (Ev.now _)
  · rw [if_neg c]
    obtain ⟨i, k, h1, h2, h3, h4⟩ := hE c
    have z := hI.2 i k trivial h1 h2 h3 (by omega)
    have b1 : best = C 0 := by
      rcases hI.1 with y | y <;> omega
    subst b1
    refine Ev.congr (fun k => ?_) (Ev.bind (f := fun _ bt102 => some (bt102.1, bt102.2)) (hP c) (Ev.now _))
    rw [if_neg (by omega)]
/-- The path that is found, its places, and its greatest length. -/
theorem even_path (hc : C 0 ≠ nv) (hm : Ev (fun k => pull_areMasts.f k l) true) : Asc l ((0 : Int) :: pth X l.length l.length 0) ∧ (∃ D : List Int, Ev (fun k => pull_Lengths.f k l ((0 : Int) :: pth X l.length l.length 0)) (D, 0) ∧ Ev (fun k => slices_Max_int_int.f k D) (C 0)) ∧ (∃ i k, i < k ∧ k < l.length ∧ mayB l a b i k = true ∧ lnI l i k = C 0) := by
  have nx := fun i hi hc => even_next ha hb hn hn1 h (i := i) hi hc
  obtain ⟨m, m1, m2, m3, m4⟩ := pth_nd (X := X) (n := l.length) (al := fun i => C i ≠ nv) (fun i hi hc => ⟨(nx i hi hc).1, (nx i hi hc).2.1, (nx i hi hc).2.2.1⟩) l.length 0 (by omega) (by omega) hc
  have m2' : (0 : Int) :: pth X l.length l.length 0 = (List.range (m + 1)).map (fun j => (nd X j 0 : Int)) := m2
  rw [m2']
  have mp : 1 ≤ m := by
    cases m with
    | zero => have : nd X 0 0 = 0 := rfl; omega
    | succ m => omega
  have rdn : ∀ j : Nat, j < m + 1 → rd ((List.range (m + 1)).map (fun j => (nd X j 0 : Int))) (j : Int) = (nd X j 0 : Int) := fun j hj => rd_map (fun j => (nd X j 0 : Int)) hj
  have st : ∀ j, j < m → nd X j 0 < nd X (j + 1) 0 ∧ nd X (j + 1) 0 < l.length ∧ mayB l a b (nd X j 0) (nd X (j + 1) 0) = true ∧ C (nd X j 0) = max (C (nd X (j + 1) 0)) (lnI l (nd X j 0) (nd X (j + 1) 0)) := by
    intro j hj
    obtain ⟨a1, a2⟩ := m4 j hj
    obtain ⟨x1, x2, x3, x4, x5, _⟩ := nx _ a1 a2
    rw [nd_succ]
    exact ⟨x1, x2, x4, x5⟩
  generalize hp : (List.range (m + 1)).map (fun j => (nd X j 0 : Int)) = p at *
  have pl : p.length = m + 1 := by rw [← hp]; simp
  have hA : Asc l p := by
    refine ⟨fun j h1 h2 => ?_, by omega, ?_, ?_⟩
    · obtain ⟨q, rfl⟩ : ∃ q, j = q + 1 := ⟨j - 1, by omega⟩
      rw [Nat.add_sub_cancel, rdn q (by omega), rdn (q + 1) (by omega)]
      have := (st q (by omega)).1
      omega
    · have := rdn 0 (by omega); exact this
    · rw [show p.length - 1 = m by omega, rdn m (by omega)]; omega
  have e0 : C (nd X 0 0) = C 0 := rfl
  have em : C (nd X m 0) = 0 := by
    have := h.1
    rwa [show l.length - 1 = nd X m 0 by omega] at this
  refine ⟨hA, ⟨(List.range (p.length - 1)).map (fun j => lnI l (nd X j 0) (nd X (j + 1) 0)), ?_, ?_⟩, ?_⟩
  · obtain ⟨bb, ⟨K1, s1⟩, hbb⟩ := asc_p (l := l) (p := p) (by omega) (by omega) _ 1 rfl (Nat.le_refl _)
    have b1 : bb = true := hbb.2 hA
    subst b1
    obtain ⟨K2, s2⟩ := hm
    obtain ⟨K3, s3⟩ := lens_ev (l := l) (p := p) (f := fun j => lnI l (nd X j 0) (nd X (j + 1) 0)) (by omega) (by omega) hA (fun j hj => by rw [rdn j (by omega), rdn (j + 1) (by omega)]; rfl) (p.length - 1) 0 [] (by omega) rfl (fun j hj => by omega)
    refine ⟨K1 + K2 + K3, fun k hk => ?_⟩
    have t1 : pull_ascends.f k l p = some true := s1 k (by omega)
    have t2 := s2 k (by omega)
    have t3 := s3 k (by omega)
    dsimp only at t2 t3 ⊢
    unfold pull_Lengths.f
    rw [t2]
    simp only [Option.bind_some, if_true]
    rw [t1]
    simp only [Option.bind_some, if_true]
    rw [if_pos (by omega)]
    exact t3
  · rw [show p.length - 1 = m by omega]
    exact max_ev (c := fun j => C (nd X j 0)) (by omega) mp (fun j hj => (st j hj).2.2.2) (fun j hj => by have := may_iff.1 (st j hj).2.2.1; omega) em
  · have key : ∀ d j, j + d = m → j < m → ∃ q, j ≤ q ∧ q < m ∧ C (nd X j 0) = lnI l (nd X q 0) (nd X (q + 1) 0) := by
      intro d
      induction d with
      | zero => intro j h1 h2; omega
      | succ d ih =>
        intro j h1 h2
        have s := st j h2
        have ms := may_iff.1 s.2.2.1
        by_cases c : C (nd X (j + 1) 0) ≤ lnI l (nd X j 0) (nd X (j + 1) 0)
        · exact ⟨j, Nat.le_refl _, h2, by rw [s.2.2.2]; omega⟩
        · by_cases c2 : j + 1 < m
          · obtain ⟨q, q1, q2, q3⟩ := ih (j + 1) (by omega) c2
            exact ⟨q, by omega, q2, by rw [s.2.2.2, ← q3]; omega⟩
          · rw [show j + 1 = m by omega, em] at c
            rw [show j + 1 = m by omega] at ms
            omega
    obtain ⟨q, _, q2, q3⟩ := key m 0 (by omega) (by omega)
    exact ⟨nd X q 0, nd X (q + 1) 0, (st q q2).1, (st q q2).2.1, (st q q2).2.2.1, q3.symm⟩
end
theorem evenest_ev (l : List Int) (hl : l.length ≤ 50) (a b : Int) : ∃ R : List Int × Int, R.1.length ≤ 50 ∧ Ev (fun k => pull_Evenest.f k l a b) R ∧ Ev (fun k => dropperref04_Evenest.f k l a b) R := by
  obtain ⟨m, em, hv, hm⟩ := valid_more l hl
  obtain ⟨e1, e2⟩ := hv a b
  obtain ⟨v, ev⟩ : ∃ v, v = (m && (decide (1 ≤ a ∧ a ≤ b) && decide (b ≤ 100000))) := ⟨_, rfl⟩
  rw [← ev] at e1 e2
  obtain ⟨K1, s1⟩ := open_ev e1
  obtain ⟨K2, s2⟩ := e2
  cases v with
  | false =>
    refine ⟨([], 40), by simp, ⟨K1, fun k hk => ?_⟩, ⟨K2, fun k hk => ?_⟩⟩
    · have t : pull_open.f k l a b = some ([], 0, 0, 40) := s1 k hk
      dsimp only; unfold pull_Evenest.f; rw [t]; rfl
    · have t : dropperref04_Valid.f k l a b = some false := s2 k hk
      dsimp only; unfold dropperref04_Evenest.f; rw [t]; rfl
  | true =>
    have ev' := ev.symm
    rw [Bool.and_eq_true, Bool.and_eq_true, decide_eq_true_eq, decide_eq_true_eq] at ev'
    obtain ⟨hm1, hab, hb⟩ := ev'
    subst hm1
    obtain ⟨h2, h30⟩ := hm rfl
    obtain ⟨C, X, h⟩ := chp_ex (mayB l a b) mx (lnI l) (n := l.length) (by omega)
    obtain ⟨K3, s3⟩ := cheapest_ev (fn := pull_Evenest_1.f) (g := mx) (fun c d => rfl) h h30 h2 (fun i hi hc => by
      obtain ⟨z1, z2, z3, _⟩ := even_next hab.1 hb h30 h2 h hi hc
      exact ⟨z1, z2, z3⟩)
    by_cases c : C 0 = nv
    · obtain ⟨K4, s4⟩ := even_ref (R := []) hab.1 hb h30 h2 h (fun z => absurd c z) (fun z => absurd c z)
      rw [if_pos c] at s4
      refine ⟨([], 5), by simp, ⟨K1 + K3, fun k hk => ?_⟩, ⟨K2 + K4, fun k hk => ?_⟩⟩
      · have t : pull_open.f k l a b = some (l, a, b, 0) := s1 k (by omega)
        have t3 := s3 k (by omega)
        dsimp only at t3 ⊢
        unfold chR at t3
        rw [if_pos c] at t3
        unfold pull_Evenest.f
        rw [t]
        simp only [Option.bind_some, if_true]
        rw [t3]
        rfl
      · have t : dropperref04_Valid.f k l a b = some true := s2 k (by omega)
        have t4 := s4 k (by omega)
        dsimp only at t4 ⊢
        unfold dropperref04_Evenest.f
        rw [t]
        exact t4
    · obtain ⟨hA, ⟨D, ⟨K5, s5⟩, ⟨K6, s6⟩⟩, hE⟩ := even_path hab.1 hb h30 h2 h c em
      obtain ⟨i, k0, g1, g2, g3, g4⟩ := hE
      have mg := may_iff.1 g3
      have hv2 : Ev (fun k => dropperref04_Valid.f k l a (C 0)) true := by
        have := (hv a (C 0)).2
        rwa [decide_eq_true (show 1 ≤ a ∧ a ≤ C 0 by omega), decide_eq_true (show C 0 ≤ 100000 by omega)] at this
      obtain ⟨N, hN⟩ := onw_ex (mayB l a (C 0)) (n := l.length) (by omega)
      have hp : 0 < N 0 := (even_thr hab.1 hb h30 h2 h (t := C 0) (by omega) (by omega) hN l.length 0 (by omega) (by omega)).2 (Int.le_refl _)
      obtain ⟨R, hR, ⟨K7, s7⟩, hP⟩ := first_ev h30 h2 hv2 hN hp
      obtain ⟨K4, s4⟩ := even_ref hab.1 hb h30 h2 h (fun _ => hP) (fun _ => ⟨i, k0, g1, g2, g3, g4⟩)
      rw [if_neg c] at s4
      refine ⟨(R, 0), hR, ⟨K1 + K3 + K5 + K6 + K7, fun k hk => ?_⟩, ⟨K2 + K4, fun k hk => ?_⟩⟩
      · have t : pull_open.f k l a b = some (l, a, b, 0) := s1 k (by omega)
        have t3 := s3 k (by omega)
        have t5 := s5 k (by omega)
        have t6 := s6 k (by omega)
        have t7 := s7 k (by omega)
        dsimp only at t3 t5 t6 t7 ⊢
        unfold chR at t3
        rw [if_neg c] at t3
        unfold pull_Evenest.f
        rw [t]
        simp only [Option.bind_some, if_true]
        rw [t3]
        simp only [Option.bind_some, if_true]
        rw [t5]
        simp only [Option.bind_some]
        rw [t6]
        simp only [Option.bind_some]
        rw [t7]
        rfl
      · have t : dropperref04_Valid.f k l a b = some true := s2 k (by omega)
        have t4 := s4 k (by omega)
        dsimp only at t4 ⊢
        unfold dropperref04_Evenest.f
        rw [t]
        exact t4
theorem PullBests_pure (l : List Int) (a b : Int) (hx : ∀ x ∈ l, (Lit.int .i64 x).wf = true) (w0 : (Lit.int .i64 a).wf = true) (w1 : (Lit.int .i64 b).wf = true) : ∃ k, dropperlaw04_PullBests.f k l a b = some true := by
  obtain ⟨K0, s0⟩ := awake_num
  by_cases c : (l.length : Int) > 50
  · refine ⟨K0, ?_⟩
    have a0 := s0 K0 (Nat.le_refl _)
    dsimp only at a0
    unfold dropperlaw04_PullBests.f dropperlaw04_long.f
    rw [if_pos c]
    simp [a0]
  · have hl : l.length ≤ 50 := by omega
    obtain ⟨R, S, hR, hS, ⟨K1, s1⟩, ⟨K2, s2⟩, ⟨K3, s3⟩, ⟨K4, s4⟩⟩ := best_ev l hl a b
    obtain ⟨U, hU, ⟨K5, s5⟩, ⟨K6, s6⟩⟩ := evenest_ev l hl a b
    obtain ⟨K7, s7⟩ := same_ev (x := R.1) (by omega)
    obtain ⟨K8, s8⟩ := same_ev (x := S.1) (by omega)
    obtain ⟨K9, s9⟩ := same_ev (x := U.1) (by omega)
    generalize hk : K0 + K1 + K2 + K3 + K4 + K5 + K6 + K7 + K8 + K9 = K
    have a0 := s0 K (by omega)
    have a1 := s1 (K + 2) (by omega)
    have a2 := s2 (K + 2) (by omega)
    have a3 := s3 (K + 1) (by omega)
    have a4 := s4 (K + 1) (by omega)
    have a5 := s5 K (by omega)
    have a6 := s6 K (by omega)
    have a7 := s7 (K + 2) (by omega)
    have a8 := s8 (K + 1) (by omega)
    have a9 := s9 K (by omega)
    dsimp only at a0 a1 a2 a3 a4 a5 a6 a7 a8 a9
    refine ⟨K + 2, ?_⟩
    unfold dropperlaw04_PullBests.f dropperlaw04_long.f
    rw [if_neg c, a1, a2]
    have dn : decide ((([] : List Int).length : Int) > 50) = false := by decide
    rw [dn]
    simp only [Option.bind_some, Bool.false_eq_true, if_false, if_true]
    rw [a7]
    simp only [Option.bind_some, Bool.not_true]
    rw [dropperlaw04_PullBests.j0, if_neg (by decide), a3, a4]
    simp only [Option.bind_some, if_true]
    rw [a8]
    simp only [Option.bind_some, Bool.not_true]
    rw [dropperlaw04_PullBests.j1, if_neg (by decide), a5, a6]
    simp [a0, a9]
end Go.Proofs.Ytiebfmenkpodeaa.G
