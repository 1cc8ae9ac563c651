/- The cheapest plan, as the program finds it. Plain Lean. -/
import Derived.Test.YtiebfmenkpodeaaPBestA
import Derived.Test.YtiebfmenkpodeaaGF67
namespace Go.Proofs.Ytiebfmenkpodeaa.G
set_option linter.unusedVariables false
set_option linter.unusedSimpArgs false
set_option linter.unusedSectionVars false
open Go.RowKit Go.Proofs.YtiebfmenkpodeaaW.PrintWords Go.Proofs.YtiebfmenkpodeaaW.PrintLast
/-- No way leads on. -/
def nv : Int := 1099511627776
section
variable (M : Nat → Nat → Bool) (g : Int → Int → Int) (ln : Nat → Nat → Int)
/-- The cheapest of the next places from k on, d of them. -/
def bs (C : Nat → Int) (i : Nat) : Nat → Nat → Int × Nat → Int × Nat
  | _, 0, s => s
  | k, d + 1, s => bs C i (k + 1) d (if M i k = true ∧ C k ≠ nv ∧ g (C k) (ln i k) < s.1 then (g (C k) (ln i k), k) else s)
theorem bs_congr {C D : Nat → Int} {i : Nat} : ∀ (d k : Nat) (s : Int × Nat), (∀ j, k ≤ j → j < k + d → C j = D j) → bs M g ln C i k d s = bs M g ln D i k d s
  | 0, k, s, _ => rfl
  | d + 1, k, s, h => by
    rw [bs, bs, h k (by omega) (by omega)]
    exact bs_congr d (k + 1) _ (fun j h1 h2 => h j (by omega) (by omega))
/-- The costs and the next places. -/
def Chp (n : Nat) (C : Nat → Int) (X : Nat → Nat) : Prop := C (n - 1) = 0 ∧ ∀ i, i + 1 < n → (C i, X i) = bs M g ln C i (i + 1) (n - 1 - i) (nv, 0)
theorem chp_ex {n : Nat} (hn : 1 ≤ n) : ∃ C X, Chp M g ln n C X := by
  have key : ∀ d, d + 1 ≤ n → ∃ (C : Nat → Int) (X : Nat → Nat), C (n - 1) = 0 ∧ ∀ i, n - 1 - d ≤ i → i + 1 < n → (C i, X i) = bs M g ln C i (i + 1) (n - 1 - i) (nv, 0) := by
    intro d
    induction d with
    | zero => exact fun _ => ⟨fun _ => 0, fun _ => 0, rfl, fun i h1 h2 => by omega⟩
    | succ d ih =>
      intro hd
      obtain ⟨C, X, h0, h1⟩ := ih (by omega)
      obtain ⟨m, hm⟩ : ∃ m, m = n - 1 - (d + 1) := ⟨_, rfl⟩
      obtain ⟨z, hz⟩ : ∃ z, z = bs M g ln C m (m + 1) (n - 1 - m) (nv, 0) := ⟨_, rfl⟩
      refine ⟨fun j => if j = m then z.1 else C j, fun j => if j = m then z.2 else X j, ?_, fun i h2 h3 => ?_⟩
      · dsimp only; rw [if_neg (by omega), h0]
      · have cg : bs M g ln C i (i + 1) (n - 1 - i) (nv, 0) = bs M g ln (fun j => if j = m then z.1 else C j) i (i + 1) (n - 1 - i) (nv, 0) := by
          refine bs_congr M g ln _ _ _ fun j h4 h5 => ?_
          rw [if_neg (show ¬ j = m by omega)]
        rw [← cg]
        dsimp only
        by_cases e : i = m
        · subst e; rw [if_pos rfl, if_pos rfl, ← hz]
        · rw [if_neg e, if_neg e, h1 i (by omega) h3]
  obtain ⟨C, X, h0, h1⟩ := key (n - 1) (by omega)
  exact ⟨C, X, h0, fun i hi => h1 i (by omega) hi⟩
/-- What is found among the places below k. -/
def Bst (C : Nat → Int) (i k : Nat) (s : Int × Nat) : Prop :=
  (s.1 = nv ∧ ∀ j, i < j → j < k → M i j = true → C j = nv) ∨
  (s.1 ≠ nv ∧ (i < s.2 ∧ s.2 < k) ∧ M i s.2 = true ∧ C s.2 ≠ nv ∧ s.1 = g (C s.2) (ln i s.2) ∧ s.1 < nv ∧ (∀ j, i < j → j < k → M i j = true → C j ≠ nv → s.1 ≤ g (C j) (ln i j)) ∧ ∀ j, i < j → j < s.2 → M i j = true → C j ≠ nv → s.1 < g (C j) (ln i j))
theorem bst_all {C : Nat → Int} {i n : Nat} (hlt : ∀ j, i < j → j < n → M i j = true → C j ≠ nv → g (C j) (ln i j) < nv) : ∀ (d k : Nat) (s : Int × Nat), k + d = n → i < k → Bst M g ln C i k s → Bst M g ln C i n (bs M g ln C i k d s)
  | 0, k, s, hk, _, h => by
    obtain rfl : k = n := by omega
    exact h
  | d + 1, k, s, hk, hik, h => by
    rw [bs]
    refine bst_all hlt d (k + 1) _ (by omega) (by omega) ?_
    by_cases c : M i k = true ∧ C k ≠ nv ∧ g (C k) (ln i k) < s.1
    · rw [if_pos c]
      have h3 := hlt k hik (by omega) c.1 c.2.1
      refine .inr ⟨by dsimp only; omega, ⟨hik, Nat.lt_succ_self _⟩, c.1, c.2.1, rfl, h3, fun j h4 h5 h6 h7 => ?_, fun j h4 h5 h6 h7 => ?_⟩
      · dsimp only
        by_cases e : j = k
        · subst e; exact Int.le_refl _
        · rcases h with ⟨z1, z2⟩ | ⟨_, _, _, _, _, _, z, _⟩
          · exact absurd (z2 j h4 (by omega) h6) h7
          · have := z j h4 (by omega) h6 h7; omega
      · dsimp only at h5 ⊢
        rcases h with ⟨z1, z2⟩ | ⟨_, _, _, _, _, _, z, _⟩
        · exact absurd (z2 j h4 (by omega) h6) h7
        · have := z j h4 (by omega) h6 h7; omega
    · rw [if_neg c]
      rcases h with ⟨z1, z2⟩ | ⟨y1, y2, y3, y4, y5, y6, y7, y8⟩
      · refine .inl ⟨z1, fun j h4 h5 h6 => ?_⟩
        by_cases e : j = k
        · subst e
          by_cases q : C j = nv
          · exact q
          · exact absurd ⟨h6, q, by rw [z1]; exact hlt j hik (by omega) h6 q⟩ c
        · exact z2 j h4 (by omega) h6
      · refine .inr ⟨y1, ⟨y2.1, by omega⟩, y3, y4, y5, y6, fun j h4 h5 h6 h7 => ?_, y8⟩
        by_cases e : j = k
        · subst e
          by_cases q : g (C j) (ln i j) < s.1
          · exact absurd ⟨h6, h7, q⟩ c
          · omega
        · exact y7 j h4 (by omega) h6 h7
end
/-- The length from i to k. -/
def lnI (l : List Int) (i k : Nat) : Int := wrap64 (rd l (k : Int) - rd l (i : Int))
/-- The rows of costs and next places from m on. -/
def CM (n : Nat) (C : Nat → Int) (X : Nat → Nat) (m : Nat) (x y : List Int) : Prop := x.length = n ∧ y.length = n ∧ (∀ j, m ≤ j → j < n → rd x (j : Int) = C j) ∧ (∀ j, m ≤ j → j + 1 < n → rd y (j : Int) = (X j : Int)) ∧ ∀ j, j < m → j < n → rd y (j : Int) = 0
/-- The same, those at i under way. -/
def CI (n : Nat) (C : Nat → Int) (X : Nat → Nat) (i : Nat) (s : Int × Nat) (x y : List Int) : Prop := x.length = n ∧ y.length = n ∧ rd x (i : Int) = s.1 ∧ rd y (i : Int) = (s.2 : Int) ∧ (∀ j, i < j → j < n → rd x (j : Int) = C j) ∧ (∀ j, i < j → j + 1 < n → rd y (j : Int) = (X j : Int)) ∧ ∀ j, j < i → j < n → rd y (j : Int) = 0
section
variable {l : List Int} {a b : Int} {g : Int → Int → Int} {fn : Int → Int → Option Int} (hfn : ∀ c d, fn c d = some (g c d)) {C : Nat → Int} {X : Nat → Nat} (h : Chp (mayB l a b) g (lnI l) l.length C X) (hn : l.length ≤ 30)
include hfn h hn
theorem ch_l1 {i : Nat} (hi : i + 1 < l.length) {R : List Int × Int × Int × Int} (cont : ∀ x y, CM l.length C X i x y → Ev (fun s => pull_layout_cheapest.l0 s fn x y ((i : Int) - 1) l a b) R) :
    ∀ (d k : Nat) (s : Int × Nat) (x y : List Int), k + d = l.length → i < k → CI l.length C X i s x y → bs (mayB l a b) g (lnI l) C i k d s = (C i, X i) → Ev (fun q => pull_layout_cheapest.l1 q fn x y (i : Int) (k : Int) l a b) R := by
  intro d
  induction d with
  | zero =>
    intro k s x y hk hik hx hs
    rw [bs] at hs
    subst hs
    refine Ev.step (fun q => ?_) (cont x y ⟨hx.1, hx.2.1, fun j h1 h2 => ?_, fun j h1 h2 => ?_, fun j h1 h2 => hx.2.2.2.2.2.2 j h1 h2⟩)
    · rw [pull_layout_cheapest.l1]
      unfold pull_layout_last.f
      rw [w64 (n := (l.length : Int) - 1) (by omega) (by omega), w64 (n := (i : Int) - 1) (by omega) (by omega)]
      simp only [Option.bind_some]
      rw [if_neg (by omega)]
    · by_cases e : j = i
      · subst e; exact hx.2.2.1
      · exact hx.2.2.2.2.1 j (by omega) h2
    · by_cases e : j = i
      · subst e; exact hx.2.2.2.1
      · exact hx.2.2.2.2.2.1 j (by omega) h2
  | succ d ih =>
    intro k s x y hk hik hx hs
    have hx1 := hx.1
    have hy1 := hx.2.1
    have el := length_some (l := l) (a := a) (b := b) (i := i) (k := k) (by omega) (by omega)
    have ek := hx.2.2.2.2.1 k hik (by omega)
    have ei := hx.2.2.1
    rw [bs] at hs
    have first : ∀ q, pull_layout_cheapest.l1 (q + 1) fn x y (i : Int) (k : Int) l a b = (if mayB l a b i k = true then pull_layout_cheapest.j2 q fn x y (i : Int) (k : Int) (lnI l i k) (C k == 1099511627776) l a b else pull_layout_cheapest.j2 q fn x y (i : Int) (k : Int) (lnI l i k) true l a b) := by
      intro q
      rw [pull_layout_cheapest.l1]
      unfold pull_layout_last.f
      rw [w64 (n := (l.length : Int) - 1) (by omega) (by omega)]
      simp only [Option.bind_some, el]
      rw [if_pos (by omega), if_pos (show (0 : Int) ≤ (k : Int) by omega), if_pos (show (k : Int) < (x.length : Int) by omega), ek]
      rfl
    by_cases c0 : mayB l a b i k = true ∧ C k ≠ nv
    · have bq : (C k == 1099511627776) = false := by rw [beq_eq_false_iff_ne]; exact c0.2
      by_cases c1 : g (C k) (lnI l i k) < s.1
      · rw [if_pos ⟨c0.1, c0.2, c1⟩] at hs
        have e := ih (k + 1) (g (C k) (lnI l i k), k) (x.set i (g (C k) (lnI l i k))) (y.set i (k : Int)) (by omega) (by omega) ⟨by simp [hx1], by simp [hy1], by rw [rd_set _ _ (by omega) (by omega), if_pos rfl], by rw [rd_set _ _ (by omega) (by omega), if_pos rfl], fun j h1 h2 => by rw [rd_set _ _ (by omega) (by omega), if_neg (by omega)]; exact hx.2.2.2.2.1 j h1 h2, fun j h1 h2 => by rw [rd_set _ _ (by omega) (by omega), if_neg (by omega)]; exact hx.2.2.2.2.2.1 j h1 h2, fun j h1 h2 => by rw [rd_set _ _ (by omega) (by omega), if_neg (by omega)]; exact hx.2.2.2.2.2.2 j h1 h2⟩ hs
        refine Ev.step (f := fun q => pull_layout_cheapest.j2 q fn x y (i : Int) (k : Int) (lnI l i k) false l a b) (fun q => ?_) (Ev.step (fun q => ?_) e)
        · rw [first q, if_pos c0.1, bq]
        · rw [pull_layout_cheapest.j2, if_neg (by decide), if_pos (by omega), if_pos (by omega), ek, hfn]
          simp only [Option.bind_some]
          rw [if_pos (by omega), if_pos (by omega), ei, if_pos c1, if_pos (by omega), Int.toNat_natCast, wsucc k (by omega)]
      · rw [if_neg (fun z => c1 z.2.2)] at hs
        have e := ih (k + 1) s x y (by omega) (by omega) hx hs
        refine Ev.step (f := fun q => pull_layout_cheapest.j2 q fn x y (i : Int) (k : Int) (lnI l i k) false l a b) (fun q => ?_) (Ev.step (fun q => ?_) e)
        · rw [first q, if_pos c0.1, bq]
        · rw [pull_layout_cheapest.j2, if_neg (by decide), if_pos (by omega), if_pos (by omega), ek, hfn]
          simp only [Option.bind_some]
          rw [if_pos (by omega), if_pos (by omega), ei, if_neg c1, wsucc k (by omega)]
    · rw [if_neg (fun z => c0 ⟨z.1, z.2.1⟩)] at hs
      have e := ih (k + 1) s x y (by omega) (by omega) hx hs
      refine Ev.step (f := fun q => pull_layout_cheapest.j2 q fn x y (i : Int) (k : Int) (lnI l i k) true l a b) (fun q => ?_) (Ev.step (fun q => ?_) e)
      · rw [first q]
        by_cases c2 : mayB l a b i k = true
        · have bq : (C k == 1099511627776) = true := by
            rw [beq_iff_eq]
            by_cases c3 : C k = nv
            · exact c3
            · exact absurd ⟨c2, c3⟩ c0
          rw [if_pos c2, bq]
        · rw [if_neg c2]
      · rw [pull_layout_cheapest.j2, if_pos rfl, wsucc k (by omega)]
theorem ch_l2 {y : List Int} (hy : y.length = l.length) (hy2 : ∀ j, j + 1 < l.length → rd y (j : Int) = (X j : Int)) (hX : ∀ i, i + 1 < l.length → C i ≠ nv → i < X i ∧ X i < l.length ∧ C (X i) ≠ nv) :
    ∀ (e i : Nat) (out : List Int), l.length - 1 - i ≤ e → i < l.length → C i ≠ nv → out.length ≤ i + 1 → Ev (fun s => pull_layout_cheapest.l2 s y out (i : Int) l a b) (out ++ pth X l.length e i, 0, a, b) := by
  have last : ∀ (e i : Nat) (out : List Int), i + 1 = l.length → Ev (fun s => pull_layout_cheapest.l2 s y out (i : Int) l a b) (out ++ pth X l.length e i, 0, a, b) := by
    intro e i out hi
    have : pth X l.length e i = [] := by cases e with
      | zero => rfl
      | succ e => rw [pth, if_pos hi]
    rw [this, List.append_nil]
    refine ev_some _ fun s => ?_
    rw [pull_layout_cheapest.l2]
    unfold pull_layout_last.f
    rw [w64 (n := (l.length : Int) - 1) (by omega) (by omega)]
    simp only [Option.bind_some]
    rw [if_pos (by omega)]
  intro e
  induction e with
  | zero => exact fun i out he hi _ _ => last 0 i out (by omega)
  | succ e ih =>
    intro i out he hi hc ho
    by_cases c : i + 1 = l.length
    · exact last _ i out c
    · obtain ⟨x1, x2, x3⟩ := hX i (by omega) hc
      have en := ih (X i) (out ++ [(X i : Int)]) (by omega) x2 x3 (by simp; omega)
      rw [List.append_assoc] at en
      rw [pth, if_neg c]
      refine Ev.step (fun s => ?_) en
      rw [pull_layout_cheapest.l2]
      unfold pull_layout_last.f
      rw [w64 (n := (l.length : Int) - 1) (by omega) (by omega)]
      simp only [Option.bind_some]
      rw [if_neg (by omega), if_pos (by omega), if_pos (by omega), if_pos (by omega), hy2 i (by omega)]
/-- What cheapest tells. -/
def chR (l : List Int) (a b : Int) (C : Nat → Int) (X : Nat → Nat) : List Int × Int × Int × Int := if C 0 = nv then ([], 5, a, b) else ((0 : Int) :: pth X l.length l.length 0, 0, a, b)
theorem ch_l0 (hn1 : 2 ≤ l.length) (hX : ∀ i, i + 1 < l.length → C i ≠ nv → i < X i ∧ X i < l.length ∧ C (X i) ≠ nv) : ∀ (m : Nat) (x y : List Int), m + 1 ≤ l.length → CM l.length C X m x y → Ev (fun s => pull_layout_cheapest.l0 s fn x y ((m : Int) - 1) l a b) (chR l a b C X) := by
  intro m
  induction m with
  | zero =>
    intro x y hm hx
    have hx1 := hx.1
    have e0 : rd x 0 = C 0 := hx.2.2.1 0 (Nat.le_refl _) (by omega)
    unfold chR
    by_cases c : C 0 = nv
    · rw [if_pos c]
      refine ev_some _ fun s => ?_
      rw [pull_layout_cheapest.l0, if_neg (by omega), if_pos (by omega), e0, if_pos (show C 0 = 1099511627776 from c)]
    · rw [if_neg c]
      have e := ch_l2 hfn h hn (y := y) hx.2.1 (fun j hj => hx.2.2.2.1 j (by omega) hj) hX l.length 0 [0] (by omega) (by omega) c (by simp)
      refine Ev.step (fun s => ?_) e
      rw [pull_layout_cheapest.l0, if_neg (by omega), if_pos (by omega), e0, if_neg (show ¬ C 0 = 1099511627776 from c)]
      rfl
  | succ m ih =>
    intro x y hm hx
    have hx1 := hx.1
    have hy1 := hx.2.1
    have em : ((m + 1 : Nat) : Int) - 1 = (m : Int) := by omega
    rw [em]
    have q := ch_l1 hfn h hn (i := m) (by omega) (fun x' y' h' => ih x' y' (by omega) h') (l.length - 1 - m) (m + 1) (nv, 0) (x.set m nv) y (by omega) (by omega) ⟨by simp [hx1], hy1, by rw [rd_set _ _ (by omega) (by omega), if_pos rfl], hx.2.2.2.2 m (by omega) (by omega), fun j h1 h2 => by rw [rd_set _ _ (by omega) (by omega), if_neg (by omega)]; exact hx.2.2.1 j (by omega) h2, fun j h1 h2 => hx.2.2.2.1 j (by omega) h2, fun j h1 h2 => hx.2.2.2.2 j (by omega) h2⟩ (h.2 m (by omega)).symm
    refine Ev.step (fun s => ?_) q
    rw [pull_layout_cheapest.l0, if_pos (by omega), if_pos (by omega), if_pos (by omega), wsucc m (by omega), Int.toNat_natCast]
    rfl
theorem cheapest_ev (hn1 : 2 ≤ l.length) (hX : ∀ i, i + 1 < l.length → C i ≠ nv → i < X i ∧ X i < l.length ∧ C (X i) ≠ nv) : Ev (fun s => pull_layout_cheapest.f s l a b fn) (chR l a b C X) := by
  have e := ch_l0 hfn h hn hn1 hX (l.length - 1) (List.replicate l.length 0) (List.replicate l.length 0) (by omega) ⟨by simp, by simp, fun j h1 h2 => by
    obtain rfl : j = l.length - 1 := by omega
    rw [rd_rep, h.1], fun j h1 h2 => by omega, fun j h1 h2 => rd_rep _ _⟩
  refine Ev.congr (fun s => ?_) e
  unfold pull_layout_cheapest.f pull_layout_last.f
  rw [if_pos (by omega), if_pos (by omega)]
  simp only [Option.bind_some, Int.toNat_natCast]
  rw [w64 (n := (l.length : Int) - 1) (by omega) (by omega), w64 (n := (l.length : Int) - 1 - 1) (by omega) (by omega), show (((l.length - 1 : Nat) : Int) - 1) = (l.length : Int) - 1 - 1 by omega]
end
end Go.Proofs.Ytiebfmenkpodeaa.G
