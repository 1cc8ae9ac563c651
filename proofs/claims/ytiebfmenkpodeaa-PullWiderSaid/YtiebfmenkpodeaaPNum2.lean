/- The counts of plans: the program's rows and the document's are the same. Plain Lean. -/
import Derived.Test.YtiebfmenkpodeaaPNum
namespace Go.Proofs.Ytiebfmenkpodeaa.G
set_option linter.unusedVariables false
set_option linter.unusedSimpArgs false
set_option linter.unusedSectionVars false
open Go.RowKit Go.Proofs.YtiebfmenkpodeaaW.PrintWords Go.Proofs.YtiebfmenkpodeaaW.PrintLast
/-- A row of the counts from m on. -/
def FromM (n : Nat) (N : Nat → Int) (m : Nat) (x : List Int) : Prop := x.length = n ∧ ∀ j, j < n → rd x (j : Int) = if m ≤ j then N j else 0
/-- A row of the counts behind i, the one at i under way. -/
def FromI (n : Nat) (N : Nat → Int) (i : Nat) (v : Int) (x : List Int) : Prop := x.length = n ∧ rd x (i : Int) = v ∧ ∀ j, j < n → j ≠ i → rd x (j : Int) = if i < j then N j else 0
theorem FromI.of {n : Nat} {N : Nat → Int} {i : Nat} {x : List Int} (h : FromM n N (i + 1) x) (hi : i < n) : FromI n N i 0 x := by
  refine ⟨h.1, by rw [h.2 i hi, if_neg (by omega)], fun j h1 h2 => ?_⟩
  rw [h.2 j h1]
  by_cases c : i < j
  · rw [if_pos (by omega), if_pos c]
  · rw [if_neg (by omega), if_neg c]
theorem FromI.to {n : Nat} {N : Nat → Int} {i : Nat} {x : List Int} (h : FromI n N i (N i) x) : FromM n N i x := by
  refine ⟨h.1, fun j h1 => ?_⟩
  by_cases e : j = i
  · subst e; rw [h.2.1, if_pos (Nat.le_refl _)]
  · rw [h.2.2 j h1 e]
    by_cases c : i < j
    · rw [if_pos c, if_pos (by omega)]
    · rw [if_neg c, if_neg (by omega)]
theorem FromI.set {n : Nat} {N : Nat → Int} {i : Nat} {v u : Int} {x : List Int} (h : FromI n N i v x) (hi : i < n) : FromI n N i u (x.set i u) := by
  have hx := h.1
  refine ⟨by simp [hx], ?_, fun j h1 h2 => ?_⟩
  · rw [rd_set x u (by omega) (by omega), if_pos rfl]
  · rw [rd_set x u (by omega) (by omega), if_neg h2, h.2.2 j h1 h2]
theorem add_ok {n : Nat} {M : Nat → Nat → Bool} {N : Nat → Int} (h : Onw M n N) (hn : n ≤ 30) {i k d : Nat} {v : Int} {x : List Int} (hk : k + (d + 1) = n) (hik : i < k) (hx : FromI n N i v x) (hv : 0 ≤ v) (hs : v + sm (wy M N i) k (d + 1) = N i) (hM : M i k = true) :
    wrap64 (rd x (i : Int) + rd x (k : Int)) = v + N k ∧ v + N k + sm (wy M N i) (k + 1) d = N i ∧ 0 ≤ v + N k := by
  have e : wy M N i k = N k := by unfold wy; rw [if_pos hM]
  rw [sm, e] at hs
  have bi := onw_bd h n i (by omega) (by omega)
  have bk := onw_bd h n k (by omega) (by omega)
  have ps := p2_small (a := n - 1 - i) (by omega)
  have sn : 0 ≤ sm (wy M N i) (k + 1) d := sm_nonneg _ _ fun j h3 h4 => by
    have := onw_bd h n j (by omega) (by omega)
    unfold wy
    split <;> omega
  rw [hx.2.1, hx.2.2 k (by omega) (by omega), if_pos hik]
  refine ⟨w64 (by omega) (by omega), by omega, by omega⟩
theorem skip_ok {M : Nat → Nat → Bool} {N : Nat → Int} {i k d : Nat} {v c : Int} (hs : v + sm (wy M N i) k (d + 1) = c) (hM : M i k = false) : v + sm (wy M N i) (k + 1) d = c := by
  have e : wy M N i k = 0 := by unfold wy; rw [hM]; rfl
  rw [sm, e] at hs
  omega
section
variable {l : List Int} {a b : Int} {N : Nat → Int} (h : Onw (mayB l a b) l.length N) (hn : l.length ≤ 30)
include h hn
theorem on_inner_p {i : Nat} {R : List Int × Int × Int} (cont : ∀ x', FromM l.length N i x' → Ev (fun k => pull_layout_numbers.l0 k x' ((i : Int) - 1) l a b) R) : ∀ (d k : Nat) (v : Int) (x : List Int), k + d = l.length → i < k → FromI l.length N i v x → 0 ≤ v → v + sm (wy (mayB l a b) N i) k d = N i →
    Ev (fun q => pull_layout_numbers.l1 q x (i : Int) (k : Int) l a b) R := by
  intro d
  induction d with
  | zero =>
    intro k v x hk hik hx hv hs
    rw [sm, Int.add_zero] at hs
    subst hs
    refine Ev.step (fun q => ?_) (cont x hx.to)
    rw [pull_layout_numbers.l1]
    unfold pull_layout_last.f
    rw [w64 (n := (l.length : Int) - 1) (by omega) (by omega), w64 (n := (i : Int) - 1) (by omega) (by omega)]
    simp only [Option.bind_some]
    rw [if_neg (by omega)]
  | succ d ih =>
    intro k v x hk hik hx hv hs
    have el := length_some (l := l) (a := a) (b := b) (i := i) (k := k) (by omega) (by omega)
    have hx1 := hx.1
    cases hM : mayB l a b i k with
    | true =>
      obtain ⟨e1, e2, e3⟩ := add_ok h hn hk hik hx hv hs hM
      refine Ev.step (fun q => ?_) (ih (k + 1) (v + N k) _ (by omega) (by omega) (hx.set (u := v + N k) (by omega)) e3 e2)
      rw [pull_layout_numbers.l1]
      unfold pull_layout_last.f
      rw [w64 (n := (l.length : Int) - 1) (by omega) (by omega), wsucc k (by omega)]
      simp only [Option.bind_some, el, hM, if_true]
      rw [if_pos (by omega), if_pos (by omega), if_pos (by omega), if_pos (by omega), if_pos (by omega), e1, Int.toNat_natCast]
    | false =>
      refine Ev.step (fun q => ?_) (ih (k + 1) v x (by omega) (by omega) hx hv (skip_ok hs hM))
      rw [pull_layout_numbers.l1]
      unfold pull_layout_last.f
      rw [w64 (n := (l.length : Int) - 1) (by omega) (by omega), wsucc k (by omega)]
      simp only [Option.bind_some, el, hM, Bool.false_eq_true, if_false]
      rw [if_pos (by omega)]
theorem on_inner_r {i : Nat} {R : List Int} (cont : ∀ x', FromM l.length N i x' → Ev (fun k => dropperref04_onward.l0 k l a b x' ((i : Int) - 1)) R) : ∀ (d k : Nat) (v : Int) (x : List Int), k + d = l.length → i < k → FromI l.length N i v x → 0 ≤ v → v + sm (wy (mayB l a b) N i) k d = N i →
    Ev (fun q => dropperref04_onward.l1 q l a b x (i : Int) (k : Int)) R := by
  intro d
  induction d with
  | zero =>
    intro k v x hk hik hx hv hs
    rw [sm, Int.add_zero] at hs
    subst hs
    refine Ev.step (fun q => ?_) (cont x hx.to)
    rw [dropperref04_onward.l1, w64 (n := (i : Int) - 1) (by omega) (by omega), if_neg (by omega)]
  | succ d ih =>
    intro k v x hk hik hx hv hs
    have el := may_some (l := l) (a := a) (b := b) (i := i) (k := k) (by omega) (by omega)
    have hx1 := hx.1
    cases hM : mayB l a b i k with
    | true =>
      obtain ⟨e1, e2, e3⟩ := add_ok h hn hk hik hx hv hs hM
      refine Ev.step (fun q => ?_) (ih (k + 1) (v + N k) _ (by omega) (by omega) (hx.set (u := v + N k) (by omega)) e3 e2)
      rw [dropperref04_onward.l1, wsucc k (by omega)]
      simp only [Option.bind_some, el, hM, if_true]
      rw [if_pos (by omega), if_pos (by omega), if_pos (by omega), if_pos (by omega), if_pos (by omega), e1, Int.toNat_natCast]
    | false =>
      refine Ev.step (fun q => ?_) (ih (k + 1) v x (by omega) (by omega) hx hv (skip_ok hs hM))
      rw [dropperref04_onward.l1, wsucc k (by omega)]
      simp only [Option.bind_some, el, hM, Bool.false_eq_true, if_false]
      rw [if_pos (by omega)]
theorem on_sum {m : Nat} (hm : m + 2 ≤ l.length) : (0 : Int) + sm (wy (mayB l a b) N m) (m + 1) (l.length - 1 - m) = N m := by
  rw [h.2 m (by omega)]; omega
theorem on_outer (hn1 : 1 ≤ l.length) : ∀ (m : Nat) (x : List Int), m + 1 ≤ l.length → FromM l.length N m x → Ev (fun k => pull_layout_numbers.l0 k x ((m : Int) - 1) l a b) ((List.range l.length).map N, a, b) ∧ Ev (fun k => dropperref04_onward.l0 k l a b x ((m : Int) - 1)) ((List.range l.length).map N) := by
  intro m
  induction m with
  | zero =>
    intro x hm hx
    obtain rfl : x = (List.range l.length).map N := rd_ext hx.1 fun i hi => by rw [hx.2 i hi, if_pos (by omega)]
    constructor
    · refine ev_some _ fun k => ?_
      rw [pull_layout_numbers.l0, if_neg (by omega)]
    · refine ev_some _ fun k => ?_
      rw [dropperref04_onward.l0, if_neg (by omega)]
  | succ m ih =>
    intro x hm hx
    have s0 := on_sum h hn (m := m) (by omega)
    have q1 := on_inner_p h hn (i := m) (fun x' h' => (ih x' (by omega) h').1) (l.length - 1 - m) (m + 1) 0 x (by omega) (by omega) (FromI.of hx (by omega)) (by omega) s0
    have q2 := on_inner_r h hn (i := m) (fun x' h' => (ih x' (by omega) h').2) (l.length - 1 - m) (m + 1) 0 x (by omega) (by omega) (FromI.of hx (by omega)) (by omega) s0
    have em : ((m + 1 : Nat) : Int) - 1 = (m : Int) := by omega
    rw [em]
    constructor
    · refine Ev.step (fun k => ?_) q1
      rw [pull_layout_numbers.l0, if_pos (by omega), wsucc m (by omega)]
    · refine Ev.step (fun k => ?_) q2
      rw [dropperref04_onward.l0, if_pos (by omega), wsucc m (by omega)]
theorem on_first (hn1 : 2 ≤ l.length) : FromM l.length N (l.length - 1) ((List.replicate l.length (0 : Int)).set (l.length - 1) 1) := by
  refine ⟨by simp, fun j hj => ?_⟩
  rw [rd_set _ _ (by simp; omega) (by simp; omega), rd_rep]
  by_cases e : j = l.length - 1
  · subst e; rw [if_pos rfl, if_pos (Nat.le_refl _), h.1]
  · rw [if_neg e, if_neg (by omega)]
theorem numbers_ev (hn1 : 2 ≤ l.length) : Ev (fun k => pull_layout_numbers.f k l a b) ((List.range l.length).map N, a, b) := by
  refine Ev.congr (fun k => ?_) (on_outer h hn (by omega) (l.length - 1) _ (by omega) (on_first h hn hn1)).1
  unfold pull_layout_numbers.f pull_layout_last.f
  rw [if_pos (by omega), if_pos (by omega)]
  simp only [Option.bind_some, Int.toNat_natCast, List.length_replicate]
  rw [w64 (n := (l.length : Int) - 1) (by omega) (by omega), w64 (n := (l.length : Int) - 1 - 1) (by omega) (by omega), if_pos (by omega), if_pos (by omega), show ((l.length : Int) - 1).toNat = l.length - 1 by omega, show (((l.length - 1 : Nat) : Int) - 1) = (l.length : Int) - 1 - 1 by omega]
theorem onward_ev (hn1 : 2 ≤ l.length) : Ev (fun k => dropperref04_onward.f k l a b) ((List.range l.length).map N) := by
  refine Ev.congr (fun k => ?_) (on_outer h hn (by omega) (l.length - 1) _ (by omega) (on_first h hn hn1)).2
  unfold dropperref04_onward.f
  rw [if_pos (by omega), if_pos (by omega)]
  simp only [Option.bind_some, Int.toNat_natCast, List.length_replicate]
  rw [w64 (n := (l.length : Int) - 1) (by omega) (by omega), w64 (n := (l.length : Int) - 2) (by omega) (by omega), if_pos (by omega), if_pos (by omega), show ((l.length : Int) - 1).toNat = l.length - 1 by omega, show (((l.length - 1 : Nat) : Int) - 1) = (l.length : Int) - 2 by omega]
/-- A plan by its rank: the same steps. -/
theorem rank_loop (hn1 : 2 ≤ l.length) : ∀ (e i : Nat) (r : Int) (out : List Int), l.length - 1 - i ≤ e → i < l.length → 0 ≤ r → r < N i → out.length ≤ i + 1 →
    ∃ R : List Int, R.length ≤ l.length ∧ Ev (fun k => pull_layout_ranked.l0 k r ((List.range l.length).map N) out (i : Int) l a b) (R, true, a, b) ∧ Ev (fun k => dropperref04_Plan.l0 k l a b r ((List.range l.length).map N) out (i : Int)) (R, 0) := by
  have last : ∀ (i : Nat) (r : Int) (out : List Int), i + 1 = l.length → out.length ≤ i + 1 → ∃ R : List Int, R.length ≤ l.length ∧ Ev (fun k => pull_layout_ranked.l0 k r ((List.range l.length).map N) out (i : Int) l a b) (R, true, a, b) ∧ Ev (fun k => dropperref04_Plan.l0 k l a b r ((List.range l.length).map N) out (i : Int)) (R, 0) := by
    intro i r out hi ho
    refine ⟨out, by omega, ev_some _ fun k => ?_, ev_some _ fun k => ?_⟩
    · rw [pull_layout_ranked.l0]
      unfold pull_layout_last.f
      rw [w64 (n := (l.length : Int) - 1) (by omega) (by omega)]
      simp only [Option.bind_some]
      rw [if_pos (by omega)]
    · rw [dropperref04_Plan.l0, w64 (n := (l.length : Int) - 1) (by omega) (by omega), if_neg (by omega)]
  intro e
  induction e with
  | zero => exact fun i r out h1 h2 _ _ ho => last i r out (by omega) ho
  | succ e ih =>
    intro i r out h1 h2 hr0 hr1 ho
    by_cases c : i + 1 = l.length
    · exact last i r out c ho
    · have inner : ∀ (d k : Nat) (r : Int), k + d = l.length → i < k → 0 ≤ r → r < sm (wy (mayB l a b) N i) k d →
          ∃ R : List Int, R.length ≤ l.length ∧ Ev (fun q => pull_layout_ranked.l1 q r ((List.range l.length).map N) out (i : Int) (k : Int) l a b) (R, true, a, b) ∧ Ev (fun q => dropperref04_Plan.l1 q l a b r ((List.range l.length).map N) out (i : Int) (k : Int)) (R, 0) := by
        intro d
        induction d with
        | zero => intro k r hk hik h3 h4; rw [sm] at h4; omega
        | succ d ihd =>
          intro k r hk hik h3 h4
          have ep := length_some (l := l) (a := a) (b := b) (i := i) (k := k) (by omega) (by omega)
          have er := may_some (l := l) (a := a) (b := b) (i := i) (k := k) (by omega) (by omega)
          have ek : rd ((List.range l.length).map N) (k : Int) = N k := rd_map N (by omega)
          rw [sm] at h4
          cases hM : mayB l a b i k with
          | true =>
            have e0 : wy (mayB l a b) N i k = N k := by unfold wy; rw [if_pos hM]
            rw [e0] at h4
            by_cases c2 : r < N k
            · obtain ⟨R, fl, f1, f2⟩ := ih k r (out ++ [(k : Int)]) (by omega) (by omega) h3 c2 (by simp; omega)
              refine ⟨R, fl, Ev.step (fun q => ?_) f1, Ev.step (fun q => ?_) f2⟩
              · rw [pull_layout_ranked.l1, ep, hM]
                simp only [Option.bind_some, if_true, List.length_map, List.length_range]
                rw [ek, if_pos (by omega), if_pos (by omega), if_pos c2, if_pos (by omega)]
              · rw [dropperref04_Plan.l1, er, hM]
                simp only [Option.bind_some, if_true, List.length_map, List.length_range]
                rw [ek, if_pos (by omega), if_pos (by omega), if_pos (by omega), if_pos c2, if_pos (by omega)]
            · have bk := onw_bd h l.length k (by omega) (by omega)
              have bi := onw_bd h l.length i (by omega) (by omega)
              have ps := p2_small (a := l.length - 1 - k) (by omega)
              have big : r ≤ 2 ^ 62 := by
                have sb := sm_bd l.length (g := wy (mayB l a b) N i) d (k + 1) (by omega) (fun j h5 h6 => by
                  have := onw_bd h l.length j (by omega) (by omega)
                  have := p2_pos (l.length - 1 - j)
                  unfold wy
                  split <;> omega)
                have := p2_small (a := d) (by omega)
                omega
              obtain ⟨R, fl, f1, f2⟩ := ihd (k + 1) (r - N k) (by omega) (by omega) (by omega) (by omega)
              refine ⟨R, fl, Ev.step (fun q => ?_) f1, Ev.step (fun q => ?_) f2⟩
              · rw [pull_layout_ranked.l1, ep, hM]
                simp only [Option.bind_some, if_true, List.length_map, List.length_range]
                rw [ek, if_pos (by omega), if_pos (by omega), if_neg c2, wsucc k (by omega), w64 (n := r - N k) (by omega) (by omega)]
              · rw [dropperref04_Plan.l1, er, hM]
                simp only [Option.bind_some, if_true, List.length_map, List.length_range]
                rw [ek, if_pos (by omega), if_pos (by omega), if_pos (by omega), if_neg c2, wsucc k (by omega), w64 (n := r - N k) (by omega) (by omega)]
          | false =>
            have e0 : wy (mayB l a b) N i k = 0 := by unfold wy; rw [hM]; rfl
            rw [e0] at h4
            obtain ⟨R, fl, f1, f2⟩ := ihd (k + 1) r (by omega) (by omega) h3 (by omega)
            refine ⟨R, fl, Ev.step (fun q => ?_) f1, Ev.step (fun q => ?_) f2⟩
            · rw [pull_layout_ranked.l1, ep, hM]
              simp only [Option.bind_some, Bool.false_eq_true, if_false]
              rw [wsucc k (by omega)]
            · rw [dropperref04_Plan.l1, er, hM]
              simp only [Option.bind_some, Bool.false_eq_true, if_false]
              rw [if_pos (by omega), wsucc k (by omega)]
      obtain ⟨R, fl, f1, f2⟩ := inner (l.length - 1 - i) (i + 1) r (by omega) (by omega) hr0 (by rw [← h.2 i (by omega)]; exact hr1)
      refine ⟨R, fl, Ev.step (fun q => ?_) f1, Ev.step (fun q => ?_) f2⟩
      · rw [pull_layout_ranked.l0]
        unfold pull_layout_last.f
        rw [w64 (n := (l.length : Int) - 1) (by omega) (by omega), wsucc i (by omega)]
        simp only [Option.bind_some]
        rw [if_neg (by omega)]
      · rw [dropperref04_Plan.l0, w64 (n := (l.length : Int) - 1) (by omega) (by omega), wsucc i (by omega), if_pos (by omega)]
end
end Go.Proofs.Ytiebfmenkpodeaa.G
