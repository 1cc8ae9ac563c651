/- How long a section waits in a rota that is done again and again, and which lists are rotas: both programs tell the same. Plain Lean. -/
import Derived.Test.YthbpibdfookbmaaPBase
import Derived.Test.YthbpibdfookbmaaGF27
import Derived.Test.YthbpibdfookbmaaGF28
namespace Go.Proofs.Ythbpibdfookbmaa.G
set_option linter.unusedVariables false
set_option linter.unusedSimpArgs false
open Go.RowKit Go.Proofs.YthbpibdfookbmaaW.PrintWords Go.Proofs.YthbpibdfookbmaaW.PrintLast
/-- What is done in a night, the list again and again. -/
def nt (l : List Int) (i : Nat) : Int := rd l ((i % l.length : Nat) : Int)
/-- The next time of s behind night i is m nights on. -/
def isGap (l : List Int) (s : Int) (i m : Nat) : Prop := 1 ≤ m ∧ nt l (i + m) = s ∧ ∀ j, 1 ≤ j → j < m → nt l (i + j) ≠ s
theorem isGap_unique {l : List Int} {s : Int} {i m m' : Nat} (h : isGap l s i m) (h' : isGap l s i m') : m = m' := by
  rcases Nat.lt_trichotomy m m' with q | q | q
  · exact absurd h.2.1 (h'.2.2 m h.1 q)
  · exact q
  · exact absurd h'.2.1 (h.2.2 m' h'.1 q)
/-- v is the longest wait of s. -/
def maxGap (l : List Int) (s : Int) (v : Nat) : Prop := (∀ a, a < l.length → nt l a = s → ∃ m, isGap l s a m ∧ m ≤ v) ∧ ∃ a, a < l.length ∧ nt l a = s ∧ isGap l s a v
theorem maxGap_unique {l : List Int} {s : Int} {v v' : Nat} (h : maxGap l s v) (h' : maxGap l s v') : v = v' := by
  obtain ⟨h1, a, a1, a2, a3⟩ := h
  obtain ⟨h1', b, b1, b2, b3⟩ := h'
  obtain ⟨m, m1, m2⟩ := h1' a a1 a2
  obtain ⟨n, n1, n2⟩ := h1 b b1 b2
  have e1 := isGap_unique a3 m1
  have e2 := isGap_unique b3 n1
  omega
open Classical in
/-- The longest wait of s; 0: it never comes. -/
noncomputable def wv (l : List Int) (s : Int) : Nat := if h : ∃ v, maxGap l s v then Classical.choose h else 0
theorem wv_eq {l : List Int} {s : Int} {v : Nat} (h : maxGap l s v) : wv l s = v := by
  have hh : ∃ v, maxGap l s v := ⟨v, h⟩
  unfold wv
  rw [dif_pos hh]
  exact maxGap_unique (Classical.choose_spec hh) h
theorem wv_none {l : List Int} {s : Int} (h : ∀ a, a < l.length → nt l a ≠ s) : wv l s = 0 := by
  unfold wv
  rw [dif_neg]
  rintro ⟨v, _, a, a1, a2, _⟩
  exact h a a1 a2
theorem nt_lt {l : List Int} {i : Nat} (h : i < l.length) : nt l i = rd l (i : Int) := by unfold nt; rw [Nat.mod_eq_of_lt h]
theorem nt_add {l : List Int} (i : Nat) : nt l (i + l.length) = nt l i := by unfold nt; rw [Nat.add_mod_right]
theorem gap_le {l : List Int} {s : Int} {i m : Nat} (hn : 0 < l.length) (hi : nt l i = s) (h : isGap l s i m) : m ≤ l.length := by
  rcases Nat.lt_or_ge l.length m with q | q
  · exact absurd ((nt_add i).trans hi) (h.2.2 _ hn q)
  · exact q
/-- A wait so long was met, or none. -/
def some8 (l : List Int) (s : Int) (p v : Nat) : Prop := v = 0 ∨ ∃ a, a < p ∧ nt l a = s ∧ isGap l s a v
/-- What is known ahead of night i: the first and the last time, the longest wait between. -/
def winv (l : List Int) (s : Int) (i : Nat) (f p : Int) (v : Nat) : Prop := (f < 0 ∧ v = 0 ∧ ∀ a, a < i → nt l a ≠ s) ∨ ∃ f' p' : Nat, f = f' ∧ p = p' ∧ f' ≤ p' ∧ p' < i ∧ nt l f' = s ∧ nt l p' = s ∧ (∀ a, a < f' → nt l a ≠ s) ∧ (∀ a, p' < a → a < i → nt l a ≠ s) ∧ (∀ a, a < p' → nt l a = s → ∃ m, isGap l s a m ∧ m ≤ v) ∧ some8 l s p' v
def rinv (l : List Int) (s : Int) (i v : Nat) : Prop := (v = 0 ∧ ∀ a, a < i → nt l a ≠ s) ∨ ∃ a, a < i ∧ nt l a = s ∧ isGap l s a v
theorem waits_loop {l : List Int} {s : Int} (hn : 1 ≤ l.length) (hl : l.length ≤ 1000000) : ∀ (d i : Nat) (f p : Int) (v : Nat), l.length - i = d → i ≤ l.length → v ≤ l.length →
    winv l s i f p v →
    Ev (fun k => ice_waits.l0 k l s f p v l l.length i) (wv l s) := by
  intro d
  induction d with
  | zero =>
    intro i f p v hd hi hv h
    obtain rfl : i = l.length := by omega
    rcases h with ⟨h1, rfl, h2⟩ | ⟨f', p', rfl, rfl, h1, h2, h3, h4, h5, h6, h7, h8⟩
    · rw [wv_none h2]
      refine ev_some _ fun k => ?_
      rw [ice_waits.l0, if_neg (by omega), if_pos h1]
      rfl
    · have g : isGap l s p' (f' + l.length - p') := by
        refine ⟨by omega, ?_, fun j hj1 hj2 => ?_⟩
        · rw [show p' + (f' + l.length - p') = f' + l.length by omega, nt_add]; exact h3
        · by_cases q : p' + j < l.length
          · exact h6 _ (by omega) q
          · rw [show p' + j = (p' + j - l.length) + l.length by omega, nt_add]
            exact h5 _ (by omega)
      have m : maxGap l s (max v (f' + l.length - p')) := by
        refine ⟨fun a a1 a2 => ?_, ?_⟩
        · rcases Nat.lt_trichotomy a p' with q | q | q
          · obtain ⟨m, m1, m2⟩ := h7 a q a2
            exact ⟨m, m1, by omega⟩
          · subst q
            exact ⟨_, g, by omega⟩
          · exact absurd a2 (h6 a q a1)
        · by_cases q : v ≤ f' + l.length - p'
          · rw [Nat.max_eq_right q]
            exact ⟨p', h2, h4, g⟩
          · rw [Nat.max_eq_left (by omega)]
            rcases h8 with rfl | ⟨a, a1, a2, a3⟩
            · omega
            · exact ⟨a, by omega, a2, a3⟩
      rw [wv_eq m]
      refine ev_some _ fun k => ?_
      rw [ice_waits.l0, if_neg (by omega), if_neg (by omega), w64 (n := (f' : Int) + l.length) (by omega) (by omega), w64 (by omega) (by omega), mx_eq]
      congr 1
      omega
  | succ d ih =>
    intro i f p v hd hi hv h
    have hil : i < l.length := by omega
    have en := nt_lt hil
    by_cases c : rd l (i : Int) = s
    · rcases h with ⟨h1, rfl, h2⟩ | ⟨f', p', rfl, rfl, h1, h2, h3, h4, h5, h6, h7, h8⟩
      · refine Ev.step (fun k => ?_) (ih (i + 1) i i 0 (by omega) (by omega) (by omega) (.inr ⟨i, i, rfl, rfl, by omega, by omega, by rw [en]; exact c, by rw [en]; exact c, h2, fun a a1 a2 => by omega, fun a a1 a2 => absurd a2 (h2 a a1), .inl rfl⟩))
        rw [ice_waits.l0, if_pos (by omega), if_pos (by omega), if_pos (by omega), if_pos c, if_pos h1, wsucc i (by omega)]
      · have g : isGap l s p' (i - p') := by
          refine ⟨by omega, ?_, fun j hj1 hj2 => h6 _ (by omega) (by omega)⟩
          rw [show p' + (i - p') = i by omega, en]; exact c
        have e : mx (v : Int) (wrap64 ((i : Int) - (p' : Int))) = ((max v (i - p') : Nat) : Int) := by
          rw [w64 (by omega) (by omega), mx_eq]; omega
        refine Ev.step (fun k => ?_) (ih (i + 1) f' i (max v (i - p')) (by omega) (by omega) (by omega) (.inr ⟨f', i, rfl, rfl, by omega, by omega, h3, by rw [en]; exact c, h5, fun a a1 a2 => by omega, fun a a1 a2 => ?_, ?_⟩))
        · rw [ice_waits.l0, if_pos (by omega), if_pos (by omega), if_pos (by omega), if_pos c, if_neg (by omega), e, wsucc i (by omega)]
        · rcases Nat.lt_trichotomy a p' with q | q | q
          · obtain ⟨m, m1, m2⟩ := h7 a q a2
            exact ⟨m, m1, by omega⟩
          · subst q
            exact ⟨_, g, by omega⟩
          · exact absurd a2 (h6 a q (by omega))
        · by_cases q : v ≤ i - p'
          · rw [Nat.max_eq_right q]
            exact .inr ⟨p', by omega, h4, g⟩
          · rw [Nat.max_eq_left (by omega)]
            rcases h8 with rfl | ⟨a, a1, a2, a3⟩
            · omega
            · exact .inr ⟨a, by omega, a2, a3⟩
    · have h' : winv l s (i + 1) f p v := by
        rcases h with ⟨h1, h0, h2⟩ | ⟨f', p', e1, e2, h1, h2, h3, h4, h5, h6, h7, h8⟩
        · refine .inl ⟨h1, h0, fun a ha => ?_⟩
          by_cases q : a = i
          · rw [q, en]; exact c
          · exact h2 a (by omega)
        · refine .inr ⟨f', p', e1, e2, h1, by omega, h3, h4, h5, fun a a1 a2 => ?_, h7, h8⟩
          by_cases q : a = i
          · rw [q, en]; exact c
          · exact h6 a a1 (by omega)
      refine Ev.step (fun k => ?_) (ih (i + 1) f p v (by omega) (by omega) hv h')
      rw [ice_waits.l0, if_pos (by omega), if_pos (by omega), if_pos (by omega), if_neg c, wsucc i (by omega)]
theorem waits_ev {l : List Int} (s : Int) (hn : 1 ≤ l.length) (hl : l.length ≤ 1000000) : Ev (fun k => ice_waits.f k l s) (wv l s) := waits_loop hn hl l.length 0 (-1) (-1) 0 (by omega) (by omega) (by omega) (.inl ⟨by omega, rfl, by omega⟩)
theorem refgap {l : List Int} {w x : List Int} {s : Nat} {i : Nat} (hn : 1 ≤ l.length) (hl : l.length ≤ 1000000) (hi : i < l.length) (hs : nt l i = (s : Int)) {v : Nat} {r : List Int} (e : ∀ m, isGap l s i m → m ≤ l.length → Ev (fun k => dropperref08_waits.l1 k w l x s ((max v m : Nat) : Int) ((i + 1 : Nat) : Int)) r) : ∀ (d m : Nat), l.length + 1 - m = d → 1 ≤ m → m ≤ l.length → (∀ j, 1 ≤ j → j < m → nt l (i + j) ≠ (s : Int)) →
    Ev (fun k => dropperref08_waits.l2 k w l x s v i m) r := by
  intro d
  induction d with
  | zero => intro m _ _ _ _; omega
  | succ d ih =>
    intro m hd h1 h2 h3
    have ei : Int.tmod (wrap64 ((i : Int) + (m : Int))) (l.length : Int) = (((i + m) % l.length : Nat) : Int) := by
      rw [w64 (by omega) (by omega)]
      exact (Int.ofNat_tmod (i + m) l.length).symm
    have lt : (i + m) % l.length < l.length := Nat.mod_lt _ (by omega)
    by_cases c : nt l (i + m) = (s : Int)
    · have c' : rd l (((i + m) % l.length : Nat) : Int) = (s : Int) := c
      refine Ev.step (fun k => ?_) (e m ⟨h1, c, h3⟩ h2)
      rw [dropperref08_waits.l2, if_neg (by omega), ei, if_pos (by omega), if_pos (by omega), if_pos c', mx_eq, wsucc i (by omega)]
      congr 1
      omega
    · have c' : ¬ rd l (((i + m) % l.length : Nat) : Int) = (s : Int) := c
      have hm : m < l.length := by
        rcases Nat.lt_or_ge m l.length with q | q
        · exact q
        · exact absurd ((congrArg (fun z => nt l (i + z)) (show m = l.length by omega)).trans ((nt_add i).trans hs)) c
      refine Ev.step (fun k => ?_) (ih (m + 1) (by omega) (by omega) (by omega) (fun j j1 j2 => if q : j = m then q ▸ c else h3 j j1 (by omega)))
      rw [dropperref08_waits.l2, if_neg (by omega), ei, if_pos (by omega), if_pos (by omega), if_neg c', wsucc m (by omega)]
theorem refwaits_l1 {l w x : List Int} {s : Nat} (hn : 1 ≤ l.length) (hl : l.length ≤ 1000000) (hs : s ≤ 100) (hx : x.length ≤ 100) {r : List Int} (e : Ev (fun k => dropperref08_waits.l0 k w l (x ++ [((wv l (s : Int) : Nat) : Int)]) ((s + 1 : Nat) : Int)) r) : ∀ (d i v : Nat), l.length - i = d → i ≤ l.length → v ≤ l.length →
    (∀ a, a < i → nt l a = (s : Int) → ∃ m, isGap l s a m ∧ m ≤ v) → rinv l s i v →
    Ev (fun k => dropperref08_waits.l1 k w l x s v i) r := by
  intro d
  induction d with
  | zero =>
    intro i v hd hi hv h1 h2
    obtain rfl : i = l.length := by omega
    have : wv l (s : Int) = v := by
      rcases h2 with ⟨rfl, h2⟩ | ⟨a, a1, a2, a3⟩
      · exact wv_none h2
      · exact wv_eq ⟨h1, a, a1, a2, a3⟩
    rw [this] at e
    refine Ev.step (fun k => ?_) e
    rw [dropperref08_waits.l1, if_neg (by omega), if_pos (by omega), wsucc s (by omega)]
  | succ d ih =>
    intro i v hd hi hv h1 h2
    have hil : i < l.length := by omega
    have en := nt_lt hil
    by_cases c : rd l (i : Int) = (s : Int)
    · refine Ev.step (f := fun k => dropperref08_waits.l2 k w l x s v i ((1 : Nat) : Int)) (fun k => ?_) (refgap hn hl hil (en.trans c) (fun m gm ml => ?_) l.length 1 (by omega) (by omega) (by omega) (fun j j1 j2 => by omega))
      · rw [dropperref08_waits.l1, if_pos (by omega), if_pos (by omega), if_pos c]
        rfl
      · refine ih (i + 1) (max v m) (by omega) (by omega) (by omega) (fun a a1 a2 => ?_) (.inr ?_)
        · by_cases q : a = i
          · subst q; exact ⟨m, gm, by omega⟩
          · obtain ⟨z, z1, z2⟩ := h1 a (by omega) a2
            exact ⟨z, z1, by omega⟩
        · by_cases q : v ≤ m
          · rw [Nat.max_eq_right q]
            exact ⟨i, by omega, en.trans c, gm⟩
          · rw [Nat.max_eq_left (by omega)]
            rcases h2 with ⟨rfl, _⟩ | ⟨a, a1, a2, a3⟩
            · omega
            · exact ⟨a, by omega, a2, a3⟩
    · refine Ev.step (fun k => ?_) (ih (i + 1) v (by omega) (by omega) hv (fun a a1 a2 => ?_) ?_)
      · rw [dropperref08_waits.l1, if_pos (by omega), if_pos (by omega), if_neg c, wsucc i (by omega)]
      · exact h1 a (by
          rcases Nat.lt_or_ge a i with q | q
          · exact q
          · exact absurd (by rw [← en, show i = a by omega]; exact a2) c) a2
      · rcases h2 with ⟨h0, h2⟩ | ⟨a, a1, a2, a3⟩
        · refine .inl ⟨h0, fun a a1 => ?_⟩
          by_cases q : a = i
          · rw [q, en]; exact c
          · exact h2 a (by omega)
        · exact .inr ⟨a, by omega, a2, a3⟩
/-- The longest waits of the sections. -/
noncomputable def wvs (l : List Int) (n : Nat) : List Int := (List.range n).map fun s : Nat => ((wv l (s : Int) : Nat) : Int)
theorem refwaits_l0 {l w : List Int} (hn : 1 ≤ l.length) (hl : l.length ≤ 1000000) (hw : w.length ≤ 5) : ∀ (d s : Nat), w.length - s = d → s ≤ w.length → Ev (fun k => dropperref08_waits.l0 k w l (wvs l s) s) (wvs l w.length) := by
  intro d
  induction d with
  | zero =>
    intro s hd hs
    obtain rfl : s = w.length := by omega
    refine ev_some _ fun k => ?_
    rw [dropperref08_waits.l0, if_neg (by omega)]
  | succ d ih =>
    intro s hd hs
    have e := ih (s + 1) (by omega) (by omega)
    have u : wvs l (s + 1) = wvs l s ++ [((wv l (s : Int) : Nat) : Int)] := by simp [wvs, List.range_succ]
    rw [u] at e
    refine Ev.step (f := fun k => dropperref08_waits.l1 k w l (wvs l s) s ((0 : Nat) : Int) ((0 : Nat) : Int)) (fun k => ?_) (refwaits_l1 hn hl (by omega) (by simp [wvs]; omega) e l.length 0 0 (by omega) (by omega) (by omega) (fun a a1 => by omega) (.inl ⟨rfl, fun a a1 => by omega⟩))
    rw [dropperref08_waits.l0, if_pos (by omega)]
    rfl
theorem refwaits_ev {l w : List Int} (hn : 1 ≤ l.length) (hl : l.length ≤ 1000000) (hw : w.length ≤ 5) : Ev (fun k => dropperref08_waits.f k w l) (wvs l w.length) := refwaits_l0 hn hl hw w.length 0 (by omega) (by omega)
theorem wvs_rd {l : List Int} {n s : Nat} (h : s < n) : rd (wvs l n) (s : Int) = (wv l (s : Int) : Nat) := by
  simp [wvs, rd, List.getD_eq_getElem?_getD, h]
/-- A list can be a rota, as far as its numbers go. -/
def okL (w l : List Int) : Prop := (1 ≤ l.length ∧ l.length ≤ 100) ∧ ∀ i, i < l.length → -1 ≤ rd l (i : Int) ∧ rd l (i : Int) ≤ (w.length : Int) - 1
/-- No section waits too long. -/
def okWt (w l : List Int) : Prop := ∀ s, s < w.length → 1 ≤ wv l (s : Int) ∧ ((wv l (s : Int) : Nat) : Int) ≤ rd w (s : Int)
def rota (w l : List Int) : Prop := okL w l ∧ okWt w l
open Classical in
theorem isRota_loop {w l : List Int} (hw : w.length ≤ 5) (hn : 1 ≤ l.length) (hl : l.length ≤ 1000000) : ∀ (d i : Nat), w.length - i = d → i ≤ w.length → (∀ s, s < i → 1 ≤ wv l (s : Int) ∧ ((wv l (s : Int) : Nat) : Int) ≤ rd w (s : Int)) →
    Ev (fun k => ice_isRota.l0 k l w w.length i) (decide (okWt w l)) := by
  intro d
  induction d with
  | zero =>
    intro i hd hi h
    obtain rfl : i = w.length := by omega
    rw [decide_eq_true (show okWt w l from h)]
    refine ev_some _ fun k => ?_
    rw [ice_isRota.l0, if_neg (by omega)]
  | succ d ih =>
    intro i hd hi h
    refine Ev.step (f := fun k => (ice_waits.f k l i).bind fun t105 => ((ice_within.f 1 t105 (rd w i)).bind fun t106 => (if t106 = true then (ice_isRota.l0 k l w w.length (wrap64 ((i : Int) + 1))) else (some false)))) (fun k => ?_) (Ev.bind (waits_ev (i : Int) hn hl) ?_)
    · rw [ice_isRota.l0, if_pos (by omega), if_pos (by omega), if_pos (by omega)]
    · rw [within_some]
      simp only [Option.bind_some]
      by_cases c : 1 ≤ wv l (i : Int) ∧ ((wv l (i : Int) : Nat) : Int) ≤ rd w (i : Int)
      · simp only [decide_eq_true (show 1 ≤ ((wv l (i : Int) : Nat) : Int) ∧ ((wv l (i : Int) : Nat) : Int) ≤ rd w (i : Int) from ⟨by omega, c.2⟩), if_true]
        rw [wsucc i (by omega)]
        exact ih (i + 1) (by omega) (by omega) (fun s hs => if q : s = i then q ▸ c else h s (by omega))
      · simp only [decide_eq_false (show ¬ (1 ≤ ((wv l (i : Int) : Nat) : Int) ∧ ((wv l (i : Int) : Nat) : Int) ≤ rd w (i : Int)) from fun z => c ⟨by omega, z.2⟩), Bool.false_eq_true, if_false]
        rw [decide_eq_false (fun z => c (z i (by omega)))]
        exact Ev.now _
open Classical in
theorem ice_isRota_ev {w l : List Int} (o : okW w) (hl : l.length ≤ 9223372036854775807) : Ev (fun k => ice_isRota.f k w l) (decide (rota w l)) := by
  have hw := o.1
  have no : ¬ okL w l → Ev (fun k => ice_isRota.j0 k l true w) (decide (rota w l)) := fun h => by
    rw [decide_eq_false (fun z => h z.1)]
    refine ev_some _ fun k => ?_
    rw [ice_isRota.j0, if_pos rfl]
  by_cases c : 1 ≤ l.length ∧ l.length ≤ 100
  · obtain ⟨b, e, hb⟩ := contains_ev (l := l) (fn := fun z0_ => ice_isRota_1.f z0_ w) (p := fun j => ¬ (-1 ≤ rd l (j : Int) ∧ rd l (j : Int) ≤ (w.length : Int) - 1)) hl (fun j hj => by
      unfold ice_isRota_1.f
      rw [within_some, w64 (by omega) (by omega)]
      simp only [Option.bind_some]
      by_cases c : -1 ≤ rd l (j : Int) ∧ rd l (j : Int) ≤ (w.length : Int) - 1 <;> simp [c])
    refine Ev.congr (f := fun k => (slices_ContainsFunc_int_int.f k l (fun z0_ => ice_isRota_1.f z0_ w)).bind fun t103 => (ice_isRota.j0 k l t103 w)) (fun k => ?_) (Ev.bind e ?_)
    · unfold ice_isRota.f
      rw [within_some, decide_eq_true (by omega)]
      rfl
    · cases b with
      | true =>
        obtain ⟨j, hj, h⟩ := hb.1 rfl
        exact no (fun z => h (z.2 j hj))
      | false =>
        have ok : okL w l := ⟨c, fun i hi => Decidable.not_not.1 (fun z => absurd (hb.2 ⟨i, hi, z⟩) (by decide))⟩
        have : decide (rota w l) = decide (okWt w l) := decide_eq_decide.2 ⟨fun z => z.2, fun z => ⟨ok, z⟩⟩
        rw [this]
        refine Ev.step (fun k => ?_) (isRota_loop (by omega) c.1 (by omega) w.length 0 (by omega) (by omega) (fun s hs => by omega))
        rw [ice_isRota.j0, if_neg (by decide)]
        rfl
  · refine Ev.congr (fun k => ?_) (no (fun z => c z.1))
    unfold ice_isRota.f
    rw [within_some, decide_eq_false (by omega)]
    rfl
open Classical in
theorem list_loop8 {w l : List Int} (hw : w.length ≤ 5) (hl : l.length ≤ 9223372036854775807) : ∀ (d i : Nat), l.length - i = d → i ≤ l.length → (∀ j, j < i → -1 ≤ rd l (j : Int) ∧ rd l (j : Int) ≤ (w.length : Int) - 1) → Ev (fun k => dropperref08_list.l0 k w l i) (decide (okL w l)) := by
  intro d
  induction d with
  | zero =>
    intro i hd hi h
    obtain rfl : i = l.length := by omega
    refine ev_some _ fun k => ?_
    rw [dropperref08_list.l0, if_neg (by omega), from_some]
    simp only [Option.bind_some]
    congr 1
    exact decide_eq_decide.2 ⟨fun z => ⟨by omega, h⟩, fun z => by have := z.1; omega⟩
  | succ d ih =>
    intro i hd hi h
    by_cases c : -1 ≤ rd l (i : Int) ∧ rd l (i : Int) ≤ (w.length : Int) - 1
    · refine Ev.step (fun k => ?_) (ih (i + 1) (by omega) (by omega) (fun j hj => if q : j = i then q ▸ c else h j (by omega)))
      rw [dropperref08_list.l0, if_pos (by omega), if_pos (by omega), from_some, w64 (n := (w.length : Int) - 1) (by omega) (by omega), decide_eq_true c, wsucc i (by omega)]
      rfl
    · rw [decide_eq_false (fun z => c (z.2 i (by omega)))]
      refine ev_some _ fun k => ?_
      rw [dropperref08_list.l0, if_pos (by omega), if_pos (by omega), from_some, w64 (n := (w.length : Int) - 1) (by omega) (by omega), decide_eq_false c]
      rfl
open Classical in
theorem refrota_loop {w l : List Int} (hw : w.length ≤ 5) : ∀ (d i : Nat), w.length - i = d → i ≤ w.length → (∀ s, s < i → 1 ≤ wv l (s : Int) ∧ ((wv l (s : Int) : Nat) : Int) ≤ rd w (s : Int)) →
    Ev (fun k => dropperref08_isRota.l0 k w (wvs l w.length) i) (decide (okWt w l)) := by
  intro d
  induction d with
  | zero =>
    intro i hd hi h
    obtain rfl : i = w.length := by omega
    rw [decide_eq_true (show okWt w l from h)]
    refine ev_some _ fun k => ?_
    rw [dropperref08_isRota.l0, if_neg (by omega)]
  | succ d ih =>
    intro i hd hi h
    by_cases c : 1 ≤ wv l (i : Int) ∧ ((wv l (i : Int) : Nat) : Int) ≤ rd w (i : Int)
    · refine Ev.step (fun k => ?_) (ih (i + 1) (by omega) (by omega) (fun s hs => if q : s = i then q ▸ c else h s (by omega)))
      rw [dropperref08_isRota.l0, if_pos (by omega), if_pos (by omega), if_pos (by simp [wvs]; omega), from_some, wvs_rd (by omega), decide_eq_true (show 1 ≤ ((wv l (i : Int) : Nat) : Int) ∧ ((wv l (i : Int) : Nat) : Int) ≤ rd w (i : Int) from ⟨by omega, c.2⟩), wsucc i (by omega)]
      rfl
    · rw [decide_eq_false (fun z => c (z i (by omega)))]
      refine ev_some _ fun k => ?_
      rw [dropperref08_isRota.l0, if_pos (by omega), if_pos (by omega), if_pos (by simp [wvs]; omega), from_some, wvs_rd (by omega), decide_eq_false (show ¬ (1 ≤ ((wv l (i : Int) : Nat) : Int) ∧ ((wv l (i : Int) : Nat) : Int) ≤ rd w (i : Int)) from fun z => c ⟨by omega, z.2⟩)]
      rfl
open Classical in
theorem ref_isRota_ev {w l : List Int} (o : okW w) (hl : l.length ≤ 9223372036854775807) : Ev (fun k => dropperref08_isRota.f k w l) (decide (rota w l)) := by
  have hw := o.1
  refine Ev.bind (list_loop8 (by omega) hl l.length 0 (by omega) (by omega) (by omega)) ?_
  by_cases ok : okL w l
  · simp only [decide_eq_true ok, if_true]
    have hn := ok.1
    have : decide (rota w l) = decide (okWt w l) := decide_eq_decide.2 ⟨fun z => z.2, fun z => ⟨ok, z⟩⟩
    rw [this]
    exact Ev.bind (refwaits_ev (by omega) (by omega) (by omega)) (refrota_loop (by omega) w.length 0 (by omega) (by omega) (fun s hs => by omega))
  · simp only [decide_eq_false ok, Bool.false_eq_true, if_false]
    rw [decide_eq_false (fun z => ok z.1)]
    exact Ev.now _
open Classical in
/-- What IsRota tells. -/
noncomputable def isRotaR (w l : List Int) : Bool × Int := if okW w then (decide (rota w l), 0) else (false, 80)
theorem ice_IsRota_ev (w l : List Int) (hl : l.length ≤ 9223372036854775807) : Ev (fun k => ice_IsRota.f k w l) (isRotaR w l) := by
  classical
  refine Ev.bind (ice_Valid_ev w) ?_
  unfold isRotaR
  by_cases o : okW w
  · simp only [decide_eq_true o, if_true, if_pos o]
    exact Ev.bind (ice_isRota_ev o hl) (Ev.now _)
  · simp only [decide_eq_false o, Bool.false_eq_true, if_false, if_neg o]
    exact Ev.now _
theorem ref_IsRota_ev (w l : List Int) (hw : w.length ≤ 9223372036854775807) (hl : l.length ≤ 9223372036854775807) : Ev (fun k => dropperref08_IsRota.f k w l) (isRotaR w l) := by
  classical
  refine Ev.bind (ref_Valid_ev w hw) ?_
  unfold isRotaR
  by_cases o : okW w
  · simp only [decide_eq_true o, if_true, if_pos o]
    exact Ev.bind (ref_isRota_ev o hl) (Ev.now _)
  · simp only [decide_eq_false o, Bool.false_eq_true, if_false, if_neg o]
    exact Ev.now _
end Go.Proofs.Ythbpibdfookbmaa.G
