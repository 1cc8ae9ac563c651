/- The density, the rotas, the waits, the list read backwards: both programs tell the same (IceRotas). Plain Lean. -/
import Derived.Test.YthbpibdfookbmaaPWaits
import Derived.Test.YthbpibdfookbmaaGF6
namespace Go.Proofs.Ythbpibdfookbmaa.G
set_option linter.unusedVariables false
set_option linter.unusedSimpArgs false
open Go.RowKit Go.Proofs.YthbpibdfookbmaaW.PrintWords Go.Proofs.YthbpibdfookbmaaW.PrintLast
/-- The sum of 840 divided by each want. -/
def dsum : List Int → Int
  | [] => 0
  | a :: w => 840 / a + dsum w
theorem dsum_bd : ∀ {w : List Int}, (∀ a ∈ w, 1 ≤ a ∧ a ≤ 8) → 105 * (w.length : Int) ≤ dsum w ∧ dsum w ≤ 840 * (w.length : Int)
  | [], _ => by simp [dsum]
  | a :: w, h => by
    have h1 := h a (by simp)
    have h2 := dsum_bd (w := w) (fun b hb => h b (by simp [hb]))
    have h3 : 105 ≤ 840 / a := by rw [Int.le_ediv_iff_mul_le (by omega)]; omega
    have h4 : 840 / a ≤ 840 := Int.ediv_le_self _ (by omega)
    simp only [dsum, List.length_cons]
    omega
theorem okW_all {w : List Int} (o : okW w) : ∀ a ∈ w, 1 ≤ a ∧ a ≤ 8 := fun a ha => okW_mem o ha
/-- What both tell of a sum: the fraction in lowest terms. -/
def densR (n : Int) : Int × Int × Int := (n / (Int.gcd n 840 : Int), 840 / (Int.gcd n 840 : Int), 0)
theorem gcd_loop (x : Int) (hx : 1 ≤ x) (hx2 : x ≤ 1000000) : ∀ (k : Nat) (a b : Int), 0 ≤ a → 0 ≤ b → (a ≠ 0 ∨ b ≠ 0) → b < k → Int.gcd a b = Int.gcd x 840 → ice_Density.l1 k x a b = some (densR x) ∧ dropperref08_Density.l1 k x a b = some (densR x)
  | 0, a, b, ha, hb, h, hk, _ => by omega
  | k + 1, a, b, ha, hb, h, hk, hg => by
    by_cases e : b = 0
    · subst e
      have ha' : a ≠ 0 := by omega
      have ga : a = (Int.gcd x 840 : Int) := by rw [← hg, Int.gcd_zero_right, Int.natAbs_of_nonneg ha]
      have dx : a ∣ x := by rw [ga]; exact Int.gcd_dvd_left ..
      have da : a ∣ 840 := by rw [ga]; exact Int.gcd_dvd_right ..
      have l1 : 0 ≤ x / a := Int.ediv_nonneg (by omega) ha
      have l2 : x / a ≤ x := Int.ediv_le_self _ (by omega)
      have l3 : 0 ≤ 840 / a := Int.ediv_nonneg (by omega) ha
      have l4 : 840 / a ≤ 840 := Int.ediv_le_self _ (by omega)
      have r : some (wrap64 (Int.tdiv x a), wrap64 (Int.tdiv (840 : Int) a), (0 : Int)) = some (densR x) := by
        unfold densR
        rw [← ga, Int.tdiv_eq_ediv_of_nonneg (by omega), Int.tdiv_eq_ediv_of_nonneg (by omega), w64 (by omega) (by omega), w64 (by omega) (by omega)]
      refine ⟨?_, ?_⟩
      · rw [ice_Density.l1, if_pos rfl, if_neg ha']; exact r
      · rw [dropperref08_Density.l1, if_pos rfl, if_neg ha']; exact r
    · have hm : 0 ≤ a.tmod b := Int.tmod_nonneg _ ha
      have hl : a.tmod b < b := Int.tmod_lt_of_pos _ (by omega)
      have hg2 : Int.gcd b (a.tmod b) = Int.gcd a b := by
        rw [Int.tmod_eq_emod_of_nonneg ha]
        obtain ⟨m, rfl⟩ := Int.eq_ofNat_of_zero_le ha
        obtain ⟨j, rfl⟩ := Int.eq_ofNat_of_zero_le hb
        show Nat.gcd j (m % j) = Nat.gcd m j
        rw [Nat.gcd_comm j, ← Nat.gcd_rec, Nat.gcd_comm]
      obtain ⟨i1, i2⟩ := gcd_loop x hx hx2 k b (a.tmod b) hb hm (Or.inl e) (by omega) (hg2.trans hg)
      refine ⟨?_, ?_⟩
      · rw [ice_Density.l1, if_neg e]; exact i1
      · rw [dropperref08_Density.l1, if_neg e]; exact i2
theorem dens_end {x : Int} (hx : 1 ≤ x) (hx2 : x ≤ 1000000) : Ev (fun k => ice_Density.l1 k x x 840) (densR x) ∧ Ev (fun k => dropperref08_Density.l1 k x x 840) (densR x) :=
  ⟨⟨841, fun k hk => (gcd_loop x hx hx2 k x 840 (by omega) (by omega) (by omega) (by omega) rfl).1⟩, ⟨841, fun k hk => (gcd_loop x hx hx2 k x 840 (by omega) (by omega) (by omega) (by omega) rfl).2⟩⟩
theorem dens_loop {w : List Int} (o : okW w) : ∀ (d i : Nat) (x : Int), w.length - i = d → i ≤ w.length → 0 ≤ x → x ≤ 840 * (i : Int) → x + dsum (w.drop i) = dsum w →
    Ev (fun k => ice_Density.l0 k x w w.length i) (densR (dsum w)) ∧ Ev (fun k => dropperref08_Density.l0 k w x i) (densR (dsum w)) := by
  have hlen := o.1
  have bd := dsum_bd (okW_all o)
  intro d
  induction d with
  | zero =>
    intro i x hd hi h0 h1 e
    obtain rfl : i = w.length := by omega
    rw [List.drop_length] at e
    obtain rfl : x = dsum w := by simpa [dsum] using e
    obtain ⟨e1, e2⟩ := dens_end (x := dsum w) (by omega) (by omega)
    refine ⟨Ev.step (fun k => ?_) e1, Ev.step (fun k => ?_) e2⟩
    · rw [ice_Density.l0, if_neg (by omega)]
    · rw [dropperref08_Density.l0, if_neg (by omega)]
  | succ d ih =>
    intro i x hd hi h0 h1 e
    have hw8 := o.2 i (by omega)
    rw [rd_drop w i (by omega)] at e
    simp only [dsum] at e
    have q1 : 0 ≤ 840 / rd w (i : Int) := Int.ediv_nonneg (by omega) (by omega)
    have q2 : 840 / rd w (i : Int) ≤ 840 := Int.ediv_le_self _ (by omega)
    obtain ⟨e1, e2⟩ := ih (i + 1) (x + 840 / rd w (i : Int)) (by omega) (by omega) (by omega) (by omega) (by omega)
    refine ⟨Ev.step (fun k => ?_) e1, Ev.step (fun k => ?_) e2⟩
    · rw [ice_Density.l0, if_pos (by omega), if_pos (by omega), if_pos (by omega), if_neg (by omega), Int.tdiv_eq_ediv_of_nonneg (by omega), w64 (n := 840 / rd w (i : Int)) (by omega) (by omega), w64 (n := x + 840 / rd w (i : Int)) (by omega) (by omega), wsucc i (by omega)]
    · rw [dropperref08_Density.l0, if_pos (by omega), if_pos (by omega), if_neg (by omega), Int.tdiv_eq_ediv_of_nonneg (by omega), w64 (n := 840 / rd w (i : Int)) (by omega) (by omega), w64 (n := x + 840 / rd w (i : Int)) (by omega) (by omega), wsucc i (by omega)]
open Classical in
/-- What Density tells. -/
noncomputable def densityR (w : List Int) : Int × Int × Int := if okW w then densR (dsum w) else (0, 0, 80)
theorem ice_Density_ev (w : List Int) : Ev (fun k => ice_Density.f k w) (densityR w) := by
  classical
  refine Ev.bind (ice_Valid_ev w) ?_
  unfold densityR
  by_cases o : okW w
  · simp only [decide_eq_true o, if_true, if_pos o]
    exact (dens_loop o w.length 0 0 (by omega) (by omega) (by omega) (by omega) (by simp)).1
  · simp only [decide_eq_false o, Bool.false_eq_true, if_false, if_neg o]
    exact Ev.now _
theorem ref_Density_ev (w : List Int) (hl : w.length ≤ 9223372036854775807) : Ev (fun k => dropperref08_Density.f k w) (densityR w) := by
  classical
  refine Ev.bind (ref_Valid_ev w hl) ?_
  unfold densityR
  by_cases o : okW w
  · simp only [decide_eq_true o, if_true, if_pos o]
    exact (dens_loop o w.length 0 0 (by omega) (by omega) (by omega) (by omega) (by simp)).2
  · simp only [decide_eq_false o, Bool.false_eq_true, if_false, if_neg o]
    exact Ev.now _
open Classical in
noncomputable def askedR (w l : List Int) : Int := if okW w then (if rota w l then 0 else 2) else 80
theorem ice_asked_ev (w l : List Int) (hl : l.length ≤ 9223372036854775807) : Ev (fun k => ice_asked.f k w l) (askedR w l) := by
  classical
  refine Ev.bind (ice_Valid_ev w) ?_
  unfold askedR
  by_cases o : okW w
  · simp only [decide_eq_true o, if_true, if_pos o]
    refine Ev.bind (ice_isRota_ev o hl) ?_
    by_cases h : rota w l
    · simp only [decide_eq_true h, if_true, if_pos h]; exact Ev.now _
    · simp only [decide_eq_false h, Bool.false_eq_true, if_false, if_neg h]; exact Ev.now _
  · simp only [decide_eq_false o, Bool.false_eq_true, if_false, if_neg o]
    exact Ev.now _
theorem ref_asked_ev (w l : List Int) (hw : w.length ≤ 9223372036854775807) (hl : l.length ≤ 9223372036854775807) : Ev (fun k => dropperref08_asked.f k w l) (askedR w l) := by
  classical
  refine Ev.bind (ref_Valid_ev w hw) ?_
  unfold askedR
  by_cases o : okW w
  · simp only [decide_eq_true o, if_true, if_pos o]
    refine Ev.bind (ref_isRota_ev o hl) ?_
    by_cases h : rota w l
    · simp only [decide_eq_true h, if_true, if_pos h]; exact Ev.now _
    · simp only [decide_eq_false h, Bool.false_eq_true, if_false, if_neg h]; exact Ev.now _
  · simp only [decide_eq_false o, Bool.false_eq_true, if_false, if_neg o]
    exact Ev.now _
theorem askedR_ok {w l : List Int} (h : askedR w l = 0) : okW w ∧ rota w l := by
  unfold askedR at h
  by_cases o : okW w
  · rw [if_pos o] at h
    by_cases r : rota w l
    · exact ⟨o, r⟩
    · rw [if_neg r] at h; exact absurd h (by decide)
  · rw [if_neg o] at h; exact absurd h (by decide)
theorem ice_waits_l0 {l w : List Int} (hn : 1 ≤ l.length) (hl : l.length ≤ 1000000) (hw : w.length ≤ 5) : ∀ (d s : Nat), w.length - s = d → s ≤ w.length → Ev (fun k => ice_Waits.l0 k l (wvs l s) w.length s) (wvs l w.length, 0) := by
  intro d
  induction d with
  | zero =>
    intro s hd hs
    obtain rfl : s = w.length := by omega
    refine ev_some _ fun k => ?_
    rw [ice_Waits.l0, if_neg (by omega)]
  | succ d ih =>
    intro s hd hs
    have e := ih (s + 1) (by omega) (by omega)
    have u : wvs l (s + 1) = wvs l s ++ [((wv l (s : Int) : Nat) : Int)] := by simp [wvs, List.range_succ]
    rw [u] at e
    refine Ev.step (f := fun k => (ice_waits.f k l s).bind fun t102 => (if (wvs l s).length < 17592186044416 then (ice_Waits.l0 k l ((wvs l s) ++ [t102]) w.length (wrap64 ((s : Int) + 1))) else (none))) (fun k => ?_) (Ev.bind (waits_ev (s : Int) hn hl) ?_)
    · rw [ice_Waits.l0, if_pos (by omega)]
    · have hw2 : (wvs l s).length < 17592186044416 := by simp [wvs]; omega
      simp only [if_pos hw2]
      rw [wsucc s (by omega)]
      exact e
/-- What Waits tells. -/
noncomputable def waitsR (w l : List Int) : List Int × Int := if askedR w l = 0 then (wvs l w.length, 0) else ([], askedR w l)
theorem ice_Waits_ev (w l : List Int) (hl : l.length ≤ 9223372036854775807) : Ev (fun k => ice_Waits.f k w l) (waitsR w l) := by
  refine Ev.bind (ice_asked_ev w l hl) ?_
  unfold waitsR
  by_cases c : askedR w l = 0
  · obtain ⟨o, ⟨hn, _⟩, _⟩ := askedR_ok c
    simp only [if_pos c]
    exact ice_waits_l0 hn.1 (by omega) o.1.2 w.length 0 (by omega) (by omega)
  · simp only [if_neg c]
    exact Ev.now _
theorem ref_Waits_ev (w l : List Int) (hw : w.length ≤ 9223372036854775807) (hl : l.length ≤ 9223372036854775807) : Ev (fun k => dropperref08_Waits.f k w l) (waitsR w l) := by
  refine Ev.bind (ref_asked_ev w l hw hl) ?_
  unfold waitsR
  by_cases c : askedR w l = 0
  · obtain ⟨o, ⟨hn, _⟩, _⟩ := askedR_ok c
    simp only [if_pos c]
    exact Ev.bind (refwaits_ev hn.1 (by omega) o.1.2) (Ev.now _)
  · simp only [if_neg c]
    exact Ev.now _
theorem rd_set2 (x : List Int) {i j : Nat} (v : Int) (hi : i < x.length) (hj : j < x.length) : rd (x.set i v) (j : Int) = if j = i then v else rd x (j : Int) := by
  simp only [rd, List.getD_eq_getElem?_getD, Int.toNat_natCast, List.getElem?_set]
  by_cases e : i = j
  · subst e; simp [hi]
  · rw [if_neg e, if_neg (fun h => e h.symm)]
theorem ext_rd {x y : List Int} (h : x.length = y.length) (e : ∀ j, j < x.length → rd x (j : Int) = rd y (j : Int)) : x = y := by
  refine List.ext_getElem h fun i h1 h2 => ?_
  have := e i h1
  rwa [rd_get h1, rd_get h2] at this
theorem rd_rev {l : List Int} {j : Nat} (h : j < l.length) : rd l.reverse (j : Int) = rd l ((l.length - 1 - j : Nat) : Int) := by
  rw [rd_get (by simpa using h), rd_get (by omega), List.getElem_reverse]
theorem rev_loop {l : List Int} (hl : l.length ≤ 1000000) : ∀ (d i : Nat) (x : List Int), l.length - i = d → 2 * i ≤ l.length + 1 → x.length = l.length → (∀ j, j < l.length → rd x (j : Int) = if j < i ∨ l.length - 1 - j < i then rd l ((l.length - 1 - j : Nat) : Int) else rd l (j : Int)) →
    Ev (fun k => slices_Reverse_int_int.l0 k x i ((l.length : Int) - 1 - i)) l.reverse := by
  intro d
  induction d with
  | zero =>
    intro i x hd hi hx h
    refine ev_some _ fun k => ?_
    rw [slices_Reverse_int_int.l0, if_neg (by omega)]
    congr 1
    refine ext_rd (by simpa using hx) fun j hj => ?_
    rw [h j (by omega), rd_rev (by omega), if_pos (by omega)]
  | succ d ih =>
    intro i x hd hi hx h
    by_cases c : (i : Int) < (l.length : Int) - 1 - i
    · have e1 : ((l.length : Int) - 1 - i) = ((l.length - 1 - i : Nat) : Int) := by omega
      refine Ev.step (fun k => ?_) (ih (i + 1) ((x.set i (rd x ((l.length - 1 - i : Nat) : Int))).set (l.length - 1 - i) (rd x (i : Int))) (by omega) (by omega) (by simpa using hx) (fun j hj => ?_))
      · rw [slices_Reverse_int_int.l0, if_pos c, if_pos (by omega), if_pos (by omega), if_pos (by omega), if_pos (by omega), wsucc i (by omega), w64 (by omega) (by omega), e1, Int.toNat_natCast, Int.toNat_natCast]
        congr 1
        omega
      · rw [rd_set2 _ _ (by rw [List.length_set]; omega) (by rw [List.length_set]; omega)]
        by_cases q1 : j = l.length - 1 - i
        · rw [if_pos q1, h i (by omega), if_neg (by omega), if_pos (by omega)]
          congr 1; omega
        · rw [if_neg q1, rd_set2 _ _ (by omega) (by omega)]
          by_cases q2 : j = i
          · rw [if_pos q2, h _ (by omega), if_neg (by omega), if_pos (by omega), q2]
          · rw [if_neg q2, h j hj]
            by_cases q3 : j < i ∨ l.length - 1 - j < i
            · rw [if_pos q3, if_pos (by omega)]
            · rw [if_neg q3, if_neg (by omega)]
    · refine ev_some _ fun k => ?_
      rw [slices_Reverse_int_int.l0, if_neg c]
      congr 1
      refine ext_rd (by simpa using hx) fun j hj => ?_
      rw [h j (by omega), rd_rev (by omega)]
      by_cases q3 : j < i ∨ l.length - 1 - j < i
      · rw [if_pos q3]
      · rw [if_neg q3]; congr 1; omega
theorem turned_loop {l : List Int} (hl : l.length ≤ 1000000) : ∀ (i : Nat), i ≤ l.length → Ev (fun k => dropperref08_Turned.l0 k l ((l.drop i).reverse) ((i : Int) - 1)) (l.reverse, 0) := by
  intro i
  induction i with
  | zero =>
    intro _
    refine ev_some _ fun k => ?_
    rw [dropperref08_Turned.l0, if_neg (by omega)]
    rfl
  | succ i ih =>
    intro hi
    have e := ih (by omega)
    rw [rd_drop l i (by omega), List.reverse_cons] at e
    refine Ev.step (fun k => ?_) e
    rw [dropperref08_Turned.l0, show ((i + 1 : Nat) : Int) - 1 = (i : Int) by omega, if_pos (by omega), if_pos (by omega), if_pos (by omega), if_pos (by simp; omega), w64 (by omega) (by omega)]
/-- What Turned tells. -/
noncomputable def turnedR (w l : List Int) : List Int × Int := if askedR w l = 0 then (l.reverse, 0) else ([], askedR w l)
theorem ice_Turned_ev (w l : List Int) (hl : l.length ≤ 9223372036854775807) : Ev (fun k => ice_Turned.f k w l) (turnedR w l) := by
  refine Ev.bind (ice_asked_ev w l hl) ?_
  unfold turnedR
  by_cases c : askedR w l = 0
  · obtain ⟨o, ⟨hn, _⟩, _⟩ := askedR_ok c
    simp only [if_pos c]
    unfold slices_Clone_int_int.f
    simp only [Option.bind_some, List.nil_append, List.length_nil]
    rw [if_pos (by omega)]
    simp only [Option.bind_some]
    have e := rev_loop (l := l) (by omega) l.length 0 l (by omega) (by omega) rfl (fun j hj => by rw [if_neg (by omega)])
    refine Ev.bind (g := fun k => slices_Reverse_int_int.f k l) (Ev.congr (fun k => ?_) e) (Ev.now _)
    unfold slices_Reverse_int_int.f
    rw [w64 (by omega) (by omega)]
    congr 1
    omega
  · simp only [if_neg c]
    exact Ev.now _
theorem ref_Turned_ev (w l : List Int) (hw : w.length ≤ 9223372036854775807) (hl : l.length ≤ 9223372036854775807) : Ev (fun k => dropperref08_Turned.f k w l) (turnedR w l) := by
  refine Ev.bind (ref_asked_ev w l hw hl) ?_
  unfold turnedR
  by_cases c : askedR w l = 0
  · obtain ⟨o, ⟨hn, _⟩, _⟩ := askedR_ok c
    simp only [if_pos c]
    have e := turned_loop (l := l) (by omega) l.length (Nat.le_refl _)
    rw [List.drop_length] at e
    refine Ev.congr (fun k => ?_) e
    rw [w64 (by omega) (by omega)]
    rfl
  · simp only [if_neg c]
    exact Ev.now _
theorem waitsR_len (w l : List Int) : (waitsR w l).1.length ≤ 5 := by
  unfold waitsR
  by_cases c : askedR w l = 0
  · rw [if_pos c]
    have := (askedR_ok c).1.1.2
    simp [wvs]; omega
  · rw [if_neg c]; simp
theorem turnedR_len (w l : List Int) : (turnedR w l).1.length ≤ 100 := by
  unfold turnedR
  by_cases c : askedR w l = 0
  · rw [if_pos c]
    have := (askedR_ok c).2.1.1.2
    simp; omega
  · rw [if_neg c]; simp
theorem IceRotas_pure (l0 l1 : List Int) (hx0 : ∀ x ∈ l0, (Lit.int .i64 x).wf = true) (hx1 : ∀ x ∈ l1, (Lit.int .i64 x).wf = true) (hl0 : l0.length ≤ 9223372036854775807) (hl1 : l1.length ≤ 9223372036854775807) : ∃ k, dropperlaw08_IceRotas.f k l0 l1 = some true := by
  have away : Ev (fun k => dropperlaw08_IceRotas.j0 k l0 l1 true) true := by
    refine Ev.step (f := fun k => (dropperlaw08_Awake.f k).bind fun t601 => (some t601)) (fun k => ?_) (Ev.bind awake_ev (Ev.now _))
    rw [dropperlaw08_IceRotas.j0, if_pos rfl]
  apply Ev.rounds
  by_cases c : (l0.length : Int) > 20
  · refine Ev.congr (fun k => ?_) away
    unfold dropperlaw08_IceRotas.f
    rw [if_pos c]
  by_cases c2 : (l1.length : Int) > 300
  · refine Ev.congr (fun k => ?_) away
    unfold dropperlaw08_IceRotas.f
    rw [if_neg c, decide_eq_true c2]
  have fin : Ev (fun k => dropperlaw08_IceRotas.j1 k l0 l1 false) true := by
    refine Ev.step (f := fun k => (ice_Waits.f k l0 l1).bind fun bt616 => ((dropperref08_Waits.f k l0 l1).bind fun bt620 => ((ice_Turned.f k l0 l1).bind fun bt624 => ((dropperref08_Turned.f k l0 l1).bind fun bt628 => (if bt616.2 = bt620.2 then ((dropperlaw08_SameInts.f k bt616.1 bt620.1).bind fun t632 => (if t632 = true then (if bt624.2 = bt628.2 then ((dropperlaw08_SameInts.f k bt624.1 bt628.1).bind fun t633 => (if t633 = true then ((dropperlaw08_Awake.f k).bind fun t634 => (some t634)) else (some false))) else (some false)) else (some false))) else (some false)))))) (fun k => ?_) (Ev.bind (ice_Waits_ev l0 l1 hl1) (Ev.bind (ref_Waits_ev l0 l1 hl0 hl1) (Ev.bind (ice_Turned_ev l0 l1 hl1) (Ev.bind (ref_Turned_ev l0 l1 hl0 hl1) ?_))))
    · rw [dropperlaw08_IceRotas.j1, if_neg (by decide)]
    · simp only [if_true]
      refine Ev.bind (same_ev _ (by have := waitsR_len l0 l1; omega)) ?_
      simp only [if_true]
      refine Ev.bind (same_ev _ (by have := turnedR_len l0 l1; omega)) ?_
      simp only [if_true]
      exact Ev.bind awake_ev (Ev.now _)
  have mid : Ev (fun k => dropperlaw08_IceRotas.j0 k l0 l1 false) true := by
    refine Ev.step (f := fun k => (ice_Density.f k l0).bind fun bt602 => ((dropperref08_Density.f k l0).bind fun bt606 => ((ice_IsRota.f k l0 l1).bind fun bt610 => ((dropperref08_IsRota.f k l0 l1).bind fun bt612 => ((ice_Valid.f k l0).bind fun t614 => ((dropperref08_Valid.f k l0).bind fun t615 => (if (t614 != t615) = true then (dropperlaw08_IceRotas.j1 k l0 l1 true) else (if (!(bt602.1 == bt606.1) || (!(bt602.2.1 == bt606.2.1))) = true then (dropperlaw08_IceRotas.j1 k l0 l1 true) else (if bt602.2.2 = bt606.2.2 then (if (bt610.1 != bt612.1) = true then (dropperlaw08_IceRotas.j1 k l0 l1 true) else (dropperlaw08_IceRotas.j1 k l0 l1 (bt610.2 != bt612.2))) else (dropperlaw08_IceRotas.j1 k l0 l1 true))))))))))  (fun k => ?_) (Ev.bind (ice_Density_ev l0) (Ev.bind (ref_Density_ev l0 hl0) (Ev.bind (ice_IsRota_ev l0 l1 hl1) (Ev.bind (ref_IsRota_ev l0 l1 hl0 hl1) (Ev.bind (ice_Valid_ev l0) (Ev.bind (ref_Valid_ev l0 hl0) ?_))))))
    · rw [dropperlaw08_IceRotas.j0, if_neg (by decide)]
    · simp only [bne_self_eq_false, beq_self_eq_true, Bool.not_true, Bool.or_self, Bool.false_eq_true, if_false, if_true]
      exact fin
  refine Ev.congr (fun k => ?_) mid
  unfold dropperlaw08_IceRotas.f
  rw [if_neg c, decide_eq_false c2]
end Go.Proofs.Ythbpibdfookbmaa.G
