/- Functions of the seat and plain laws about them: PGrow, POpt, PErr, PTop. -/
import Derived.Test.YtklapbgajghhcaaZW16
import Derived.Test.YtklapbgajghhcaaZW6
import Derived.Test.YtklapbgajghhcaaZW7
import Derived.Test.YtklapbgajghhcaaZW10
import Derived.Test.YtklapbgajghhcaaZW11
import Derived.Test.YtklapbgajghhcaaZW12
import Derived.Test.YtklapbgajghhcaaZW13
import Derived.Test.YtklapbgajghhcaaZW14
section
namespace Go.Proofs.Ytklapbgajghhcaa.G
open Go.RowKit Go.Proofs.YtklapbgajghhcaaW.PrintWords Go.Proofs.YtklapbgajghhcaaW.PrintLast Go.Proofs.YtklapbgajghhcaaW.PrintMore
open Rat (divInt)
set_option linter.unusedVariables false
/-- Rows as described. -/
def okX (r : List Int) (X : List S35) : Prop := X.length = r.length ∧ ∀ i, i < X.length → (1 ≤ (rd_T35 X (i : Int)).f1 ∧ (rd_T35 X (i : Int)).f1 ≤ 1000) ∧ 0 ≤ (rd_T35 X (i : Int)).f0 ∧ (rd_T35 X (i : Int)).f0 ≤ 10000 * (rd_T35 X (i : Int)).f1
/-- The value at an index. -/
def vq (X : List S35) (i : Nat) : Rat := divInt (rd_T35 X (i : Int)).f0 (rd_T35 X (i : Int)).f1
def ups (X : List S35) : Prop := ∀ i, i + 1 < X.length → vq X i ≤ vq X (i + 1)
theorem vq_toS {X : List S35} {i : Nat} {q : Rat} (h : rd_T35 X (i : Int) = toS q) : vq X i = q := by
  unfold vq
  rw [h]
  exact Rat.num_divInt_den q
/-- What is known of the nearest row. -/
theorem near_facts {r : List Int} (o : okR r) {E : Nat → Nat} {m : Nat} {X : List S35} (hc : Cuts r E m) (hx : isNear r E m X) : okX r X ∧ ups X ∧ ∀ i, i < r.length → rd_T35 X (i : Int) = toS (vq X i) ∧ MM r i (vq X i) := by
  have at_ : ∀ i, i < r.length → ∃ k, k < m ∧ E k ≤ i ∧ i < E (k + 1) ∧ rd_T35 X (i : Int) = toS (mn r (E k) (E (k + 1))) ∧ vq X i = mn r (E k) (E (k + 1)) := fun i hi => by
    obtain ⟨k, k1, k2, k3⟩ := cover hc hi
    have := hx.2 k k1 i k2 k3
    exact ⟨k, k1, k2, k3, this, vq_toS this⟩
  refine ⟨⟨hx.1, fun i hi => ?_⟩, fun i hi => ?_, fun i hi => ?_⟩
  · obtain ⟨k, k1, k2, k3, k4, _⟩ := at_ i (by rw [← hx.1]; exact hi)
    have hle := (cuts_le hc (k + 1) (by omega)).2
    have b := mn_bd o (a := E k) (b := E (k + 1)) (hc.2.2.1 k k1).1 hle
    have p := ps_bd o hle (a := E k) (by omega)
    rw [k4]
    obtain ⟨b1, b2, b3, b4, b5, ⟨y, hy⟩, b7⟩ := b
    show (1 ≤ ((mn r (E k) (E (k + 1))).den : Int) ∧ _) ∧ 0 ≤ (mn r (E k) (E (k + 1))).num ∧ (mn r (E k) (E (k + 1))).num ≤ 10000 * ((mn r (E k) (E (k + 1))).den : Int)
    refine ⟨⟨by omega, by show ((mn r (E k) (E (k + 1))).den : Int) ≤ 1000; omega⟩, b1, ?_⟩
    rw [hy] at b7 p
    have hd : 0 < ((mn r (E k) (E (k + 1))).den : Int) := by omega
    rw [Int.mul_ediv_cancel_left _ (by omega)] at b7
    rw [← b7] at p
    have hy0 : 0 < y := by
      rcases Int.lt_or_le 0 y with z | z
      · exact z
      · have := Int.mul_nonpos_of_nonneg_of_nonpos (a := ((mn r (E k) (E (k + 1))).den : Int)) (b := y) (by omega) z
        omega
    refine Int.le_of_mul_le_mul_right ?_ hy0
    rw [Int.mul_assoc]
    exact p.2
  · rw [hx.1] at hi
    obtain ⟨k, k1, k2, k3, _, k5⟩ := at_ i (by omega)
    obtain ⟨k', l1, l2, l3, _, l5⟩ := at_ (i + 1) hi
    rw [k5, l5]
    refine (cuts_mono hc ?_ l1).2
    rcases Nat.lt_or_ge k' k with z | z
    · have := (cuts_mono hc (k := k' + 1) (k' := k) (by omega) k1).1
      omega
    · exact z
  · obtain ⟨k, k1, k2, k3, k4, k5⟩ := at_ i hi
    rw [k4, k5]
    exact ⟨rfl, MM_block hc k1 k2 k3⟩
open Classical in
theorem isrow_loop (r : List Int) (X : List S35) (hl : X.length ≤ 1000000) : ∀ (d i : Nat), X.length - i = d → i ≤ X.length → (∀ j, j < i → (1 ≤ (rd_T35 X (j : Int)).f1 ∧ (rd_T35 X (j : Int)).f1 ≤ 1000) ∧ 0 ≤ (rd_T35 X (j : Int)).f0 ∧ (rd_T35 X (j : Int)).f0 ≤ 10000 * (rd_T35 X (j : Int)).f1) → Ev (fun k => dropperref07_IsRow.l0 k r X (i : Int)) (decide (okX r X))
  | 0, i, hd, hi, h => by
    obtain rfl : i = X.length := by omega
    refine ev_some _ fun k => ?_
    rw [dropperref07_IsRow.l0, if_neg (by omega)]
    congr 1
    by_cases c : X.length = r.length
    · rw [decide_eq_true ⟨c, h⟩, c]; simp
    · rw [decide_eq_false (fun z => c z.1)]
      have : ¬ (X.length : Int) = (r.length : Int) := by omega
      simpa using this
  | d + 1, i, hd, hi, h => by
    have body : ∀ k, dropperref07_IsRow.l0 (k + 1) r X (i : Int) = if (rd_T35 X (i : Int)).f1 < 1 then (some false) else (if (rd_T35 X (i : Int)).f1 > 1000 then (some false) else (if (rd_T35 X (i : Int)).f0 < 0 then (some false) else (if (rd_T35 X (i : Int)).f0 > (wrap64 (10000 * (rd_T35 X (i : Int)).f1)) then (some false) else (dropperref07_IsRow.l0 k r X ((i + 1 : Nat) : Int))))) := fun k => by
      rw [dropperref07_IsRow.l0, if_pos (by omega), if_pos (by omega), wsucc i (by omega)]
    by_cases c1 : (rd_T35 X (i : Int)).f1 < 1
    · rw [decide_eq_false (fun z => by have := (z.2 i (by omega)).1.1; omega)]
      exact ev_some _ fun k => by rw [body, if_pos c1]
    by_cases c2 : (rd_T35 X (i : Int)).f1 > 1000
    · rw [decide_eq_false (fun z => by have := (z.2 i (by omega)).1.2; omega)]
      exact ev_some _ fun k => by rw [body, if_neg c1, if_pos c2]
    by_cases c3 : (rd_T35 X (i : Int)).f0 < 0
    · rw [decide_eq_false (fun z => by have := (z.2 i (by omega)).2.1; omega)]
      exact ev_some _ fun k => by rw [body, if_neg c1, if_neg c2, if_pos c3]
    have hw : wrap64 (10000 * (rd_T35 X (i : Int)).f1) = 10000 * (rd_T35 X (i : Int)).f1 := w64 (by omega) (by omega)
    by_cases c4 : (rd_T35 X (i : Int)).f0 > 10000 * (rd_T35 X (i : Int)).f1
    · rw [decide_eq_false (fun z => by have := (z.2 i (by omega)).2.2; omega)]
      exact ev_some _ fun k => by rw [body, if_neg c1, if_neg c2, if_neg c3, hw, if_pos c4]
    refine Ev.step (fun k => ?_) (isrow_loop r X hl d (i + 1) (by omega) (by omega) (fun j hj => by
      by_cases z : j = i
      · subst z; omega
      · exact h j (by omega)))
    rw [body, if_neg c1, if_neg c2, if_neg c3, hw, if_neg c4]
open Classical in
theorem IsRow_ev (r : List Int) (X : List S35) (hl : X.length ≤ 1000000) : Ev (fun k => dropperref07_IsRow.f k r X) (decide (okX r X)) := isrow_loop r X hl _ 0 rfl (by omega) (fun j hj => by omega)
/-- Cross products tell the order. -/
theorem cross_lt {a b c d : Int} (hb : 0 < b) (hd : 0 < d) : a * d < c * b ↔ divInt a b < divInt c d := by
  rw [Rat.divInt_eq_div, Rat.divInt_eq_div]
  have b0 : (0 : Rat) < (b : Rat) := by have := (Rat.intCast_lt_intCast (a := 0) (b := b)).2 hb; simpa using this
  have d0 : (0 : Rat) < (d : Rat) := by have := (Rat.intCast_lt_intCast (a := 0) (b := d)).2 hd; simpa using this
  have e1 : (a : Rat) / b * b = a := Rat.div_mul_cancel (by grind)
  have e2 : (c : Rat) / d * d = c := Rat.div_mul_cancel (by grind)
  have key : ((a * d : Int) : Rat) < ((c * b : Int) : Rat) ↔ (a : Rat) / b < (c : Rat) / d := by
    rw [Rat.intCast_mul, Rat.intCast_mul]
    generalize (a : Rat) / b = x at *
    generalize (c : Rat) / d = y at *
    have f1 : (a : Rat) * d = x * (b * d) := by grind
    have f2 : (c : Rat) * b = y * (b * d) := by grind
    rw [f1, f2]
    have p : (0 : Rat) < b * d := Rat.mul_pos b0 d0
    exact ⟨fun h => Rat.not_le.1 (fun z : y ≤ x => by
      have := Rat.mul_le_mul_of_nonneg_right (c := (b : Rat) * d) z (by grind)
      grind), fun h => Rat.mul_lt_mul_of_pos_right h p⟩
  rw [← key, Rat.intCast_lt_intCast]
theorem okX_at {r : List Int} {X : List S35} (h : okX r X) {i : Nat} (hi : i < X.length) : (rd_T35 X (i : Int)).f1.natAbs ≤ 1000 ∧ (rd_T35 X (i : Int)).f0.natAbs ≤ 10000000 ∧ 0 < (rd_T35 X (i : Int)).f1 := by
  have := h.2 i hi
  omega
theorem rgrows_loop {r : List Int} {X : List S35} (h : okX r X) (hl : X.length ≤ 1000) : ∀ (d i : Nat), X.length - i = d → 1 ≤ i → (∀ j, j + 1 < i → j + 1 < X.length → vq X j ≤ vq X (j + 1)) → ∃ b : Bool, (b = true → ups X) ∧ Ev (fun k => dropperref07_Grows.l0 k X (i : Int)) (b, 0)
  | 0, i, hd, hi, hu => ⟨true, fun _ j hj => hu j (by omega) hj, ev_some _ fun k => by rw [dropperref07_Grows.l0, if_neg (by omega)]⟩
  | d + 1, i, hd, hi, hu => by
    obtain ⟨j, rfl⟩ : ∃ j, i = j + 1 := ⟨i - 1, by omega⟩
    have a := okX_at h (i := j) (by omega)
    have b := okX_at h (i := j + 1) (by omega)
    have m1 := mul_bd (a := (rd_T35 X ((j + 1 : Nat) : Int)).f0) (b := (rd_T35 X (j : Int)).f1) b.2.1 a.1
    have m2 := mul_bd (a := (rd_T35 X (j : Int)).f0) (b := (rd_T35 X ((j + 1 : Nat) : Int)).f1) a.2.1 b.1
    have hw : wrap64 (((j + 1 : Nat) : Int) - 1) = (j : Int) := by rw [w64 (by omega) (by omega)]; omega
    have hless : dropperref07_Less.f (rd_T35 X ((j + 1 : Nat) : Int)).f0 (rd_T35 X ((j + 1 : Nat) : Int)).f1 (rd_T35 X (j : Int)).f0 (rd_T35 X (j : Int)).f1 = some (decide (vq X (j + 1) < vq X j)) := by
      unfold dropperref07_Less.f
      rw [w64 (by omega) (by omega), w64 (by omega) (by omega)]
      congr 1
      exact decide_eq_decide.2 (cross_lt b.2.2 a.2.2)
    have body : ∀ k, dropperref07_Grows.l0 (k + 1) X ((j + 1 : Nat) : Int) = if decide (vq X (j + 1) < vq X j) = true then some (false, 0) else dropperref07_Grows.l0 k X ((j + 1 + 1 : Nat) : Int) := fun k => by
      rw [dropperref07_Grows.l0, if_pos (by omega), if_pos (by omega), hw, if_pos (by omega), if_pos (by omega), hless, wsucc (j + 1) (by omega)]
      rfl
    by_cases c : vq X (j + 1) < vq X j
    · exact ⟨false, (fun z => nomatch z), ev_some _ fun k => by rw [body, decide_eq_true c, if_pos rfl]⟩
    · obtain ⟨x, x1, e⟩ := rgrows_loop h hl d (j + 1 + 1) (by omega) (by omega) (fun q q1 q2 => by
        by_cases z : q = j
        · subst z; exact Rat.not_lt.1 c
        · exact hu q (by omega) q2)
      exact ⟨x, x1, Ev.step (fun k => by rw [body, decide_eq_false c, if_neg (by decide)]) e⟩
theorem ref_Grows_ev {r : List Int} (o : okR r) (X : List S35) (hl : X.length ≤ 1000) : ∃ b : Bool × Int, (b.2 = 0 → b.1 = true → okX r X ∧ ups X) ∧ Ev (fun k => dropperref07_Grows.f k r X) b := by
  classical
  have h40 := o.1.2
  by_cases h : okX r X
  · obtain ⟨b, b1, e⟩ := rgrows_loop h hl _ 1 rfl (Nat.le_refl _) (fun j hj => by omega)
    refine ⟨(b, 0), fun _ z => ⟨h, b1 z⟩, Ev.bind (ref_Valid_ev r (by omega)) ?_⟩
    simp only [decide_eq_true o, if_true]
    refine Ev.bind (IsRow_ev r X (by omega)) ?_
    simp only [decide_eq_true h, if_true]
    exact e
  · refine ⟨(false, 2), (fun z => nomatch z), Ev.bind (ref_Valid_ev r (by omega)) ?_⟩
    simp only [decide_eq_true o, if_true]
    refine Ev.bind (IsRow_ev r X (by omega)) ?_
    simp only [decide_eq_false h, Bool.false_eq_true, if_false]
    exact Ev.now _
theorem asked_loop {r : List Int} {X : List S35} (h : okX r X) (hl : X.length ≤ 1000) : ∀ (d i : Nat), X.length - i = d → i ≤ X.length → Ev (fun k => api_Ratio_44.l0 k X wear_asked_1.f (X.length : Int) (i : Int)) (-1)
  | 0, i, hd, hi => ev_some _ fun k => by rw [api_Ratio_44.l0, if_neg (by omega)]
  | d + 1, i, hd, hi => by
    have a := h.2 i (by omega)
    have hf : wear_asked_1.f (rd_T35 X (i : Int)).f0 (rd_T35 X (i : Int)).f1 = some false := by
      unfold wear_asked_1.f
      rw [within_some, decide_eq_true (by omega), w64 (by omega) (by omega), within_some, decide_eq_true (by omega)]
      rfl
    refine Ev.step (fun k => ?_) (asked_loop h hl d (i + 1) (by omega) (by omega))
    rw [api_Ratio_44.l0, if_pos (by omega), if_pos (by omega), if_pos (by omega), hf, wsucc i (by omega)]
    rfl
theorem asked_ev {r : List Int} (o : okR r) {X : List S35} (h : okX r X) (hl : X.length ≤ 1000) : Ev (fun k => wear_asked.f k r X) 0 := by
  classical
  refine Ev.bind (wear_Valid_ev r) ?_
  simp only [decide_eq_true o, if_true]
  have e : Ev (fun k => api_Ratio_39.f k X wear_asked_1.f) false := Ev.bind (show Ev (fun k => api_Ratio_44.f k X wear_asked_1.f) (-1) from asked_loop h hl _ 0 rfl (by omega)) (Ev.now _)
  refine Ev.congr (f := fun k => (api_Ratio_39.f k X wear_asked_1.f).bind fun t102 => (if t102 = true then (some 2) else (some 0))) (fun k => ?_) (Ev.bind e (by simp only [Bool.false_eq_true, if_false]; exact Ev.now _))
  rw [if_pos (by have := h.1; omega)]
theorem grows_loop {r : List Int} {X : List S35} (h : okX r X) (hu : ups X) (hl : X.length ≤ 1000) : ∀ (i : Nat), i < X.length → Ev (fun k => api_Ratio_24.l0 k X wear_Grows_1.f (i : Int)) true
  | 0, hi => ev_some _ fun k => by rw [api_Ratio_24.l0, if_neg (by omega)]
  | j + 1, hi => by
    have a := okX_at h (i := j) (by omega)
    have b := okX_at h (i := j + 1) (by omega)
    have m1 := mul_bd (a := (rd_T35 X ((j + 1 : Nat) : Int)).f0) (b := (rd_T35 X (j : Int)).f1) b.2.1 a.1
    have m2 := mul_bd (a := (rd_T35 X (j : Int)).f0) (b := (rd_T35 X ((j + 1 : Nat) : Int)).f1) a.2.1 b.1
    have hw : wrap64 (((j + 1 : Nat) : Int) - 1) = (j : Int) := by rw [w64 (by omega) (by omega)]; omega
    have hn : ¬ (rd_T35 X ((j + 1 : Nat) : Int)).f0 * (rd_T35 X (j : Int)).f1 < (rd_T35 X (j : Int)).f0 * (rd_T35 X ((j + 1 : Nat) : Int)).f1 := fun z => by
      have z1 : vq X (j + 1) < vq X j := (cross_lt b.2.2 a.2.2).1 z
      have := hu j hi
      grind
    refine Ev.step (fun k => ?_) (grows_loop h hu hl j (by omega))
    rw [api_Ratio_24.l0, if_pos (by omega), if_pos (by omega), if_pos (by omega), hw, if_pos (by omega), if_pos (by omega)]
    unfold wear_Grows_1.f
    rw [w64 (n := (rd_T35 X ((j + 1 : Nat) : Int)).f0 * (rd_T35 X (j : Int)).f1) (by omega) (by omega), w64 (n := (rd_T35 X (j : Int)).f0 * (rd_T35 X ((j + 1 : Nat) : Int)).f1) (by omega) (by omega), w64 (by omega) (by omega)]
    simp only [Option.bind_some]
    rw [if_neg (by omega)]
theorem Grows_ev {r : List Int} (o : okR r) {X : List S35} (h : okX r X) (hu : ups X) : Ev (fun k => wear_Grows.f k r X) (true, 0) := by
  have h40 := o.1
  have hx := h.1
  refine Ev.bind (asked_ev o h (by omega)) ?_
  simp only [if_true]
  have e : Ev (fun k => api_Ratio_24.f k X wear_Grows_1.f) true := by
    refine Ev.congr (fun k => ?_) (grows_loop h hu (by omega) (X.length - 1) (by omega))
    unfold api_Ratio_24.f
    rw [w64 (by omega) (by omega), show (X.length : Int) - 1 = ((X.length - 1 : Nat) : Int) by omega]
  exact Ev.bind e (Ev.now _)
def rq (r : List Int) (i : Nat) : Rat := ((rd r (i : Int) : Int) : Rat)
/-- The sum of the squares of the differences. -/
def es (r : List Int) (g : Nat → Rat) : Nat → Rat
  | 0 => 0
  | i + 1 => es r g i + (g i - rq r i) * (g i - rq r i)
def qs (q : Nat → Rat) : Nat → Rat
  | 0 => 0
  | i + 1 => qs q i + q i
theorem pq_succ (r : List Int) (i : Nat) : pq r (i + 1) = pq r i + rq r i := by
  unfold pq rq; rw [← Rat.intCast_add]; rfl
theorem nq_succ (i : Nat) : nq (i + 1) = nq i + 1 := by
  unfold nq
  rw [show ((i + 1 : Nat) : Int) = (i : Int) + 1 by omega, Rat.intCast_add]
  rfl
theorem qs_in {r : List Int} {q : Nat → Rat} {s e : Nat} {μ : Rat} (h0 : qs q s = pq r s) (hq : ∀ i, s ≤ i → i < e → q i = μ) : ∀ d, s + d ≤ e → qs q (s + d) = pq r s + μ * (nq (s + d) - nq s)
  | 0, _ => by
    rw [Nat.add_zero, h0]
    grind
  | d + 1, h => by
    have ih := qs_in h0 hq d (by omega)
    have h1 := hq (s + d) (by omega) (by omega)
    show qs q (s + d) + q (s + d) = _
    rw [ih, h1, show s + (d + 1) = s + d + 1 by omega, nq_succ]
    grind
theorem qs_cut {r : List Int} {E : Nat → Nat} {m : Nat} (h : Cuts r E m) {q : Nat → Rat} (hq : ∀ k, k < m → ∀ i, E k ≤ i → i < E (k + 1) → q i = mn r (E k) (E (k + 1))) : ∀ k, k ≤ m → qs q (E k) = pq r (E k)
  | 0, _ => by
    rw [h.1]
    show (0 : Rat) = ((0 : Int) : Rat)
    rfl
  | k + 1, hk => by
    have ih := qs_cut h hq k (by omega)
    have s1 := (h.2.2.1 k (by omega)).1
    have := qs_in ih (hq k (by omega)) (E (k + 1) - E k) (by omega)
    rw [show E k + (E (k + 1) - E k) = E (k + 1) by omega, mn_mul s1] at this
    grind
theorem qs_low {r : List Int} {E : Nat → Nat} {m : Nat} (h : Cuts r E m) {q : Nat → Rat} (hq : ∀ k, k < m → ∀ i, E k ≤ i → i < E (k + 1) → q i = mn r (E k) (E (k + 1))) {i : Nat} (hi : i < r.length) : qs q i ≤ pq r i := by
  obtain ⟨k, k1, k2, k3⟩ := cover h hi
  have a := qs_in (qs_cut h hq k (by omega)) (hq k k1) (i - E k) (by omega)
  rw [show E k + (i - E k) = i by omega] at a
  have g := (h.2.2.1 k k1).2 i k2 (by omega)
  rw [a]
  grind
theorem sq_nonneg (x : Rat) : 0 ≤ x * x := by
  rcases (Rat.le_total : 0 ≤ x ∨ x ≤ 0) with h | h
  · exact Rat.mul_nonneg h h
  · have := Rat.mul_nonneg (a := -x) (b := -x) (by grind) (by grind)
    grind
theorem opt_step {r : List Int} {E : Nat → Nat} {m : Nat} (h : Cuts r E m) {q g : Nat → Rat} (hq : ∀ k, k < m → ∀ i, E k ≤ i → i < E (k + 1) → q i = mn r (E k) (E (k + 1))) (hg : ∀ i, i + 1 < r.length → g i ≤ g (i + 1)) : ∀ i, i < r.length → 2 * ((g i - q i) * (qs q (i + 1) - pq r (i + 1))) ≤ es r g (i + 1) - es r q (i + 1)
  | 0, hi => by
    have e1 : es r g 1 = (g 0 - rq r 0) * (g 0 - rq r 0) := by simp only [es]; grind
    have e2 : es r q 1 = (q 0 - rq r 0) * (q 0 - rq r 0) := by simp only [es]; grind
    have e3 : qs q 1 = q 0 := by simp only [qs]; grind
    have e4 : pq r 1 = rq r 0 := by
      rw [pq_succ]
      have : pq r 0 = 0 := rfl
      grind
    have s := sq_nonneg (g 0 - q 0)
    rw [e1, e2, e3, e4]
    grind
  | i + 1, hi => by
    have ih := opt_step h hq hg i (by omega)
    have s := sq_nonneg (g (i + 1) - q (i + 1))
    have lo := qs_low h hq hi
    have up := hg i hi
    have p1 := Rat.mul_nonneg (a := g (i + 1) - g i) (b := pq r (i + 1) - qs q (i + 1)) (by grind) (by grind)
    have p2 : (q (i + 1) - q i) * (pq r (i + 1) - qs q (i + 1)) = 0 := by
      obtain ⟨k, k1, k2, k3⟩ := cover h (i := i) (by omega)
      by_cases c : i + 1 < E (k + 1)
      · rw [hq k k1 i k2 k3, hq k k1 (i + 1) (by omega) c]
        grind
      · have e : i + 1 = E (k + 1) := by omega
        have := qs_cut h hq (k + 1) (by omega)
        rw [← e] at this
        rw [this]
        grind
    have e1 : es r g (i + 1 + 1) = es r g (i + 1) + (g (i + 1) - rq r (i + 1)) * (g (i + 1) - rq r (i + 1)) := rfl
    have e2 : es r q (i + 1 + 1) = es r q (i + 1) + (q (i + 1) - rq r (i + 1)) * (q (i + 1) - rq r (i + 1)) := rfl
    have e3 : qs q (i + 1 + 1) = qs q (i + 1) + q (i + 1) := rfl
    have e4 := pq_succ r (i + 1)
    rw [e1, e2, e3, e4]
    grind
/-- .. so the nearest row's error is least. -/
theorem opt {r : List Int} (o : okR r) {E : Nat → Nat} {m : Nat} (h : Cuts r E m) {q g : Nat → Rat} (hq : ∀ k, k < m → ∀ i, E k ≤ i → i < E (k + 1) → q i = mn r (E k) (E (k + 1))) (hg : ∀ i, i + 1 < r.length → g i ≤ g (i + 1)) : es r q r.length ≤ es r g r.length := by
  obtain ⟨n, hn⟩ : ∃ n, r.length = n + 1 := ⟨r.length - 1, by have := o.1.1; omega⟩
  have a := opt_step h hq hg n (by omega)
  have b := qs_cut h hq m (Nat.le_refl _)
  rw [h.2.1, hn] at b
  rw [hn]
  have c : qs q (n + 1) - pq r (n + 1) = 0 := by grind
  rw [c] at a
  grind
/-- The least common multiple, as both programs reckon it. -/
theorem lcm_step {c D : Int} (hc : 0 < c) (hD : 0 < D) : ∃ c' : Int, 0 < c' ∧ c * (D.tdiv (Int.gcd c D)) = c' ∧ (c.tdiv (Int.gcd c D)) * D = c' ∧ c ∣ c' ∧ D ∣ c' ∧ D.tdiv (Int.gcd c D) ≤ D ∧ 0 < D.tdiv (Int.gcd c D) ∧ c.tdiv (Int.gcd c D) ≤ c ∧ 0 < c.tdiv (Int.gcd c D) ∧ 0 < (Int.gcd c D : Int) := by
  have d1 : ((Int.gcd c D : Nat) : Int) ∣ c := Int.gcd_dvd_left ..
  have d2 : ((Int.gcd c D : Nat) : Int) ∣ D := Int.gcd_dvd_right ..
  have g0 : 0 < (Int.gcd c D : Int) := by
    have : 0 < Int.gcd c D := Int.gcd_pos_of_ne_zero_left _ (by omega)
    omega
  rw [Int.tdiv_eq_ediv_of_dvd d1, Int.tdiv_eq_ediv_of_dvd d2]
  generalize ((Int.gcd c D : Nat) : Int) = g at *
  obtain ⟨x, rfl⟩ := d1
  obtain ⟨y, rfl⟩ := d2
  rw [Int.mul_ediv_cancel_left _ (by omega), Int.mul_ediv_cancel_left _ (by omega)]
  have hx : 0 < x := Int.pos_of_mul_pos_right hc g0
  have hy : 0 < y := Int.pos_of_mul_pos_right hD g0
  have l1 : 1 * y ≤ g * y := Int.mul_le_mul_of_nonneg_right (by omega) (by omega)
  have l2 : 1 * x ≤ g * x := Int.mul_le_mul_of_nonneg_right (by omega) (by omega)
  refine ⟨g * x * y, Int.mul_pos (Int.mul_pos g0 hx) hy, rfl, ?_, ⟨y, rfl⟩, ⟨x, ?_⟩, by omega, hy, by omega, hx, g0⟩
  · rw [Int.mul_left_comm, Int.mul_assoc]
  · rw [Int.mul_assoc, Int.mul_assoc, Int.mul_comm x]
/-- One difference, in whole numbers. -/
def df (r : List Int) (X : List S35) (c : Int) (i : Nat) : Int := (rd_T35 X (i : Int)).f0 * (c.tdiv (rd_T35 X (i : Int)).f1) - rd r (i : Int) * c
theorem df_facts {r : List Int} (o : okR r) {X : List S35} (h : okX r X) {c : Int} (hc : 0 < c) (hc2 : c ≤ 10000) {i : Nat} (hi : i < r.length) (hd : (rd_T35 X (i : Int)).f1 ∣ c) :
    wrap64 ((wrap64 ((wrap64 ((rd_T35 X (i : Int)).f0 * (wrap64 (Int.tdiv c (rd_T35 X (i : Int)).f1)))) - (wrap64 ((rd r (i : Int)) * c)))) * (wrap64 ((wrap64 ((rd_T35 X (i : Int)).f0 * (wrap64 (Int.tdiv c (rd_T35 X (i : Int)).f1)))) - (wrap64 ((rd r (i : Int)) * c))))) = df r X c i * df r X c i ∧
    0 ≤ df r X c i * df r X c i ∧ df r X c i * df r X c i ≤ 10000000000000000 ∧ ((df r X c i : Int) : Rat) = (c : Rat) * (vq X i - rq r i) ∧ ¬ (rd_T35 X (i : Int)).f1 = 0 := by
  have a := h.2 i (by rw [h.1]; exact hi)
  have b := o.2 i hi
  unfold df
  rw [Int.tdiv_eq_ediv_of_dvd hd]
  have hv : vq X i * ((rd_T35 X (i : Int)).f1 : Rat) = ((rd_T35 X (i : Int)).f0 : Rat) := by
    unfold vq
    rw [Rat.divInt_eq_div]
    have : ((rd_T35 X (i : Int)).f1 : Rat) ≠ 0 := by
      intro z
      have z2 : ((rd_T35 X (i : Int)).f1 : Rat) = ((0 : Int) : Rat) := z
      have := Rat.intCast_inj.1 z2
      omega
    exact Rat.div_mul_cancel this
  unfold rq
  generalize (rd_T35 X (i : Int)).f0 = N at *
  generalize (rd_T35 X (i : Int)).f1 = D at *
  generalize rd r (i : Int) = x at *
  obtain ⟨y, rfl⟩ := hd
  rw [Int.mul_ediv_cancel_left _ (by omega)]
  have hy : 0 < y := Int.pos_of_mul_pos_right hc (by omega)
  have y2 : 1 * y ≤ D * y := Int.mul_le_mul_of_nonneg_right (by omega) (by omega)
  have n1 : N * y ≤ 10000 * D * y := Int.mul_le_mul_of_nonneg_right a.2.2 (by omega)
  have n2 : 0 ≤ N * y := Int.mul_nonneg a.2.1 (by omega)
  rw [Int.mul_assoc] at n1
  have x1 : x * (D * y) ≤ 10000 * (D * y) := Int.mul_le_mul_of_nonneg_right b.2 (by omega)
  have x2 : 0 ≤ x * (D * y) := Int.mul_nonneg b.1 (by omega)
  have hb : (N * y - x * (D * y)).natAbs ≤ 100000000 := by omega
  have sq := mul_bd hb hb
  have sq0 : 0 ≤ (N * y - x * (D * y)) * (N * y - x * (D * y)) := by
    rcases Int.le_total 0 (N * y - x * (D * y)) with z | z
    · exact Int.mul_nonneg z z
    · exact Int.mul_nonneg_of_nonpos_of_nonpos z z
  refine ⟨?_, sq0, by omega, ?_, by omega⟩
  · rw [w64 (n := y) (by omega) (by omega), w64 (n := N * y) (by omega) (by omega), w64 (n := x * (D * y)) (by omega) (by omega), w64 (n := N * y - x * (D * y)) (by omega) (by omega), w64 (by omega) (by omega)]
  · rw [Rat.intCast_sub, Rat.intCast_mul, Rat.intCast_mul, Rat.intCast_mul]
    grind
def sm (r : List Int) (X : List S35) (c : Int) : Nat → Int
  | 0 => 0
  | i + 1 => sm r X c i + df r X c i * df r X c i
theorem sm_facts {r : List Int} (o : okR r) {X : List S35} (h : okX r X) {c : Int} (hc : 0 < c) (hc2 : c ≤ 10000) (hd : ∀ j, j < r.length → (rd_T35 X (j : Int)).f1 ∣ c) : ∀ i, i ≤ r.length → 0 ≤ sm r X c i ∧ sm r X c i ≤ 10000000000000000 * (i : Int) ∧ ((sm r X c i : Int) : Rat) = (c : Rat) * c * es r (vq X) i
  | 0, _ => by
    refine ⟨Int.le_refl _, Int.le_refl _, ?_⟩
    show ((0 : Int) : Rat) = _ * (0 : Rat)
    have : ((0 : Int) : Rat) = 0 := rfl
    grind
  | i + 1, hi => by
    obtain ⟨h1, h2, h3⟩ := sm_facts o h hc hc2 hd i (by omega)
    obtain ⟨_, f1, f2, f3, _⟩ := df_facts o h hc hc2 (i := i) (by omega) (hd i (by omega))
    refine ⟨by simp only [sm]; omega, by simp only [sm]; omega, ?_⟩
    simp only [sm, es]
    rw [Rat.intCast_add, Rat.intCast_mul, h3, f3]
    grind
theorem cc_bd {c : Int} (hc : 0 < c) (hc2 : c ≤ 10000) : 0 < c * c ∧ c * c ≤ 100000000 := by
  have h1 := mul_bd (a := c) (b := c) (A := 10000) (B := 10000) (by omega) (by omega)
  have h2 := Int.mul_pos hc hc
  omega
theorem sm_end {r : List Int} (o : okR r) {X : List S35} (h : okX r X) {c : Int} (hc : 0 < c) (hc2 : c ≤ 10000) (hd : ∀ j, j < r.length → (rd_T35 X (j : Int)).f1 ∣ c) : divInt (sm r X c r.length) (c * c) = es r (vq X) r.length := by
  have h3 := (sm_facts o h hc hc2 hd r.length (Nat.le_refl _)).2.2
  rw [Rat.divInt_eq_div, h3, Rat.intCast_mul]
  have c0 : (c : Rat) ≠ 0 := by
    intro z
    have z2 : (c : Rat) = ((0 : Int) : Rat) := z
    have := Rat.intCast_inj.1 z2
    omega
  grind
/-- What Error tells: that the common denominator is too great, or the error. -/
def errS (e : Rat) (R : Int × Int × Int) : Prop := R = (0, 0, 4) ∨ (R = (e.num, (e.den : Int), 0) ∧ 0 ≤ e.num ∧ e.num ≤ 400000000000000000 ∧ (e.den : Int) ≤ 100000000)
theorem err_fin {r : List Int} (o : okR r) {X : List S35} (h : okX r X) {c : Int} (hc : 0 < c) (hc2 : c ≤ 10000) (hd : ∀ j, j < r.length → (rd_T35 X (j : Int)).f1 ∣ c) : errS (es r (vq X) r.length) ((es r (vq X) r.length).num, ((es r (vq X) r.length).den : Int), 0) ∧ Ev (fun k => wear_ratio.f k (sm r X c r.length) (wrap64 (c * c))) ((es r (vq X) r.length).num, ((es r (vq X) r.length).den : Int)) ∧ Ev (fun k => dropperref07_ratio.f k (sm r X c r.length) (wrap64 (c * c))) ((es r (vq X) r.length).num, ((es r (vq X) r.length).den : Int)) := by
  have h40 := o.1.2
  obtain ⟨s1, s2, _⟩ := sm_facts o h hc hc2 hd r.length (Nat.le_refl _)
  obtain ⟨c1, c2⟩ := cc_bd hc hc2
  obtain ⟨b1, b2⟩ := ratio_num_le (n := sm r X c r.length) c1
  have b3 := num_nonneg s1 c1
  obtain ⟨e1, e2⟩ := ratio_ev (n := sm r X c r.length) (d := c * c) s1 (by omega) c1 (by omega)
  rw [w64 (by omega) (by omega)]
  rw [sm_end o h hc hc2 hd] at b1 b2 b3 e1 e2
  exact ⟨.inr ⟨rfl, b3, by omega, by omega⟩, e1, e2⟩
theorem err_l1 {r : List Int} (o : okR r) {X : List S35} (h : okX r X) {c : Int} (hc : 0 < c) (hc2 : c ≤ 10000) (hd : ∀ j, j < r.length → (rd_T35 X (j : Int)).f1 ∣ c) : ∀ (d i : Nat), r.length - i = d → i ≤ r.length →
    Ev (fun k => wear_Error.l1 k r c (sm r X c i) X (X.length : Int) (i : Int)) ((es r (vq X) r.length).num, ((es r (vq X) r.length).den : Int), 0) ∧ Ev (fun k => dropperref07_Error.l1 k r X c (sm r X c i) (i : Int)) ((es r (vq X) r.length).num, ((es r (vq X) r.length).den : Int), 0)
  | 0, i, hx, hi => by
    obtain rfl : i = r.length := by omega
    have hl := h.1
    obtain ⟨_, e1, e2⟩ := err_fin o h hc hc2 hd
    exact ⟨Ev.step (fun k => by rw [wear_Error.l1, if_neg (by omega)]) (Ev.bind e1 (Ev.now _)), Ev.step (fun k => by rw [dropperref07_Error.l1, if_neg (by omega)]) (Ev.bind e2 (Ev.now _))⟩
  | d + 1, i, hx, hi => by
    have hl := h.1
    have h40 := o.1.2
    obtain ⟨e1, e2⟩ := err_l1 o h hc hc2 hd d (i + 1) (by omega) (by omega)
    obtain ⟨f0, f1, f2, _, f4⟩ := df_facts o h hc hc2 (i := i) (by omega) (hd i (by omega))
    obtain ⟨s1, s2, _⟩ := sm_facts o h hc hc2 hd i (by omega)
    refine ⟨Ev.step (fun k => ?_) e1, Ev.step (fun k => ?_) e2⟩
    · rw [wear_Error.l1, if_pos (by omega), if_pos (by omega), if_pos (by omega), if_neg f4, if_pos (by omega), f0, w64 (n := sm r X c i + df r X c i * df r X c i) (by omega) (by omega), wsucc i (by omega)]
      rfl
    · rw [dropperref07_Error.l1, if_pos (by omega), if_pos (by omega), if_neg f4, if_pos (by omega), f0, w64 (n := sm r X c i + df r X c i * df r X c i) (by omega) (by omega), wsucc i (by omega)]
      rfl
theorem err_l0 {r : List Int} (o : okR r) {X : List S35} (h : okX r X) : ∀ (d i : Nat) (c : Int), r.length - i = d → i ≤ r.length → 0 < c → c ≤ 10000 → (∀ j, j < i → (rd_T35 X (j : Int)).f1 ∣ c) →
    (∃ R, errS (es r (vq X) r.length) R ∧ Ev (fun k => wear_Error.l0 k r X c X (X.length : Int) (i : Int)) R) ∧ ∃ R, errS (es r (vq X) r.length) R ∧ Ev (fun k => dropperref07_Error.l0 k r X c (i : Int)) R
  | 0, i, c, hx, hi, hc, hc2, hd => by
    obtain rfl : i = r.length := by omega
    have hl := h.1
    obtain ⟨e1, e2⟩ := err_l1 o h hc hc2 hd _ 0 rfl (by omega)
    have es' := (err_fin o h hc hc2 hd).1
    exact ⟨⟨_, es', Ev.step (fun k => by rw [wear_Error.l0, if_neg (by omega)]; rfl) e1⟩, ⟨_, es', Ev.step (fun k => by rw [dropperref07_Error.l0, if_neg (by omega)]; rfl) e2⟩⟩
  | d + 1, i, c, hx, hi, hc, hc2, hd => by
    have hl := h.1
    have h40 := o.1.2
    have a := h.2 i (by omega)
    obtain ⟨c', p0, p1, p2, p3, p4, p5, p6, p7, p8, p9⟩ := lcm_step hc (D := (rd_T35 X (i : Int)).f1) (by omega)
    have hg := gcd_ev (a := c) (b := (rd_T35 X (i : Int)).f1) (by omega) (by omega) (by omega) (by omega) (.inl (by omega))
    have hg' := div_ev (a := c) (b := (rd_T35 X (i : Int)).f1) (by omega) (by omega) (by omega) (by omega) (.inl (by omega))
    have m1 := mul_bd (a := c) (b := (rd_T35 X (i : Int)).f1.tdiv (Int.gcd c (rd_T35 X (i : Int)).f1)) (A := 10000) (B := 1000) (by omega) (by omega)
    have g0 : ¬ (Int.gcd c (rd_T35 X (i : Int)).f1 : Int) = 0 := fun z => by rw [z] at p9; exact absurd p9 (by decide)
    have q1 : wrap64 (c * wrap64 ((rd_T35 X (i : Int)).f1.tdiv (Int.gcd c (rd_T35 X (i : Int)).f1))) = c' := by
      rw [w64 (n := (rd_T35 X (i : Int)).f1.tdiv (Int.gcd c (rd_T35 X (i : Int)).f1)) (by omega) (by omega), w64 (by omega) (by omega), p1]
    have q2 : wrap64 (wrap64 (c.tdiv (Int.gcd c (rd_T35 X (i : Int)).f1)) * (rd_T35 X (i : Int)).f1) = c' := by
      rw [w64 (n := c.tdiv (Int.gcd c (rd_T35 X (i : Int)).f1)) (by omega) (by omega), p2, w64 (by omega) (by omega)]
    have body1 : ∀ {R}, Ev (fun k => if c' > 10000 then some ((0 : Int), (0 : Int), (4 : Int)) else wear_Error.l0 k r X c' X (X.length : Int) ((i + 1 : Nat) : Int)) R → Ev (fun k => wear_Error.l0 k r X c X (X.length : Int) (i : Int)) R := fun {R} e => by
      refine Ev.step (f := fun k => (wear_gcd.f k c (rd_T35 X (i : Int)).f1).bind fun t105 => (if t105 = 0 then (none) else (if (wrap64 (c * (wrap64 (Int.tdiv (rd_T35 X (i : Int)).f1 t105)))) > 10000 then (some (0, 0, 4)) else (wear_Error.l0 k r X (wrap64 (c * (wrap64 (Int.tdiv (rd_T35 X (i : Int)).f1 t105)))) X (X.length : Int) (wrap64 ((i : Int) + 1)))))) (fun k => ?_) (Ev.bind hg ?_)
      · rw [wear_Error.l0, if_pos (by omega), if_pos (by omega), if_pos (by omega)]
      · simp only [if_neg g0, q1, wsucc i (by omega)]
        exact e
    have body2 : ∀ {R}, Ev (fun k => if c' > 10000 then some ((0 : Int), (0 : Int), (4 : Int)) else dropperref07_Error.l0 k r X c' ((i + 1 : Nat) : Int)) R → Ev (fun k => dropperref07_Error.l0 k r X c (i : Int)) R := fun {R} e => by
      refine Ev.step (f := fun k => (dropperref07_divisor.f k c (rd_T35 X (i : Int)).f1).bind fun t105 => (if t105 = 0 then (none) else (if (wrap64 ((wrap64 (Int.tdiv c t105)) * (rd_T35 X (i : Int)).f1)) > 10000 then (some (0, 0, 4)) else (dropperref07_Error.l0 k r X (wrap64 ((wrap64 (Int.tdiv c t105)) * (rd_T35 X (i : Int)).f1)) (wrap64 ((i : Int) + 1)))))) (fun k => ?_) (Ev.bind hg' ?_)
      · rw [dropperref07_Error.l0, if_pos (by omega), if_pos (by omega)]
      · simp only [if_neg g0, q2, wsucc i (by omega)]
        exact e
    by_cases c4 : c' > 10000
    · exact ⟨⟨_, .inl rfl, body1 (by simp only [if_pos c4]; exact Ev.now _)⟩, ⟨_, .inl rfl, body2 (by simp only [if_pos c4]; exact Ev.now _)⟩⟩
    · obtain ⟨⟨R, r1, e1⟩, ⟨R', r2, e2⟩⟩ := err_l0 o h d (i + 1) c' (by omega) (by omega) p0 (by omega) (fun j hj => by
        by_cases z : j = i
        · subst z; exact p4
        · exact Int.dvd_trans (hd j (by omega)) p3)
      exact ⟨⟨R, r1, body1 (by simp only [if_neg c4]; exact e1)⟩, ⟨R', r2, body2 (by simp only [if_neg c4]; exact e2)⟩⟩
theorem Error_ev {r : List Int} (o : okR r) {X : List S35} (h : okX r X) : ∃ R, errS (es r (vq X) r.length) R ∧ Ev (fun k => wear_Error.f k r X) R := by
  have h40 := o.1
  have hl := h.1
  obtain ⟨R, r1, e⟩ := (err_l0 o h _ 0 1 rfl (by omega) (by omega) (by omega) (fun j hj => by omega)).1
  refine ⟨R, r1, Ev.bind (asked_ev o h (by omega)) ?_⟩
  simp only [if_true]
  exact e
theorem ref_Error_ev {r : List Int} (o : okR r) {X : List S35} (h : okX r X) : ∃ R, errS (es r (vq X) r.length) R ∧ Ev (fun k => dropperref07_Error.f k r X) R := by
  classical
  have h40 := o.1
  have hl := h.1
  obtain ⟨R, r1, e⟩ := (err_l0 o h _ 0 1 rfl (by omega) (by omega) (by omega) (fun j hj => by omega)).2
  refine ⟨R, r1, Ev.bind (ref_Valid_ev r (by omega)) ?_⟩
  simp only [decide_eq_true o, if_true]
  refine Ev.bind (IsRow_ev r X (by omega)) ?_
  simp only [decide_eq_true h, if_true]
  exact e
/-- 'less' of two errors, the second of which is not greater. -/
theorem top_less {a b c d : Int} (ha : 0 ≤ a) (ha2 : a ≤ 400000000000000000) (hb : 0 < b) (hb2 : b ≤ 100000000) (hc : 0 ≤ c) (hc2 : c ≤ 400000000000000000) (hd : 0 < d) (hd2 : d ≤ 100000000) (h : c * b ≤ a * d) : droppertop_less.f a b c d = some false := by
  unfold droppertop_less.f
  rw [if_neg (by omega), if_neg (by omega), Int.tdiv_eq_ediv_of_nonneg ha, Int.tdiv_eq_ediv_of_nonneg hc, Int.tmod_eq_emod_of_nonneg ha, Int.tmod_eq_emod_of_nonneg hc]
  have a1 := Int.emod_nonneg a (show b ≠ 0 by omega)
  have a2 := Int.emod_lt_of_pos a hb
  have a3 := Int.emod_add_mul_ediv a b
  have c1 := Int.emod_nonneg c (show d ≠ 0 by omega)
  have c2 := Int.emod_lt_of_pos c hd
  have c3 := Int.emod_add_mul_ediv c d
  have a4 : 0 ≤ a / b := Int.ediv_nonneg ha (by omega)
  have c4 : 0 ≤ c / d := Int.ediv_nonneg hc (by omega)
  have a5 : a / b ≤ a := Int.ediv_le_self _ ha
  have c5 : c / d ≤ c := Int.ediv_le_self _ hc
  generalize a / b = x at *
  generalize a % b = u at *
  generalize c / d = y at *
  generalize c % d = v at *
  have m1 := mul_bd (a := u) (b := d) (A := 100000000) (B := 100000000) (by omega) (by omega)
  have m2 := mul_bd (a := v) (b := b) (A := 100000000) (B := 100000000) (by omega) (by omega)
  rw [w64 (n := x) (by omega) (by omega), w64 (n := y) (by omega) (by omega), w64 (n := u * d) (by omega) (by omega), w64 (n := v * b) (by omega) (by omega)]
  subst a3 c3
  have e1 : (v + d * y) * b = v * b + d * b * y := by rw [Int.add_mul, Int.mul_assoc, Int.mul_comm y, ← Int.mul_assoc]
  have e2 : (u + b * x) * d = u * d + d * b * x := by rw [Int.add_mul, Int.mul_comm (b * x), ← Int.mul_assoc]
  rw [e1, e2] at h
  by_cases c : x = y
  · rw [if_pos c]
    subst c
    congr 1
    exact decide_eq_false (by omega)
  · rw [if_neg c]
    congr 1
    refine decide_eq_false (fun z => ?_)
    -- x + 1 ≤ y
    have p1 : d * b * (x + 1) ≤ d * b * y := Int.mul_le_mul_of_nonneg_left (by omega) (by have := Int.mul_pos hd hb; omega)
    rw [Int.mul_add, Int.mul_one] at p1
    have p2 : u * d < b * d := Int.mul_lt_mul_of_pos_right a2 hd
    rw [Int.mul_comm b d] at p2
    have p3 : 0 ≤ v * b := Int.mul_nonneg c1 (by omega)
    omega
set_option maxRecDepth 100000 in
theorem first_ev : Ev (fun k => dropperlaw07_First.f k) true := Ev.of (fun k => dropperlaw07_First.mono k) (k := 100) (by decide +kernel)
/-- All that is known of the nearest row and its blocks. -/
structure Known (r : List Int) (E : Nat → Nat) (m : Nat) (X : List S35) : Prop where
  o : okR r
  cuts : Cuts r E m
  m1 : 1 ≤ m
  m2 : m ≤ 40
  near : isNear r E m X
  okx : okX r X
  up : ups X
  mm : ∀ i, i < r.length → rd_T35 X (i : Int) = toS (vq X i) ∧ MM r i (vq X i)
def bl (E : Nat → Nat) (m : Nat) : List Int := (List.range m).map fun q : Nat => ((E q : Nat) : Int)
theorem bl_len (E : Nat → Nat) (m : Nat) : (bl E m).length = m := by simp [bl]
theorem bl_rd {E : Nat → Nat} {m k : Nat} (h : k < m) : rd (bl E m) (k : Int) = (E k : Int) := by
  rw [rd_get (by rw [bl_len]; exact h)]; simp [bl]
section
variable {r : List Int} {E : Nat → Nat} {m : Nat} {X : List S35}
theorem top_13 (K : Known r E m X) {Y : List S35} (hY : okX r Y) (hu : ups Y) {R R' : Int × Int × Int} (h : errS (es r (vq X) r.length) R) (h' : errS (es r (vq Y) r.length) R') :
    Ev (fun k => if R.2.2 = 0 then (droppertop_TopWear.j13 k R.2.2 (R'.2.2 != 0) R.1 R.2.1 R'.1 R'.2.1) else (droppertop_TopWear.j13 k R.2.2 true R.1 R.2.1 R'.1 R'.2.1)) true := by
  have fin : ∀ {f : Nat → Option Bool}, (∀ k, f (k + 1) = (dropperlaw07_First.f k).bind fun t649 => (some t649)) → Ev f true := fun hf => Ev.step hf (Ev.bind first_ev (Ev.now _))
  rcases h with h | ⟨h, a1, a2, a3⟩
  · subst h
    simp only [show ¬ ((4 : Int) = 0) by decide, if_false]
    refine fin fun k => ?_
    rw [droppertop_TopWear.j13, if_pos rfl, if_neg (by decide), if_pos rfl]
  · subst h
    simp only [if_true]
    rcases h' with h' | ⟨h', b1, b2, b3⟩
    · subst h'
      refine fin fun k => ?_
      rw [droppertop_TopWear.j13, if_pos (by decide), if_pos rfl]
    · subst h'
      have hle := opt K.o K.cuts (q := vq X) (g := vq Y) (fun k hk i h1 h2 => vq_toS (K.near.2 k hk i h1 h2)) (fun i hi => hu i (by rw [hY.1]; exact hi))
      have hc := (Rat.le_iff _ _).1 hle
      have d1 := (es r (vq X) r.length).den_pos
      have d2 := (es r (vq Y) r.length).den_pos
      have hless := top_less (a := (es r (vq Y) r.length).num) (b := ((es r (vq Y) r.length).den : Int)) (c := (es r (vq X) r.length).num) (d := ((es r (vq X) r.length).den : Int)) b1 b2 (by omega) b3 a1 a2 (by omega) a3 hc
      refine fin fun k => ?_
      rw [droppertop_TopWear.j13, if_neg (show ¬ (((0 : Int) != 0) = true) by decide), if_pos (by show (1 : Int) ≤ ((es r (vq X) r.length).den : Int); omega), hless]
      rfl
theorem top_11 (K : Known r E m X) (Y : List S35) (hY : Y.length ≤ 60) : Ev (fun k => droppertop_TopWear.j11 k r Y X) true := by
  obtain ⟨b, hb, e⟩ := ref_Grows_ev K.o Y (by omega)
  have first : Ev (fun k => droppertop_TopWear.j12 k r Y X true) true := by
    refine Ev.step (fun k => ?_) (Ev.bind first_ev (Ev.now _))
    rw [droppertop_TopWear.j12, if_pos rfl]
  refine Ev.step (f := fun k => (dropperref07_Grows.f k r Y).bind fun bt638 => (if bt638.2 = 0 then (droppertop_TopWear.j12 k r Y X (!bt638.1)) else (droppertop_TopWear.j12 k r Y X true))) (fun k => by rw [droppertop_TopWear.j11]) (Ev.bind e ?_)
  by_cases c : b.2 = 0
  · simp only [if_pos c]
    cases c1 : b.1 with
    | false => exact first
    | true =>
      obtain ⟨h1, h2⟩ := hb c c1
      obtain ⟨R, r1, e1⟩ := Error_ev K.o K.okx
      obtain ⟨R', r2, e2⟩ := ref_Error_ev K.o h1
      refine Ev.step (f := fun k => (wear_Error.f k r X).bind fun bt641 => ((dropperref07_Error.f k r Y).bind fun bt645 => (if bt641.2.2 = 0 then (droppertop_TopWear.j13 k bt641.2.2 (bt645.2.2 != 0) bt641.1 bt641.2.1 bt645.1 bt645.2.1) else (droppertop_TopWear.j13 k bt641.2.2 true bt641.1 bt641.2.1 bt645.1 bt645.2.1)))) (fun k => ?_) (Ev.bind e1 (Ev.bind e2 (top_13 K h1 h2 r1 r2)))
      rw [droppertop_TopWear.j12, if_neg (by decide)]
  · simp only [if_neg c]
    exact first
theorem top_l3 (K : Known r E m X) (Y : List S35) (hY : Y.length ≤ 60) (hu : ∀ j, j + 1 < r.length → rd r (j : Int) ≤ rd r ((j + 1 : Nat) : Int)) : ∀ (d i : Nat), r.length - i = d → i ≤ r.length → Ev (fun k => droppertop_TopWear.l3 k r Y X (i : Int)) true
  | 0, i, hd, hi => Ev.step (fun k => by rw [droppertop_TopWear.l3, if_neg (by omega)]) (top_11 K Y hY)
  | d + 1, i, hd, hi => by
    have h40 := K.o.1.2
    have hl := K.near.1
    obtain ⟨h1, h2⟩ := K.mm i (by omega)
    have e := MM_unique h2 (MM_self hu (i := i) (by omega))
    have ex : rd_T35 X (i : Int) = ⟨rd r (i : Int), 1⟩ := by
      rw [h1, e]
      rfl
    refine Ev.step (fun k => ?_) (top_l3 K Y hY hu d (i + 1) (by omega) (by omega))
    rw [droppertop_TopWear.l3, if_pos (by omega), if_pos (by omega), if_pos (by omega), ex, wsucc i (by omega)]
    simp
theorem top_l2 (K : Known r E m X) (Y : List S35) (hY : Y.length ≤ 60) : ∀ (d i : Nat), r.length - i = d → i ≤ r.length → Ev (fun k => droppertop_TopWear.l2 k r Y X (bl E m) (ps r r.length - ps r i) (i : Int)) true
  | 0, i, hd, hi => by
    obtain rfl : i = r.length := by omega
    obtain ⟨x, x1, x2, e⟩ := Falls_ev K.o
    refine Ev.step (f := fun k => (wear_Falls.f k r).bind fun bt634 => (if bt634.2 = 0 then (droppertop_TopWear.j8 k r Y X (bl E m) bt634.1 false) else (droppertop_TopWear.j8 k r Y X (bl E m) bt634.1 true))) (fun k => ?_) (Ev.bind e ?_)
    · rw [droppertop_TopWear.l2, if_neg (by omega), Int.sub_self]
      rfl
    · simp only [if_true]
      by_cases c : x = 0
      · have e3 := top_l3 K Y hY (x2 c) _ 0 rfl (by omega)
        refine Ev.step (f := fun k => droppertop_TopWear.j9 k r Y X true) (fun k => ?_) (Ev.step (fun k => by rw [droppertop_TopWear.j9, if_pos rfl]; rfl) e3)
        have hm := K.m1
        rw [droppertop_TopWear.j8, if_neg (by decide), if_pos c, bl_len, decide_eq_true (by omega)]
      · refine Ev.step (f := fun k => droppertop_TopWear.j9 k r Y X false) (fun k => ?_) (Ev.step (fun k => by rw [droppertop_TopWear.j9, if_neg (by decide)]) (top_11 K Y hY))
        rw [droppertop_TopWear.j8, if_neg (by decide), if_neg c]
  | d + 1, i, hd, hi => by
    have h40 := K.o.1.2
    have p1 := ps_bd K.o (b := r.length) (Nat.le_refl _) (a := i) (by omega)
    have p2 := K.o.2 i (by omega)
    refine Ev.step (fun k => ?_) (top_l2 K Y hY d (i + 1) (by omega) (by omega))
    have e : ps r r.length - ps r i - rd r (i : Int) = ps r r.length - ps r (i + 1) := by simp only [ps]; omega
    rw [droppertop_TopWear.l2, if_pos (by omega), if_pos (by omega), wsucc i (by omega), w64 (by omega) (by omega), e]
theorem top_l1 (K : Known r E m X) (Y : List S35) (hY : Y.length ≤ 60) : ∀ (d j : Nat), m - j = d → j ≤ m → Ev (fun k => droppertop_TopWear.l1 k r Y X (bl E m) (ps r (E j)) (j : Int)) true
  | 0, j, hd, hj => by
    obtain rfl : j = m := by omega
    have e := top_l2 K Y hY _ 0 rfl (by omega)
    have h0 : ps r 0 = 0 := rfl
    rw [h0, Int.sub_zero] at e
    refine Ev.step (fun k => ?_) e
    rw [droppertop_TopWear.l1, if_neg (by rw [bl_len]; omega), K.cuts.2.1]
    rfl
  | d + 1, j, hd, hj => by
    have h40 := K.o.1.2
    have m40 := K.m2
    have hX := K.near.1
    have next := top_l1 K Y hY d (j + 1) (by omega) (by omega)
    have s1 := (K.cuts.2.2.1 j (by omega)).1
    have c1 := cuts_le K.cuts (j + 1) (by omega)
    have b0 := ps_bd K.o (b := E j) (by omega) (a := 0) (by omega)
    have b1 := ps_bd K.o (b := E (j + 1)) c1.2 (a := E j) (by omega)
    have z0 : ps r 0 = 0 := rfl
    have em := Mean_ev K.o (a := E j) (b := E (j + 1)) s1 c1.2
    obtain ⟨n1, n2, n3, n4, n5, n6, n7⟩ := mn_bd K.o s1 c1.2
    have x1 := K.near.2 j (by omega) (E j) (Nat.le_refl _) s1
    have x2 := K.near.2 j (by omega) (E (j + 1) - 1) (by omega) (by omega)
    have w1 : wrap64 ((E (j + 1) : Int) - 1) = ((E (j + 1) - 1 : Nat) : Int) := by rw [w64 (by omega) (by omega)]; omega
    have w2 : wrap64 ((E (j + 1) : Int) - (E j : Int)) = (E (j + 1) : Int) - (E j : Int) := w64 (by omega) (by omega)
    have t1 : Int.tmod ((E (j + 1) : Int) - (E j : Int)) ((mn r (E j) (E (j + 1))).den : Int) = 0 := by
      rw [Int.tmod_eq_emod_of_nonneg (by omega)]
      exact Int.emod_eq_zero_of_dvd n6
    have t2 : Int.tdiv ((E (j + 1) : Int) - (E j : Int)) ((mn r (E j) (E (j + 1))).den : Int) = ((E (j + 1) : Int) - (E j : Int)) / ((mn r (E j) (E (j + 1))).den : Int) := Int.tdiv_eq_ediv_of_nonneg (by omega)
    have t3 : 0 ≤ ((E (j + 1) : Int) - (E j : Int)) / ((mn r (E j) (E (j + 1))).den : Int) ∧ ((E (j + 1) : Int) - (E j : Int)) / ((mn r (E j) (E (j + 1))).den : Int) ≤ (E (j + 1) : Int) - (E j : Int) := ⟨Int.ediv_nonneg (by omega) (by omega), Int.ediv_le_self _ (by omega)⟩
    have e6 : Ev (fun k => droppertop_TopWear.j6 k r Y X (bl E m) (ps r (E j)) (j : Int) (E (j + 1) : Int) false) true := by
      refine Ev.step (f := fun k => (wear_Mean.f k r (E j : Int) ((E (j + 1) : Int) - 1)).bind fun bt624 => (if bt624.2.2 = 0 then (if (!(bt624.1 == ((rd_T35 X (E j : Int)).f0)) || (!(bt624.2.1 == ((rd_T35 X (E j : Int)).f1)))) = true then (some false) else (if (!(((rd_T35 X ((E (j + 1) - 1 : Nat) : Int)).f0) == bt624.1) || (!(((rd_T35 X ((E (j + 1) - 1 : Nat) : Int)).f1) == bt624.2.1))) = true then (some false) else (if bt624.2.1 < 1 then (some false) else (if bt624.2.1 = 0 then (none) else (if (Int.tmod ((E (j + 1) : Int) - (E j : Int)) bt624.2.1) = 0 then (droppertop_TopWear.l1 k r Y X (bl E m) (wrap64 (ps r (E j) + (wrap64 (bt624.1 * (wrap64 (Int.tdiv ((E (j + 1) : Int) - (E j : Int)) bt624.2.1)))))) (wrap64 ((j : Int) + 1))) else (some false)))))) else (some false))) (fun k => ?_) (Ev.bind em ?_)
      · rw [droppertop_TopWear.j6, if_neg (by decide), if_pos (by omega), if_pos (by rw [bl_len]; omega), bl_rd (by omega), w1, w2]
        simp only [if_pos (show (0 : Int) ≤ (E j : Int) by omega), if_pos (show (E j : Int) < (X.length : Int) by omega), if_pos (show (0 : Int) ≤ ((E (j + 1) - 1 : Nat) : Int) by omega), if_pos (show ((E (j + 1) - 1 : Nat) : Int) < (X.length : Int) by omega)]
        rw [show ((E (j + 1) - 1 : Nat) : Int) = (E (j + 1) : Int) - 1 by omega]
      · have y1 : (!((mn r (E j) (E (j + 1))).num == (toS (mn r (E j) (E (j + 1)))).f0) || (!(((mn r (E j) (E (j + 1))).den : Int) == (toS (mn r (E j) (E (j + 1)))).f1))) = false := by simp [toS]
        have y2 : (!((toS (mn r (E j) (E (j + 1)))).f0 == (mn r (E j) (E (j + 1))).num) || (!((toS (mn r (E j) (E (j + 1)))).f1 == ((mn r (E j) (E (j + 1))).den : Int)))) = false := by simp [toS]
        simp only [if_true, x1, x2, y1, y2, Bool.false_eq_true, if_false, if_neg (show ¬ ((mn r (E j) (E (j + 1))).den : Int) < 1 by omega), if_neg (show ¬ ((mn r (E j) (E (j + 1))).den : Int) = 0 by omega), t1, t2]
        rw [w64 (n := ((E (j + 1) : Int) - (E j : Int)) / ((mn r (E j) (E (j + 1))).den : Int)) (by omega) (by omega), n7, w64 (n := ps r (E (j + 1)) - ps r (E j)) (by omega) (by omega), w64 (by omega) (by omega), wsucc j (by omega), show ps r (E j) + (ps r (E (j + 1)) - ps r (E j)) = ps r (E (j + 1)) by omega]
        exact next
    have e5 : Ev (fun k => droppertop_TopWear.j5 k r Y X (bl E m) (ps r (E j)) (j : Int) (E (j + 1) : Int)) true := by
      refine Ev.step (fun k => ?_) e6
      rw [droppertop_TopWear.j5, if_pos (by omega), if_pos (by rw [bl_len]; omega), bl_rd (by omega), if_neg (by omega), if_neg (by omega), decide_eq_false (by omega)]
    refine Ev.step (fun k => ?_) e5
    rw [droppertop_TopWear.l1, if_pos (by rw [bl_len]; omega), wsucc j (by omega)]
    by_cases c : j + 1 < m
    · rw [if_pos (by rw [bl_len]; omega), if_pos (by omega), bl_rd c]
    · rw [if_neg (by rw [bl_len]; omega), show j + 1 = m by omega, K.cuts.2.1]
theorem top_l0 (K : Known r E m X) (Y : List S35) (hY : Y.length ≤ 60) : ∀ (d i : Nat), r.length - i = d → i ≤ r.length → Ev (fun k => droppertop_TopWear.l0 k r Y X (bl E m) (i : Int)) true
  | 0, i, hd, hi => by
    have e := top_l1 K Y hY _ 0 rfl (by omega)
    rw [K.cuts.1] at e
    refine Ev.step (fun k => ?_) e
    rw [droppertop_TopWear.l0, if_neg (by omega)]
    rfl
  | d + 1, i, hd, hi => by
    have h40 := K.o.1.2
    have hX := K.near.1
    obtain ⟨q, q1, e⟩ := Between_ev K.o (i := i) (by omega)
    obtain ⟨h1, h2⟩ := K.mm i (by omega)
    have hq := MM_unique q1 h2
    subst hq
    have next := top_l0 K Y hY d (i + 1) (by omega) (by omega)
    refine Ev.step (f := fun k => (wear_Between.f k r (i : Int)).bind fun bt615 => (if bt615.2.2 = 0 then (if (!(bt615.1 == ((rd_T35 X (i : Int)).f0)) || (!(bt615.2.1 == ((rd_T35 X (i : Int)).f1)))) = true then (some false) else (droppertop_TopWear.l0 k r Y X (bl E m) ((i + 1 : Nat) : Int))) else (some false))) (fun k => ?_) (Ev.bind e ?_)
    · rw [droppertop_TopWear.l0, if_pos (by omega), wsucc i (by omega)]
      simp only [if_pos (show (0 : Int) ≤ (i : Int) by omega), if_pos (show (i : Int) < (X.length : Int) by omega)]
    · have y1 : (!((vq X i).num == (toS (vq X i)).f0) || (!(((vq X i).den : Int) == (toS (vq X i)).f1))) = false := by simp [toS]
      rw [h1]
      simp only [if_true, y1, Bool.false_eq_true, if_false]
      exact next
end
theorem TopWear_pure (l0 : List Int) (l1 : List S35) (hx0 : ∀ x ∈ l0, (Lit.int .i64 x).wf = true) (hx1 : ∀ x ∈ l1, (Lit.int .i64 x.f0).wf = true ∧ (Lit.int .i64 x.f1).wf = true) (hl0 : l0.length ≤ 9223372036854775807) (hl1 : l1.length ≤ 9223372036854775807) : ∃ k, droppertop_TopWear.f k l0 l1 = some true := by
  classical
  have away : Ev (fun k => droppertop_TopWear.j0 k l0 l1 true) true := by
    refine Ev.step (f := fun k => (dropperlaw07_First.f k).bind fun t602 => (some t602)) (fun k => ?_) (Ev.bind first_ev (Ev.now _))
    rw [droppertop_TopWear.j0, if_pos rfl]
  apply Ev.rounds
  refine Ev.bind (ref_Valid_ev l0 hl0) ?_
  by_cases o : ¬ okR l0
  · simp only [decide_eq_false o, Bool.false_eq_true, if_false]
    exact away
  have o : okR l0 := Classical.not_not.1 o
  simp only [decide_eq_true o, if_true]
  by_cases c : (l1.length : Int) > 60
  · rw [decide_eq_true c]; exact away
  rw [decide_eq_false c]
  obtain ⟨E, m, X, hc, hm1, hm2, hx, eN, eB⟩ := nearest_ev o
  obtain ⟨k1, k2, k3⟩ := near_facts o hc hx
  have K : Known l0 E m X := ⟨o, hc, hm1, hm2, hx, k1, k2, k3⟩
  have h40 := o.1
  have hlx := hx.1
  have e2 : Ev (fun k => droppertop_TopWear.j2 k l0 l1 X (bl E m) false) true := by
    refine Ev.step (fun k => ?_) (top_l0 K l1 (by omega) _ 0 rfl (by omega))
    rw [droppertop_TopWear.j2, if_neg (by decide)]
    rfl
  have e1 : Ev (fun k => droppertop_TopWear.j1 k l0 l1 X (bl E m) false) true := by
    refine Ev.step (f := fun k => (wear_Grows.f k l0 X).bind fun bt613 => (if bt613.2 = 0 then (droppertop_TopWear.j2 k l0 l1 X (bl E m) (!bt613.1)) else (droppertop_TopWear.j2 k l0 l1 X (bl E m) true))) (fun k => ?_) (Ev.bind (Grows_ev o k1 k2) ?_)
    · rw [droppertop_TopWear.j1, if_neg (by decide)]
    · simp only [if_true]
      exact e2
  refine Ev.step (fun k => by rw [droppertop_TopWear.j0, if_neg (by decide)]) (Ev.bind eN (Ev.bind eB ?_))
  simp only [if_true]
  refine Ev.bind (IsRow_ev l0 X (by omega)) ?_
  simp only [decide_eq_true k1, if_true]
  have hb : ((List.range m).map fun q : Nat => ((E q : Nat) : Int)) = bl E m := rfl
  have h0 : rd (bl E m) 0 = 0 := by
    have := bl_rd (E := E) (m := m) (k := 0) (by omega)
    rw [hc.1] at this
    exact this
  rw [hb]
  simp only [bl_len, h0, if_neg (show ¬ (m : Int) = 0 by omega), if_pos (show (0 : Int) < (m : Int) by omega)]
  exact e1
end Go.Proofs.Ytklapbgajghhcaa.G
end
