/- Wants as described (both programs), how many states, what all laws begin with. Plain Lean. -/
import Derived.Test.YthbpibdfookbmaaPGame
import Derived.Test.YthbpibdfookbmaaGF29
import Derived.Test.YthbpibdfookbmaaGF30
import Derived.Test.YthbpibdfookbmaaGF42
import Derived.Test.YthbpibdfookbmaaGF20
import Derived.Test.YthbpibdfookbmaaGF15
import Derived.Test.YthbpibdfookbmaaGF12
namespace Go.Proofs.Ythbpibdfookbmaa.G
set_option linter.unusedVariables false
set_option linter.unusedSimpArgs false
open Go.RowKit Go.Proofs.YthbpibdfookbmaaW.PrintWords Go.Proofs.YthbpibdfookbmaaW.PrintLast
theorem within_some (a b c : Int) : ice_within.f a b c = some (decide (a ≤ b ∧ b ≤ c)) := by
  unfold ice_within.f
  by_cases h : a ≤ b <;> simp [h]
theorem from_some (a b c : Int) : dropperref08_from.f a b c = some (decide (a ≤ b ∧ b ≤ c)) := by
  unfold dropperref08_from.f
  by_cases h : a ≤ b <;> simp [h]
theorem mn_eq (a b : Int) : mn a b = min a b := by unfold mn; split <;> omega
theorem mx_eq (a b : Int) : mx a b = max a b := by unfold mx; split <;> omega
/-- Wants as described. -/
def okW (w : List Int) : Prop := (1 ≤ w.length ∧ w.length ≤ 5) ∧ ∀ i, i < w.length → 1 ≤ rd w (i : Int) ∧ rd w (i : Int) ≤ 8
theorem okW_mem {w : List Int} (h : okW w) {a : Int} (ha : a ∈ w) : 1 ≤ a ∧ a ≤ 8 := by
  obtain ⟨i, hi, rfl⟩ := List.getElem_of_mem ha
  have := h.2 i hi
  rwa [rd_get hi] at this
theorem okW_pos {w : List Int} (h : okW w) : pos w := fun a ha => (okW_mem h ha).1
theorem prodI_le8 : ∀ {w : List Int}, (∀ a ∈ w, 1 ≤ a ∧ a ≤ 8) → prodI w ≤ 8 ^ w.length
  | [], _ => by simp [prodI]
  | a :: w, h => by
    have h1 := h a (by simp)
    have h2 := prodI_le8 (w := w) (fun b hb => h b (by simp [hb]))
    have h3 := prodI_pos (w := w) (fun b hb => (h b (by simp [hb])).1)
    have : a * prodI w ≤ 8 * 8 ^ w.length := Int.mul_le_mul h1.2 h2 (by omega) (by omega)
    simp only [prodI, List.length_cons, Int.pow_succ]
    omega
theorem prodI_le {w : List Int} (h : okW w) : 1 ≤ prodI w ∧ prodI w ≤ 32768 := by
  refine ⟨prodI_pos (okW_pos h), Int.le_trans (prodI_le8 (fun a ha => okW_mem h ha)) ?_⟩
  obtain ⟨⟨h1, h2⟩, _⟩ := h
  generalize w.length = n at h1 h2
  match n, h1, h2 with
  | 1, _, _ => decide
  | 2, _, _ => decide
  | 3, _, _ => decide
  | 4, _, _ => decide
  | 5, _, _ => decide
theorem index_int_loop {l : List Int} (hl : l.length ≤ 9223372036854775807) {fn : Int → Option Bool} {p : Nat → Prop} [DecidablePred p] (hp : ∀ j, j < l.length → fn (rd l (j : Int)) = some (decide (p j))) : ∀ (d i : Nat), l.length - i = d → i ≤ l.length → (∀ j, j < i → ¬ p j) →
    ∃ t : Int, Ev (fun f => slices_IndexFunc_int_int.l0 f l fn l.length i) t ∧ ((t = -1 ∧ ∀ j, j < l.length → ¬ p j) ∨ ∃ k : Nat, t = k ∧ k < l.length ∧ p k ∧ ∀ j, j < k → ¬ p j) := by
  intro d
  induction d with
  | zero =>
    intro i hd hi h1
    obtain rfl : i = l.length := by omega
    refine ⟨-1, ev_some _ fun k => ?_, .inl ⟨rfl, h1⟩⟩
    rw [slices_IndexFunc_int_int.l0, if_neg (by omega)]
  | succ d ih =>
    intro i hd hi h1
    by_cases c : p i
    · refine ⟨i, ev_some _ fun k => ?_, .inr ⟨i, rfl, by omega, c, h1⟩⟩
      rw [slices_IndexFunc_int_int.l0, if_pos (by omega), if_pos (by omega), if_pos (by omega), hp i (by omega), decide_eq_true c]
      rfl
    · obtain ⟨t, e, ht⟩ := ih (i + 1) (by omega) (by omega) (fun j hj => if q : j = i then q ▸ c else h1 j (by omega))
      refine ⟨t, Ev.step (fun k => ?_) e, ht⟩
      rw [slices_IndexFunc_int_int.l0, if_pos (by omega), if_pos (by omega), if_pos (by omega), hp i (by omega), decide_eq_false c, wsucc i (by omega)]
      rfl
/-- Whether one has p: what ContainsFunc tells. -/
theorem contains_ev {l : List Int} (hl : l.length ≤ 9223372036854775807) {fn : Int → Option Bool} {p : Nat → Prop} [DecidablePred p] (hp : ∀ j, j < l.length → fn (rd l (j : Int)) = some (decide (p j))) :
    ∃ b : Bool, Ev (fun f => slices_ContainsFunc_int_int.f f l fn) b ∧ (b = true ↔ ∃ j, j < l.length ∧ p j) := by
  obtain ⟨t, e, ht⟩ := index_int_loop hl hp l.length 0 (by omega) (by omega) (by omega)
  refine ⟨decide (t ≥ 0), Ev.bind e (Ev.now _), ?_⟩
  rcases ht with ⟨rfl, h⟩ | ⟨k, rfl, hk, h1, h2⟩
  · simp only [decide_eq_true_eq]
    exact ⟨fun z => by omega, fun ⟨j, hj, hp⟩ => absurd hp (h j hj)⟩
  · simp only [decide_eq_true_eq]
    exact ⟨fun _ => ⟨k, hk, h1⟩, fun _ => by omega⟩
open Classical in
theorem ice_Valid_ev (w : List Int) : Ev (fun k => ice_Valid.f k w) (decide (okW w)) := by
  by_cases c : 1 ≤ w.length ∧ w.length ≤ 5
  · obtain ⟨b, e, hb⟩ := contains_ev (l := w) (fn := ice_Valid_1.f) (p := fun j => ¬ (1 ≤ rd w (j : Int) ∧ rd w (j : Int) ≤ 8)) (by omega) (fun j hj => by
      unfold ice_Valid_1.f
      rw [within_some]
      simp only [Option.bind_some]
      by_cases c : 1 ≤ rd w (j : Int) ∧ rd w (j : Int) ≤ 8 <;> simp [c])
    refine Ev.congr (f := fun k => (slices_ContainsFunc_int_int.f k w ice_Valid_1.f).bind fun t102 => (some (!t102))) (fun k => ?_) ?_
    · unfold ice_Valid.f
      rw [within_some, decide_eq_true (by omega)]
      rfl
    · have : decide (okW w) = !b := by
        cases b with
        | true =>
          obtain ⟨j, hj, h⟩ := hb.1 rfl
          rw [decide_eq_false (fun z => h (z.2 j hj))]
          rfl
        | false =>
          rw [decide_eq_true ⟨c, fun i hi => Decidable.not_not.1 (fun z => absurd (hb.2 ⟨i, hi, z⟩) (by decide))⟩]
          rfl
      rw [this]
      exact Ev.bind e (Ev.now _)
  · rw [decide_eq_false (fun z => c z.1)]
    refine ev_some _ fun k => ?_
    unfold ice_Valid.f
    rw [within_some, decide_eq_false (by omega)]
    rfl
open Classical in
theorem ref_valid_loop (w : List Int) (hl : w.length ≤ 9223372036854775807) : ∀ (d i : Nat), w.length - i = d → i ≤ w.length → (∀ j, j < i → 1 ≤ rd w (j : Int) ∧ rd w (j : Int) ≤ 8) → Ev (fun k => dropperref08_Valid.l0 k w i) (decide (okW w)) := by
  intro d
  induction d with
  | zero =>
    intro i hd hi h1
    obtain rfl : i = w.length := by omega
    refine ev_some _ fun k => ?_
    rw [dropperref08_Valid.l0, if_neg (by omega), from_some]
    simp only [Option.bind_some]
    congr 1
    exact decide_eq_decide.2 ⟨fun h => ⟨by omega, h1⟩, fun h => by have := h.1; omega⟩
  | succ d ih =>
    intro i hd hi h1
    by_cases c : 1 ≤ rd w (i : Int) ∧ rd w (i : Int) ≤ 8
    · refine Ev.step (fun k => ?_) (ih (i + 1) (by omega) (by omega) (fun j hj => if q : j = i then q ▸ c else h1 j (by omega)))
      rw [dropperref08_Valid.l0, if_pos (by omega), if_pos (by omega), from_some, decide_eq_true c, wsucc i (by omega)]
      rfl
    · rw [decide_eq_false (fun h => c (h.2 i (by omega)))]
      refine ev_some _ fun k => ?_
      rw [dropperref08_Valid.l0, if_pos (by omega), if_pos (by omega), from_some, decide_eq_false c]
      rfl
open Classical in
theorem ref_Valid_ev (w : List Int) (hl : w.length ≤ 9223372036854775807) : Ev (fun k => dropperref08_Valid.f k w) (decide (okW w)) := ref_valid_loop w hl w.length 0 (by omega) (by omega) (by omega)
theorem count_loop {w : List Int} (h : okW w) : ∀ (d i : Nat) (x : Int), w.length - i = d → i ≤ w.length → 1 ≤ x → x * prodI (w.drop i) = prodI w → Ev (fun k => dropperref08_Count.l0 k w x i) (prodI w) := by
  obtain ⟨b1, b2⟩ := prodI_le h
  have hlen := h.1.2
  intro d
  induction d with
  | zero =>
    intro i x hd hi hx e
    obtain rfl : i = w.length := by omega
    rw [List.drop_length] at e
    have e : x = prodI w := by simpa [prodI] using e
    rw [← e]
    refine ev_some _ fun k => ?_
    rw [dropperref08_Count.l0, if_neg (by omega)]
  | succ d ih =>
    intro i x hd hi hx e
    have hr := h.2 i (by omega)
    rw [rd_drop w i (by omega)] at e
    simp only [prodI] at e
    rw [← Int.mul_assoc] at e
    have p1 := prodI_pos (pos_drop (okW_pos h) (i + 1))
    have q1 : 1 ≤ x * rd w (i : Int) := by
      have : 1 * 1 ≤ x * rd w (i : Int) := Int.mul_le_mul hx hr.1 (by omega) (by omega)
      omega
    have q2 : x * rd w (i : Int) ≤ prodI w := by
      have : (x * rd w (i : Int)) * 1 ≤ (x * rd w (i : Int)) * prodI (w.drop (i + 1)) := Int.mul_le_mul_of_nonneg_left p1 (by omega)
      omega
    refine Ev.step (fun k => ?_) (ih (i + 1) _ (by omega) (by omega) q1 e)
    rw [dropperref08_Count.l0, if_pos (by omega), if_pos (by omega), wsucc i (by omega), w64 (by omega) (by omega)]
theorem count_ev {w : List Int} (h : okW w) : Ev (fun k => dropperref08_Count.f k w) (prodI w) := count_loop h w.length 0 1 (by omega) (by omega) (by omega) (by simp)
/-- What Many tells of wants alone. -/
theorem many_end (w : List Int) (hl : w.length ≤ 9223372036854775807) (ls : List (List Int)) (i : Nat) (hi : i = ls.length) (h1 : ls.length ≤ 9223372036854775807) : ∃ b : Bool, Ev (fun k => dropperlaw08_Many.l0 k w ls i) b ∧ (b = false → w.length ≤ 20 ∧ (okW w → prodI w ≤ 3000)) := by
  by_cases c : (w.length : Int) > 20
  · refine ⟨true, ev_some _ fun k => ?_, fun z => by cases z⟩
    rw [dropperlaw08_Many.l0, if_neg (by omega), if_pos c]
  · classical
    refine ⟨decide (okW w ∧ prodI w > 3000), Ev.step (f := fun k => (dropperref08_Valid.f k w).bind fun t102 => (if t102 = true then ((dropperref08_Count.f k w).bind fun t103 => (some (decide (t103 > 3000)))) else (some false))) (fun k => ?_) (Ev.bind (ref_Valid_ev w hl) ?_), fun z => ⟨by omega, fun o => ?_⟩⟩
    · rw [dropperlaw08_Many.l0, if_neg (by omega), if_neg c]
    · by_cases o : okW w
      · simp only [decide_eq_true o, if_true]
        have : decide (okW w ∧ prodI w > 3000) = decide (prodI w > 3000) := decide_eq_decide.2 ⟨fun z => z.2, fun z => ⟨o, z⟩⟩
        rw [this]
        exact Ev.bind (count_ev o) (Ev.now _)
      · simp only [decide_eq_false o, Bool.false_eq_true, if_false]
        rw [decide_eq_false (fun z => o z.1)]
        exact Ev.now _
    · have := of_decide_eq_false z
      have : ¬ prodI w > 3000 := fun q => this ⟨o, q⟩
      omega
theorem many0_ev (w : List Int) (hl : w.length ≤ 9223372036854775807) : ∃ b : Bool, Ev (fun k => dropperlaw08_Many.f k w ([] : List (List Int))) b ∧ (b = false → w.length ≤ 20 ∧ (okW w → prodI w ≤ 3000)) := many_end w hl [] 0 rfl (by simp)
theorem many1_ev (w : List Int) (hl : w.length ≤ 9223372036854775807) (l : List Int) : ∃ b : Bool, Ev (fun k => dropperlaw08_Many.f k w [l]) b ∧ (b = false → w.length ≤ 20 ∧ l.length ≤ 300 ∧ (okW w → prodI w ≤ 3000)) := by
  by_cases c : (l.length : Int) > 300
  · refine ⟨true, ev_some _ fun k => ?_, fun z => by cases z⟩
    show dropperlaw08_Many.l0 (k + 1) w [l] 0 = _
    rw [dropperlaw08_Many.l0, if_pos (by simp), if_pos (by omega), if_pos (by simpa [rd_L1] using c)]
  · obtain ⟨b, e, h⟩ := many_end w hl [l] 1 rfl (by simp)
    refine ⟨b, Ev.step (f := fun k => dropperlaw08_Many.l0 k w [l] ((1 : Nat) : Int)) (fun k => ?_) e, fun z => ⟨(h z).1, by omega, (h z).2⟩⟩
    show dropperlaw08_Many.l0 (k + 1) w [l] 0 = _
    rw [dropperlaw08_Many.l0, if_pos (by simp), if_pos (by omega), if_neg (by simpa [rd_L1] using c), w64 (by omega) (by omega)]
    rfl
set_option maxRecDepth 100000 in
theorem awake_ev : Ev (fun k => dropperlaw08_Awake.f k) true := Ev.of (fun k => dropperlaw08_Awake.mono k) (k := 300) (by decide +kernel)
theorem same_loop (l : List Int) (hl : l.length ≤ 4611686018427387904) : ∀ (d i : Nat), l.length - i = d → i ≤ l.length → Ev (fun k => dropperlaw08_SameInts.l0 k l l i) true := by
  intro d
  induction d with
  | zero =>
    intro i hd hi
    refine ev_some _ fun k => ?_
    rw [dropperlaw08_SameInts.l0, if_neg (by omega)]
  | succ d ih =>
    intro i hd hi
    refine Ev.step (fun k => ?_) (ih (i + 1) (by omega) (by omega))
    rw [dropperlaw08_SameInts.l0, if_pos (by omega), if_pos (by omega), if_pos (by omega), if_pos rfl, wsucc i (by omega)]
theorem same_ev (l : List Int) (hl : l.length ≤ 4611686018427387904) : Ev (fun k => dropperlaw08_SameInts.f k l l) true := by
  refine Ev.congr (fun k => ?_) (same_loop l hl l.length 0 (by omega) (by omega))
  unfold dropperlaw08_SameInts.f
  rw [if_pos rfl]; rfl
end Go.Proofs.Ythbpibdfookbmaa.G
