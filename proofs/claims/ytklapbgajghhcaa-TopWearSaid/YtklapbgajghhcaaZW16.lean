/- Functions of the seat and plain laws about them: PRat, PMean, PBlocks, PNear, PBet. -/
import Derived.Test.YtklapbgajghhcaaZW0
import Derived.Test.YtklapbgajghhcaaZW12
import Derived.Test.YtklapbgajghhcaaZW9
import Derived.Test.YtklapbgajghhcaaZW7
import Derived.Test.YtklapbgajghhcaaZW1
import Derived.Test.YtklapbgajghhcaaZW2
import Derived.Test.YtklapbgajghhcaaZW6
import Derived.Test.YtklapbgajghhcaaZW8
section
namespace Go.Proofs.Ytklapbgajghhcaa.G
open Go.RowKit Go.Proofs.YtklapbgajghhcaaW.PrintWords Go.Proofs.YtklapbgajghhcaaW.PrintLast Go.Proofs.YtklapbgajghhcaaW.PrintMore
open Rat (divInt)
set_option linter.unusedVariables false
theorem w64 {n : Int} (h : -9223372036854775808 ≤ n) (h2 : n ≤ 9223372036854775807) : wrap64 n = n := by unfold wrap64; omega
theorem wsucc (i : Nat) (h : i < 9223372036854775807) : wrap64 ((i : Int) + 1) = ((i + 1 : Nat) : Int) := by rw [w64 (by omega) (by omega)]; rfl
theorem ev_some {α : Type} (r : α) {g : Nat → Option α} (h : ∀ k, g (k + 1) = some r) : Ev g r := Ev.step (f := fun _ => some r) h (Ev.now r)
theorem ev_uniq {α : Type} {g : Nat → Option α} {r s : α} (h : Ev g r) (h' : Ev g s) : r = s := by
  obtain ⟨k, hk⟩ := h
  obtain ⟨m, hm⟩ := h'
  have e := (hk (max k m) (Nat.le_max_left _ _)).symm.trans (hm (max k m) (Nat.le_max_right _ _))
  exact Option.some.inj e
theorem gcd_step {a b : Int} (ha : 0 ≤ a) (hb : 0 ≤ b) : Int.gcd b (a.tmod b) = Int.gcd a b := by
  rw [Int.tmod_eq_emod_of_nonneg ha]
  obtain ⟨m, rfl⟩ := Int.eq_ofNat_of_zero_le ha
  obtain ⟨j, rfl⟩ := Int.eq_ofNat_of_zero_le hb
  show Nat.gcd j (m % j) = Nat.gcd m j
  rw [Nat.gcd_comm j, ← Nat.gcd_rec, Nat.gcd_comm]
theorem gcd_loop : ∀ (k : Nat) (a b : Int), 0 ≤ a → a ≤ 4611686018427387904 → 0 ≤ b → b ≤ 4611686018427387904 → (a ≠ 0 ∨ b ≠ 0) → b < k →
    wear_gcd.l0 k a b = some (Int.gcd a b : Int) ∧ dropperref07_divisor.l0 k a b = some (Int.gcd a b : Int)
  | 0, a, b, ha, _, hb, _, h, hk => by omega
  | k + 1, a, b, ha, ha2, hb, hb2, h, hk => by
    simp only [wear_gcd.l0, dropperref07_divisor.l0]
    by_cases e : b = 0
    · subst e
      have g : (Int.gcd a 0 : Int) = a := by rw [Int.gcd_zero_right, Int.natAbs_of_nonneg ha]
      rw [if_pos rfl, if_pos rfl, g, w64 (by omega) (by omega)]
      unfold mx
      constructor <;> congr 1 <;> split <;> omega
    · rw [if_neg e, if_neg e]
      have hm : 0 ≤ a.tmod b := Int.tmod_nonneg _ ha
      have hl : a.tmod b < b := Int.tmod_lt_of_pos _ (by omega)
      have := gcd_loop k b (a.tmod b) hb hb2 hm (by omega) (Or.inl e) (by omega)
      rw [gcd_step ha hb] at this
      exact this
theorem gcd_ev {a b : Int} (ha : 0 ≤ a) (ha2 : a ≤ 4611686018427387904) (hb : 0 ≤ b) (hb2 : b ≤ 4611686018427387904) (h : a ≠ 0 ∨ b ≠ 0) : Ev (fun k => wear_gcd.f k a b) (Int.gcd a b : Int) :=
  ⟨b.toNat + 1, fun k hk => (gcd_loop k a b ha ha2 hb hb2 h (by omega)).1⟩
theorem div_ev {a b : Int} (ha : 0 ≤ a) (ha2 : a ≤ 4611686018427387904) (hb : 0 ≤ b) (hb2 : b ≤ 4611686018427387904) (h : a ≠ 0 ∨ b ≠ 0) : Ev (fun k => dropperref07_divisor.f k a b) (Int.gcd a b : Int) :=
  ⟨b.toNat + 1, fun k hk => by
    unfold dropperref07_divisor.f
    have e1 : mx a (wrap64 (-a)) = a := by rw [w64 (by omega) (by omega)]; unfold mx; split <;> omega
    have e2 : mx b (wrap64 (-b)) = b := by rw [w64 (by omega) (by omega)]; unfold mx; split <;> omega
    rw [e1, e2]
    exact (gcd_loop k a b ha ha2 hb hb2 h (by omega)).2⟩
theorem num_den {n d : Int} (hn : 0 ≤ n) (hd : 0 < d) : n.tdiv (Int.gcd n d) = (divInt n d).num ∧ d.tdiv (Int.gcd n d) = ((divInt n d).den : Int) ∧ 0 < (Int.gcd n d : Int) := by
  have hg0 : 0 < Int.gcd d n := Int.gcd_pos_of_ne_zero_left _ (by omega)
  have d1 : ((Int.gcd d n : Nat) : Int) ∣ n := Int.gcd_dvd_right ..
  have d2 : ((Int.gcd d n : Nat) : Int) ∣ d := Int.gcd_dvd_left ..
  rw [Int.gcd_comm n d]
  refine ⟨?_, ?_, by omega⟩
  · rw [Int.tdiv_eq_ediv_of_dvd d1, Rat.num_divInt, Int.sign_eq_one_of_pos hd, Int.one_mul]
  · rw [Int.tdiv_eq_ediv_of_dvd d2, Rat.den_divInt, if_neg (by omega), Int.natCast_ediv, Int.natAbs_of_nonneg (by omega)]
theorem ratio_num_le {n d : Int} (hd : 0 < d) : (divInt n d).num.natAbs ≤ n.natAbs ∧ (divInt n d).den ≤ d.natAbs := by
  rw [Rat.num_divInt, Rat.den_divInt, if_neg (by omega), Int.sign_eq_one_of_pos hd, Int.one_mul]
  refine ⟨?_, Nat.div_le_self _ _⟩
  have d1 : ((Int.gcd d n : Nat) : Int) ∣ n := Int.gcd_dvd_right ..
  have hg0 : 0 < Int.gcd d n := Int.gcd_pos_of_ne_zero_left _ (by omega)
  generalize Int.gcd d n = g at *
  obtain ⟨q, rfl⟩ := d1
  rw [Int.mul_ediv_cancel_left _ (by omega), Int.natAbs_mul]
  have : 1 * q.natAbs ≤ g * q.natAbs := Nat.mul_le_mul_right _ (by omega)
  simp only [Int.natAbs_natCast]
  omega
theorem ratio_ev {n d : Int} (hn : 0 ≤ n) (hn2 : n ≤ 4611686018427387904) (hd : 0 < d) (hd2 : d ≤ 4611686018427387904) :
    Ev (fun k => wear_ratio.f k n d) ((divInt n d).num, ((divInt n d).den : Int)) ∧ Ev (fun k => dropperref07_ratio.f k n d) ((divInt n d).num, ((divInt n d).den : Int)) := by
  obtain ⟨e1, e2, e3⟩ := num_den hn hd
  obtain ⟨b1, b2⟩ := ratio_num_le (n := n) hd
  have w1 : wrap64 (n.tdiv (Int.gcd n d)) = (divInt n d).num := by rw [e1, w64 (by omega) (by omega)]
  have w2 : wrap64 (d.tdiv (Int.gcd n d)) = ((divInt n d).den : Int) := by rw [e2, w64 (by omega) (by omega)]
  have e4 : ¬ (Int.gcd n d : Int) = 0 := fun z => by rw [z] at e3; exact absurd e3 (by decide)
  refine ⟨Ev.bind (gcd_ev hn hn2 (by omega) hd2 (.inr (by omega))) ?_, Ev.bind (div_ev hn hn2 (by omega) hd2 (.inr (by omega))) ?_⟩ <;>
  · rw [if_neg e4, w1, w2]; exact Ev.now _
theorem num_nonneg {n d : Int} (hn : 0 ≤ n) (hd : 0 < d) : 0 ≤ (divInt n d).num := by
  rw [← (num_den hn hd).1]
  exact Int.tdiv_nonneg hn (Int.le_of_lt (num_den hn hd).2.2)
theorem within_some (a b c : Int) : wear_within.f a b c = some (decide (a ≤ b ∧ b ≤ c)) := by
  unfold wear_within.f
  by_cases h : a ≤ b <;> simp [h]
theorem mul_bd {a b : Int} {A B : Nat} (ha : a.natAbs ≤ A) (hb : b.natAbs ≤ B) : (a * b).natAbs ≤ A * B := by
  rw [Int.natAbs_mul]; exact Nat.mul_le_mul ha hb
/-- 'less' of two fractions with small numbers. -/
theorem less_some {p q : Rat} (hp : p.num.natAbs ≤ 1000000000) (hp2 : p.den ≤ 1000000000) (hq : q.num.natAbs ≤ 1000000000) (hq2 : q.den ≤ 1000000000) : wear_less.f p.num p.den q.num q.den = some (decide (p < q)) := by
  have h1 := mul_bd (a := p.num) (b := (q.den : Int)) hp (B := 1000000000) (by omega)
  have h2 := mul_bd (a := q.num) (b := (p.den : Int)) hq (B := 1000000000) (by omega)
  unfold wear_less.f
  rw [w64 (by omega) (by omega), w64 (by omega) (by omega)]
  congr 1
  exact decide_eq_decide.2 (Rat.lt_iff _ _).symm
/-- Readings as described. -/
def okR (r : List Int) : Prop := (1 ≤ r.length ∧ r.length ≤ 40) ∧ ∀ i, i < r.length → 0 ≤ rd r (i : Int) ∧ rd r (i : Int) ≤ 10000
theorem rd_get {w : List Int} {i : Nat} (h : i < w.length) : rd w (i : Int) = w[i] := by
  simp [rd, List.getD_eq_getElem?_getD, List.getElem?_eq_getElem h]
theorem index_int_loop {l : List Int} (hl : l.length ≤ 9223372036854775807) {fn : Int → Option Bool} {p : Nat → Prop} [DecidablePred p] (hp : ∀ j, j < l.length → fn (rd l (j : Int)) = some (decide (p j))) : ∀ (d i : Nat), l.length - i = d → i ≤ l.length → (∀ j, j < i → ¬ p j) →
    ∃ t : Int, Ev (fun f => slices_IndexFunc_int_int.l0 f l fn l.length i) t ∧ ((t = -1 ∧ ∀ j, j < l.length → ¬ p j) ∨ ∃ k : Nat, t = k ∧ k < l.length ∧ p k ∧ ∀ j, j < k → ¬ p j) := by
  intro d
  induction d with
  | zero =>
    intro i hd hi h1
    obtain rfl : i = l.length := by omega
    refine ⟨-1, ev_some _ fun k => ?_, .inl ⟨rfl, h1⟩⟩
    rw [slices_IndexFunc_int_int.l0, if_neg (by omega)]
  | succ d ih =>
    intro i hd hi h1
    by_cases c : p i
    · refine ⟨i, ev_some _ fun k => ?_, .inr ⟨i, rfl, by omega, c, h1⟩⟩
      rw [slices_IndexFunc_int_int.l0, if_pos (by omega), if_pos (by omega), if_pos (by omega), hp i (by omega), decide_eq_true c]
      rfl
    · obtain ⟨t, e, ht⟩ := ih (i + 1) (by omega) (by omega) (fun j hj => if q : j = i then q ▸ c else h1 j (by omega))
      refine ⟨t, Ev.step (fun k => ?_) e, ht⟩
      rw [slices_IndexFunc_int_int.l0, if_pos (by omega), if_pos (by omega), if_pos (by omega), hp i (by omega), decide_eq_false c, wsucc i (by omega)]
      rfl
theorem contains_ev {l : List Int} (hl : l.length ≤ 9223372036854775807) {fn : Int → Option Bool} {p : Nat → Prop} [DecidablePred p] (hp : ∀ j, j < l.length → fn (rd l (j : Int)) = some (decide (p j))) :
    ∃ b : Bool, Ev (fun f => slices_ContainsFunc_int_int.f f l fn) b ∧ (b = true ↔ ∃ j, j < l.length ∧ p j) := by
  obtain ⟨t, e, ht⟩ := index_int_loop hl hp l.length 0 (by omega) (by omega) (by omega)
  refine ⟨decide (t ≥ 0), Ev.bind e (Ev.now _), ?_⟩
  rcases ht with ⟨rfl, h⟩ | ⟨k, rfl, hk, h1, h2⟩
  · simp only [decide_eq_true_eq]
    exact ⟨fun z => by omega, fun ⟨j, hj, hp⟩ => absurd hp (h j hj)⟩
  · simp only [decide_eq_true_eq]
    exact ⟨fun _ => ⟨k, hk, h1⟩, fun _ => by omega⟩
open Classical in
theorem wear_Valid_ev (w : List Int) : Ev (fun k => wear_Valid.f k w) (decide (okR w)) := by
  by_cases c : 1 ≤ w.length ∧ w.length ≤ 40
  · obtain ⟨b, e, hb⟩ := contains_ev (l := w) (fn := wear_Valid_1.f) (p := fun j => ¬ (0 ≤ rd w (j : Int) ∧ rd w (j : Int) ≤ 10000)) (by omega) (fun j hj => by
      unfold wear_Valid_1.f
      rw [within_some]
      simp only [Option.bind_some]
      by_cases c : 0 ≤ rd w (j : Int) ∧ rd w (j : Int) ≤ 10000 <;> simp [c])
    refine Ev.congr (f := fun k => (slices_ContainsFunc_int_int.f k w wear_Valid_1.f).bind fun t102 => (some (!t102))) (fun k => ?_) ?_
    · unfold wear_Valid.f
      rw [within_some, decide_eq_true (by omega)]
      rfl
    · have : decide (okR w) = !b := by
        cases b with
        | true =>
          obtain ⟨j, hj, h⟩ := hb.1 rfl
          rw [decide_eq_false (fun z => h (z.2 j hj))]
          rfl
        | false =>
          rw [decide_eq_true ⟨c, fun i hi => Decidable.not_not.1 (fun z => absurd (hb.2 ⟨i, hi, z⟩) (by decide))⟩]
          rfl
      rw [this]
      exact Ev.bind e (Ev.now _)
  · rw [decide_eq_false (fun z => c z.1)]
    refine ev_some _ fun k => ?_
    unfold wear_Valid.f
    rw [within_some, decide_eq_false (by omega)]
    rfl
open Classical in
theorem ref_valid_loop (w : List Int) (hl : w.length ≤ 9223372036854775807) : ∀ (d i : Nat), w.length - i = d → i ≤ w.length → (∀ j, j < i → 0 ≤ rd w (j : Int) ∧ rd w (j : Int) ≤ 10000) → Ev (fun k => dropperref07_Valid.l0 k w i) (decide (okR w)) := by
  intro d
  induction d with
  | zero =>
    intro i hd hi h
    obtain rfl : i = w.length := by omega
    refine ev_some _ fun k => ?_
    rw [dropperref07_Valid.l0, if_neg (by omega)]
    by_cases c1 : (w.length : Int) ≥ 1
    · rw [if_pos c1]
      congr 1
      refine decide_eq_decide.2 ⟨fun c => ⟨⟨by omega, by omega⟩, h⟩, fun z => by have := z.1.2; omega⟩
    · rw [if_neg c1, decide_eq_false (fun z => by have := z.1.1; omega)]
  | succ d ih =>
    intro i hd hi h
    by_cases c : 0 ≤ rd w (i : Int) ∧ rd w (i : Int) ≤ 10000
    · refine Ev.step (fun k => ?_) (ih (i + 1) (by omega) (by omega) (fun j hj => if q : j = i then q ▸ c else h j (by omega)))
      rw [dropperref07_Valid.l0, if_pos (by omega), if_pos (by omega), if_neg (by omega), if_neg (by omega), wsucc i (by omega)]
    · rw [decide_eq_false (fun z => c (z.2 i (by omega)))]
      refine ev_some _ fun k => ?_
      rw [dropperref07_Valid.l0, if_pos (by omega), if_pos (by omega)]
      by_cases c1 : rd w (i : Int) < 0
      · rw [if_pos c1]
      · rw [if_neg c1, if_pos (by omega)]
open Classical in
theorem ref_Valid_ev (w : List Int) (hl : w.length ≤ 9223372036854775807) : Ev (fun k => dropperref07_Valid.f k w) (decide (okR w)) := ref_valid_loop w hl w.length 0 (by omega) (by omega) (fun j hj => by omega)
/-- The sum of the first readings. -/
def ps (r : List Int) : Nat → Int
  | 0 => 0
  | i + 1 => ps r i + rd r (i : Int)
theorem ps_bd {r : List Int} (o : okR r) : ∀ {b : Nat}, b ≤ r.length → ∀ {a : Nat}, a ≤ b → 0 ≤ ps r b - ps r a ∧ ps r b - ps r a ≤ 10000 * ((b : Int) - a)
  | 0, hb, a, ha => by
    obtain rfl : a = 0 := by omega
    simp
  | b + 1, hb, a, ha => by
    by_cases c : a = b + 1
    · subst c; simp
    · have h1 := ps_bd o (b := b) (by omega) (a := a) (by omega)
      have h2 := o.2 b (by omega)
      simp only [ps]
      omega
/-- The mean of the readings from a up to b (not with it). -/
def mn (r : List Int) (a b : Nat) : Rat := divInt (ps r b - ps r a) ((b : Int) - a)
/-- .. the sum of the first readings, as a fraction. -/
def pq (r : List Int) (a : Nat) : Rat := ((ps r a : Int) : Rat)
def nq (a : Nat) : Rat := (((a : Nat) : Int) : Rat)
theorem nq_le {a b : Nat} : nq a ≤ nq b ↔ a ≤ b := by unfold nq; rw [Rat.intCast_le_intCast]; omega
theorem nq_lt {a b : Nat} : nq a < nq b ↔ a < b := by unfold nq; rw [Rat.intCast_lt_intCast]; omega
theorem mn_mul {r : List Int} {a b : Nat} (h : a < b) : mn r a b * (nq b - nq a) = pq r b - pq r a := by
  have h2 := nq_lt.2 h
  unfold mn pq nq at *
  rw [Rat.divInt_eq_div, Rat.intCast_sub, Rat.intCast_sub]
  exact Rat.div_mul_cancel (by grind)
theorem le_mn {r : List Int} {a b : Nat} (h : a < b) {q : Rat} : q ≤ mn r a b ↔ q * (nq b - nq a) ≤ pq r b - pq r a := by
  have h2 := nq_lt.2 h
  rw [← mn_mul h]
  exact ⟨fun z => Rat.mul_le_mul_of_nonneg_right z (by grind), fun z => Rat.le_of_mul_le_mul_right z (by grind)⟩
theorem mn_le {r : List Int} {a b : Nat} (h : a < b) {q : Rat} : mn r a b ≤ q ↔ pq r b - pq r a ≤ q * (nq b - nq a) := by
  have h2 := nq_lt.2 h
  rw [← mn_mul h]
  exact ⟨fun z => Rat.mul_le_mul_of_nonneg_right z (by grind), fun z => Rat.le_of_mul_le_mul_right z (by grind)⟩
/-- Its numerator and denominator are small. -/
theorem mn_bd {r : List Int} (o : okR r) {a b : Nat} (h : a < b) (hb : b ≤ r.length) : 0 ≤ (mn r a b).num ∧ (mn r a b).num ≤ 400000 ∧ (mn r a b).num.natAbs ≤ 400000 ∧ 1 ≤ (mn r a b).den ∧ (mn r a b).den ≤ 40 ∧ ((mn r a b).den : Int) ∣ ((b : Int) - a) ∧ (mn r a b).num * (((b : Int) - a) / ((mn r a b).den : Int)) = ps r b - ps r a := by
  have h1 := ps_bd o hb (a := a) (by omega)
  have h40 := o.1.2
  obtain ⟨b1, b2⟩ := ratio_num_le (n := ps r b - ps r a) (d := (b : Int) - a) (by omega)
  have h3 := num_nonneg (n := ps r b - ps r a) (d := (b : Int) - a) h1.1 (by omega)
  have hd : ((mn r a b).den : Int) ∣ ((b : Int) - a) ∧ (mn r a b).num * (((b : Int) - a) / ((mn r a b).den : Int)) = ps r b - ps r a := by
    obtain ⟨e1, e2, e3⟩ := num_den (n := ps r b - ps r a) (d := (b : Int) - a) h1.1 (by omega)
    have g1 : ((Int.gcd (ps r b - ps r a) ((b : Int) - a) : Nat) : Int) ∣ (ps r b - ps r a) := Int.gcd_dvd_left ..
    have g2 : ((Int.gcd (ps r b - ps r a) ((b : Int) - a) : Nat) : Int) ∣ ((b : Int) - a) := Int.gcd_dvd_right ..
    rw [Int.tdiv_eq_ediv_of_dvd g1] at e1
    rw [Int.tdiv_eq_ediv_of_dvd g2] at e2
    show ((divInt _ _).den : Int) ∣ _ ∧ (divInt _ _).num * (_ / ((divInt _ _).den : Int)) = _
    rw [← e1, ← e2]
    have p : 0 < (b : Int) - a := by omega
    generalize ((Int.gcd (ps r b - ps r a) ((b : Int) - a) : Nat) : Int) = g at *
    generalize (b : Int) - a = d at *
    generalize ps r b - ps r a = n at *
    obtain ⟨x, rfl⟩ := g1
    obtain ⟨y, rfl⟩ := g2
    rw [Int.mul_ediv_cancel_left _ (by omega), Int.mul_ediv_cancel_left _ (by omega)]
    refine ⟨⟨g, Int.mul_comm _ _⟩, ?_⟩
    have hy : y ≠ 0 := fun z => by subst z; simp at p
    rw [Int.mul_ediv_cancel _ hy, Int.mul_comm]
  have hden := (mn r a b).den_pos
  unfold mn at *
  exact ⟨h3, by omega, by omega, hden, by omega, hd.1, hd.2⟩
theorem rd_mid {r : List Int} {a b i : Nat} (h : a + i < b) (hb : b ≤ r.length) : rd ((r.take b).drop a) (i : Int) = rd r ((a + i : Nat) : Int) := by
  have hl : ((r.take b).drop a).length = b - a := by rw [List.length_drop, List.length_take]; omega
  rw [rd_get (by omega), rd_get (by omega), List.getElem_drop, List.getElem_take]
theorem mean_loop {r : List Int} (o : okR r) {a b : Nat} (h : a < b) (hb : b ≤ r.length) : ∀ (d i : Nat), b - a - i = d → i ≤ b - a → Ev (fun k => wear_mean.l0 k ((r.take b).drop a) (ps r (a + i) - ps r a) ((r.take b).drop a) (((r.take b).drop a).length : Int) (i : Int)) ((mn r a b).num, ((mn r a b).den : Int))
  | 0, i, hd, hi => by
    have hl : ((r.take b).drop a).length = b - a := by rw [List.length_drop, List.length_take]; omega
    have h1 := ps_bd o hb (a := a) (by omega)
    have h40 := o.1.2
    refine Ev.step (f := fun k => (wear_ratio.f k (ps r b - ps r a) ((b : Int) - a)).bind fun bt103 => (some (bt103.1, bt103.2))) (fun k => ?_) (Ev.bind (ratio_ev h1.1 (by omega) (by omega) (by omega)).1 (Ev.now _))
    rw [wear_mean.l0, if_neg (by omega), hl, show a + i = b by omega, show ((b - a : Nat) : Int) = (b : Int) - a by omega]
  | d + 1, i, hd, hi => by
    have hl : ((r.take b).drop a).length = b - a := by rw [List.length_drop, List.length_take]; omega
    have h1 := ps_bd o (b := a + (i + 1)) (by omega) (a := a) (by omega)
    have h40 := o.1.2
    refine Ev.step (fun k => ?_) (mean_loop o h hb d (i + 1) (by omega) (by omega))
    have e : ps r (a + i) - ps r a + rd r ((a + i : Nat) : Int) = ps r (a + (i + 1)) - ps r a := by
      show _ = ps r (a + i) + rd r ((a + i : Nat) : Int) - ps r a
      omega
    rw [wear_mean.l0, if_pos (by omega), if_pos (by omega), if_pos (by omega), rd_mid (by omega) hb, e, w64 (by omega) (by omega), wsucc i (by omega)]
theorem mean_ev {r : List Int} (o : okR r) {a b : Nat} (h : a < b) (hb : b ≤ r.length) : Ev (fun k => wear_mean.f k ((r.take b).drop a)) ((mn r a b).num, ((mn r a b).den : Int)) := by
  have e := mean_loop o h hb _ 0 rfl (by omega)
  rw [Nat.add_zero, Int.sub_self] at e
  exact e
/-- The block from s up to e. -/
def bk (r : List Int) (s e : Nat) : S50 := ⟨(s : Int), ps r e - ps r s, (e : Int) - s⟩
/-- No beginning of it has a lesser mean. -/
def good (r : List Int) (s e : Nat) : Prop := ∀ x, s ≤ x → x ≤ e → mn r s e * (nq x - nq s) ≤ pq r x - pq r s
theorem good_one (r : List Int) (s : Nat) : good r s (s + 1) := fun x h1 h2 => by
  by_cases c : x = s
  · subst c
    have : nq x - nq x = 0 := by grind
    rw [this]; grind
  · obtain rfl : x = s + 1 := by omega
    rw [mn_mul (by omega)]
    grind
theorem good_join {r : List Int} {s t e : Nat} (h1 : s < t) (h2 : t < e) (g1 : good r s t) (g2 : good r t e) (hm : mn r t e ≤ mn r s t) : good r s e ∧ mn r t e ≤ mn r s e ∧ mn r s e ≤ mn r s t := by
  have n1 := nq_lt.2 h1
  have n2 := nq_lt.2 h2
  have e1 := mn_mul (r := r) h1
  have e2 := mn_mul (r := r) h2
  have e3 := mn_mul (r := r) (show s < e by omega)
  have m1 : mn r t e ≤ mn r s e := by
    rw [le_mn (by omega)]
    have p1 := Rat.mul_le_mul_of_nonneg_right hm (c := nq t - nq s) (by grind)
    grind
  have m2 : mn r s e ≤ mn r s t := by
    rw [mn_le (by omega)]
    have p1 := Rat.mul_le_mul_of_nonneg_right hm (c := nq e - nq t) (by grind)
    grind
  refine ⟨fun x hx1 hx2 => ?_, m1, m2⟩
  by_cases c : x ≤ t
  · have p1 := g1 x hx1 c
    have nx := nq_le.2 hx1
    have p2 := Rat.mul_le_mul_of_nonneg_right m2 (c := nq x - nq s) (by grind)
    grind
  · have p1 := g2 x (by omega) hx2
    have nx := nq_le.2 hx2
    have p2 := Rat.mul_le_mul_of_nonneg_right m1 (c := nq e - nq x) (by grind)
    grind
/-- Blocks in order, from 0 up to e, as their ends tell: E 0 = 0 < E 1 < .. -/
def Chain (r : List Int) (L : List S50) (e : Nat) : Prop := ∃ E : Nat → Nat, E 0 = 0 ∧ E L.length = e ∧ (∀ k, k < L.length → E k < E (k + 1) ∧ rd_T50 L (k : Int) = bk r (E k) (E (k + 1)) ∧ good r (E k) (E (k + 1))) ∧ (∀ k, k + 1 < L.length → mn r (E k) (E (k + 1)) < mn r (E (k + 1)) (E (k + 2)))
theorem rd50_append {L : List S50} {b : S50} {k : Nat} (h : k < L.length) : rd_T50 (L ++ [b]) (k : Int) = rd_T50 L (k : Int) := by
  simp [rd_T50, List.getD_eq_getElem?_getD, List.getElem?_append_left h]
theorem rd50_last {L : List S50} {b : S50} : rd_T50 (L ++ [b]) (L.length : Int) = b := by
  simp [rd_T50, List.getD_eq_getElem?_getD]
theorem rd50_take {L : List S50} {m k : Nat} (h : k < m) : rd_T50 (L.take m) (k : Int) = rd_T50 L (k : Int) := by
  simp [rd_T50, List.getD_eq_getElem?_getD, List.getElem?_take_of_lt h]
theorem chain_push {r : List Int} {L : List S50} {s e : Nat} (h : Chain r L s) (hs : s < e) (g : good r s e) (hm : ∀ t, L ≠ [] → (∀ E : Nat → Nat, E 0 = 0 → E L.length = s → (∀ k, k < L.length → E k < E (k + 1) ∧ rd_T50 L (k : Int) = bk r (E k) (E (k + 1)) ∧ good r (E k) (E (k + 1))) → E (L.length - 1) = t) → mn r t s < mn r s e) : Chain r (L ++ [bk r s e]) e := by
  obtain ⟨E, e0, e1, h1, h2⟩ := h
  have hl : (L ++ [bk r s e]).length = L.length + 1 := by simp
  obtain ⟨F, f1, f2⟩ : ∃ F : Nat → Nat, (∀ k, k ≤ L.length → F k = E k) ∧ F (L.length + 1) = e := ⟨fun k => if k ≤ L.length then E k else e, fun k hk => if_pos hk, if_neg (by omega)⟩
  refine ⟨F, by rw [f1 0 (by omega), e0], by rw [hl, f2], fun k hk => ?_, fun k hk => ?_⟩
  · rw [hl] at hk
    by_cases c : k = L.length
    · subst c
      rw [f1 _ (by omega), f2, e1, rd50_last]
      exact ⟨hs, rfl, g⟩
    · rw [f1 _ (by omega), f1 _ (by omega), rd50_append (by omega)]
      exact h1 k (by omega)
  · rw [hl] at hk
    by_cases c : k + 1 = L.length
    · rw [f1 _ (by omega), f1 (k + 1) (by omega), show k + 2 = L.length + 1 by omega, f2, show E (k + 1) = s by rw [c]; exact e1]
      refine hm (E k) (fun z => by rw [z] at c; simp at c) (fun E' e0' e1' h1' => ?_)
      have a1 := (h1' (L.length - 1) (by omega)).2.1
      have a2 := (h1 (L.length - 1) (by omega)).2.1
      rw [a2] at a1
      have := congrArg S50.f0 a1
      simp only [bk] at this
      rw [show k = L.length - 1 by omega]
      omega
    · rw [f1 _ (by omega), f1 _ (by omega), f1 _ (by omega)]
      exact h2 k (by omega)
theorem chain_nil (r : List Int) : Chain r [] 0 := ⟨fun _ => 0, rfl, rfl, fun k hk => by simp at hk, fun k hk => by simp at hk⟩
theorem bmean_ev {r : List Int} (o : okR r) {s e : Nat} (h : s < e) (he : e ≤ r.length) : Ev (fun k => wear_block_mean.f k (bk r s e).f0 (bk r s e).f1 (bk r s e).f2) ((mn r s e).num, ((mn r s e).den : Int)) := by
  have h1 := ps_bd o he (a := s) (by omega)
  have h40 := o.1.2
  exact Ev.bind (ratio_ev (n := ps r e - ps r s) (d := (e : Int) - s) h1.1 (by omega) (by omega) (by omega)).1 (Ev.now _)
theorem mless_some {r : List Int} (o : okR r) {s e s' e' : Nat} (h : s < e) (he : e ≤ r.length) (h' : s' < e') (he' : e' ≤ r.length) : wear_less.f (mn r s e).num (mn r s e).den (mn r s' e').num (mn r s' e').den = some (decide (mn r s e < mn r s' e')) := by
  have a := mn_bd o h he
  have b := mn_bd o h' he'
  exact less_some (by omega) (by omega) (by omega) (by omega)
theorem blocks_l1 {r : List Int} (o : okR r) {i : Nat} (hi : i < r.length) (next : ∀ L, Chain r L (i + 1) → ∃ L', Chain r L' r.length ∧ Ev (fun k => wear_blocks.l0 k L r (r.length : Int) ((i + 1 : Nat) : Int)) L') :
    ∀ (n : Nat) (L : List S50) (s : Nat), L.length = n → s < i + 1 → Chain r L s → good r s (i + 1) → ∃ L', Chain r L' r.length ∧ Ev (fun k => wear_blocks.l1 k L ((n : Int) - 1) r (r.length : Int) (i : Int) (bk r s (i + 1)).f0 (bk r s (i + 1)).f1 (bk r s (i + 1)).f2) L'
  | 0, L, s, hn, hs, hc, hg => by
    obtain rfl : L = [] := List.length_eq_zero_iff.1 hn
    obtain ⟨L', c1, e⟩ := next ([] ++ [bk r s (i + 1)]) (chain_push hc hs hg (fun t hne _ => absurd rfl hne))
    refine ⟨L', c1, Ev.step (fun k => ?_) e⟩
    rw [wear_blocks.l1, if_neg (by omega), if_pos (by simp), wsucc i (by have := o.1.2; omega)]
  | n + 1, L, s, hn, hs, hc, hg => by
    have h40 := o.1.2
    obtain ⟨E, e0, e1, h1, h2⟩ := id hc
    rw [hn] at e1
    obtain ⟨k1, k2, k3⟩ := h1 n (by omega)
    rw [e1] at k1 k2 k3
    have hln : n ≤ s := by
      have : ∀ m, m ≤ n → m ≤ E m := by
        intro m
        induction m with
        | zero => intro _; omega
        | succ m ih => intro hm; have := ih (by omega); have := (h1 m (by omega)).1; omega
      have := this n (by omega)
      omega
    have b1 := bmean_ev o (s := E n) (e := s) k1 (by omega)
    have b2 := bmean_ev o (s := s) (e := i + 1) hs (by omega)
    have hx : ((n + 1 : Nat) : Int) - 1 = (n : Int) := by omega
    have main : ∃ L', Chain r L' r.length ∧ Ev (fun k => (wear_block_mean.f k (bk r (E n) s).f0 (bk r (E n) s).f1 (bk r (E n) s).f2).bind fun bt104 => ((wear_block_mean.f k (bk r s (i + 1)).f0 (bk r s (i + 1)).f1 (bk r s (i + 1)).f2).bind fun bt106 => ((wear_less.f bt104.1 bt104.2 bt106.1 bt106.2).bind fun t108 => (if t108 = true then (if L.length < 5864062014805 then (wear_blocks.l0 k (L ++ [(⟨(bk r s (i + 1)).f0, (bk r s (i + 1)).f1, (bk r s (i + 1)).f2⟩ : S50)]) r (r.length : Int) (wrap64 ((i : Int) + 1))) else (none)) else (if (n : Int) ≤ (L.length : Int) then (wear_blocks.l1 k (L.take ((n : Int) : Int).toNat) (wrap64 ((n : Int) - 1)) r (r.length : Int) (i : Int) (bk r (E n) s).f0 (wrap64 ((bk r (E n) s).f1 + (bk r s (i + 1)).f1)) (wrap64 ((bk r (E n) s).f2 + (bk r s (i + 1)).f2))) else (none)))))) L' := by
      by_cases c : mn r (E n) s < mn r s (i + 1)
      · obtain ⟨L', c1, e⟩ := next (L ++ [bk r s (i + 1)]) (chain_push hc hs hg (fun t _ ht => by
          have := ht E e0 (by rw [hn]; exact e1) h1
          rw [hn] at this
          rw [← this]; exact c))
        refine ⟨L', c1, Ev.bind b1 (Ev.bind b2 ?_)⟩
        rw [mless_some o k1 (by omega) hs (by omega), decide_eq_true c]
        refine Ev.congr (fun k => ?_) e
        simp only [Option.bind_some, if_true]
        rw [if_pos (by omega), wsucc i (by omega)]
      · obtain ⟨j1, j2, j3⟩ := good_join k1 hs k3 hg (Rat.not_lt.1 c)
        have hl : (L.take n).length = n := by rw [List.length_take]; omega
        have hc' : Chain r (L.take n) (E n) := ⟨E, e0, by rw [hl], fun k hk => by
          rw [hl] at hk
          rw [rd50_take hk]
          exact h1 k (by omega), fun k hk => h2 k (by omega)⟩
        obtain ⟨L', c1, e⟩ := blocks_l1 o hi next n (L.take n) (E n) hl (by omega) hc' j1
        refine ⟨L', c1, Ev.bind b1 (Ev.bind b2 ?_)⟩
        rw [mless_some o k1 (by omega) hs (by omega), decide_eq_false c]
        refine Ev.congr (fun k => ?_) e
        have p1 := ps_bd o (b := s) (by omega) (a := E n) (by omega)
        have p2 := ps_bd o (b := i + 1) (by omega) (a := s) (by omega)
        simp only [Option.bind_some, Bool.false_eq_true, if_false]
        rw [if_pos (by omega), show ((n : Int) : Int).toNat = n by omega, w64 (n := (n : Int) - 1) (by omega) (by omega)]
        have q1 : wrap64 ((bk r (E n) s).f1 + (bk r s (i + 1)).f1) = (bk r (E n) (i + 1)).f1 := by
          simp only [bk]; rw [w64 (by omega) (by omega)]; omega
        have q2 : wrap64 ((bk r (E n) s).f2 + (bk r s (i + 1)).f2) = (bk r (E n) (i + 1)).f2 := by
          simp only [bk]; rw [w64 (by omega) (by omega)]; omega
        rw [q1, q2]
        rfl
    obtain ⟨L', c1, e⟩ := main
    refine ⟨L', c1, Ev.step (fun k => ?_) e⟩
    rw [hx, wear_blocks.l1, if_pos (by omega), if_pos (by omega), if_pos (by omega), k2]
theorem blocks_l0 {r : List Int} (o : okR r) : ∀ (d i : Nat) (L : List S50), r.length - i = d → i ≤ r.length → L.length ≤ i → Chain r L i → ∃ L', Chain r L' r.length ∧ Ev (fun k => wear_blocks.l0 k L r (r.length : Int) (i : Int)) L'
  | 0, i, L, hd, hi, hL, hc => by
    obtain rfl : i = r.length := by omega
    exact ⟨L, hc, ev_some _ fun k => by rw [wear_blocks.l0, if_neg (by omega)]⟩
  | d + 1, i, L, hd, hi, hL, hc => by
    have h40 := o.1.2
    obtain ⟨L', c1, e⟩ := blocks_l1 o (i := i) (by omega) (fun L2 h2 => blocks_l0 o d (i + 1) L2 (by omega) (by omega) (by
      obtain ⟨E, e0, e1, q1, q2⟩ := h2
      have : ∀ m, m ≤ L2.length → m ≤ E m := by
        intro m
        induction m with
        | zero => intro _; omega
        | succ m ih => intro hm; have := ih (by omega); have := (q1 m (by omega)).1; omega
      have := this L2.length (by omega)
      omega) h2) L.length L i rfl (by omega) hc (good_one r i)
    refine ⟨L', c1, Ev.step (fun k => ?_) e⟩
    have q1 : (bk r i (i + 1)).f1 = rd r (i : Int) := by simp only [bk, ps]; omega
    have q2 : (bk r i (i + 1)).f2 = 1 := by simp only [bk]; omega
    rw [wear_blocks.l0, if_pos (by omega), if_pos (by omega), if_pos (by omega), w64 (by omega) (by omega), q1, q2]
    rfl
theorem blocks_ev {r : List Int} (o : okR r) : ∃ L, Chain r L r.length ∧ Ev (fun k => wear_blocks.f k r) L := blocks_l0 o _ 0 [] rfl (by omega) (by simp) (chain_nil r)
def toS (q : Rat) : S35 := ⟨q.num, (q.den : Int)⟩
/-- The ends of the blocks. -/
def Cuts (r : List Int) (E : Nat → Nat) (m : Nat) : Prop := E 0 = 0 ∧ E m = r.length ∧ (∀ k, k < m → E k < E (k + 1) ∧ good r (E k) (E (k + 1))) ∧ (∀ k, k + 1 < m → mn r (E k) (E (k + 1)) < mn r (E (k + 1)) (E (k + 2)))
/-- A row with the blocks' means. -/
def isNear (r : List Int) (E : Nat → Nat) (m : Nat) (X : List S35) : Prop := X.length = r.length ∧ ∀ k, k < m → ∀ i, E k ≤ i → i < E (k + 1) → rd_T35 X (i : Int) = toS (mn r (E k) (E (k + 1)))
theorem rd35_left {X Y : List S35} {i : Nat} (h : i < X.length) : rd_T35 (X ++ Y) (i : Int) = rd_T35 X (i : Int) := by
  simp [rd_T35, List.getD_eq_getElem?_getD, List.getElem?_append_left h]
theorem rd35_right {X : List S35} {c i : Nat} {y : S35} (h : X.length ≤ i) (h2 : i < X.length + c) : rd_T35 (X ++ List.replicate c y) (i : Int) = y := by
  simp only [rd_T35, List.getD_eq_getElem?_getD, Int.toNat_natCast]
  rw [List.getElem?_append_right h, List.getElem?_replicate, if_pos (by omega)]
  rfl
theorem cuts_le {r : List Int} {E : Nat → Nat} {m : Nat} (h : Cuts r E m) : ∀ k, k ≤ m → k ≤ E k ∧ E k ≤ r.length := by
  obtain ⟨e0, e1, h1, _⟩ := h
  have a : ∀ k, k ≤ m → k ≤ E k := by
    intro k
    induction k with
    | zero => intro _; omega
    | succ k ih => intro hk; have := ih (by omega); have := (h1 k (by omega)).1; omega
  have b : ∀ d k, m - k = d → k ≤ m → E k ≤ r.length := by
    intro d
    induction d with
    | zero =>
      intro k hd hk
      obtain rfl : k = m := by omega
      omega
    | succ d ih =>
      intro k hd hk
      have := ih (k + 1) (by omega) (by omega)
      have := (h1 k (by omega)).1
      omega
  exact fun k hk => ⟨a k hk, b _ k rfl hk⟩
theorem near_loop {r : List Int} (o : okR r) {L : List S50} {E : Nat → Nat} (hc : Cuts r E L.length) (hL : ∀ k, k < L.length → rd_T50 L (k : Int) = bk r (E k) (E (k + 1))) : ∀ (d j : Nat) (X : List S35), L.length - j = d → j ≤ L.length → X.length = E j → (∀ k, k < j → ∀ i, E k ≤ i → i < E (k + 1) → rd_T35 X (i : Int) = toS (mn r (E k) (E (k + 1)))) →
    ∃ X', isNear r E L.length X' ∧ Ev (fun k => wear_nearest.l0 k X L (L.length : Int) (j : Int)) X'
  | 0, j, X, hd, hj, hX, h => by
    obtain rfl : j = L.length := by omega
    refine ⟨X, ⟨by rw [hX]; exact hc.2.1, h⟩, ev_some _ fun k => ?_⟩
    rw [wear_nearest.l0, if_neg (by omega)]
  | d + 1, j, X, hd, hj, hX, h => by
    have h40 := o.1.2
    have b0 := cuts_le hc j (by omega)
    have b1 := cuts_le hc (j + 1) (by omega)
    have s1 := (hc.2.2.1 j (by omega)).1
    obtain ⟨c, hcc⟩ : ∃ c : Nat, E (j + 1) = E j + c := ⟨E (j + 1) - E j, by omega⟩
    have hle : ∀ k, k < j → E (k + 1) ≤ E j := by
      intro k hk
      have : ∀ d, k + 1 + d ≤ j → E (k + 1) ≤ E (k + 1 + d) := by
        intro d
        induction d with
        | zero => intro _; exact Nat.le_refl _
        | succ d ih => intro hd; have := ih (by omega); have := (hc.2.2.1 (k + 1 + d) (by omega)).1; rw [show k + 1 + (d + 1) = k + 1 + d + 1 by omega]; omega
      have := this (j - (k + 1)) (by omega)
      rw [show k + 1 + (j - (k + 1)) = j by omega] at this
      exact this
    obtain ⟨X', x1, e⟩ := near_loop o hc hL d (j + 1) (X ++ List.replicate c (toS (mn r (E j) (E (j + 1))))) (by omega) (by omega) (by rw [List.length_append, List.length_replicate]; omega) (fun k hk i hi hi2 => by
      by_cases z : k = j
      · subst z
        exact rd35_right (by omega) (by omega)
      · have := hle k (by omega)
        rw [rd35_left (by omega)]
        exact h k (by omega) i hi hi2)
    refine ⟨X', x1, ?_⟩
    refine Ev.step (f := fun k => (wear_block_mean.f k (bk r (E j) (E (j + 1))).f0 (bk r (E j) (E (j + 1))).f1 (bk r (E j) (E (j + 1))).f2).bind fun bt106 => ((api_Ratio_37.f (([(⟨bt106.1, bt106.2⟩ : S35)] : List (S35))) ((bk r (E j) (E (j + 1))).f2)).bind fun t111 => (if X.length + t111.length < 8796093022208 then (wear_nearest.l0 k (X ++ t111) L (L.length : Int) (wrap64 ((j : Int) + 1))) else (none)))) (fun k => ?_) (Ev.bind (bmean_ev o s1 b1.2) ?_)
    · rw [wear_nearest.l0, if_pos (by omega), if_pos (by omega), if_pos (by omega), hL j (by omega)]
    · have hf2 : (bk r (E j) (E (j + 1))).f2 = (c : Int) := by simp only [bk]; omega
      have er : api_Ratio_37.f ([(⟨(mn r (E j) (E (j + 1))).num, ((mn r (E j) (E (j + 1))).den : Int)⟩ : S35)]) (c : Int) = some (List.replicate c (toS (mn r (E j) (E (j + 1))))) := by
        unfold api_Ratio_37.f
        simp only [List.length_cons, List.length_nil, Nat.zero_add, if_true]
        rw [if_pos (by omega), if_pos (by omega)]
        rfl
      rw [hf2, er]
      refine Ev.congr (fun k => ?_) e
      simp only [Option.bind_some]
      rw [if_pos (by rw [List.length_replicate]; omega), wsucc j (by omega)]
theorem blocks_list {L : List S50} {r : List Int} {E : Nat → Nat} (hl : L.length ≤ 40) (hL : ∀ k, k < L.length → rd_T50 L (k : Int) = bk r (E k) (E (k + 1))) : ∀ (d j : Nat), L.length - j = d → j ≤ L.length → Ev (fun k => wear_Blocks.l0 k ((List.range j).map fun q : Nat => ((E q : Nat) : Int)) L (L.length : Int) (j : Int)) ((List.range L.length).map (fun q : Nat => ((E q : Nat) : Int)), 0)
  | 0, j, hd, hj => by
    obtain rfl : j = L.length := by omega
    exact ev_some _ fun k => by rw [wear_Blocks.l0, if_neg (by omega)]
  | d + 1, j, hd, hj => by
    refine Ev.step (fun k => ?_) (blocks_list hl hL d (j + 1) (by omega) (by omega))
    rw [wear_Blocks.l0, if_pos (by omega), if_pos (by omega), if_pos (by omega), if_pos (by simp; omega), wsucc j (by omega), hL j (by omega), List.range_succ, List.map_append]
    rfl
/-- What Nearest and Blocks tell of readings as described. -/
theorem nearest_ev {r : List Int} (o : okR r) : ∃ E m X, Cuts r E m ∧ 1 ≤ m ∧ m ≤ 40 ∧ isNear r E m X ∧ Ev (fun k => wear_Nearest.f k r) (X, 0) ∧ Ev (fun k => wear_Blocks.f k r) ((List.range m).map (fun q : Nat => ((E q : Nat) : Int)), 0) := by
  classical
  have h40 := o.1
  obtain ⟨L, ⟨E, e0, e1, h1, h2⟩, eb⟩ := blocks_ev o
  have hc : Cuts r E L.length := ⟨e0, e1, fun k hk => ⟨(h1 k hk).1, (h1 k hk).2.2⟩, h2⟩
  have hm : 1 ≤ L.length := by
    rcases Nat.eq_zero_or_pos L.length with z | z
    · rw [z, e0] at e1; omega
    · exact z
  have hm2 := (cuts_le hc L.length (Nat.le_refl _)).1
  obtain ⟨X, x1, e⟩ := near_loop o hc (fun k hk => (h1 k hk).2.1) _ 0 [] rfl (by omega) (by rw [e0]; rfl) (fun k hk => by omega)
  refine ⟨E, L.length, X, hc, hm, by omega, x1, ?_, ?_⟩
  · refine Ev.bind (wear_Valid_ev r) ?_
    simp only [decide_eq_true o, if_true]
    exact Ev.bind (Ev.bind eb e) (Ev.now _)
  · refine Ev.bind (wear_Valid_ev r) ?_
    simp only [decide_eq_true o, if_true]
    exact Ev.bind eb (blocks_list (by omega) (fun k hk => (h1 k hk).2.1) _ 0 rfl (by omega))
theorem cover {r : List Int} {E : Nat → Nat} {m : Nat} (h : Cuts r E m) {i : Nat} (hi : i < r.length) : ∃ k, k < m ∧ E k ≤ i ∧ i < E (k + 1) := by
  obtain ⟨e0, e1, h1, _⟩ := h
  have : ∀ j, j ≤ m → i < E j → ∃ k, k < m ∧ E k ≤ i ∧ i < E (k + 1) := by
    intro j
    induction j with
    | zero => intro _ h; omega
    | succ j ih =>
      intro hj h
      by_cases c : i < E j
      · exact ih (by omega) c
      · exact ⟨j, by omega, by omega, h⟩
  exact this m (Nat.le_refl _) (by omega)
theorem cuts_mono {r : List Int} {E : Nat → Nat} {m : Nat} (h : Cuts r E m) {k : Nat} : ∀ {k' : Nat}, k ≤ k' → k' < m → E k ≤ E k' ∧ mn r (E k) (E (k + 1)) ≤ mn r (E k') (E (k' + 1))
  | 0, hk, _ => by
    obtain rfl : k = 0 := by omega
    exact ⟨Nat.le_refl _, Rat.le_refl⟩
  | k' + 1, hk, hm => by
    by_cases c : k = k' + 1
    · subst c; exact ⟨Nat.le_refl _, Rat.le_refl⟩
    · have ih := cuts_mono h (k := k) (k' := k') (by omega) (by omega)
      have h1 := (h.2.2.1 k' (by omega)).1
      have h2 := h.2.2.2 k' hm
      exact ⟨by omega, by grind⟩
/-- From a block's begin on no sum is less than its mean tells. -/
theorem low_from {r : List Int} {E : Nat → Nat} {m : Nat} (h : Cuts r E m) {k : Nat} (hk : k < m) {x : Nat} (h1 : E k ≤ x) (h2 : x ≤ r.length) : mn r (E k) (E (k + 1)) * (nq x - nq (E k)) ≤ pq r x - pq r (E k) := by
  have at_ : ∀ k', k ≤ k' → k' < m → mn r (E k) (E (k + 1)) * (nq (E k') - nq (E k)) ≤ pq r (E k') - pq r (E k) := by
    intro k'
    induction k' with
    | zero =>
      intro z _
      obtain rfl : k = 0 := by omega
      have : nq (E 0) - nq (E 0) = 0 := by grind
      rw [this]; grind
    | succ k' ih =>
      intro z hm
      by_cases c : k = k' + 1
      · subst c
        have : nq (E (k' + 1)) - nq (E (k' + 1)) = 0 := by grind
        rw [this]; grind
      · have i1 := ih (by omega) (by omega)
        have s1 := (h.2.2.1 k' (by omega)).1
        have s2 := mn_mul (r := r) s1
        have s3 := (cuts_mono h (k := k) (k' := k') (by omega) (by omega)).2
        have s4 := nq_lt.2 s1
        have p := Rat.mul_le_mul_of_nonneg_right s3 (c := nq (E (k' + 1)) - nq (E k')) (by grind)
        grind
  by_cases c : x < r.length
  · obtain ⟨k', k1, k2, k3⟩ := cover h c
    have hkk : k ≤ k' := by
      rcases Nat.lt_or_ge k' k with z | z
      · have := (cuts_mono h (k := k' + 1) (k' := k) (by omega) hk).1
        omega
      · exact z
    have i1 := at_ k' hkk k1
    have g := (h.2.2.1 k' k1).2 x k2 (by omega)
    have s3 := (cuts_mono h hkk k1).2
    have s4 := nq_le.2 k2
    have p := Rat.mul_le_mul_of_nonneg_right s3 (c := nq x - nq (E k')) (by grind)
    grind
  · obtain rfl : x = r.length := by omega
    obtain ⟨p', rfl⟩ : ∃ p', m = p' + 1 := ⟨m - 1, by omega⟩
    have i1 := at_ p' (by omega) (by omega)
    have s1 := (h.2.2.1 p' (by omega)).1
    have s2 := mn_mul (r := r) s1
    have s3 := (cuts_mono h (k := k) (k' := p') (by omega) (by omega)).2
    have s4 := nq_lt.2 s1
    have e1 := h.2.1
    rw [e1] at s2 s3 s4
    have p := Rat.mul_le_mul_of_nonneg_right s3 (c := nq r.length - nq (E p')) (by grind)
    grind
/-- Up to a block's end no sum is greater than its mean tells. -/
theorem high_to {r : List Int} {E : Nat → Nat} {m : Nat} (h : Cuts r E m) {k : Nat} (hk : k < m) {a : Nat} (h1 : a ≤ E (k + 1)) : pq r (E (k + 1)) - pq r a ≤ mn r (E k) (E (k + 1)) * (nq (E (k + 1)) - nq a) := by
  have at_ : ∀ d k', k - k' = d → k' ≤ k → pq r (E (k + 1)) - pq r (E (k' + 1)) ≤ mn r (E k) (E (k + 1)) * (nq (E (k + 1)) - nq (E (k' + 1))) := by
    intro d
    induction d with
    | zero =>
      intro k' hd hk'
      obtain rfl : k' = k := by omega
      have : nq (E (k' + 1)) - nq (E (k' + 1)) = 0 := by grind
      rw [this]; grind
    | succ d ih =>
      intro k' hd hk'
      have i1 := ih (k' + 1) (by omega) (by omega)
      have s1 := (h.2.2.1 (k' + 1) (by omega)).1
      have s2 := mn_mul (r := r) s1
      have s3 := (cuts_mono h (k := k' + 1) (k' := k) (by omega) hk).2
      have s4 := nq_lt.2 s1
      have p := Rat.mul_le_mul_of_nonneg_right s3 (c := nq (E (k' + 1 + 1)) - nq (E (k' + 1))) (by grind)
      grind
  have hlen := (cuts_le h (k + 1) (by omega)).2
  by_cases c : a = E (k + 1)
  · subst c
    have : nq (E (k + 1)) - nq (E (k + 1)) = 0 := by grind
    rw [this]; grind
  · obtain ⟨k', k1, k2, k3⟩ := cover h (i := a) (by omega)
    have hkk : k' ≤ k := by
      rcases Nat.lt_or_ge k k' with z | z
      · have := (cuts_mono h (k := k + 1) (k' := k') (by omega) k1).1
        omega
      · exact z
    have i1 := at_ _ k' rfl hkk
    have g := (h.2.2.1 k' k1).2 a k2 (by omega)
    have s1 := (h.2.2.1 k' k1).1
    have s2 := mn_mul (r := r) s1
    have s3 := (cuts_mono h hkk hk).2
    have s4 := nq_lt.2 k3
    have p := Rat.mul_le_mul_of_nonneg_right s3 (c := nq (E (k' + 1)) - nq a) (by grind)
    grind
/-- The greatest of the least means around an index. -/
def MM (r : List Int) (i : Nat) (q : Rat) : Prop := (∃ a, a ≤ i ∧ ∀ b, i ≤ b → b < r.length → q ≤ mn r a (b + 1)) ∧ ∀ a, a ≤ i → ∃ b, i ≤ b ∧ b < r.length ∧ mn r a (b + 1) ≤ q
theorem MM_unique {r : List Int} {i : Nat} {p q : Rat} (h : MM r i p) (h' : MM r i q) : p = q := by
  obtain ⟨⟨a, a1, a2⟩, a3⟩ := h
  obtain ⟨⟨b, b1, b2⟩, b3⟩ := h'
  obtain ⟨x, x1, x2, x3⟩ := b3 a a1
  obtain ⟨y, y1, y2, y3⟩ := a3 b b1
  have z1 := a2 x x1 x2
  have z2 := b2 y y1 y2
  grind
theorem MM_block {r : List Int} {E : Nat → Nat} {m : Nat} (h : Cuts r E m) {k i : Nat} (hk : k < m) (h1 : E k ≤ i) (h2 : i < E (k + 1)) : MM r i (mn r (E k) (E (k + 1))) := by
  have hlen := (cuts_le h (k + 1) (by omega)).2
  refine ⟨⟨E k, h1, fun b b1 b2 => ?_⟩, fun a ha => ⟨E (k + 1) - 1, by omega, by omega, ?_⟩⟩
  · rw [le_mn (by omega)]
    exact low_from h hk (by omega) (by omega)
  · rw [show E (k + 1) - 1 + 1 = E (k + 1) by omega, mn_le (by omega)]
    exact high_to h hk (by omega)
/-- The least of the means of the readings from a up to those from i on, before b. -/
def isL (r : List Int) (i a : Nat) (q : Rat) (b : Nat) : Prop := (∀ b', i ≤ b' → b' < b → q ≤ mn r a (b' + 1)) ∧ ∃ b', i ≤ b' ∧ b' < b ∧ q = mn r a (b' + 1)
def isM (r : List Int) (i a : Nat) (q : Rat) : Prop := (∃ a', a' < a ∧ ∀ b, i ≤ b → b < r.length → q ≤ mn r a' (b + 1)) ∧ (∀ a', a' < a → ∃ b, i ≤ b ∧ b < r.length ∧ mn r a' (b + 1) ≤ q) ∧ ∃ a' b', a' ≤ i ∧ i ≤ b' ∧ b' < r.length ∧ q = mn r a' (b' + 1)
theorem less_mn {r : List Int} (o : okR r) {p q : Rat} (hp : ∃ s e, s < e ∧ e ≤ r.length ∧ p = mn r s e) (hq : ∃ s e, s < e ∧ e ≤ r.length ∧ q = mn r s e) : wear_less.f p.num p.den q.num q.den = some (decide (p < q)) := by
  obtain ⟨s, e, h1, h2, rfl⟩ := hp
  obtain ⟨s', e', h1', h2', rfl⟩ := hq
  exact mless_some o h1 h2 h1' h2'
theorem bet_l1 {r : List Int} (o : okR r) {i a : Nat} (hi : i < r.length) (ha : a ≤ i) {b0 b1 : Int} {P : Int × Int × Int → Prop}
    (next : ∀ q, isL r i a q r.length → ∃ R, P R ∧ Ev (fun k => wear_Between.l1 k r (i : Int) (a : Int) (r.length : Int) ((i + 1 : Nat) : Int) (a : Int) b0 b1 q.num (q.den : Int)) R) : ∀ (d b : Nat) (q : Rat), r.length - b = d → i < b → b ≤ r.length → isL r i a q b →
    ∃ R, P R ∧ Ev (fun k => wear_Between.l1 k r (i : Int) (a : Int) (b : Int) ((i + 1 : Nat) : Int) (a : Int) b0 b1 q.num (q.den : Int)) R
  | 0, b, q, hd, h1, h2, h => by
    obtain rfl : b = r.length := by omega
    exact next q h
  | d + 1, b, q, hd, h1, h2, h => by
    have h40 := o.1.2
    obtain ⟨l1, b', l2, l3, l4⟩ := id h
    have hless := less_mn o (p := mn r a (b + 1)) (q := q) ⟨a, b + 1, by omega, by omega, rfl⟩ ⟨a, b' + 1, by omega, by omega, l4⟩
    have em := mean_ev o (a := a) (b := b + 1) (by omega) (by omega)
    have main : ∃ R, P R ∧ Ev (fun k => (wear_mean.f k ((r.take (b + 1)).drop a)).bind fun bt111 => ((wear_less.f bt111.1 bt111.2 q.num (q.den : Int)).bind fun t114 => (if t114 = true then (wear_Between.l1 k r (i : Int) (a : Int) (wrap64 ((b : Int) + 1)) ((i + 1 : Nat) : Int) (a : Int) b0 b1 bt111.1 bt111.2) else (wear_Between.l1 k r (i : Int) (a : Int) (wrap64 ((b : Int) + 1)) ((i + 1 : Nat) : Int) (a : Int) b0 b1 q.num (q.den : Int))))) R := by
      by_cases c : mn r a (b + 1) < q
      · obtain ⟨R, p, e⟩ := bet_l1 o hi ha next d (b + 1) (mn r a (b + 1)) (by omega) (by omega) (by omega) ⟨fun x x1 x2 => by
          by_cases z : x = b
          · subst z; exact Rat.le_refl
          · have := l1 x x1 (by omega)
            grind, b, by omega, by omega, rfl⟩
        refine ⟨R, p, Ev.bind em ?_⟩
        rw [hless, decide_eq_true c]
        simp only [Option.bind_some, if_true, wsucc b (by omega)]
        exact e
      · obtain ⟨R, p, e⟩ := bet_l1 o hi ha next d (b + 1) q (by omega) (by omega) (by omega) ⟨fun x x1 x2 => by
          by_cases z : x = b
          · subst z; exact Rat.not_lt.1 c
          · exact l1 x x1 (by omega), b', l2, by omega, l4⟩
        refine ⟨R, p, Ev.bind em ?_⟩
        rw [hless, decide_eq_false c]
        simp only [Option.bind_some, Bool.false_eq_true, if_false, wsucc b (by omega)]
        exact e
    obtain ⟨R, p, e⟩ := main
    refine ⟨R, p, Ev.step (fun k => ?_) e⟩
    rw [wear_Between.l1, if_pos (by omega), if_pos (by omega), wsucc b (by omega), if_pos (by omega), if_pos (by omega), show (((b + 1 : Nat) : Int)).toNat = b + 1 by omega, show ((a : Int)).toNat = a by omega]
theorem bet_l0 {r : List Int} (o : okR r) {i : Nat} (hi : i < r.length) : ∀ (d a : Nat) (b0 b1 : Int), i + 1 - a = d → a ≤ i + 1 → (a = 0 ∨ ∃ q : Rat, b0 = q.num ∧ b1 = (q.den : Int) ∧ isM r i a q) →
    ∃ R, (∃ q : Rat, MM r i q ∧ R = (q.num, (q.den : Int), (0 : Int))) ∧ Ev (fun k => wear_Between.l0 k r (i : Int) ((i + 1 : Nat) : Int) (a : Int) b0 b1) R
  | 0, a, b0, b1, hd, ha, h => by
    obtain rfl : a = i + 1 := by omega
    rcases h with h | ⟨q, rfl, rfl, ⟨x, x1, x2⟩, h2, _⟩
    · omega
    · refine ⟨_, ⟨q, ⟨⟨x, by omega, x2⟩, fun y hy => h2 y (by omega)⟩, rfl⟩, ev_some _ fun k => ?_⟩
      rw [wear_Between.l0, if_neg (by omega)]
  | d + 1, a, b0, b1, hd, ha, h => by
    have h40 := o.1.2
    have em := mean_ev o (a := a) (b := i + 1) (by omega) (by omega)
    obtain ⟨R, p, e⟩ := bet_l1 o hi (a := a) (by omega) (b0 := b0) (b1 := b1) (P := fun R => ∃ q : Rat, MM r i q ∧ R = (q.num, (q.den : Int), (0 : Int))) (fun q hq => by
      obtain ⟨l1, b', l2, l3, l4⟩ := id hq
      by_cases c0 : a = 0
      · subst c0
        clear h
        obtain ⟨R, p, e⟩ := bet_l0 o hi d 1 q.num q.den (by omega) (by omega) (.inr ⟨q, rfl, rfl, ⟨0, by omega, l1⟩, fun a' ha' => by
          obtain rfl : a' = 0 := by omega
          exact ⟨b', l2, l3, by rw [← l4]; exact Rat.le_refl⟩, 0, b', by omega, l2, l3, l4⟩)
        refine ⟨R, p, Ev.step (fun k => ?_) e⟩
        rw [wear_Between.l1, if_neg (by omega), if_pos (show ((0 : Nat) : Int) = 0 from rfl), wsucc 0 (by omega)]
      · obtain ⟨p0, rfl, rfl, ⟨x, x1, x2⟩, m2, y, z, y1, z1, z2, m3⟩ := h.resolve_left c0
        clear h
        have hless := less_mn o (p := p0) (q := q) ⟨y, z + 1, by omega, by omega, m3⟩ ⟨a, b' + 1, by omega, by omega, l4⟩
        by_cases c : p0 < q
        · obtain ⟨R, p, e⟩ := bet_l0 o hi d (a + 1) q.num q.den (by omega) (by omega) (.inr ⟨q, rfl, rfl, ⟨a, by omega, l1⟩, fun a' ha' => by
            by_cases w : a' = a
            · subst w; exact ⟨b', l2, l3, by rw [← l4]; exact Rat.le_refl⟩
            · obtain ⟨v, v1, v2, v3⟩ := m2 a' (by omega)
              exact ⟨v, v1, v2, by grind⟩, a, b', by omega, l2, l3, l4⟩)
          refine ⟨R, p, Ev.step (fun k => ?_) e⟩
          rw [wear_Between.l1, if_neg (by omega), if_neg (by omega), hless, decide_eq_true c]
          simp only [Option.bind_some, if_true, wsucc a (by omega)]
        · obtain ⟨R, p, e⟩ := bet_l0 o hi d (a + 1) p0.num p0.den (by omega) (by omega) (.inr ⟨p0, rfl, rfl, ⟨x, by omega, x2⟩, fun a' ha' => by
            by_cases w : a' = a
            · subst w; exact ⟨b', l2, l3, by rw [← l4]; exact Rat.not_lt.1 c⟩
            · exact m2 a' (by omega), y, z, y1, z1, z2, m3⟩)
          refine ⟨R, p, Ev.step (fun k => ?_) e⟩
          rw [wear_Between.l1, if_neg (by omega), if_neg (by omega), hless, decide_eq_false c]
          simp only [Option.bind_some, Bool.false_eq_true, if_false, wsucc a (by omega)]) _ (i + 1) (mn r a (i + 1)) rfl (by omega) (by omega) ⟨fun x x1 x2 => by
        obtain rfl : x = i := by omega
        exact Rat.le_refl, i, by omega, by omega, rfl⟩
    refine ⟨R, p, Ev.step (f := fun k => (wear_mean.f k ((r.take (i + 1)).drop a)).bind fun bt106 => (wear_Between.l1 k r (i : Int) (a : Int) ((i + 1 : Nat) : Int) ((i + 1 : Nat) : Int) (a : Int) b0 b1 bt106.1 bt106.2)) (fun k => ?_) (Ev.bind em e)⟩
    rw [wear_Between.l0, if_pos (by omega), if_pos (by omega), wsucc i (by omega), if_pos (by omega), if_pos (by omega), show (((i + 1 : Nat) : Int)).toNat = i + 1 by omega, show ((a : Int)).toNat = a by omega]
theorem Between_ev {r : List Int} (o : okR r) {i : Nat} (hi : i < r.length) : ∃ q : Rat, MM r i q ∧ Ev (fun k => wear_Between.f k r (i : Int)) (q.num, (q.den : Int), 0) := by
  classical
  have h40 := o.1.2
  obtain ⟨R, ⟨q, hq, rfl⟩, e⟩ := bet_l0 o hi _ 0 0 0 rfl (by omega) (.inl rfl)
  refine ⟨q, hq, Ev.bind (wear_Valid_ev r) ?_⟩
  simp only [decide_eq_true o, if_true]
  rw [within_some, w64 (by omega) (by omega), decide_eq_true (by omega), wsucc i (by omega)]
  exact e
theorem Mean_ev {r : List Int} (o : okR r) {a b : Nat} (h : a < b) (hb : b ≤ r.length) : Ev (fun k => wear_Mean.f k r (a : Int) ((b : Int) - 1)) ((mn r a b).num, ((mn r a b).den : Int), 0) := by
  classical
  have h40 := o.1.2
  refine Ev.bind (wear_Valid_ev r) ?_
  simp only [decide_eq_true o, if_true]
  rw [within_some, decide_eq_true (by omega)]
  simp only [Option.bind_some, if_true]
  refine Ev.congr (f := fun k => (wear_mean.f k ((r.take b).drop a)).bind fun bt105 => some (bt105.1, bt105.2, 0)) (fun k => ?_) (Ev.bind (mean_ev o h hb) (Ev.now _))
  rw [if_neg (by omega), if_pos (by omega), show (b : Int) - 1 + 1 = b by omega, w64 (by omega) (by omega), if_pos (by omega), if_pos (by omega), show ((b : Int)).toNat = b by omega, show ((a : Int)).toNat = a by omega]
theorem falls_loop {r : List Int} (o : okR r) : ∀ (d i : Nat) (c : Int), r.length - 1 - i = d → i ≤ r.length - 1 → 0 ≤ c → c ≤ i → (c = 0 → ∀ j, j < i → rd r (j : Int) ≤ rd r ((j + 1 : Nat) : Int)) → ∃ x : Int, 0 ≤ x ∧ (x = 0 → ∀ j, j + 1 < r.length → rd r (j : Int) ≤ rd r ((j + 1 : Nat) : Int)) ∧ Ev (fun k => wear_Falls.l0 k r c ((r.drop 1).length : Int) (i : Int)) (x, 0)
  | 0, i, c, hd, hi, h0, h1, h => by
    have hl : (r.drop 1).length = r.length - 1 := List.length_drop
    refine ⟨c, h0, fun z j hj => h z j (by omega), ev_some _ fun k => ?_⟩
    rw [wear_Falls.l0, if_neg (by omega)]
  | d + 1, i, c, hd, hi, h0, h1, h => by
    have h40 := o.1.2
    have hl : (r.drop 1).length = r.length - 1 := List.length_drop
    by_cases f : rd r ((i + 1 : Nat) : Int) < rd r (i : Int)
    · obtain ⟨x, x1, x2, e⟩ := falls_loop o d (i + 1) (c + 1) (by omega) (by omega) (by omega) (by omega) (fun z => by omega)
      refine ⟨x, x1, x2, Ev.step (fun k => ?_) e⟩
      rw [wear_Falls.l0, if_pos (by omega), wsucc i (by omega), if_pos (by omega), if_pos (by omega), if_pos (by omega), if_pos (by omega), if_pos f, w64 (by omega) (by omega)]
    · obtain ⟨x, x1, x2, e⟩ := falls_loop o d (i + 1) c (by omega) (by omega) h0 (by omega) (fun z j hj => by
        by_cases w : j = i
        · subst w; omega
        · exact h z j (by omega))
      refine ⟨x, x1, x2, Ev.step (fun k => ?_) e⟩
      rw [wear_Falls.l0, if_pos (by omega), wsucc i (by omega), if_pos (by omega), if_pos (by omega), if_pos (by omega), if_pos (by omega), if_neg f]
theorem Falls_ev {r : List Int} (o : okR r) : ∃ x : Int, 0 ≤ x ∧ (x = 0 → ∀ j, j + 1 < r.length → rd r (j : Int) ≤ rd r ((j + 1 : Nat) : Int)) ∧ Ev (fun k => wear_Falls.f k r) (x, 0) := by
  classical
  have h40 := o.1
  obtain ⟨x, x1, x2, e⟩ := falls_loop o _ 0 0 rfl (by omega) (by omega) (by omega) (fun _ j hj => by omega)
  refine ⟨x, x1, x2, Ev.bind (wear_Valid_ev r) ?_⟩
  simp only [decide_eq_true o, if_true]
  refine Ev.congr (fun k => ?_) e
  rw [if_pos (by omega)]
  rfl
/-- Readings that do not fall are their own row. -/
theorem MM_self {r : List Int} (h : ∀ j, j + 1 < r.length → rd r (j : Int) ≤ rd r ((j + 1 : Nat) : Int)) {i : Nat} (hi : i < r.length) : MM r i ((rd r (i : Int) : Int) : Rat) := by
  have mono : ∀ d j, j + d < r.length → rd r (j : Int) ≤ rd r ((j + d : Nat) : Int) := by
    intro d
    induction d with
    | zero => intro j _; exact Int.le_refl _
    | succ d ih => intro j hj; have := ih j (by omega); have := h (j + d) (by omega); rw [show j + (d + 1) = j + d + 1 by omega]; omega
  have up : ∀ d, i + d ≤ r.length → rd r (i : Int) * (d : Int) ≤ ps r (i + d) - ps r i := by
    intro d
    induction d with
    | zero => intro _; simp
    | succ d ih =>
      intro hd
      have h1 := ih (by omega)
      have h2 := mono d i (by omega)
      have e : ps r (i + (d + 1)) = ps r (i + d) + rd r ((i + d : Nat) : Int) := rfl
      rw [e, show ((d + 1 : Nat) : Int) = (d : Int) + 1 by omega, Int.mul_add]
      omega
  have down : ∀ d, d ≤ i → ps r (i + 1) - ps r (i - d) ≤ rd r (i : Int) * ((d : Int) + 1) := by
    intro d
    induction d with
    | zero => intro _; simp [ps]; omega
    | succ d ih =>
      intro hd
      have h1 := ih (by omega)
      have h2 := mono (d + 1) (i - (d + 1)) (by omega)
      have e : ps r (i - d) = ps r (i - (d + 1)) + rd r ((i - (d + 1) : Nat) : Int) := by
        rw [show i - d = i - (d + 1) + 1 by omega]; rfl
      rw [show i - (d + 1) + (d + 1) = i by omega] at h2
      rw [show ((d + 1 : Nat) : Int) + 1 = ((d : Int) + 1) + 1 by omega, Int.mul_add]
      omega
  refine ⟨⟨i, Nat.le_refl _, fun b b1 b2 => ?_⟩, fun a ha => ⟨i, Nat.le_refl _, hi, ?_⟩⟩
  · rw [le_mn (by omega)]
    have := up (b + 1 - i) (by omega)
    rw [show i + (b + 1 - i) = b + 1 by omega] at this
    unfold nq pq
    rw [← Rat.intCast_sub, ← Rat.intCast_sub, ← Rat.intCast_mul, Rat.intCast_le_intCast]
    rw [show ((b + 1 - i : Nat) : Int) = ((b + 1 : Nat) : Int) - (i : Int) by omega] at this
    exact this
  · rw [mn_le (by omega)]
    have := down (i - a) (by omega)
    rw [show i - (i - a) = a by omega] at this
    unfold nq pq
    rw [← Rat.intCast_sub, ← Rat.intCast_sub, ← Rat.intCast_mul, Rat.intCast_le_intCast]
    rw [show ((i - a : Nat) : Int) + 1 = ((i + 1 : Nat) : Int) - (a : Int) by omega] at this
    exact this
end Go.Proofs.Ytklapbgajghhcaa.G
end
