/- Functions of the seat and plain laws about them: STop. -/
import Derived.Test.YthbpibdfookbmaaZT15
import Derived.Test.YthbpibdfookbmaaZT0
import Derived.Test.YthbpibdfookbmaaZT14
import Derived.Test.YthbpibdfookbmaaZT1
import Derived.Test.YthbpibdfookbmaaZT4
import Derived.Test.YthbpibdfookbmaaZT6
import Derived.Test.YthbpibdfookbmaaZT7
import Derived.Test.YthbpibdfookbmaaZT8
import Derived.Test.YthbpibdfookbmaaZT13
import Derived.Test.YthbpibdfookbmaaZT12
import Derived.Test.YthbpibdfookbmaaZT2
import Derived.Test.YthbpibdfookbmaaZT3
import Derived.Test.YthbpibdfookbmaaZT5
import Derived.Test.YthbpibdfookbmaaZT9
import Derived.Test.YthbpibdfookbmaaZT10
import Derived.Test.YthbpibdfookbmaaZT11
import Derived.Test.YthbpibdfookbmaaGBase
section
namespace Go.Proofs.Ythbpibdfookbmaa.G
set_option linter.unusedVariables false
set_option linter.unusedSimpArgs false
set_option linter.unusedSectionVars false
open Go.RowKit Go.Proofs.YthbpibdfookbmaaW.PrintWords Go.Proofs.YthbpibdfookbmaaW.PrintLast
open Go.RowKit Go.Proofs.YthbpibdfookbmaaW.PrintWords Go.Proofs.YthbpibdfookbmaaW.PrintLast Go.Proofs.YthbpibdfookbmaaW.PrintMore
theorem w64 {n : Int} (h : -9223372036854775808 ≤ n) (h2 : n ≤ 9223372036854775807) : wrap64 n = n := by unfold wrap64; omega
theorem ev_some {α : Type} (r : α) {g : Nat → Option α} (h : ∀ k, g (k + 1) = some r) : Ev g r := Ev.step (f := fun _ => some r) h (Ev.now r)
theorem wsucc (i : Nat) (h : i < 9223372036854775807) : wrap64 ((i : Int) + 1) = ((i + 1 : Nat) : Int) := by rw [w64 (by omega) (by omega)]; rfl
theorem wpred (i : Nat) (h : i < 9223372036854775807) : wrap64 (((i + 1 : Nat) : Int) - 1) = (i : Int) := by rw [w64 (by omega) (by omega)]; omega
theorem rd_get {w : List Int} {i : Nat} (h : i < w.length) : rd w (i : Int) = w[i] := by
 simp [rd, List.getD_eq_getElem?_getD, h]
theorem rd_drop (w : List Int) (i : Nat) (h : i < w.length) : w.drop i = rd w (i : Int) :: w.drop (i + 1) := by
 rw [rd_get h]; exact List.drop_eq_getElem_cons h
/-- All are at least 1. -/
def pos (w : List Int) : Prop := ∀ a ∈ w, 1 ≤ a
def prodI : List Int → Int
 | [] => 1
 | a :: w => a * prodI w
theorem prodI_pos {w : List Int} (h : pos w) : 1 ≤ prodI w := by
 induction w with
 | nil => exact Int.le_refl _
 | cons a w ih =>
  have h1 := h a (by simp)
  have h2 := ih (fun b hb => h b (by simp [hb]))
  have : 1 * 1 ≤ a * prodI w := Int.mul_le_mul h1 h2 (by omega) (by omega)
  simpa [prodI] using this
theorem pos_drop {w : List Int} (h : pos w) (i : Nat) : pos (w.drop i) := fun a ha => h a (List.mem_of_mem_drop ha)
theorem pos_take {w : List Int} (h : pos w) (i : Nat) : pos (w.take i) := fun a ha => h a (List.mem_of_mem_take ha)
theorem prodI_append (u v : List Int) : prodI (u ++ v) = prodI u * prodI v := by
 induction u with
 | nil => simp [prodI]
 | cons a u ih => simp [prodI, ih, Int.mul_assoc]
theorem prodI_split (w : List Int) (i : Nat) : prodI (w.take i) * prodI (w.drop i) = prodI w := by
 rw [← prodI_append, List.take_append_drop]
theorem prodI_take_succ (w : List Int) (i : Nat) (h : i < w.length) : prodI (w.take (i + 1)) = prodI (w.take i) * rd w (i : Int) := by
 rw [List.take_succ_eq_append_getElem h, prodI_append, rd_get h]
 simp [prodI]
/-- A state of wants: as many numbers, each from 1 to the want. -/
def okSt : List Int → List Int → Prop
 | [], [] => True
 | a :: w, x :: s => (1 ≤ x ∧ x ≤ a) ∧ okSt w s
 | _, _ => False
theorem okSt_len : ∀ {w s : List Int}, okSt w s → s.length = w.length
 | [], [], _ => rfl
 | a :: w, x :: s, h => by simp [okSt_len h.2]
 | [], _ :: _, h => h.elim
 | _ :: _, [], h => h.elim
theorem okSt_pos : ∀ {w s : List Int}, okSt w s → pos w
 | [], [], _ => fun a ha => by simp at ha
 | a :: w, x :: s, h => fun b hb => by
  rcases List.mem_cons.1 hb with rfl | hb
  ·have := h.1; omega
  ·exact okSt_pos h.2 b hb
 | [], _ :: _, h => h.elim
 | _ :: _, [], h => h.elim
theorem okSt_iff : ∀ {w s : List Int}, okSt w s ↔ (s.length = w.length ∧ ∀ i, i < w.length → 1 ≤ rd s (i : Int) ∧ rd s (i : Int) ≤ rd w (i : Int))
 | [], [] => by simp [okSt]
 | a :: w, x :: s => by
  unfold okSt
  rw [okSt_iff (w := w) (s := s)]
  constructor
  ·rintro ⟨h1, h2, h3⟩
   refine ⟨by simp [h2], fun i hi => ?_⟩
   cases i with
   | zero => exact h1
   | succ i => exact h3 i (by simpa using hi)
  ·rintro ⟨h1, h2⟩
   exact ⟨h2 0 (by simp), by simpa using h1, fun i hi => h2 (i + 1) (by simpa using hi)⟩
 | [], _ :: _ => by simp [okSt]
 | _ :: _, [] => by simp [okSt]
/-- The number of a state: its first number counts least. -/
def numL : List Int → List Int → Int
 | a :: w, x :: s => (x - 1) + a * numL w s
 | _, _ => 0
theorem numL_bd : ∀ {w s : List Int}, okSt w s → 0 ≤ numL w s ∧ numL w s < prodI w
 | [], [], _ => by simp [numL, prodI]
 | a :: w, x :: s, h => by
  obtain ⟨h1, h2⟩ := numL_bd h.2
  obtain ⟨⟨h3, h4⟩, h5⟩ := h
  have h6 : 0 ≤ a * numL w s := Int.mul_nonneg (by omega) h1
  have h7 : a * (numL w s + 1) ≤ a * prodI w := Int.mul_le_mul_of_nonneg_left (by omega) (by omega)
  rw [Int.mul_add] at h7
  simp only [numL, prodI]
  omega
 | [], _ :: _, h => h.elim
 | _ :: _, [], h => h.elim
/-- The state with a number. -/
def digL : List Int → Int → List Int
 | [], _ => []
 | a :: w, n => (n % a + 1) :: digL w (n / a)
theorem dig_num : ∀ {w s : List Int}, okSt w s → digL w (numL w s) = s
 | [], [], _ => rfl
 | a :: w, x :: s, h => by
  have h0 := dig_num h.2
  obtain ⟨⟨h3, h4⟩, h5⟩ := h
  have e1 : (x - 1 + a * numL w s) % a = x - 1 := by
   rw [Int.add_mul_emod_self_left]; exact Int.emod_eq_of_lt (by omega) (by omega)
  have e2 : (x - 1 + a * numL w s) / a = numL w s := by
   rw [Int.add_mul_ediv_left _ _ (by omega), Int.ediv_eq_zero_of_lt (by omega) (by omega)]; omega
  simp only [numL, digL, e1, e2, h0]
  congr 1
  omega
 | [], _ :: _, h => h.elim
 | _ :: _, [], h => h.elim
theorem num_dig : ∀ {w : List Int} {n : Int}, pos w → 0 ≤ n → n < prodI w → numL w (digL w n) = n ∧ okSt w (digL w n)
 | [], n, _, h1, h2 => by
  have h2 : n < 1 := h2
  exact ⟨by simp [numL]; omega, trivial⟩
 | a :: w, n, hp, h1, h2 => by
  have ha := hp a (by simp)
  have h2 : n < a * prodI w := h2
  have hq : n / a < prodI w := Int.ediv_lt_of_lt_mul (by omega) (by rw [Int.mul_comm]; exact h2)
  obtain ⟨e, o⟩ := num_dig (w := w) (n := n / a) (fun b hb => hp b (by simp [hb])) (Int.ediv_nonneg h1 (by omega)) hq
  have h3 := Int.emod_nonneg n (show a ≠ 0 by omega)
  have h4 := Int.emod_lt_of_pos n (show 0 < a by omega)
  refine ⟨?_, ⟨by omega, by omega⟩, o⟩
  simp only [digL, numL, e]
  have := Int.emod_add_mul_ediv n a
  omega
/-- The state behind a night in which section c (from 0 on) is scraped; none: it is lost. -/
def nx : List Int → List Int → Int → Option (List Int)
 | a :: w, x :: s, c => if (if c = 0 then a else x - 1) = 0 then none else (nx w s (c - 1)).map fun t => (if c = 0 then a else x - 1) :: t
 | _, _, _ => some []
theorem nx_ok : ∀ {w s : List Int} {c : Int} {t : List Int}, okSt w s → nx w s c = some t → okSt w t
 | [], [], c, t, _, h => by
  obtain rfl := Option.some.inj h
  exact trivial
 | a :: w, x :: s, c, t, ho, h => by
  unfold nx at h
  by_cases z : (if c = 0 then a else x - 1) = 0
  ·rw [if_pos z] at h; cases h
  ·rw [if_neg z] at h
   obtain ⟨t', ht, rfl⟩ := Option.map_eq_some_iff.1 h
   obtain ⟨⟨h3, h4⟩, h5⟩ := ho
   refine ⟨?_, nx_ok h5 ht⟩
   by_cases q : c = 0
   ·rw [if_pos q] at z ⊢; omega
   ·rw [if_neg q] at z ⊢; omega
 | [], _ :: _, _, _, ho, _ => ho.elim
 | _ :: _, [], _, _, ho, _ => ho.elim
/-- All choices: none (-1), and each section. -/
def chs (n : Nat) : List Int := (List.range (n + 1)).map fun i : Nat => (i : Int) - 1
theorem mem_chs {n : Nat} {c : Int} : c ∈ chs n ↔ -1 ≤ c ∧ c < n := by
 unfold chs
 simp only [List.mem_map, List.mem_range]
 constructor
 ·rintro ⟨i, h, rfl⟩; omega
 ·rintro ⟨h1, h2⟩; exact ⟨(c + 1).toNat, by omega, by omega⟩
/-- Whether a state can go on for so many nights. -/
def K (w : List Int) : Nat → List Int → Bool
 | 0, _ => true
 | k + 1, s => (chs w.length).any fun c => match nx w s c with
  | some t => K w k t
  | none => false
theorem K_succ {w : List Int} {k : Nat} {s : List Int} : K w (k + 1) s = true ↔ ∃ (c : Int) (t : List Int), -1 ≤ c ∧ c < w.length ∧ nx w s c = some t ∧ K w k t = true := by
 rw [K, List.any_eq_true]
 constructor
 ·rintro ⟨c, hc, h⟩
  obtain ⟨h1, h2⟩ := mem_chs.1 hc
  cases e : nx w s c with
  | none => rw [e] at h; cases h
  | some t => rw [e] at h; exact ⟨c, t, h1, h2, e, h⟩
 ·rintro ⟨c, t, h1, h2, e, h⟩
  exact ⟨c, mem_chs.2 ⟨h1, h2⟩, by rw [e]; exact h⟩
theorem K_anti {w : List Int} : ∀ {k : Nat} {s : List Int}, K w (k + 1) s = true → K w k s = true
 | 0, s, _ => rfl
 | k + 1, s, h => by
  obtain ⟨c, t, h1, h2, e, h⟩ := K_succ.1 h
  exact K_succ.2 ⟨c, t, h1, h2, e, K_anti h⟩
theorem K_le {w : List Int} {s : List Int} {k m : Nat} (hk : k ≤ m) (h : K w m s = true) : K w k s = true := by
 induction m with
 | zero =>
  obtain rfl : k = 0 := by omega
  exact h
 | succ m ih =>
  by_cases q : k = m + 1
  ·rw [q]; exact h
  ·exact ih (by omega) (K_anti h)
/-- From k on nothing changes. -/
def stable (w : List Int) (k : Nat) : Prop := ∀ s, okSt w s → K w (k + 1) s = K w k s
theorem stable_succ {w : List Int} {k : Nat} (h : stable w k) : stable w (k + 1) := by
 intro s hs
 have key : ∀ {s : List Int}, okSt w s → K w (k + 1) s = true → K w (k + 1 + 1) s = true := by
  intro s hs hk
  obtain ⟨c, t, h1, h2, e, h3⟩ := K_succ.1 hk
  exact K_succ.2 ⟨c, t, h1, h2, e, (h t (nx_ok hs e)).trans h3⟩
 cases q : K w (k + 1) s with
 | true => exact key hs q
 | false =>
  cases q2 : K w (k + 1 + 1) s with
  | false => rfl
  | true => exact absurd (K_anti q2) (by rw [q]; decide)
theorem stable_le {w : List Int} {k m : Nat} (h : stable w k) (hk : k ≤ m) : stable w m := by
 induction m with
 | zero =>
  obtain rfl : k = 0 := by omega
  exact h
 | succ m ih =>
  by_cases q : k = m + 1
  ·rw [← q]; exact h
  ·exact stable_succ (ih (by omega))
theorem stable_eq {w : List Int} {k m : Nat} (h : stable w k) (hk : k ≤ m) {s : List Int} (hs : okSt w s) : K w m s = K w k s := by
 induction m with
 | zero =>
  obtain rfl : k = 0 := by omega
  rfl
 | succ m ih =>
  by_cases q : k = m + 1
  ·rw [q]
  ·exact (stable_le h (by omega) s hs).trans (ih (by omega))
/-- How many of the numbers below n have p. -/
def cnt (p : Nat → Bool) : Nat → Nat
 | 0 => 0
 | n + 1 => cnt p n + if p n then 1 else 0
theorem cnt_le (p : Nat → Bool) : ∀ n, cnt p n ≤ n
 | 0 => Nat.le_refl _
 | n + 1 => by
  have := cnt_le p n
  unfold cnt; split <;> omega
theorem cnt_mono {p q : Nat → Bool} : ∀ {n : Nat}, (∀ i, i < n → p i = true → q i = true) → cnt p n ≤ cnt q n
 | 0, _ => Nat.le_refl _
 | n + 1, h => by
  have h1 := cnt_mono (n := n) (fun i hi => h i (by omega))
  have h2 := h n (by omega)
  unfold cnt
  by_cases c : p n = true
  ·rw [if_pos c, if_pos (h2 c)]; omega
  ·rw [if_neg c]; omega
theorem cnt_lt {p q : Nat → Bool} : ∀ {n : Nat}, (∀ i, i < n → p i = true → q i = true) → (∃ i, i < n ∧ p i = false ∧ q i = true) → cnt p n < cnt q n
 | 0, _, h => by obtain ⟨i, hi, _⟩ := h; omega
 | n + 1, h, ⟨i, hi, h3, h4⟩ => by
  have h2 := h n (by omega)
  by_cases q1 : i = n
  ·subst q1
   have h1 := cnt_mono (n := i) (fun j hj => h j (by omega))
   unfold cnt
   rw [h3, h4]
   simp; omega
  ·have h1 := cnt_lt (n := n) (fun j hj => h j (by omega)) ⟨i, by omega, h3, h4⟩
   unfold cnt
   by_cases c : p n = true
   ·rw [if_pos c, if_pos (h2 c)]; omega
   ·rw [if_neg c]; omega
theorem cnt_congr {p q : Nat → Bool} : ∀ {n : Nat}, (∀ i, i < n → p i = q i) → cnt p n = cnt q n
 | 0, _ => rfl
 | n + 1, h => by unfold cnt; rw [cnt_congr (fun i hi => h i (by omega)), h n (by omega)]
theorem cnt_zero {p : Nat → Bool} : ∀ {n : Nat}, cnt p n = 0 → ∀ i, i < n → p i = false
 | 0, _, i, hi => by omega
 | n + 1, h, i, hi => by
  unfold cnt at h
  by_cases c : p n = true
  ·rw [if_pos c] at h; omega
  ·rw [if_neg c] at h
   by_cases q : i = n
   ·rw [q]; simpa using c
   ·exact cnt_zero (n := n) (by omega) i (by omega)
/-- How many states can go on for k nights. -/
def cntK (w : List Int) (k : Nat) : Nat := cnt (fun i => K w k (digL w i)) (prodI w).toNat
theorem dig_ok {w : List Int} (hp : pos w) {i : Nat} (hi : i < (prodI w).toNat) : numL w (digL w i) = i ∧ okSt w (digL w i) := num_dig hp (by omega) (by omega)
theorem num_lt {w s : List Int} (h : okSt w s) : (numL w s).toNat < (prodI w).toNat ∧ ((numL w s).toNat : Int) = numL w s := by
 obtain ⟨h1, h2⟩ := numL_bd h
 omega
theorem cntK_step {w : List Int} (hp : pos w) {k : Nat} (h : ¬ stable w k) : cntK w (k + 1) < cntK w k := by
 refine cnt_lt (fun i hi => fun h => K_anti h) ?_
 refine Classical.byContradiction fun hn => h fun s hs => ?_
 obtain ⟨h1, h2⟩ := num_lt hs
 have e : digL w ((numL w s).toNat : Int) = s := by rw [h2]; exact dig_num hs
 cases q : K w (k + 1) s with
 | true => exact (K_anti q).symm
 | false =>
  cases q2 : K w k s with
  | false => rfl
  | true => exact absurd ⟨_, h1, by rw [e]; exact q, by rw [e]; exact q2⟩ hn
/-- Behind as many nights as there are states nothing changes. -/
theorem stable_all {w : List Int} (hp : pos w) {k : Nat} (hk : (prodI w).toNat ≤ k) : stable w k := by
 have key : ∀ m, (∃ j, j < m ∧ stable w j) ∨ cntK w m + m ≤ (prodI w).toNat := by
  intro m
  induction m with
  | zero => exact .inr (by have := cnt_le (fun i => K w 0 (digL w i)) (prodI w).toNat; unfold cntK; omega)
  | succ m ih =>
   rcases ih with ⟨j, hj, h⟩ | h
   ·exact .inl ⟨j, by omega, h⟩
   ·by_cases c : stable w m
    ·exact .inl ⟨m, by omega, c⟩
    ·have := cntK_step hp c
     exact .inr (by omega)
 rcases key k with ⟨j, hj, h⟩ | h
 ·exact stable_le h (by omega)
 ·have h0 : cntK w k = 0 := by omega
  intro s hs
  obtain ⟨h1, h2⟩ := num_lt hs
  have e := cnt_zero h0 _ h1
  simp only [h2, dig_num hs] at e
  rw [e]
  cases q : K w (k + 1) s with
  | false => rfl
  | true => exact absurd (K_anti q) (by rw [e]; decide)
theorem within_some (a b c : Int) : ice_within.f a b c = some (decide (a ≤ b ∧ b ≤ c)) := by
 unfold ice_within.f
 by_cases h : a ≤ b <;> simp [h]
theorem from_some (a b c : Int) : dropperref08_from.f a b c = some (decide (a ≤ b ∧ b ≤ c)) := by
 unfold dropperref08_from.f
 by_cases h : a ≤ b <;> simp [h]
theorem mn_eq (a b : Int) : mn a b = min a b := by unfold mn; split <;> omega
theorem mx_eq (a b : Int) : mx a b = max a b := by unfold mx; split <;> omega
/-- Wants as described. -/
def okW (w : List Int) : Prop := (1 ≤ w.length ∧ w.length ≤ 5) ∧ ∀ i, i < w.length → 1 ≤ rd w (i : Int) ∧ rd w (i : Int) ≤ 8
theorem okW_mem {w : List Int} (h : okW w) {a : Int} (ha : a ∈ w) : 1 ≤ a ∧ a ≤ 8 := by
 obtain ⟨i, hi, rfl⟩ := List.getElem_of_mem ha
 have := h.2 i hi
 rwa [rd_get hi] at this
theorem okW_pos {w : List Int} (h : okW w) : pos w := fun a ha => (okW_mem h ha).1
theorem prodI_le8 : ∀ {w : List Int}, (∀ a ∈ w, 1 ≤ a ∧ a ≤ 8) → prodI w ≤ 8 ^ w.length
 | [], _ => by simp [prodI]
 | a :: w, h => by
  have h1 := h a (by simp)
  have h2 := prodI_le8 (w := w) (fun b hb => h b (by simp [hb]))
  have h3 := prodI_pos (w := w) (fun b hb => (h b (by simp [hb])).1)
  have : a * prodI w ≤ 8 * 8 ^ w.length := Int.mul_le_mul h1.2 h2 (by omega) (by omega)
  simp only [prodI, List.length_cons, Int.pow_succ]
  omega
theorem prodI_le {w : List Int} (h : okW w) : 1 ≤ prodI w ∧ prodI w ≤ 32768 := by
 refine ⟨prodI_pos (okW_pos h), Int.le_trans (prodI_le8 (fun a ha => okW_mem h ha)) ?_⟩
 obtain ⟨⟨h1, h2⟩, _⟩ := h
 generalize w.length = n at h1 h2
 match n, h1, h2 with
 | 1, _, _ => decide
 | 2, _, _ => decide
 | 3, _, _ => decide
 | 4, _, _ => decide
 | 5, _, _ => decide
theorem index_int_loop {l : List Int} (hl : l.length ≤ 9223372036854775807) {fn : Int → Option Bool} {p : Nat → Prop} [DecidablePred p] (hp : ∀ j, j < l.length → fn (rd l (j : Int)) = some (decide (p j))) : ∀ (d i : Nat), l.length - i = d → i ≤ l.length → (∀ j, j < i → ¬ p j) →
  ∃ t : Int, Ev (fun f => slices_IndexFunc_int_int.l0 f l fn l.length i) t ∧ ((t = -1 ∧ ∀ j, j < l.length → ¬ p j) ∨ ∃ k : Nat, t = k ∧ k < l.length ∧ p k ∧ ∀ j, j < k → ¬ p j) := by
 intro d
 induction d with
 | zero =>
  intro i hd hi h1
  obtain rfl : i = l.length := by omega
  refine ⟨-1, ev_some _ fun k => ?_, .inl ⟨rfl, h1⟩⟩
  rw [slices_IndexFunc_int_int.l0, if_neg (by omega)]
 | succ d ih =>
  intro i hd hi h1
  by_cases c : p i
  ·refine ⟨i, ev_some _ fun k => ?_, .inr ⟨i, rfl, by omega, c, h1⟩⟩
   rw [slices_IndexFunc_int_int.l0, if_pos (by omega), if_pos (by omega), if_pos (by omega), hp i (by omega), decide_eq_true c]
   rfl
  ·obtain ⟨t, e, ht⟩ := ih (i + 1) (by omega) (by omega) (fun j hj => if q : j = i then q ▸ c else h1 j (by omega))
   refine ⟨t, Ev.step (fun k => ?_) e, ht⟩
   rw [slices_IndexFunc_int_int.l0, if_pos (by omega), if_pos (by omega), if_pos (by omega), hp i (by omega), decide_eq_false c, wsucc i (by omega)]
   rfl
/-- Whether one has p: what ContainsFunc tells. -/
theorem contains_ev {l : List Int} (hl : l.length ≤ 9223372036854775807) {fn : Int → Option Bool} {p : Nat → Prop} [DecidablePred p] (hp : ∀ j, j < l.length → fn (rd l (j : Int)) = some (decide (p j))) :
  ∃ b : Bool, Ev (fun f => slices_ContainsFunc_int_int.f f l fn) b ∧ (b = true ↔ ∃ j, j < l.length ∧ p j) := by
 obtain ⟨t, e, ht⟩ := index_int_loop hl hp l.length 0 (by omega) (by omega) (by omega)
 refine ⟨decide (t ≥ 0), Ev.bind e (Ev.now _), ?_⟩
 rcases ht with ⟨rfl, h⟩ | ⟨k, rfl, hk, h1, h2⟩
 ·simp only [decide_eq_true_eq]
  exact ⟨fun z => by omega, fun ⟨j, hj, hp⟩ => absurd hp (h j hj)⟩
 ·simp only [decide_eq_true_eq]
  exact ⟨fun _ => ⟨k, hk, h1⟩, fun _ => by omega⟩
open Classical in
theorem ice_Valid_ev (w : List Int) : Ev (fun k => ice_Valid.f k w) (decide (okW w)) := by
 by_cases c : 1 ≤ w.length ∧ w.length ≤ 5
 ·obtain ⟨b, e, hb⟩ := contains_ev (l := w) (fn := ice_Valid_1.f) (p := fun j => ¬ (1 ≤ rd w (j : Int) ∧ rd w (j : Int) ≤ 8)) (by omega) (fun j hj => by
   unfold ice_Valid_1.f
   rw [within_some]
   simp only [Option.bind_some]
   by_cases c : 1 ≤ rd w (j : Int) ∧ rd w (j : Int) ≤ 8 <;> simp [c])
  refine Ev.congr (f := fun k => (slices_ContainsFunc_int_int.f k w ice_Valid_1.f).bind fun t102 => (some (!t102))) (fun k => ?_) ?_
  ·unfold ice_Valid.f
   rw [within_some, decide_eq_true (by omega)]
   rfl
  ·have : decide (okW w) = !b := by
    cases b with
    | true =>
     obtain ⟨j, hj, h⟩ := hb.1 rfl
     rw [decide_eq_false (fun z => h (z.2 j hj))]
     rfl
    | false =>
     rw [decide_eq_true ⟨c, fun i hi => Decidable.not_not.1 (fun z => absurd (hb.2 ⟨i, hi, z⟩) (by decide))⟩]
     rfl
   rw [this]
   exact Ev.bind e (Ev.now _)
 ·rw [decide_eq_false (fun z => c z.1)]
  refine ev_some _ fun k => ?_
  unfold ice_Valid.f
  rw [within_some, decide_eq_false (by omega)]
  rfl
open Classical in
theorem ref_valid_loop (w : List Int) (hl : w.length ≤ 9223372036854775807) : ∀ (d i : Nat), w.length - i = d → i ≤ w.length → (∀ j, j < i → 1 ≤ rd w (j : Int) ∧ rd w (j : Int) ≤ 8) → Ev (fun k => dropperref08_Valid.l0 k w i) (decide (okW w)) := by
 intro d
 induction d with
 | zero =>
  intro i hd hi h1
  obtain rfl : i = w.length := by omega
  refine ev_some _ fun k => ?_
  rw [dropperref08_Valid.l0, if_neg (by omega), from_some]
  simp only [Option.bind_some]
  congr 1
  exact decide_eq_decide.2 ⟨fun h => ⟨by omega, h1⟩, fun h => by have := h.1; omega⟩
 | succ d ih =>
  intro i hd hi h1
  by_cases c : 1 ≤ rd w (i : Int) ∧ rd w (i : Int) ≤ 8
  ·refine Ev.step (fun k => ?_) (ih (i + 1) (by omega) (by omega) (fun j hj => if q : j = i then q ▸ c else h1 j (by omega)))
   rw [dropperref08_Valid.l0, if_pos (by omega), if_pos (by omega), from_some, decide_eq_true c, wsucc i (by omega)]
   rfl
  ·rw [decide_eq_false (fun h => c (h.2 i (by omega)))]
   refine ev_some _ fun k => ?_
   rw [dropperref08_Valid.l0, if_pos (by omega), if_pos (by omega), from_some, decide_eq_false c]
   rfl
open Classical in
theorem ref_Valid_ev (w : List Int) (hl : w.length ≤ 9223372036854775807) : Ev (fun k => dropperref08_Valid.f k w) (decide (okW w)) := ref_valid_loop w hl w.length 0 (by omega) (by omega) (by omega)
theorem count_loop {w : List Int} (h : okW w) : ∀ (d i : Nat) (x : Int), w.length - i = d → i ≤ w.length → 1 ≤ x → x * prodI (w.drop i) = prodI w → Ev (fun k => dropperref08_Count.l0 k w x i) (prodI w) := by
 obtain ⟨b1, b2⟩ := prodI_le h
 have hlen := h.1.2
 intro d
 induction d with
 | zero =>
  intro i x hd hi hx e
  obtain rfl : i = w.length := by omega
  rw [List.drop_length] at e
  have e : x = prodI w := by simpa [prodI] using e
  rw [← e]
  refine ev_some _ fun k => ?_
  rw [dropperref08_Count.l0, if_neg (by omega)]
 | succ d ih =>
  intro i x hd hi hx e
  have hr := h.2 i (by omega)
  rw [rd_drop w i (by omega)] at e
  simp only [prodI] at e
  rw [← Int.mul_assoc] at e
  have p1 := prodI_pos (pos_drop (okW_pos h) (i + 1))
  have q1 : 1 ≤ x * rd w (i : Int) := by
   have : 1 * 1 ≤ x * rd w (i : Int) := Int.mul_le_mul hx hr.1 (by omega) (by omega)
   omega
  have q2 : x * rd w (i : Int) ≤ prodI w := by
   have : (x * rd w (i : Int)) * 1 ≤ (x * rd w (i : Int)) * prodI (w.drop (i + 1)) := Int.mul_le_mul_of_nonneg_left p1 (by omega)
   omega
  refine Ev.step (fun k => ?_) (ih (i + 1) _ (by omega) (by omega) q1 e)
  rw [dropperref08_Count.l0, if_pos (by omega), if_pos (by omega), wsucc i (by omega), w64 (by omega) (by omega)]
theorem count_ev {w : List Int} (h : okW w) : Ev (fun k => dropperref08_Count.f k w) (prodI w) := count_loop h w.length 0 1 (by omega) (by omega) (by omega) (by simp)
/-- What Many tells of wants alone. -/
theorem many_end (w : List Int) (hl : w.length ≤ 9223372036854775807) (ls : List (List Int)) (i : Nat) (hi : i = ls.length) (h1 : ls.length ≤ 9223372036854775807) : ∃ b : Bool, Ev (fun k => dropperlaw08_Many.l0 k w ls i) b ∧ (b = false → w.length ≤ 20 ∧ (okW w → prodI w ≤ 3000)) := by
 by_cases c : (w.length : Int) > 20
 ·refine ⟨true, ev_some _ fun k => ?_, fun z => by cases z⟩
  rw [dropperlaw08_Many.l0, if_neg (by omega), if_pos c]
 ·classical
  refine ⟨decide (okW w ∧ prodI w > 3000), Ev.step (f := fun k => (dropperref08_Valid.f k w).bind fun t102 => (if t102 = true then ((dropperref08_Count.f k w).bind fun t103 => (some (decide (t103 > 3000)))) else (some false))) (fun k => ?_) (Ev.bind (ref_Valid_ev w hl) ?_), fun z => ⟨by omega, fun o => ?_⟩⟩
  ·rw [dropperlaw08_Many.l0, if_neg (by omega), if_neg c]
  ·by_cases o : okW w
   ·simp only [decide_eq_true o, if_true]
    have : decide (okW w ∧ prodI w > 3000) = decide (prodI w > 3000) := decide_eq_decide.2 ⟨fun z => z.2, fun z => ⟨o, z⟩⟩
    rw [this]
    exact Ev.bind (count_ev o) (Ev.now _)
   ·simp only [decide_eq_false o, Bool.false_eq_true, if_false]
    rw [decide_eq_false (fun z => o z.1)]
    exact Ev.now _
  ·have := of_decide_eq_false z
   have : ¬ prodI w > 3000 := fun q => this ⟨o, q⟩
   omega
theorem many1_ev (w : List Int) (hl : w.length ≤ 9223372036854775807) (l : List Int) : ∃ b : Bool, Ev (fun k => dropperlaw08_Many.f k w [l]) b ∧ (b = false → w.length ≤ 20 ∧ l.length ≤ 300 ∧ (okW w → prodI w ≤ 3000)) := by
 by_cases c : (l.length : Int) > 300
 ·refine ⟨true, ev_some _ fun k => ?_, fun z => by cases z⟩
  show dropperlaw08_Many.l0 (k + 1) w [l] 0 = _
  rw [dropperlaw08_Many.l0, if_pos (by simp), if_pos (by omega), if_pos (by simpa [rd_L1] using c)]
 ·obtain ⟨b, e, h⟩ := many_end w hl [l] 1 rfl (by simp)
  refine ⟨b, Ev.step (f := fun k => dropperlaw08_Many.l0 k w [l] ((1 : Nat) : Int)) (fun k => ?_) e, fun z => ⟨(h z).1, by omega, (h z).2⟩⟩
  show dropperlaw08_Many.l0 (k + 1) w [l] 0 = _
  rw [dropperlaw08_Many.l0, if_pos (by simp), if_pos (by omega), if_neg (by simpa [rd_L1] using c), w64 (by omega) (by omega)]
  rfl
set_option maxRecDepth 100000 in
theorem awake_ev : Ev (fun k => dropperlaw08_Awake.f k) true := Ev.of (fun k => dropperlaw08_Awake.mono k) (k := 300) (by decide +kernel)
/-- What a digit of each section counts. -/
def bysU (w : List Int) (n : Nat) : List Int := (List.range n).map fun i => prodI (w.take i)
def bys (w : List Int) : List Int := bysU w w.length
theorem rd_bys {w : List Int} {i : Nat} (h : i < w.length) : rd (bys w) (i : Int) = prodI (w.take i) := by
 simp [bys, bysU, rd, List.getD_eq_getElem?_getD, h]
theorem bys_len (w : List Int) : (bys w).length = w.length := by simp [bys, bysU]
theorem by_bd {w : List Int} (h : okW w) (i : Nat) : 1 ≤ prodI (w.take i) ∧ prodI (w.take i) ≤ prodI w := by
 have h1 := prodI_pos (pos_take (okW_pos h) i)
 have h2 := prodI_pos (pos_drop (okW_pos h) i)
 have h3 := prodI_split w i
 refine ⟨h1, ?_⟩
 have : prodI (w.take i) * 1 ≤ prodI (w.take i) * prodI (w.drop i) := Int.mul_le_mul_of_nonneg_left h2 (by omega)
 omega
theorem gameOf_loop {w : List Int} (h : okW w) : ∀ (d i : Nat), w.length - i = d → i ≤ w.length → Ev (fun k => ice_gameOf.l0 k w w.length i w (bysU w i) (prodI (w.take i))) (w, bys w, prodI w) := by
 have hlen := h.1.2
 obtain ⟨b1, b2⟩ := prodI_le h
 intro d
 induction d with
 | zero =>
  intro i hd hi
  obtain rfl : i = w.length := by omega
  refine ev_some _ fun k => ?_
  rw [ice_gameOf.l0, if_neg (by omega), List.take_length]
  rfl
 | succ d ih =>
  intro i hd hi
  have e := ih (i + 1) (by omega) (by omega)
  have p := prodI_take_succ w i (by omega)
  have q := by_bd h (i + 1)
  have u : bysU w (i + 1) = bysU w i ++ [prodI (w.take i)] := by simp [bysU, List.range_succ]
  rw [u] at e
  refine Ev.step (fun k => ?_) e
  rw [ice_gameOf.l0, if_pos (by omega), if_pos (by omega), if_pos (by omega), if_pos (by simp [bysU]; omega), wsucc i (by omega), ← p, w64 (by omega) (by omega)]
theorem gameOf_ev {w : List Int} (h : okW w) : Ev (fun k => ice_gameOf.f k w) (w, bys w, prodI w) := gameOf_loop h w.length 0 (by omega) (by omega)
theorem num_div : ∀ {w s : List Int} (i : Nat), okSt w s → numL w s / prodI (w.take i) = numL (w.drop i) (s.drop i)
 | w, s, 0, h => by simp [prodI]
 | [], [], i + 1, h => by simp [numL, prodI]
 | a :: w, x :: s, i + 1, h => by
  have e := num_div (w := w) (s := s) i h.2
  have h1 := numL_bd h
  obtain ⟨⟨h3, h4⟩, h5⟩ := h
  simp only [List.take_succ_cons, List.drop_succ_cons, prodI]
  rw [← e, ← Int.ediv_ediv_of_nonneg (by omega)]
  congr 1
  simp only [numL]
  rw [Int.add_mul_ediv_left _ _ (by omega), Int.ediv_eq_zero_of_lt (by omega) (by omega)]
  omega
 | [], _ :: _, _, h => h.elim
 | _ :: _, [], _, h => h.elim
theorem num_digit {w s : List Int} (h : okSt w s) {i : Nat} (hi : i < w.length) : (numL w s / prodI (w.take i)) % rd w (i : Int) + 1 = rd s (i : Int) := by
 have hs := okSt_len h
 obtain ⟨h1, h2⟩ := (okSt_iff.1 h).2 i hi
 rw [num_div i h, rd_drop w i hi, rd_drop s i (by omega)]
 simp only [numL]
 rw [Int.add_mul_emod_self_left, Int.emod_eq_of_lt (by omega) (by omega)]
 omega
theorem digit_some {w s : List Int} (o : okW w) (h : okSt w s) (N : Int) {i : Nat} (hi : i < w.length) : ice_game_digit.f w (bys w) N (numL w s) i = some (rd s (i : Int), N) := by
 obtain ⟨b1, b2⟩ := prodI_le o
 obtain ⟨n1, n2⟩ := numL_bd h
 have q := by_bd o i
 have r := o.2 i hi
 have hx := (okSt_iff.1 h).2 i hi
 have e := num_digit h hi
 have z1 : 0 ≤ numL w s / prodI (w.take i) := Int.ediv_nonneg n1 (by omega)
 have z2 : numL w s / prodI (w.take i) ≤ numL w s := Int.ediv_le_self _ n1
 unfold ice_game_digit.f
 rw [if_pos (by omega), if_pos (by rw [bys_len]; omega), rd_bys hi, if_neg (by omega), if_pos (by omega), if_neg (by omega), Int.tdiv_eq_ediv_of_nonneg n1, w64 (n := numL w s / prodI (w.take i)) (by omega) (by omega), Int.tmod_eq_emod_of_nonneg z1, w64 (by omega) (by omega), e]
/-- The number of the state behind a night; -1: it is lost. -/
def tn (w s : List Int) (c : Int) : Int := match nx w s c with
 | some t => numL w t
 | none => -1
theorem tonight_loop {w s : List Int} (o : okW w) (h : okSt w s) (N c : Int) : ∀ (d i : Nat) (acc : Int), w.length - i = d → i ≤ w.length → 0 ≤ acc → acc < prodI (w.take i) →
  Ev (fun k => ice_game_tonight.l0 k (numL w s) c acc w w.length i w (bys w) N) (match nx (w.drop i) (s.drop i) (c - i) with | some t => acc + prodI (w.take i) * numL (w.drop i) t | none => -1, N) := by
 have hlen := o.1.2
 have hs := okSt_len h
 obtain ⟨b1, b2⟩ := prodI_le o
 intro d
 induction d with
 | zero =>
  intro i acc hd hi ha hb
  obtain rfl : i = w.length := by omega
  refine ev_some _ fun k => ?_
  rw [ice_game_tonight.l0, if_neg (by omega), List.drop_length]
  simp [nx, numL]
 | succ d ih =>
  intro i acc hd hi ha hb
  have hx := (okSt_iff.1 h).2 i (by omega)
  have hw8 := o.2 i (by omega)
  have p := prodI_take_succ w i (by omega)
  have q0 := by_bd o i
  have q := by_bd o (i + 1)
  have dg := digit_some o h N (i := i) (by omega)
  have go : ∀ m : Int, 1 ≤ m → m ≤ rd w (i : Int) → Ev (fun k => ice_game_tonight.l0 k (numL w s) c (acc + (m - 1) * prodI (w.take i)) w w.length ((i + 1 : Nat) : Int) w (bys w) N)
    (match (nx (w.drop (i + 1)) (s.drop (i + 1)) (c - i - 1)).map (fun t => m :: t) with | some t => acc + prodI (w.take i) * numL (w.drop i) t | none => -1, N) := by
   intro m h1 h2
   have m1 : 0 ≤ (m - 1) * prodI (w.take i) := Int.mul_nonneg (by omega) (by omega)
   have m2 : (m - 1) * prodI (w.take i) ≤ (rd w (i : Int) - 1) * prodI (w.take i) := Int.mul_le_mul_of_nonneg_right (by omega) (by omega)
   have m3 : (rd w (i : Int) - 1) * prodI (w.take i) = prodI (w.take (i + 1)) - prodI (w.take i) := by rw [p, Int.sub_mul, Int.mul_comm]; omega
   have e := ih (i + 1) (acc + (m - 1) * prodI (w.take i)) (by omega) (by omega) (by omega) (by omega)
   rw [show c - ((i + 1 : Nat) : Int) = c - i - 1 by omega] at e
   rw [rd_drop w i (by omega)]
   cases z : nx (w.drop (i + 1)) (s.drop (i + 1)) (c - i - 1) with
   | none => rw [z] at e; exact e
   | some t =>
    rw [z] at e
    have e2 : acc + (m - 1) * prodI (w.take i) + prodI (w.take (i + 1)) * numL (w.drop (i + 1)) t = acc + prodI (w.take i) * numL (rd w (i : Int) :: w.drop (i + 1)) (m :: t) := by
     simp only [numL]
     rw [p, Int.mul_add, Int.mul_comm (m - 1), Int.mul_assoc]
     omega
    simp only [Option.map_some]
    rw [← e2]
    exact e
  rw [show nx (w.drop i) (s.drop i) (c - i) = if (if c - i = 0 then rd w (i : Int) else rd s (i : Int) - 1) = 0 then none else (nx (w.drop (i + 1)) (s.drop (i + 1)) (c - i - 1)).map fun t => (if c - i = 0 then rd w (i : Int) else rd s (i : Int) - 1) :: t by rw [rd_drop w i (by omega), rd_drop s i (by omega)]; rfl]
  by_cases cc : (i : Int) = c
  ·have g := go (rd w (i : Int)) (by omega) (by omega)
   rw [if_pos (show c - (i : Int) = 0 by omega), if_neg (by omega)]
   have m1 : 0 ≤ (rd w (i : Int) - 1) * prodI (w.take i) := Int.mul_nonneg (by omega) (by omega)
   have m3 : (rd w (i : Int) - 1) * prodI (w.take i) = prodI (w.take (i + 1)) - prodI (w.take i) := by rw [p, Int.sub_mul, Int.mul_comm]; omega
   refine Ev.step (fun k => ?_) g
   rw [ice_game_tonight.l0, if_pos (by omega), if_pos (by omega), if_pos (by omega), dg]
   simp only [Option.bind_some]
   rw [if_pos cc, if_pos (by rw [bys_len]; omega), rd_bys (by omega), wsucc i (by omega), w64 (n := rd w (i : Int) - 1) (by omega) (by omega), w64 (n := (rd w (i : Int) - 1) * prodI (w.take i)) (by omega) (by omega), w64 (by omega) (by omega)]
  ·rw [if_neg (show ¬ c - (i : Int) = 0 by omega)]
   by_cases c1 : rd s (i : Int) - 1 = 0
   ·rw [if_pos c1]
    refine ev_some _ fun k => ?_
    rw [ice_game_tonight.l0, if_pos (by omega), if_pos (by omega), if_pos (by omega), dg]
    simp only [Option.bind_some]
    rw [if_neg cc, w64 (n := rd s (i : Int) - 1) (by omega) (by omega), if_pos c1]
   ·rw [if_neg c1]
    have g := go (rd s (i : Int) - 1) (by omega) (by omega)
    have m1 : 0 ≤ (rd s (i : Int) - 1 - 1) * prodI (w.take i) := Int.mul_nonneg (by omega) (by omega)
    have m2 : (rd s (i : Int) - 1 - 1) * prodI (w.take i) ≤ (rd w (i : Int) - 1) * prodI (w.take i) := Int.mul_le_mul_of_nonneg_right (by omega) (by omega)
    have m3 : (rd w (i : Int) - 1) * prodI (w.take i) = prodI (w.take (i + 1)) - prodI (w.take i) := by rw [p, Int.sub_mul, Int.mul_comm]; omega
    refine Ev.step (fun k => ?_) g
    rw [ice_game_tonight.l0, if_pos (by omega), if_pos (by omega), if_pos (by omega), dg]
    simp only [Option.bind_some]
    rw [if_neg cc, w64 (n := rd s (i : Int) - 1) (by omega) (by omega), if_neg c1, if_pos (by rw [bys_len]; omega), rd_bys (by omega), wsucc i (by omega), w64 (n := rd s (i : Int) - 1 - 1) (by omega) (by omega), w64 (n := (rd s (i : Int) - 1 - 1) * prodI (w.take i)) (by omega) (by omega), w64 (by omega) (by omega)]
theorem tonight_ev {w s : List Int} (o : okW w) (h : okSt w s) (N c : Int) : Ev (fun k => ice_game_tonight.f k w (bys w) N (numL w s) c) (tn w s c, N) := by
 have e := tonight_loop o h N c w.length 0 0 (by omega) (by omega) (by omega) (by simp [prodI])
 simp only [List.drop_zero, List.take_zero, prodI, Int.one_mul, Int.zero_add, Int.natCast_zero, Int.sub_zero] at e
 exact e
theorem tn_bd {w s : List Int} (h : okSt w s) {c : Int} {t : List Int} (e : nx w s c = some t) : tn w s c = numL w t ∧ okSt w t ∧ 0 ≤ numL w t ∧ numL w t < prodI w := by
 have ot := nx_ok h e
 refine ⟨?_, ot, numL_bd ot⟩
 unfold tn
 rw [e]
/-- The program's set of the states that can go on for k nights. -/
def setL (w : List Int) (k : Nat) : List Bool := (List.range (prodI w).toNat).map fun i : Nat => K w k (digL w (i : Int))
theorem setL_len (w : List Int) (k : Nat) : (setL w k).length = (prodI w).toNat := by simp [setL]
theorem setL_rd {w s : List Int} (h : okSt w s) (k : Nat) : rdOf false (setL w k) (numL w s) = K w k s := by
 obtain ⟨h1, h2⟩ := num_lt h
 have : (digL w ((numL w s).toNat : Int)) = s := by rw [h2]; exact dig_num h
 unfold setL rdOf
 rw [List.getD_eq_getElem?_getD, List.getElem?_map, List.getElem?_range h1]
 simp only [Option.map_some, Option.getD_some, this]
theorem setL_eq {w : List Int} (hp : pos w) {k m : Nat} : setL w k = setL w m ↔ ∀ s, okSt w s → K w k s = K w m s := by
 constructor
 ·intro e s hs
  rw [← setL_rd hs, ← setL_rd hs, e]
 ·intro h
  unfold setL
  refine List.map_congr_left fun i hi => ?_
  exact h _ (dig_ok hp (List.mem_range.1 hi)).2
theorem setL_stable {w : List Int} (hp : pos w) {k : Nat} : setL w (k + 1) = setL w k ↔ stable w k := setL_eq hp
theorem all_some {w : List Int} (o : okW w) : ice_game_all.f w (bys w) (prodI w) = some (setL w 0, prodI w) := by
 obtain ⟨b1, b2⟩ := prodI_le o
 unfold ice_game_all.f slices_Repeat_bool_bool.f
 rw [if_pos (by simp), if_pos (by omega), if_pos (by omega)]
 simp only [Option.bind_some]
 congr 2
 unfold setL
 refine List.ext_getElem (by simp) fun i h1 h2 => ?_
 simp [K, rdOf]
/-- Whether a choice leads on. -/
def good (w : List Int) (k : Nat) (s : List Int) (c : Int) : Bool := match nx w s c with
 | some t => K w k t
 | none => false
def gF (w : List Int) (k : Nat) (s : List Int) : Nat → Bool
 | 0 => false
 | m + 1 => good w k s ((w.length : Int) - (m + 1)) || gF w k s m
theorem gF_iff {w : List Int} {k : Nat} {s : List Int} : ∀ {m : Nat}, gF w k s m = true ↔ ∃ c : Int, (w.length : Int) - m ≤ c ∧ c < w.length ∧ good w k s c = true
 | 0 => by
  simp only [gF, Bool.false_eq_true, false_iff]
  rintro ⟨c, h1, h2, _⟩; omega
 | m + 1 => by
  simp only [gF, Bool.or_eq_true]
  rw [gF_iff (m := m)]
  constructor
  ·rintro (h | ⟨c, h1, h2, h3⟩)
   ·exact ⟨_, by omega, by omega, h⟩
   ·exact ⟨c, by omega, h2, h3⟩
  ·rintro ⟨c, h1, h2, h3⟩
   by_cases q : c = (w.length : Int) - (m + 1)
   ·left; rw [← q]; exact h3
   ·right; exact ⟨c, by omega, h2, h3⟩
theorem good_iff {w : List Int} {k : Nat} {s : List Int} {c : Int} : good w k s c = true ↔ ∃ t, nx w s c = some t ∧ K w k t = true := by
 unfold good
 cases nx w s c with
 | none => simp
 | some t => simp
theorem K_gF {w : List Int} {k : Nat} {s : List Int} : K w (k + 1) s = gF w k s (w.length + 1) := by
 rw [Bool.eq_iff_iff, K_succ, gF_iff]
 constructor
 ·rintro ⟨c, t, h1, h2, h3, h4⟩
  exact ⟨c, by omega, h2, good_iff.2 ⟨t, h3, h4⟩⟩
 ·rintro ⟨c, h1, h2, h3⟩
  obtain ⟨t, h4, h5⟩ := good_iff.1 h3
  exact ⟨c, t, by omega, h2, h4, h5⟩
/-- The set under way: the first j numbers are told, number j is b, the others false. -/
def mid (f : Nat → Bool) (N j : Nat) (b : Bool) : List Bool := (List.range j).map f ++ b :: List.replicate (N - j - 1) false
theorem mid_len {f : Nat → Bool} {N j : Nat} {b : Bool} (h : j < N) : (mid f N j b).length = N := by simp [mid]; omega
theorem mid_rd {f : Nat → Bool} {N j : Nat} {b : Bool} (h : j < N) : rdOf false (mid f N j b) (j : Int) = b := by
 simp [mid, rdOf, List.getD_eq_getElem?_getD, List.getElem?_append]
theorem mid_set {f : Nat → Bool} {N j : Nat} {b v : Bool} (h : j < N) : (mid f N j b).set j v = mid f N j v := by
 simp [mid, List.set_append]
theorem mid_next {f : Nat → Bool} {N j : Nat} (h : j + 1 < N) : mid f N j (f j) = mid f N (j + 1) false := by
 unfold mid
 rw [List.range_succ, List.map_append, List.append_assoc]
 congr 1
 have : N - j - 1 = N - (j + 1) - 1 + 1 := by omega
 rw [this, List.replicate_succ]
 rfl
theorem mid_last {f : Nat → Bool} {N j : Nat} (h : j + 1 = N) : mid f N j (f j) = (List.range N).map f := by
 unfold mid
 rw [← h, List.range_succ, List.map_append, show j + 1 - j - 1 = 0 by omega]
 rfl
theorem mid_first {f : Nat → Bool} {N : Nat} (h : 0 < N) : mid f N 0 false = List.replicate N false := by
 unfold mid
 obtain ⟨m, rfl⟩ : ∃ m, N = m + 1 := ⟨N - 1, by omega⟩
 simp [List.replicate_succ]
theorem before_in {w : List Int} (o : okW w) (k0 : Nat) {j : Nat} (hj : j < (prodI w).toNat) {f : Nat → Bool} {r : List Bool × Int} : ∀ (m : Nat) (b : Bool), m ≤ w.length + 1 →
  Ev (fun k => ice_game_before.l0 k (setL w k0) (mid f (prodI w).toNat j (b || gF w k0 (digL w j) m)) (prodI w) ((j + 1 : Nat) : Int) w (bys w) (prodI w)) r →
  Ev (fun k => ice_game_before.l1 k (setL w k0) (mid f (prodI w).toNat j b) j ((w.length : Int) - m) (prodI w) j w (bys w) (prodI w)) r := by
 obtain ⟨b1, b2⟩ := prodI_le o
 have hlen := o.1.2
 obtain ⟨nd, od⟩ := dig_ok (okW_pos o) hj
 intro m
 induction m with
 | zero =>
  intro b hm e
  simp only [gF, Bool.or_false] at e
  refine Ev.step (fun k => ?_) e
  rw [ice_game_before.l1, if_neg (by omega), wsucc j (by omega)]
 | succ m ih =>
  intro b hm e
  cases b with
  | true =>
   simp only [Bool.true_or] at e
   refine Ev.step (fun k => ?_) e
   rw [ice_game_before.l1, if_pos (by omega), if_pos (by omega), if_pos (by rw [mid_len hj]; omega), if_pos (mid_rd hj), wsucc j (by omega)]
  | false =>
   have ht := tonight_ev o od (prodI w) ((w.length : Int) - ((m + 1 : Nat) : Int))
   rw [nd] at ht
   refine Ev.step (f := fun k => (ice_game_tonight.f k w (bys w) (prodI w) j ((w.length : Int) - ((m + 1 : Nat) : Int))).bind fun bt105 => (if bt105.1 = (-1) then (ice_game_before.l1 k (setL w k0) ((mid f (prodI w).toNat j false).set ((j : Int)).toNat false) j (wrap64 ((w.length : Int) - ((m + 1 : Nat) : Int) + 1)) (prodI w) j w (bys w) bt105.2) else (if 0 ≤ bt105.1 then (if bt105.1 < ((setL w k0).length : Int) then (ice_game_before.l1 k (setL w k0) ((mid f (prodI w).toNat j false).set ((j : Int)).toNat (rdOf false (setL w k0) bt105.1)) j (wrap64 ((w.length : Int) - ((m + 1 : Nat) : Int) + 1)) (prodI w) j w (bys w) bt105.2) else (none)) else (none)))) (fun k => ?_) (Ev.bind ht ?_)
   ·rw [ice_game_before.l1, if_pos (by omega), if_pos (by omega), if_pos (by rw [mid_len hj]; omega), if_neg (by rw [mid_rd hj]; decide)]
   ·have wz : wrap64 ((w.length : Int) - ((m + 1 : Nat) : Int) + 1) = (w.length : Int) - m := by rw [w64 (by omega) (by omega)]; omega
    simp only [Bool.false_or, gF] at e
    have gd : good w k0 (digL w j) ((w.length : Int) - ((m : Int) + 1)) = good w k0 (digL w j) ((w.length : Int) - ((m + 1 : Nat) : Int)) := rfl
    rw [gd] at e
    cases z : nx w (digL w j) ((w.length : Int) - ((m + 1 : Nat) : Int)) with
    | none =>
     have e0 : good w k0 (digL w j) ((w.length : Int) - ((m + 1 : Nat) : Int)) = false := by unfold good; rw [z]
     rw [e0] at e
     have e1 : tn w (digL w j) ((w.length : Int) - ((m + 1 : Nat) : Int)) = -1 := by unfold tn; rw [z]
     rw [e1]
     refine Ev.congr (fun k => ?_) (ih false (by omega) e)
     rw [if_pos rfl, wz, Int.toNat_natCast, mid_set hj]
    | some t =>
     obtain ⟨e1, ot, t1, t2⟩ := tn_bd od z
     have e0 : good w k0 (digL w j) ((w.length : Int) - ((m + 1 : Nat) : Int)) = K w k0 t := by unfold good; rw [z]
     rw [e0] at e
     rw [e1]
     refine Ev.congr (fun k => ?_) (ih (K w k0 t) (by omega) e)
     rw [if_neg (by omega), if_pos t1, if_pos (by rw [setL_len]; omega), wz, Int.toNat_natCast, mid_set hj, setL_rd ot]
theorem before_loop {w : List Int} (o : okW w) (k0 : Nat) : ∀ (d j : Nat), (prodI w).toNat - j = d → 0 < d →
  Ev (fun k => ice_game_before.l0 k (setL w k0) (mid (fun i => K w (k0 + 1) (digL w (i : Int))) (prodI w).toNat j false) (prodI w) j w (bys w) (prodI w)) (setL w (k0 + 1), prodI w) := by
 obtain ⟨b1, b2⟩ := prodI_le o
 have hlen := o.1.2
 intro d
 induction d with
 | zero => intro j _ h; omega
 | succ d ih =>
  intro j hd _
  refine Ev.step (f := fun k => ice_game_before.l1 k (setL w k0) (mid (fun i => K w (k0 + 1) (digL w (i : Int))) (prodI w).toNat j false) j (-1) (prodI w) j w (bys w) (prodI w)) (fun k => ?_) ?_
  ·rw [ice_game_before.l0, if_pos (by omega)]
  ·have e := before_in o k0 (j := j) (by omega) (f := fun i => K w (k0 + 1) (digL w (i : Int))) (r := (setL w (k0 + 1), prodI w)) (w.length + 1) false (by omega)
   rw [show (w.length : Int) - ((w.length + 1 : Nat) : Int) = -1 by omega] at e
   refine e ?_
   rw [Bool.false_or, ← K_gF]
   by_cases q : d = 0
   ·refine ev_some _ fun k => ?_
    rw [ice_game_before.l0, if_neg (by omega)]
    rw [mid_last (f := fun i => K w (k0 + 1) (digL w (i : Int))) (by omega)]
    rfl
   ·have e2 := ih (j + 1) (by omega) (by omega)
    rw [← mid_next (f := fun i => K w (k0 + 1) (digL w (i : Int))) (by omega)] at e2
    exact e2
theorem before_ev {w : List Int} (o : okW w) (k0 : Nat) : Ev (fun k => ice_game_before.f k w (bys w) (prodI w) (setL w k0)) (setL w (k0 + 1), prodI w) := by
 obtain ⟨b1, b2⟩ := prodI_le o
 have e := before_loop o k0 (prodI w).toNat 0 (by omega) (by omega)
 rw [mid_first (by omega)] at e
 refine Ev.congr (fun k => ?_) e
 unfold ice_game_before.f
 rw [if_pos (by omega), if_pos (by omega)]
 simp only [Option.bind_some, List.length_replicate]
 rw [show (((prodI w).toNat : Nat) : Int) = prodI w by omega]
 rfl
theorem equal_loop {a b : List Bool} (hab : a.length = b.length) (hl : a.length ≤ 4611686018427387904) : ∀ (d i : Nat), a.length - i = d → i ≤ a.length → (∀ j, j < i → rdOf false a (j : Int) = rdOf false b (j : Int)) → Ev (fun k => slices_Equal_bool_bool.l0 k a b a.length i) (decide (a = b)) := by
 intro d
 induction d with
 | zero =>
  intro i hd hi h1
  obtain rfl : i = a.length := by omega
  refine ev_some _ fun k => ?_
  rw [slices_Equal_bool_bool.l0, if_neg (by omega), decide_eq_true]
  refine List.ext_getElem hab fun j h2 h3 => ?_
  have := h1 j h2
  simpa [rdOf, List.getD_eq_getElem?_getD, h2, h3] using this
 | succ d ih =>
  intro i hd hi h1
  by_cases c : rdOf false a (i : Int) = rdOf false b (i : Int)
  ·refine Ev.step (fun k => ?_) (ih (i + 1) (by omega) (by omega) (fun j hj => if q : j = i then q ▸ c else h1 j (by omega)))
   rw [slices_Equal_bool_bool.l0, if_pos (by omega), if_pos (by omega), if_pos (by omega), if_pos (by omega), c, if_neg (by simp), wsucc i (by omega)]
  ·refine ev_some _ fun k => ?_
   rw [slices_Equal_bool_bool.l0, if_pos (by omega), if_pos (by omega), if_pos (by omega), if_pos (by omega), if_pos (by simpa using c), decide_eq_false]
   rintro rfl
   exact c rfl
theorem equal_ev {a b : List Bool} (hab : a.length = b.length) (hl : a.length ≤ 4611686018427387904) : Ev (fun k => slices_Equal_bool_bool.f k a b) (decide (a = b)) := by
 refine Ev.congr (fun k => ?_) (equal_loop hab hl a.length 0 (by omega) (by omega) (by omega))
 unfold slices_Equal_bool_bool.f
 rw [if_pos (by omega)]
 rfl
theorem setEq_ev {w : List Int} (o : okW w) (k0 m : Nat) : Ev (fun k => slices_Equal_bool_bool.f k (setL w k0) (setL w m)) (decide (setL w k0 = setL w m)) := by
 obtain ⟨b1, b2⟩ := prodI_le o
 exact equal_ev (by rw [setL_len, setL_len]) (by rw [setL_len]; omega)
theorem going_loop {w : List Int} (o : okW w) {n : Nat} (hn : n ≤ 1000000) : ∀ (d i : Nat), n - i = d → i ≤ n → Ev (fun k => ice_game_going.l0 k (setL w i) n i w (bys w) (prodI w)) (setL w n, prodI w) := by
 intro d
 induction d with
 | zero =>
  intro i hd hi
  obtain rfl : i = n := by omega
  refine ev_some _ fun k => ?_
  rw [ice_game_going.l0, if_neg (by omega)]
 | succ d ih =>
  intro i hd hi
  refine Ev.step (f := fun k => (ice_game_before.f k w (bys w) (prodI w) (setL w i)).bind fun bt105 => ((slices_Equal_bool_bool.f k bt105.1 (setL w i)).bind fun t109 => (if t109 = true then (some (setL w i, bt105.2)) else (ice_game_going.l0 k bt105.1 n (wrap64 ((i : Int) + 1)) w (bys w) bt105.2)))) (fun k => ?_) (Ev.bind (before_ev o i) (Ev.bind (setEq_ev o (i + 1) i) ?_))
  ·rw [ice_game_going.l0, if_pos (by omega)]
  ·by_cases c : setL w (i + 1) = setL w i
   ·simp only [decide_eq_true c, if_true]
    have st := (setL_stable (okW_pos o)).1 c
    have : setL w i = setL w n := (setL_eq (okW_pos o)).2 fun s hs => (stable_eq st hi hs).symm
    rw [this]
    exact Ev.now _
   ·simp only [decide_eq_false c, Bool.false_eq_true, if_false]
    rw [wsucc i (by omega)]
    exact ih (i + 1) (by omega) (by omega)
theorem going_ev {w : List Int} (o : okW w) {n : Int} (h0 : 0 ≤ n) (hn : n ≤ 1000000) : Ev (fun k => ice_game_going.f k w (bys w) (prodI w) n) (setL w n.toNat, prodI w) := by
 have e := going_loop o (n := n.toNat) (by omega) n.toNat 0 (by omega) (by omega)
 refine Ev.congr (fun k => ?_) e
 unfold ice_game_going.f
 rw [all_some o]
 simp only [Option.bind_some]
 rw [show ((n.toNat : Nat) : Int) = n by omega]
 rfl
/-- For ever: so many nights as there are states. -/
def inf (w : List Int) : Nat := (prodI w).toNat
theorem inf_eq {w : List Int} (o : okW w) {k : Nat} (hk : inf w ≤ k) {s : List Int} (hs : okSt w s) : K w k s = K w (inf w) s := stable_eq (stable_all (okW_pos o) (Nat.le_refl _)) hk hs
theorem ever_ev {w : List Int} (o : okW w) : Ev (fun k => ice_game_ever.f k w (bys w) (prodI w)) (setL w (inf w), prodI w) := by
 obtain ⟨b1, b2⟩ := prodI_le o
 exact Ev.bind (going_ev o (n := prodI w) (by omega) (by omega)) (Ev.now _)
/-- The choices that lead from a state into a set. -/
def chsOf (w : List Int) (k : Nat) (s : List Int) : List Int := (chs w.length).filter fun c => good w k s c
def chsFrom (w : List Int) (k : Nat) (s : List Int) : Nat → List Int
 | 0 => []
 | m + 1 => (if good w k s ((w.length : Int) - ((m + 1 : Nat) : Int)) = true then [(w.length : Int) - ((m + 1 : Nat) : Int)] else []) ++ chsFrom w k s m
theorem chsFrom_eq (w : List Int) (k : Nat) (s : List Int) : ∀ m, m ≤ w.length + 1 → chsFrom w k s m = ((List.range m).map fun i : Nat => (w.length : Int) - m + i).filter fun c => good w k s c
 | 0, _ => rfl
 | m + 1, h => by
  rw [chsFrom, chsFrom_eq w k s m (by omega), List.range_succ_eq_map, List.map_cons, List.filter_cons]
  have e : (w.length : Int) - ((m + 1 : Nat) : Int) + ((0 : Nat) : Int) = (w.length : Int) - ((m + 1 : Nat) : Int) := by omega
  rw [e, List.map_map]
  have e2 : ((fun i : Nat => (w.length : Int) - ((m + 1 : Nat) : Int) + (i : Int)) ∘ Nat.succ) = fun i : Nat => (w.length : Int) - m + i := by
   funext i
   simp only [Function.comp]
   omega
  rw [e2]
  split <;> rfl
theorem chsOf_from (w : List Int) (k : Nat) (s : List Int) : chsFrom w k s (w.length + 1) = chsOf w k s := by
 rw [chsFrom_eq w k s _ (Nat.le_refl _)]
 unfold chsOf chs
 congr 1
 refine List.map_congr_left fun i _ => ?_
 omega
theorem choices_loop {w s : List Int} (o : okW w) (h : okSt w s) (k0 : Nat) : ∀ (m : Nat) (x : List Int), m ≤ w.length + 1 → x.length ≤ 6 - m →
  Ev (fun k => ice_game_choices.l0 k (numL w s) (setL w k0) x ((w.length : Int) - m) w (bys w) (prodI w)) (x ++ chsFrom w k0 s m, prodI w) := by
 have hlen := o.1.2
 obtain ⟨b1, b2⟩ := prodI_le o
 intro m
 induction m with
 | zero =>
  intro x _ _
  refine ev_some _ fun k => ?_
  rw [ice_game_choices.l0, if_neg (by omega)]
  simp [chsFrom]
 | succ m ih =>
  intro x hm hx
  have wz : wrap64 ((w.length : Int) - ((m + 1 : Nat) : Int) + 1) = (w.length : Int) - m := by rw [w64 (by omega) (by omega)]; omega
  refine Ev.step (f := fun k => (ice_game_tonight.f k w (bys w) (prodI w) (numL w s) ((w.length : Int) - ((m + 1 : Nat) : Int))).bind fun bt101 => (if bt101.1 = (-1) then (ice_game_choices.l0 k (numL w s) (setL w k0) x (wrap64 ((w.length : Int) - ((m + 1 : Nat) : Int) + 1)) w (bys w) bt101.2) else (if 0 ≤ bt101.1 then (if bt101.1 < ((setL w k0).length : Int) then (if rdOf false (setL w k0) bt101.1 = true then (if x.length < 17592186044416 then (ice_game_choices.l0 k (numL w s) (setL w k0) (x ++ [(w.length : Int) - ((m + 1 : Nat) : Int)]) (wrap64 ((w.length : Int) - ((m + 1 : Nat) : Int) + 1)) w (bys w) bt101.2) else (none)) else (ice_game_choices.l0 k (numL w s) (setL w k0) x (wrap64 ((w.length : Int) - ((m + 1 : Nat) : Int) + 1)) w (bys w) bt101.2)) else (none)) else (none)))) (fun k => ?_) (Ev.bind (tonight_ev o h (prodI w) _) ?_)
  ·rw [ice_game_choices.l0, if_pos (by omega)]
  ·rw [chsFrom]
   cases z : nx w s ((w.length : Int) - ((m + 1 : Nat) : Int)) with
   | none =>
    have e0 : good w k0 s ((w.length : Int) - ((m + 1 : Nat) : Int)) = false := by unfold good; rw [z]
    have e1 : tn w s ((w.length : Int) - ((m + 1 : Nat) : Int)) = -1 := by unfold tn; rw [z]
    rw [e0, e1, if_neg (by decide), List.nil_append]
    refine Ev.congr (fun k => ?_) (ih x (by omega) (by omega))
    rw [if_pos rfl, wz]
   | some t =>
    obtain ⟨e1, ot, t1, t2⟩ := tn_bd h z
    have e0 : good w k0 s ((w.length : Int) - ((m + 1 : Nat) : Int)) = K w k0 t := by unfold good; rw [z]
    rw [e0, e1]
    cases q : K w k0 t with
    | true =>
     rw [if_pos rfl, ← List.append_assoc]
     refine Ev.congr (fun k => ?_) (ih (x ++ [(w.length : Int) - ((m + 1 : Nat) : Int)]) (by omega) (by rw [List.length_append]; simp; omega))
     rw [if_neg (by omega), if_pos t1, if_pos (by rw [setL_len]; omega), setL_rd ot, q, if_pos rfl, if_pos (by omega), wz]
    | false =>
     rw [if_neg (by decide), List.nil_append]
     refine Ev.congr (fun k => ?_) (ih x (by omega) (by omega))
     rw [if_neg (by omega), if_pos t1, if_pos (by rw [setL_len]; omega), setL_rd ot, q, if_neg (by decide), wz]
theorem choices_ev {w s : List Int} (o : okW w) (h : okSt w s) (k0 : Nat) : Ev (fun k => ice_game_choices.f k w (bys w) (prodI w) (numL w s) (setL w k0)) (chsOf w k0 s, prodI w) := by
 have e := choices_loop o h k0 (w.length + 1) [] (Nat.le_refl _) (by simp)
 rw [show (w.length : Int) - ((w.length + 1 : Nat) : Int) = -1 by omega, List.nil_append, chsOf_from] at e
 exact e
theorem list_loop {w s : List Int} (o : okW w) (h : okSt w s) : ∀ (d i : Nat), w.length - i = d → i ≤ w.length → Ev (fun k => ice_game_list.l0 k (numL w s) (s.take i) w.length i w (bys w) (prodI w)) (s, prodI w) := by
 have hlen := o.1.2
 have hs := okSt_len h
 intro d
 induction d with
 | zero =>
  intro i hd hi
  obtain rfl : i = w.length := by omega
  refine ev_some _ fun k => ?_
  rw [ice_game_list.l0, if_neg (by omega), ← hs, List.take_length]
 | succ d ih =>
  intro i hd hi
  have e := ih (i + 1) (by omega) (by omega)
  rw [List.take_succ_eq_append_getElem (by omega), ← rd_get (by omega)] at e
  refine Ev.step (fun k => ?_) e
  rw [ice_game_list.l0, if_pos (by omega), digit_some o h (prodI w) (by omega)]
  simp only [Option.bind_some]
  rw [if_pos (by rw [List.length_take]; omega), wsucc i (by omega)]
theorem list_ev {w s : List Int} (o : okW w) (h : okSt w s) : Ev (fun k => ice_game_list.f k w (bys w) (prodI w) (numL w s)) (s, prodI w) := list_loop o h w.length 0 (by omega) (by omega)
theorem number_loop {w s : List Int} (o : okW w) (h : okSt w s) : ∀ (d i : Nat) (acc : Int), w.length - i = d → i ≤ w.length → 0 ≤ acc → acc < prodI (w.take i) → acc + prodI (w.take i) * numL (w.drop i) (s.drop i) = numL w s → Ev (fun k => ice_game_number.l0 k acc s s.length i w (bys w) (prodI w)) (numL w s, prodI w) := by
 have hlen := o.1.2
 have hs := okSt_len h
 obtain ⟨b1, b2⟩ := prodI_le o
 intro d
 induction d with
 | zero =>
  intro i acc hd hi ha hb e
  obtain rfl : i = w.length := by omega
  rw [List.drop_length] at e
  refine ev_some _ fun k => ?_
  rw [ice_game_number.l0, if_neg (by omega)]
  have : acc = numL w s := by simpa [numL] using e
  rw [this]
 | succ d ih =>
  intro i acc hd hi ha hb e
  have hx := (okSt_iff.1 h).2 i (by omega)
  have hw8 := o.2 i (by omega)
  have p := prodI_take_succ w i (by omega)
  have q0 := by_bd o i
  have q := by_bd o (i + 1)
  have m1 : 0 ≤ (rd s (i : Int) - 1) * prodI (w.take i) := Int.mul_nonneg (by omega) (by omega)
  have m2 : (rd s (i : Int) - 1) * prodI (w.take i) ≤ (rd w (i : Int) - 1) * prodI (w.take i) := Int.mul_le_mul_of_nonneg_right (by omega) (by omega)
  have m3 : (rd w (i : Int) - 1) * prodI (w.take i) = prodI (w.take (i + 1)) - prodI (w.take i) := by rw [p, Int.sub_mul, Int.mul_comm]; omega
  rw [rd_drop w i (by omega), rd_drop s i (by omega)] at e
  simp only [numL] at e
  rw [Int.mul_add, ← Int.mul_assoc, ← p, Int.mul_comm _ (rd s (i : Int) - 1)] at e
  refine Ev.step (fun k => ?_) (ih (i + 1) (acc + (rd s (i : Int) - 1) * prodI (w.take i)) (by omega) (by omega) (by omega) (by omega) (by omega))
  rw [ice_game_number.l0, if_pos (by omega), if_pos (by omega), if_pos (by omega), if_pos (by rw [bys_len]; omega), rd_bys (by omega), wsucc i (by omega), w64 (n := rd s (i : Int) - 1) (by omega) (by omega), w64 (n := (rd s (i : Int) - 1) * prodI (w.take i)) (by omega) (by omega), w64 (by omega) (by omega)]
theorem number_ev {w s : List Int} (o : okW w) (h : okSt w s) : Ev (fun k => ice_game_number.f k w (bys w) (prodI w) s) (numL w s, prodI w) := number_loop o h w.length 0 0 (by omega) (by omega) (by omega) (by simp [prodI]) (by simp [prodI])
theorem num_first : ∀ {w : List Int}, pos w → okSt w w ∧ numL w w = prodI w - 1
 | [], _ => ⟨trivial, by simp [numL, prodI]⟩
 | a :: w, h => by
  obtain ⟨h1, h2⟩ := num_first (w := w) (fun b hb => h b (by simp [hb]))
  have := h a (by simp)
  refine ⟨⟨⟨this, Int.le_refl _⟩, h1⟩, ?_⟩
  simp only [numL, prodI, h2]
  rw [Int.mul_sub]; omega
theorem cnt_remove {q : Nat → Bool} {j : Nat} (hq : q j = true) : ∀ {M : Nat}, j < M → cnt (fun i => q i && i != j) M + 1 = cnt q M
 | 0, h => by omega
 | M + 1, h => by
  unfold cnt
  by_cases e : j = M
  ·subst e
   rw [hq]
   have : cnt (fun i => q i && i != j) j = cnt q j := cnt_congr (fun i hi => by
    have : i ≠ j := by omega
    simp [this])
   rw [this]
   simp
  ·have ih := cnt_remove hq (M := M) (by omega)
   have : (q M && M != j) = q M := by
    have : M ≠ j := by omega
    simp [this]
   rw [this]
   omega
theorem cnt_inj {p : Nat → Bool} {σ : Nat → Nat} : ∀ {N : Nat} {q : Nat → Bool} {M : Nat}, (∀ i, i < N → p i = true → σ i < M ∧ q (σ i) = true) → (∀ i j, i < N → j < N → p i = true → p j = true → σ i = σ j → i = j) → cnt p N ≤ cnt q M
 | 0, q, M, _, _ => Nat.zero_le _
 | N + 1, q, M, h1, h2 => by
  rw [show cnt p (N + 1) = cnt p N + if p N = true then 1 else 0 from rfl]
  by_cases c : p N = true
  ·rw [if_pos c]
   obtain ⟨a, b⟩ := h1 N (by omega) c
   rw [← cnt_remove b a]
   refine Nat.succ_le_succ (cnt_inj (fun i hi hp => ?_) (fun i j hi hj => h2 i j (by omega) (by omega)))
   obtain ⟨a2, b2⟩ := h1 i (by omega) hp
   refine ⟨a2, ?_⟩
   have : σ i ≠ σ N := fun e => by have := h2 i N (by omega) (by omega) hp c e; omega
   simp [b2, this]
  ·rw [if_neg c]
   exact cnt_inj (fun i hi hp => h1 i (by omega) hp) (fun i j hi hj => h2 i j (by omega) (by omega))
/-- What is done in a night, the list again and again. -/
def nt (l : List Int) (i : Nat) : Int := rd l ((i % l.length : Nat) : Int)
/-- The next time of s behind night i is m nights on. -/
def isGap (l : List Int) (s : Int) (i m : Nat) : Prop := 1 ≤ m ∧ nt l (i + m) = s ∧ ∀ j, 1 ≤ j → j < m → nt l (i + j) ≠ s
theorem isGap_unique {l : List Int} {s : Int} {i m m' : Nat} (h : isGap l s i m) (h' : isGap l s i m') : m = m' := by
 rcases Nat.lt_trichotomy m m' with q | q | q
 ·exact absurd h.2.1 (h'.2.2 m h.1 q)
 ·exact q
 ·exact absurd h'.2.1 (h.2.2 m' h'.1 q)
/-- v is the longest wait of s. -/
def maxGap (l : List Int) (s : Int) (v : Nat) : Prop := (∀ a, a < l.length → nt l a = s → ∃ m, isGap l s a m ∧ m ≤ v) ∧ ∃ a, a < l.length ∧ nt l a = s ∧ isGap l s a v
theorem maxGap_unique {l : List Int} {s : Int} {v v' : Nat} (h : maxGap l s v) (h' : maxGap l s v') : v = v' := by
 obtain ⟨h1, a, a1, a2, a3⟩ := h
 obtain ⟨h1', b, b1, b2, b3⟩ := h'
 obtain ⟨m, m1, m2⟩ := h1' a a1 a2
 obtain ⟨n, n1, n2⟩ := h1 b b1 b2
 have e1 := isGap_unique a3 m1
 have e2 := isGap_unique b3 n1
 omega
open Classical in
/-- The longest wait of s; 0: it never comes. -/
noncomputable def wv (l : List Int) (s : Int) : Nat := if h : ∃ v, maxGap l s v then Classical.choose h else 0
theorem wv_eq {l : List Int} {s : Int} {v : Nat} (h : maxGap l s v) : wv l s = v := by
 have hh : ∃ v, maxGap l s v := ⟨v, h⟩
 unfold wv
 rw [dif_pos hh]
 exact maxGap_unique (Classical.choose_spec hh) h
theorem wv_none {l : List Int} {s : Int} (h : ∀ a, a < l.length → nt l a ≠ s) : wv l s = 0 := by
 unfold wv
 rw [dif_neg]
 rintro ⟨v, _, a, a1, a2, _⟩
 exact h a a1 a2
theorem nt_lt {l : List Int} {i : Nat} (h : i < l.length) : nt l i = rd l (i : Int) := by unfold nt; rw [Nat.mod_eq_of_lt h]
theorem nt_add {l : List Int} (i : Nat) : nt l (i + l.length) = nt l i := by unfold nt; rw [Nat.add_mod_right]
/-- A wait so long was met, or none. -/
def some8 (l : List Int) (s : Int) (p v : Nat) : Prop := v = 0 ∨ ∃ a, a < p ∧ nt l a = s ∧ isGap l s a v
/-- What is known ahead of night i: the first and the last time, the longest wait between. -/
def winv (l : List Int) (s : Int) (i : Nat) (f p : Int) (v : Nat) : Prop := (f < 0 ∧ v = 0 ∧ ∀ a, a < i → nt l a ≠ s) ∨ ∃ f' p' : Nat, f = f' ∧ p = p' ∧ f' ≤ p' ∧ p' < i ∧ nt l f' = s ∧ nt l p' = s ∧ (∀ a, a < f' → nt l a ≠ s) ∧ (∀ a, p' < a → a < i → nt l a ≠ s) ∧ (∀ a, a < p' → nt l a = s → ∃ m, isGap l s a m ∧ m ≤ v) ∧ some8 l s p' v
theorem waits_loop {l : List Int} {s : Int} (hn : 1 ≤ l.length) (hl : l.length ≤ 1000000) : ∀ (d i : Nat) (f p : Int) (v : Nat), l.length - i = d → i ≤ l.length → v ≤ l.length →
  winv l s i f p v →
  Ev (fun k => ice_waits.l0 k l s f p v l l.length i) (wv l s) := by
 intro d
 induction d with
 | zero =>
  intro i f p v hd hi hv h
  obtain rfl : i = l.length := by omega
  rcases h with ⟨h1, rfl, h2⟩ | ⟨f', p', rfl, rfl, h1, h2, h3, h4, h5, h6, h7, h8⟩
  ·rw [wv_none h2]
   refine ev_some _ fun k => ?_
   rw [ice_waits.l0, if_neg (by omega), if_pos h1]
   rfl
  ·have g : isGap l s p' (f' + l.length - p') := by
    refine ⟨by omega, ?_, fun j hj1 hj2 => ?_⟩
    ·rw [show p' + (f' + l.length - p') = f' + l.length by omega, nt_add]; exact h3
    ·by_cases q : p' + j < l.length
     ·exact h6 _ (by omega) q
     ·rw [show p' + j = (p' + j - l.length) + l.length by omega, nt_add]
      exact h5 _ (by omega)
   have m : maxGap l s (max v (f' + l.length - p')) := by
    refine ⟨fun a a1 a2 => ?_, ?_⟩
    ·rcases Nat.lt_trichotomy a p' with q | q | q
     ·obtain ⟨m, m1, m2⟩ := h7 a q a2
      exact ⟨m, m1, by omega⟩
     ·subst q
      exact ⟨_, g, by omega⟩
     ·exact absurd a2 (h6 a q a1)
    ·by_cases q : v ≤ f' + l.length - p'
     ·rw [Nat.max_eq_right q]
      exact ⟨p', h2, h4, g⟩
     ·rw [Nat.max_eq_left (by omega)]
      rcases h8 with rfl | ⟨a, a1, a2, a3⟩
      ·omega
      ·exact ⟨a, by omega, a2, a3⟩
   rw [wv_eq m]
   refine ev_some _ fun k => ?_
   rw [ice_waits.l0, if_neg (by omega), if_neg (by omega), w64 (n := (f' : Int) + l.length) (by omega) (by omega), w64 (by omega) (by omega), mx_eq]
   congr 1
   omega
 | succ d ih =>
  intro i f p v hd hi hv h
  have hil : i < l.length := by omega
  have en := nt_lt hil
  by_cases c : rd l (i : Int) = s
  ·rcases h with ⟨h1, rfl, h2⟩ | ⟨f', p', rfl, rfl, h1, h2, h3, h4, h5, h6, h7, h8⟩
   ·refine Ev.step (fun k => ?_) (ih (i + 1) i i 0 (by omega) (by omega) (by omega) (.inr ⟨i, i, rfl, rfl, by omega, by omega, by rw [en]; exact c, by rw [en]; exact c, h2, fun a a1 a2 => by omega, fun a a1 a2 => absurd a2 (h2 a a1), .inl rfl⟩))
    rw [ice_waits.l0, if_pos (by omega), if_pos (by omega), if_pos (by omega), if_pos c, if_pos h1, wsucc i (by omega)]
   ·have g : isGap l s p' (i - p') := by
     refine ⟨by omega, ?_, fun j hj1 hj2 => h6 _ (by omega) (by omega)⟩
     rw [show p' + (i - p') = i by omega, en]; exact c
    have e : mx (v : Int) (wrap64 ((i : Int) - (p' : Int))) = ((max v (i - p') : Nat) : Int) := by
     rw [w64 (by omega) (by omega), mx_eq]; omega
    refine Ev.step (fun k => ?_) (ih (i + 1) f' i (max v (i - p')) (by omega) (by omega) (by omega) (.inr ⟨f', i, rfl, rfl, by omega, by omega, h3, by rw [en]; exact c, h5, fun a a1 a2 => by omega, fun a a1 a2 => ?_, ?_⟩))
    ·rw [ice_waits.l0, if_pos (by omega), if_pos (by omega), if_pos (by omega), if_pos c, if_neg (by omega), e, wsucc i (by omega)]
    ·rcases Nat.lt_trichotomy a p' with q | q | q
     ·obtain ⟨m, m1, m2⟩ := h7 a q a2
      exact ⟨m, m1, by omega⟩
     ·subst q
      exact ⟨_, g, by omega⟩
     ·exact absurd a2 (h6 a q (by omega))
    ·by_cases q : v ≤ i - p'
     ·rw [Nat.max_eq_right q]
      exact .inr ⟨p', by omega, h4, g⟩
     ·rw [Nat.max_eq_left (by omega)]
      rcases h8 with rfl | ⟨a, a1, a2, a3⟩
      ·omega
      ·exact .inr ⟨a, by omega, a2, a3⟩
  ·have h' : winv l s (i + 1) f p v := by
    rcases h with ⟨h1, h0, h2⟩ | ⟨f', p', e1, e2, h1, h2, h3, h4, h5, h6, h7, h8⟩
    ·refine .inl ⟨h1, h0, fun a ha => ?_⟩
     by_cases q : a = i
     ·rw [q, en]; exact c
     ·exact h2 a (by omega)
    ·refine .inr ⟨f', p', e1, e2, h1, by omega, h3, h4, h5, fun a a1 a2 => ?_, h7, h8⟩
     by_cases q : a = i
     ·rw [q, en]; exact c
     ·exact h6 a a1 (by omega)
   refine Ev.step (fun k => ?_) (ih (i + 1) f p v (by omega) (by omega) hv h')
   rw [ice_waits.l0, if_pos (by omega), if_pos (by omega), if_pos (by omega), if_neg c, wsucc i (by omega)]
theorem waits_ev {l : List Int} (s : Int) (hn : 1 ≤ l.length) (hl : l.length ≤ 1000000) : Ev (fun k => ice_waits.f k l s) (wv l s) := waits_loop hn hl l.length 0 (-1) (-1) 0 (by omega) (by omega) (by omega) (.inl ⟨by omega, rfl, by omega⟩)
/-- The longest waits of the sections. -/
noncomputable def wvs (l : List Int) (n : Nat) : List Int := (List.range n).map fun s : Nat => ((wv l (s : Int) : Nat) : Int)
theorem wvs_rd {l : List Int} {n s : Nat} (h : s < n) : rd (wvs l n) (s : Int) = (wv l (s : Int) : Nat) := by
 simp [wvs, rd, List.getD_eq_getElem?_getD, h]
/-- A list can be a rota, as far as its numbers go. -/
def okL (w l : List Int) : Prop := (1 ≤ l.length ∧ l.length ≤ 100) ∧ ∀ i, i < l.length → -1 ≤ rd l (i : Int) ∧ rd l (i : Int) ≤ (w.length : Int) - 1
/-- No section waits too long. -/
def okWt (w l : List Int) : Prop := ∀ s, s < w.length → 1 ≤ wv l (s : Int) ∧ ((wv l (s : Int) : Nat) : Int) ≤ rd w (s : Int)
def rota (w l : List Int) : Prop := okL w l ∧ okWt w l
open Classical in
theorem isRota_loop {w l : List Int} (hw : w.length ≤ 5) (hn : 1 ≤ l.length) (hl : l.length ≤ 1000000) : ∀ (d i : Nat), w.length - i = d → i ≤ w.length → (∀ s, s < i → 1 ≤ wv l (s : Int) ∧ ((wv l (s : Int) : Nat) : Int) ≤ rd w (s : Int)) →
  Ev (fun k => ice_isRota.l0 k l w w.length i) (decide (okWt w l)) := by
 intro d
 induction d with
 | zero =>
  intro i hd hi h
  obtain rfl : i = w.length := by omega
  rw [decide_eq_true (show okWt w l from h)]
  refine ev_some _ fun k => ?_
  rw [ice_isRota.l0, if_neg (by omega)]
 | succ d ih =>
  intro i hd hi h
  refine Ev.step (f := fun k => (ice_waits.f k l i).bind fun t105 => ((ice_within.f 1 t105 (rd w i)).bind fun t106 => (if t106 = true then (ice_isRota.l0 k l w w.length (wrap64 ((i : Int) + 1))) else (some false)))) (fun k => ?_) (Ev.bind (waits_ev (i : Int) hn hl) ?_)
  ·rw [ice_isRota.l0, if_pos (by omega), if_pos (by omega), if_pos (by omega)]
  ·rw [within_some]
   simp only [Option.bind_some]
   by_cases c : 1 ≤ wv l (i : Int) ∧ ((wv l (i : Int) : Nat) : Int) ≤ rd w (i : Int)
   ·simp only [decide_eq_true (show 1 ≤ ((wv l (i : Int) : Nat) : Int) ∧ ((wv l (i : Int) : Nat) : Int) ≤ rd w (i : Int) from ⟨by omega, c.2⟩), if_true]
    rw [wsucc i (by omega)]
    exact ih (i + 1) (by omega) (by omega) (fun s hs => if q : s = i then q ▸ c else h s (by omega))
   ·simp only [decide_eq_false (show ¬ (1 ≤ ((wv l (i : Int) : Nat) : Int) ∧ ((wv l (i : Int) : Nat) : Int) ≤ rd w (i : Int)) from fun z => c ⟨by omega, z.2⟩), Bool.false_eq_true, if_false]
    rw [decide_eq_false (fun z => c (z i (by omega)))]
    exact Ev.now _
open Classical in
theorem ice_isRota_ev {w l : List Int} (o : okW w) (hl : l.length ≤ 9223372036854775807) : Ev (fun k => ice_isRota.f k w l) (decide (rota w l)) := by
 have hw := o.1
 have no : ¬ okL w l → Ev (fun k => ice_isRota.j0 k l true w) (decide (rota w l)) := fun h => by
  rw [decide_eq_false (fun z => h z.1)]
  refine ev_some _ fun k => ?_
  rw [ice_isRota.j0, if_pos rfl]
 by_cases c : 1 ≤ l.length ∧ l.length ≤ 100
 ·obtain ⟨b, e, hb⟩ := contains_ev (l := l) (fn := fun z0_ => ice_isRota_1.f z0_ w) (p := fun j => ¬ (-1 ≤ rd l (j : Int) ∧ rd l (j : Int) ≤ (w.length : Int) - 1)) hl (fun j hj => by
   unfold ice_isRota_1.f
   rw [within_some, w64 (by omega) (by omega)]
   simp only [Option.bind_some]
   by_cases c : -1 ≤ rd l (j : Int) ∧ rd l (j : Int) ≤ (w.length : Int) - 1 <;> simp [c])
  refine Ev.congr (f := fun k => (slices_ContainsFunc_int_int.f k l (fun z0_ => ice_isRota_1.f z0_ w)).bind fun t103 => (ice_isRota.j0 k l t103 w)) (fun k => ?_) (Ev.bind e ?_)
  ·unfold ice_isRota.f
   rw [within_some, decide_eq_true (by omega)]
   rfl
  ·cases b with
   | true =>
    obtain ⟨j, hj, h⟩ := hb.1 rfl
    exact no (fun z => h (z.2 j hj))
   | false =>
    have ok : okL w l := ⟨c, fun i hi => Decidable.not_not.1 (fun z => absurd (hb.2 ⟨i, hi, z⟩) (by decide))⟩
    have : decide (rota w l) = decide (okWt w l) := decide_eq_decide.2 ⟨fun z => z.2, fun z => ⟨ok, z⟩⟩
    rw [this]
    refine Ev.step (fun k => ?_) (isRota_loop (by omega) c.1 (by omega) w.length 0 (by omega) (by omega) (fun s hs => by omega))
    rw [ice_isRota.j0, if_neg (by decide)]
    rfl
 ·refine Ev.congr (fun k => ?_) (no (fun z => c z.1))
  unfold ice_isRota.f
  rw [within_some, decide_eq_false (by omega)]
  rfl
open Classical in
/-- What IsRota tells. -/
noncomputable def isRotaR (w l : List Int) : Bool × Int := if okW w then (decide (rota w l), 0) else (false, 80)
theorem ice_IsRota_ev (w l : List Int) (hl : l.length ≤ 9223372036854775807) : Ev (fun k => ice_IsRota.f k w l) (isRotaR w l) := by
 classical
 refine Ev.bind (ice_Valid_ev w) ?_
 unfold isRotaR
 by_cases o : okW w
 ·simp only [decide_eq_true o, if_true, if_pos o]
  exact Ev.bind (ice_isRota_ev o hl) (Ev.now _)
 ·simp only [decide_eq_false o, Bool.false_eq_true, if_false, if_neg o]
  exact Ev.now _
/-- The sum of 840 divided by each want. -/
def dsum : List Int → Int
 | [] => 0
 | a :: w => 840 / a + dsum w
theorem dsum_bd : ∀ {w : List Int}, (∀ a ∈ w, 1 ≤ a ∧ a ≤ 8) → 105 * (w.length : Int) ≤ dsum w ∧ dsum w ≤ 840 * (w.length : Int)
 | [], _ => by simp [dsum]
 | a :: w, h => by
  have h1 := h a (by simp)
  have h2 := dsum_bd (w := w) (fun b hb => h b (by simp [hb]))
  have h3 : 105 ≤ 840 / a := by rw [Int.le_ediv_iff_mul_le (by omega)]; omega
  have h4 : 840 / a ≤ 840 := Int.ediv_le_self _ (by omega)
  simp only [dsum, List.length_cons]
  omega
theorem okW_all {w : List Int} (o : okW w) : ∀ a ∈ w, 1 ≤ a ∧ a ≤ 8 := fun a ha => okW_mem o ha
/-- What both tell of a sum: the fraction in lowest terms. -/
def densR (n : Int) : Int × Int × Int := (n / (Int.gcd n 840 : Int), 840 / (Int.gcd n 840 : Int), 0)
theorem gcd_loop (x : Int) (hx : 1 ≤ x) (hx2 : x ≤ 1000000) : ∀ (k : Nat) (a b : Int), 0 ≤ a → 0 ≤ b → (a ≠ 0 ∨ b ≠ 0) → b < k → Int.gcd a b = Int.gcd x 840 → ice_Density.l1 k x a b = some (densR x) ∧ dropperref08_Density.l1 k x a b = some (densR x)
 | 0, a, b, ha, hb, h, hk, _ => by omega
 | k + 1, a, b, ha, hb, h, hk, hg => by
  by_cases e : b = 0
  ·subst e
   have ha' : a ≠ 0 := by omega
   have ga : a = (Int.gcd x 840 : Int) := by rw [← hg, Int.gcd_zero_right, Int.natAbs_of_nonneg ha]
   have dx : a ∣ x := by rw [ga]; exact Int.gcd_dvd_left ..
   have da : a ∣ 840 := by rw [ga]; exact Int.gcd_dvd_right ..
   have l1 : 0 ≤ x / a := Int.ediv_nonneg (by omega) ha
   have l2 : x / a ≤ x := Int.ediv_le_self _ (by omega)
   have l3 : 0 ≤ 840 / a := Int.ediv_nonneg (by omega) ha
   have l4 : 840 / a ≤ 840 := Int.ediv_le_self _ (by omega)
   have r : some (wrap64 (Int.tdiv x a), wrap64 (Int.tdiv (840 : Int) a), (0 : Int)) = some (densR x) := by
    unfold densR
    rw [← ga, Int.tdiv_eq_ediv_of_nonneg (by omega), Int.tdiv_eq_ediv_of_nonneg (by omega), w64 (by omega) (by omega), w64 (by omega) (by omega)]
   refine ⟨?_, ?_⟩
   ·rw [ice_Density.l1, if_pos rfl, if_neg ha']; exact r
   ·rw [dropperref08_Density.l1, if_pos rfl, if_neg ha']; exact r
  ·have hm : 0 ≤ a.tmod b := Int.tmod_nonneg _ ha
   have hl : a.tmod b < b := Int.tmod_lt_of_pos _ (by omega)
   have hg2 : Int.gcd b (a.tmod b) = Int.gcd a b := by
    rw [Int.tmod_eq_emod_of_nonneg ha]
    obtain ⟨m, rfl⟩ := Int.eq_ofNat_of_zero_le ha
    obtain ⟨j, rfl⟩ := Int.eq_ofNat_of_zero_le hb
    show Nat.gcd j (m % j) = Nat.gcd m j
    rw [Nat.gcd_comm j, ← Nat.gcd_rec, Nat.gcd_comm]
   obtain ⟨i1, i2⟩ := gcd_loop x hx hx2 k b (a.tmod b) hb hm (Or.inl e) (by omega) (hg2.trans hg)
   refine ⟨?_, ?_⟩
   ·rw [ice_Density.l1, if_neg e]; exact i1
   ·rw [dropperref08_Density.l1, if_neg e]; exact i2
theorem dens_end {x : Int} (hx : 1 ≤ x) (hx2 : x ≤ 1000000) : Ev (fun k => ice_Density.l1 k x x 840) (densR x) ∧ Ev (fun k => dropperref08_Density.l1 k x x 840) (densR x) :=
 ⟨⟨841, fun k hk => (gcd_loop x hx hx2 k x 840 (by omega) (by omega) (by omega) (by omega) rfl).1⟩, ⟨841, fun k hk => (gcd_loop x hx hx2 k x 840 (by omega) (by omega) (by omega) (by omega) rfl).2⟩⟩
theorem dens_loop {w : List Int} (o : okW w) : ∀ (d i : Nat) (x : Int), w.length - i = d → i ≤ w.length → 0 ≤ x → x ≤ 840 * (i : Int) → x + dsum (w.drop i) = dsum w →
  Ev (fun k => ice_Density.l0 k x w w.length i) (densR (dsum w)) ∧ Ev (fun k => dropperref08_Density.l0 k w x i) (densR (dsum w)) := by
 have hlen := o.1
 have bd := dsum_bd (okW_all o)
 intro d
 induction d with
 | zero =>
  intro i x hd hi h0 h1 e
  obtain rfl : i = w.length := by omega
  rw [List.drop_length] at e
  obtain rfl : x = dsum w := by simpa [dsum] using e
  obtain ⟨e1, e2⟩ := dens_end (x := dsum w) (by omega) (by omega)
  refine ⟨Ev.step (fun k => ?_) e1, Ev.step (fun k => ?_) e2⟩
  ·rw [ice_Density.l0, if_neg (by omega)]
  ·rw [dropperref08_Density.l0, if_neg (by omega)]
 | succ d ih =>
  intro i x hd hi h0 h1 e
  have hw8 := o.2 i (by omega)
  rw [rd_drop w i (by omega)] at e
  simp only [dsum] at e
  have q1 : 0 ≤ 840 / rd w (i : Int) := Int.ediv_nonneg (by omega) (by omega)
  have q2 : 840 / rd w (i : Int) ≤ 840 := Int.ediv_le_self _ (by omega)
  obtain ⟨e1, e2⟩ := ih (i + 1) (x + 840 / rd w (i : Int)) (by omega) (by omega) (by omega) (by omega) (by omega)
  refine ⟨Ev.step (fun k => ?_) e1, Ev.step (fun k => ?_) e2⟩
  ·rw [ice_Density.l0, if_pos (by omega), if_pos (by omega), if_pos (by omega), if_neg (by omega), Int.tdiv_eq_ediv_of_nonneg (by omega), w64 (n := 840 / rd w (i : Int)) (by omega) (by omega), w64 (n := x + 840 / rd w (i : Int)) (by omega) (by omega), wsucc i (by omega)]
  ·rw [dropperref08_Density.l0, if_pos (by omega), if_pos (by omega), if_neg (by omega), Int.tdiv_eq_ediv_of_nonneg (by omega), w64 (n := 840 / rd w (i : Int)) (by omega) (by omega), w64 (n := x + 840 / rd w (i : Int)) (by omega) (by omega), wsucc i (by omega)]
open Classical in
/-- What Density tells. -/
noncomputable def densityR (w : List Int) : Int × Int × Int := if okW w then densR (dsum w) else (0, 0, 80)
theorem ice_Density_ev (w : List Int) : Ev (fun k => ice_Density.f k w) (densityR w) := by
 classical
 refine Ev.bind (ice_Valid_ev w) ?_
 unfold densityR
 by_cases o : okW w
 ·simp only [decide_eq_true o, if_true, if_pos o]
  exact (dens_loop o w.length 0 0 (by omega) (by omega) (by omega) (by omega) (by simp)).1
 ·simp only [decide_eq_false o, Bool.false_eq_true, if_false, if_neg o]
  exact Ev.now _
open Classical in
noncomputable def askedR (w l : List Int) : Int := if okW w then (if rota w l then 0 else 2) else 80
theorem ice_asked_ev (w l : List Int) (hl : l.length ≤ 9223372036854775807) : Ev (fun k => ice_asked.f k w l) (askedR w l) := by
 classical
 refine Ev.bind (ice_Valid_ev w) ?_
 unfold askedR
 by_cases o : okW w
 ·simp only [decide_eq_true o, if_true, if_pos o]
  refine Ev.bind (ice_isRota_ev o hl) ?_
  by_cases h : rota w l
  ·simp only [decide_eq_true h, if_true, if_pos h]; exact Ev.now _
  ·simp only [decide_eq_false h, Bool.false_eq_true, if_false, if_neg h]; exact Ev.now _
 ·simp only [decide_eq_false o, Bool.false_eq_true, if_false, if_neg o]
  exact Ev.now _
theorem askedR_ok {w l : List Int} (h : askedR w l = 0) : okW w ∧ rota w l := by
 unfold askedR at h
 by_cases o : okW w
 ·rw [if_pos o] at h
  by_cases r : rota w l
  ·exact ⟨o, r⟩
  ·rw [if_neg r] at h; exact absurd h (by decide)
 ·rw [if_neg o] at h; exact absurd h (by decide)
theorem ice_waits_l0 {l w : List Int} (hn : 1 ≤ l.length) (hl : l.length ≤ 1000000) (hw : w.length ≤ 5) : ∀ (d s : Nat), w.length - s = d → s ≤ w.length → Ev (fun k => ice_Waits.l0 k l (wvs l s) w.length s) (wvs l w.length, 0) := by
 intro d
 induction d with
 | zero =>
  intro s hd hs
  obtain rfl : s = w.length := by omega
  refine ev_some _ fun k => ?_
  rw [ice_Waits.l0, if_neg (by omega)]
 | succ d ih =>
  intro s hd hs
  have e := ih (s + 1) (by omega) (by omega)
  have u : wvs l (s + 1) = wvs l s ++ [((wv l (s : Int) : Nat) : Int)] := by simp [wvs, List.range_succ]
  rw [u] at e
  refine Ev.step (f := fun k => (ice_waits.f k l s).bind fun t102 => (if (wvs l s).length < 17592186044416 then (ice_Waits.l0 k l ((wvs l s) ++ [t102]) w.length (wrap64 ((s : Int) + 1))) else (none))) (fun k => ?_) (Ev.bind (waits_ev (s : Int) hn hl) ?_)
  ·rw [ice_Waits.l0, if_pos (by omega)]
  ·have hw2 : (wvs l s).length < 17592186044416 := by simp [wvs]; omega
   simp only [if_pos hw2]
   rw [wsucc s (by omega)]
   exact e
/-- What Waits tells. -/
noncomputable def waitsR (w l : List Int) : List Int × Int := if askedR w l = 0 then (wvs l w.length, 0) else ([], askedR w l)
theorem ice_Waits_ev (w l : List Int) (hl : l.length ≤ 9223372036854775807) : Ev (fun k => ice_Waits.f k w l) (waitsR w l) := by
 refine Ev.bind (ice_asked_ev w l hl) ?_
 unfold waitsR
 by_cases c : askedR w l = 0
 ·obtain ⟨o, ⟨hn, _⟩, _⟩ := askedR_ok c
  simp only [if_pos c]
  exact ice_waits_l0 hn.1 (by omega) o.1.2 w.length 0 (by omega) (by omega)
 ·simp only [if_neg c]
  exact Ev.now _
theorem rd_set2 (x : List Int) {i j : Nat} (v : Int) (hi : i < x.length) (hj : j < x.length) : rd (x.set i v) (j : Int) = if j = i then v else rd x (j : Int) := by
 simp only [rd, List.getD_eq_getElem?_getD, Int.toNat_natCast, List.getElem?_set]
 by_cases e : i = j
 ·subst e; simp [hi]
 ·rw [if_neg e, if_neg (fun h => e h.symm)]
theorem ext_rd {x y : List Int} (h : x.length = y.length) (e : ∀ j, j < x.length → rd x (j : Int) = rd y (j : Int)) : x = y := by
 refine List.ext_getElem h fun i h1 h2 => ?_
 have := e i h1
 rwa [rd_get h1, rd_get h2] at this
theorem rd_rev {l : List Int} {j : Nat} (h : j < l.length) : rd l.reverse (j : Int) = rd l ((l.length - 1 - j : Nat) : Int) := by
 rw [rd_get (by simpa using h), rd_get (by omega), List.getElem_reverse]
theorem rev_loop {l : List Int} (hl : l.length ≤ 1000000) : ∀ (d i : Nat) (x : List Int), l.length - i = d → 2 * i ≤ l.length + 1 → x.length = l.length → (∀ j, j < l.length → rd x (j : Int) = if j < i ∨ l.length - 1 - j < i then rd l ((l.length - 1 - j : Nat) : Int) else rd l (j : Int)) →
  Ev (fun k => slices_Reverse_int_int.l0 k x i ((l.length : Int) - 1 - i)) l.reverse := by
 intro d
 induction d with
 | zero =>
  intro i x hd hi hx h
  refine ev_some _ fun k => ?_
  rw [slices_Reverse_int_int.l0, if_neg (by omega)]
  congr 1
  refine ext_rd (by simpa using hx) fun j hj => ?_
  rw [h j (by omega), rd_rev (by omega), if_pos (by omega)]
 | succ d ih =>
  intro i x hd hi hx h
  by_cases c : (i : Int) < (l.length : Int) - 1 - i
  ·have e1 : ((l.length : Int) - 1 - i) = ((l.length - 1 - i : Nat) : Int) := by omega
   refine Ev.step (fun k => ?_) (ih (i + 1) ((x.set i (rd x ((l.length - 1 - i : Nat) : Int))).set (l.length - 1 - i) (rd x (i : Int))) (by omega) (by omega) (by simpa using hx) (fun j hj => ?_))
   ·rw [slices_Reverse_int_int.l0, if_pos c, if_pos (by omega), if_pos (by omega), if_pos (by omega), if_pos (by omega), wsucc i (by omega), w64 (by omega) (by omega), e1, Int.toNat_natCast, Int.toNat_natCast]
    congr 1
    omega
   ·rw [rd_set2 _ _ (by rw [List.length_set]; omega) (by rw [List.length_set]; omega)]
    by_cases q1 : j = l.length - 1 - i
    ·rw [if_pos q1, h i (by omega), if_neg (by omega), if_pos (by omega)]
     congr 1; omega
    ·rw [if_neg q1, rd_set2 _ _ (by omega) (by omega)]
     by_cases q2 : j = i
     ·rw [if_pos q2, h _ (by omega), if_neg (by omega), if_pos (by omega), q2]
     ·rw [if_neg q2, h j hj]
      by_cases q3 : j < i ∨ l.length - 1 - j < i
      ·rw [if_pos q3, if_pos (by omega)]
      ·rw [if_neg q3, if_neg (by omega)]
  ·refine ev_some _ fun k => ?_
   rw [slices_Reverse_int_int.l0, if_neg c]
   congr 1
   refine ext_rd (by simpa using hx) fun j hj => ?_
   rw [h j (by omega), rd_rev (by omega)]
   by_cases q3 : j < i ∨ l.length - 1 - j < i
   ·rw [if_pos q3]
   ·rw [if_neg q3]; congr 1; omega
/-- What Turned tells. -/
noncomputable def turnedR (w l : List Int) : List Int × Int := if askedR w l = 0 then (l.reverse, 0) else ([], askedR w l)
theorem ice_Turned_ev (w l : List Int) (hl : l.length ≤ 9223372036854775807) : Ev (fun k => ice_Turned.f k w l) (turnedR w l) := by
 refine Ev.bind (ice_asked_ev w l hl) ?_
 unfold turnedR
 by_cases c : askedR w l = 0
 ·obtain ⟨o, ⟨hn, _⟩, _⟩ := askedR_ok c
  simp only [if_pos c]
  unfold slices_Clone_int_int.f
  simp only [Option.bind_some, List.nil_append, List.length_nil]
  rw [if_pos (by omega)]
  simp only [Option.bind_some]
  have e := rev_loop (l := l) (by omega) l.length 0 l (by omega) (by omega) rfl (fun j hj => by rw [if_neg (by omega)])
  refine Ev.bind (g := fun k => slices_Reverse_int_int.f k l) (Ev.congr (fun k => ?_) e) (Ev.now _)
  unfold slices_Reverse_int_int.f
  rw [w64 (by omega) (by omega)]
  congr 1
  omega
 ·simp only [if_neg c]
  exact Ev.now _
theorem good_congr {w s : List Int} (h : okSt w s) {i n : Nat} (e : ∀ t, okSt w t → K w i t = K w n t) (c : Int) : good w i s c = good w n s c := by
 unfold good
 cases z : nx w s c with
 | none => rfl
 | some t => exact e t (nx_ok h z)
theorem chsFrom_congr {w s : List Int} (h : okSt w s) {i n : Nat} (e : ∀ t, okSt w t → K w i t = K w n t) : ∀ m, chsFrom w i s m = chsFrom w n s m
 | 0 => rfl
 | m + 1 => by rw [chsFrom, chsFrom, chsFrom_congr h e m, good_congr h e]
/-- The first choices for so many nights. -/
def fst (w : List Int) : Nat → List Int → List Int
 | 0, _ => []
 | k + 1, s => match chsFrom w k s (w.length + 1) with
  | [] => []
  | c :: _ => match nx w s c with
   | none => []
   | some t => c :: fst w k t
theorem fst_step {w s : List Int} (h : okSt w s) {k : Nat} (hk : K w (k + 1) s = true) : ∃ c L t, chsFrom w k s (w.length + 1) = c :: L ∧ nx w s c = some t ∧ okSt w t ∧ K w k t = true ∧ fst w (k + 1) s = c :: fst w k t := by
 have g : ∃ c, c ∈ chsFrom w k s (w.length + 1) := by
  obtain ⟨c, t, h1, h2, h3, h4⟩ := K_succ.1 hk
  rw [chsOf_from]
  exact ⟨c, List.mem_filter.2 ⟨mem_chs.2 ⟨h1, h2⟩, good_iff.2 ⟨t, h3, h4⟩⟩⟩
 cases z : chsFrom w k s (w.length + 1) with
 | nil => rw [z] at g; obtain ⟨c, hc⟩ := g; cases hc
 | cons c L =>
  have hc : c ∈ chsOf w k s := by rw [← chsOf_from, z]; simp
  obtain ⟨t, h3, h4⟩ := good_iff.1 (List.mem_filter.1 hc).2
  refine ⟨c, L, t, rfl, h3, nx_ok h h3, h4, ?_⟩
  rw [fst, z]
  simp only [h3]
/-- From m nights on nothing changes, or no more are asked for. -/
def enough (w : List Int) (n m : Nat) : Prop := m ≤ n ∧ (m = n ∨ stable w m)
theorem enough_eq {w : List Int} {n m : Nat} (h : enough w n m) {a : Nat} (ha : a ≤ n) {s : List Int} (hs : okSt w s) : K w (min a m) s = K w a s := by
 rcases h.2 with q | q
 ·rw [show min a m = a by omega]
 ·by_cases c : a ≤ m
  ·rw [show min a m = a by omega]
  ·rw [show min a m = m by omega]; exact (stable_eq q (by omega) hs).symm
theorem rowL {w : List Int} {m i : Nat} (h : i < m + 1) : rd_L3 ((List.range (m + 1)).map (setL w)) (i : Int) = setL w i := by
 unfold rd_L3
 rw [Int.toNat_natCast, List.getD_eq_getElem?_getD, List.getElem?_map, List.getElem?_range h]
 rfl
theorem min_idx {α : Type} {f : Nat → α} {n m : Nat} (hm : m ≤ n) (hn : n ≤ 1000000) {a : Nat} (ha : a ≤ n) : mn (a : Int) (wrap64 ((((List.range (m + 1)).map f).length : Int) - 1)) = ((min a m : Nat) : Int) := by
 rw [List.length_map, List.length_range, w64 (by omega) (by omega), mn_eq]
 omega
theorem first_l1 {w : List Int} (o : okW w) {n m : Nat} (hn : n ≤ 200) (em : enough w n m) : ∀ (r : Nat) (s x : List Int), r ≤ n → okSt w s → K w r s = true → x.length + r ≤ 200 →
  Ev (fun k => ice_First.l1 k ((List.range (m + 1)).map (setL w)) (numL w s) x ((r : Int) - 1) w (bys w) (prodI w)) (x ++ fst w r s, 0) := by
 obtain ⟨b1, b2⟩ := prodI_le o
 have hlen := o.1.2
 intro r
 induction r with
 | zero =>
  intro s x hr hs hk hx
  refine ev_some _ fun k => ?_
  rw [ice_First.l1, if_neg (by omega)]
  simp [fst]
 | succ r ih =>
  intro s x hr hs hk hx
  obtain ⟨c, L, t, h1, h2, h3, h4, h5⟩ := fst_step hs hk
  have hidx := min_idx (f := setL w) em.1 (by omega) (a := r) (by omega)
  have hch := choices_ev o hs (min r m)
  have ec : chsOf w (min r m) s = c :: L := by
   rw [← chsOf_from, chsFrom_congr hs (n := r) (fun t ht => enough_eq em (by omega) ht), h1]
  rw [ec] at hch
  obtain ⟨e1, ot, t1, t2⟩ := tn_bd hs h2
  have ht := tonight_ev o hs (prodI w) c
  rw [e1] at ht
  refine Ev.step (f := fun k => (ice_game_choices.f k w (bys w) (prodI w) (numL w s) (setL w (min r m))).bind fun bt128 => (if 0 < (bt128.1.length : Int) then (if x.length < 17592186044416 then ((ice_game_tonight.f k w (bys w) bt128.2 (numL w s) (rd bt128.1 0)).bind fun bt136 => (ice_First.l1 k ((List.range (m + 1)).map (setL w)) bt136.1 (x ++ [rd bt128.1 0]) (wrap64 ((r : Int) - 1)) w (bys w) bt136.2)) else (none)) else (none))) (fun k => ?_) (Ev.bind hch ?_)
  ·rw [ice_First.l1, show ((r + 1 : Nat) : Int) - 1 = (r : Int) by omega, if_pos (by omega), hidx, if_pos (by omega), if_pos (by rw [List.length_map, List.length_range]; omega), rowL (by omega)]
  ·simp only [if_pos (show (0 : Int) < ((c :: L).length : Int) by simp), if_pos (show x.length < 17592186044416 by omega)]
   have r0 : rd (c :: L) 0 = c := rfl
   rw [r0]
   refine Ev.bind ht ?_
   rw [h5, w64 (by omega) (by omega), show x ++ c :: fst w r t = (x ++ [c]) ++ fst w r t by simp]
   exact ih t (x ++ [c]) (by omega) h3 h4 (by simp; omega)
open Classical in
theorem first_j1 {w : List Int} (o : okW w) {n m : Nat} (hn : n ≤ 200) (em : enough w n m) : Ev (fun k => ice_First.j1 k n ((List.range (m + 1)).map (setL w)) w (bys w) (prodI w)) (if K w n w = true then (fst w n w, 0) else ([], 5)) := by
 obtain ⟨b1, b2⟩ := prodI_le o
 obtain ⟨ow, ew⟩ := num_first (okW_pos o)
 have hidx := min_idx (f := setL w) em.1 (by omega) (a := n) (by omega)
 have hf : ice_game_first.f w (bys w) (prodI w) = some (numL w w, prodI w) := by
  unfold ice_game_first.f
  rw [w64 (by omega) (by omega), ew]
 have hk := enough_eq em (a := n) (by omega) ow
 by_cases c : K w n w = true
 ·rw [if_pos c]
  have e := first_l1 o hn em n w [] (by omega) ow c (by simp; omega)
  rw [List.nil_append] at e
  refine Ev.step (fun k => ?_) e
  rw [ice_First.j1, hf]
  simp only [Option.bind_some]
  rw [hidx, if_pos (by omega), if_pos (by rw [List.length_map, List.length_range]; omega), rowL (by omega), if_pos (by omega), if_pos (by rw [setL_len]; omega), setL_rd ow, hk, c, if_pos rfl, w64 (by omega) (by omega)]
 ·rw [if_neg c]
  refine ev_some _ fun k => ?_
  rw [ice_First.j1, hf]
  simp only [Option.bind_some]
  rw [hidx, if_pos (by omega), if_pos (by rw [List.length_map, List.length_range]; omega), rowL (by omega), if_pos (by omega), if_pos (by rw [setL_len]; omega), setL_rd ow, hk, if_neg c]
theorem first_l0 {w : List Int} (o : okW w) {n : Nat} (hn : n ≤ 200) {r : List Int × Int} (fin : ∀ m, enough w n m → Ev (fun k => ice_First.j1 k n ((List.range (m + 1)).map (setL w)) w (bys w) (prodI w)) r) : ∀ (d i : Nat), n - i = d → i ≤ n →
  Ev (fun k => ice_First.l0 k n ((List.range (i + 1)).map (setL w)) w (bys w) (prodI w)) r := by
 intro d
 induction d with
 | zero =>
  intro i hd hi
  obtain rfl : i = n := by omega
  refine Ev.step (fun k => ?_) (fin i ⟨Nat.le_refl _, .inl rfl⟩)
  rw [ice_First.l0, if_neg (by rw [List.length_map, List.length_range]; omega)]
 | succ d ih =>
  intro i hd hi
  have hl : wrap64 ((((List.range (i + 1)).map (setL w)).length : Int) - 1) = (i : Int) := by
   rw [List.length_map, List.length_range, w64 (by omega) (by omega)]; omega
  refine Ev.step (f := fun k => (ice_game_before.f k w (bys w) (prodI w) (setL w i)).bind fun bt115 => ((slices_Equal_bool_bool.f k bt115.1 (setL w i)).bind fun t119 => (if t119 = true then (ice_First.j1 k n ((List.range (i + 1)).map (setL w)) w (bys w) bt115.2) else (if ((List.range (i + 1)).map (setL w)).length < 5864062014805 then (ice_First.l0 k n (((List.range (i + 1)).map (setL w)) ++ [bt115.1]) w (bys w) bt115.2) else (none))))) (fun k => ?_) (Ev.bind (before_ev o i) (Ev.bind (setEq_ev o (i + 1) i) ?_))
  ·rw [ice_First.l0, if_pos (by rw [List.length_map, List.length_range]; omega), hl, if_pos (by omega), if_pos (by rw [List.length_map, List.length_range]; omega), rowL (by omega)]
  ·by_cases c : setL w (i + 1) = setL w i
   ·simp only [decide_eq_true c, if_true]
    exact fin i ⟨hi, .inr ((setL_stable (okW_pos o)).1 c)⟩
   ·simp only [decide_eq_false c, Bool.false_eq_true, if_false]
    have e := ih (i + 1) (by omega) (by omega)
    rw [List.range_succ (n := i + 1), List.map_append] at e
    refine Ev.congr (fun k => ?_) e
    rw [if_pos (by rw [List.length_map, List.length_range]; omega)]
    rfl
open Classical in
/-- What First tells. -/
noncomputable def firstR (w : List Int) (n : Int) : List Int × Int := if okW w then (if 0 ≤ n ∧ n ≤ 200 then (if K w n.toNat w = true then (fst w n.toNat w, 0) else ([], 5)) else ([], 2)) else ([], 80)
theorem ice_First_ev (w : List Int) (n : Int) : Ev (fun k => ice_First.f k w n) (firstR w n) := by
 classical
 refine Ev.bind (ice_Valid_ev w) ?_
 unfold firstR
 by_cases o : okW w
 ·simp only [decide_eq_true o, if_true, if_pos o]
  rw [within_some]
  simp only [Option.bind_some]
  by_cases q : 0 ≤ n ∧ n ≤ 200
  ·rw [if_pos q]
   simp only [decide_eq_true q, if_true]
   refine Ev.bind (gameOf_ev o) ?_
   rw [all_some o]
   simp only [Option.bind_some]
   have e := first_l0 o (n := n.toNat) (by omega) (fun m em => first_j1 o (by omega) em) n.toNat 0 (by omega) (by omega)
   rw [show ((n.toNat : Nat) : Int) = n by omega] at e
   exact e
  ·rw [if_neg q]
   simp only [decide_eq_false q, Bool.false_eq_true, if_false]
   exact Ev.now _
 ·simp only [decide_eq_false o, Bool.false_eq_true, if_false, if_neg o]
  exact Ev.now _
theorem rdc0 (a : Int) (w : List Int) : rd (a :: w) ((0 : Nat) : Int) = a := by simp [rd]
theorem rdcs (a : Int) (w : List Int) (i : Nat) : rd (a :: w) ((i + 1 : Nat) : Int) = rd w (i : Int) := by simp [rd]
theorem nx_iff : ∀ {w s : List Int} {c : Int} {t : List Int}, s.length = w.length → (nx w s c = some t ↔ t.length = w.length ∧ ∀ i, i < w.length → rd t (i : Int) = (if (i : Int) = c then rd w (i : Int) else rd s (i : Int) - 1) ∧ rd t (i : Int) ≠ 0)
 | [], s, c, t, h => by
  obtain rfl : s = [] := List.eq_nil_of_length_eq_zero h
  constructor
  ·intro e
   have : t = [] := by simpa [nx] using e.symm
   subst this
   exact ⟨rfl, fun i hi => by simp at hi⟩
  ·rintro ⟨e, _⟩
   obtain rfl : t = [] := List.eq_nil_of_length_eq_zero e
   rfl
 | a :: w, [], c, t, h => by simp at h
 | a :: w, x :: s, c, t, h => by
  have hl : s.length = w.length := by simpa using h
  have hc : ∀ i : Nat, (((i + 1 : Nat) : Int) = c ↔ (i : Int) = c - 1) := fun i => by omega
  rw [nx]
  by_cases hv : (if c = 0 then a else x - 1) = 0
  ·rw [if_pos hv]
   constructor
   ·intro e; cases e
   ·rintro ⟨_, e⟩
    have := e 0 (by simp)
    rw [rdc0 a, rdc0 x] at this
    obtain ⟨e1, e2⟩ := this
    rw [e1] at e2
    have e3 : (((0 : Nat) : Int) = c) = (c = 0) := propext ⟨fun z => by omega, fun z => by omega⟩
    simp only [e3] at e2
    exact absurd hv e2
  ·rw [if_neg hv]
   cases e : nx w s (c - 1) with
   | none =>
    constructor
    ·intro z; simp at z
    ·rintro ⟨l, z⟩
     exfalso
     cases t with
     | nil => simp at l
     | cons y t =>
      have : nx w s (c - 1) = some t := (nx_iff hl).2 ⟨by simpa using l, fun i hi => by
       have := z (i + 1) (by simp; omega)
       rw [rdcs, rdcs, rdcs] at this
       simp only [hc] at this
       exact this⟩
      rw [e] at this
      cases this
   | some t' =>
    obtain ⟨l', z'⟩ := (nx_iff hl).1 e
    have e3 : (((0 : Nat) : Int) = c) = (c = 0) := propext ⟨fun z => by omega, fun z => by omega⟩
    constructor
    ·intro z
     have z : (if c = 0 then a else x - 1) :: t' = t := by simpa using z
     subst z
     refine ⟨by simp [l'], fun i hi => ?_⟩
     cases i with
     | zero => rw [rdc0, rdc0, rdc0]; simp only [e3]; exact ⟨trivial, hv⟩
     | succ i =>
      rw [rdcs, rdcs, rdcs]
      simp only [hc]
      exact z' i (by simp at hi; omega)
    ·rintro ⟨l, z⟩
     cases t with
     | nil => simp at l
     | cons y t =>
      have h0 := z 0 (by simp)
      rw [rdc0, rdc0, rdc0] at h0
      simp only [e3] at h0
      have ht : t' = t := by
       refine ext_rd (by rw [l']; simp at l; exact l.symm) fun i hi => ?_
       have := z (i + 1) (by simp; omega)
       rw [rdcs, rdcs, rdcs] at this
       simp only [hc] at this
       rw [this.1, (z' i (by omega)).1]
      simp [ht, h0.1]
/-- The state behind a night. -/
def nxt (w s : List Int) (c : Int) : List Int := (List.range w.length).map fun i : Nat => if (i : Int) = c then rd w (i : Int) else rd s (i : Int) - 1
theorem nxt_rd {w s : List Int} {c : Int} {i : Nat} (h : i < w.length) : rd (nxt w s c) (i : Int) = if (i : Int) = c then rd w (i : Int) else rd s (i : Int) - 1 := by
 rw [rd_get (by simp [nxt]; exact h)]
 simp [nxt]
theorem nxt_len (w s : List Int) (c : Int) : (nxt w s c).length = w.length := by simp [nxt]
theorem nx_some {w s : List Int} {c : Int} (h : s.length = w.length) (h0 : ∀ i, i < w.length → rd (nxt w s c) (i : Int) ≠ 0) : nx w s c = some (nxt w s c) := (nx_iff h).2 ⟨nxt_len _ _ _, fun i hi => ⟨nxt_rd hi, h0 i hi⟩⟩
theorem nx_nxt {w s t : List Int} {c : Int} (h : s.length = w.length) (e : nx w s c = some t) : t = nxt w s c := by
 obtain ⟨l, z⟩ := (nx_iff h).1 e
 refine ext_rd (by rw [l, nxt_len]) fun i hi => ?_
 rw [(z i (by omega)).1, nxt_rd (by omega)]
/-- More time left, and greater wants, are never worse. -/
theorem K_mono {w w' : List Int} (hl : w'.length = w.length) (hw : ∀ i, i < w.length → rd w (i : Int) ≤ rd w' (i : Int)) : ∀ {k : Nat} {s s' : List Int}, okSt w s → okSt w' s' → (∀ i, i < w.length → rd s (i : Int) ≤ rd s' (i : Int)) → K w k s = true → K w' k s' = true
 | 0, _, _, _, _, _, _ => rfl
 | k + 1, s, s', h, h', hs, e => by
  obtain ⟨c, t, h1, h2, h3, h4⟩ := K_succ.1 e
  have ls := okSt_len h
  have ls' := okSt_len h'
  have ot := nx_ok h h3
  have et := nx_nxt ls h3
  have hle : ∀ i, i < w.length → rd t (i : Int) ≤ rd (nxt w' s' c) (i : Int) := fun i hi => by
   rw [et, nxt_rd hi, nxt_rd (by omega)]
   have := hw i hi
   have := hs i hi
   split <;> omega
  have h5 : nx w' s' c = some (nxt w' s' c) := nx_some ls' fun i hi => by
   have := (okSt_iff.1 ot).2 i (by omega)
   have := hle i (by omega)
   omega
  exact K_succ.2 ⟨c, _, h1, by omega, h5, K_mono hl hw ot (nx_ok h' h5) hle h4⟩
/-- Scraping whatever section is no worse than scraping none. -/
theorem K_some {w s t : List Int} {k : Nat} (h : okSt w s) (e : nx w s (-1) = some t) (hk : K w k t = true) {c : Int} (h0 : 0 ≤ c) (h1 : c < w.length) : nx w s c = some (nxt w s c) ∧ K w k (nxt w s c) = true := by
 have ls := okSt_len h
 have ot := nx_ok h e
 have et := nx_nxt ls e
 have hp := okSt_pos h
 have hle : ∀ i, i < w.length → rd t (i : Int) ≤ rd (nxt w s c) (i : Int) := fun i hi => by
  rw [et, nxt_rd hi, nxt_rd hi, if_neg (by omega)]
  have := (okSt_iff.1 h).2 i hi
  split <;> omega
 have h5 : nx w s c = some (nxt w s c) := nx_some ls fun i hi => by
  have := (okSt_iff.1 ot).2 i hi
  have := hle i hi
  omega
 exact ⟨h5, K_mono rfl (fun i hi => Int.le_refl _) ot (nx_ok h h5) hle hk⟩
/-- For ever. -/
theorem K_ever {w s : List Int} (o : okW w) (h : okSt w s) (e : K w (inf w) s = true) (n : Nat) : K w n s = true := by
 rcases Nat.le_total n (inf w) with z | z
 ·exact K_le z e
 ·rw [inf_eq o z h]; exact e
/-- How many nights the sections need in k nights. -/
def needS : List Int → List Int → Int → Int
 | a :: w, x :: s, k => (k + a - x) / a + needS w s k
 | _, _, _ => 0
theorem needS_zero : ∀ {w s : List Int}, okSt w s → needS w s 0 = 0
 | [], [], _ => rfl
 | a :: w, x :: s, h => by
  rw [needS, needS_zero h.2, Int.ediv_eq_zero_of_lt (by have := h.1; omega) (by have := h.1; omega)]
  rfl
 | [], _ :: _, h => h.elim
 | _ :: _, [], h => h.elim
theorem needS_step {k : Int} (hk : 0 ≤ k) : ∀ {w s t : List Int} {c : Int}, okSt w s → nx w s c = some t → needS w s (k + 1) ≤ needS w t k + (if 0 ≤ c then 1 else 0)
 | [], [], t, c, _, e => by
  have : t = [] := by simpa [nx] using e.symm
  subst this
  simp only [needS]
  split <;> omega
 | a :: w, x :: s, t, c, h, e => by
  obtain ⟨⟨hx, hxa⟩, h'⟩ := h
  rw [nx] at e
  by_cases hv : (if c = 0 then a else x - 1) = 0
  ·rw [if_pos hv] at e; cases e
  ·rw [if_neg hv] at e
   cases e2 : nx w s (c - 1) with
   | none => rw [e2] at e; cases e
   | some t' =>
    rw [e2] at e
    have e : (if c = 0 then a else x - 1) :: t' = t := by simpa using e
    subst e
    have ih := needS_step hk h' e2
    simp only [needS]
    by_cases c0 : c = 0
    ·subst c0
     rw [if_neg (show ¬ (0 : Int) ≤ 0 - 1 by omega)] at ih
     rw [if_pos rfl, if_pos (Int.le_refl 0)]
     have q : (k + 1 + a - x) / a ≤ (k + a - a) / a + 1 := by
      have q2 := Int.add_mul_ediv_right k 1 (show a ≠ 0 by omega)
      rw [show k + a - a = k by omega, ← q2]
      exact Int.ediv_le_ediv (by omega) (by omega)
     omega
    ·rw [if_neg c0, show k + a - (x - 1) = k + 1 + a - x by omega]
     by_cases c1 : 0 ≤ c
     ·rw [if_pos (show 0 ≤ c - 1 by omega)] at ih; rw [if_pos c1]; omega
     ·rw [if_neg (show ¬ 0 ≤ c - 1 by omega)] at ih; rw [if_neg c1]; omega
 | [], _ :: _, _, _, h, _ => h.elim
 | _ :: _, [], _, _, h, _ => h.elim
theorem needS_le {w : List Int} : ∀ {k : Nat} {s : List Int}, okSt w s → K w k s = true → needS w s (k : Int) ≤ k
 | 0, s, h, _ => by rw [show ((0 : Nat) : Int) = 0 from rfl, needS_zero h]; omega
 | k + 1, s, h, e => by
  obtain ⟨c, t, h1, h2, h3, h4⟩ := K_succ.1 e
  have ih := needS_le (nx_ok h h3) h4
  have := needS_step (k := (k : Int)) (by omega) h h3
  have q : (if 0 ≤ c then 1 else 0 : Int) ≤ 1 := by split <;> omega
  rw [show ((k + 1 : Nat) : Int) = (k : Int) + 1 from rfl]
  omega
theorem needS_self : ∀ w : List Int, needS w w 840 = dsum w
 | [] => rfl
 | a :: w => by rw [needS, dsum, needS_self w, show (840 : Int) + a - a = 840 by omega]
/-- What can go on for ever has a density of at most 1. -/
theorem dens_ever {w : List Int} (o : okW w) (e : K w (inf w) w = true) : dsum w ≤ 840 := by
 have h := (num_first (okW_pos o)).1
 have := needS_le h (K_ever o h e 840)
 rw [show ((840 : Nat) : Int) = 840 from rfl, needS_self] at this
 exact this
/-- What Lasts tells of wants as described. -/
def lastsS (w : List Int) (r : Int × Int) : Prop := (K w (inf w) w = true ∧ r = (0, 5)) ∨ (K w (inf w) w = false ∧ ∃ n : Nat, r = ((n : Int), 0) ∧ n ≤ inf w ∧ K w n w = true ∧ K w (n + 1) w = false)
theorem not_ever {w : List Int} (o : okW w) {n : Nat} (e : K w n w = false) : K w (inf w) w = false := by
 rw [Bool.eq_false_iff]
 intro h
 have := K_ever o (num_first (okW_pos o)).1 h n
 rw [e] at this; cases this
theorem lasts_loop {w : List Int} (o : okW w) : ∀ (d i : Nat), inf w - i = d → i ≤ inf w → K w i w = true → ∃ r, lastsS w r ∧ Ev (fun k => ice_Lasts.l0 k (setL w i) (i : Int) w (bys w) (prodI w)) r := by
 obtain ⟨b1, b2⟩ := prodI_le o
 obtain ⟨ow, ew⟩ := num_first (okW_pos o)
 have hinf : inf w ≤ 32768 := by unfold inf; omega
 have hf : ice_game_first.f w (bys w) (prodI w) = some (numL w w, prodI w) := by
  unfold ice_game_first.f
  rw [w64 (by omega) (by omega), ew]
 have hb := numL_bd ow
 intro d
 induction d with
 | zero =>
  intro i hd hi hk
  obtain rfl : i = inf w := by omega
  have st : stable w (inf w) := stable_all (okW_pos o) (Nat.le_refl (prodI w).toNat)
  refine ⟨(0, 5), .inl ⟨hk, rfl⟩, ?_⟩
  have hk1 : K w (inf w + 1) w = true := (st w ow).trans hk
  refine Ev.step (f := fun k => (ice_game_before.f k w (bys w) (prodI w) (setL w (inf w))).bind fun bt110 => ((ice_game_first.f w (bys w) bt110.2).bind fun bt114 => (if 0 ≤ bt114.1 then (if bt114.1 < (bt110.1.length : Int) then (if rdOf false bt110.1 bt114.1 = true then ((slices_Equal_bool_bool.f k bt110.1 (setL w (inf w))).bind fun t117 => (if t117 = true then (some (0, 5)) else (ice_Lasts.l0 k bt110.1 (wrap64 ((inf w : Int) + 1)) w (bys w) bt114.2))) else (some ((inf w : Int), 0))) else (none)) else (none)))) (fun k => by rw [ice_Lasts.l0]) (Ev.bind (before_ev o (inf w)) ?_)
  simp only [hf, Option.bind_some, if_pos hb.1, if_pos (show numL w w < ((setL w (inf w + 1)).length : Int) by rw [setL_len]; omega), setL_rd ow, if_pos hk1]
  refine Ev.bind (setEq_ev o _ _) ?_
  rw [decide_eq_true ((setL_stable (okW_pos o)).2 st)]
  exact Ev.now _
 | succ d ih =>
  intro i hd hi hk
  by_cases hk1 : K w (i + 1) w = true
  ·by_cases st : stable w i
   ·refine ⟨(0, 5), .inl ⟨by rw [stable_eq st hi ow]; exact hk, rfl⟩, ?_⟩
    refine Ev.step (f := fun k => (ice_game_before.f k w (bys w) (prodI w) (setL w i)).bind fun bt110 => ((ice_game_first.f w (bys w) bt110.2).bind fun bt114 => (if 0 ≤ bt114.1 then (if bt114.1 < (bt110.1.length : Int) then (if rdOf false bt110.1 bt114.1 = true then ((slices_Equal_bool_bool.f k bt110.1 (setL w i)).bind fun t117 => (if t117 = true then (some (0, 5)) else (ice_Lasts.l0 k bt110.1 (wrap64 ((i : Int) + 1)) w (bys w) bt114.2))) else (some ((i : Int), 0))) else (none)) else (none)))) (fun k => by rw [ice_Lasts.l0]) (Ev.bind (before_ev o i) ?_)
    simp only [hf, Option.bind_some, if_pos hb.1, if_pos (show numL w w < ((setL w (i + 1)).length : Int) by rw [setL_len]; omega), setL_rd ow, if_pos hk1]
    refine Ev.bind (setEq_ev o _ _) ?_
    rw [decide_eq_true ((setL_stable (okW_pos o)).2 st)]
    exact Ev.now _
   ·obtain ⟨r, hr, e⟩ := ih (i + 1) (by omega) (by omega) hk1
    refine ⟨r, hr, ?_⟩
    refine Ev.step (f := fun k => (ice_game_before.f k w (bys w) (prodI w) (setL w i)).bind fun bt110 => ((ice_game_first.f w (bys w) bt110.2).bind fun bt114 => (if 0 ≤ bt114.1 then (if bt114.1 < (bt110.1.length : Int) then (if rdOf false bt110.1 bt114.1 = true then ((slices_Equal_bool_bool.f k bt110.1 (setL w i)).bind fun t117 => (if t117 = true then (some (0, 5)) else (ice_Lasts.l0 k bt110.1 (wrap64 ((i : Int) + 1)) w (bys w) bt114.2))) else (some ((i : Int), 0))) else (none)) else (none)))) (fun k => by rw [ice_Lasts.l0]) (Ev.bind (before_ev o i) ?_)
    simp only [hf, Option.bind_some, if_pos hb.1, if_pos (show numL w w < ((setL w (i + 1)).length : Int) by rw [setL_len]; omega), setL_rd ow, if_pos hk1]
    refine Ev.bind (setEq_ev o _ _) ?_
    rw [decide_eq_false (fun z => st ((setL_stable (okW_pos o)).1 z)), wsucc i (by omega)]
    exact e
  ·have hk1 : K w (i + 1) w = false := by simpa using hk1
   refine ⟨(i, 0), .inr ⟨not_ever o hk1, i, rfl, hi, hk, hk1⟩, ?_⟩
   refine Ev.step (f := fun k => (ice_game_before.f k w (bys w) (prodI w) (setL w i)).bind fun bt110 => ((ice_game_first.f w (bys w) bt110.2).bind fun bt114 => (if 0 ≤ bt114.1 then (if bt114.1 < (bt110.1.length : Int) then (if rdOf false bt110.1 bt114.1 = true then ((slices_Equal_bool_bool.f k bt110.1 (setL w i)).bind fun t117 => (if t117 = true then (some (0, 5)) else (ice_Lasts.l0 k bt110.1 (wrap64 ((i : Int) + 1)) w (bys w) bt114.2))) else (some ((i : Int), 0))) else (none)) else (none)))) (fun k => by rw [ice_Lasts.l0]) (Ev.bind (before_ev o i) ?_)
   simp only [hf, Option.bind_some, if_pos hb.1, if_pos (show numL w w < ((setL w (i + 1)).length : Int) by rw [setL_len]; omega), setL_rd ow, hk1]
   exact Ev.now _
theorem ice_Lasts_ev (w : List Int) : ∃ r, Ev (fun k => ice_Lasts.f k w) r ∧ (okW w → lastsS w r) ∧ (¬ okW w → r = (0, 80)) := by
 classical
 by_cases o : okW w
 ·obtain ⟨r, hr, e⟩ := lasts_loop o (inf w) 0 (by omega) (by omega) rfl
  refine ⟨r, Ev.bind (ice_Valid_ev w) ?_, fun _ => hr, fun h => absurd o h⟩
  simp only [decide_eq_true o, if_true]
  refine Ev.bind (gameOf_ev o) ?_
  simp only [all_some o, Option.bind_some]
  exact e
 ·refine ⟨(0, 80), Ev.bind (ice_Valid_ev w) ?_, fun h => absurd h o, fun _ => rfl⟩
  simp only [decide_eq_false o, Bool.false_eq_true, if_false]
  exact Ev.now _
def isOrd (n : Nat) (o : List Int) : Prop := o.length = n ∧ (∀ j, j < n → 0 ≤ rd o (j : Int) ∧ rd o (j : Int) < n) ∧ (∀ i j, i < n → j < n → rd o (i : Int) = rd o (j : Int) → i = j) ∧ (∀ i, i < n → ∃ j, j < n ∧ rd o (j : Int) = i)
def idx (n : Nat) : List Int := (List.range n).map fun i : Nat => (i : Int)
theorem idx_rd {n j : Nat} (h : j < n) : rd (idx n) (j : Int) = j := by
 rw [rd_get (by simp [idx]; exact h)]
 simp [idx]
theorem idx_ord (n : Nat) : isOrd n (idx n) := by
 refine ⟨by simp [idx], fun j hj => ?_, fun i j hi hj e => ?_, fun i hi => ⟨i, hi, idx_rd hi⟩⟩
 ·rw [idx_rd hj]; omega
 ·rw [idx_rd hi, idx_rd hj] at e; omega
theorem cmp_val (a b : Int) : cmp_Compare_int.f a b = some (if a < b then -1 else if a > b then 1 else 0) := by
 unfold cmp_Compare_int.f cmp_isNaN_int.f
 simp only [Option.bind_some, bne_self_eq_false, Bool.false_eq_true, if_false]
 split
 ·rfl
 ·split <;> rfl
theorem rota1_val {w : List Int} {a b : Int} (ha : 0 ≤ a) (ha2 : a < w.length) (hb : 0 ≤ b) (hb2 : b < w.length) : ice_Rota_1.f a b w = some (if rd w a < rd w b then -1 else if rd w a > rd w b then 1 else 0) := by
 unfold ice_Rota_1.f
 rw [if_pos ha, if_pos ha2, if_pos hb, if_pos hb2, cmp_val]
 rfl
/-- Two neighbours change places. -/
def swp (o : List Int) (j : Nat) : List Int := (o.set (j + 1) (rd o (j : Int))).set j (rd o ((j + 1 : Nat) : Int))
def tr (j p : Nat) : Nat := if p = j then j + 1 else if p = j + 1 then j else p
theorem tr_lt {n j p : Nat} (hj : j + 1 < n) (hp : p < n) : tr j p < n := by unfold tr; split <;> (try split) <;> omega
theorem tr_tr (j p : Nat) : tr j (tr j p) = p := by unfold tr; split <;> (try split) <;> (try split) <;> (try split) <;> omega
theorem swp_len (o : List Int) (j : Nat) : (swp o j).length = o.length := by simp [swp]
theorem swp_rd {o : List Int} {j p : Nat} (hj : j + 1 < o.length) (hp : p < o.length) : rd (swp o j) (p : Int) = rd o ((tr j p : Nat) : Int) := by
 unfold swp
 rw [rd_set2 _ _ (by simp; omega) (by simpa using hp), rd_set2 _ _ hj hp]
 unfold tr
 by_cases h1 : p = j
 ·rw [if_pos h1, if_pos h1]
 ·rw [if_neg h1, if_neg h1]
  by_cases h2 : p = j + 1
  ·rw [if_pos h2, if_pos h2]
  ·rw [if_neg h2, if_neg h2]
theorem swp_ord {n : Nat} {o : List Int} {j : Nat} (h : isOrd n o) (hj : j + 1 < n) : isOrd n (swp o j) := by
 obtain ⟨l, b, i1, s⟩ := h
 subst l
 refine ⟨swp_len _ _, fun p hp => ?_, fun p q hp hq e => ?_, fun i hi => ?_⟩
 ·rw [swp_rd hj hp]; exact b _ (tr_lt hj hp)
 ·rw [swp_rd hj hp, swp_rd hj hq] at e
  have := i1 _ _ (tr_lt hj hp) (tr_lt hj hq) e
  rw [← tr_tr j p, ← tr_tr j q, this]
 ·obtain ⟨q, hq, e⟩ := s i hi
  exact ⟨tr j q, tr_lt hj hq, by rw [swp_rd hj (tr_lt hj hq), tr_tr]; exact e⟩
/-- The entries of s in the order o. -/
def app (o s : List Int) : List Int := o.map fun i => rd s i
theorem app_len (o s : List Int) : (app o s).length = o.length := by simp [app]
theorem app_rd {o s : List Int} {j : Nat} (h : j < o.length) : rd (app o s) (j : Int) = rd s (rd o (j : Int)) := by
 rw [rd_get (by rw [app_len]; exact h), rd_get h]
 simp [app]
theorem swp_split {o : List Int} {j : Nat} (hj : j + 1 < o.length) : o = o.take j ++ rd o (j : Int) :: rd o ((j + 1 : Nat) : Int) :: o.drop (j + 2) ∧ swp o j = o.take j ++ rd o ((j + 1 : Nat) : Int) :: rd o (j : Int) :: o.drop (j + 2) := by
 have h1 : o = o.take j ++ rd o (j : Int) :: rd o ((j + 1 : Nat) : Int) :: o.drop (j + 2) := by
  rw [← rd_drop o (j + 1) hj, ← rd_drop o j (by omega), List.take_append_drop]
 refine ⟨h1, ?_⟩
 generalize hx : rd o (j : Int) = x at h1 ⊢
 generalize hy : rd o ((j + 1 : Nat) : Int) = y at h1 ⊢
 have hl : (o.take j).length = j := by rw [List.length_take]; omega
 unfold swp
 rw [hx, hy]
 generalize o.take j = a at h1 hl ⊢
 generalize o.drop (j + 2) = b at h1 ⊢
 subst h1
 rw [List.set_append_right _ _ (by omega), show j + 1 - a.length = 1 by omega, List.set_append_right _ _ (by omega), show j - a.length = 0 by omega]
 rfl
theorem swp_prod {o w : List Int} {j : Nat} (hj : j + 1 < o.length) : prodI (app (swp o j) w) = prodI (app o w) := by
 obtain ⟨h1, h2⟩ := swp_split hj
 rw [h2]
 conv => rhs; rw [h1]
 unfold app
 rw [List.map_append, List.map_append, prodI_append, prodI_append]
 simp only [List.map_cons, prodI]
 congr 1
 exact Int.mul_left_comm _ _ _
def gOrd (w : List Int) (n : Nat) (o : List Int) : Prop := isOrd n o ∧ prodI (app o w) = prodI w
theorem swp_gOrd {w : List Int} {n : Nat} {o : List Int} {j : Nat} (h : gOrd w n o) (hj : j + 1 < n) : gOrd w n (swp o j) := ⟨swp_ord h.1 hj, by rw [swp_prod (by rw [h.1.1]; exact hj)]; exact h.2⟩
theorem idx_gOrd (w : List Int) : gOrd w w.length (idx w.length) := by
 refine ⟨idx_ord _, ?_⟩
 have : app (idx w.length) w = w := by
  refine ext_rd (by rw [app_len]; simp [idx]) fun j hj => ?_
  rw [app_len] at hj
  rw [app_rd hj, idx_rd (by simpa [idx] using hj)]
 rw [this]
/-- The want at a place of the order. -/
def at_ (w o : List Int) (j : Nat) : Int := rd w (rd o (j : Int))
def sorted (w o : List Int) (i : Nat) : Prop := ∀ p q, p < q → q < i → at_ w o p ≤ at_ w o q
def but (w o : List Int) (i j : Nat) : Prop := (∀ p q, p < q → q ≤ i → p ≠ j → q ≠ j → at_ w o p ≤ at_ w o q) ∧ ∀ q, j < q → q ≤ i → at_ w o j ≤ at_ w o q
abbrev cmpW (w : List Int) : Int → Int → Option Int := fun a_ b_ => ice_Rota_1.f a_ b_ w
theorem ins_in {w : List Int} {n i : Nat} (hn : w.length = n) (hi : i < n) (h5 : n ≤ 20)
  (next : ∀ o, gOrd w n o → sorted w o (i + 1) → ∃ o', gOrd w n o' ∧ sorted w o' n ∧ Ev (fun k => slices_insertionSortCmpFunc_int.l0 k o 0 n (cmpW w) ((i + 1 : Nat) : Int)) o') :
  ∀ (j : Nat) (o : List Int), j ≤ i → gOrd w n o → but w o i j → ∃ o', gOrd w n o' ∧ sorted w o' n ∧ Ev (fun k => slices_insertionSortCmpFunc_int.l1 k o 0 n (cmpW w) i (j : Int)) o'
 | 0, o, hj, ho, hb => by
  obtain ⟨o', g1, g2, e⟩ := next o ho (fun p q hpq hq => by
   by_cases hp : p = 0
   ·subst hp; exact hb.2 q (by omega) (by omega)
   ·exact hb.1 p q hpq (by omega) hp (by omega))
  refine ⟨o', g1, g2, Ev.step (f := fun k => slices_insertionSortCmpFunc_int.l0 k o 0 n (cmpW w) ((i + 1 : Nat) : Int)) (fun k => ?_) e⟩
  rw [slices_insertionSortCmpFunc_int.l1, if_neg (by omega), wsucc i (by omega)]
 | j + 1, o, hj, ho, hb => by
  obtain ⟨l, b, i1, s⟩ := ho.1
  have b1 := b (j + 1) (by omega)
  have b0 := b j (by omega)
  have hw : wrap64 (((j + 1 : Nat) : Int) - 1) = (j : Int) := wpred j (by omega)
  have hc := rota1_val (w := w) (a := rd o ((j + 1 : Nat) : Int)) (b := rd o (j : Int)) b1.1 (by omega) b0.1 (by omega)
  by_cases c : at_ w o (j + 1) < at_ w o j
  ·obtain ⟨o', g1, g2, e⟩ := ins_in hn hi h5 next j (swp o j) (by omega) (swp_gOrd ho (by omega)) (by
    have hat : ∀ p, p ≤ i → at_ w (swp o j) p = at_ w o (tr j p) := fun p hp => by
     unfold at_; rw [swp_rd (by omega) (by omega)]
    have t0 : tr j j = j + 1 := by unfold tr; rw [if_pos rfl]
    have t1 : tr j (j + 1) = j := by unfold tr; rw [if_neg (by omega), if_pos rfl]
    have t2 : ∀ p, p ≠ j → p ≠ j + 1 → tr j p = p := fun p h1 h2 => by unfold tr; rw [if_neg h1, if_neg h2]
    refine ⟨fun p q hpq hq hp hq' => ?_, fun q hq hqi => ?_⟩
    ·rw [hat p (by omega), hat q hq]
     by_cases h1 : p = j + 1
     ·subst h1
      rw [t1, t2 q hq' (by omega)]
      exact hb.1 j q (by omega) hq (by omega) (by omega)
     ·rw [t2 p hp h1]
      by_cases h2 : q = j + 1
      ·subst h2
       rw [t1]
       exact hb.1 p j (by omega) (by omega) h1 (by omega)
      ·rw [t2 q hq' h2]
       exact hb.1 p q hpq hq h1 h2
    ·rw [hat j (by omega), hat q hqi, t0]
     by_cases h2 : q = j + 1
     ·subst h2
      rw [t1]
      omega
     ·rw [t2 q (by omega) h2]
      exact hb.2 q (by omega) hqi)
   refine ⟨o', g1, g2, Ev.step (f := fun k => slices_insertionSortCmpFunc_int.l1 k (swp o j) 0 n (cmpW w) i (j : Int)) (fun k => ?_) e⟩
   rw [slices_insertionSortCmpFunc_int.l1, if_pos (by omega), if_pos (by omega), if_pos (by omega), hw, if_pos (by omega), if_pos (by omega)]
   show (ice_Rota_1.f _ _ w).bind _ = _
   rw [hc]
   simp only [Option.bind_some]
   rw [if_pos (show (if rd w (rd o ((j + 1 : Nat) : Int)) < rd w (rd o (j : Int)) then (-1 : Int) else _) < 0 by rw [if_pos (show rd w (rd o ((j + 1 : Nat) : Int)) < rd w (rd o (j : Int)) from c)]; decide)]
   rfl
  ·obtain ⟨o', g1, g2, e⟩ := next o ho (fun p q hpq hq => by
    have c' : at_ w o j ≤ at_ w o (j + 1) := by unfold at_ at c ⊢; omega
    by_cases hp : p = j + 1
    ·subst hp; exact hb.2 q hpq (by omega)
    ·by_cases hq' : q = j + 1
     ·subst hq'
      by_cases hpj : p = j
      ·subst hpj; exact c'
      ·exact Int.le_trans (hb.1 p j (by omega) (by omega) hp (by omega)) c'
     ·exact hb.1 p q hpq (by omega) hp hq')
   refine ⟨o', g1, g2, Ev.step (f := fun k => slices_insertionSortCmpFunc_int.l0 k o 0 n (cmpW w) ((i + 1 : Nat) : Int)) (fun k => ?_) e⟩
   rw [slices_insertionSortCmpFunc_int.l1, if_pos (by omega), if_pos (by omega), if_pos (by omega), hw, if_pos (by omega), if_pos (by omega)]
   show (ice_Rota_1.f _ _ w).bind _ = _
   rw [hc]
   simp only [Option.bind_some]
   rw [if_neg (show ¬ (if rd w (rd o ((j + 1 : Nat) : Int)) < rd w (rd o (j : Int)) then (-1 : Int) else if rd w (rd o ((j + 1 : Nat) : Int)) > rd w (rd o (j : Int)) then 1 else 0) < 0 by rw [if_neg (show ¬ rd w (rd o ((j + 1 : Nat) : Int)) < rd w (rd o (j : Int)) from c)]; split <;> decide), wsucc i (by omega)]
theorem ins_out {w : List Int} {n : Nat} (hn : w.length = n) (h5 : n ≤ 20) : ∀ (d i : Nat) (o : List Int), n - i = d → 1 ≤ i → gOrd w n o → sorted w o i → ∃ o', gOrd w n o' ∧ sorted w o' n ∧ Ev (fun k => slices_insertionSortCmpFunc_int.l0 k o 0 n (cmpW w) (i : Int)) o'
 | 0, i, o, hd, h1, ho, hs => ⟨o, ho, fun p q hpq hq => hs p q hpq (by omega), ev_some _ fun k => by rw [slices_insertionSortCmpFunc_int.l0, if_neg (by omega)]⟩
 | d + 1, i, o, hd, h1, ho, hs => by
  obtain ⟨o', g1, g2, e⟩ := ins_in hn (i := i) (by omega) h5 (fun o2 h2 s2 => ins_out hn h5 d (i + 1) o2 (by omega) (by omega) h2 s2) i o (Nat.le_refl _) ho ⟨fun p q hpq hq hp hq' => hs p q hpq (by omega), fun q hq hqi => by omega⟩
  exact ⟨o', g1, g2, Ev.step (f := fun k => slices_insertionSortCmpFunc_int.l1 k o 0 n (cmpW w) i (i : Int)) (fun k => by rw [slices_insertionSortCmpFunc_int.l0, if_pos (by omega)]) e⟩
theorem sort_ev {w : List Int} {n : Nat} (hn : w.length = n) (h5 : n ≤ 5) (h1 : 1 ≤ n) {o : List Int} (ho : gOrd w n o) : ∃ o', gOrd w n o' ∧ sorted w o' n ∧ Ev (fun k => slices_SortStableFunc_int_int.f k o (cmpW w)) o' := by
 obtain ⟨o', g1, g2, e⟩ := ins_out hn (by omega) (n - 1) 1 o (by omega) (Nat.le_refl _) ho (fun p q hpq hq => by omega)
 refine ⟨o', g1, g2, ?_⟩
 have e1 : Ev (fun k => slices_insertionSortCmpFunc_int.f k o 0 n (cmpW w)) o' := Ev.congr (fun k => by unfold slices_insertionSortCmpFunc_int.f; rw [show wrap64 ((0 : Int) + 1) = ((1 : Nat) : Int) from wsucc 0 (by omega)]) e
 have e2 : Ev (fun k => slices_stableCmpFunc_int.f k o n (cmpW w)) o' := by
  refine Ev.step (f := fun k => (slices_insertionSortCmpFunc_int.f k o 0 n (cmpW w)).bind fun t102 => (slices_stableCmpFunc_int.l1 k t102 n (cmpW w) 20)) (fun k => ?_) (Ev.bind e1 (ev_some _ fun k => ?_))
  ·show slices_stableCmpFunc_int.l0 (k + 1) o n (cmpW w) 20 0 20 = _
   rw [slices_stableCmpFunc_int.l0, if_neg (by omega)]
  ·rw [slices_stableCmpFunc_int.l1, if_neg (by omega)]
 have l := ho.1.1
 refine Ev.congr (fun k => ?_) (Ev.bind e2 (Ev.now o'))
 unfold slices_SortStableFunc_int_int.f
 rw [l]
def certs : List (List Int × List Int) := [
 ([1], [0]),
 ([2], [0]),
 ([3], [0]),
 ([4], [0]),
 ([5], [0]),
 ([6], [0]),
 ([7], [0]),
 ([8], [0]),
 ([2, 2], [0, 1, 0]),
 ([2, 3], [0, 0, 1, 0]),
 ([2, 4], [0, 0, 0, 1, 0]),
 ([2, 5], [0, 0, 0, 0, 1, 0]),
 ([2, 6], [0, 0, 0, 0, 0, 1, 0]),
 ([2, 7], [0, 0, 0, 0, 0, 0, 1, 0]),
 ([2, 8], [0, 0, 0, 0, 0, 0, 0, 1, 0]),
 ([3, 3], [0, 1, 0]),
 ([3, 4], [0, 0, 1, 0]),
 ([3, 5], [0, 0, 0, 1, 0]),
 ([3, 6], [0, 0, 0, 0, 1, 0]),
 ([3, 7], [0, 0, 0, 0, 0, 1, 0]),
 ([3, 8], [0, 0, 0, 0, 0, 0, 1, 0]),
 ([4, 4], [0, 1, 0]),
 ([4, 5], [0, 0, 1, 0]),
 ([4, 6], [0, 0, 0, 1, 0]),
 ([4, 7], [0, 0, 0, 0, 1, 0]),
 ([4, 8], [0, 0, 0, 0, 0, 1, 0]),
 ([5, 5], [0, 1, 0]),
 ([5, 6], [0, 0, 1, 0]),
 ([5, 7], [0, 0, 0, 1, 0]),
 ([5, 8], [0, 0, 0, 0, 1, 0]),
 ([6, 6], [0, 1, 0]),
 ([6, 7], [0, 0, 1, 0]),
 ([6, 8], [0, 0, 0, 1, 0]),
 ([7, 7], [0, 1, 0]),
 ([7, 8], [0, 0, 1, 0]),
 ([8, 8], [0, 1, 0]),
 ([2, 4, 4], [0, 1, 0, 2, 0, 1]),
 ([2, 4, 5], [0, 0, 1, 0, 2, 0, 1, 0, 2]),
 ([2, 4, 6], [0, 0, 0, 1, 0, 2, 0, 1, 0, 1]),
 ([2, 4, 7], [0, 0, 0, 1, 0, 2, 0, 1, 0, 0, 1, 0, 2]),
 ([2, 4, 8], [0, 0, 0, 1, 0, 1, 0, 2, 0, 1, 0, 0, 0, 1]),
 ([2, 5, 5], [0, 0, 1, 0, 2, 0, 0, 1]),
 ([2, 5, 6], [0, 0, 0, 1, 0, 2, 0, 0, 1, 0, 0, 2, 0, 1, 0, 0, 2]),
 ([2, 5, 7], [0, 0, 0, 0, 1, 0, 2, 0, 0, 1, 0, 0, 2, 0, 1, 0, 0, 1]),
 ([2, 5, 8], [0, 0, 0, 0, 1, 0, 0, 2, 0, 1, 0, 0, 0, 1, 0, 2, 0, 0, 1, 0, 0, 1]),
 ([2, 6, 6], [0, 0, 0, 1, 0, 2, 0, 0, 0, 1]),
 ([2, 6, 7], [0, 0, 0, 0, 1, 0, 2, 0, 0, 0, 1, 0, 0, 2, 0, 0, 1, 0, 0, 0, 2, 0, 1, 0, 0, 0, 2]),
 ([2, 6, 8], [0, 0, 0, 0, 0, 1, 0, 2, 0, 0, 0, 1, 0, 0, 0, 2, 0, 1, 0, 0, 0, 1]),
 ([2, 7, 7], [0, 0, 0, 0, 1, 0, 2, 0, 0, 0, 0, 1]),
 ([2, 7, 8], [0, 0, 0, 0, 0, 1, 0, 2, 0, 0, 0, 0, 1, 0, 0, 2, 0, 0, 0, 1, 0, 0, 0, 2, 0, 0, 1, 0, 0, 0, 0, 2, 0, 1, 0, 0, 0, 0, 2]),
 ([2, 8, 8], [0, 0, 0, 0, 0, 1, 0, 2, 0, 0, 0, 0, 0, 1]),
 ([3, 3, 3], [0, 1, 2, 0, 1]),
 ([3, 3, 4], [0, 1, 0, 2, 1, 0, 1, 2, 0, 1]),
 ([3, 3, 5], [0, 1, 0, 1, 2, 0, 1]),
 ([3, 3, 6], [0, 1, 0, 1, 0, 2, 1, 0, 1, 0, 1, 2, 0, 1]),
 ([3, 3, 7], [0, 1, 0, 1, 0, 1, 2, 0, 1]),
 ([3, 3, 8], [0, 1, 0, 1, 0, 1, 0, 2, 1, 0, 1, 0, 1, 0, 1, 2, 0, 1]),
 ([3, 4, 4], [0, 0, 1, 2, 0, 1, 0, 2, 0, 1]),
 ([3, 4, 5], [0, 0, 1, 0, 2, 0, 1, 0, 2]),
 ([3, 4, 6], [0, 0, 1, 0, 2, 0, 1, 0, 0, 1, 2, 0, 1]),
 ([3, 4, 7], [0, 0, 1, 0, 0, 1, 2, 0, 1, 0, 0, 1, 0, 2, 0, 1]),
 ([3, 4, 8], [0, 0, 1, 0, 0, 1, 0, 2, 0, 1, 0, 0, 1, 0, 2]),
 ([3, 5, 5], [0, 0, 0, 1, 2, 0, 0, 1, 0, 2, 0, 1, 0, 2]),
 ([3, 5, 6], [0, 0, 0, 1, 0, 2, 0, 1, 0, 0, 2, 0, 1]),
 ([3, 5, 7], [0, 0, 0, 1, 0, 2, 0, 1, 0, 0, 0, 1, 2, 0, 0, 1, 0, 0, 2, 0, 1]),
 ([3, 5, 8], [0, 0, 0, 1, 0, 0, 2, 0, 1, 0, 0, 0, 1, 0, 2, 0, 1]),
 ([3, 6, 6], [0, 0, 0, 0, 1, 2, 0, 0, 0, 1, 0, 2, 0, 0, 1, 0, 2]),
 ([3, 6, 7], [0, 0, 0, 0, 1, 0, 2, 0, 0, 1, 0, 0, 2, 0, 1, 0, 0, 0, 2, 0, 1]),
 ([3, 6, 8], [0, 0, 0, 0, 1, 0, 2, 0, 0, 1, 0, 0, 0, 2, 0, 1, 0, 0, 0, 0, 1, 2, 0, 0, 0, 1, 0, 0, 2, 0, 1]),
 ([3, 7, 7], [0, 0, 0, 0, 0, 1, 2, 0, 0, 0, 0, 1, 0, 2, 0, 0, 0, 1, 0, 2]),
 ([3, 7, 8], [0, 0, 0, 0, 0, 1, 0, 2, 0, 0, 0, 1, 0, 0, 2, 0, 0, 1, 0, 0, 0, 2, 0, 1, 0, 0, 0, 0, 2, 0, 1]),
 ([3, 8, 8], [0, 0, 0, 0, 0, 0, 1, 2, 0, 0, 0, 0, 0, 1, 0, 2, 0, 0, 0, 0, 1, 0, 2]),
 ([4, 4, 4], [0, 1, 2, 0, 1]),
 ([4, 4, 5], [0, 1, 0, 2, 1, 0, 1, 2, 0, 1]),
 ([4, 4, 6], [0, 1, 0, 1, 2, 0, 1]),
 ([4, 4, 7], [0, 1, 0, 1, 0, 2, 1, 0, 1, 0, 1, 2, 0, 1]),
 ([4, 4, 8], [0, 1, 0, 1, 0, 1, 2, 0, 1]),
 ([4, 5, 5], [0, 0, 1, 2, 0, 1, 0, 2, 0, 1]),
 ([4, 5, 6], [0, 0, 1, 0, 2, 0, 1, 0, 2]),
 ([4, 5, 7], [0, 0, 1, 0, 2, 0, 1, 0, 0, 1, 2, 0, 1]),
 ([4, 5, 8], [0, 0, 1, 0, 0, 1, 2, 0, 1, 0, 0, 1, 0, 2, 0, 1]),
 ([4, 6, 6], [0, 0, 0, 1, 2, 0, 0, 1, 0, 2, 0, 1, 0, 2]),
 ([4, 6, 7], [0, 0, 0, 1, 0, 2, 0, 1, 0, 0, 2, 0, 1]),
 ([4, 6, 8], [0, 0, 0, 1, 0, 2, 0, 1, 0, 0, 0, 1, 2, 0, 0, 1, 0, 0, 2, 0, 1]),
 ([4, 7, 7], [0, 0, 0, 0, 1, 2, 0, 0, 0, 1, 0, 2, 0, 0, 1, 0, 2]),
 ([4, 7, 8], [0, 0, 0, 0, 1, 0, 2, 0, 0, 1, 0, 0, 2, 0, 1, 0, 0, 0, 2, 0, 1]),
 ([4, 8, 8], [0, 0, 0, 0, 0, 1, 2, 0, 0, 0, 0, 1, 0, 2, 0, 0, 0, 1, 0, 2]),
 ([5, 5, 5], [0, 1, 2, 0, 1]),
 ([5, 5, 6], [0, 1, 0, 2, 1, 0, 1, 2, 0, 1]),
 ([5, 5, 7], [0, 1, 0, 1, 2, 0, 1]),
 ([5, 5, 8], [0, 1, 0, 1, 0, 2, 1, 0, 1, 0, 1, 2, 0, 1]),
 ([5, 6, 6], [0, 0, 1, 2, 0, 1, 0, 2, 0, 1]),
 ([5, 6, 7], [0, 0, 1, 0, 2, 0, 1, 0, 2]),
 ([5, 6, 8], [0, 0, 1, 0, 2, 0, 1, 0, 0, 1, 2, 0, 1]),
 ([5, 7, 7], [0, 0, 0, 1, 2, 0, 0, 1, 0, 2, 0, 1, 0, 2]),
 ([5, 7, 8], [0, 0, 0, 1, 0, 2, 0, 1, 0, 0, 2, 0, 1]),
 ([5, 8, 8], [0, 0, 0, 0, 1, 2, 0, 0, 0, 1, 0, 2, 0, 0, 1, 0, 2]),
 ([6, 6, 6], [0, 1, 2, 0, 1]),
 ([6, 6, 7], [0, 1, 0, 2, 1, 0, 1, 2, 0, 1]),
 ([6, 6, 8], [0, 1, 0, 1, 2, 0, 1]),
 ([6, 7, 7], [0, 0, 1, 2, 0, 1, 0, 2, 0, 1]),
 ([6, 7, 8], [0, 0, 1, 0, 2, 0, 1, 0, 2]),
 ([6, 8, 8], [0, 0, 0, 1, 2, 0, 0, 1, 0, 2, 0, 1, 0, 2]),
 ([7, 7, 7], [0, 1, 2, 0, 1]),
 ([7, 7, 8], [0, 1, 0, 2, 1, 0, 1, 2, 0, 1]),
 ([7, 8, 8], [0, 0, 1, 2, 0, 1, 0, 2, 0, 1]),
 ([8, 8, 8], [0, 1, 2, 0, 1]),
 ([2, 4, 8, 8], [0, 1, 0, 2, 0, 1, 0, 3, 0, 1, 0, 2]),
 ([2, 5, 8, 8], [0, 0, 2, 0, 1, 0, 3, 0, 1, 0, 2, 0, 1, 0, 3]),
 ([2, 6, 6, 6], [0, 1, 0, 2, 0, 3, 0, 1, 0, 2]),
 ([2, 6, 6, 7], [0, 0, 1, 0, 2, 0, 3, 0, 1, 0, 2, 0, 3]),
 ([2, 6, 6, 8], [0, 0, 0, 1, 0, 2, 0, 3, 0, 1, 0, 2, 0, 1, 0, 3, 0, 2, 0, 1, 0, 2]),
 ([2, 6, 7, 7], [0, 0, 1, 0, 2, 0, 3, 0, 1, 0, 2, 0, 3]),
 ([2, 6, 7, 8], [0, 0, 0, 1, 0, 2, 0, 3, 0, 1, 0, 2, 0, 1, 0, 3, 0, 2, 0, 1, 0, 3]),
 ([2, 6, 8, 8], [0, 0, 0, 1, 0, 2, 0, 3, 0, 1, 0, 2, 0, 1, 0, 3, 0, 1, 0, 2]),
 ([2, 7, 7, 7], [0, 0, 1, 0, 2, 0, 3, 0, 0, 1, 0, 2]),
 ([2, 7, 7, 8], [0, 0, 0, 1, 0, 2, 0, 3, 0, 0, 1, 0, 2, 0, 0, 3, 0, 1, 0, 2, 0, 0, 3]),
 ([2, 7, 8, 8], [0, 0, 0, 1, 0, 2, 0, 3, 0, 0, 1, 0, 0, 2, 0, 3, 0, 1, 0, 0, 2, 0, 3]),
 ([2, 8, 8, 8], [0, 0, 0, 1, 0, 2, 0, 3, 0, 0, 0, 1, 0, 2]),
 ([3, 3, 6, 6], [0, 1, 2, 0, 1, 3, 0, 1, 2]),
 ([3, 3, 6, 7], [0, 1, 0, 2, 1, 0, 3, 1, 0, 2, 1, 0, 3]),
 ([3, 3, 6, 8], [0, 1, 0, 1, 2, 0, 1, 3, 0, 1, 2, 0, 1, 3]),
 ([3, 3, 7, 7], [0, 1, 0, 2, 1, 0, 3, 1, 0, 1, 2, 0, 1, 3, 0, 1, 0, 2]),
 ([3, 3, 7, 8], [0, 1, 0, 1, 2, 0, 1, 3, 0, 1, 0, 2, 1, 0, 1, 3, 0, 1, 2, 0, 1, 0, 3, 1, 0, 2, 1, 0, 1, 3]),
 ([3, 3, 8, 8], [0, 1, 0, 1, 2, 0, 1, 3, 0, 1, 0, 1, 2]),
 ([3, 4, 5, 8], [0, 0, 1, 0, 2, 0, 1, 3, 0, 2, 1, 0, 1, 2, 0, 3, 1, 0, 2, 0, 1, 2]),
 ([3, 4, 6, 6], [0, 0, 1, 2, 0, 3, 1, 0, 2, 0, 1, 3, 0, 1, 2, 0, 1]),
 ([3, 4, 6, 7], [0, 0, 1, 2, 0, 1, 3, 0, 1, 2, 0, 1, 3]),
 ([3, 4, 6, 8], [0, 0, 1, 0, 2, 0, 1, 3, 0, 1, 2, 0, 1, 3]),
 ([3, 4, 7, 7], [0, 0, 1, 2, 0, 1, 3, 0, 1, 0, 2, 0, 1]),
 ([3, 4, 7, 8], [0, 0, 1, 0, 1, 2, 0, 3, 1, 0, 0, 1, 2, 0, 1, 3, 0, 1, 0, 2, 0, 1, 0, 3, 0, 1, 2, 0, 1, 0, 3]),
 ([3, 4, 8, 8], [0, 0, 1, 0, 1, 2, 0, 3, 1, 0, 0, 1, 2, 0, 1, 3, 0, 1, 0, 2, 0, 1, 0, 3, 0, 1, 0, 2]),
 ([3, 5, 5, 5], [0, 1, 0, 2, 3, 0, 1, 0, 2]),
 ([3, 5, 5, 6], [0, 0, 1, 0, 2, 3, 0, 1, 0, 2, 0, 3, 1, 0, 2, 0, 1, 3, 0, 2, 0, 1, 0, 3, 2, 0, 1, 0, 2]),
 ([3, 5, 5, 7], [0, 0, 0, 1, 2, 0, 3, 0, 1, 2, 0, 1, 0, 3, 2, 0, 1, 0, 2, 0, 3, 1, 0, 2, 0, 1]),
 ([3, 5, 5, 8], [0, 0, 0, 1, 2, 0, 3, 0, 1, 2, 0, 1, 0, 2, 3, 0, 1, 0, 2, 0, 1, 0, 3, 2, 0, 1, 0, 2, 0, 1, 3, 0, 2, 0, 1, 0, 2, 0, 3, 1, 0, 2, 0, 1]),
 ([3, 5, 6, 6], [0, 0, 1, 0, 2, 3, 0, 1, 0, 2, 0, 3, 1, 0, 2, 0, 1, 3, 0, 2, 0, 1, 0, 3, 0, 2, 1, 0, 3, 0, 1, 2, 0, 3, 0, 1, 0, 2]),
 ([3, 5, 6, 7], [0, 0, 0, 1, 0, 2, 3, 0, 1, 0, 2, 0, 1, 3, 0, 2, 0, 1, 0, 3, 0, 2, 1, 0, 3, 0, 1, 2, 0, 0, 1, 3, 0, 2]),
 ([3, 5, 6, 8], [0, 0, 0, 1, 0, 2, 0, 3, 1, 0, 2, 0, 1, 0, 3, 0, 2, 1, 0, 1, 0, 2, 3, 0, 1, 0, 2, 0, 1, 0, 3]),
 ([3, 5, 7, 7], [0, 0, 0, 1, 0, 2, 3, 0, 1, 0, 2, 0, 1, 3, 0, 0, 1, 2, 0, 3, 0, 1, 0, 2]),
 ([3, 5, 7, 8], [0, 0, 0, 1, 0, 2, 0, 3, 1, 0, 0, 2, 0, 1, 0, 3, 0, 1, 2, 0, 0, 1, 0, 3, 0, 2, 1, 0, 0, 1, 0, 3, 2, 0, 1, 0, 1, 0, 2, 3, 0, 1, 0, 0, 2, 0, 1, 3, 0, 0, 1, 2, 0, 0, 1, 3, 0, 2, 0, 1, 0, 3]),
 ([3, 5, 8, 8], [0, 0, 0, 1, 0, 2, 0, 3, 1, 0, 0, 0, 1, 2, 0, 3, 0, 1, 0, 0, 2, 0, 1, 3, 0, 0, 1, 0, 2, 0, 1]),
 ([3, 6, 6, 6], [0, 0, 1, 0, 2, 3, 0, 1, 0, 2, 0, 3, 0, 1, 0, 2]),
 ([3, 6, 6, 7], [0, 0, 0, 1, 0, 2, 3, 0, 1, 0, 2, 0, 3, 0, 1, 0, 2]),
 ([3, 6, 6, 8], [0, 0, 0, 0, 1, 2, 0, 3, 0, 1, 0, 2, 0, 0, 1, 3, 0, 2, 0, 1, 0, 0, 2, 3, 0, 1, 0, 2]),
 ([3, 6, 7, 7], [0, 0, 0, 1, 0, 2, 3, 0, 1, 0, 0, 2, 0, 3, 1, 0, 0, 2, 0, 1, 3, 0, 0, 2, 0, 1, 0, 3, 0, 2, 0, 1, 0, 3]),
 ([3, 6, 7, 8], [0, 0, 0, 0, 1, 0, 2, 3, 0, 1, 0, 0, 2, 0, 1, 3, 0, 0, 2, 0, 1, 0, 3, 0, 2, 0, 1, 0, 0, 3, 0, 2, 1, 0, 0, 3, 0, 1, 2, 0, 0, 0, 1, 3, 0, 2, 0, 1]),
 ([3, 6, 8, 8], [0, 0, 0, 0, 1, 0, 2, 3, 0, 1, 0, 0, 2, 0, 1, 3, 0, 0, 0, 1, 2, 0, 3, 0, 1, 0, 0, 2]),
 ([3, 7, 7, 7], [0, 0, 0, 1, 0, 2, 3, 0, 0, 1, 0, 2, 0, 3, 0, 1, 0, 2, 0, 3]),
 ([3, 7, 7, 8], [0, 0, 0, 0, 1, 0, 2, 3, 0, 0, 1, 0, 2, 0, 3, 0, 1, 0, 2, 0, 0, 3, 0, 1, 0, 2]),
 ([3, 7, 8, 8], [0, 0, 0, 0, 1, 0, 2, 3, 0, 0, 1, 0, 0, 2, 0, 3, 0, 1, 0, 0, 2, 0, 3]),
 ([3, 8, 8, 8], [0, 0, 0, 0, 1, 0, 2, 3, 0, 0, 0, 1, 0, 2, 0, 3, 0, 0, 1, 0, 2, 0, 3]),
 ([4, 4, 4, 4], [0, 1, 2, 3, 0, 1, 2]),
 ([4, 4, 4, 5], [0, 1, 2, 0, 3, 1, 2, 0, 1, 3, 2, 0, 1, 2, 3, 0, 1, 2]),
 ([4, 4, 4, 6], [0, 1, 2, 0, 1, 3, 2, 0, 1, 2, 0, 3, 1, 2, 0, 1, 2, 3, 0, 1, 2]),
 ([4, 4, 4, 7], [0, 1, 2, 0, 1, 2, 3, 0, 1, 2]),
 ([4, 4, 4, 8], [0, 1, 2, 0, 1, 2, 0, 3, 1, 2, 0, 1, 2, 0, 1, 3, 2, 0, 1, 2, 0, 1, 2, 3, 0, 1, 2]),
 ([4, 4, 5, 5], [0, 1, 0, 2, 3, 1, 0, 2, 1, 3, 0, 1, 2, 0, 3, 1, 0, 2]),
 ([4, 4, 5, 6], [0, 1, 0, 2, 1, 3, 0, 1, 2, 0, 1, 3, 0, 2, 1, 0, 3, 1, 2, 0, 1, 3]),
 ([4, 4, 5, 7], [0, 1, 0, 2, 1, 0, 3, 1, 2, 0, 1, 0, 2, 3, 1, 0, 2, 1, 0, 3]),
 ([4, 4, 5, 8], [0, 1, 0, 2, 1, 0, 3, 1, 2, 0, 1, 0, 2, 1, 3, 0, 1, 2, 0, 1, 0, 2, 3, 1, 0, 2, 1, 0, 1, 2, 3, 0, 1, 2]),
 ([4, 4, 6, 6], [0, 1, 0, 1, 2, 3, 0, 1, 0, 2, 1, 3, 0, 1, 2, 0, 1, 3, 0, 1, 2]),
 ([4, 4, 6, 7], [0, 1, 0, 1, 2, 0, 3, 1, 0, 2, 1, 0, 3, 1, 0, 2]),
 ([4, 4, 6, 8], [0, 1, 0, 1, 2, 0, 1, 3, 0, 1, 2, 0, 1, 0, 3, 1, 2, 0, 1, 0, 1, 2, 3, 0, 1, 0, 2, 1, 0, 3, 1, 0, 2, 1, 0, 1, 3, 0, 2, 1, 0, 1, 0, 2, 3, 1, 0, 1, 2, 0, 1, 3]),
 ([4, 4, 7, 7], [0, 1, 0, 1, 0, 2, 3, 1, 0, 1, 0, 2, 1, 3, 0, 1, 0, 2, 1, 0, 3, 1, 0, 2, 1, 0, 3]),
 ([4, 4, 7, 8], [0, 1, 0, 1, 0, 2, 1, 3, 0, 1, 0, 2, 1, 0, 3, 1, 0, 2, 1, 0, 1, 3, 0, 1, 2, 0, 1, 0, 3, 1, 0, 2]),
 ([4, 4, 8, 8], [0, 1, 0, 1, 0, 1, 2, 3, 0, 1, 0, 1, 0, 2, 1, 3, 0, 1, 0, 1, 2, 0, 1, 3, 0, 1, 0, 2, 1, 0, 3, 1, 0, 1, 2, 0, 1, 3]),
 ([4, 5, 5, 5], [0, 0, 1, 2, 3, 0, 1, 2, 0, 3, 1, 0, 2, 3, 0, 1]),
 ([4, 5, 5, 6], [0, 0, 1, 2, 0, 3, 1, 0, 2, 0, 1, 3, 0, 2, 1, 0, 3, 2, 0, 1, 0, 2, 3, 0, 1, 2, 0, 3]),
 ([4, 5, 5, 7], [0, 0, 1, 2, 0, 3, 1, 0, 2, 0, 1, 3, 0, 2, 1, 0, 2, 3, 0, 1, 2, 0, 1]),
 ([4, 5, 5, 8], [0, 0, 1, 2, 0, 1, 3, 0, 2, 1, 0, 2, 0, 1, 3]),
 ([4, 5, 6, 6], [0, 0, 1, 0, 2, 3, 0, 1, 0, 2, 3]),
 ([4, 5, 6, 7], [0, 0, 1, 0, 2, 3, 0, 1, 0, 2, 0, 1, 3, 0, 2, 1, 0, 3, 0, 1, 2, 0, 1, 3]),
 ([4, 5, 6, 8], [0, 0, 1, 0, 2, 0, 1, 3, 0, 2, 1, 0, 0, 1, 2, 3, 0, 1, 0, 2, 0, 1, 3]),
 ([4, 5, 7, 7], [0, 0, 1, 0, 2, 3, 0, 1, 0, 2, 0, 1, 3, 0, 1, 2, 0, 1, 3]),
 ([4, 5, 7, 8], [0, 0, 1, 0, 2, 0, 1, 3, 0, 1, 2, 0, 1, 0, 3, 0, 1, 2]),
 ([4, 5, 8, 8], [0, 0, 1, 0, 0, 1, 2, 3, 0, 1, 0, 0, 1, 2, 0, 3, 1, 0, 0, 1, 2, 0, 3]),
 ([4, 6, 6, 6], [0, 0, 0, 1, 2, 3, 0, 1, 0, 2, 3, 0, 1]),
 ([4, 6, 6, 7], [0, 0, 0, 1, 2, 0, 3, 0, 1, 2, 0, 3]),
 ([4, 6, 6, 8], [0, 0, 0, 1, 2, 0, 3, 0, 1, 2, 0, 0, 1, 3, 0, 2, 0, 1, 0, 2, 3, 0, 1, 0, 2, 0, 1, 3, 0, 2]),
 ([4, 6, 7, 7], [0, 0, 0, 1, 0, 2, 3, 0, 1, 0, 2, 0, 3, 1, 0, 2, 0, 1, 3, 0, 2, 0, 1, 0, 3, 0, 2, 1, 0, 3, 0, 1, 2, 0, 3, 0, 1, 0, 2]),
 ([4, 6, 7, 8], [0, 0, 0, 1, 0, 2, 3, 0, 1, 0, 2, 0, 1, 3, 0, 2, 0, 1, 0, 3, 0, 2, 1, 0, 0, 3, 0, 1, 2, 0, 0, 1, 3, 0, 2]),
 ([4, 6, 8, 8], [0, 0, 0, 1, 0, 2, 3, 0, 1, 0, 0, 2, 0, 1, 3, 0, 0, 1, 2, 0, 3, 0, 1, 0, 2, 0, 1, 3]),
 ([4, 7, 7, 7], [0, 0, 0, 0, 1, 2, 3, 0, 0, 1, 0, 2, 3, 0, 1, 0, 2, 0, 3, 0, 1, 0, 2]),
 ([4, 7, 7, 8], [0, 0, 0, 0, 1, 2, 0, 3, 0, 1, 0, 2, 0, 3, 0, 1]),
 ([4, 7, 8, 8], [0, 0, 0, 0, 1, 0, 2, 3, 0, 1, 0, 0, 2, 0, 3, 1, 0, 0, 2, 0, 1, 3, 0, 0, 2, 0, 1, 0, 3, 0, 2, 0, 1, 0, 3]),
 ([4, 8, 8, 8], [0, 0, 0, 0, 0, 1, 2, 3, 0, 0, 0, 1, 0, 2, 3, 0, 0, 1, 0, 2, 0, 3, 0, 1, 0, 2, 0, 3]),
 ([5, 5, 5, 5], [0, 1, 2, 3, 0, 1, 2]),
 ([5, 5, 5, 6], [0, 1, 2, 0, 3, 1, 2, 0, 1, 3, 2, 0, 1, 2, 3, 0, 1, 2]),
 ([5, 5, 5, 7], [0, 1, 2, 0, 1, 3, 2, 0, 1, 2, 0, 3, 1, 2, 0, 1, 2, 3, 0, 1, 2]),
 ([5, 5, 5, 8], [0, 1, 2, 0, 1, 2, 3, 0, 1, 2]),
 ([5, 5, 6, 6], [0, 1, 0, 2, 3, 1, 0, 2, 1, 3, 0, 1, 2, 0, 3, 1, 0, 2]),
 ([5, 5, 6, 7], [0, 1, 0, 2, 1, 3, 0, 1, 2, 0, 1, 3, 0, 2, 1, 0, 3, 1, 2, 0, 1, 3]),
 ([5, 5, 6, 8], [0, 1, 0, 2, 1, 0, 3, 1, 2, 0, 1, 0, 2, 3, 1, 0, 2, 1, 0, 3]),
 ([5, 5, 7, 7], [0, 1, 0, 1, 2, 3, 0, 1, 0, 2, 1, 3, 0, 1, 2, 0, 1, 3, 0, 1, 2]),
 ([5, 5, 7, 8], [0, 1, 0, 1, 2, 0, 3, 1, 0, 2, 1, 0, 3, 1, 0, 2]),
 ([5, 5, 8, 8], [0, 1, 0, 1, 0, 2, 3, 1, 0, 1, 0, 2, 1, 3, 0, 1, 0, 2, 1, 0, 3, 1, 0, 2, 1, 0, 3]),
 ([5, 6, 6, 6], [0, 0, 1, 2, 3, 0, 1, 2, 0, 3, 1, 0, 2, 3, 0, 1]),
 ([5, 6, 6, 7], [0, 0, 1, 2, 0, 3, 1, 0, 2, 0, 1, 3, 0, 2, 1, 0, 3, 2, 0, 1, 0, 2, 3, 0, 1, 2, 0, 3]),
 ([5, 6, 6, 8], [0, 0, 1, 2, 0, 3, 1, 0, 2, 0, 1, 3, 0, 2, 1, 0, 2, 3, 0, 1, 2, 0, 1]),
 ([5, 6, 7, 7], [0, 0, 1, 0, 2, 3, 0, 1, 0, 2, 3]),
 ([5, 6, 7, 8], [0, 0, 1, 0, 2, 3, 0, 1, 0, 2, 0, 1, 3, 0, 2, 1, 0, 3, 0, 1, 2, 0, 1, 3]),
 ([5, 6, 8, 8], [0, 0, 1, 0, 2, 3, 0, 1, 0, 2, 0, 1, 3, 0, 1, 2, 0, 1, 3]),
 ([5, 7, 7, 7], [0, 0, 0, 1, 2, 3, 0, 1, 0, 2, 3, 0, 1]),
 ([5, 7, 7, 8], [0, 0, 0, 1, 2, 0, 3, 0, 1, 2, 0, 3]),
 ([5, 7, 8, 8], [0, 0, 0, 1, 0, 2, 3, 0, 1, 0, 2, 0, 3, 1, 0, 2, 0, 1, 3, 0, 2, 0, 1, 0, 3, 0, 2, 1, 0, 3, 0, 1, 2, 0, 3, 0, 1, 0, 2]),
 ([5, 8, 8, 8], [0, 0, 0, 0, 1, 2, 3, 0, 0, 1, 0, 2, 3, 0, 1, 0, 2, 0, 3, 0, 1, 0, 2]),
 ([6, 6, 6, 6], [0, 1, 2, 3, 0, 1, 2]),
 ([6, 6, 6, 7], [0, 1, 2, 0, 3, 1, 2, 0, 1, 3, 2, 0, 1, 2, 3, 0, 1, 2]),
 ([6, 6, 6, 8], [0, 1, 2, 0, 1, 3, 2, 0, 1, 2, 0, 3, 1, 2, 0, 1, 2, 3, 0, 1, 2]),
 ([6, 6, 7, 7], [0, 1, 0, 2, 3, 1, 0, 2, 1, 3, 0, 1, 2, 0, 3, 1, 0, 2]),
 ([6, 6, 7, 8], [0, 1, 0, 2, 1, 3, 0, 1, 2, 0, 1, 3, 0, 2, 1, 0, 3, 1, 2, 0, 1, 3]),
 ([6, 6, 8, 8], [0, 1, 0, 1, 2, 3, 0, 1, 0, 2, 1, 3, 0, 1, 2, 0, 1, 3, 0, 1, 2]),
 ([6, 7, 7, 7], [0, 0, 1, 2, 3, 0, 1, 2, 0, 3, 1, 0, 2, 3, 0, 1]),
 ([6, 7, 7, 8], [0, 0, 1, 2, 0, 3, 1, 0, 2, 0, 1, 3, 0, 2, 1, 0, 3, 2, 0, 1, 0, 2, 3, 0, 1, 2, 0, 3]),
 ([6, 7, 8, 8], [0, 0, 1, 0, 2, 3, 0, 1, 0, 2, 3]),
 ([7, 7, 7, 7], [0, 1, 2, 3, 0, 1, 2]),
 ([7, 7, 7, 8], [0, 1, 2, 0, 3, 1, 2, 0, 1, 3, 2, 0, 1, 2, 3, 0, 1, 2])]
def ahead (s : List Int) (c i : Int) : Bool := decide (rd s i < rd s c) || (decide (rd s i = rd s c) && decide (i < c))
def stepOk (v s : List Int) (c : Int) : Bool := (List.range v.length).all fun i : Nat => !(ahead s c (i : Int)) || (match nx v s (i : Int) with
 | none => true
 | some t => !(K v 20 t))
def walkOk (v : List Int) : List Int → List (List Int) → List Int → Bool
 | [], seen, s => seen.contains s
 | c :: p, seen, s => decide (0 ≤ c) && decide (c < v.length) && stepOk v s c && (match nx v s c with
  | none => false
  | some t => walkOk v p (s :: seen) t)
def certOk (x : List Int × List Int) : Bool := walkOk x.1 x.2 [] x.1 && decide (x.2.length ≤ 100)
def srt : Nat → Nat → List (List Int)
 | 0, _ => [[]]
 | n + 1, m => ((List.range 9).filter fun a => decide (m ≤ a)).flatMap fun a => (srt n a).map fun l => (a : Int) :: l
def known (v : List Int) : Bool := decide (3000 < prodI v) || decide (840 < dsum v) || certs.any (fun x => x.1 == v) || !(K v 20 v)
set_option maxRecDepth 100000 in
theorem certs_ok : certs.all certOk = true := by decide +kernel
set_option maxRecDepth 100000 in
theorem known1 : (srt 1 1).all known = true := by decide +kernel
set_option maxRecDepth 100000 in
theorem known2 : (srt 2 1).all known = true := by decide +kernel
set_option maxRecDepth 100000 in
theorem known3 : (srt 3 1).all known = true := by decide +kernel
set_option maxRecDepth 100000 in
theorem known4 : (srt 4 1).all known = true := by decide +kernel
set_option maxRecDepth 100000 in
theorem known5 : (srt 5 1).all known = true := by decide +kernel
theorem chs_cons (n : Nat) : chs n = -1 :: idx n := by
 unfold chs idx
 rw [List.range_succ_eq_map, List.map_cons, List.map_map]
 congr 1
 refine List.map_congr_left fun i _ => ?_
 simp only [Function.comp]
 omega
def secs (w : List Int) (k : Nat) (s : List Int) : List Int := (idx w.length).filter fun c => good w k s c
theorem mem_idx {n : Nat} {c : Int} : c ∈ idx n ↔ 0 ≤ c ∧ c < n := by
 unfold idx
 rw [List.mem_map]
 constructor
 ·rintro ⟨i, hi, rfl⟩; rw [List.mem_range] at hi; omega
 ·intro h; exact ⟨c.toNat, by rw [List.mem_range]; omega, by omega⟩
theorem mem_secs {w s : List Int} {k : Nat} {c : Int} : c ∈ secs w k s ↔ (0 ≤ c ∧ c < w.length) ∧ good w k s c = true := by
 unfold secs; rw [List.mem_filter, mem_idx]
theorem secs_len (w : List Int) (k : Nat) (s : List Int) : (secs w k s).length ≤ w.length := by
 unfold secs
 refine Nat.le_trans (List.length_filter_le _ _) ?_
 simp [idx]
theorem secs_lt {w s : List Int} {k p q : Nat} (hpq : p < q) (hq : q < (secs w k s).length) : rd (secs w k s) (p : Int) < rd (secs w k s) (q : Int) := by
 have h : (secs w k s).Pairwise (· < ·) := by
  refine List.Pairwise.filter _ ?_
  unfold idx
  rw [List.pairwise_map]
  exact List.Pairwise.imp (fun h => by omega) List.pairwise_lt_range
 rw [rd_get (by omega), rd_get hq]
 exact List.pairwise_iff_getElem.1 h p q (by omega) hq hpq
theorem chsOf_secs (w : List Int) (k : Nat) (s : List Int) : chsOf w k s = if good w k s (-1) = true then -1 :: secs w k s else secs w k s := by
 unfold chsOf secs
 rw [chs_cons, List.filter_cons]
theorem del_loop {r : List Int} (hr : ∀ a ∈ r, a ≠ -1) (hl : r.length ≤ 100) : ∀ (d i : Nat), r.length - i = d → i ≤ r.length → Ev (fun k => slices_DeleteFunc_int_int.l0 k (r.take i ++ (-1 :: r).drop i) ice_game_urgent_1.f i ((i + 1 : Nat) : Int)) r
 | 0, i, hd, hi => by
  obtain rfl : i = r.length := by omega
  refine ev_some _ fun k => ?_
  have hll : (r.take r.length ++ (-1 :: r).drop r.length).length = r.length + 1 := by rw [List.length_append, List.length_take, List.length_drop, List.length_cons]; omega
  rw [slices_DeleteFunc_int_int.l0, if_neg (by rw [hll]; omega), if_pos (by omega), if_pos (by rw [hll]; omega)]
  simp
 | d + 1, i, hd, hi => by
  have hll : (r.take i ++ (-1 :: r).drop i).length = r.length + 1 := by simp; omega
  have hrd : rd (r.take i ++ (-1 :: r).drop i) ((i + 1 : Nat) : Int) = r[i]'(by omega) := by
   rw [rd_get (by rw [hll]; omega), List.getElem_append_right (by simp; omega)]
   simp only [List.getElem_drop]
   have e : i + (i + 1 - (r.take i).length) = i + 1 := by rw [List.length_take]; omega
   simp only [e, List.getElem_cons_succ]
  have hne : r[i]'(by omega) ≠ -1 := hr _ (List.getElem_mem _)
  have hset : (r.take i ++ (-1 :: r).drop i).set i (r[i]'(by omega)) = r.take (i + 1) ++ (-1 :: r).drop (i + 1) := by
   rw [List.set_append_right _ _ (by simp; omega)]
   have e : i - (r.take i).length = 0 := by rw [List.length_take]; omega
   have ht : r.take (i + 1) = r.take i ++ [r[i]'(by omega)] := by rw [List.take_add_one, List.getElem?_eq_getElem (by omega)]; rfl
   rw [e, List.drop_eq_getElem_cons (show i < (-1 :: r).length by simp; omega), List.set_cons_zero, ht, List.append_assoc]
   rfl
  refine Ev.step (f := fun k => slices_DeleteFunc_int_int.l0 k (r.take (i + 1) ++ (-1 :: r).drop (i + 1)) ice_game_urgent_1.f ((i + 1 : Nat) : Int) ((i + 1 + 1 : Nat) : Int)) (fun k => ?_) (del_loop hr hl d (i + 1) (by omega) (by omega))
  rw [slices_DeleteFunc_int_int.l0, if_pos (by rw [hll]; omega), if_pos (by omega), hrd]
  unfold ice_game_urgent_1.f
  simp only [Option.bind_some]
  rw [if_neg (by simpa using hne), if_pos (by omega), if_pos (by rw [hll]; omega), wsucc i (by omega), wsucc (i + 1) (by omega)]
  rw [show ((i : Int)).toNat = i from by omega, hset]
theorem del_ev {r : List Int} (hr : ∀ a ∈ r, a ≠ -1) (hl : r.length ≤ 100) (b : Bool) : Ev (fun k => slices_DeleteFunc_int_int.f k (if b = true then -1 :: r else r) ice_game_urgent_1.f) r := by
 have hp : ∀ l : List Int, ∀ j, j < l.length → ice_game_urgent_1.f (rd l (j : Int)) = some (decide (rd l (j : Int) = -1)) := fun l j _ => by
  unfold ice_game_urgent_1.f
  congr 1
 cases b with
 | false =>
  simp only [Bool.false_eq_true, if_false]
  obtain ⟨t, e, ht⟩ := index_int_loop (l := r) (by omega) (hp r) r.length 0 (by omega) (by omega) (by omega)
  have e1 : Ev (fun k => slices_IndexFunc_int_int.f k r ice_game_urgent_1.f) t := e
  have t1 : t = -1 := by
   rcases ht with ⟨h, _⟩ | ⟨k, _, hk, h, _⟩
   ·exact h
   ·exact absurd h (hr _ (by rw [rd_get hk]; exact List.getElem_mem _))
  subst t1
  exact Ev.bind e1 (by simp only [if_true]; exact Ev.now _)
 | true =>
  simp only [if_true]
  obtain ⟨t, e, ht⟩ := index_int_loop (l := -1 :: r) (by simp; omega) (hp (-1 :: r)) (-1 :: r).length 0 (by omega) (by omega) (by omega)
  have e1 : Ev (fun k => slices_IndexFunc_int_int.f k (-1 :: r) ice_game_urgent_1.f) t := e
  have t1 : t = 0 := by
   rcases ht with ⟨_, h⟩ | ⟨k, h, hk, _, h2⟩
   ·exact absurd (rdc0 (-1) r) (h 0 (by simp))
   ·by_cases z : k = 0
    ·subst z; exact h
    ·exact absurd (rdc0 (-1) r) (h2 0 (by omega))
  subst t1
  refine Ev.bind e1 ?_
  have := del_loop hr hl r.length 0 (by omega) (by omega)
  simp only [List.take_zero, List.nil_append, List.drop_zero] at this
  refine Ev.congr (fun n => ?_) this
  rw [if_neg (show ¬ (0 : Int) = -1 by decide), show wrap64 ((0 : Int) + 1) = ((0 + 1 : Nat) : Int) from wsucc 0 (by omega)]
  rfl
/-- The first one of the least: what MinFunc tells. -/
theorem min_loop {r : List Int} (hl : r.length ≤ 100) {v : Int → Int} {fn : Int → Int → Option Int} (hf : ∀ a b, a ∈ r → b ∈ r → ∃ z : Int, fn a b = some z ∧ (z < 0 ↔ v a < v b)) : ∀ (d i p : Nat), r.length - i = d → i ≤ r.length → p < i →
  (∀ q, q < p → v (rd r (p : Int)) < v (rd r (q : Int))) → (∀ q, p ≤ q → q < i → v (rd r (p : Int)) ≤ v (rd r (q : Int))) →
  ∃ p', p' < r.length ∧ (∀ q, q < p' → v (rd r (p' : Int)) < v (rd r (q : Int))) ∧ (∀ q, p' ≤ q → q < r.length → v (rd r (p' : Int)) ≤ v (rd r (q : Int))) ∧ Ev (fun k => slices_MinFunc_int_int.l0 k r fn (rd r (p : Int)) (i : Int)) (rd r (p' : Int))
 | 0, i, p, hd, hi, hp, h1, h2 => ⟨p, by omega, h1, fun q hq hq2 => h2 q hq (by omega), ev_some _ fun k => by rw [slices_MinFunc_int_int.l0, if_neg (by omega)]⟩
 | d + 1, i, p, hd, hi, hp, h1, h2 => by
  have mi : rd r (i : Int) ∈ r := by rw [rd_get (by omega)]; exact List.getElem_mem _
  have mp : rd r (p : Int) ∈ r := by rw [rd_get (by omega)]; exact List.getElem_mem _
  obtain ⟨z, hz, hlt⟩ := hf _ _ mi mp
  by_cases c : v (rd r (i : Int)) < v (rd r (p : Int))
  ·obtain ⟨p', g1, g2, g3, e⟩ := min_loop hl hf d (i + 1) i (by omega) (by omega) (by omega) (fun q hq => by
    by_cases hqp : q < p
    ·have := h1 q hqp; omega
    ·have := h2 q (by omega) hq; omega) (fun q hq hq2 => by
    obtain rfl : q = i := by omega
    exact Int.le_refl _)
   refine ⟨p', g1, g2, g3, Ev.step (f := fun k => slices_MinFunc_int_int.l0 k r fn (rd r (i : Int)) ((i + 1 : Nat) : Int)) (fun k => ?_) e⟩
   rw [slices_MinFunc_int_int.l0, if_pos (by omega), if_pos (by omega), hz]
   simp only [Option.bind_some]
   rw [if_pos (hlt.2 c), wsucc i (by omega)]
  ·obtain ⟨p', g1, g2, g3, e⟩ := min_loop hl hf d (i + 1) p (by omega) (by omega) (by omega) h1 (fun q hq hq2 => by
    by_cases hqi : q = i
    ·subst hqi; omega
    ·exact h2 q hq (by omega))
   refine ⟨p', g1, g2, g3, Ev.step (f := fun k => slices_MinFunc_int_int.l0 k r fn (rd r (p : Int)) ((i + 1 : Nat) : Int)) (fun k => ?_) e⟩
   rw [slices_MinFunc_int_int.l0, if_pos (by omega), if_pos (by omega), hz]
   simp only [Option.bind_some]
   rw [if_neg (fun h => c (hlt.1 h)), wsucc i (by omega)]
theorem min_ev {r : List Int} (h0 : 0 < r.length) (hl : r.length ≤ 100) {v : Int → Int} {fn : Int → Int → Option Int} (hf : ∀ a b, a ∈ r → b ∈ r → ∃ z : Int, fn a b = some z ∧ (z < 0 ↔ v a < v b)) :
  ∃ p', p' < r.length ∧ (∀ q, q < p' → v (rd r (p' : Int)) < v (rd r (q : Int))) ∧ (∀ q, p' ≤ q → q < r.length → v (rd r (p' : Int)) ≤ v (rd r (q : Int))) ∧ Ev (fun k => slices_MinFunc_int_int.f k r fn) (rd r (p' : Int)) := by
 obtain ⟨p', g1, g2, g3, e⟩ := min_loop hl hf (r.length - 1) 1 0 (by omega) (by omega) (by omega) (fun q hq => by omega) (fun q hq hq2 => by
  obtain rfl : q = 0 := by omega
  exact Int.le_refl _)
 refine ⟨p', g1, g2, g3, Ev.congr (fun k => ?_) e⟩
 unfold slices_MinFunc_int_int.f
 rw [if_neg (by omega), if_pos (by omega)]
 rfl
/-- c is the section that is scraped: the first one of those with the least digit by which it can go on. -/
def FM (w : List Int) (k : Nat) (s : List Int) (c : Int) : Prop := 0 ≤ c ∧ c < w.length ∧ good w k s c = true ∧ ∀ c' : Int, 0 ≤ c' → c' < w.length → ahead s c c' = true → good w k s c' = false
theorem FM_unique {w : List Int} {k : Nat} {s : List Int} {c c' : Int} (h : FM w k s c) (h' : FM w k s c') : c = c' := by
 obtain ⟨a1, a2, a3, a4⟩ := h
 obtain ⟨b1, b2, b3, b4⟩ := h'
 have x1 : ¬ ahead s c c' = true := fun z => by rw [a4 c' b1 b2 z] at b3; cases b3
 have x2 : ¬ ahead s c' c = true := fun z => by rw [b4 c a1 a2 z] at a3; cases a3
 simp only [ahead, Bool.or_eq_true, Bool.and_eq_true, decide_eq_true_eq, not_or, not_and] at x1 x2
 have := x1.1
 have := x2.1
 have := x1.2
 have := x2.2
 omega
theorem urgent_ev {w s : List Int} (o : okW w) (h : okSt w s) (k0 : Nat) (hk : K w (k0 + 1) s = true) : ∃ c, FM w k0 s c ∧ Ev (fun k => ice_game_urgent.f k w (bys w) (prodI w) (numL w s) (setL w k0)) (c, prodI w) := by
 have ol := o.1.2
 have hne : 0 < (secs w k0 s).length := by
  obtain ⟨c, t, h1, h2, h3, h4⟩ := K_succ.1 hk
  have : ∃ c, c ∈ secs w k0 s := by
   by_cases c0 : c = -1
   ·subst c0
    obtain ⟨g1, g2⟩ := K_some h h3 h4 (c := 0) (by omega) (by have := o.1.1; omega)
    exact ⟨0, mem_secs.2 ⟨⟨by omega, by have := o.1.1; omega⟩, good_iff.2 ⟨_, g1, g2⟩⟩⟩
   ·exact ⟨c, mem_secs.2 ⟨⟨by omega, h2⟩, good_iff.2 ⟨t, h3, h4⟩⟩⟩
  obtain ⟨c, hc⟩ := this
  exact List.length_pos_of_mem hc
 have hsl := secs_len w k0 s
 obtain ⟨p, g1, g2, g3, e⟩ := min_ev (r := secs w k0 s) hne (by omega) (v := fun c => rd s c) (fn := ice_game_urgent_2.f w (bys w) (prodI w) (numL w s)) (fun a b ha hb => by
  obtain ⟨⟨a1, a2⟩, _⟩ := mem_secs.1 ha
  obtain ⟨⟨b1, b2⟩, _⟩ := mem_secs.1 hb
  have ea := digit_some o h (prodI w) (i := a.toNat) (by omega)
  have eb := digit_some o h (prodI w) (i := b.toNat) (by omega)
  rw [show ((a.toNat : Nat) : Int) = a by omega] at ea
  rw [show ((b.toNat : Nat) : Int) = b by omega] at eb
  refine ⟨if rd s a < rd s b then -1 else if rd s a > rd s b then 1 else 0, ?_, ?_⟩
  ·unfold ice_game_urgent_2.f
   rw [ea, eb]
   simp only [Option.bind_some]
   exact cmp_val _ _
  ·by_cases c : rd s a < rd s b
   ·rw [if_pos c]; simp [c]
   ·rw [if_neg c]; simp only [c, iff_false]; split <;> decide)
 obtain ⟨⟨m1, m2⟩, m3⟩ := mem_secs.1 (show rd (secs w k0 s) (p : Int) ∈ secs w k0 s by rw [rd_get g1]; exact List.getElem_mem _)
 refine ⟨rd (secs w k0 s) (p : Int), ⟨m1, m2, m3, fun c' c1 c2 ha => ?_⟩, ?_⟩
 ·rw [Bool.eq_false_iff]
  intro hg
  obtain ⟨q, hq, eq_⟩ := List.getElem_of_mem (mem_secs.2 ⟨⟨c1, c2⟩, hg⟩)
  have eq2 : rd (secs w k0 s) (q : Int) = c' := by rw [rd_get hq]; exact eq_
  subst eq2
  simp only [ahead, Bool.or_eq_true, Bool.and_eq_true, decide_eq_true_eq] at ha
  rcases Nat.lt_or_ge q p with z | z
  ·have := g2 q z
   omega
  ·have := g3 q z hq
   rcases ha with ha | ⟨_, ha⟩
   ·omega
   ·rcases Nat.eq_or_lt_of_le z with z | z
    ·subst z; omega
    ·have := secs_lt z hq
     omega
 ·have e0 := choices_ev o h k0
  rw [chsOf_secs] at e0
  exact Ev.bind e0 (Ev.bind (del_ev (fun a ha => by have := (mem_secs.1 ha).1; omega) (by omega) (good w k0 s (-1))) (Ev.bind e (Ev.now _)))
theorem toN {x : Int} {n : Nat} (h : 0 ≤ x ∧ x < n) : ∃ i : Nat, i < n ∧ x = i := ⟨x.toNat, by omega, by omega⟩
theorem app_okW {n : Nat} {o w : List Int} (ho : isOrd n o) (hw : w.length = n) (h : okW w) : okW (app o w) := by
 obtain ⟨l, b, _, _⟩ := ho
 refine ⟨by rw [app_len, l, ← hw]; exact h.1, fun i hi => ?_⟩
 rw [app_len] at hi
 rw [app_rd hi]
 obtain ⟨j, hj, e⟩ := toN (b i (by omega))
 rw [e]
 exact h.2 j (by omega)
theorem K_perm {n : Nat} {o w : List Int} (ho : isOrd n o) (hw : w.length = n) : ∀ {k : Nat} {s : List Int}, okSt w s → (K w k s = true ↔ K (app o w) k (app o s) = true)
 | 0, s, h => ⟨fun _ => rfl, fun _ => rfl⟩
 | k + 1, s, h => by
  obtain ⟨l, b, inj, sur⟩ := id ho
  have hs := okSt_len h
  have hla : (app o w).length = n := by rw [app_len, l]
  constructor
  ·intro e
   obtain ⟨c, t, h1, h2, h3, h4⟩ := K_succ.1 e
   have ot := nx_ok h h3
   obtain ⟨z1, z2⟩ := (nx_iff hs).1 h3
   obtain ⟨c', c1, c2, c3⟩ : ∃ c' : Int, -1 ≤ c' ∧ c' < n ∧ ∀ i, i < n → ((i : Int) = c' ↔ rd o (i : Int) = c) := by
    by_cases c0 : c = -1
    ·exact ⟨-1, by omega, by omega, fun i hi => by have := b i hi; omega⟩
    ·obtain ⟨q, hq, eq_⟩ := sur c.toNat (by omega)
     refine ⟨q, by omega, by omega, fun i hi => ⟨fun e => ?_, fun e => ?_⟩⟩
     ·rw [show i = q by omega, eq_]; omega
     ·have := inj i q hi hq (by rw [e, eq_]; omega)
      omega
   refine K_succ.2 ⟨c', app o t, c1, by rw [hla]; exact c2, (nx_iff (by rw [app_len, app_len])).2 ⟨by rw [app_len, app_len], fun i hi => ?_⟩, (K_perm ho hw ot).1 h4⟩
   rw [hla] at hi
   rw [app_rd (by omega), app_rd (by omega), app_rd (by omega)]
   obtain ⟨q, hq, eq_⟩ := toN (b i hi)
   have := z2 q (by omega)
   rw [eq_]
   have e3 : ((i : Int) = c') = ((q : Int) = c) := propext (by rw [c3 i hi, eq_])
   simp only [e3]
   exact this
  ·intro e
   obtain ⟨c', t', h1, h2, h3, h4⟩ := K_succ.1 e
   obtain ⟨z1, z2⟩ := (nx_iff (by rw [app_len, app_len])).1 h3
   obtain ⟨c, c1, c2, c3⟩ : ∃ c : Int, -1 ≤ c ∧ c < n ∧ ∀ i, i < n → ((i : Int) = c' ↔ rd o (i : Int) = c) := by
    by_cases c0 : c' = -1
    ·exact ⟨-1, by omega, by omega, fun i hi => by have := b i hi; omega⟩
    ·rw [hla] at h2
     obtain ⟨q, hq, eq_⟩ := toN (x := c') (n := n) (by omega)
     subst eq_
     have := b q hq
     refine ⟨rd o (q : Int), by omega, by omega, fun i hi => ⟨fun e => by rw [e], fun e => ?_⟩⟩
     have := inj i q hi hq e
     omega
   have h5 : nx w s c = some (nxt w s c) := nx_some hs fun i hi => by
    obtain ⟨q, hq, eq_⟩ := sur i (by omega)
    have := z2 q (by rw [hla]; exact hq)
    rw [app_rd (by omega), app_rd (by omega), eq_] at this
    have e3 : ((q : Int) = c') = ((i : Int) = c) := propext (by rw [c3 q hq, eq_])
    simp only [e3] at this
    rw [nxt_rd hi, ← this.1]
    exact this.2
   have ot := nx_ok h h5
   have et : app o (nxt w s c) = t' := by
    refine ext_rd (by rw [app_len, z1, app_len]) fun i hi => ?_
    rw [app_len] at hi
    rw [app_rd hi, (z2 i (by rw [app_len]; exact hi)).1]
    obtain ⟨q, hq, eq_⟩ := toN (b i (by omega))
    rw [app_rd hi, app_rd hi, eq_, nxt_rd (by omega)]
    have e3 : ((i : Int) = c') = ((q : Int) = c) := propext (by rw [c3 i (by omega), eq_])
    simp only [e3]
   exact K_succ.2 ⟨c, _, c1, by omega, h5, (K_perm ho hw ot).2 (by rw [et]; exact h4)⟩
/-- The state that a night leads to, and its choice. -/
theorem FM_ever {v s : List Int} (o : okW v) (h : okSt v s) (hk : K v (inf v) s = true) : ∃ c, FM v (inf v) s c := by
 obtain ⟨c, hc, _⟩ := urgent_ev o h (inf v) (K_ever o h hk _)
 exact ⟨c, hc⟩
open Classical in
noncomputable def chX (v s : List Int) : Int := if h : ∃ c, FM v (inf v) s c then h.choose else 0
theorem chX_eq {v s : List Int} {c : Int} (h : FM v (inf v) s c) : chX v s = c := by
 unfold chX
 rw [dif_pos ⟨c, h⟩]
 exact FM_unique (Exists.choose_spec (⟨c, h⟩ : ∃ c, FM v (inf v) s c)) h
noncomputable def st (v : List Int) : Nat → List Int
 | 0 => v
 | i + 1 => nxt v (st v i) (chX v (st v i))
noncomputable def ch (v : List Int) (i : Nat) : Int := chX v (st v i)
theorem FM_next {v s : List Int} {c : Int} (h : okSt v s) (hf : FM v (inf v) s c) : nx v s c = some (nxt v s c) ∧ K v (inf v) (nxt v s c) = true := by
 obtain ⟨t, h1, h2⟩ := good_iff.1 hf.2.2.1
 have := nx_nxt (okSt_len h) h1
 subst this
 exact ⟨h1, h2⟩
theorem st_ok {v : List Int} (o : okW v) (hk : K v (inf v) v = true) : ∀ i, okSt v (st v i) ∧ K v (inf v) (st v i) = true ∧ FM v (inf v) (st v i) (ch v i) ∧ nx v (st v i) (ch v i) = some (st v (i + 1))
 | 0 => by
  have h := (num_first (okW_pos o)).1
  obtain ⟨c, hc⟩ := FM_ever o h hk
  have e : ch v 0 = c := chX_eq hc
  exact ⟨h, hk, by rw [e]; exact hc, (FM_next h (by rw [e]; exact hc)).1⟩
 | i + 1 => by
  obtain ⟨h1, h2, h3, h4⟩ := st_ok o hk i
  have h := nx_ok h1 h4
  have hk2 : K v (inf v) (st v (i + 1)) = true := (FM_next h1 h3).2
  obtain ⟨c, hc⟩ := FM_ever o h hk2
  have e : ch v (i + 1) = c := chX_eq hc
  exact ⟨h, hk2, by rw [e]; exact hc, (FM_next h (by rw [e]; exact hc)).1⟩
/-- The gaps in a list whose nights lead round. -/
theorem gaps_of {v L : List Int} (hL : 1 ≤ L.length) (S : Nat → List Int) (ok : ∀ q, okSt v (S q)) (step : ∀ q, nx v (S q) (nt L q) = some (S (q + 1))) : ∀ s, s < v.length → ∃ x : Nat, maxGap L (s : Int) x ∧ 1 ≤ x ∧ (x : Int) ≤ rd v (s : Int) := by
 intro s hs
 have hx : ∀ q, 1 ≤ rd (S q) (s : Int) ∧ rd (S q) (s : Int) ≤ rd v (s : Int) := fun q => (okSt_iff.1 (ok q)).2 s hs
 have hst : ∀ q, rd (S (q + 1)) (s : Int) = if (s : Int) = nt L q then rd v (s : Int) else rd (S q) (s : Int) - 1 := fun q => (((nx_iff (okSt_len (ok q))).1 (step q)).2 s hs).1
 have first : ∀ (d q : Nat), (rd (S q) (s : Int)).toNat = d → ∃ m : Nat, (m : Int) < rd (S q) (s : Int) ∧ nt L (q + m) = s ∧ ∀ j, j < m → nt L (q + j) ≠ s := by
  intro d
  induction d with
  | zero => intro q hd; have := hx q; omega
  | succ d ih =>
   intro q hd
   have h1 := hx q
   by_cases c : nt L q = s
   ·exact ⟨0, by omega, c, fun j hj => by omega⟩
   ·have h2 := hst q
    rw [if_neg (fun e => c e.symm)] at h2
    obtain ⟨m, g1, g2, g3⟩ := ih (q + 1) (by omega)
    refine ⟨m + 1, by omega, by rw [show q + (m + 1) = q + 1 + m by omega]; exact g2, fun j hj => ?_⟩
    cases j with
    | zero => exact c
    | succ j => rw [show q + (j + 1) = q + 1 + j by omega]; exact g3 j (by omega)
 have gap : ∀ a, nt L a = s → ∃ m, isGap L (s : Int) a m ∧ (m : Int) ≤ rd v (s : Int) := by
  intro a ha
  have h2 := hst a
  rw [if_pos ha.symm] at h2
  obtain ⟨m, g1, g2, g3⟩ := first _ (a + 1) rfl
  refine ⟨m + 1, ⟨by omega, by rw [show a + (m + 1) = a + 1 + m by omega]; exact g2, fun j h1 hj => ?_⟩, by omega⟩
  rw [show a + j = a + 1 + (j - 1) by omega]
  exact g3 (j - 1) (by omega)
 have fin : ∀ N, N ≤ L.length → (∀ a, a < N → nt L a ≠ s) ∨ ∃ x : Nat, ((∀ a, a < N → nt L a = s → ∃ m, isGap L (s : Int) a m ∧ m ≤ x) ∧ ∃ a, a < N ∧ nt L a = s ∧ isGap L (s : Int) a x) ∧ 1 ≤ x ∧ (x : Int) ≤ rd v (s : Int) := by
  intro N
  induction N with
  | zero => intro _; exact .inl fun a ha => by omega
  | succ N ih =>
   intro hN
   by_cases c : nt L N = s
   ·obtain ⟨m, gm, hm⟩ := gap N c
    rcases ih (by omega) with h | ⟨x, ⟨h1, a0, ha0, hs0, hg0⟩, h3, h4⟩
    ·refine .inr ⟨m, ⟨fun a ha hs' => ?_, N, by omega, c, gm⟩, gm.1, hm⟩
     by_cases e : a = N
     ·subst e; exact ⟨m, gm, Nat.le_refl _⟩
     ·exact absurd hs' (h a (by omega))
    ·rcases Nat.le_total m x with z | z
     ·refine .inr ⟨x, ⟨fun a ha hs' => ?_, a0, by omega, hs0, hg0⟩, h3, h4⟩
      by_cases e : a = N
      ·subst e; exact ⟨m, gm, z⟩
      ·exact h1 a (by omega) hs'
     ·refine .inr ⟨m, ⟨fun a ha hs' => ?_, N, by omega, c, gm⟩, gm.1, hm⟩
      by_cases e : a = N
      ·subst e; exact ⟨m, gm, Nat.le_refl _⟩
      ·obtain ⟨m', g', h'⟩ := h1 a (by omega) hs'
       exact ⟨m', g', by omega⟩
   ·rcases ih (by omega) with h | ⟨x, ⟨h1, a0, ha0, hs0, hg0⟩, h3, h4⟩
    ·refine .inl fun a ha => ?_
     by_cases e : a = N
     ·subst e; exact c
     ·exact h a (by omega)
    ·refine .inr ⟨x, ⟨fun a ha hs' => ?_, a0, by omega, hs0, hg0⟩, h3, h4⟩
     by_cases e : a = N
     ·subst e; exact absurd hs' c
     ·exact h1 a (by omega) hs'
 rcases fin L.length (Nat.le_refl _) with h | ⟨x, h, h3, h4⟩
 ·exfalso
  obtain ⟨m, _, g2, _⟩ := first _ 0 rfl
  refine h (m % L.length) (Nat.mod_lt _ (by omega)) ?_
  rw [Nat.zero_add] at g2
  unfold nt at g2 ⊢
  rw [Nat.mod_mod]
  exact g2
 ·exact ⟨x, h, h3, h4⟩
/-- .. and read in another order of the sections. -/
theorem rota_map {n : Nat} {o w L : List Int} (ho : isOrd n o) (hw : w.length = n) (hL : 1 ≤ L.length) (hL2 : L.length ≤ 100) (hin : ∀ i, i < L.length → 0 ≤ rd L (i : Int) ∧ rd L (i : Int) < n)
  (g : ∀ s, s < (app o w).length → ∃ x : Nat, maxGap L (s : Int) x ∧ 1 ≤ x ∧ (x : Int) ≤ rd (app o w) (s : Int)) : rota w (L.map fun c => rd o c) := by
 obtain ⟨l, b, inj, sur⟩ := id ho
 have hl : (L.map fun c => rd o c).length = L.length := by simp
 have hr : ∀ i, i < L.length → rd (L.map fun c => rd o c) (i : Int) = rd o (rd L (i : Int)) := fun i hi => by
  rw [rd_get (by rw [hl]; exact hi), rd_get hi]; simp
 have hnt : ∀ (p q : Nat), p < n → (nt (L.map fun c => rd o c) q = rd o (p : Int) ↔ nt L q = p) := fun p q hp => by
  unfold nt
  rw [hl, hr _ (Nat.mod_lt _ (by omega))]
  obtain ⟨z, hz, ez⟩ := toN (hin _ (Nat.mod_lt q (show 0 < L.length by omega)))
  rw [ez]
  constructor
  ·intro e; rw [inj z p hz hp e]
  ·intro e; rw [show z = p by omega]
 refine ⟨⟨by rw [hl]; omega, fun i hi => ?_⟩, fun s hs => ?_⟩
 ·rw [hl] at hi
  rw [hr i hi]
  obtain ⟨z, hz, ez⟩ := toN (hin i hi)
  rw [ez]
  have := b z hz
  omega
 ·obtain ⟨p, hp, ep⟩ := sur s (by omega)
  obtain ⟨x, ⟨h1, a, ha, hs', hg⟩, h3, h4⟩ := g p (by rw [app_len]; omega)
  have hgap : ∀ a m, isGap L (p : Int) a m → isGap (L.map fun c => rd o c) (s : Int) a m := fun a m hg => by
   obtain ⟨g1, g2, g3⟩ := hg
   refine ⟨g1, ?_, fun j j1 j2 => ?_⟩
   ·rw [← ep]; exact (hnt p _ hp).2 g2
   ·rw [← ep]; exact fun e => g3 j j1 j2 ((hnt p _ hp).1 e)
  have e : wv (L.map fun c => rd o c) (s : Int) = x := wv_eq ⟨fun a ha hs' => by
   rw [hl] at ha
   rw [← ep] at hs'
   obtain ⟨m, gm, hm⟩ := h1 a ha ((hnt p a hp).1 hs')
   exact ⟨m, hgap a m gm, hm⟩, a, by rw [hl]; exact ha, by rw [← ep]; exact (hnt p a hp).2 hs', hgap a x hg⟩
  rw [e]
  rw [app_rd (by omega), ep] at h4
  exact ⟨h3, h4⟩
theorem index2_loop {l : List Int} (hl : l.length ≤ 1000000) (x : Int) : ∀ (d i : Nat), l.length - i = d → i ≤ l.length → (∀ j, j < i → rd l (j : Int) ≠ x) →
  ∃ t : Int, ((t = -1 ∧ ∀ j, j < l.length → rd l (j : Int) ≠ x) ∨ ∃ j : Nat, j < l.length ∧ rd l (j : Int) = x ∧ t = j) ∧ Ev (fun k => slices_Index_int_int.l0 k l x (l.length : Int) (i : Int)) t
 | 0, i, hd, hi, h => ⟨-1, .inl ⟨rfl, fun j hj => h j (by omega)⟩, ev_some _ fun k => by rw [slices_Index_int_int.l0, if_neg (by omega)]⟩
 | d + 1, i, hd, hi, h => by
  by_cases c : x = rd l (i : Int)
  ·exact ⟨i, .inr ⟨i, by omega, c.symm, rfl⟩, ev_some _ fun k => by rw [slices_Index_int_int.l0, if_pos (by omega), if_pos (by omega), if_pos (by omega), if_pos c]⟩
  ·obtain ⟨t, ht, e⟩ := index2_loop hl x d (i + 1) (by omega) (by omega) (fun j hj => by
    by_cases z : j = i
    ·subst z; exact fun z => c z.symm
    ·exact h j (by omega))
   refine ⟨t, ht, Ev.step (f := fun k => slices_Index_int_int.l0 k l x (l.length : Int) ((i + 1 : Nat) : Int)) (fun k => ?_) e⟩
   rw [slices_Index_int_int.l0, if_pos (by omega), if_pos (by omega), if_pos (by omega), if_neg c, wsucc i (by omega)]
theorem index2_ev {l : List Int} (hl : l.length ≤ 1000000) (x : Int) : ∃ t : Int, ((t = -1 ∧ ∀ j, j < l.length → rd l (j : Int) ≠ x) ∨ ∃ j : Nat, j < l.length ∧ rd l (j : Int) = x ∧ t = j) ∧ Ev (fun k => slices_Index_int_int.f k l x) t :=
 index2_loop hl x l.length 0 (by omega) (by omega) (fun j hj => by omega)
theorem rd_dropn {L : List Int} {j q : Nat} (h : j + q < L.length) : rd (L.drop j) (q : Int) = rd L ((j + q : Nat) : Int) := by
 rw [rd_get (by rw [List.length_drop]; omega), rd_get h, List.getElem_drop]
theorem set_map {L : List Int} {f : Int → Int} {i : Nat} (h : i < L.length) : ((L.take i).map f ++ L.drop i).set i (f (rd L (i : Int))) = (L.take (i + 1)).map f ++ L.drop (i + 1) := by
 have hl : ((L.take i).map f).length = i := by rw [List.length_map, List.length_take]; omega
 rw [List.set_append_right _ _ (by omega), hl, Nat.sub_self, rd_drop L i h, List.set_cons_zero, List.take_add_one, List.getElem?_eq_getElem h, rd_get h, List.map_append, List.append_assoc]
 rfl
theorem m1_loop {o L : List Int} (hL : L.length ≤ 1000000) (h : ∀ i, i < L.length → 0 ≤ rd L (i : Int) ∧ rd L (i : Int) < o.length) : ∀ (d i : Nat), L.length - i = d → i ≤ L.length →
  Ev (fun k => ice_Rota.m1 k o ((L.take i).map (fun c => rd o c) ++ L.drop i) (L.length : Int) (i : Int)) (L.map (fun c => rd o c), 0)
 | 0, i, hd, hi => ev_some _ fun k => by
  rw [ice_Rota.m1, if_neg (by omega), List.take_of_length_le (by omega), List.drop_eq_nil_of_le (by omega), List.append_nil]
 | d + 1, i, hd, hi => by
  have hll : ((L.take i).map (fun c => rd o c) ++ L.drop i).length = L.length := by rw [List.length_append, List.length_map, List.length_take, List.length_drop]; omega
  have hr : rd ((L.take i).map (fun c => rd o c) ++ L.drop i) (i : Int) = rd L (i : Int) := by
   rw [rd_get (by omega), List.getElem_append_right (by rw [List.length_map, List.length_take]; omega), rd_get (by omega), List.getElem_drop]
   congr 1
   rw [List.length_map, List.length_take]; omega
  have hb := h i (by omega)
  refine Ev.step (f := fun k => ice_Rota.m1 k o ((L.take (i + 1)).map (fun c => rd o c) ++ L.drop (i + 1)) (L.length : Int) ((i + 1 : Nat) : Int)) (fun k => ?_) (m1_loop hL h d (i + 1) (by omega) (by omega))
  rw [ice_Rota.m1, if_pos (by omega), if_pos (by omega), if_pos (by rw [hll]; omega), hr, if_pos hb.1, if_pos hb.2, wsucc i (by omega), show ((i : Int)).toNat = i by omega, ← set_map (by omega)]
/-- The numbers of the states that were seen, and what was scraped. -/
noncomputable def vis (v : List Int) (i : Nat) : List Int := (List.range i).map fun q => numL v (st v q)
noncomputable def lst (v : List Int) (i : Nat) : List Int := (List.range i).map fun q => ch v q
theorem vis_len (v : List Int) (i : Nat) : (vis v i).length = i := by simp [vis]
theorem lst_len (v : List Int) (i : Nat) : (lst v i).length = i := by simp [lst]
theorem vis_rd {v : List Int} {i j : Nat} (h : j < i) : rd (vis v i) (j : Int) = numL v (st v j) := by
 rw [rd_get (by rw [vis_len]; exact h)]; simp [vis]
theorem lst_rd {v : List Int} {i j : Nat} (h : j < i) : rd (lst v i) (j : Int) = ch v j := by
 rw [rd_get (by rw [lst_len]; exact h)]; simp [lst]
theorem vis_succ (v : List Int) (i : Nat) : vis v (i + 1) = vis v i ++ [numL v (st v i)] := by
 unfold vis; rw [List.range_succ, List.map_append]; rfl
theorem lst_succ (v : List Int) (i : Nat) : lst v (i + 1) = lst v i ++ [ch v i] := by
 unfold lst; rw [List.range_succ, List.map_append]; rfl
def distinct (v : List Int) (i : Nat) : Prop := ∀ p q, p < q → q < i → st v p ≠ st v q
theorem cnt_true : ∀ n, cnt (fun _ => true) n = n
 | 0 => rfl
 | n + 1 => by unfold cnt; rw [cnt_true n]; rfl
theorem num_inj {v s t : List Int} (h : okSt v s) (h' : okSt v t) (e : numL v s = numL v t) : s = t := by
 rw [← dig_num h, ← dig_num h', e]
theorem pigeon {v : List Int} (o : okW v) (hk : K v (inf v) v = true) {i : Nat} (h : distinct v i) : i ≤ (prodI v).toNat := by
 have := cnt_inj (p := fun _ => true) (q := fun _ => true) (σ := fun q => (numL v (st v q)).toNat) (N := i) (M := (prodI v).toNat) (fun q hq _ => ⟨(num_lt (st_ok o hk q).1).1, rfl⟩) (fun p q hp hq _ _ e => by
  have h1 := (num_lt (st_ok o hk p).1).2
  have h2 := (num_lt (st_ok o hk q).1).2
  have e2 : st v p = st v q := num_inj (st_ok o hk p).1 (st_ok o hk q).1 (by omega)
  rcases Nat.lt_trichotomy p q with z | z | z
  ·exact absurd e2 (h p q z hq)
  ·exact z
  ·exact absurd e2.symm (h q p z hp))
 rw [cnt_true, cnt_true] at this
 exact this
theorem i64_wf {a : Int} (h : 0 ≤ a) (h2 : a ≤ 1000000) : (Lit.int .i64 a).wf = true := by
 show (decide ((-9223372036854775808 : Int) ≤ a) && decide (a ≤ 9223372036854775807)) = true
 simp; omega
theorem m0_loop {v ord : List Int} (o : okW v) (hord : ord.length = v.length) (hk : K v (inf v) v = true) : ∀ (d i : Nat), (prodI v).toNat + 1 - i = d → distinct v i →
  ∃ i' j, j < i' ∧ i' ≤ (prodI v).toNat ∧ st v i' = st v j ∧ distinct v i' ∧ Ev (fun k => ice_Rota.m0 k ord (setL v (inf v)) (vis v i) (lst v i) (numL v (st v i)) v (bys v) (prodI v)) (((lst v i').drop j).map (fun c => rd ord c), 0)
 | 0, i, hd, h => by have := pigeon o hk h; omega
 | d + 1, i, hd, h => by
  have hi := pigeon o hk h
  obtain ⟨b1, b2⟩ := prodI_le o
  obtain ⟨s1, s2, s3, s4⟩ := st_ok o hk i
  obtain ⟨n1, n2⟩ := numL_bd s1
  obtain ⟨t, ht, e⟩ := index2_ev (l := vis v i) (by rw [vis_len]; omega) (numL v (st v i))
  rw [vis_len] at ht
  have hwf := i64_wf n1 (by omega)
  rcases ht with ⟨t1, hno⟩ | ⟨j, hj, ej, t1⟩
  ·subst t1
   have hd' : distinct v (i + 1) := fun p q hpq hq => by
    by_cases z : q = i
    ·subst z
     intro e'
     have := hno p hpq
     rw [vis_rd hpq, e'] at this
     exact this rfl
    ·exact h p q hpq (by omega)
   obtain ⟨i', j, g1, g2, g3, g4, g5⟩ := m0_loop o hord hk d (i + 1) (by omega) hd'
   refine ⟨i', j, g1, g2, g3, g4, ?_⟩
   obtain ⟨c, hc, ec⟩ := urgent_ev o s1 (inf v) (K_ever o s1 s2 _)
   have ecc : ch v i = c := chX_eq hc
   subst ecc
   have et := tonight_ev o s1 (prodI v) (ch v i)
   rw [(tn_bd s1 s4).1] at et
   refine Ev.step (f := fun k => (slices_Index_int_int.f k (vis v i) (numL v (st v i))).bind fun t614 => (if t614 = (-1) then (if (vis v i).length < 17592186044416 then ((ice_game_urgent.f k v (bys v) (prodI v) (numL v (st v i)) (setL v (inf v))).bind fun bt618 => (if (lst v i).length < 17592186044416 then ((ice_game_tonight.f k v (bys v) bt618.2 (numL v (st v i)) bt618.1).bind fun bt623 => (ice_Rota.m0 k ord (setL v (inf v)) (vis v i ++ [numL v (st v i)]) (lst v i ++ [bt618.1]) bt623.1 v (bys v) bt623.2)) else (none))) else (none)) else (if 0 ≤ t614 then (if t614 ≤ ((lst v i).length : Int) then ((some ((lst v i).drop (t614 : Int).toNat : List Int)).bind fun y625 => (ice_Rota.m1 k ord y625 (y625.length : Int) 0)) else (none)) else (none)))) (fun k => ?_) (Ev.bind e ?_)
   ·rw [ice_Rota.m0, if_pos hwf]
   ·have e1 : Ev (fun k => (ice_game_urgent.f k v (bys v) (prodI v) (numL v (st v i)) (setL v (inf v))).bind fun bt618 => ((ice_game_tonight.f k v (bys v) bt618.2 (numL v (st v i)) bt618.1).bind fun bt623 => (ice_Rota.m0 k ord (setL v (inf v)) (vis v i ++ [numL v (st v i)]) (lst v i ++ [bt618.1]) bt623.1 v (bys v) bt623.2))) (((lst v i').drop j).map (fun c => rd ord c), 0) := by
     refine Ev.bind ec (Ev.bind et ?_)
     rw [vis_succ, lst_succ] at g5
     exact g5
    refine Ev.congr (fun k => ?_) e1
    rw [if_pos rfl, if_pos (by rw [vis_len]; omega)]
    simp only [if_pos (show (lst v i).length < 17592186044416 by rw [lst_len]; omega)]
  ·subst t1
   rw [vis_rd hj] at ej
   have est : st v i = st v j := num_inj s1 (st_ok o hk j).1 ej.symm
   refine ⟨i, j, hj, hi, est, h, ?_⟩
   have hll : ((lst v i).drop j).length = i - j := by rw [List.length_drop, lst_len]
   have e2 := m1_loop (o := ord) (L := (lst v i).drop j) (by rw [hll]; omega) (fun q hq => by
    rw [hll] at hq
    have : rd ((lst v i).drop j) (q : Int) = ch v (j + q) := by
     rw [rd_dropn (by rw [lst_len]; omega)]
     exact lst_rd (by omega)
    rw [this, hord]
    obtain ⟨f1, f2, _⟩ := (st_ok o hk (j + q)).2.2.1
    exact ⟨f1, f2⟩) _ 0 rfl (by omega)
   rw [List.take_zero, List.map_nil, List.nil_append, List.drop_zero] at e2
   refine Ev.step (f := fun k => (slices_Index_int_int.f k (vis v i) (numL v (st v i))).bind fun t614 => (if t614 = (-1) then (if (vis v i).length < 17592186044416 then ((ice_game_urgent.f k v (bys v) (prodI v) (numL v (st v i)) (setL v (inf v))).bind fun bt618 => (if (lst v i).length < 17592186044416 then ((ice_game_tonight.f k v (bys v) bt618.2 (numL v (st v i)) bt618.1).bind fun bt623 => (ice_Rota.m0 k ord (setL v (inf v)) (vis v i ++ [numL v (st v i)]) (lst v i ++ [bt618.1]) bt623.1 v (bys v) bt623.2)) else (none))) else (none)) else (if 0 ≤ t614 then (if t614 ≤ ((lst v i).length : Int) then ((some ((lst v i).drop (t614 : Int).toNat : List Int)).bind fun y625 => (ice_Rota.m1 k ord y625 (y625.length : Int) 0)) else (none)) else (none)))) (fun k => ?_) (Ev.bind e ?_)
   ·rw [ice_Rota.m0, if_pos hwf]
   ·refine Ev.congr (fun k => ?_) e2
    rw [if_neg (by omega), if_pos (by omega), if_pos (by rw [lst_len]; omega), show ((j : Int)).toNat = j by omega]
    rfl
/-- What Rota tells of wants that are sorted. -/
def rotaS (v ord : List Int) (r : List Int × Int) : Prop := (K v (inf v) v = false → r = ([], 5)) ∧ (K v (inf v) v = true → ∃ i j, j < i ∧ i ≤ (prodI v).toNat ∧ st v i = st v j ∧ distinct v i ∧ r = (((lst v i).drop j).map (fun c => rd ord c), 0))
theorem g_ev {v ord : List Int} (o : okW v) (hord : ord.length = v.length) : ∃ r, rotaS v ord r ∧ Ev (fun k => ice_Rota.g k v ord) r := by
 obtain ⟨b1, b2⟩ := prodI_le o
 obtain ⟨ow, ew⟩ := num_first (okW_pos o)
 have hf : ice_game_first.f v (bys v) (prodI v) = some (numL v v, prodI v) := by
  unfold ice_game_first.f
  rw [w64 (by omega) (by omega), ew]
 have hrd := setL_rd ow (inf v)
 have hb := numL_bd ow
 by_cases hk : K v (inf v) v = true
 ·obtain ⟨i, j, g1, g2, g3, g4, e⟩ := m0_loop o hord hk _ 0 rfl (fun p q hpq hq => by omega)
  refine ⟨(((lst v i).drop j).map (fun c => rd ord c), 0), ⟨fun h => (by rw [hk] at h; cases h), fun _ => ⟨i, j, g1, g2, g3, g4, rfl⟩⟩, ?_⟩
  refine Ev.bind (gameOf_ev o) (Ev.bind (ever_ev o) (Ev.congr (fun k => ?_) e))
  simp only [hf, Option.bind_some]
  rw [if_pos hb.1, if_pos (by rw [setL_len]; omega), if_pos (by rw [hrd]; exact hk)]
  rfl
 ·refine ⟨([], 5), ⟨fun _ => rfl, fun h => absurd h hk⟩, ?_⟩
  refine Ev.bind (gameOf_ev o) (Ev.bind (ever_ev o) (Ev.congr (fun k => ?_) (Ev.now (([] : List Int), (5 : Int)))))
  simp only [hf, Option.bind_some]
  rw [if_pos hb.1, if_pos (by rw [setL_len]; omega), if_neg (by rw [hrd]; exact hk)]
theorem l1_loop {w ord : List Int} (hw : w.length ≤ 5) (ho : isOrd w.length ord) {r : List Int × Int} (e : Ev (fun k => ice_Rota.g k (app ord w) ord) r) : ∀ (d i : Nat), ord.length - i = d → i ≤ ord.length →
  Ev (fun k => ice_Rota.l1 k (app (ord.take i) w) ord (ord.length : Int) (i : Int) w) r
 | 0, i, hd, hi => by
  refine Ev.step (f := fun k => ice_Rota.g k (app ord w) ord) (fun k => ?_) e
  rw [ice_Rota.l1, if_neg (by omega), List.take_of_length_le (by omega)]
 | d + 1, i, hd, hi => by
  obtain ⟨l, b, _, _⟩ := id ho
  have hb := b i (by omega)
  refine Ev.step (f := fun k => ice_Rota.l1 k (app (ord.take (i + 1)) w) ord (ord.length : Int) ((i + 1 : Nat) : Int) w) (fun k => ?_) (l1_loop hw ho e d (i + 1) (by omega) (by omega))
  rw [ice_Rota.l1, if_pos (by omega), if_pos (by omega), if_pos (by omega), if_pos hb.1, if_pos hb.2, if_pos (by rw [app_len, List.length_take]; omega), wsucc i (by omega)]
  congr 1
  unfold app
  rw [List.take_add_one, List.getElem?_eq_getElem (by omega), List.map_append, rd_get (show i < ord.length by omega)]
  rfl
theorem l0_loop {w : List Int} (hw : w.length ≤ 5) {r : List Int × Int} (e : Ev (fun k => (slices_SortStableFunc_int_int.f k (idx w.length) (fun a_ b_ => ice_Rota_1.f a_ b_ w)).bind fun t607 => (ice_Rota.l1 k ([] : List Int) t607 ((idx w.length).length : Int) 0 w)) r) : ∀ (d i : Nat), w.length - i = d → i ≤ w.length →
  Ev (fun k => ice_Rota.l0 k (idx i ++ List.replicate (w.length - i) 0) (w.length : Int) (i : Int) w) r
 | 0, i, hd, hi => by
  obtain rfl : i = w.length := by omega
  refine Ev.step (fun k => ?_) e
  rw [ice_Rota.l0, if_neg (by omega), Nat.sub_self, List.replicate_zero, List.append_nil]
 | d + 1, i, hd, hi => by
  have hl : (idx i ++ List.replicate (w.length - i) (0 : Int)).length = w.length := by simp [idx]; omega
  refine Ev.step (f := fun k => ice_Rota.l0 k (idx (i + 1) ++ List.replicate (w.length - (i + 1)) 0) (w.length : Int) ((i + 1 : Nat) : Int) w) (fun k => ?_) (l0_loop hw e d (i + 1) (by omega) (by omega))
  rw [ice_Rota.l0, if_pos (by omega), if_pos (by omega), if_pos (by rw [hl]; omega), wsucc i (by omega), show ((i : Int)).toNat = i by omega]
  congr 1
  have li : (idx i).length = i := by simp [idx]
  rw [List.set_append_right _ _ (by omega), li, Nat.sub_self, show w.length - i = (w.length - (i + 1)) + 1 by omega, List.replicate_succ, List.set_cons_zero]
  unfold idx
  rw [List.range_succ, List.map_append, List.append_assoc]
  rfl
/-- What Rota tells. -/
theorem rota_ev0 (w : List Int) : ∃ r, Ev (fun k => ice_Rota.f k w) r ∧ (¬ okW w → r = ([], 80)) ∧ (okW w → ∃ ord, gOrd w w.length ord ∧ sorted w ord w.length ∧ rotaS (app ord w) ord r) := by
 classical
 by_cases o : okW w
 ·obtain ⟨ord, g1, g2, es⟩ := sort_ev (w := w) rfl o.1.2 o.1.1 (idx_gOrd w)
  have oo := app_okW g1.1 rfl o
  obtain ⟨r, hr, eg⟩ := g_ev (v := app ord w) (ord := ord) oo (by rw [app_len])
  refine ⟨r, ?_, fun h => absurd o h, fun _ => ⟨ord, g1, g2, hr⟩⟩
  have ol := o.1.2
  have lo := g1.1.1
  have li : (idx w.length).length = w.length := by simp [idx]
  have e1 := l1_loop (w := w) (ord := ord) ol g1.1 eg _ 0 rfl (by omega)
  have e0 := l0_loop (w := w) ol (r := r) (Ev.bind es (by rw [li]; rw [lo] at e1; exact e1)) _ 0 rfl (by omega)
  refine Ev.bind (ice_Valid_ev w) ?_
  simp only [decide_eq_true o, if_true]
  refine Ev.congr (fun k => ?_) e0
  rw [if_pos (by omega), if_pos (by omega)]
  simp only [Option.bind_some]
  rw [List.length_replicate, show ((w.length : Int) : Int).toNat = w.length by omega]
  rfl
 ·refine ⟨([], 80), ?_, fun _ => rfl, fun h => absurd h o⟩
  refine Ev.bind (ice_Valid_ev w) ?_
  simp only [decide_eq_false o, Bool.false_eq_true, if_false]
  exact Ev.now _
theorem mem_srt : ∀ {v : List Int} {m : Nat}, (∀ a ∈ v, (m : Int) ≤ a ∧ a ≤ 8) → v.Pairwise (· ≤ ·) → v ∈ srt v.length m
 | [], m, _, _ => by simp [srt]
 | a :: v, m, h, hp => by
  obtain ⟨p1, p2⟩ := List.pairwise_cons.1 hp
  have ha := h a (by simp)
  rw [List.length_cons, srt, List.mem_flatMap]
  refine ⟨a.toNat, by rw [List.mem_filter, List.mem_range]; simp; omega, ?_⟩
  rw [List.mem_map]
  exact ⟨v, mem_srt (fun b hb => ⟨by have := p1 b hb; omega, (h b (by simp [hb])).2⟩) p2, by rw [show ((a.toNat : Nat) : Int) = a by omega]⟩
theorem known_all {v : List Int} (o : okW v) (hs : v.Pairwise (· ≤ ·)) : known v = true := by
 have h := mem_srt (m := 1) (fun a ha => okW_mem o ha) hs
 obtain ⟨⟨l1, l2⟩, _⟩ := o
 have hl : v.length = 1 ∨ v.length = 2 ∨ v.length = 3 ∨ v.length = 4 ∨ v.length = 5 := by omega
 rcases hl with e | e | e | e | e <;> rw [e] at h
 ·exact List.all_eq_true.1 known1 v h
 ·exact List.all_eq_true.1 known2 v h
 ·exact List.all_eq_true.1 known3 v h
 ·exact List.all_eq_true.1 known4 v h
 ·exact List.all_eq_true.1 known5 v h
theorem walk_states {v : List Int} : ∀ (p : List Int) (seen : List (List Int)) (s : List Int), walkOk v p seen s = true → ∃ (S : Nat → List Int) (C : Nat → Int), S 0 = s ∧ (∀ i, i < p.length → 0 ≤ C i ∧ C i < v.length ∧ stepOk v (S i) (C i) = true ∧ nx v (S i) (C i) = some (S (i + 1))) ∧ (S p.length ∈ seen ∨ ∃ j, j < p.length ∧ S p.length = S j)
 | [], seen, s, h => by
  refine ⟨fun _ => s, fun _ => 0, rfl, fun i hi => by simp at hi, .inl ?_⟩
  simpa [walkOk] using h
 | c :: p, seen, s, h => by
  rw [walkOk, Bool.and_eq_true, Bool.and_eq_true, Bool.and_eq_true, decide_eq_true_eq, decide_eq_true_eq] at h
  obtain ⟨⟨⟨h1, h2⟩, h3⟩, h4⟩ := h
  cases e : nx v s c with
  | none => rw [e] at h4; cases h4
  | some t =>
   rw [e] at h4
   obtain ⟨S, C, s0, st', en⟩ := walk_states p (s :: seen) t h4
   refine ⟨fun i => match i with | 0 => s | i + 1 => S i, fun i => match i with | 0 => c | i + 1 => C i, rfl, fun i hi => ?_, ?_⟩
   ·cases i with
    | zero => exact ⟨h1, h2, h3, by rw [e, ← s0]⟩
    | succ i => exact st' i (by simpa using hi)
   ·rw [List.length_cons]
    rcases en with en | ⟨j, hj, ej⟩
    ·rcases List.mem_cons.1 en with z | z
     ·exact .inr ⟨0, by omega, z⟩
     ·exact .inl z
    ·exact .inr ⟨j + 1, by omega, ej⟩
theorem short_run {v : List Int} (o : okW v) (hs : v.Pairwise (· ≤ ·)) (hp : prodI v ≤ 3000) (hk : K v (inf v) v = true) : ∃ L j, j < L ∧ L ≤ 100 ∧ st v L = st v j := by
 have hv := (num_first (okW_pos o)).1
 have h := known_all o hs
 rw [known, Bool.or_eq_true, Bool.or_eq_true, Bool.or_eq_true, decide_eq_true_eq, decide_eq_true_eq, Bool.not_eq_true'] at h
 rcases h with ((h | h) | h) | h
 ·omega
 ·have := dens_ever o hk; omega
 ·rw [List.any_eq_true] at h
  obtain ⟨x, hx, ex⟩ := h
  have ex : x.1 = v := by simpa using ex
  have hc := List.all_eq_true.1 certs_ok x hx
  rw [certOk, Bool.and_eq_true, decide_eq_true_eq, ex] at hc
  obtain ⟨S, C, s0, hst, en⟩ := walk_states _ _ _ hc.1
  obtain ⟨j, hj, ej⟩ : ∃ j, j < x.2.length ∧ S x.2.length = S j := by
   rcases en with en | en
   ·simp at en
   ·exact en
  have ok : ∀ i, i ≤ x.2.length → okSt v (S i) := by
   intro i
   induction i with
   | zero => intro _; rw [s0]; exact hv
   | succ i ih => intro hi; exact nx_ok (ih (by omega)) (hst i (by omega)).2.2.2
  have step : ∀ n, (∀ i, i ≤ x.2.length → K v n (S i) = true) := by
   intro n
   induction n with
   | zero => intro i _; rfl
   | succ n ih =>
    have lt : ∀ i, i < x.2.length → K v (n + 1) (S i) = true := fun i hi => by
     obtain ⟨h1, h2, _, h4⟩ := hst i hi
     exact K_succ.2 ⟨C i, S (i + 1), by omega, h2, h4, ih (i + 1) (by omega)⟩
    intro i hi
    rcases Nat.eq_or_lt_of_le hi with z | z
    ·rw [z, ej]; exact lt j hj
    ·exact lt i z
  have fm : ∀ i, i < x.2.length → FM v (inf v) (S i) (C i) := fun i hi => by
   obtain ⟨h1, h2, h3, h4⟩ := hst i hi
   refine ⟨h1, h2, good_iff.2 ⟨_, h4, step _ (i + 1) (by omega)⟩, fun c' c1 c2 ha => ?_⟩
   rw [stepOk, List.all_eq_true] at h3
   have h3 := h3 c'.toNat (by rw [List.mem_range]; omega)
   rw [show ((c'.toNat : Nat) : Int) = c' by omega, ha] at h3
   rw [Bool.eq_false_iff]
   intro hg
   obtain ⟨t, g1, g2⟩ := good_iff.1 hg
   rw [g1] at h3
   have := K_ever o (nx_ok (ok i (by omega)) g1) g2 20
   simp [this] at h3
  have same : ∀ i, i ≤ x.2.length → st v i = S i := by
   intro i
   induction i with
   | zero => intro _; rw [s0]; rfl
   | succ i ih =>
    intro hi
    have e := ih (by omega)
    show nxt v (st v i) (chX v (st v i)) = _
    rw [e, chX_eq (fm i (by omega))]
    exact (nx_nxt (okSt_len (ok i (by omega))) (hst i (by omega)).2.2.2).symm
  exact ⟨x.2.length, j, hj, hc.2, by rw [same _ (Nat.le_refl _), same j (by omega)]; exact ej⟩
 ·have := K_ever o hv hk 20
  rw [this] at h; cases h
theorem cycle_rota {n : Nat} {ord w : List Int} (ho : isOrd n ord) (hw : w.length = n) (o : okW (app ord w)) (hk : K (app ord w) (inf (app ord w)) (app ord w) = true) {i j : Nat} (hj : j < i) (hi : i ≤ 100) (e : st (app ord w) i = st (app ord w) j) : rota w (((lst (app ord w) i).drop j).map (fun c => rd ord c)) := by
 have hl : ((lst (app ord w) i).drop j).length = i - j := by rw [List.length_drop, lst_len]
 have hr : ∀ q, q < i - j → rd ((lst (app ord w) i).drop j) (q : Int) = ch (app ord w) (j + q) := fun q hq => by
  rw [rd_dropn (by rw [lst_len]; omega)]
  exact lst_rd (by omega)
 have hlo : (app ord w).length = n := by rw [app_len, ho.1]
 refine rota_map ho hw (by omega) (by omega) (fun q hq => ?_) (gaps_of (by omega) (fun q => st (app ord w) (j + q % (i - j))) (fun q => (st_ok o hk _).1) (fun q => ?_))
 ·rw [hl] at hq
  rw [hr q hq]
  obtain ⟨f1, f2, _⟩ := (st_ok o hk (j + q)).2.2.1
  rw [hlo] at f2
  exact ⟨f1, f2⟩
 ·have hm : q % (i - j) < i - j := Nat.mod_lt _ (by omega)
  have en : nt ((lst (app ord w) i).drop j) q = ch (app ord w) (j + q % (i - j)) := by
   unfold nt
   rw [hl]
   exact hr _ hm
  rw [en, (st_ok o hk (j + q % (i - j))).2.2.2]
  congr 1
  by_cases c : q % (i - j) + 1 < i - j
  ·have : (q + 1) % (i - j) = q % (i - j) + 1 := by
    rw [Nat.add_mod, Nat.mod_eq_of_lt (show 1 < i - j by omega), Nat.mod_eq_of_lt c]
   rw [this]
   rfl
  ·have h1 : q % (i - j) + 1 = i - j := by omega
   have : (q + 1) % (i - j) = 0 := by
    rw [show q + 1 = (i - j) * (q / (i - j)) + (i - j) by have := Nat.div_add_mod q (i - j); omega, Nat.mul_add_mod, Nat.mod_self]
   rw [this, show j + q % (i - j) + 1 = i by omega]
   exact e
theorem sorted_pair {w ord : List Int} {n : Nat} (ho : isOrd n ord) (h : sorted w ord n) : (app ord w).Pairwise (· ≤ ·) := by
 rw [List.pairwise_iff_getElem]
 intro p q hp hq hpq
 rw [← rd_get hp, ← rd_get hq]
 rw [app_len] at hp hq
 rw [app_rd hp, app_rd hq]
 exact h p q hpq (by rw [← ho.1]; exact hq)
theorem ord_ever {w ord : List Int} (o : okW w) (h : gOrd w w.length ord) : K (app ord w) (inf (app ord w)) (app ord w) = K w (inf w) w := by
 have e : inf (app ord w) = inf w := by unfold inf; rw [h.2]
 rw [e, Bool.eq_iff_iff]
 exact (K_perm h.1 rfl (num_first (okW_pos o)).1).symm
/-- What Rota tells. -/
theorem Rota_ev (w : List Int) : ∃ r : List Int × Int, Ev (fun k => ice_Rota.f k w) r ∧ r.1.length ≤ 40000 ∧ (¬ okW w → r = ([], 80)) ∧ (okW w → (K w (inf w) w = false → r = ([], 5)) ∧ (K w (inf w) w = true → r.2 = 0) ∧ (prodI w ≤ 3000 → K w (inf w) w = true → rota w r.1)) := by
 obtain ⟨r, e, h1, h2⟩ := rota_ev0 w
 by_cases o : okW w
 ·obtain ⟨ord, g1, g2, g3, g4⟩ := h2 o
  rw [ord_ever o g1] at g3 g4
  have oo := app_okW g1.1 rfl o
  refine ⟨r, e, ?_, fun h => absurd o h, fun _ => ⟨g3, fun hk => ?_, fun hp hk => ?_⟩⟩
  ·cases hk : K w (inf w) w with
   | false => rw [g3 hk]; simp
   | true =>
    obtain ⟨i, j, a1, a2, a3, a4, a5⟩ := g4 hk
    rw [a5, List.length_map, List.length_drop, lst_len]
    have := prodI_le oo
    omega
  ·obtain ⟨i, j, a1, a2, a3, a4, a5⟩ := g4 hk
   rw [a5]
  ·obtain ⟨i, j, a1, a2, a3, a4, a5⟩ := g4 hk
   rw [a5]
   have hk' : K (app ord w) (inf (app ord w)) (app ord w) = true := by rw [ord_ever o g1]; exact hk
   obtain ⟨L, j', b1, b2, b3⟩ := short_run oo (sorted_pair g1.1 g2) (by rw [g1.2]; exact hp) hk'
   refine cycle_rota g1.1 rfl oo hk' a1 ?_ a3
   rcases Nat.lt_or_ge L i with z | z
   ·exact absurd b3.symm (a4 j' L b1 z)
   ·omega
 ·refine ⟨r, e, by rw [h1 o]; simp, h1, fun h => absurd h o⟩
def win (w l : List Int) : Prop := ∀ s, s < w.length → ∀ q : Nat, ∃ m : Nat, (m : Int) < rd w (s : Int) ∧ nt l (q + m) = s
theorem last_occ {l : List Int} {s : Int} : ∀ (n : Nat) {a : Nat}, a < n → nt l a = s → ∃ b, b < n ∧ nt l b = s ∧ ∀ j, b < j → j < n → nt l j ≠ s
 | 0, a, h, _ => by omega
 | n + 1, a, h, e => by
  by_cases c : nt l n = s
  ·exact ⟨n, by omega, c, fun j h1 h2 => by omega⟩
  ·have : a ≠ n := fun z => c (z ▸ e)
   obtain ⟨b, b1, b2, b3⟩ := last_occ n (show a < n by omega) e
   refine ⟨b, by omega, b2, fun j h1 h2 => ?_⟩
   by_cases z : j = n
   ·rw [z]; exact c
   ·exact b3 j h1 (by omega)
theorem nt_mod {l : List Int} (q : Nat) : nt l (q % l.length) = nt l q := by unfold nt; rw [Nat.mod_mod]
theorem nt_modadd {l : List Int} (q m : Nat) : nt l (q % l.length + m) = nt l (q + m) := by unfold nt; rw [Nat.mod_add_mod]
theorem gap_at {w l : List Int} (h : okWt w l) {s : Nat} (hs : s < w.length) (hl : 1 ≤ l.length) {q : Nat} (e : nt l q = s) : ∃ m : Nat, 1 ≤ m ∧ (m : Int) ≤ rd w (s : Int) ∧ nt l (q + m) = s := by
 obtain ⟨h1, h2⟩ := h s hs
 have hv : ∃ v, maxGap l (s : Int) v := by
  refine Classical.byContradiction fun hn => ?_
  have : wv l (s : Int) = 0 := by unfold wv; rw [dif_neg hn]
  omega
 obtain ⟨v, hv⟩ := hv
 rw [wv_eq hv] at h1 h2
 obtain ⟨m, g, hm⟩ := hv.1 (q % l.length) (Nat.mod_lt _ (by omega)) (by rw [nt_mod]; exact e)
 exact ⟨m, g.1, by omega, by rw [← nt_modadd]; exact g.2.1⟩
theorem win_of {w l : List Int} (h : rota w l) : win w l := by
 intro s hs
 have hl := h.1.1.1
 obtain ⟨h1, h2⟩ := h.2 s hs
 have hv : ∃ v, maxGap l (s : Int) v := by
  refine Classical.byContradiction fun hn => ?_
  have : wv l (s : Int) = 0 := by unfold wv; rw [dif_neg hn]
  omega
 obtain ⟨v, _, a, ha, ea, _⟩ := hv
 intro q
 induction q with
 | zero =>
  obtain ⟨b, b1, b2, b3⟩ := last_occ l.length ha ea
  obtain ⟨m, m1, m2, m3⟩ := gap_at h.2 hs hl b2
  have : l.length ≤ b + m := by
   rcases Nat.lt_or_ge (b + m) l.length with z | z
   ·exact absurd m3 (b3 _ (by omega) z)
   ·exact z
  refine ⟨b + m - l.length, by omega, ?_⟩
  rw [← nt_add, show 0 + (b + m - l.length) + l.length = b + m by omega]
  exact m3
 | succ q ih =>
  obtain ⟨m, m1, m2⟩ := ih
  by_cases z : m = 0
  ·subst z
   obtain ⟨m', g1, g2, g3⟩ := gap_at h.2 hs hl m2
   exact ⟨m' - 1, by omega, by rw [show q + 1 + (m' - 1) = q + 0 + m' by omega]; exact g3⟩
  ·exact ⟨m - 1, by omega, by rw [show q + 1 + (m - 1) = q + m by omega]; exact m2⟩
/-- The states of the nights of a list. -/
def run (w l : List Int) : Nat → List Int
 | 0 => w
 | q + 1 => nxt w (run w l q) (nt l q)
theorem run_step {w l : List Int} {q : Nat} (h1 : okSt w (run w l q)) (h2 : ∀ s, s < w.length → ∃ m : Nat, (m : Int) < rd (run w l q) (s : Int) ∧ nt l (q + m) = s) : nx w (run w l q) (nt l q) = some (run w l (q + 1)) := by
 refine nx_some (okSt_len h1) fun s hs => ?_
 rw [nxt_rd hs]
 have h8 := (okSt_iff.1 h1).2 s hs
 by_cases c : (s : Int) = nt l q
 ·rw [if_pos c]; omega
 ·rw [if_neg c]
  obtain ⟨m, m1, m2⟩ := h2 s hs
  have : m ≠ 0 := fun z => c (by subst z; exact m2.symm)
  omega
theorem run_ok {w l : List Int} (o : okW w) (h : win w l) : ∀ q, okSt w (run w l q) ∧ (∀ s, s < w.length → ∃ m : Nat, (m : Int) < rd (run w l q) (s : Int) ∧ nt l (q + m) = s) ∧ nx w (run w l q) (nt l q) = some (run w l (q + 1)) := by
 intro q
 induction q with
 | zero =>
  have h1 : okSt w (run w l 0) := (num_first (okW_pos o)).1
  have h2 : ∀ s, s < w.length → ∃ m : Nat, (m : Int) < rd (run w l 0) (s : Int) ∧ nt l (0 + m) = s := fun s hs => h s hs 0
  exact ⟨h1, h2, run_step h1 h2⟩
 | succ q ih =>
  obtain ⟨h1, h2, h3⟩ := ih
  have g1 : okSt w (run w l (q + 1)) := nx_ok h1 h3
  have g2 : ∀ s, s < w.length → ∃ m : Nat, (m : Int) < rd (run w l (q + 1)) (s : Int) ∧ nt l (q + 1 + m) = s := fun s hs => by
   show ∃ m : Nat, (m : Int) < rd (nxt w (run w l q) (nt l q)) (s : Int) ∧ _
   rw [nxt_rd hs]
   by_cases c : (s : Int) = nt l q
   ·rw [if_pos c]
    exact h s hs (q + 1)
   ·rw [if_neg c]
    obtain ⟨m, m1, m2⟩ := h2 s hs
    have : m ≠ 0 := fun z => c (by subst z; exact m2.symm)
    exact ⟨m - 1, by omega, by rw [show q + 1 + (m - 1) = q + m by omega]; exact m2⟩
  exact ⟨g1, g2, run_step g1 g2⟩
/-- .. so with a rota it can go on for ever. -/
theorem win_ever {w l : List Int} (o : okW w) (hl : okL w l) (h : win w l) (n : Nat) : K w n w = true := by
 have : ∀ n q, K w n (run w l q) = true := by
  intro n
  induction n with
  | zero => intro q; rfl
  | succ n ih =>
   intro q
   have hb := hl.2 (q % l.length) (Nat.mod_lt _ (by have := hl.1.1; omega))
   exact K_succ.2 ⟨nt l q, _, hb.1, by unfold nt; omega, (run_ok o h q).2.2, ih (q + 1)⟩
 exact this n 0
theorem rota_ever {w l : List Int} (o : okW w) (h : rota w l) (n : Nat) : K w n w = true := win_ever o h.1 (win_of h) n
theorem rota_of {w l : List Int} (o : okW w) (hl : okL w l) (h : win w l) : rota w l := by
 refine ⟨hl, fun s hs => ?_⟩
 obtain ⟨x, hx, x1, x2⟩ := gaps_of hl.1.1 (run w l) (fun q => (run_ok o h q).1) (fun q => (run_ok o h q).2.2) s hs
 rw [wv_eq hx]
 exact ⟨x1, x2⟩
theorem nt_rev {l : List Int} (hl : 1 ≤ l.length) {i k : Nat} (h : i < k * l.length) : nt l.reverse i = nt l (k * l.length - 1 - i) := by
 unfold nt
 rw [List.length_reverse]
 have hm := Nat.mod_lt i (show l.length > 0 by omega)
 rw [rd_rev hm]
 have hd := Nat.div_add_mod i l.length
 have ht : i / l.length < k := Nat.div_lt_of_lt_mul (by rw [Nat.mul_comm]; exact h)
 congr 2
 have e : k * l.length - 1 - i = l.length * (k - 1 - i / l.length) + (l.length - 1 - i % l.length) := by
  have : k * l.length = l.length * (k - 1 - i / l.length) + l.length * (i / l.length) + l.length := by
   rw [← Nat.mul_add, show k - 1 - i / l.length + i / l.length = k - 1 from Nat.sub_add_cancel (Nat.le_sub_one_of_lt ht), Nat.mul_comm k, ← Nat.mul_succ, show (k - 1).succ = k from Nat.succ_pred_eq_of_pos (Nat.lt_of_le_of_lt (Nat.zero_le _) ht)]
  omega
 have h3 : l.length - 1 - i % l.length < l.length := by omega
 rw [e, Nat.mul_add_mod, Nat.mod_eq_of_lt h3]
theorem win_rev {w l : List Int} (hl : 1 ≤ l.length) (h : win w l) : win w l.reverse := by
 intro s hs q
 obtain ⟨W, hW⟩ : ∃ W : Nat, (W : Int) = max 0 (rd w (s : Int)) := ⟨(max 0 (rd w (s : Int))).toNat, by omega⟩
 have hk : q + W ≤ (q + W) * l.length := Nat.le_mul_of_pos_right _ (by omega)
 obtain ⟨m, m1, m2⟩ := h s hs ((q + W) * l.length - q - W)
 refine ⟨W - 1 - m, by omega, ?_⟩
 rw [nt_rev hl (k := q + W) (by omega), show (q + W) * l.length - 1 - (q + (W - 1 - m)) = (q + W) * l.length - q - W + m by omega]
 exact m2
theorem rota_rev {w l : List Int} (o : okW w) (h : rota w l) : rota w l.reverse := by
 refine rota_of o ⟨by rw [List.length_reverse]; exact h.1.1, fun i hi => ?_⟩ (win_rev h.1.1.1 (win_of h))
 rw [List.length_reverse] at hi
 rw [rd_rev hi]
 exact h.1.2 _ (by omega)
theorem rota_mono {w w' l : List Int} (hl : w'.length = w.length) (hw : ∀ i, i < w.length → rd w (i : Int) ≤ rd w' (i : Int)) (h : rota w l) : rota w' l := by
 obtain ⟨⟨a, b⟩, c⟩ := h
 refine ⟨⟨a, fun i hi => by rw [hl]; exact b i hi⟩, fun s hs => ?_⟩
 rw [hl] at hs
 have := c s hs
 have := hw s hs
 omega
/-- The greatest power of 2 that is at most a want. -/
def hv (n : Int) : Int := if 8 ≤ n then 8 else if 4 ≤ n then 4 else if 2 ≤ n then 2 else 1
theorem one8 {n : Int} (h : 1 ≤ n ∧ n ≤ 8) : n = 1 ∨ n = 2 ∨ n = 3 ∨ n = 4 ∨ n = 5 ∨ n = 6 ∨ n = 7 ∨ n = 8 := by omega
theorem half_ev {n : Int} (h : 1 ≤ n ∧ n ≤ 8) : Ev (fun k => ice_half.f k n) (hv n) := by
 rcases one8 h with rfl | rfl | rfl | rfl | rfl | rfl | rfl | rfl <;> exact Ev.of (fun k => ice_half.mono _ k) (k := 6) (by decide +kernel)
theorem take_map_succ (w : List Int) (f : Int → Int) (i : Nat) (h : i < w.length) : (w.take i).map f ++ [f (rd w (i : Int))] = (w.take (i + 1)).map f := by
 rw [List.take_succ_eq_append_getElem h, rd_get h, List.map_append]; rfl
theorem halves_loop {w : List Int} (h : okW w) : ∀ (d i : Nat), w.length - i = d → i ≤ w.length → Ev (fun k => ice_Halves.l0 k ((w.take i).map hv) w w.length i) (w.map hv, 0) := by
 have hlen := h.1.2
 intro d
 induction d with
 | zero =>
  intro i hd hi
  obtain rfl : i = w.length := by omega
  refine ev_some _ fun k => ?_
  rw [ice_Halves.l0, if_neg (by omega), List.take_length]
 | succ d ih =>
  intro i hd hi
  refine Ev.step (f := fun k => (ice_half.f k (rd w i)).bind fun t103 => (if ((w.take i).map hv).length < 17592186044416 then (ice_Halves.l0 k (((w.take i).map hv) ++ [t103]) w w.length (wrap64 ((i : Int) + 1))) else (none))) (fun k => ?_) (Ev.bind (half_ev (h.2 i (by omega))) ?_)
  ·rw [ice_Halves.l0, if_pos (by omega), if_pos (by omega), if_pos (by omega)]
  ·have e := ih (i + 1) (by omega) (by omega)
   rw [← take_map_succ w hv i (by omega)] at e
   refine Ev.congr (fun k => ?_) e
   rw [if_pos (by simp; omega), wsucc i (by omega)]
open Classical in
theorem ice_Halves_ev (w : List Int) : Ev (fun k => ice_Halves.f k w) (if okW w then (w.map hv, 0) else ([], 80)) := by
 refine Ev.bind (ice_Valid_ev w) ?_
 by_cases o : okW w
 ·simp only [decide_eq_true o, if_true, if_pos o]
  have e := halves_loop o w.length 0 (by omega) (by omega)
  exact e
 ·simp only [decide_eq_false o, Bool.false_eq_true, if_false, if_neg o]
  exact Ev.now _
theorem ref_half_step {w x : List Int} {i : Nat} (hi : i < w.length) {z : Int} (hz : 1 ≤ z ∧ z ≤ 8) (h2 : 2 * z ≤ rd w (i : Int)) {r : List Int × Int} (e : Ev (fun k => dropperref08_Halves.l1 k w x i (z * 2)) r) : Ev (fun k => dropperref08_Halves.l1 k w x i z) r := by
 refine Ev.step (fun k => ?_) e
 rw [dropperref08_Halves.l1, if_pos (by omega), if_pos (by omega), w64 (by omega) (by omega), if_pos h2, w64 (by omega) (by omega)]
theorem ref_half_end {w x : List Int} {i : Nat} (hi : i < w.length) {z : Int} (hz : 1 ≤ z ∧ z ≤ 8) (h2 : ¬ 2 * z ≤ rd w (i : Int)) (hx : x.length ≤ 5) (hw : w.length ≤ 5) {r : List Int × Int} (e : Ev (fun k => dropperref08_Halves.l0 k w (x ++ [z]) ((i + 1 : Nat) : Int)) r) : Ev (fun k => dropperref08_Halves.l1 k w x i z) r := by
 refine Ev.step (fun k => ?_) e
 rw [dropperref08_Halves.l1, if_pos (by omega), if_pos (by omega), w64 (by omega) (by omega), if_neg h2, if_pos (by omega), wsucc i (by omega)]
theorem ref_half_one {w x : List Int} {i : Nat} (hi : i < w.length) (h8 : 1 ≤ rd w (i : Int) ∧ rd w (i : Int) ≤ 8) (hx : x.length ≤ 5) (hw : w.length ≤ 5) {r : List Int × Int} (e : Ev (fun k => dropperref08_Halves.l0 k w (x ++ [hv (rd w (i : Int))]) ((i + 1 : Nat) : Int)) r) : Ev (fun k => dropperref08_Halves.l1 k w x i 1) r := by
 unfold hv at e
 by_cases c1 : 2 ≤ rd w (i : Int)
 ·refine ref_half_step hi (by omega) (by omega) ?_
  by_cases c2 : 4 ≤ rd w (i : Int)
  ·refine ref_half_step hi (by omega) (by omega) ?_
   by_cases c3 : 8 ≤ rd w (i : Int)
   ·refine ref_half_step hi (by omega) (by omega) (ref_half_end hi (by omega) (by omega) hx hw ?_)
    rw [if_pos c3] at e
    exact e
   ·refine ref_half_end hi (by omega) (by omega) hx hw ?_
    rw [if_neg c3, if_pos c2] at e
    exact e
  ·refine ref_half_end hi (by omega) (by omega) hx hw ?_
   rw [if_neg (by omega), if_neg c2, if_pos c1] at e
   exact e
 ·refine ref_half_end hi (by omega) (by omega) hx hw ?_
  rw [if_neg (by omega), if_neg (by omega), if_neg c1] at e
  exact e
theorem ref_halves_loop {w : List Int} (h : okW w) : ∀ (d i : Nat), w.length - i = d → i ≤ w.length → Ev (fun k => dropperref08_Halves.l0 k w ((w.take i).map hv) i) (w.map hv, 0) := by
 have hlen := h.1.2
 intro d
 induction d with
 | zero =>
  intro i hd hi
  obtain rfl : i = w.length := by omega
  refine ev_some _ fun k => ?_
  rw [dropperref08_Halves.l0, if_neg (by omega), List.take_length]
 | succ d ih =>
  intro i hd hi
  have e := ih (i + 1) (by omega) (by omega)
  rw [← take_map_succ w hv i (by omega)] at e
  refine Ev.step (fun k => ?_) (ref_half_one (by omega) (h.2 i (by omega)) (by simp; omega) hlen e)
  rw [dropperref08_Halves.l0, if_pos (by omega)]
open Classical in
theorem ref_Halves_ev (w : List Int) (hl : w.length ≤ 9223372036854775807) : Ev (fun k => dropperref08_Halves.f k w) (if okW w then (w.map hv, 0) else ([], 80)) := by
 refine Ev.bind (ref_Valid_ev w hl) ?_
 by_cases o : okW w
 ·simp only [decide_eq_true o, if_true, if_pos o]
  exact ref_halves_loop o w.length 0 (by omega) (by omega)
 ·simp only [decide_eq_false o, Bool.false_eq_true, if_false, if_neg o]
  exact Ev.now _
/-- The reference reads of the wants their number alone. -/
theorem ref_by_len {x x' : List Int} (e : x.length = x'.length) : ∀ k, (∀ a b c, dropperref08_ByHalves.l0 k x a b c = dropperref08_ByHalves.l0 k x' a b c) ∧ (∀ a b c d, dropperref08_ByHalves.l1 k x a b c d = dropperref08_ByHalves.l1 k x' a b c d) ∧ (∀ a b c d f, dropperref08_ByHalves.l2 k x a b c d f = dropperref08_ByHalves.l2 k x' a b c d f) ∧ (∀ a b c d f, dropperref08_ByHalves.l3 k x a b c d f = dropperref08_ByHalves.l3 k x' a b c d f) ∧ (∀ a b c d f, dropperref08_ByHalves.j3 k x a b c d f = dropperref08_ByHalves.j3 k x' a b c d f)
 | 0 => ⟨fun _ _ _ => rfl, fun _ _ _ _ => rfl, fun _ _ _ _ _ => rfl, fun _ _ _ _ _ => rfl, fun _ _ _ _ _ => rfl⟩
 | k + 1 => by
  obtain ⟨h0, h1, h2, h3, h4⟩ := ref_by_len e k
  refine ⟨?_, ?_, ?_, ?_, ?_⟩ <;> intros
  ·rw [dropperref08_ByHalves.l0, dropperref08_ByHalves.l0, h1]
  ·rw [dropperref08_ByHalves.l1, dropperref08_ByHalves.l1, h0, h1, h2, e]
  ·rw [dropperref08_ByHalves.l2, dropperref08_ByHalves.l2, h2, h4]
  ·rw [dropperref08_ByHalves.l3, dropperref08_ByHalves.l3, h1, h3]
  ·rw [dropperref08_ByHalves.j3, dropperref08_ByHalves.j3, h3]
/-- All lists of so many powers of 2. -/
def allH : Nat → List (List Int)
 | 0 => [[]]
 | n + 1 => (allH n).flatMap fun l => [1 :: l, 2 :: l, 4 :: l, 8 :: l]
theorem hv_four {n : Int} : hv n = 1 ∨ hv n = 2 ∨ hv n = 4 ∨ hv n = 8 := by unfold hv; omega
theorem allH_mem : ∀ w : List Int, w.map hv ∈ allH w.length
 | [] => by simp [allH]
 | a :: w => by
  rw [List.length_cons, List.map_cons, allH, List.mem_flatMap]
  refine ⟨_, allH_mem w, ?_⟩
  rcases hv_four (n := a) with h | h | h | h <;> rw [h] <;> simp
/-- What both tell of powers of 2. -/
def iceBH (h : List Int) : Option (List Int × Int) := ice_ByHalves.l0 300 h (List.replicate 8 (-1)) 1
def refBH (h : List Int) : Option (List Int × Int) := dropperref08_ByHalves.l0 300 h h [-1, -1, -1, -1, -1, -1, -1, -1] 1
def sameBH (h : List Int) : Bool := match iceBH h, refBH h with
 | some a, some b => a.1 == b.1 && a.2 == b.2
 | _, _ => false
set_option maxRecDepth 100000 in
theorem same_BH1 : (allH 1).all sameBH = true := by decide +kernel
set_option maxRecDepth 100000 in
theorem same_BH2 : (allH 2).all sameBH = true := by decide +kernel
set_option maxRecDepth 100000 in
theorem same_BH3 : (allH 3).all sameBH = true := by decide +kernel
set_option maxRecDepth 100000 in
theorem same_BH4 : (allH 4).all sameBH = true := by decide +kernel
set_option maxRecDepth 100000 in
theorem same_BH5 : (allH 5).all sameBH = true := by decide +kernel
theorem same_BH {w : List Int} (h : okW w) : sameBH (w.map hv) = true := by
 have m := allH_mem w
 obtain ⟨⟨h1, h2⟩, _⟩ := h
 generalize w.map hv = l at m ⊢
 generalize w.length = n at m h1 h2
 match n, h1, h2, m with
 | 1, _, _, m => exact List.all_eq_true.1 same_BH1 l m
 | 2, _, _, m => exact List.all_eq_true.1 same_BH2 l m
 | 3, _, _, m => exact List.all_eq_true.1 same_BH3 l m
 | 4, _, _, m => exact List.all_eq_true.1 same_BH4 l m
 | 5, _, _, m => exact List.all_eq_true.1 same_BH5 l m
theorem byHalves_ev (w : List Int) (hl : w.length ≤ 9223372036854775807) : ∃ r : List Int × Int, Ev (fun k => ice_ByHalves.f k w) r ∧ Ev (fun k => dropperref08_ByHalves.f k w) r ∧ (okW w → iceBH (w.map hv) = some r) ∧ (¬ okW w → r = ([], 80)) := by
 classical
 by_cases o : okW w
 ·have s := same_BH o
  unfold sameBH at s
  cases e1 : iceBH (w.map hv) with
  | none => rw [e1] at s; cases s
  | some a =>
   cases e2 : refBH (w.map hv) with
   | none => rw [e1, e2] at s; cases s
   | some b =>
    rw [e1, e2] at s
    simp only [Bool.and_eq_true, beq_iff_eq] at s
    obtain rfl : a = b := Prod.ext s.1 s.2
    refine ⟨a, ?_, ?_, fun _ => rfl, fun z => absurd o z⟩
    ·have e := ice_Halves_ev w
     rw [if_pos o] at e
     refine Ev.bind e ?_
     simp only [if_true]
     refine Ev.congr (f := fun k => ice_ByHalves.l0 k (w.map hv) (List.replicate 8 (-1)) 1) (fun k => ?_) (Ev.of (fun k => (ice_ByHalves.mono_l k).1 _ _ _) e1)
     rfl
    ·have e := ref_Halves_ev w hl
     rw [if_pos o] at e
     refine Ev.bind e ?_
     simp only [if_true]
     unfold refBH at e2
     rw [((ref_by_len (x := w.map hv) (x' := w) (by simp)) 300).1] at e2
     exact Ev.of (fun k => (dropperref08_ByHalves.mono_l k).1 _ _ _ _) e2
 ·refine ⟨([], 80), ?_, ?_, fun z => absurd z o, fun _ => rfl⟩
  ·have e := ice_Halves_ev w
   rw [if_neg o] at e
   refine Ev.bind e ?_
   exact Ev.now _
  ·have e := ref_Halves_ev w hl
   rw [if_neg o] at e
   refine Ev.bind e ?_
   exact Ev.now _
theorem ev_uniq {α : Type} {g : Nat → Option α} {r s : α} (h : Ev g r) (h' : Ev g s) : r = s := by
 obtain ⟨k, hk⟩ := h
 obtain ⟨m, hm⟩ := h'
 have e := (hk (max k m) (Nat.le_max_left _ _)).symm.trans (hm (max k m) (Nat.le_max_right _ _))
 exact Option.some.inj e
def byOk (h : List Int) : Bool := match iceBH h with
 | some r => if dsum h ≤ 840 then r.2 == 0 && (ice_isRota.f 200 h r.1 == some true) && decide (r.1.length ≤ 100) else r.2 == 5
 | none => false
set_option maxRecDepth 100000 in
theorem by_ok1 : (allH 1).all byOk = true := by decide +kernel
set_option maxRecDepth 100000 in
theorem by_ok2 : (allH 2).all byOk = true := by decide +kernel
set_option maxRecDepth 100000 in
theorem by_ok3 : (allH 3).all byOk = true := by decide +kernel
set_option maxRecDepth 100000 in
theorem by_ok4 : (allH 4).all byOk = true := by decide +kernel
set_option maxRecDepth 100000 in
theorem by_ok5 : (allH 5).all byOk = true := by decide +kernel
theorem by_ok {w : List Int} (h : okW w) : byOk (w.map hv) = true := by
 have m := allH_mem w
 obtain ⟨⟨h1, h2⟩, _⟩ := h
 generalize w.map hv = l at m ⊢
 generalize w.length = n at m h1 h2
 match n, h1, h2, m with
 | 1, _, _, m => exact List.all_eq_true.1 by_ok1 l m
 | 2, _, _, m => exact List.all_eq_true.1 by_ok2 l m
 | 3, _, _, m => exact List.all_eq_true.1 by_ok3 l m
 | 4, _, _, m => exact List.all_eq_true.1 by_ok4 l m
 | 5, _, _, m => exact List.all_eq_true.1 by_ok5 l m
theorem hv_bd {n : Int} (h : 1 ≤ n ∧ n ≤ 8) : 1 ≤ hv n ∧ hv n ≤ n := by unfold hv; omega
theorem rd_hv {w : List Int} {i : Nat} (h : i < w.length) : rd (w.map hv) (i : Int) = hv (rd w (i : Int)) := by
 rw [rd_get (by simpa using h), rd_get h]; simp
theorem okW_hv {w : List Int} (o : okW w) : okW (w.map hv) := by
 refine ⟨by rw [List.length_map]; exact o.1, fun i hi => ?_⟩
 rw [List.length_map] at hi
 rw [rd_hv hi]
 have h := o.2 i hi
 have := hv_bd h
 omega
theorem dsum_hv : ∀ {w : List Int}, (∀ a ∈ w, 1 ≤ a ∧ a ≤ 8) → dsum (w.map hv) ≤ 2 * dsum w
 | [], _ => by simp [dsum]
 | a :: w, h => by
  have ih := dsum_hv (w := w) (fun b hb => h b (by simp [hb]))
  have h1 : 840 / hv a ≤ 2 * (840 / a) := by
   rcases one8 (h a (by simp)) with rfl | rfl | rfl | rfl | rfl | rfl | rfl | rfl <;> decide
  simp only [List.map_cons, dsum]
  omega
/-- What ByHalves tells. -/
theorem ByHalves_ev {w : List Int} (o : okW w) (hl : w.length ≤ 9223372036854775807) : ∃ r : List Int × Int, Ev (fun k => ice_ByHalves.f k w) r ∧ ((dsum (w.map hv) ≤ 840 ∧ r.2 = 0 ∧ rota w r.1) ∨ (¬ dsum (w.map hv) ≤ 840 ∧ r.2 = 5)) := by
 obtain ⟨r, e, _, h1, _⟩ := byHalves_ev w hl
 refine ⟨r, e, ?_⟩
 have hb := by_ok o
 unfold byOk at hb
 rw [h1 o] at hb
 by_cases c : dsum (w.map hv) ≤ 840
 ·simp only [if_pos c, Bool.and_eq_true, beq_iff_eq, decide_eq_true_eq] at hb
  obtain ⟨⟨b1, b2⟩, b3⟩ := hb
  refine .inl ⟨c, b1, ?_⟩
  have o2 := okW_hv o
  have hr : rota (w.map hv) r.1 := by
   classical
   have := ev_uniq (ice_isRota_ev o2 (l := r.1) (by omega)) (Ev.of (fun k => ice_isRota.mono _ _ k) b2)
   exact of_decide_eq_true this
  exact rota_mono (by simp) (fun i hi => by
   rw [List.length_map] at hi
   rw [rd_hv hi]
   exact (hv_bd (o.2 i hi)).2) hr
 ·simp only [if_neg c, beq_iff_eq] at hb
  exact .inr ⟨c, hb⟩
/-- What open tells. -/
def opn (w s : List Int) (o : Prop) [Decidable o] (h : Prop) [Decidable h] : List Int × List Int × Int × Int × Int := if o then (if h then (w, bys w, prodI w, numL w s, 0) else ([], [], 0, 0, 2)) else ([], [], 0, 0, 80)
theorem open_loop {w s : List Int} (o : okW w) (hs : s.length = w.length) : ∀ (d i : Nat), w.length - i = d → i ≤ w.length → (∀ j, j < i → 1 ≤ rd s (j : Int) ∧ rd s (j : Int) ≤ rd w (j : Int)) → ∃ r, Ev (fun k => ice_open.l0 k w s s s.length i) r ∧ (okSt w s → r = (w, bys w, prodI w, numL w s, 0)) ∧ (¬ okSt w s → r = ([], [], 0, 0, 2)) := by
 have hlen := o.1.2
 intro d
 induction d with
 | zero =>
  intro i hd hi h1
  have h : okSt w s := okSt_iff.2 ⟨hs, fun j hj => h1 j (by omega)⟩
  refine ⟨_, Ev.step (f := fun k => (ice_gameOf.f k w).bind fun bt105 => ((ice_game_number.f k bt105.1 bt105.2.1 bt105.2.2 s).bind fun bt109 => (some (bt105.1, bt105.2.1, bt109.2, bt109.1, 0)))) (fun k => ?_) (Ev.bind (gameOf_ev o) (Ev.bind (number_ev o h) (Ev.now _))), fun _ => rfl, fun z => absurd h z⟩
  rw [ice_open.l0, if_neg (by omega)]
 | succ d ih =>
  intro i hd hi h1
  by_cases c : 1 ≤ rd s (i : Int) ∧ rd s (i : Int) ≤ rd w (i : Int)
  ·obtain ⟨r, e, h2⟩ := ih (i + 1) (by omega) (by omega) (fun j hj => if q : j = i then q ▸ c else h1 j (by omega))
   refine ⟨r, Ev.step (fun k => ?_) e, h2⟩
   rw [ice_open.l0, if_pos (by omega), if_pos (by omega), if_pos (by omega), if_pos (by omega), within_some, decide_eq_true c, wsucc i (by omega)]
   rfl
  ·refine ⟨_, ev_some ([], [], 0, 0, 2) fun k => ?_, fun z => absurd ((okSt_iff.1 z).2 i (by omega)) c, fun _ => rfl⟩
   rw [ice_open.l0, if_pos (by omega), if_pos (by omega), if_pos (by omega), if_pos (by omega), within_some, decide_eq_false c]
   rfl
open Classical in
theorem open_ev (w s : List Int) : Ev (fun k => ice_open.f k w s) (opn w s (okW w) (okSt w s)) := by
 refine Ev.bind (ice_Valid_ev w) ?_
 unfold opn
 by_cases o : okW w
 ·simp only [decide_eq_true o, if_true, if_pos o]
  by_cases c : (s.length : Int) = (w.length : Int)
  ·simp only [if_pos c]
   obtain ⟨r, e, h1, h2⟩ := open_loop (s := s) o (by omega) w.length 0 (by omega) (by omega) (by omega)
   by_cases h : okSt w s
   ·rw [if_pos h, ← h1 h]; exact e
   ·rw [if_neg h, ← h2 h]; exact e
  ·simp only [if_neg c]
   rw [if_neg (fun z => c (by have := okSt_len z; omega))]
   exact Ev.now _
 ·simp only [decide_eq_false o, Bool.false_eq_true, if_false, if_neg o]
  exact Ev.now _
open Classical in
/-- What Tonight tells. -/
noncomputable def tonightR (w s : List Int) (c : Int) : List Int × Int := if okW w then (if okSt w s then (if -1 ≤ c ∧ c ≤ (w.length : Int) - 1 then (match nx w s c with | some t => (t, 0) | none => ([], 5)) else ([], 2)) else ([], 2)) else ([], 80)
theorem ice_Tonight_ev (w s : List Int) (c : Int) (hl : w.length ≤ 4611686018427387904) : Ev (fun k => ice_Tonight.f k w s c) (tonightR w s c) := by
 classical
 refine Ev.bind (open_ev w s) ?_
 unfold tonightR opn
 by_cases o : okW w
 ·have hlen := o.1
  rw [if_pos o, if_pos o]
  by_cases h : okSt w s
  ·rw [if_pos h, if_pos h]
   simp only [if_true]
   rw [within_some, w64 (by omega) (by omega)]
   simp only [Option.bind_some]
   by_cases q : -1 ≤ c ∧ c ≤ (w.length : Int) - 1
   ·rw [if_pos q]
    simp only [decide_eq_true q, if_true]
    refine Ev.bind (tonight_ev o h _ c) ?_
    cases z : nx w s c with
    | none =>
     have : tn w s c = -1 := by unfold tn; rw [z]
     simp only [this, if_true]
     exact Ev.now _
    | some t =>
     obtain ⟨e1, ot, t1, t2⟩ := tn_bd h z
     simp only [e1, if_neg (show ¬ numL w t = -1 by omega)]
     exact Ev.bind (list_ev o ot) (Ev.now _)
   ·rw [if_neg q]
    simp only [decide_eq_false q, Bool.false_eq_true, if_false]
    exact Ev.now _
  ·rw [if_neg h, if_neg h]
   exact Ev.now _
 ·rw [if_neg o, if_neg o]
  exact Ev.now _
theorem fst_full {w : List Int} : ∀ {k : Nat} {s : List Int}, okSt w s → K w k s = true → (fst w k s).length = k
 | 0, s, _, _ => rfl
 | k + 1, s, h, e => by
  obtain ⟨c, L, t, h1, h2, h3, h4, h5⟩ := fst_step h e
  rw [h5, List.length_cons, fst_full h3 h4]
/-- Choices that lead from a state on, and are none of them lost. -/
def leads (w : List Int) : List Int → List Int → Prop
 | [], _ => True
 | c :: l, s => ∃ t, (-1 ≤ c ∧ c ≤ (w.length : Int) - 1) ∧ nx w s c = some t ∧ leads w l t
theorem fst_leads {w : List Int} : ∀ {k : Nat} {s : List Int}, okSt w s → K w k s = true → leads w (fst w k s) s
 | 0, s, _, _ => trivial
 | k + 1, s, h, e => by
  obtain ⟨c, L, t, h1, h2, h3, h4, h5⟩ := fst_step h e
  rw [h5]
  have hc : c ∈ chsOf w k s := by rw [← chsOf_from, h1]; simp
  have := mem_chs.1 (List.mem_filter.1 hc).1
  exact ⟨t, by omega, h2, fst_leads h3 h4⟩
theorem tonight_some {w s t : List Int} {c : Int} (o : okW w) (h : okSt w s) (hc : -1 ≤ c ∧ c ≤ (w.length : Int) - 1) (e : nx w s c = some t) : tonightR w s c = (t, 0) := by
 unfold tonightR
 rw [if_pos o, if_pos h, if_pos hc, e]
theorem firstR_some {w : List Int} (o : okW w) {n : Nat} (hn : n ≤ 200) (e : K w n w = true) : firstR w (n : Int) = (fst w n w, 0) := by
 unfold firstR
 rw [if_pos o, if_pos (by omega), if_pos (by rw [Int.toNat_natCast]; exact e), Int.toNat_natCast]
theorem firstR_none {w : List Int} (o : okW w) {n : Nat} (hn : n ≤ 200) (e : ¬ K w n w = true) : firstR w (n : Int) = ([], 5) := by
 unfold firstR
 rw [if_pos o, if_pos (by omega), if_neg (by rw [Int.toNat_natCast]; exact e)]
theorem goes_ev {w L : List Int} (o : okW w) (hL : L.length ≤ 200) : ∀ (d i : Nat) (s : List Int), L.length - i = d → i ≤ L.length → okSt w s → leads w (L.drop i) s → Ev (fun k => droppertop_goes.l0 k w L s (i : Int)) true
 | 0, i, s, hd, hi, h, hl => ev_some _ fun k => by rw [droppertop_goes.l0, if_neg (by omega)]
 | d + 1, i, s, hd, hi, h, hl => by
  rw [rd_drop L i (by omega)] at hl
  obtain ⟨t, hc, ht, hr⟩ := hl
  have e := ice_Tonight_ev w s (rd L (i : Int)) (by have := o.1.2; omega)
  rw [tonight_some o h hc ht] at e
  refine Ev.step (f := fun k => (ice_Tonight.f k w s (rd L (i : Int))).bind fun bt102 => (if bt102.2 = 0 then (droppertop_goes.l0 k w L bt102.1 (wrap64 ((i : Int) + 1))) else (some false))) (fun k => ?_) (Ev.bind e ?_)
  ·rw [droppertop_goes.l0, if_pos (by omega), if_pos (by omega)]
  ·simp only [if_true, wsucc i (by omega)]
   exact goes_ev o hL d (i + 1) t (by omega) (by omega) (nx_ok h ht) hr
theorem dens_le {x : Int} (h0 : 0 ≤ x) : ((densR x).1 ≤ (densR x).2.1 ↔ x ≤ 840) ∧ (2 * (densR x).1 ≤ (densR x).2.1 ↔ 2 * x ≤ 840) ∧ 0 ≤ (densR x).1 ∧ (densR x).1 ≤ x := by
 unfold densR
 have g1 : (1 : Int) ≤ (Int.gcd x 840 : Int) := by
  have : 0 < Int.gcd x 840 := Int.gcd_pos_iff.2 (.inr (by decide))
  omega
 have d1 : (Int.gcd x 840 : Int) * (x / (Int.gcd x 840 : Int)) = x := Int.mul_ediv_cancel' (Int.gcd_dvd_left _ _)
 have d2 : (Int.gcd x 840 : Int) * (840 / (Int.gcd x 840 : Int)) = 840 := Int.mul_ediv_cancel' (Int.gcd_dvd_right _ _)
 generalize (Int.gcd x 840 : Int) = g at g1 d1 d2 ⊢
 generalize x / g = a at d1 ⊢
 generalize 840 / g = b at d2 ⊢
 have hc : ∀ p q : Int, p ≤ q ↔ g * p ≤ g * q := fun p q => ⟨fun h => Int.mul_le_mul_of_nonneg_left h (by omega), fun h => Int.le_of_mul_le_mul_left h (by omega)⟩
 have a0 : 0 ≤ a := by
  rw [hc, Int.mul_zero, d1]; exact h0
 refine ⟨?_, ?_, a0, ?_⟩
 ·show a ≤ b ↔ _
  rw [hc a b, d1, d2]
 ·show 2 * a ≤ b ↔ _
  rw [hc (2 * a) b, d2, Int.mul_left_comm, d1]
 ·show a ≤ x
  have := (hc 0 a).1 a0
  have h3 : 1 * a ≤ g * a := Int.mul_le_mul_of_nonneg_right g1 a0
  omega
theorem top_fin {w : List Int} (o : okW w) {r : Int × Int} (hr : lastsS w r) (x8 : Int) (A : List (List Int)) (N D : Int) : Ev (fun k => droppertop_TopIce.l0 k w r.1 r.2 x8 A (A.length : Int) N D) true := by
 have ow := (num_first (okW_pos o)).1
 rcases hr with ⟨hk, hr⟩ | ⟨hk, n, hr, hb, n1, n2⟩
 ·subst hr
  have e := ice_First_ev w ((200 : Nat) : Int)
  have h200 := K_ever o ow hk 200
  rw [firstR_some o (by omega) h200] at e
  refine Ev.step (f := fun k => (ice_First.f k w ((200 : Nat) : Int)).bind fun bt656 => (if bt656.2 = 0 then (if (bt656.1.length : Int) = 200 then ((dropperlaw08_Awake.f k).bind fun t660 => (some t660)) else (some false)) else (some false))) (fun k => ?_) (Ev.bind e ?_)
  ·rw [droppertop_TopIce.l0, if_neg (by omega), if_pos rfl]; rfl
  ·simp only [if_true, if_pos (show ((fst w 200 w).length : Int) = 200 by rw [fst_full ow h200]; rfl)]
   exact Ev.bind awake_ev (Ev.now _)
 ·subst hr
  by_cases c : (n : Int) > 199
  ·refine Ev.step (f := fun k => (dropperlaw08_Awake.f k).bind fun t661 => (some t661)) (fun k => ?_) (Ev.bind awake_ev (Ev.now _))
   rw [droppertop_TopIce.l0, if_neg (by omega), if_neg (show ¬ ((0 : Int) = 5) by decide), if_pos c]
  ·have e1 := ice_First_ev w (n : Int)
   rw [firstR_some o (by omega) n1] at e1
   have e2 := ice_First_ev w ((n + 1 : Nat) : Int)
   rw [firstR_none o (by omega) (by rw [n2]; decide)] at e2
   have hlen := fst_full ow n1
   have eg : Ev (fun k => droppertop_goes.f k w (fst w n w)) true := by
    have := goes_ev o (L := fst w n w) (by rw [hlen]; omega) _ 0 w rfl (by omega) ow (by rw [List.drop_zero]; exact fst_leads ow n1)
    exact this
   refine Ev.step (f := fun k => (ice_First.f k w (n : Int)).bind fun bt662 => ((ice_First.f k w ((n + 1 : Nat) : Int)).bind fun bt666 => (if bt662.2 = 0 then (if (bt662.1.length : Int) = (n : Int) then ((droppertop_goes.f k w bt662.1).bind fun t670 => (if t670 = true then (if bt666.2 = 5 then ((dropperlaw08_Awake.f k).bind fun t671 => (some t671)) else (some false)) else (some false))) else (some false)) else (some false)))) (fun k => ?_) (Ev.bind e1 (Ev.bind e2 ?_))
   ·rw [droppertop_TopIce.l0, if_neg (by omega), if_neg (show ¬ ((0 : Int) = 5) by decide), if_neg c, wsucc n (by omega)]
   ·simp only [if_true, if_pos (show ((fst w n w).length : Int) = (n : Int) by rw [hlen])]
    refine Ev.bind eg ?_
    simp only [if_true]
    exact Ev.bind awake_ev (Ev.now _)
theorem waits_l1 {w l : List Int} (o : okW w) (h : rota w l) {x5 x6 x8 x17 N D : Int} {A : List (List Int)} (next : Ev (fun k => droppertop_TopIce.l0 k w x5 x6 x8 A (wrap64 (x17 + 1)) N D) true) : ∀ (d s : Nat), w.length - s = d → s ≤ w.length → Ev (fun k => droppertop_TopIce.l1 k w x5 x6 x8 A x17 (wvs l w.length) (s : Int) N D) true
 | 0, s, hd, hs => by
  refine Ev.step (fun k => ?_) next
  rw [droppertop_TopIce.l1, if_neg (by omega)]
 | d + 1, s, hd, hs => by
  have o2 := o.1.2
  obtain ⟨h1, h2⟩ := h.2 s (by omega)
  refine Ev.step (f := fun k => droppertop_TopIce.l1 k w x5 x6 x8 A x17 (wvs l w.length) ((s + 1 : Nat) : Int) N D) (fun k => ?_) (waits_l1 o h next d (s + 1) (by omega) (by omega))
  rw [droppertop_TopIce.l1, if_pos (by omega), if_pos (by omega), if_pos (by simp [wvs]; omega), wvs_rd (by omega), if_neg (by omega), if_neg (by omega), wsucc s (by omega)]
theorem top_loop {w : List Int} (o : okW w) {x5 x6 x8 N D : Int} {A : List (List Int)} (hA3 : A.length ≤ 10) (hA : ∀ i, i < A.length → (rd_L1 A (i : Int)).length ≤ 40000) (hR : ∀ i, 1 ≤ i → i < A.length → rota w (rd_L1 A (i : Int))) (h8 : ∀ l, rota w l → x8 = 0 ∧ N ≤ D) (fin : Ev (fun k => droppertop_TopIce.l0 k w x5 x6 x8 A (A.length : Int) N D) true) : ∀ (d i : Nat), A.length - i = d → i ≤ A.length → Ev (fun k => droppertop_TopIce.l0 k w x5 x6 x8 A (i : Int) N D) true
 | 0, i, hd, hi => by
  obtain rfl : i = A.length := by omega
  exact fin
 | d + 1, i, hd, hi => by
  classical
  have next := top_loop o hA3 hA hR h8 fin d (i + 1) (by omega) (by omega)
  rw [← wsucc i (by omega)] at next
  have hl := hA i (by omega)
  have er := ice_IsRota_ev w (rd_L1 A (i : Int)) (by omega)
  unfold isRotaR at er
  rw [if_pos o] at er
  have main : Ev (fun k => droppertop_TopIce.j6 k w x5 x6 x8 A (i : Int) (decide (rota w (rd_L1 A (i : Int)))) false N D) true := by
   by_cases hr : rota w (rd_L1 A (i : Int))
   ·have ha : askedR w (rd_L1 A (i : Int)) = 0 := by unfold askedR; rw [if_pos o, if_pos hr]
    have ew := ice_Waits_ev w (rd_L1 A (i : Int)) (by omega)
    have et := ice_Turned_ev w (rd_L1 A (i : Int)) (by omega)
    unfold waitsR at ew
    unfold turnedR at et
    rw [if_pos ha] at ew et
    have eb := ice_IsRota_ev w (rd_L1 A (i : Int)).reverse (by rw [List.length_reverse]; omega)
    unfold isRotaR at eb
    rw [if_pos o, decide_eq_true (rota_rev o hr)] at eb
    obtain ⟨g1, g2⟩ := h8 _ hr
    refine Ev.step (f := fun k => (ice_Waits.f k w (rd_L1 A (i : Int))).bind fun bt642 => ((ice_Turned.f k w (rd_L1 A (i : Int))).bind fun bt647 => ((ice_IsRota.f k w bt647.1).bind fun bt651 => (if bt642.2 = 0 then (if bt647.2 = 0 then (if bt651.2 = 0 then (if bt651.1 = true then (if x8 = 0 then (if N > D then (droppertop_TopIce.j7 k w x5 x6 x8 A (i : Int) bt642.1 true N D) else (droppertop_TopIce.j7 k w x5 x6 x8 A (i : Int) bt642.1 ((bt642.1.length : Int) != (w.length : Int)) N D)) else (droppertop_TopIce.j7 k w x5 x6 x8 A (i : Int) bt642.1 true N D)) else (droppertop_TopIce.j7 k w x5 x6 x8 A (i : Int) bt642.1 true N D)) else (droppertop_TopIce.j7 k w x5 x6 x8 A (i : Int) bt642.1 true N D)) else (droppertop_TopIce.j7 k w x5 x6 x8 A (i : Int) bt642.1 true N D)) else (droppertop_TopIce.j7 k w x5 x6 x8 A (i : Int) bt642.1 true N D))))) (fun k => ?_) (Ev.bind ew (Ev.bind et (Ev.bind eb ?_)))
    ·rw [droppertop_TopIce.j6, if_neg (by decide), decide_eq_true hr, if_pos rfl, if_pos (by omega), if_pos (by omega)]
    ·have hlw : (((wvs (rd_L1 A (i : Int)) w.length).length : Int) != (w.length : Int)) = false := by simp [wvs]
     simp only [if_true, if_pos g1, if_neg (show ¬ N > D by omega), hlw]
     refine Ev.step (f := fun k => droppertop_TopIce.l1 k w x5 x6 x8 A (i : Int) (wvs (rd_L1 A (i : Int)) w.length) ((0 : Nat) : Int) N D) (fun k => ?_) (waits_l1 o hr next _ 0 rfl (by omega))
     rw [droppertop_TopIce.j7, if_neg (by decide)]
     rfl
   ·refine Ev.step (fun k => ?_) next
    rw [droppertop_TopIce.j6, if_neg (by decide), decide_eq_false hr, if_neg (by decide)]
  refine Ev.step (f := fun k => (ice_IsRota.f k w (rd_L1 A (i : Int))).bind fun bt639 => (if bt639.2 = 0 then (if (i : Int) > 0 then (droppertop_TopIce.j6 k w x5 x6 x8 A (i : Int) bt639.1 (!bt639.1) N D) else (droppertop_TopIce.j6 k w x5 x6 x8 A (i : Int) bt639.1 false N D)) else (droppertop_TopIce.j6 k w x5 x6 x8 A (i : Int) bt639.1 true N D))) (fun k => ?_) (Ev.bind er ?_)
  ·rw [droppertop_TopIce.l0, if_pos (by omega), if_pos (by omega)]
  ·by_cases c : (i : Int) > 0
   ·have hr := hR i (by omega) (by omega)
    rw [decide_eq_true hr] at main ⊢
    simp only [if_true, if_pos c]
    exact main
   ·simp only [if_true, if_neg c]
    exact main
theorem TopIce_pure (l0 l1 : List Int) (hx0 : ∀ x ∈ l0, (Lit.int .i64 x).wf = true) (hx1 : ∀ x ∈ l1, (Lit.int .i64 x).wf = true) (hl0 : l0.length ≤ 9223372036854775807) (hl1 : l1.length ≤ 9223372036854775807) : ∃ k, droppertop_TopIce.f k l0 l1 = some true := by
 classical
 have away : Ev (fun k => droppertop_TopIce.j0 k l0 l1 true) true := by
  refine Ev.step (f := fun k => (dropperlaw08_Awake.f k).bind fun t606 => (some t606)) (fun k => ?_) (Ev.bind awake_ev (Ev.now _))
  rw [droppertop_TopIce.j0, if_pos rfl]
 apply Ev.rounds
 refine Ev.bind (ref_Valid_ev l0 hl0) ?_
 by_cases o : ¬ okW l0
 ·simp only [decide_eq_false o, Bool.false_eq_true, if_false]
  exact away
 have o : okW l0 := Classical.not_not.1 o
 simp only [decide_eq_true o, if_true]
 obtain ⟨b, em, hb⟩ := many1_ev l0 hl0 l1
 refine Ev.bind em ?_
 cases b with
 | true => exact away
 | false =>
 obtain ⟨_, hb2, hb3⟩ := hb rfl
 have hp := hb3 o
 obtain ⟨r, e1, a1, _⟩ := ice_Lasts_ev l0
 have hr := a1 o
 obtain ⟨q, e2, q0, _, q2⟩ := Rota_ev l0
 obtain ⟨c1, c2, c3⟩ := q2 o
 have e3 := ice_Density_ev l0
 unfold densityR at e3
 rw [if_pos o] at e3
 have e4 := ice_Halves_ev l0
 rw [if_pos o] at e4
 have e5 := ice_Density_ev (l0.map hv)
 unfold densityR at e5
 rw [if_pos (okW_hv o)] at e5
 obtain ⟨q', e6, hq'⟩ := ByHalves_ev o hl0
 have db := dsum_bd (okW_all o)
 have db2 := dsum_bd (okW_all (okW_hv o))
 have dh := dsum_hv (okW_all o)
 have o2 := o.1.2
 rw [List.length_map] at db2
 obtain ⟨n1, n2, n3, n4⟩ := dens_le (x := dsum l0) (by omega)
 obtain ⟨m1, m2, m3, m4⟩ := dens_le (x := dsum (l0.map hv)) (by omega)
 have ow := (num_first (okW_pos o)).1
 have h8 : ∀ l, rota l0 l → q.2 = 0 ∧ (densR (dsum l0)).1 ≤ (densR (dsum l0)).2.1 := fun l h => by
  have hk := rota_ever o h (inf l0)
  exact ⟨c2 hk, n1.2 (dens_ever o hk)⟩
 have fin : ∀ A : List (List Int), Ev (fun k => droppertop_TopIce.l0 k l0 r.1 r.2 q.2 A (A.length : Int) (densR (dsum l0)).1 (densR (dsum l0)).2.1) true := fun A => top_fin o hr _ A _ _
 -- the lists
 have qlen : q'.2 = 0 → q'.1.length ≤ 40000 ∧ rota l0 q'.1 := fun z => by
  rcases hq' with ⟨_, _, h⟩ | ⟨_, h⟩
  ·exact ⟨by have := h.1.1.2; omega, h⟩
  ·rw [z] at h; cases h
 have qr : q.2 = 0 → rota l0 q.1 := fun z => by
  cases hk : K l0 (inf l0) l0 with
  | true => exact c3 hp hk
  | false => rw [c1 hk] at z; cases z
 have j4 : ∀ A : List (List Int), A.length ≤ 10 → (∀ i, i < A.length → (rd_L1 A (i : Int)).length ≤ 40000) → (∀ i, 1 ≤ i → i < A.length → rota l0 (rd_L1 A (i : Int))) → Ev (fun k => droppertop_TopIce.j4 k l0 r.1 r.2 q.2 A (densR (dsum l0)).1 (densR (dsum l0)).2.1) true := fun A hA3 hA hR => by
  refine Ev.step (f := fun k => droppertop_TopIce.l0 k l0 r.1 r.2 q.2 A ((0 : Nat) : Int) (densR (dsum l0)).1 (densR (dsum l0)).2.1) (fun k => ?_) (top_loop o hA3 hA hR h8 (fin A) _ 0 rfl (by omega))
  rw [droppertop_TopIce.j4]
  rfl
 have j3 : ∀ A : List (List Int), 1 ≤ A.length → A.length ≤ 2 → (∀ i, i < A.length → (rd_L1 A (i : Int)).length ≤ 40000) → (∀ i, 1 ≤ i → i < A.length → rota l0 (rd_L1 A (i : Int))) → Ev (fun k => droppertop_TopIce.j3 k l0 r.1 r.2 q.2 q'.1 q'.2 A (densR (dsum l0)).1 (densR (dsum l0)).2.1) true := fun A hA1 hA3 hA hR => by
  by_cases c : q'.2 = 0
  ·have hla : (A ++ [q'.1]).length = A.length + 1 := by simp
   have hold : ∀ i, i < A.length → rd_L1 (A ++ [q'.1]) (i : Int) = rd_L1 A (i : Int) := fun i hi => by
    unfold rd_L1; simp [List.getD_eq_getElem?_getD, List.getElem?_append_left hi]
   have hnew : rd_L1 (A ++ [q'.1]) (A.length : Int) = q'.1 := by
    unfold rd_L1; simp [List.getD_eq_getElem?_getD]
   refine Ev.step (fun k => ?_) (j4 (A ++ [q'.1]) (by omega) (fun i hi => ?_) (fun i h1 hi => ?_))
   ·rw [droppertop_TopIce.j3, if_pos c, if_pos (by omega)]
   ·by_cases z : i = A.length
    ·subst z; rw [hnew]; exact (qlen c).1
    ·rw [hold i (by omega)]; exact hA i (by omega)
   ·by_cases z : i = A.length
    ·subst z; rw [hnew]; exact (qlen c).2
    ·rw [hold i (by omega)]; exact hR i h1 (by omega)
  ·refine Ev.step (fun k => ?_) (j4 A (by omega) hA hR)
   rw [droppertop_TopIce.j3, if_neg c]
 have j2 : Ev (fun k => droppertop_TopIce.j2 k l0 l1 r.1 r.2 q.1 q.2 q'.1 q'.2 false (densR (dsum l0)).1 (densR (dsum l0)).2.1) true := by
  by_cases c : q.2 = 0
  ·refine Ev.step (fun k => ?_) (j3 [l1, q.1] (by simp) (by simp) (fun i hi => ?_) (fun i h1 hi => ?_))
   ·rw [droppertop_TopIce.j2, if_neg (by decide)]
    simp only [Option.bind_some, if_pos c]
    rw [if_pos (by simp)]
    rfl
   ·have : i = 0 ∨ i = 1 := by simp at hi; omega
    rcases this with z | z <;> subst z
    ·show l1.length ≤ _; omega
    ·exact q0
   ·have : i = 1 := by simp at hi; omega
    subst this
    exact qr c
  ·refine Ev.step (fun k => ?_) (j3 [l1] (by simp) (by simp) (fun i hi => ?_) (fun i h1 hi => ?_))
   ·rw [droppertop_TopIce.j2, if_neg (by decide)]
    simp only [Option.bind_some, if_neg c]
   ·have : i = 0 := by simp at hi; omega
    subst this
    show l1.length ≤ _; omega
   ·simp at hi; omega
 have j1 : Ev (fun k => droppertop_TopIce.j1 k l0 l1 r.1 r.2 q.1 q.2 false (densR (dsum l0)).1 (densR (dsum l0)).2.1) true := by
  refine Ev.step (fun k => by rw [droppertop_TopIce.j1, if_neg (by decide)]) (Ev.bind e4 (Ev.bind e5 (Ev.bind e6 ?_)))
  have hz : (densR (dsum (l0.map hv))).2.2 = 0 := rfl
  simp only [if_true, hz]
  have hw : wrap64 (2 * (densR (dsum l0)).1) = 2 * (densR (dsum l0)).1 := w64 (by omega) (by omega)
  rw [hw]
  rcases hq' with ⟨d1, d2, d3⟩ | ⟨d1, d2⟩
  ·have x1 : ((q'.2 == 0) != decide ((densR (dsum (l0.map hv))).1 ≤ (densR (dsum (l0.map hv))).2.1)) = false := by
    rw [decide_eq_true (m1.2 d1), d2]; rfl
   have x2 : (q'.2 != 0) = false := by rw [d2]; rfl
   simp only [x1, Bool.false_eq_true, if_false, if_pos d2, x2, ite_self]
   exact j2
  ·have x1 : ((q'.2 == 0) != decide ((densR (dsum (l0.map hv))).1 ≤ (densR (dsum (l0.map hv))).2.1)) = false := by
    rw [decide_eq_false (fun z => d1 (m1.1 z)), d2]; rfl
   have x3 : ¬ 2 * (densR (dsum l0)).1 ≤ (densR (dsum l0)).2.1 := fun z => by
    have := n2.1 z
    omega
   simp only [x1, Bool.false_eq_true, if_false, if_neg (show ¬ q'.2 = 0 by rw [d2]; decide), if_pos d2, if_neg x3]
   exact j2
 refine Ev.step (fun k => by rw [droppertop_TopIce.j0, if_neg (by decide)]) (Ev.bind e1 (Ev.bind e2 (Ev.bind e3 ?_)))
 have hz : (densR (dsum l0)).2.2 = 0 := rfl
 simp only [if_true, hz]
 rcases hr with ⟨hk, hr⟩ | ⟨hk, n, hr, _⟩
 ·have g := c2 hk
  have x1 : ((r.2 == 5) != (q.2 == 0)) = false := by rw [hr, g]; rfl
  simp only [x1, Bool.false_eq_true, if_false, if_neg (show ¬ r.2 = 0 by rw [hr]; decide), if_pos (show r.2 = 5 by rw [hr]), if_pos g]
  exact j1
 ·have g := c1 hk
  have g2 : q.2 = 5 := by rw [g]
  have x1 : ((r.2 == 5) != (q.2 == 0)) = false := by rw [hr, g2]; rfl
  have x2 : (q.2 != 5) = false := by rw [g2]; rfl
  simp only [x1, Bool.false_eq_true, if_false, if_pos (show r.2 = 0 by rw [hr]), if_neg (show ¬ q.2 = 0 by rw [g2]; decide), x2]
  exact j1
end Go.Proofs.Ythbpibdfookbmaa.G
end
