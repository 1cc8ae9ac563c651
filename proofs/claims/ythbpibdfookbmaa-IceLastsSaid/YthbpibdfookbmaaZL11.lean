/- Functions of the seat and plain laws about them: SLasts. -/
import Derived.Test.YthbpibdfookbmaaZL10
import Derived.Test.YthbpibdfookbmaaZL3
import Derived.Test.YthbpibdfookbmaaZL4
import Derived.Test.YthbpibdfookbmaaZL0
import Derived.Test.YthbpibdfookbmaaZL1
import Derived.Test.YthbpibdfookbmaaZL6
import Derived.Test.YthbpibdfookbmaaZL9
import Derived.Test.YthbpibdfookbmaaZL2
import Derived.Test.YthbpibdfookbmaaZL5
import Derived.Test.YthbpibdfookbmaaZL7
import Derived.Test.YthbpibdfookbmaaZL8
import Derived.Test.YthbpibdfookbmaaGBase
section
namespace Go.Proofs.Ythbpibdfookbmaa.G
set_option linter.unusedVariables false
set_option linter.unusedSimpArgs false
set_option linter.unusedSectionVars false
open Go.RowKit Go.Proofs.YthbpibdfookbmaaW.PrintWords Go.Proofs.YthbpibdfookbmaaW.PrintLast
open Go.RowKit Go.Proofs.YthbpibdfookbmaaW.PrintWords Go.Proofs.YthbpibdfookbmaaW.PrintLast Go.Proofs.YthbpibdfookbmaaW.PrintMore
theorem w64 {n : Int} (h : -9223372036854775808 ≤ n) (h2 : n ≤ 9223372036854775807) : wrap64 n = n := by unfold wrap64; omega
theorem ev_some {α : Type} (r : α) {g : Nat → Option α} (h : ∀ k, g (k + 1) = some r) : Ev g r := Ev.step (f := fun _ => some r) h (Ev.now r)
theorem wsucc (i : Nat) (h : i < 9223372036854775807) : wrap64 ((i : Int) + 1) = ((i + 1 : Nat) : Int) := by rw [w64 (by omega) (by omega)]; rfl
theorem wpred (i : Nat) (h : i < 9223372036854775807) : wrap64 (((i + 1 : Nat) : Int) - 1) = (i : Int) := by rw [w64 (by omega) (by omega)]; omega
theorem rd_get {w : List Int} {i : Nat} (h : i < w.length) : rd w (i : Int) = w[i] := by
  simp [rd, List.getD_eq_getElem?_getD, h]
theorem rd_drop (w : List Int) (i : Nat) (h : i < w.length) : w.drop i = rd w (i : Int) :: w.drop (i + 1) := by
  rw [rd_get h]; exact List.drop_eq_getElem_cons h
/-- All are at least 1. -/
def pos (w : List Int) : Prop := ∀ a ∈ w, 1 ≤ a
def prodI : List Int → Int
  | [] => 1
  | a :: w => a * prodI w
theorem prodI_pos {w : List Int} (h : pos w) : 1 ≤ prodI w := by
  induction w with
  | nil => exact Int.le_refl _
  | cons a w ih =>
    have h1 := h a (by simp)
    have h2 := ih (fun b hb => h b (by simp [hb]))
    have : 1 * 1 ≤ a * prodI w := Int.mul_le_mul h1 h2 (by omega) (by omega)
    simpa [prodI] using this
theorem pos_drop {w : List Int} (h : pos w) (i : Nat) : pos (w.drop i) := fun a ha => h a (List.mem_of_mem_drop ha)
theorem pos_take {w : List Int} (h : pos w) (i : Nat) : pos (w.take i) := fun a ha => h a (List.mem_of_mem_take ha)
theorem prodI_append (u v : List Int) : prodI (u ++ v) = prodI u * prodI v := by
  induction u with
  | nil => simp [prodI]
  | cons a u ih => simp [prodI, ih, Int.mul_assoc]
theorem prodI_split (w : List Int) (i : Nat) : prodI (w.take i) * prodI (w.drop i) = prodI w := by
  rw [← prodI_append, List.take_append_drop]
theorem prodI_take_succ (w : List Int) (i : Nat) (h : i < w.length) : prodI (w.take (i + 1)) = prodI (w.take i) * rd w (i : Int) := by
  rw [List.take_succ_eq_append_getElem h, prodI_append, rd_get h]
  simp [prodI]
/-- A state of wants: as many numbers, each from 1 to the want. -/
def okSt : List Int → List Int → Prop
  | [], [] => True
  | a :: w, x :: s => (1 ≤ x ∧ x ≤ a) ∧ okSt w s
  | _, _ => False
theorem okSt_len : ∀ {w s : List Int}, okSt w s → s.length = w.length
  | [], [], _ => rfl
  | a :: w, x :: s, h => by simp [okSt_len h.2]
  | [], _ :: _, h => h.elim
  | _ :: _, [], h => h.elim
theorem okSt_pos : ∀ {w s : List Int}, okSt w s → pos w
  | [], [], _ => fun a ha => by simp at ha
  | a :: w, x :: s, h => fun b hb => by
    rcases List.mem_cons.1 hb with rfl | hb
    · have := h.1; omega
    · exact okSt_pos h.2 b hb
  | [], _ :: _, h => h.elim
  | _ :: _, [], h => h.elim
theorem okSt_iff : ∀ {w s : List Int}, okSt w s ↔ (s.length = w.length ∧ ∀ i, i < w.length → 1 ≤ rd s (i : Int) ∧ rd s (i : Int) ≤ rd w (i : Int))
  | [], [] => by simp [okSt]
  | a :: w, x :: s => by
    unfold okSt
    rw [okSt_iff (w := w) (s := s)]
    constructor
    · rintro ⟨h1, h2, h3⟩
      refine ⟨by simp [h2], fun i hi => ?_⟩
      cases i with
      | zero => exact h1
      | succ i => exact h3 i (by simpa using hi)
    · rintro ⟨h1, h2⟩
      exact ⟨h2 0 (by simp), by simpa using h1, fun i hi => h2 (i + 1) (by simpa using hi)⟩
  | [], _ :: _ => by simp [okSt]
  | _ :: _, [] => by simp [okSt]
theorem okSt_append {w s w' s' : List Int} (h : okSt w s) (h' : okSt w' s') : okSt (w ++ w') (s ++ s') := by
  induction w generalizing s with
  | nil =>
    match s, h with
    | [], _ => exact h'
  | cons a w ih =>
    match s, h with
    | x :: s, h => exact ⟨h.1, ih h.2⟩
theorem okSt_reverse {w s : List Int} (h : okSt w s) : okSt w.reverse s.reverse := by
  induction w generalizing s with
  | nil =>
    match s, h with
    | [], _ => exact trivial
  | cons a w ih =>
    match s, h with
    | x :: s, h =>
      rw [List.reverse_cons, List.reverse_cons]
      exact okSt_append (ih h.2) ⟨h.1, trivial⟩
/-- The number of a state: its first number counts least. -/
def numL : List Int → List Int → Int
  | a :: w, x :: s => (x - 1) + a * numL w s
  | _, _ => 0
theorem numL_bd : ∀ {w s : List Int}, okSt w s → 0 ≤ numL w s ∧ numL w s < prodI w
  | [], [], _ => by simp [numL, prodI]
  | a :: w, x :: s, h => by
    obtain ⟨h1, h2⟩ := numL_bd h.2
    obtain ⟨⟨h3, h4⟩, h5⟩ := h
    have h6 : 0 ≤ a * numL w s := Int.mul_nonneg (by omega) h1
    have h7 : a * (numL w s + 1) ≤ a * prodI w := Int.mul_le_mul_of_nonneg_left (by omega) (by omega)
    rw [Int.mul_add] at h7
    simp only [numL, prodI]
    omega
  | [], _ :: _, h => h.elim
  | _ :: _, [], h => h.elim
/-- The state with a number. -/
def digL : List Int → Int → List Int
  | [], _ => []
  | a :: w, n => (n % a + 1) :: digL w (n / a)
theorem dig_num : ∀ {w s : List Int}, okSt w s → digL w (numL w s) = s
  | [], [], _ => rfl
  | a :: w, x :: s, h => by
    have h0 := dig_num h.2
    obtain ⟨⟨h3, h4⟩, h5⟩ := h
    have e1 : (x - 1 + a * numL w s) % a = x - 1 := by
      rw [Int.add_mul_emod_self_left]; exact Int.emod_eq_of_lt (by omega) (by omega)
    have e2 : (x - 1 + a * numL w s) / a = numL w s := by
      rw [Int.add_mul_ediv_left _ _ (by omega), Int.ediv_eq_zero_of_lt (by omega) (by omega)]; omega
    simp only [numL, digL, e1, e2, h0]
    congr 1
    omega
  | [], _ :: _, h => h.elim
  | _ :: _, [], h => h.elim
theorem num_dig : ∀ {w : List Int} {n : Int}, pos w → 0 ≤ n → n < prodI w → numL w (digL w n) = n ∧ okSt w (digL w n)
  | [], n, _, h1, h2 => by
    have h2 : n < 1 := h2
    exact ⟨by simp [numL]; omega, trivial⟩
  | a :: w, n, hp, h1, h2 => by
    have ha := hp a (by simp)
    have h2 : n < a * prodI w := h2
    have hq : n / a < prodI w := Int.ediv_lt_of_lt_mul (by omega) (by rw [Int.mul_comm]; exact h2)
    obtain ⟨e, o⟩ := num_dig (w := w) (n := n / a) (fun b hb => hp b (by simp [hb])) (Int.ediv_nonneg h1 (by omega)) hq
    have h3 := Int.emod_nonneg n (show a ≠ 0 by omega)
    have h4 := Int.emod_lt_of_pos n (show 0 < a by omega)
    refine ⟨?_, ⟨by omega, by omega⟩, o⟩
    simp only [digL, numL, e]
    have := Int.emod_add_mul_ediv n a
    omega
/-- The state behind a night in which section c (from 0 on) is scraped; none: it is lost. -/
def nx : List Int → List Int → Int → Option (List Int)
  | a :: w, x :: s, c => if (if c = 0 then a else x - 1) = 0 then none else (nx w s (c - 1)).map fun t => (if c = 0 then a else x - 1) :: t
  | _, _, _ => some []
theorem nx_ok : ∀ {w s : List Int} {c : Int} {t : List Int}, okSt w s → nx w s c = some t → okSt w t
  | [], [], c, t, _, h => by
    obtain rfl := Option.some.inj h
    exact trivial
  | a :: w, x :: s, c, t, ho, h => by
    unfold nx at h
    by_cases z : (if c = 0 then a else x - 1) = 0
    · rw [if_pos z] at h; cases h
    · rw [if_neg z] at h
      obtain ⟨t', ht, rfl⟩ := Option.map_eq_some_iff.1 h
      obtain ⟨⟨h3, h4⟩, h5⟩ := ho
      refine ⟨?_, nx_ok h5 ht⟩
      by_cases q : c = 0
      · rw [if_pos q] at z ⊢; omega
      · rw [if_neg q] at z ⊢; omega
  | [], _ :: _, _, _, ho, _ => ho.elim
  | _ :: _, [], _, _, ho, _ => ho.elim
/-- All choices: none (-1), and each section. -/
def chs (n : Nat) : List Int := (List.range (n + 1)).map fun i : Nat => (i : Int) - 1
theorem mem_chs {n : Nat} {c : Int} : c ∈ chs n ↔ -1 ≤ c ∧ c < n := by
  unfold chs
  simp only [List.mem_map, List.mem_range]
  constructor
  · rintro ⟨i, h, rfl⟩; omega
  · rintro ⟨h1, h2⟩; exact ⟨(c + 1).toNat, by omega, by omega⟩
/-- Whether a state can go on for so many nights. -/
def K (w : List Int) : Nat → List Int → Bool
  | 0, _ => true
  | k + 1, s => (chs w.length).any fun c => match nx w s c with
    | some t => K w k t
    | none => false
theorem K_succ {w : List Int} {k : Nat} {s : List Int} : K w (k + 1) s = true ↔ ∃ (c : Int) (t : List Int), -1 ≤ c ∧ c < w.length ∧ nx w s c = some t ∧ K w k t = true := by
  rw [K, List.any_eq_true]
  constructor
  · rintro ⟨c, hc, h⟩
    obtain ⟨h1, h2⟩ := mem_chs.1 hc
    cases e : nx w s c with
    | none => rw [e] at h; cases h
    | some t => rw [e] at h; exact ⟨c, t, h1, h2, e, h⟩
  · rintro ⟨c, t, h1, h2, e, h⟩
    exact ⟨c, mem_chs.2 ⟨h1, h2⟩, by rw [e]; exact h⟩
theorem K_anti {w : List Int} : ∀ {k : Nat} {s : List Int}, K w (k + 1) s = true → K w k s = true
  | 0, s, _ => rfl
  | k + 1, s, h => by
    obtain ⟨c, t, h1, h2, e, h⟩ := K_succ.1 h
    exact K_succ.2 ⟨c, t, h1, h2, e, K_anti h⟩
theorem K_le {w : List Int} {s : List Int} {k m : Nat} (hk : k ≤ m) (h : K w m s = true) : K w k s = true := by
  induction m with
  | zero => obtain rfl : k = 0 := by omega
            exact h
  | succ m ih =>
    by_cases q : k = m + 1
    · rw [q]; exact h
    · exact ih (by omega) (K_anti h)
/-- From k on nothing changes. -/
def stable (w : List Int) (k : Nat) : Prop := ∀ s, okSt w s → K w (k + 1) s = K w k s
theorem stable_succ {w : List Int} {k : Nat} (h : stable w k) : stable w (k + 1) := by
  intro s hs
  have key : ∀ {s : List Int}, okSt w s → K w (k + 1) s = true → K w (k + 1 + 1) s = true := by
    intro s hs hk
    obtain ⟨c, t, h1, h2, e, h3⟩ := K_succ.1 hk
    exact K_succ.2 ⟨c, t, h1, h2, e, (h t (nx_ok hs e)).trans h3⟩
  cases q : K w (k + 1) s with
  | true => exact key hs q
  | false =>
    cases q2 : K w (k + 1 + 1) s with
    | false => rfl
    | true => exact absurd (K_anti q2) (by rw [q]; decide)
theorem stable_le {w : List Int} {k m : Nat} (h : stable w k) (hk : k ≤ m) : stable w m := by
  induction m with
  | zero => obtain rfl : k = 0 := by omega
            exact h
  | succ m ih =>
    by_cases q : k = m + 1
    · rw [← q]; exact h
    · exact stable_succ (ih (by omega))
theorem stable_eq {w : List Int} {k m : Nat} (h : stable w k) (hk : k ≤ m) {s : List Int} (hs : okSt w s) : K w m s = K w k s := by
  induction m with
  | zero => obtain rfl : k = 0 := by omega
            rfl
  | succ m ih =>
    by_cases q : k = m + 1
    · rw [q]
    · exact (stable_le h (by omega) s hs).trans (ih (by omega))
/-- How many of the numbers below n have p. -/
def cnt (p : Nat → Bool) : Nat → Nat
  | 0 => 0
  | n + 1 => cnt p n + if p n then 1 else 0
theorem cnt_le (p : Nat → Bool) : ∀ n, cnt p n ≤ n
  | 0 => Nat.le_refl _
  | n + 1 => by
    have := cnt_le p n
    unfold cnt; split <;> omega
theorem cnt_mono {p q : Nat → Bool} : ∀ {n : Nat}, (∀ i, i < n → p i = true → q i = true) → cnt p n ≤ cnt q n
  | 0, _ => Nat.le_refl _
  | n + 1, h => by
    have h1 := cnt_mono (n := n) (fun i hi => h i (by omega))
    have h2 := h n (by omega)
    unfold cnt
    by_cases c : p n = true
    · rw [if_pos c, if_pos (h2 c)]; omega
    · rw [if_neg c]; omega
theorem cnt_lt {p q : Nat → Bool} : ∀ {n : Nat}, (∀ i, i < n → p i = true → q i = true) → (∃ i, i < n ∧ p i = false ∧ q i = true) → cnt p n < cnt q n
  | 0, _, h => by obtain ⟨i, hi, _⟩ := h; omega
  | n + 1, h, ⟨i, hi, h3, h4⟩ => by
    have h2 := h n (by omega)
    by_cases q1 : i = n
    · subst q1
      have h1 := cnt_mono (n := i) (fun j hj => h j (by omega))
      unfold cnt
      rw [h3, h4]
      simp; omega
    · have h1 := cnt_lt (n := n) (fun j hj => h j (by omega)) ⟨i, by omega, h3, h4⟩
      unfold cnt
      by_cases c : p n = true
      · rw [if_pos c, if_pos (h2 c)]; omega
      · rw [if_neg c]; omega
theorem cnt_congr {p q : Nat → Bool} : ∀ {n : Nat}, (∀ i, i < n → p i = q i) → cnt p n = cnt q n
  | 0, _ => rfl
  | n + 1, h => by unfold cnt; rw [cnt_congr (fun i hi => h i (by omega)), h n (by omega)]
theorem cnt_zero {p : Nat → Bool} : ∀ {n : Nat}, cnt p n = 0 → ∀ i, i < n → p i = false
  | 0, _, i, hi => by omega
  | n + 1, h, i, hi => by
    unfold cnt at h
    by_cases c : p n = true
    · rw [if_pos c] at h; omega
    · rw [if_neg c] at h
      by_cases q : i = n
      · rw [q]; simpa using c
      · exact cnt_zero (n := n) (by omega) i (by omega)
/-- How many states can go on for k nights. -/
def cntK (w : List Int) (k : Nat) : Nat := cnt (fun i => K w k (digL w i)) (prodI w).toNat
theorem dig_ok {w : List Int} (hp : pos w) {i : Nat} (hi : i < (prodI w).toNat) : numL w (digL w i) = i ∧ okSt w (digL w i) := num_dig hp (by omega) (by omega)
theorem num_lt {w s : List Int} (h : okSt w s) : (numL w s).toNat < (prodI w).toNat ∧ ((numL w s).toNat : Int) = numL w s := by
  obtain ⟨h1, h2⟩ := numL_bd h
  omega
theorem cntK_step {w : List Int} (hp : pos w) {k : Nat} (h : ¬ stable w k) : cntK w (k + 1) < cntK w k := by
  refine cnt_lt (fun i hi => fun h => K_anti h) ?_
  refine Classical.byContradiction fun hn => h fun s hs => ?_
  obtain ⟨h1, h2⟩ := num_lt hs
  have e : digL w ((numL w s).toNat : Int) = s := by rw [h2]; exact dig_num hs
  cases q : K w (k + 1) s with
  | true => exact (K_anti q).symm
  | false =>
    cases q2 : K w k s with
    | false => rfl
    | true => exact absurd ⟨_, h1, by rw [e]; exact q, by rw [e]; exact q2⟩ hn
/-- Behind as many nights as there are states nothing changes. -/
theorem stable_all {w : List Int} (hp : pos w) {k : Nat} (hk : (prodI w).toNat ≤ k) : stable w k := by
  have key : ∀ m, (∃ j, j < m ∧ stable w j) ∨ cntK w m + m ≤ (prodI w).toNat := by
    intro m
    induction m with
    | zero => exact .inr (by have := cnt_le (fun i => K w 0 (digL w i)) (prodI w).toNat; unfold cntK; omega)
    | succ m ih =>
      rcases ih with ⟨j, hj, h⟩ | h
      · exact .inl ⟨j, by omega, h⟩
      · by_cases c : stable w m
        · exact .inl ⟨m, by omega, c⟩
        · have := cntK_step hp c
          exact .inr (by omega)
  rcases key k with ⟨j, hj, h⟩ | h
  · exact stable_le h (by omega)
  · have h0 : cntK w k = 0 := by omega
    intro s hs
    obtain ⟨h1, h2⟩ := num_lt hs
    have e := cnt_zero h0 _ h1
    simp only [h2, dig_num hs] at e
    rw [e]
    cases q : K w (k + 1) s with
    | false => rfl
    | true => exact absurd (K_anti q) (by rw [e]; decide)
theorem within_some (a b c : Int) : ice_within.f a b c = some (decide (a ≤ b ∧ b ≤ c)) := by
  unfold ice_within.f
  by_cases h : a ≤ b <;> simp [h]
theorem from_some (a b c : Int) : dropperref08_from.f a b c = some (decide (a ≤ b ∧ b ≤ c)) := by
  unfold dropperref08_from.f
  by_cases h : a ≤ b <;> simp [h]
theorem mx_eq (a b : Int) : mx a b = max a b := by unfold mx; split <;> omega
/-- Wants as described. -/
def okW (w : List Int) : Prop := (1 ≤ w.length ∧ w.length ≤ 5) ∧ ∀ i, i < w.length → 1 ≤ rd w (i : Int) ∧ rd w (i : Int) ≤ 8
theorem okW_mem {w : List Int} (h : okW w) {a : Int} (ha : a ∈ w) : 1 ≤ a ∧ a ≤ 8 := by
  obtain ⟨i, hi, rfl⟩ := List.getElem_of_mem ha
  have := h.2 i hi
  rwa [rd_get hi] at this
theorem okW_pos {w : List Int} (h : okW w) : pos w := fun a ha => (okW_mem h ha).1
theorem prodI_le8 : ∀ {w : List Int}, (∀ a ∈ w, 1 ≤ a ∧ a ≤ 8) → prodI w ≤ 8 ^ w.length
  | [], _ => by simp [prodI]
  | a :: w, h => by
    have h1 := h a (by simp)
    have h2 := prodI_le8 (w := w) (fun b hb => h b (by simp [hb]))
    have h3 := prodI_pos (w := w) (fun b hb => (h b (by simp [hb])).1)
    have : a * prodI w ≤ 8 * 8 ^ w.length := Int.mul_le_mul h1.2 h2 (by omega) (by omega)
    simp only [prodI, List.length_cons, Int.pow_succ]
    omega
theorem prodI_le {w : List Int} (h : okW w) : 1 ≤ prodI w ∧ prodI w ≤ 32768 := by
  refine ⟨prodI_pos (okW_pos h), Int.le_trans (prodI_le8 (fun a ha => okW_mem h ha)) ?_⟩
  obtain ⟨⟨h1, h2⟩, _⟩ := h
  generalize w.length = n at h1 h2
  match n, h1, h2 with
  | 1, _, _ => decide
  | 2, _, _ => decide
  | 3, _, _ => decide
  | 4, _, _ => decide
  | 5, _, _ => decide
theorem index_int_loop {l : List Int} (hl : l.length ≤ 9223372036854775807) {fn : Int → Option Bool} {p : Nat → Prop} [DecidablePred p] (hp : ∀ j, j < l.length → fn (rd l (j : Int)) = some (decide (p j))) : ∀ (d i : Nat), l.length - i = d → i ≤ l.length → (∀ j, j < i → ¬ p j) →
    ∃ t : Int, Ev (fun f => slices_IndexFunc_int_int.l0 f l fn l.length i) t ∧ ((t = -1 ∧ ∀ j, j < l.length → ¬ p j) ∨ ∃ k : Nat, t = k ∧ k < l.length ∧ p k ∧ ∀ j, j < k → ¬ p j) := by
  intro d
  induction d with
  | zero =>
    intro i hd hi h1
    obtain rfl : i = l.length := by omega
    refine ⟨-1, ev_some _ fun k => ?_, .inl ⟨rfl, h1⟩⟩
    rw [slices_IndexFunc_int_int.l0, if_neg (by omega)]
  | succ d ih =>
    intro i hd hi h1
    by_cases c : p i
    · refine ⟨i, ev_some _ fun k => ?_, .inr ⟨i, rfl, by omega, c, h1⟩⟩
      rw [slices_IndexFunc_int_int.l0, if_pos (by omega), if_pos (by omega), if_pos (by omega), hp i (by omega), decide_eq_true c]
      rfl
    · obtain ⟨t, e, ht⟩ := ih (i + 1) (by omega) (by omega) (fun j hj => if q : j = i then q ▸ c else h1 j (by omega))
      refine ⟨t, Ev.step (fun k => ?_) e, ht⟩
      rw [slices_IndexFunc_int_int.l0, if_pos (by omega), if_pos (by omega), if_pos (by omega), hp i (by omega), decide_eq_false c, wsucc i (by omega)]
      rfl
/-- Whether one has p: what ContainsFunc tells. -/
theorem contains_ev {l : List Int} (hl : l.length ≤ 9223372036854775807) {fn : Int → Option Bool} {p : Nat → Prop} [DecidablePred p] (hp : ∀ j, j < l.length → fn (rd l (j : Int)) = some (decide (p j))) :
    ∃ b : Bool, Ev (fun f => slices_ContainsFunc_int_int.f f l fn) b ∧ (b = true ↔ ∃ j, j < l.length ∧ p j) := by
  obtain ⟨t, e, ht⟩ := index_int_loop hl hp l.length 0 (by omega) (by omega) (by omega)
  refine ⟨decide (t ≥ 0), Ev.bind e (Ev.now _), ?_⟩
  rcases ht with ⟨rfl, h⟩ | ⟨k, rfl, hk, h1, h2⟩
  · simp only [decide_eq_true_eq]
    exact ⟨fun z => by omega, fun ⟨j, hj, hp⟩ => absurd hp (h j hj)⟩
  · simp only [decide_eq_true_eq]
    exact ⟨fun _ => ⟨k, hk, h1⟩, fun _ => by omega⟩
open Classical in
theorem ice_Valid_ev (w : List Int) : Ev (fun k => ice_Valid.f k w) (decide (okW w)) := by
  by_cases c : 1 ≤ w.length ∧ w.length ≤ 5
  · obtain ⟨b, e, hb⟩ := contains_ev (l := w) (fn := ice_Valid_1.f) (p := fun j => ¬ (1 ≤ rd w (j : Int) ∧ rd w (j : Int) ≤ 8)) (by omega) (fun j hj => by
      unfold ice_Valid_1.f
      rw [within_some]
      simp only [Option.bind_some]
      by_cases c : 1 ≤ rd w (j : Int) ∧ rd w (j : Int) ≤ 8 <;> simp [c])
    refine Ev.congr (f := fun k => (slices_ContainsFunc_int_int.f k w ice_Valid_1.f).bind fun t102 => (some (!t102))) (fun k => ?_) ?_
    · unfold ice_Valid.f
      rw [within_some, decide_eq_true (by omega)]
      rfl
    · have : decide (okW w) = !b := by
        cases b with
        | true =>
          obtain ⟨j, hj, h⟩ := hb.1 rfl
          rw [decide_eq_false (fun z => h (z.2 j hj))]
          rfl
        | false =>
          rw [decide_eq_true ⟨c, fun i hi => Decidable.not_not.1 (fun z => absurd (hb.2 ⟨i, hi, z⟩) (by decide))⟩]
          rfl
      rw [this]
      exact Ev.bind e (Ev.now _)
  · rw [decide_eq_false (fun z => c z.1)]
    refine ev_some _ fun k => ?_
    unfold ice_Valid.f
    rw [within_some, decide_eq_false (by omega)]
    rfl
open Classical in
theorem ref_valid_loop (w : List Int) (hl : w.length ≤ 9223372036854775807) : ∀ (d i : Nat), w.length - i = d → i ≤ w.length → (∀ j, j < i → 1 ≤ rd w (j : Int) ∧ rd w (j : Int) ≤ 8) → Ev (fun k => dropperref08_Valid.l0 k w i) (decide (okW w)) := by
  intro d
  induction d with
  | zero =>
    intro i hd hi h1
    obtain rfl : i = w.length := by omega
    refine ev_some _ fun k => ?_
    rw [dropperref08_Valid.l0, if_neg (by omega), from_some]
    simp only [Option.bind_some]
    congr 1
    exact decide_eq_decide.2 ⟨fun h => ⟨by omega, h1⟩, fun h => by have := h.1; omega⟩
  | succ d ih =>
    intro i hd hi h1
    by_cases c : 1 ≤ rd w (i : Int) ∧ rd w (i : Int) ≤ 8
    · refine Ev.step (fun k => ?_) (ih (i + 1) (by omega) (by omega) (fun j hj => if q : j = i then q ▸ c else h1 j (by omega)))
      rw [dropperref08_Valid.l0, if_pos (by omega), if_pos (by omega), from_some, decide_eq_true c, wsucc i (by omega)]
      rfl
    · rw [decide_eq_false (fun h => c (h.2 i (by omega)))]
      refine ev_some _ fun k => ?_
      rw [dropperref08_Valid.l0, if_pos (by omega), if_pos (by omega), from_some, decide_eq_false c]
      rfl
open Classical in
theorem ref_Valid_ev (w : List Int) (hl : w.length ≤ 9223372036854775807) : Ev (fun k => dropperref08_Valid.f k w) (decide (okW w)) := ref_valid_loop w hl w.length 0 (by omega) (by omega) (by omega)
theorem count_loop {w : List Int} (h : okW w) : ∀ (d i : Nat) (x : Int), w.length - i = d → i ≤ w.length → 1 ≤ x → x * prodI (w.drop i) = prodI w → Ev (fun k => dropperref08_Count.l0 k w x i) (prodI w) := by
  obtain ⟨b1, b2⟩ := prodI_le h
  have hlen := h.1.2
  intro d
  induction d with
  | zero =>
    intro i x hd hi hx e
    obtain rfl : i = w.length := by omega
    rw [List.drop_length] at e
    have e : x = prodI w := by simpa [prodI] using e
    rw [← e]
    refine ev_some _ fun k => ?_
    rw [dropperref08_Count.l0, if_neg (by omega)]
  | succ d ih =>
    intro i x hd hi hx e
    have hr := h.2 i (by omega)
    rw [rd_drop w i (by omega)] at e
    simp only [prodI] at e
    rw [← Int.mul_assoc] at e
    have p1 := prodI_pos (pos_drop (okW_pos h) (i + 1))
    have q1 : 1 ≤ x * rd w (i : Int) := by
      have : 1 * 1 ≤ x * rd w (i : Int) := Int.mul_le_mul hx hr.1 (by omega) (by omega)
      omega
    have q2 : x * rd w (i : Int) ≤ prodI w := by
      have : (x * rd w (i : Int)) * 1 ≤ (x * rd w (i : Int)) * prodI (w.drop (i + 1)) := Int.mul_le_mul_of_nonneg_left p1 (by omega)
      omega
    refine Ev.step (fun k => ?_) (ih (i + 1) _ (by omega) (by omega) q1 e)
    rw [dropperref08_Count.l0, if_pos (by omega), if_pos (by omega), wsucc i (by omega), w64 (by omega) (by omega)]
theorem count_ev {w : List Int} (h : okW w) : Ev (fun k => dropperref08_Count.f k w) (prodI w) := count_loop h w.length 0 1 (by omega) (by omega) (by omega) (by simp)
/-- What Many tells of wants alone. -/
theorem many_end (w : List Int) (hl : w.length ≤ 9223372036854775807) (ls : List (List Int)) (i : Nat) (hi : i = ls.length) (h1 : ls.length ≤ 9223372036854775807) : ∃ b : Bool, Ev (fun k => dropperlaw08_Many.l0 k w ls i) b ∧ (b = false → w.length ≤ 20 ∧ (okW w → prodI w ≤ 3000)) := by
  by_cases c : (w.length : Int) > 20
  · refine ⟨true, ev_some _ fun k => ?_, fun z => by cases z⟩
    rw [dropperlaw08_Many.l0, if_neg (by omega), if_pos c]
  · classical
    refine ⟨decide (okW w ∧ prodI w > 3000), Ev.step (f := fun k => (dropperref08_Valid.f k w).bind fun t102 => (if t102 = true then ((dropperref08_Count.f k w).bind fun t103 => (some (decide (t103 > 3000)))) else (some false))) (fun k => ?_) (Ev.bind (ref_Valid_ev w hl) ?_), fun z => ⟨by omega, fun o => ?_⟩⟩
    · rw [dropperlaw08_Many.l0, if_neg (by omega), if_neg c]
    · by_cases o : okW w
      · simp only [decide_eq_true o, if_true]
        have : decide (okW w ∧ prodI w > 3000) = decide (prodI w > 3000) := decide_eq_decide.2 ⟨fun z => z.2, fun z => ⟨o, z⟩⟩
        rw [this]
        exact Ev.bind (count_ev o) (Ev.now _)
      · simp only [decide_eq_false o, Bool.false_eq_true, if_false]
        rw [decide_eq_false (fun z => o z.1)]
        exact Ev.now _
    · have := of_decide_eq_false z
      have : ¬ prodI w > 3000 := fun q => this ⟨o, q⟩
      omega
theorem many0_ev (w : List Int) (hl : w.length ≤ 9223372036854775807) : ∃ b : Bool, Ev (fun k => dropperlaw08_Many.f k w ([] : List (List Int))) b ∧ (b = false → w.length ≤ 20 ∧ (okW w → prodI w ≤ 3000)) := many_end w hl [] 0 rfl (by simp)
set_option maxRecDepth 100000 in
theorem awake_ev : Ev (fun k => dropperlaw08_Awake.f k) true := Ev.of (fun k => dropperlaw08_Awake.mono k) (k := 300) (by decide +kernel)
/-- What a digit of each section counts. -/
def bysU (w : List Int) (n : Nat) : List Int := (List.range n).map fun i => prodI (w.take i)
def bys (w : List Int) : List Int := bysU w w.length
theorem rd_bys {w : List Int} {i : Nat} (h : i < w.length) : rd (bys w) (i : Int) = prodI (w.take i) := by
  simp [bys, bysU, rd, List.getD_eq_getElem?_getD, h]
theorem bys_len (w : List Int) : (bys w).length = w.length := by simp [bys, bysU]
theorem by_bd {w : List Int} (h : okW w) (i : Nat) : 1 ≤ prodI (w.take i) ∧ prodI (w.take i) ≤ prodI w := by
  have h1 := prodI_pos (pos_take (okW_pos h) i)
  have h2 := prodI_pos (pos_drop (okW_pos h) i)
  have h3 := prodI_split w i
  refine ⟨h1, ?_⟩
  have : prodI (w.take i) * 1 ≤ prodI (w.take i) * prodI (w.drop i) := Int.mul_le_mul_of_nonneg_left h2 (by omega)
  omega
theorem gameOf_loop {w : List Int} (h : okW w) : ∀ (d i : Nat), w.length - i = d → i ≤ w.length → Ev (fun k => ice_gameOf.l0 k w w.length i w (bysU w i) (prodI (w.take i))) (w, bys w, prodI w) := by
  have hlen := h.1.2
  obtain ⟨b1, b2⟩ := prodI_le h
  intro d
  induction d with
  | zero =>
    intro i hd hi
    obtain rfl : i = w.length := by omega
    refine ev_some _ fun k => ?_
    rw [ice_gameOf.l0, if_neg (by omega), List.take_length]
    rfl
  | succ d ih =>
    intro i hd hi
    have e := ih (i + 1) (by omega) (by omega)
    have p := prodI_take_succ w i (by omega)
    have q := by_bd h (i + 1)
    have u : bysU w (i + 1) = bysU w i ++ [prodI (w.take i)] := by simp [bysU, List.range_succ]
    rw [u] at e
    refine Ev.step (fun k => ?_) e
    rw [ice_gameOf.l0, if_pos (by omega), if_pos (by omega), if_pos (by omega), if_pos (by simp [bysU]; omega), wsucc i (by omega), ← p, w64 (by omega) (by omega)]
theorem gameOf_ev {w : List Int} (h : okW w) : Ev (fun k => ice_gameOf.f k w) (w, bys w, prodI w) := gameOf_loop h w.length 0 (by omega) (by omega)
theorem num_div : ∀ {w s : List Int} (i : Nat), okSt w s → numL w s / prodI (w.take i) = numL (w.drop i) (s.drop i)
  | w, s, 0, h => by simp [prodI]
  | [], [], i + 1, h => by simp [numL, prodI]
  | a :: w, x :: s, i + 1, h => by
    have e := num_div (w := w) (s := s) i h.2
    have h1 := numL_bd h
    obtain ⟨⟨h3, h4⟩, h5⟩ := h
    simp only [List.take_succ_cons, List.drop_succ_cons, prodI]
    rw [← e, ← Int.ediv_ediv_of_nonneg (by omega)]
    congr 1
    simp only [numL]
    rw [Int.add_mul_ediv_left _ _ (by omega), Int.ediv_eq_zero_of_lt (by omega) (by omega)]
    omega
  | [], _ :: _, _, h => h.elim
  | _ :: _, [], _, h => h.elim
theorem num_digit {w s : List Int} (h : okSt w s) {i : Nat} (hi : i < w.length) : (numL w s / prodI (w.take i)) % rd w (i : Int) + 1 = rd s (i : Int) := by
  have hs := okSt_len h
  obtain ⟨h1, h2⟩ := (okSt_iff.1 h).2 i hi
  rw [num_div i h, rd_drop w i hi, rd_drop s i (by omega)]
  simp only [numL]
  rw [Int.add_mul_emod_self_left, Int.emod_eq_of_lt (by omega) (by omega)]
  omega
theorem digit_some {w s : List Int} (o : okW w) (h : okSt w s) (N : Int) {i : Nat} (hi : i < w.length) : ice_game_digit.f w (bys w) N (numL w s) i = some (rd s (i : Int), N) := by
  obtain ⟨b1, b2⟩ := prodI_le o
  obtain ⟨n1, n2⟩ := numL_bd h
  have q := by_bd o i
  have r := o.2 i hi
  have hx := (okSt_iff.1 h).2 i hi
  have e := num_digit h hi
  have z1 : 0 ≤ numL w s / prodI (w.take i) := Int.ediv_nonneg n1 (by omega)
  have z2 : numL w s / prodI (w.take i) ≤ numL w s := Int.ediv_le_self _ n1
  unfold ice_game_digit.f
  rw [if_pos (by omega), if_pos (by rw [bys_len]; omega), rd_bys hi, if_neg (by omega), if_pos (by omega), if_neg (by omega), Int.tdiv_eq_ediv_of_nonneg n1, w64 (n := numL w s / prodI (w.take i)) (by omega) (by omega), Int.tmod_eq_emod_of_nonneg z1, w64 (by omega) (by omega), e]
/-- The number of the state behind a night; -1: it is lost. -/
def tn (w s : List Int) (c : Int) : Int := match nx w s c with
  | some t => numL w t
  | none => -1
theorem tonight_loop {w s : List Int} (o : okW w) (h : okSt w s) (N c : Int) : ∀ (d i : Nat) (acc : Int), w.length - i = d → i ≤ w.length → 0 ≤ acc → acc < prodI (w.take i) →
    Ev (fun k => ice_game_tonight.l0 k (numL w s) c acc w w.length i w (bys w) N) (match nx (w.drop i) (s.drop i) (c - i) with | some t => acc + prodI (w.take i) * numL (w.drop i) t | none => -1, N) := by
  have hlen := o.1.2
  have hs := okSt_len h
  obtain ⟨b1, b2⟩ := prodI_le o
  intro d
  induction d with
  | zero =>
    intro i acc hd hi ha hb
    obtain rfl : i = w.length := by omega
    refine ev_some _ fun k => ?_
    rw [ice_game_tonight.l0, if_neg (by omega), List.drop_length]
    simp [nx, numL]
  | succ d ih =>
    intro i acc hd hi ha hb
    have hx := (okSt_iff.1 h).2 i (by omega)
    have hw8 := o.2 i (by omega)
    have p := prodI_take_succ w i (by omega)
    have q0 := by_bd o i
    have q := by_bd o (i + 1)
    have dg := digit_some o h N (i := i) (by omega)
    have go : ∀ m : Int, 1 ≤ m → m ≤ rd w (i : Int) → Ev (fun k => ice_game_tonight.l0 k (numL w s) c (acc + (m - 1) * prodI (w.take i)) w w.length ((i + 1 : Nat) : Int) w (bys w) N)
        (match (nx (w.drop (i + 1)) (s.drop (i + 1)) (c - i - 1)).map (fun t => m :: t) with | some t => acc + prodI (w.take i) * numL (w.drop i) t | none => -1, N) := by
      intro m h1 h2
      have m1 : 0 ≤ (m - 1) * prodI (w.take i) := Int.mul_nonneg (by omega) (by omega)
      have m2 : (m - 1) * prodI (w.take i) ≤ (rd w (i : Int) - 1) * prodI (w.take i) := Int.mul_le_mul_of_nonneg_right (by omega) (by omega)
      have m3 : (rd w (i : Int) - 1) * prodI (w.take i) = prodI (w.take (i + 1)) - prodI (w.take i) := by rw [p, Int.sub_mul, Int.mul_comm]; omega
      have e := ih (i + 1) (acc + (m - 1) * prodI (w.take i)) (by omega) (by omega) (by omega) (by omega)
      rw [show c - ((i + 1 : Nat) : Int) = c - i - 1 by omega] at e
      rw [rd_drop w i (by omega)]
      cases z : nx (w.drop (i + 1)) (s.drop (i + 1)) (c - i - 1) with
      | none => rw [z] at e; exact e
      | some t =>
        rw [z] at e
        have e2 : acc + (m - 1) * prodI (w.take i) + prodI (w.take (i + 1)) * numL (w.drop (i + 1)) t = acc + prodI (w.take i) * numL (rd w (i : Int) :: w.drop (i + 1)) (m :: t) := by
          simp only [numL]
          rw [p, Int.mul_add, Int.mul_comm (m - 1), Int.mul_assoc]
          omega
        simp only [Option.map_some]
        rw [← e2]
        exact e
    rw [show nx (w.drop i) (s.drop i) (c - i) = if (if c - i = 0 then rd w (i : Int) else rd s (i : Int) - 1) = 0 then none else (nx (w.drop (i + 1)) (s.drop (i + 1)) (c - i - 1)).map fun t => (if c - i = 0 then rd w (i : Int) else rd s (i : Int) - 1) :: t by rw [rd_drop w i (by omega), rd_drop s i (by omega)]; rfl]
    by_cases cc : (i : Int) = c
    · have g := go (rd w (i : Int)) (by omega) (by omega)
      rw [if_pos (show c - (i : Int) = 0 by omega), if_neg (by omega)]
      have m1 : 0 ≤ (rd w (i : Int) - 1) * prodI (w.take i) := Int.mul_nonneg (by omega) (by omega)
      have m3 : (rd w (i : Int) - 1) * prodI (w.take i) = prodI (w.take (i + 1)) - prodI (w.take i) := by rw [p, Int.sub_mul, Int.mul_comm]; omega
      refine Ev.step (fun k => ?_) g
      rw [ice_game_tonight.l0, if_pos (by omega), if_pos (by omega), if_pos (by omega), dg]
      simp only [Option.bind_some]
      rw [if_pos cc, if_pos (by rw [bys_len]; omega), rd_bys (by omega), wsucc i (by omega), w64 (n := rd w (i : Int) - 1) (by omega) (by omega), w64 (n := (rd w (i : Int) - 1) * prodI (w.take i)) (by omega) (by omega), w64 (by omega) (by omega)]
    · rw [if_neg (show ¬ c - (i : Int) = 0 by omega)]
      by_cases c1 : rd s (i : Int) - 1 = 0
      · rw [if_pos c1]
        refine ev_some _ fun k => ?_
        rw [ice_game_tonight.l0, if_pos (by omega), if_pos (by omega), if_pos (by omega), dg]
        simp only [Option.bind_some]
        rw [if_neg cc, w64 (n := rd s (i : Int) - 1) (by omega) (by omega), if_pos c1]
      · rw [if_neg c1]
        have g := go (rd s (i : Int) - 1) (by omega) (by omega)
        have m1 : 0 ≤ (rd s (i : Int) - 1 - 1) * prodI (w.take i) := Int.mul_nonneg (by omega) (by omega)
        have m2 : (rd s (i : Int) - 1 - 1) * prodI (w.take i) ≤ (rd w (i : Int) - 1) * prodI (w.take i) := Int.mul_le_mul_of_nonneg_right (by omega) (by omega)
        have m3 : (rd w (i : Int) - 1) * prodI (w.take i) = prodI (w.take (i + 1)) - prodI (w.take i) := by rw [p, Int.sub_mul, Int.mul_comm]; omega
        refine Ev.step (fun k => ?_) g
        rw [ice_game_tonight.l0, if_pos (by omega), if_pos (by omega), if_pos (by omega), dg]
        simp only [Option.bind_some]
        rw [if_neg cc, w64 (n := rd s (i : Int) - 1) (by omega) (by omega), if_neg c1, if_pos (by rw [bys_len]; omega), rd_bys (by omega), wsucc i (by omega), w64 (n := rd s (i : Int) - 1 - 1) (by omega) (by omega), w64 (n := (rd s (i : Int) - 1 - 1) * prodI (w.take i)) (by omega) (by omega), w64 (by omega) (by omega)]
theorem tonight_ev {w s : List Int} (o : okW w) (h : okSt w s) (N c : Int) : Ev (fun k => ice_game_tonight.f k w (bys w) N (numL w s) c) (tn w s c, N) := by
  have e := tonight_loop o h N c w.length 0 0 (by omega) (by omega) (by omega) (by simp [prodI])
  simp only [List.drop_zero, List.take_zero, prodI, Int.one_mul, Int.zero_add, Int.natCast_zero, Int.sub_zero] at e
  exact e
theorem tn_bd {w s : List Int} (h : okSt w s) {c : Int} {t : List Int} (e : nx w s c = some t) : tn w s c = numL w t ∧ okSt w t ∧ 0 ≤ numL w t ∧ numL w t < prodI w := by
  have ot := nx_ok h e
  refine ⟨?_, ot, numL_bd ot⟩
  unfold tn
  rw [e]
/-- The program's set of the states that can go on for k nights. -/
def setL (w : List Int) (k : Nat) : List Bool := (List.range (prodI w).toNat).map fun i : Nat => K w k (digL w (i : Int))
theorem setL_len (w : List Int) (k : Nat) : (setL w k).length = (prodI w).toNat := by simp [setL]
theorem setL_rd {w s : List Int} (h : okSt w s) (k : Nat) : rdOf false (setL w k) (numL w s) = K w k s := by
  obtain ⟨h1, h2⟩ := num_lt h
  have : (digL w ((numL w s).toNat : Int)) = s := by rw [h2]; exact dig_num h
  unfold setL rdOf
  rw [List.getD_eq_getElem?_getD, List.getElem?_map, List.getElem?_range h1]
  simp only [Option.map_some, Option.getD_some, this]
theorem setL_eq {w : List Int} (hp : pos w) {k m : Nat} : setL w k = setL w m ↔ ∀ s, okSt w s → K w k s = K w m s := by
  constructor
  · intro e s hs
    rw [← setL_rd hs, ← setL_rd hs, e]
  · intro h
    unfold setL
    refine List.map_congr_left fun i hi => ?_
    exact h _ (dig_ok hp (List.mem_range.1 hi)).2
theorem setL_stable {w : List Int} (hp : pos w) {k : Nat} : setL w (k + 1) = setL w k ↔ stable w k := setL_eq hp
theorem all_some {w : List Int} (o : okW w) : ice_game_all.f w (bys w) (prodI w) = some (setL w 0, prodI w) := by
  obtain ⟨b1, b2⟩ := prodI_le o
  unfold ice_game_all.f slices_Repeat_bool_bool.f
  rw [if_pos (by simp), if_pos (by omega), if_pos (by omega)]
  simp only [Option.bind_some]
  congr 2
  unfold setL
  refine List.ext_getElem (by simp) fun i h1 h2 => ?_
  simp [K, rdOf]
/-- Whether a choice leads on. -/
def good (w : List Int) (k : Nat) (s : List Int) (c : Int) : Bool := match nx w s c with
  | some t => K w k t
  | none => false
def gF (w : List Int) (k : Nat) (s : List Int) : Nat → Bool
  | 0 => false
  | m + 1 => good w k s ((w.length : Int) - (m + 1)) || gF w k s m
theorem gF_iff {w : List Int} {k : Nat} {s : List Int} : ∀ {m : Nat}, gF w k s m = true ↔ ∃ c : Int, (w.length : Int) - m ≤ c ∧ c < w.length ∧ good w k s c = true
  | 0 => by
    simp only [gF, Bool.false_eq_true, false_iff]
    rintro ⟨c, h1, h2, _⟩; omega
  | m + 1 => by
    simp only [gF, Bool.or_eq_true]
    rw [gF_iff (m := m)]
    constructor
    · rintro (h | ⟨c, h1, h2, h3⟩)
      · exact ⟨_, by omega, by omega, h⟩
      · exact ⟨c, by omega, h2, h3⟩
    · rintro ⟨c, h1, h2, h3⟩
      by_cases q : c = (w.length : Int) - (m + 1)
      · left; rw [← q]; exact h3
      · right; exact ⟨c, by omega, h2, h3⟩
theorem good_iff {w : List Int} {k : Nat} {s : List Int} {c : Int} : good w k s c = true ↔ ∃ t, nx w s c = some t ∧ K w k t = true := by
  unfold good
  cases nx w s c with
  | none => simp
  | some t => simp
theorem K_gF {w : List Int} {k : Nat} {s : List Int} : K w (k + 1) s = gF w k s (w.length + 1) := by
  rw [Bool.eq_iff_iff, K_succ, gF_iff]
  constructor
  · rintro ⟨c, t, h1, h2, h3, h4⟩
    exact ⟨c, by omega, h2, good_iff.2 ⟨t, h3, h4⟩⟩
  · rintro ⟨c, h1, h2, h3⟩
    obtain ⟨t, h4, h5⟩ := good_iff.1 h3
    exact ⟨c, t, by omega, h2, h4, h5⟩
/-- The set under way: the first j numbers are told, number j is b, the others false. -/
def mid (f : Nat → Bool) (N j : Nat) (b : Bool) : List Bool := (List.range j).map f ++ b :: List.replicate (N - j - 1) false
theorem mid_len {f : Nat → Bool} {N j : Nat} {b : Bool} (h : j < N) : (mid f N j b).length = N := by simp [mid]; omega
theorem mid_rd {f : Nat → Bool} {N j : Nat} {b : Bool} (h : j < N) : rdOf false (mid f N j b) (j : Int) = b := by
  simp [mid, rdOf, List.getD_eq_getElem?_getD, List.getElem?_append]
theorem mid_set {f : Nat → Bool} {N j : Nat} {b v : Bool} (h : j < N) : (mid f N j b).set j v = mid f N j v := by
  simp [mid, List.set_append]
theorem mid_next {f : Nat → Bool} {N j : Nat} (h : j + 1 < N) : mid f N j (f j) = mid f N (j + 1) false := by
  unfold mid
  rw [List.range_succ, List.map_append, List.append_assoc]
  congr 1
  have : N - j - 1 = N - (j + 1) - 1 + 1 := by omega
  rw [this, List.replicate_succ]
  rfl
theorem mid_last {f : Nat → Bool} {N j : Nat} (h : j + 1 = N) : mid f N j (f j) = (List.range N).map f := by
  unfold mid
  rw [← h, List.range_succ, List.map_append, show j + 1 - j - 1 = 0 by omega]
  rfl
theorem mid_first {f : Nat → Bool} {N : Nat} (h : 0 < N) : mid f N 0 false = List.replicate N false := by
  unfold mid
  obtain ⟨m, rfl⟩ : ∃ m, N = m + 1 := ⟨N - 1, by omega⟩
  simp [List.replicate_succ]
theorem before_in {w : List Int} (o : okW w) (k0 : Nat) {j : Nat} (hj : j < (prodI w).toNat) {f : Nat → Bool} {r : List Bool × Int} : ∀ (m : Nat) (b : Bool), m ≤ w.length + 1 →
    Ev (fun k => ice_game_before.l0 k (setL w k0) (mid f (prodI w).toNat j (b || gF w k0 (digL w j) m)) (prodI w) ((j + 1 : Nat) : Int) w (bys w) (prodI w)) r →
    Ev (fun k => ice_game_before.l1 k (setL w k0) (mid f (prodI w).toNat j b) j ((w.length : Int) - m) (prodI w) j w (bys w) (prodI w)) r := by
  obtain ⟨b1, b2⟩ := prodI_le o
  have hlen := o.1.2
  obtain ⟨nd, od⟩ := dig_ok (okW_pos o) hj
  intro m
  induction m with
  | zero =>
    intro b hm e
    simp only [gF, Bool.or_false] at e
    refine Ev.step (fun k => ?_) e
    rw [ice_game_before.l1, if_neg (by omega), wsucc j (by omega)]
  | succ m ih =>
    intro b hm e
    cases b with
    | true =>
      simp only [Bool.true_or] at e
      refine Ev.step (fun k => ?_) e
      rw [ice_game_before.l1, if_pos (by omega), if_pos (by omega), if_pos (by rw [mid_len hj]; omega), if_pos (mid_rd hj), wsucc j (by omega)]
    | false =>
      have ht := tonight_ev o od (prodI w) ((w.length : Int) - ((m + 1 : Nat) : Int))
      rw [nd] at ht
      refine Ev.step (f := fun k => (ice_game_tonight.f k w (bys w) (prodI w) j ((w.length : Int) - ((m + 1 : Nat) : Int))).bind fun bt105 => (if bt105.1 = (-1) then (ice_game_before.l1 k (setL w k0) ((mid f (prodI w).toNat j false).set ((j : Int)).toNat false) j (wrap64 ((w.length : Int) - ((m + 1 : Nat) : Int) + 1)) (prodI w) j w (bys w) bt105.2) else (if 0 ≤ bt105.1 then (if bt105.1 < ((setL w k0).length : Int) then (ice_game_before.l1 k (setL w k0) ((mid f (prodI w).toNat j false).set ((j : Int)).toNat (rdOf false (setL w k0) bt105.1)) j (wrap64 ((w.length : Int) - ((m + 1 : Nat) : Int) + 1)) (prodI w) j w (bys w) bt105.2) else (none)) else (none)))) (fun k => ?_) (Ev.bind ht ?_)
      · rw [ice_game_before.l1, if_pos (by omega), if_pos (by omega), if_pos (by rw [mid_len hj]; omega), if_neg (by rw [mid_rd hj]; decide)]
      · have wz : wrap64 ((w.length : Int) - ((m + 1 : Nat) : Int) + 1) = (w.length : Int) - m := by rw [w64 (by omega) (by omega)]; omega
        simp only [Bool.false_or, gF] at e
        have gd : good w k0 (digL w j) ((w.length : Int) - ((m : Int) + 1)) = good w k0 (digL w j) ((w.length : Int) - ((m + 1 : Nat) : Int)) := rfl
        rw [gd] at e
        cases z : nx w (digL w j) ((w.length : Int) - ((m + 1 : Nat) : Int)) with
        | none =>
          have e0 : good w k0 (digL w j) ((w.length : Int) - ((m + 1 : Nat) : Int)) = false := by unfold good; rw [z]
          rw [e0] at e
          have e1 : tn w (digL w j) ((w.length : Int) - ((m + 1 : Nat) : Int)) = -1 := by unfold tn; rw [z]
          rw [e1]
          refine Ev.congr (fun k => ?_) (ih false (by omega) e)
          rw [if_pos rfl, wz, Int.toNat_natCast, mid_set hj]
        | some t =>
          obtain ⟨e1, ot, t1, t2⟩ := tn_bd od z
          have e0 : good w k0 (digL w j) ((w.length : Int) - ((m + 1 : Nat) : Int)) = K w k0 t := by unfold good; rw [z]
          rw [e0] at e
          rw [e1]
          refine Ev.congr (fun k => ?_) (ih (K w k0 t) (by omega) e)
          rw [if_neg (by omega), if_pos t1, if_pos (by rw [setL_len]; omega), wz, Int.toNat_natCast, mid_set hj, setL_rd ot]
theorem before_loop {w : List Int} (o : okW w) (k0 : Nat) : ∀ (d j : Nat), (prodI w).toNat - j = d → 0 < d →
    Ev (fun k => ice_game_before.l0 k (setL w k0) (mid (fun i => K w (k0 + 1) (digL w (i : Int))) (prodI w).toNat j false) (prodI w) j w (bys w) (prodI w)) (setL w (k0 + 1), prodI w) := by
  obtain ⟨b1, b2⟩ := prodI_le o
  have hlen := o.1.2
  intro d
  induction d with
  | zero => intro j _ h; omega
  | succ d ih =>
    intro j hd _
    refine Ev.step (f := fun k => ice_game_before.l1 k (setL w k0) (mid (fun i => K w (k0 + 1) (digL w (i : Int))) (prodI w).toNat j false) j (-1) (prodI w) j w (bys w) (prodI w)) (fun k => ?_) ?_
    · rw [ice_game_before.l0, if_pos (by omega)]
    · have e := before_in o k0 (j := j) (by omega) (f := fun i => K w (k0 + 1) (digL w (i : Int))) (r := (setL w (k0 + 1), prodI w)) (w.length + 1) false (by omega)
      rw [show (w.length : Int) - ((w.length + 1 : Nat) : Int) = -1 by omega] at e
      refine e ?_
      rw [Bool.false_or, ← K_gF]
      by_cases q : d = 0
      · refine ev_some _ fun k => ?_
        rw [ice_game_before.l0, if_neg (by omega)]
        rw [mid_last (f := fun i => K w (k0 + 1) (digL w (i : Int))) (by omega)]
        rfl
      · have e2 := ih (j + 1) (by omega) (by omega)
        rw [← mid_next (f := fun i => K w (k0 + 1) (digL w (i : Int))) (by omega)] at e2
        exact e2
theorem before_ev {w : List Int} (o : okW w) (k0 : Nat) : Ev (fun k => ice_game_before.f k w (bys w) (prodI w) (setL w k0)) (setL w (k0 + 1), prodI w) := by
  obtain ⟨b1, b2⟩ := prodI_le o
  have e := before_loop o k0 (prodI w).toNat 0 (by omega) (by omega)
  rw [mid_first (by omega)] at e
  refine Ev.congr (fun k => ?_) e
  unfold ice_game_before.f
  rw [if_pos (by omega), if_pos (by omega)]
  simp only [Option.bind_some, List.length_replicate]
  rw [show (((prodI w).toNat : Nat) : Int) = prodI w by omega]
  rfl
theorem equal_loop {a b : List Bool} (hab : a.length = b.length) (hl : a.length ≤ 4611686018427387904) : ∀ (d i : Nat), a.length - i = d → i ≤ a.length → (∀ j, j < i → rdOf false a (j : Int) = rdOf false b (j : Int)) → Ev (fun k => slices_Equal_bool_bool.l0 k a b a.length i) (decide (a = b)) := by
  intro d
  induction d with
  | zero =>
    intro i hd hi h1
    obtain rfl : i = a.length := by omega
    refine ev_some _ fun k => ?_
    rw [slices_Equal_bool_bool.l0, if_neg (by omega), decide_eq_true]
    refine List.ext_getElem hab fun j h2 h3 => ?_
    have := h1 j h2
    simpa [rdOf, List.getD_eq_getElem?_getD, h2, h3] using this
  | succ d ih =>
    intro i hd hi h1
    by_cases c : rdOf false a (i : Int) = rdOf false b (i : Int)
    · refine Ev.step (fun k => ?_) (ih (i + 1) (by omega) (by omega) (fun j hj => if q : j = i then q ▸ c else h1 j (by omega)))
      rw [slices_Equal_bool_bool.l0, if_pos (by omega), if_pos (by omega), if_pos (by omega), if_pos (by omega), c, if_neg (by simp), wsucc i (by omega)]
    · refine ev_some _ fun k => ?_
      rw [slices_Equal_bool_bool.l0, if_pos (by omega), if_pos (by omega), if_pos (by omega), if_pos (by omega), if_pos (by simpa using c), decide_eq_false]
      rintro rfl
      exact c rfl
theorem equal_ev {a b : List Bool} (hab : a.length = b.length) (hl : a.length ≤ 4611686018427387904) : Ev (fun k => slices_Equal_bool_bool.f k a b) (decide (a = b)) := by
  refine Ev.congr (fun k => ?_) (equal_loop hab hl a.length 0 (by omega) (by omega) (by omega))
  unfold slices_Equal_bool_bool.f
  rw [if_pos (by omega)]
  rfl
theorem setEq_ev {w : List Int} (o : okW w) (k0 m : Nat) : Ev (fun k => slices_Equal_bool_bool.f k (setL w k0) (setL w m)) (decide (setL w k0 = setL w m)) := by
  obtain ⟨b1, b2⟩ := prodI_le o
  exact equal_ev (by rw [setL_len, setL_len]) (by rw [setL_len]; omega)
theorem going_loop {w : List Int} (o : okW w) {n : Nat} (hn : n ≤ 1000000) : ∀ (d i : Nat), n - i = d → i ≤ n → Ev (fun k => ice_game_going.l0 k (setL w i) n i w (bys w) (prodI w)) (setL w n, prodI w) := by
  intro d
  induction d with
  | zero =>
    intro i hd hi
    obtain rfl : i = n := by omega
    refine ev_some _ fun k => ?_
    rw [ice_game_going.l0, if_neg (by omega)]
  | succ d ih =>
    intro i hd hi
    refine Ev.step (f := fun k => (ice_game_before.f k w (bys w) (prodI w) (setL w i)).bind fun bt105 => ((slices_Equal_bool_bool.f k bt105.1 (setL w i)).bind fun t109 => (if t109 = true then (some (setL w i, bt105.2)) else (ice_game_going.l0 k bt105.1 n (wrap64 ((i : Int) + 1)) w (bys w) bt105.2)))) (fun k => ?_) (Ev.bind (before_ev o i) (Ev.bind (setEq_ev o (i + 1) i) ?_))
    · rw [ice_game_going.l0, if_pos (by omega)]
    · by_cases c : setL w (i + 1) = setL w i
      · simp only [decide_eq_true c, if_true]
        have st := (setL_stable (okW_pos o)).1 c
        have : setL w i = setL w n := (setL_eq (okW_pos o)).2 fun s hs => (stable_eq st hi hs).symm
        rw [this]
        exact Ev.now _
      · simp only [decide_eq_false c, Bool.false_eq_true, if_false]
        rw [wsucc i (by omega)]
        exact ih (i + 1) (by omega) (by omega)
theorem going_ev {w : List Int} (o : okW w) {n : Int} (h0 : 0 ≤ n) (hn : n ≤ 1000000) : Ev (fun k => ice_game_going.f k w (bys w) (prodI w) n) (setL w n.toNat, prodI w) := by
  have e := going_loop o (n := n.toNat) (by omega) n.toNat 0 (by omega) (by omega)
  refine Ev.congr (fun k => ?_) e
  unfold ice_game_going.f
  rw [all_some o]
  simp only [Option.bind_some]
  rw [show ((n.toNat : Nat) : Int) = n by omega]
  rfl
/-- For ever: so many nights as there are states. -/
def inf (w : List Int) : Nat := (prodI w).toNat
theorem inf_eq {w : List Int} (o : okW w) {k : Nat} (hk : inf w ≤ k) {s : List Int} (hs : okSt w s) : K w k s = K w (inf w) s := stable_eq (stable_all (okW_pos o) (Nat.le_refl _)) hk hs
theorem ever_ev {w : List Int} (o : okW w) : Ev (fun k => ice_game_ever.f k w (bys w) (prodI w)) (setL w (inf w), prodI w) := by
  obtain ⟨b1, b2⟩ := prodI_le o
  exact Ev.bind (going_ev o (n := prodI w) (by omega) (by omega)) (Ev.now _)
/-- The choices that lead from a state into a set. -/
def chsOf (w : List Int) (k : Nat) (s : List Int) : List Int := (chs w.length).filter fun c => good w k s c
def chsFrom (w : List Int) (k : Nat) (s : List Int) : Nat → List Int
  | 0 => []
  | m + 1 => (if good w k s ((w.length : Int) - ((m + 1 : Nat) : Int)) = true then [(w.length : Int) - ((m + 1 : Nat) : Int)] else []) ++ chsFrom w k s m
theorem chsFrom_eq (w : List Int) (k : Nat) (s : List Int) : ∀ m, m ≤ w.length + 1 → chsFrom w k s m = ((List.range m).map fun i : Nat => (w.length : Int) - m + i).filter fun c => good w k s c
  | 0, _ => rfl
  | m + 1, h => by
    rw [chsFrom, chsFrom_eq w k s m (by omega), List.range_succ_eq_map, List.map_cons, List.filter_cons]
    have e : (w.length : Int) - ((m + 1 : Nat) : Int) + ((0 : Nat) : Int) = (w.length : Int) - ((m + 1 : Nat) : Int) := by omega
    rw [e, List.map_map]
    have e2 : ((fun i : Nat => (w.length : Int) - ((m + 1 : Nat) : Int) + (i : Int)) ∘ Nat.succ) = fun i : Nat => (w.length : Int) - m + i := by
      funext i
      simp only [Function.comp]
      omega
    rw [e2]
    split <;> rfl
theorem chsOf_from (w : List Int) (k : Nat) (s : List Int) : chsFrom w k s (w.length + 1) = chsOf w k s := by
  rw [chsFrom_eq w k s _ (Nat.le_refl _)]
  unfold chsOf chs
  congr 1
  refine List.map_congr_left fun i _ => ?_
  omega
theorem choices_loop {w s : List Int} (o : okW w) (h : okSt w s) (k0 : Nat) : ∀ (m : Nat) (x : List Int), m ≤ w.length + 1 → x.length ≤ 6 - m →
    Ev (fun k => ice_game_choices.l0 k (numL w s) (setL w k0) x ((w.length : Int) - m) w (bys w) (prodI w)) (x ++ chsFrom w k0 s m, prodI w) := by
  have hlen := o.1.2
  obtain ⟨b1, b2⟩ := prodI_le o
  intro m
  induction m with
  | zero =>
    intro x _ _
    refine ev_some _ fun k => ?_
    rw [ice_game_choices.l0, if_neg (by omega)]
    simp [chsFrom]
  | succ m ih =>
    intro x hm hx
    have wz : wrap64 ((w.length : Int) - ((m + 1 : Nat) : Int) + 1) = (w.length : Int) - m := by rw [w64 (by omega) (by omega)]; omega
    refine Ev.step (f := fun k => (ice_game_tonight.f k w (bys w) (prodI w) (numL w s) ((w.length : Int) - ((m + 1 : Nat) : Int))).bind fun bt101 => (if bt101.1 = (-1) then (ice_game_choices.l0 k (numL w s) (setL w k0) x (wrap64 ((w.length : Int) - ((m + 1 : Nat) : Int) + 1)) w (bys w) bt101.2) else (if 0 ≤ bt101.1 then (if bt101.1 < ((setL w k0).length : Int) then (if rdOf false (setL w k0) bt101.1 = true then (if x.length < 17592186044416 then (ice_game_choices.l0 k (numL w s) (setL w k0) (x ++ [(w.length : Int) - ((m + 1 : Nat) : Int)]) (wrap64 ((w.length : Int) - ((m + 1 : Nat) : Int) + 1)) w (bys w) bt101.2) else (none)) else (ice_game_choices.l0 k (numL w s) (setL w k0) x (wrap64 ((w.length : Int) - ((m + 1 : Nat) : Int) + 1)) w (bys w) bt101.2)) else (none)) else (none)))) (fun k => ?_) (Ev.bind (tonight_ev o h (prodI w) _) ?_)
    · rw [ice_game_choices.l0, if_pos (by omega)]
    · rw [chsFrom]
      cases z : nx w s ((w.length : Int) - ((m + 1 : Nat) : Int)) with
      | none =>
        have e0 : good w k0 s ((w.length : Int) - ((m + 1 : Nat) : Int)) = false := by unfold good; rw [z]
        have e1 : tn w s ((w.length : Int) - ((m + 1 : Nat) : Int)) = -1 := by unfold tn; rw [z]
        rw [e0, e1, if_neg (by decide), List.nil_append]
        refine Ev.congr (fun k => ?_) (ih x (by omega) (by omega))
        rw [if_pos rfl, wz]
      | some t =>
        obtain ⟨e1, ot, t1, t2⟩ := tn_bd h z
        have e0 : good w k0 s ((w.length : Int) - ((m + 1 : Nat) : Int)) = K w k0 t := by unfold good; rw [z]
        rw [e0, e1]
        cases q : K w k0 t with
        | true =>
          rw [if_pos rfl, ← List.append_assoc]
          refine Ev.congr (fun k => ?_) (ih (x ++ [(w.length : Int) - ((m + 1 : Nat) : Int)]) (by omega) (by rw [List.length_append]; simp; omega))
          rw [if_neg (by omega), if_pos t1, if_pos (by rw [setL_len]; omega), setL_rd ot, q, if_pos rfl, if_pos (by omega), wz]
        | false =>
          rw [if_neg (by decide), List.nil_append]
          refine Ev.congr (fun k => ?_) (ih x (by omega) (by omega))
          rw [if_neg (by omega), if_pos t1, if_pos (by rw [setL_len]; omega), setL_rd ot, q, if_neg (by decide), wz]
theorem choices_ev {w s : List Int} (o : okW w) (h : okSt w s) (k0 : Nat) : Ev (fun k => ice_game_choices.f k w (bys w) (prodI w) (numL w s) (setL w k0)) (chsOf w k0 s, prodI w) := by
  have e := choices_loop o h k0 (w.length + 1) [] (Nat.le_refl _) (by simp)
  rw [show (w.length : Int) - ((w.length + 1 : Nat) : Int) = -1 by omega, List.nil_append, chsOf_from] at e
  exact e
theorem num_first : ∀ {w : List Int}, pos w → okSt w w ∧ numL w w = prodI w - 1
  | [], _ => ⟨trivial, by simp [numL, prodI]⟩
  | a :: w, h => by
    obtain ⟨h1, h2⟩ := num_first (w := w) (fun b hb => h b (by simp [hb]))
    have := h a (by simp)
    refine ⟨⟨⟨this, Int.le_refl _⟩, h1⟩, ?_⟩
    simp only [numL, prodI, h2]
    rw [Int.mul_sub]; omega
theorem prodI_reverse (w : List Int) : prodI w.reverse = prodI w := by
  induction w with
  | nil => rfl
  | cons a w ih => rw [List.reverse_cons, prodI_append, ih]; simp [prodI, Int.mul_comm]
theorem pos_reverse {w : List Int} (h : pos w) : pos w.reverse := fun a ha => h a (by simpa using ha)
theorem okSt_take {w s : List Int} (h : okSt w s) (i : Nat) : okSt (w.take i) (s.take i) := by
  induction i generalizing w s with
  | zero => simp only [List.take_zero]; exact trivial
  | succ i ih =>
    match w, s, h with
    | [], [], _ => exact trivial
    | a :: w, x :: s, h => exact ⟨h.1, ih h.2⟩
/-- The document's number of a state: its last number counts least. -/
def numB (w s : List Int) : Int := numL w.reverse s.reverse
def digB (w : List Int) (n : Int) : List Int := (digL w.reverse n).reverse
theorem numB_bd {w s : List Int} (h : okSt w s) : 0 ≤ numB w s ∧ numB w s < prodI w := by
  have := numL_bd (okSt_reverse h)
  rwa [prodI_reverse] at this
theorem digB_num {w s : List Int} (h : okSt w s) : digB w (numB w s) = s := by
  unfold digB numB
  rw [dig_num (okSt_reverse h), List.reverse_reverse]
theorem numB_dig {w : List Int} (hp : pos w) {n : Int} (h0 : 0 ≤ n) (h1 : n < prodI w) : numB w (digB w n) = n ∧ okSt w (digB w n) := by
  obtain ⟨e, o⟩ := num_dig (pos_reverse hp) h0 (by rw [prodI_reverse]; exact h1)
  unfold numB digB
  refine ⟨by rw [List.reverse_reverse]; exact e, ?_⟩
  have := okSt_reverse o
  rwa [List.reverse_reverse] at this
theorem take_rev_succ (w : List Int) (i : Nat) (h : i < w.length) : (w.take (i + 1)).reverse = rd w (i : Int) :: (w.take i).reverse := by
  rw [List.take_succ_eq_append_getElem h, rd_get h]; simp
theorem refnum_loop {w s : List Int} (o : okW w) (h : okSt w s) : ∀ (d i : Nat), w.length - i = d → i ≤ w.length → Ev (fun k => dropperref08_number.l0 k w s (numL (w.take i).reverse (s.take i).reverse) i) (numB w s) := by
  have hlen := o.1.2
  have hs := okSt_len h
  obtain ⟨b1, b2⟩ := prodI_le o
  intro d
  induction d with
  | zero =>
    intro i hd hi
    obtain rfl : i = w.length := by omega
    refine ev_some _ fun k => ?_
    rw [dropperref08_number.l0, if_neg (by omega), List.take_length]
    rw [← hs, List.take_length]
    rfl
  | succ d ih =>
    intro i hd hi
    have hx := (okSt_iff.1 h).2 i (by omega)
    have hw8 := o.2 i (by omega)
    have q := by_bd o i
    have n1 := numL_bd (okSt_reverse (okSt_take h i))
    rw [prodI_reverse] at n1
    have e := ih (i + 1) (by omega) (by omega)
    rw [take_rev_succ w i (by omega), take_rev_succ s i (by omega)] at e
    simp only [numL] at e
    generalize numL (w.take i).reverse (s.take i).reverse = z at n1 e ⊢
    have z1 : 0 ≤ z * rd w (i : Int) := Int.mul_nonneg n1.1 (by omega)
    have z2 : z * rd w (i : Int) ≤ 32768 * 8 := Int.mul_le_mul (by omega) hw8.2 (by omega) (by omega)
    refine Ev.step (fun k => ?_) e
    rw [dropperref08_number.l0, if_pos (by omega), if_pos (by omega), if_pos (by omega), wsucc i (by omega), w64 (n := z * rd w (i : Int)) (by omega) (by omega), w64 (n := z * rd w (i : Int) + rd s (i : Int)) (by omega) (by omega), w64 (by omega) (by omega)]
    rw [show z * rd w (i : Int) + rd s (i : Int) - 1 = rd s (i : Int) - 1 + rd w (i : Int) * z by rw [Int.mul_comm]; omega]
theorem refnum_ev {w s : List Int} (o : okW w) (h : okSt w s) : Ev (fun k => dropperref08_number.f k w s) (numB w s) := refnum_loop o h w.length 0 (by omega) (by omega)
theorem digL_append (u : List Int) (a n : Int) (hp : pos u) (hn : 0 ≤ n) : digL (u ++ [a]) n = digL u n ++ [(n / prodI u) % a + 1] := by
  induction u generalizing n with
  | nil => simp [digL, prodI]
  | cons b u ih =>
    have hb := hp b (by simp)
    simp only [List.cons_append, digL, prodI]
    rw [ih (n / b) (fun c hc => hp c (by simp [hc])) (Int.ediv_nonneg hn (by omega)), Int.ediv_ediv_of_nonneg (by omega)]
theorem drop_rev (w : List Int) (i : Nat) (h : i < w.length) : (w.drop i).reverse = (w.drop (i + 1)).reverse ++ [rd w (i : Int)] := by
  rw [rd_drop w i h, List.reverse_cons]
theorem set_rep (i : Nat) (v : Int) (E : List Int) : (List.replicate (i + 1) 0 ++ E).set i v = List.replicate i 0 ++ v :: E := by
  rw [List.replicate_succ']
  simp [List.set_append]
theorem numbered_loop {w : List Int} (o : okW w) {n : Int} (h0 : 0 ≤ n) (h1 : n < prodI w) : ∀ (i : Nat), i ≤ w.length → Ev (fun k => dropperref08_numbered.l0 k w (n / prodI (w.drop i)) (List.replicate i 0 ++ (digL (w.drop i).reverse n).reverse) ((i : Int) - 1)) (digB w n) := by
  have hlen := o.1.2
  obtain ⟨b1, b2⟩ := prodI_le o
  intro i
  induction i with
  | zero =>
    intro _
    refine ev_some _ fun k => ?_
    rw [dropperref08_numbered.l0, if_neg (by omega)]
    rfl
  | succ i ih =>
    intro hi
    have hw8 := o.2 i (by omega)
    have p1 := prodI_pos (pos_drop (okW_pos o) (i + 1))
    have z1 : 0 ≤ n / prodI (w.drop (i + 1)) := Int.ediv_nonneg h0 (by omega)
    have z2 : n / prodI (w.drop (i + 1)) ≤ n := Int.ediv_le_self _ h0
    have z3 : 0 ≤ n / prodI (w.drop (i + 1)) / rd w (i : Int) := Int.ediv_nonneg z1 (by omega)
    have z4 : n / prodI (w.drop (i + 1)) / rd w (i : Int) ≤ n / prodI (w.drop (i + 1)) := Int.ediv_le_self _ z1
    have z5 := Int.emod_nonneg (n / prodI (w.drop (i + 1))) (show rd w (i : Int) ≠ 0 by omega)
    have z6 := Int.emod_lt_of_pos (n / prodI (w.drop (i + 1))) (show 0 < rd w (i : Int) by omega)
    have e := ih (by omega)
    have e1 : prodI (w.drop i) = prodI (w.drop (i + 1)) * rd w (i : Int) := by rw [rd_drop w i (by omega)]; simp only [prodI]; rw [Int.mul_comm]
    rw [e1, ← Int.ediv_ediv_of_nonneg (by omega), drop_rev w i (by omega), digL_append _ _ _ (pos_reverse (pos_drop (okW_pos o) _)) h0, List.reverse_append, prodI_reverse] at e
    have el : (digL (w.drop (i + 1)).reverse n).reverse.length = w.length - (i + 1) := by
      have ln : ∀ (u : List Int) (m : Int), (digL u m).length = u.length := by
        intro u
        induction u with
        | nil => intro m; rfl
        | cons a u ih => intro m; simp [digL, ih]
      simp [ln]
    refine Ev.step (fun k => ?_) e
    rw [dropperref08_numbered.l0, if_pos (by omega), if_pos (by omega), if_pos (by omega)]
    rw [show ((i + 1 : Nat) : Int) - 1 = (i : Int) by omega, if_neg (by omega), if_pos (by rw [List.length_append, List.length_replicate, el]; omega), Int.tdiv_eq_ediv_of_nonneg z1, Int.tmod_eq_emod_of_nonneg z1, w64 (n := n / prodI (w.drop (i + 1)) / rd w (i : Int)) (by omega) (by omega), w64 (n := n / prodI (w.drop (i + 1)) % rd w (i : Int) + 1) (by omega) (by omega), w64 (by omega) (by omega), Int.toNat_natCast, set_rep]
    rfl
theorem numbered_ev {w : List Int} (o : okW w) {n : Int} (h0 : 0 ≤ n) (h1 : n < prodI w) : Ev (fun k => dropperref08_numbered.f k w n) (digB w n) := by
  have hlen := o.1.2
  have e := numbered_loop o h0 h1 w.length (Nat.le_refl _)
  rw [List.drop_length] at e
  simp only [prodI, Int.ediv_one, List.reverse_nil, digL, List.append_nil] at e
  refine Ev.congr (fun k => ?_) e
  unfold dropperref08_numbered.f
  rw [if_pos (by omega), if_pos (by omega), w64 (by omega) (by omega), Int.toNat_natCast]
theorem reftonight_loop {w s : List Int} (o : okW w) (h : okSt w s) (c : Int) : ∀ (d i : Nat) (x : List Int), w.length - i = d → i ≤ w.length → x.length = i →
    Ev (fun k => dropperref08_tonight.l0 k w s c x i) (match nx (w.drop i) (s.drop i) (c - i) with | some t => (x ++ t, true) | none => ([], false)) := by
  have hlen := o.1.2
  have hs := okSt_len h
  intro d
  induction d with
  | zero =>
    intro i x hd hi hx
    obtain rfl : i = w.length := by omega
    refine ev_some _ fun k => ?_
    rw [dropperref08_tonight.l0, if_neg (by omega), List.drop_length]
    simp [nx]
  | succ d ih =>
    intro i x hd hi hx
    have hv := (okSt_iff.1 h).2 i (by omega)
    have hw8 := o.2 i (by omega)
    have go : ∀ m : Int, Ev (fun k => dropperref08_tonight.l0 k w s c (x ++ [m]) ((i + 1 : Nat) : Int))
        (match (nx (w.drop (i + 1)) (s.drop (i + 1)) (c - i - 1)).map (fun t => m :: t) with | some t => (x ++ t, true) | none => ([], false)) := by
      intro m
      have e := ih (i + 1) (x ++ [m]) (by omega) (by omega) (by simp [hx])
      rw [show c - ((i + 1 : Nat) : Int) = c - i - 1 by omega] at e
      cases z : nx (w.drop (i + 1)) (s.drop (i + 1)) (c - i - 1) with
      | none => rw [z] at e; exact e
      | some t =>
        rw [z] at e
        simp only [List.append_assoc, List.singleton_append] at e
        exact e
    rw [show nx (w.drop i) (s.drop i) (c - i) = if (if c - i = 0 then rd w (i : Int) else rd s (i : Int) - 1) = 0 then none else (nx (w.drop (i + 1)) (s.drop (i + 1)) (c - i - 1)).map fun t => (if c - i = 0 then rd w (i : Int) else rd s (i : Int) - 1) :: t by rw [rd_drop w i (by omega), rd_drop s i (by omega)]; rfl]
    by_cases cc : (i : Int) = c
    · rw [if_pos (show c - (i : Int) = 0 by omega), if_neg (by omega)]
      refine Ev.step (fun k => ?_) (go (rd w (i : Int)))
      rw [dropperref08_tonight.l0, if_pos (by omega), if_pos (by omega), if_pos (by omega), if_pos cc, if_neg (by omega), if_pos (by omega), wsucc i (by omega)]
    · rw [if_neg (show ¬ c - (i : Int) = 0 by omega)]
      by_cases c1 : rd s (i : Int) - 1 = 0
      · rw [if_pos c1]
        refine ev_some _ fun k => ?_
        rw [dropperref08_tonight.l0, if_pos (by omega), if_pos (by omega), if_pos (by omega), if_neg cc, w64 (n := rd s (i : Int) - 1) (by omega) (by omega), if_pos c1]
      · rw [if_neg c1]
        refine Ev.step (fun k => ?_) (go (rd s (i : Int) - 1))
        rw [dropperref08_tonight.l0, if_pos (by omega), if_pos (by omega), if_pos (by omega), if_neg cc, w64 (n := rd s (i : Int) - 1) (by omega) (by omega), if_neg c1, if_pos (by omega), wsucc i (by omega)]
/-- What the document's tonight tells. -/
def rtn (w s : List Int) (c : Int) : List Int × Bool := match nx w s c with
  | some t => (t, true)
  | none => ([], false)
theorem reftonight_ev {w s : List Int} (o : okW w) (h : okSt w s) (c : Int) : Ev (fun k => dropperref08_tonight.f k w s c) (rtn w s c) := by
  have e := reftonight_loop o h c w.length 0 [] (by omega) (by omega) rfl
  simp only [List.drop_zero, Int.natCast_zero, Int.sub_zero, List.nil_append] at e
  exact e
/-- The document's set of the states that can go on for k nights. -/
def setB (w : List Int) (k : Nat) : List Bool := (List.range (prodI w).toNat).map fun i : Nat => K w k (digB w (i : Int))
theorem setB_len (w : List Int) (k : Nat) : (setB w k).length = (prodI w).toNat := by simp [setB]
theorem setB_rd {w s : List Int} (h : okSt w s) (k : Nat) : rdOf false (setB w k) (numB w s) = K w k s := by
  obtain ⟨h1, h2⟩ := numB_bd h
  have e0 : ((numB w s).toNat : Int) = numB w s := by omega
  have : (digB w ((numB w s).toNat : Int)) = s := by rw [e0]; exact digB_num h
  unfold setB rdOf
  rw [List.getD_eq_getElem?_getD, List.getElem?_map, List.getElem?_range (by omega)]
  simp only [Option.map_some, Option.getD_some, this]
/-- A row under way: the first j are told, number j is b, the others z. -/
def midG {α : Type} (f : Nat → α) (N j : Nat) (b z : α) : List α := (List.range j).map f ++ b :: List.replicate (N - j - 1) z
section
variable {α : Type} {f : Nat → α} {N j : Nat} {b v z : α}
theorem midG_len (h : j < N) : (midG f N j b z).length = N := by simp [midG]; omega
theorem midG_get (d : α) (h : j < N) : (midG f N j b z).getD j d = b := by
  simp [midG, List.getD_eq_getElem?_getD, List.getElem?_append]
theorem midG_set (h : j < N) : (midG f N j b z).set j v = midG f N j v z := by
  simp [midG, List.set_append]
theorem midG_next (h : j + 1 < N) : midG f N j (f j) z = midG f N (j + 1) z z := by
  unfold midG
  rw [List.range_succ, List.map_append, List.append_assoc]
  congr 1
  have : N - j - 1 = N - (j + 1) - 1 + 1 := by omega
  rw [this, List.replicate_succ]
  rfl
theorem midG_last (h : j + 1 = N) : midG f N j (f j) z = (List.range N).map f := by
  unfold midG
  rw [← h, List.range_succ, List.map_append, show j + 1 - j - 1 = 0 by omega]
  rfl
theorem midG_first (h : 0 < N) : midG f N 0 z z = List.replicate N z := by
  unfold midG
  obtain ⟨m, rfl⟩ : ∃ m, N = m + 1 := ⟨N - 1, by omega⟩
  simp [List.replicate_succ]
end
/-- The states behind a night, by the choices from the m-th last on. -/
def nbF (w s : List Int) : Nat → List (List Int)
  | 0 => []
  | m + 1 => (match nx w s ((w.length : Int) - ((m + 1 : Nat) : Int)) with | some t => [t] | none => []) ++ nbF w s m
theorem nbF_ok {w s : List Int} (h : okSt w s) : ∀ m, ∀ t ∈ nbF w s m, okSt w t
  | 0, t, ht => by simp [nbF] at ht
  | m + 1, t, ht => by
    rw [nbF, List.mem_append] at ht
    rcases ht with ht | ht
    · cases z : nx w s ((w.length : Int) - ((m + 1 : Nat) : Int)) with
      | none => rw [z] at ht; simp at ht
      | some u => rw [z] at ht; simp at ht; rw [ht]; exact nx_ok h z
    · exact nbF_ok h m t ht
theorem nbF_len (w s : List Int) : ∀ m, (nbF w s m).length ≤ m
  | 0 => Nat.le_refl _
  | m + 1 => by
    have := nbF_len w s m
    rw [nbF, List.length_append]
    split <;> simp <;> omega
theorem nbF_any (w s : List Int) (k : Nat) : ∀ m, (nbF w s m).any (fun t => K w k t) = gF w k s m
  | 0 => rfl
  | m + 1 => by
    rw [nbF, List.any_append, nbF_any w s k m, gF]
    congr 1
    show _ = good w k s ((w.length : Int) - ((m + 1 : Nat) : Int))
    unfold good
    cases nx w s ((w.length : Int) - ((m + 1 : Nat) : Int)) <;> simp
/-- The numbers of the states behind a night. -/
def nbN (w : List Int) (i : Nat) : List Int := (nbF w (digB w (i : Int)) (w.length + 1)).map (numB w)
theorem table_l1 {w : List Int} (o : okW w) {j : Nat} (hj : j < (prodI w).toNat) {r : List (List Bool)} (x3 : List Bool) : ∀ (m : Nat) (u : List Int), m ≤ w.length + 1 → u.length ≤ 6 - m →
    Ev (fun k => dropperref08_Table.l0 k w x3 (midG (nbN w) (prodI w).toNat j (u ++ (nbF w (digB w (j : Int)) m).map (numB w)) []) ((j + 1 : Nat) : Int)) r →
    Ev (fun k => dropperref08_Table.l1 k w x3 (midG (nbN w) (prodI w).toNat j u []) j ((w.length : Int) - m)) r := by
  have hlen := o.1.2
  obtain ⟨b1, b2⟩ := prodI_le o
  obtain ⟨nd, od⟩ := numB_dig (okW_pos o) (n := (j : Int)) (by omega) (by omega)
  intro m
  induction m with
  | zero =>
    intro u hm hu e
    simp only [nbF, List.map_nil, List.append_nil] at e
    refine Ev.step (fun k => ?_) e
    rw [dropperref08_Table.l1, if_neg (by omega), wsucc j (by omega)]
  | succ m ih =>
    intro u hm hu e
    have wz : wrap64 ((w.length : Int) - ((m + 1 : Nat) : Int) + 1) = (w.length : Int) - m := by rw [w64 (by omega) (by omega)]; omega
    have hx4 : rd_L1 (midG (nbN w) (prodI w).toNat j u []) (j : Int) = u := by
      show List.getD _ _ _ = _
      rw [Int.toNat_natCast]
      exact midG_get [] hj
    refine Ev.step (f := fun k => (dropperref08_numbered.f k w j).bind fun t609 => ((dropperref08_tonight.f k w t609 ((w.length : Int) - ((m + 1 : Nat) : Int))).bind fun bt612 => (if bt612.2 = true then (if 0 ≤ (j : Int) then (if (j : Int) < ((midG (nbN w) (prodI w).toNat j u []).length : Int) then ((dropperref08_number.f k w bt612.1).bind fun t617 => (if (rd_L1 (midG (nbN w) (prodI w).toNat j u []) (j : Int)).length < 17592186044416 then (dropperref08_Table.l1 k w x3 ((midG (nbN w) (prodI w).toNat j u []).set (j : Int).toNat ((rd_L1 (midG (nbN w) (prodI w).toNat j u []) (j : Int)) ++ [t617])) j (wrap64 ((w.length : Int) - ((m + 1 : Nat) : Int) + 1))) else (none))) else (none)) else (none)) else (dropperref08_Table.l1 k w x3 (midG (nbN w) (prodI w).toNat j u []) j (wrap64 ((w.length : Int) - ((m + 1 : Nat) : Int) + 1)))))) (fun k => ?_) (Ev.bind (numbered_ev o (n := (j : Int)) (by omega) (by omega)) (Ev.bind (reftonight_ev o od _) ?_))
    · rw [dropperref08_Table.l1, if_pos (by omega)]
    · rw [wz]
      unfold rtn
      rw [nbF] at e
      cases z : nx w (digB w (j : Int)) ((w.length : Int) - ((m + 1 : Nat) : Int)) with
      | none =>
        rw [z] at e
        simp only [Bool.false_eq_true, if_false]
        exact ih u (by omega) (by omega) e
      | some t =>
        rw [z] at e
        simp only [if_true]
        refine Ev.congr (f := fun k => (dropperref08_number.f k w t).bind fun t617 => (dropperref08_Table.l1 k w x3 (midG (nbN w) (prodI w).toNat j (u ++ [t617]) []) j ((w.length : Int) - m))) (fun k => ?_) (Ev.bind (refnum_ev o (nx_ok od z)) ?_)
        · rw [if_pos (by omega), if_pos (by rw [midG_len hj]; omega), hx4]
          congr 1
          funext t617
          rw [if_pos (by omega), Int.toNat_natCast, midG_set hj]
        · refine ih (u ++ [numB w t]) (by omega) (by rw [List.length_append]; simp; omega) ?_
          simpa using e
theorem table_l0 {w : List Int} (o : okW w) {r : List (List Bool)} (e : Ev (fun k => dropperref08_Table.l2 k (setB w 0) ((List.range (prodI w).toNat).map (nbN w)) [setB w 0] true) r) : ∀ (d j : Nat), (prodI w).toNat - j = d → 0 < d →
    Ev (fun k => dropperref08_Table.l0 k w (midG (fun _ => true) (prodI w).toNat j false false) (midG (nbN w) (prodI w).toNat j [] []) j) r := by
  obtain ⟨b1, b2⟩ := prodI_le o
  have hlen := o.1.2
  intro d
  induction d with
  | zero => intro j _ h; omega
  | succ d ih =>
    intro j hd _
    refine Ev.step (f := fun k => dropperref08_Table.l1 k w (midG (fun _ => true) (prodI w).toNat j true false) (midG (nbN w) (prodI w).toNat j [] []) j (-1)) (fun k => ?_) ?_
    · rw [dropperref08_Table.l0, if_pos (by rw [midG_len (by omega)]; omega), if_pos (by omega), Int.toNat_natCast, midG_set (by omega)]
    · have e1 := table_l1 o (j := j) (by omega) (r := r) (midG (fun _ => true) (prodI w).toNat j true false) (w.length + 1) [] (Nat.le_refl _) (by simp)
      rw [show (w.length : Int) - ((w.length + 1 : Nat) : Int) = -1 by omega] at e1
      refine e1 ?_
      rw [List.nil_append]
      show Ev (fun k => dropperref08_Table.l0 k w (midG (fun _ => true) (prodI w).toNat j ((fun _ => true) j) false) (midG (nbN w) (prodI w).toNat j (nbN w j) []) ((j + 1 : Nat) : Int)) r
      by_cases q : d = 0
      · rw [midG_last (by omega), midG_last (by omega)]
        have s0 : (List.range (prodI w).toNat).map (fun _ => true) = setB w 0 := rfl
        rw [s0]
        refine Ev.step (fun k => ?_) e
        rw [dropperref08_Table.l0, if_neg (by rw [setB_len]; omega)]
      · rw [midG_next (by omega), midG_next (by omega)]
        exact ih (j + 1) (by omega) (by omega)
theorem nbL_rd {w : List Int} {j : Nat} (hj : j < (prodI w).toNat) : rd_L1 ((List.range (prodI w).toNat).map (nbN w)) (j : Int) = nbN w j := by
  unfold rd_L1
  rw [Int.toNat_natCast, List.getD_eq_getElem?_getD, List.getElem?_map, List.getElem?_range hj]
  rfl
theorem table_l4 {w : List Int} (o : okW w) (k0 : Nat) {j : Nat} (hj : j < (prodI w).toNat) {f : Nat → Bool} {r : List (List Bool)} {x9 : List (List Bool)} {x10 : Bool} : ∀ (d i : Nat) (b : Bool), (nbN w j).length - i = d → i ≤ (nbN w j).length →
    Ev (fun k => dropperref08_Table.l3 k (setB w k0) ((List.range (prodI w).toNat).map (nbN w)) x9 (x10 || ((b || ((nbF w (digB w (j : Int)) (w.length + 1)).drop i).any fun t => K w k0 t) != K w k0 (digB w (j : Int)))) (midG f (prodI w).toNat j (b || ((nbF w (digB w (j : Int)) (w.length + 1)).drop i).any fun t => K w k0 t) false) ((j + 1 : Nat) : Int)) r →
    Ev (fun k => dropperref08_Table.l4 k (setB w k0) ((List.range (prodI w).toNat).map (nbN w)) x9 x10 (midG f (prodI w).toNat j b false) j i) r := by
  have hlen := o.1.2
  obtain ⟨b1, b2⟩ := prodI_le o
  obtain ⟨nd, od⟩ := numB_dig (okW_pos o) (n := (j : Int)) (by omega) (by omega)
  have nl : (nbN w j).length = (nbF w (digB w (j : Int)) (w.length + 1)).length := by simp [nbN]
  have nl2 := nbF_len w (digB w (j : Int)) (w.length + 1)
  have hx : ∀ b, rdOf false (midG f (prodI w).toNat j b false) (j : Int) = b := fun b => by
    show List.getD _ _ _ = _
    rw [Int.toNat_natCast]
    exact midG_get false hj
  have hn : rdOf false (setB w k0) (j : Int) = K w k0 (digB w (j : Int)) := by
    have := setB_rd od k0
    rwa [nd] at this
  intro d
  induction d with
  | zero =>
    intro i b hd hi e
    obtain rfl : i = (nbN w j).length := by omega
    rw [nl, List.drop_length] at e
    simp only [List.any_nil, Bool.or_false] at e
    refine Ev.step (fun k => ?_) e
    rw [dropperref08_Table.l4, if_pos (by omega), if_pos (by simp; omega), nbL_rd hj, if_neg (by omega), wsucc j (by omega)]
    cases x10 with
    | true => simp
    | false => rw [if_neg (by decide), if_pos (by rw [midG_len hj]; omega), if_pos (by rw [setB_len]; omega), hx, hn, Bool.false_or]
  | succ d ih =>
    intro i b hd hi e
    have il : i < (nbF w (digB w (j : Int)) (w.length + 1)).length := by omega
    rw [List.drop_eq_getElem_cons il, List.any_cons] at e
    have ot := nbF_ok od (w.length + 1) _ (List.getElem_mem il)
    have tb := numB_bd ot
    have er : rd (nbN w j) (i : Int) = numB w ((nbF w (digB w (j : Int)) (w.length + 1))[i]) := by
      rw [rd_get (by omega)]
      simp [nbN]
    cases b with
    | true =>
      simp only [Bool.true_or] at e
      refine Ev.step (fun k => ?_) (ih (i + 1) true (by omega) (by omega) (by simpa using e))
      rw [dropperref08_Table.l4, if_pos (by omega), if_pos (by simp; omega), nbL_rd hj, if_pos (by omega), if_pos (by rw [midG_len hj]; omega), hx, if_pos rfl, Int.toNat_natCast, midG_set hj, wsucc i (by omega)]
    | false =>
      simp only [Bool.false_or] at e
      refine Ev.step (fun k => ?_) (ih (i + 1) (K w k0 ((nbF w (digB w (j : Int)) (w.length + 1))[i])) (by omega) (by omega) e)
      rw [dropperref08_Table.l4, if_pos (by omega), if_pos (by simp; omega), nbL_rd hj, if_pos (by omega), if_pos (by rw [midG_len hj]; omega), hx, if_neg (by decide), if_pos (by omega), er, if_pos tb.1, if_pos (by rw [setB_len]; omega), setB_rd ot, Int.toNat_natCast, midG_set hj, wsucc i (by omega)]
/-- Whether any of the first j states can go on for k nights, but not for one more. -/
def chg (w : List Int) (k : Nat) : Nat → Bool
  | 0 => false
  | j + 1 => chg w k j || (K w (k + 1) (digB w (j : Int)) != K w k (digB w (j : Int)))
theorem chg_false {w : List Int} {k : Nat} : ∀ {n : Nat}, chg w k n = false ↔ ∀ j, j < n → K w (k + 1) (digB w (j : Int)) = K w k (digB w (j : Int))
  | 0 => by simp [chg]
  | n + 1 => by
    rw [chg, Bool.or_eq_false_iff, chg_false (n := n)]
    constructor
    · rintro ⟨h1, h2⟩ j hj
      by_cases q : j = n
      · rw [q]; simpa using h2
      · exact h1 j (by omega)
    · intro h
      exact ⟨fun j hj => h j (by omega), by simpa using h n (by omega)⟩
theorem chg_stable {w : List Int} (hp : pos w) {k : Nat} : chg w k (prodI w).toNat = false ↔ stable w k := by
  rw [chg_false]
  constructor
  · intro h s hs
    obtain ⟨h1, h2⟩ := numB_bd hs
    have := h (numB w s).toNat (by omega)
    rwa [show (((numB w s).toNat : Nat) : Int) = numB w s by omega, digB_num hs] at this
  · intro h j hj
    exact h _ (numB_dig hp (by omega) (by omega)).2
theorem table_l3 {w : List Int} (o : okW w) (k0 : Nat) {x9 : List (List Bool)} {r : List (List Bool)}
    (e : Ev (fun k => dropperref08_Table.l3 k (setB w k0) ((List.range (prodI w).toNat).map (nbN w)) x9 (chg w k0 (prodI w).toNat) (setB w (k0 + 1)) (prodI w)) r) : ∀ (d j : Nat), (prodI w).toNat - j = d → 0 < d →
    Ev (fun k => dropperref08_Table.l3 k (setB w k0) ((List.range (prodI w).toNat).map (nbN w)) x9 (chg w k0 j) (midG (fun i => K w (k0 + 1) (digB w (i : Int))) (prodI w).toNat j false false) j) r := by
  obtain ⟨b1, b2⟩ := prodI_le o
  have hlen := o.1.2
  intro d
  induction d with
  | zero => intro j _ h; omega
  | succ d ih =>
    intro j hd _
    refine Ev.step (f := fun k => dropperref08_Table.l4 k (setB w k0) ((List.range (prodI w).toNat).map (nbN w)) x9 (chg w k0 j) (midG (fun i => K w (k0 + 1) (digB w (i : Int))) (prodI w).toNat j false false) j ((0 : Nat) : Int)) (fun k => ?_) ?_
    · rw [dropperref08_Table.l3, if_pos (by rw [setB_len]; omega)]
      rfl
    · refine table_l4 o k0 (by omega) _ 0 false rfl (by omega) ?_
      rw [List.drop_zero, Bool.false_or, nbF_any, ← K_gF]
      show Ev (fun k => dropperref08_Table.l3 k (setB w k0) ((List.range (prodI w).toNat).map (nbN w)) x9 (chg w k0 (j + 1)) (midG (fun i => K w (k0 + 1) (digB w (i : Int))) (prodI w).toNat j ((fun i : Nat => K w (k0 + 1) (digB w (i : Int))) j) false) ((j + 1 : Nat) : Int)) r
      by_cases q : d = 0
      · rw [midG_last (by omega), show j + 1 = (prodI w).toNat by omega, show (((prodI w).toNat : Nat) : Int) = prodI w by omega]
        exact e
      · rw [midG_next (by omega)]
        exact ih (j + 1) (by omega) (by omega)
theorem table_l2 {w : List Int} (o : okW w) : ∀ (d i : Nat), inf w - i = d → i ≤ inf w → ∃ m, stable w m ∧ m ≤ inf w ∧ Ev (fun k => dropperref08_Table.l2 k (setB w i) ((List.range (prodI w).toNat).map (nbN w)) ((List.range (i + 1)).map (setB w)) true) ((List.range (m + 1)).map (setB w)) := by
  obtain ⟨b1, b2⟩ := prodI_le o
  have hlen := o.1.2
  have hinf : inf w ≤ 32768 := by unfold inf; omega
  have start : ∀ (i : Nat) {x9 r : List (List Bool)}, Ev (fun k => dropperref08_Table.l3 k (setB w i) ((List.range (prodI w).toNat).map (nbN w)) x9 (chg w i (prodI w).toNat) (setB w (i + 1)) (prodI w)) r → Ev (fun k => dropperref08_Table.l2 k (setB w i) ((List.range (prodI w).toNat).map (nbN w)) x9 true) r := by
    intro i x9 r e
    refine Ev.step (fun k => ?_) (table_l3 o i e (prodI w).toNat 0 (by omega) (by omega))
    rw [dropperref08_Table.l2, if_pos rfl, setB_len, if_pos (by omega), if_pos (by omega), Int.toNat_natCast, midG_first (by omega)]
    rfl
  have stop : ∀ i, stable w i → Ev (fun k => dropperref08_Table.l2 k (setB w i) ((List.range (prodI w).toNat).map (nbN w)) ((List.range (i + 1)).map (setB w)) true) ((List.range (i + 1)).map (setB w)) := by
    intro i st
    refine start i (Ev.step (f := fun k => dropperref08_Table.l2 k (setB w i) ((List.range (prodI w).toNat).map (nbN w)) ((List.range (i + 1)).map (setB w)) false) (fun k => ?_) (ev_some _ fun k => ?_))
    · rw [dropperref08_Table.l3, if_neg (by rw [setB_len]; omega), (chg_stable (okW_pos o)).2 st, if_neg (by decide)]
    · rw [dropperref08_Table.l2, if_neg (by decide)]
  intro d
  induction d with
  | zero =>
    intro i hd hi
    have st : stable w i := stable_all (okW_pos o) (by unfold inf at hd hi; omega)
    exact ⟨i, st, hi, stop i st⟩
  | succ d ih =>
    intro i hd hi
    by_cases st : stable w i
    · exact ⟨i, st, hi, stop i st⟩
    · obtain ⟨m, h1, h2, e⟩ := ih (i + 1) (by omega) (by omega)
      refine ⟨m, h1, h2, start i (Ev.step (fun k => ?_) e)⟩
      have c : chg w i (prodI w).toNat = true := by
        cases q : chg w i (prodI w).toNat with
        | true => rfl
        | false => exact absurd ((chg_stable (okW_pos o)).1 q) st
      rw [dropperref08_Table.l3, if_neg (by rw [setB_len]; omega), c, if_pos rfl, if_pos (by simp; omega)]
      rw [List.range_succ (n := i + 1), List.map_append]
      rfl
theorem table_ev {w : List Int} (o : okW w) : ∃ m, stable w m ∧ m ≤ inf w ∧ Ev (fun k => dropperref08_Table.f k w) ((List.range (m + 1)).map (setB w)) := by
  obtain ⟨b1, b2⟩ := prodI_le o
  obtain ⟨m, h1, h2, e⟩ := table_l2 o (inf w) 0 rfl (by omega)
  refine ⟨m, h1, h2, ?_⟩
  refine Ev.bind (count_ev o) ?_
  have e0 := table_l0 o e (prodI w).toNat 0 (by omega) (by omega)
  rw [midG_first (by omega), midG_first (by omega)] at e0
  refine Ev.congr (fun k => ?_) e0
  rw [if_pos (by omega), if_pos (by omega)]
  simp only [Option.bind_some, List.length_replicate]
  rw [if_pos (by omega), if_pos (by omega), Int.toNat_natCast]
  rfl
/-- A row of the table. -/
theorem table_row {w : List Int} {m i : Nat} (h : i < m + 1) : rd_L3 ((List.range (m + 1)).map (setB w)) (i : Int) = setB w i := by
  unfold rd_L3
  rw [Int.toNat_natCast, List.getD_eq_getElem?_getD, List.getElem?_map, List.getElem?_range h]
  rfl
theorem cnt_remove {q : Nat → Bool} {j : Nat} (hq : q j = true) : ∀ {M : Nat}, j < M → cnt (fun i => q i && i != j) M + 1 = cnt q M
  | 0, h => by omega
  | M + 1, h => by
    unfold cnt
    by_cases e : j = M
    · subst e
      rw [hq]
      have : cnt (fun i => q i && i != j) j = cnt q j := cnt_congr (fun i hi => by
        have : i ≠ j := by omega
        simp [this])
      rw [this]
      simp
    · have ih := cnt_remove hq (M := M) (by omega)
      have : (q M && M != j) = q M := by
        have : M ≠ j := by omega
        simp [this]
      rw [this]
      omega
theorem cnt_inj {p : Nat → Bool} {σ : Nat → Nat} : ∀ {N : Nat} {q : Nat → Bool} {M : Nat}, (∀ i, i < N → p i = true → σ i < M ∧ q (σ i) = true) → (∀ i j, i < N → j < N → p i = true → p j = true → σ i = σ j → i = j) → cnt p N ≤ cnt q M
  | 0, q, M, _, _ => Nat.zero_le _
  | N + 1, q, M, h1, h2 => by
    rw [show cnt p (N + 1) = cnt p N + if p N = true then 1 else 0 from rfl]
    by_cases c : p N = true
    · rw [if_pos c]
      obtain ⟨a, b⟩ := h1 N (by omega) c
      rw [← cnt_remove b a]
      refine Nat.succ_le_succ (cnt_inj (fun i hi hp => ?_) (fun i j hi hj => h2 i j (by omega) (by omega)))
      obtain ⟨a2, b2⟩ := h1 i (by omega) hp
      refine ⟨a2, ?_⟩
      have : σ i ≠ σ N := fun e => by have := h2 i N (by omega) (by omega) hp c e; omega
      simp [b2, this]
    · rw [if_neg c]
      exact cnt_inj (fun i hi hp => h1 i (by omega) hp) (fun i j hi hj => h2 i j (by omega) (by omega))
/-- What is done in a night, the list again and again. -/
def nt (l : List Int) (i : Nat) : Int := rd l ((i % l.length : Nat) : Int)
/-- The next time of s behind night i is m nights on. -/
def isGap (l : List Int) (s : Int) (i m : Nat) : Prop := 1 ≤ m ∧ nt l (i + m) = s ∧ ∀ j, 1 ≤ j → j < m → nt l (i + j) ≠ s
theorem isGap_unique {l : List Int} {s : Int} {i m m' : Nat} (h : isGap l s i m) (h' : isGap l s i m') : m = m' := by
  rcases Nat.lt_trichotomy m m' with q | q | q
  · exact absurd h.2.1 (h'.2.2 m h.1 q)
  · exact q
  · exact absurd h'.2.1 (h.2.2 m' h'.1 q)
/-- v is the longest wait of s. -/
def maxGap (l : List Int) (s : Int) (v : Nat) : Prop := (∀ a, a < l.length → nt l a = s → ∃ m, isGap l s a m ∧ m ≤ v) ∧ ∃ a, a < l.length ∧ nt l a = s ∧ isGap l s a v
theorem maxGap_unique {l : List Int} {s : Int} {v v' : Nat} (h : maxGap l s v) (h' : maxGap l s v') : v = v' := by
  obtain ⟨h1, a, a1, a2, a3⟩ := h
  obtain ⟨h1', b, b1, b2, b3⟩ := h'
  obtain ⟨m, m1, m2⟩ := h1' a a1 a2
  obtain ⟨n, n1, n2⟩ := h1 b b1 b2
  have e1 := isGap_unique a3 m1
  have e2 := isGap_unique b3 n1
  omega
open Classical in
/-- The longest wait of s; 0: it never comes. -/
noncomputable def wv (l : List Int) (s : Int) : Nat := if h : ∃ v, maxGap l s v then Classical.choose h else 0
theorem wv_eq {l : List Int} {s : Int} {v : Nat} (h : maxGap l s v) : wv l s = v := by
  have hh : ∃ v, maxGap l s v := ⟨v, h⟩
  unfold wv
  rw [dif_pos hh]
  exact maxGap_unique (Classical.choose_spec hh) h
theorem wv_none {l : List Int} {s : Int} (h : ∀ a, a < l.length → nt l a ≠ s) : wv l s = 0 := by
  unfold wv
  rw [dif_neg]
  rintro ⟨v, _, a, a1, a2, _⟩
  exact h a a1 a2
theorem nt_lt {l : List Int} {i : Nat} (h : i < l.length) : nt l i = rd l (i : Int) := by unfold nt; rw [Nat.mod_eq_of_lt h]
theorem nt_add {l : List Int} (i : Nat) : nt l (i + l.length) = nt l i := by unfold nt; rw [Nat.add_mod_right]
def rinv (l : List Int) (s : Int) (i v : Nat) : Prop := (v = 0 ∧ ∀ a, a < i → nt l a ≠ s) ∨ ∃ a, a < i ∧ nt l a = s ∧ isGap l s a v
theorem refgap {l : List Int} {w x : List Int} {s : Nat} {i : Nat} (hn : 1 ≤ l.length) (hl : l.length ≤ 1000000) (hi : i < l.length) (hs : nt l i = (s : Int)) {v : Nat} {r : List Int} (e : ∀ m, isGap l s i m → m ≤ l.length → Ev (fun k => dropperref08_waits.l1 k w l x s ((max v m : Nat) : Int) ((i + 1 : Nat) : Int)) r) : ∀ (d m : Nat), l.length + 1 - m = d → 1 ≤ m → m ≤ l.length → (∀ j, 1 ≤ j → j < m → nt l (i + j) ≠ (s : Int)) →
    Ev (fun k => dropperref08_waits.l2 k w l x s v i m) r := by
  intro d
  induction d with
  | zero => intro m _ _ _ _; omega
  | succ d ih =>
    intro m hd h1 h2 h3
    have ei : Int.tmod (wrap64 ((i : Int) + (m : Int))) (l.length : Int) = (((i + m) % l.length : Nat) : Int) := by
      rw [w64 (by omega) (by omega)]
      exact (Int.ofNat_tmod (i + m) l.length).symm
    have lt : (i + m) % l.length < l.length := Nat.mod_lt _ (by omega)
    by_cases c : nt l (i + m) = (s : Int)
    · have c' : rd l (((i + m) % l.length : Nat) : Int) = (s : Int) := c
      refine Ev.step (fun k => ?_) (e m ⟨h1, c, h3⟩ h2)
      rw [dropperref08_waits.l2, if_neg (by omega), ei, if_pos (by omega), if_pos (by omega), if_pos c', mx_eq, wsucc i (by omega)]
      congr 1
      omega
    · have c' : ¬ rd l (((i + m) % l.length : Nat) : Int) = (s : Int) := c
      have hm : m < l.length := by
        rcases Nat.lt_or_ge m l.length with q | q
        · exact q
        · exact absurd ((congrArg (fun z => nt l (i + z)) (show m = l.length by omega)).trans ((nt_add i).trans hs)) c
      refine Ev.step (fun k => ?_) (ih (m + 1) (by omega) (by omega) (by omega) (fun j j1 j2 => if q : j = m then q ▸ c else h3 j j1 (by omega)))
      rw [dropperref08_waits.l2, if_neg (by omega), ei, if_pos (by omega), if_pos (by omega), if_neg c', wsucc m (by omega)]
theorem refwaits_l1 {l w x : List Int} {s : Nat} (hn : 1 ≤ l.length) (hl : l.length ≤ 1000000) (hs : s ≤ 100) (hx : x.length ≤ 100) {r : List Int} (e : Ev (fun k => dropperref08_waits.l0 k w l (x ++ [((wv l (s : Int) : Nat) : Int)]) ((s + 1 : Nat) : Int)) r) : ∀ (d i v : Nat), l.length - i = d → i ≤ l.length → v ≤ l.length →
    (∀ a, a < i → nt l a = (s : Int) → ∃ m, isGap l s a m ∧ m ≤ v) → rinv l s i v →
    Ev (fun k => dropperref08_waits.l1 k w l x s v i) r := by
  intro d
  induction d with
  | zero =>
    intro i v hd hi hv h1 h2
    obtain rfl : i = l.length := by omega
    have : wv l (s : Int) = v := by
      rcases h2 with ⟨rfl, h2⟩ | ⟨a, a1, a2, a3⟩
      · exact wv_none h2
      · exact wv_eq ⟨h1, a, a1, a2, a3⟩
    rw [this] at e
    refine Ev.step (fun k => ?_) e
    rw [dropperref08_waits.l1, if_neg (by omega), if_pos (by omega), wsucc s (by omega)]
  | succ d ih =>
    intro i v hd hi hv h1 h2
    have hil : i < l.length := by omega
    have en := nt_lt hil
    by_cases c : rd l (i : Int) = (s : Int)
    · refine Ev.step (f := fun k => dropperref08_waits.l2 k w l x s v i ((1 : Nat) : Int)) (fun k => ?_) (refgap hn hl hil (en.trans c) (fun m gm ml => ?_) l.length 1 (by omega) (by omega) (by omega) (fun j j1 j2 => by omega))
      · rw [dropperref08_waits.l1, if_pos (by omega), if_pos (by omega), if_pos c]
        rfl
      · refine ih (i + 1) (max v m) (by omega) (by omega) (by omega) (fun a a1 a2 => ?_) (.inr ?_)
        · by_cases q : a = i
          · subst q; exact ⟨m, gm, by omega⟩
          · obtain ⟨z, z1, z2⟩ := h1 a (by omega) a2
            exact ⟨z, z1, by omega⟩
        · by_cases q : v ≤ m
          · rw [Nat.max_eq_right q]
            exact ⟨i, by omega, en.trans c, gm⟩
          · rw [Nat.max_eq_left (by omega)]
            rcases h2 with ⟨rfl, _⟩ | ⟨a, a1, a2, a3⟩
            · omega
            · exact ⟨a, by omega, a2, a3⟩
    · refine Ev.step (fun k => ?_) (ih (i + 1) v (by omega) (by omega) hv (fun a a1 a2 => ?_) ?_)
      · rw [dropperref08_waits.l1, if_pos (by omega), if_pos (by omega), if_neg c, wsucc i (by omega)]
      · exact h1 a (by
          rcases Nat.lt_or_ge a i with q | q
          · exact q
          · exact absurd (by rw [← en, show i = a by omega]; exact a2) c) a2
      · rcases h2 with ⟨h0, h2⟩ | ⟨a, a1, a2, a3⟩
        · refine .inl ⟨h0, fun a a1 => ?_⟩
          by_cases q : a = i
          · rw [q, en]; exact c
          · exact h2 a (by omega)
        · exact .inr ⟨a, by omega, a2, a3⟩
/-- The longest waits of the sections. -/
noncomputable def wvs (l : List Int) (n : Nat) : List Int := (List.range n).map fun s : Nat => ((wv l (s : Int) : Nat) : Int)
theorem refwaits_l0 {l w : List Int} (hn : 1 ≤ l.length) (hl : l.length ≤ 1000000) (hw : w.length ≤ 5) : ∀ (d s : Nat), w.length - s = d → s ≤ w.length → Ev (fun k => dropperref08_waits.l0 k w l (wvs l s) s) (wvs l w.length) := by
  intro d
  induction d with
  | zero =>
    intro s hd hs
    obtain rfl : s = w.length := by omega
    refine ev_some _ fun k => ?_
    rw [dropperref08_waits.l0, if_neg (by omega)]
  | succ d ih =>
    intro s hd hs
    have e := ih (s + 1) (by omega) (by omega)
    have u : wvs l (s + 1) = wvs l s ++ [((wv l (s : Int) : Nat) : Int)] := by simp [wvs, List.range_succ]
    rw [u] at e
    refine Ev.step (f := fun k => dropperref08_waits.l1 k w l (wvs l s) s ((0 : Nat) : Int) ((0 : Nat) : Int)) (fun k => ?_) (refwaits_l1 hn hl (by omega) (by simp [wvs]; omega) e l.length 0 0 (by omega) (by omega) (by omega) (fun a a1 => by omega) (.inl ⟨rfl, fun a a1 => by omega⟩))
    rw [dropperref08_waits.l0, if_pos (by omega)]
    rfl
theorem refwaits_ev {l w : List Int} (hn : 1 ≤ l.length) (hl : l.length ≤ 1000000) (hw : w.length ≤ 5) : Ev (fun k => dropperref08_waits.f k w l) (wvs l w.length) := refwaits_l0 hn hl hw w.length 0 (by omega) (by omega)
theorem wvs_rd {l : List Int} {n s : Nat} (h : s < n) : rd (wvs l n) (s : Int) = (wv l (s : Int) : Nat) := by
  simp [wvs, rd, List.getD_eq_getElem?_getD, h]
/-- A list can be a rota, as far as its numbers go. -/
def okL (w l : List Int) : Prop := (1 ≤ l.length ∧ l.length ≤ 100) ∧ ∀ i, i < l.length → -1 ≤ rd l (i : Int) ∧ rd l (i : Int) ≤ (w.length : Int) - 1
/-- No section waits too long. -/
def okWt (w l : List Int) : Prop := ∀ s, s < w.length → 1 ≤ wv l (s : Int) ∧ ((wv l (s : Int) : Nat) : Int) ≤ rd w (s : Int)
def rota (w l : List Int) : Prop := okL w l ∧ okWt w l
open Classical in
theorem list_loop8 {w l : List Int} (hw : w.length ≤ 5) (hl : l.length ≤ 9223372036854775807) : ∀ (d i : Nat), l.length - i = d → i ≤ l.length → (∀ j, j < i → -1 ≤ rd l (j : Int) ∧ rd l (j : Int) ≤ (w.length : Int) - 1) → Ev (fun k => dropperref08_list.l0 k w l i) (decide (okL w l)) := by
  intro d
  induction d with
  | zero =>
    intro i hd hi h
    obtain rfl : i = l.length := by omega
    refine ev_some _ fun k => ?_
    rw [dropperref08_list.l0, if_neg (by omega), from_some]
    simp only [Option.bind_some]
    congr 1
    exact decide_eq_decide.2 ⟨fun z => ⟨by omega, h⟩, fun z => by have := z.1; omega⟩
  | succ d ih =>
    intro i hd hi h
    by_cases c : -1 ≤ rd l (i : Int) ∧ rd l (i : Int) ≤ (w.length : Int) - 1
    · refine Ev.step (fun k => ?_) (ih (i + 1) (by omega) (by omega) (fun j hj => if q : j = i then q ▸ c else h j (by omega)))
      rw [dropperref08_list.l0, if_pos (by omega), if_pos (by omega), from_some, w64 (n := (w.length : Int) - 1) (by omega) (by omega), decide_eq_true c, wsucc i (by omega)]
      rfl
    · rw [decide_eq_false (fun z => c (z.2 i (by omega)))]
      refine ev_some _ fun k => ?_
      rw [dropperref08_list.l0, if_pos (by omega), if_pos (by omega), from_some, w64 (n := (w.length : Int) - 1) (by omega) (by omega), decide_eq_false c]
      rfl
open Classical in
theorem refrota_loop {w l : List Int} (hw : w.length ≤ 5) : ∀ (d i : Nat), w.length - i = d → i ≤ w.length → (∀ s, s < i → 1 ≤ wv l (s : Int) ∧ ((wv l (s : Int) : Nat) : Int) ≤ rd w (s : Int)) →
    Ev (fun k => dropperref08_isRota.l0 k w (wvs l w.length) i) (decide (okWt w l)) := by
  intro d
  induction d with
  | zero =>
    intro i hd hi h
    obtain rfl : i = w.length := by omega
    rw [decide_eq_true (show okWt w l from h)]
    refine ev_some _ fun k => ?_
    rw [dropperref08_isRota.l0, if_neg (by omega)]
  | succ d ih =>
    intro i hd hi h
    by_cases c : 1 ≤ wv l (i : Int) ∧ ((wv l (i : Int) : Nat) : Int) ≤ rd w (i : Int)
    · refine Ev.step (fun k => ?_) (ih (i + 1) (by omega) (by omega) (fun s hs => if q : s = i then q ▸ c else h s (by omega)))
      rw [dropperref08_isRota.l0, if_pos (by omega), if_pos (by omega), if_pos (by simp [wvs]; omega), from_some, wvs_rd (by omega), decide_eq_true (show 1 ≤ ((wv l (i : Int) : Nat) : Int) ∧ ((wv l (i : Int) : Nat) : Int) ≤ rd w (i : Int) from ⟨by omega, c.2⟩), wsucc i (by omega)]
      rfl
    · rw [decide_eq_false (fun z => c (z i (by omega)))]
      refine ev_some _ fun k => ?_
      rw [dropperref08_isRota.l0, if_pos (by omega), if_pos (by omega), if_pos (by simp [wvs]; omega), from_some, wvs_rd (by omega), decide_eq_false (show ¬ (1 ≤ ((wv l (i : Int) : Nat) : Int) ∧ ((wv l (i : Int) : Nat) : Int) ≤ rd w (i : Int)) from fun z => c ⟨by omega, z.2⟩)]
      rfl
open Classical in
theorem ref_isRota_ev {w l : List Int} (o : okW w) (hl : l.length ≤ 9223372036854775807) : Ev (fun k => dropperref08_isRota.f k w l) (decide (rota w l)) := by
  have hw := o.1
  refine Ev.bind (list_loop8 (by omega) hl l.length 0 (by omega) (by omega) (by omega)) ?_
  by_cases ok : okL w l
  · simp only [decide_eq_true ok, if_true]
    have hn := ok.1
    have : decide (rota w l) = decide (okWt w l) := decide_eq_decide.2 ⟨fun z => z.2, fun z => ⟨ok, z⟩⟩
    rw [this]
    exact Ev.bind (refwaits_ev (by omega) (by omega) (by omega)) (refrota_loop (by omega) w.length 0 (by omega) (by omega) (fun s hs => by omega))
  · simp only [decide_eq_false ok, Bool.false_eq_true, if_false]
    rw [decide_eq_false (fun z => ok z.1)]
    exact Ev.now _
open Classical in
/-- What IsRota tells. -/
noncomputable def isRotaR (w l : List Int) : Bool × Int := if okW w then (decide (rota w l), 0) else (false, 80)
theorem ref_IsRota_ev (w l : List Int) (hw : w.length ≤ 9223372036854775807) (hl : l.length ≤ 9223372036854775807) : Ev (fun k => dropperref08_IsRota.f k w l) (isRotaR w l) := by
  classical
  refine Ev.bind (ref_Valid_ev w hw) ?_
  unfold isRotaR
  by_cases o : okW w
  · simp only [decide_eq_true o, if_true, if_pos o]
    exact Ev.bind (ref_isRota_ev o hl) (Ev.now _)
  · simp only [decide_eq_false o, Bool.false_eq_true, if_false, if_neg o]
    exact Ev.now _
/-- The sum of 840 divided by each want. -/
def dsum : List Int → Int
  | [] => 0
  | a :: w => 840 / a + dsum w
theorem rd_set2 (x : List Int) {i j : Nat} (v : Int) (hi : i < x.length) (hj : j < x.length) : rd (x.set i v) (j : Int) = if j = i then v else rd x (j : Int) := by
  simp only [rd, List.getD_eq_getElem?_getD, Int.toNat_natCast, List.getElem?_set]
  by_cases e : i = j
  · subst e; simp [hi]
  · rw [if_neg e, if_neg (fun h => e h.symm)]
theorem ext_rd {x y : List Int} (h : x.length = y.length) (e : ∀ j, j < x.length → rd x (j : Int) = rd y (j : Int)) : x = y := by
  refine List.ext_getElem h fun i h1 h2 => ?_
  have := e i h1
  rwa [rd_get h1, rd_get h2] at this
theorem rdc0 (a : Int) (w : List Int) : rd (a :: w) ((0 : Nat) : Int) = a := by simp [rd]
theorem rdcs (a : Int) (w : List Int) (i : Nat) : rd (a :: w) ((i + 1 : Nat) : Int) = rd w (i : Int) := by simp [rd]
theorem nx_iff : ∀ {w s : List Int} {c : Int} {t : List Int}, s.length = w.length → (nx w s c = some t ↔ t.length = w.length ∧ ∀ i, i < w.length → rd t (i : Int) = (if (i : Int) = c then rd w (i : Int) else rd s (i : Int) - 1) ∧ rd t (i : Int) ≠ 0)
  | [], s, c, t, h => by
    obtain rfl : s = [] := List.eq_nil_of_length_eq_zero h
    constructor
    · intro e
      have : t = [] := by simpa [nx] using e.symm
      subst this
      exact ⟨rfl, fun i hi => by simp at hi⟩
    · rintro ⟨e, _⟩
      obtain rfl : t = [] := List.eq_nil_of_length_eq_zero e
      rfl
  | a :: w, [], c, t, h => by simp at h
  | a :: w, x :: s, c, t, h => by
    have hl : s.length = w.length := by simpa using h
    have hc : ∀ i : Nat, (((i + 1 : Nat) : Int) = c ↔ (i : Int) = c - 1) := fun i => by omega
    rw [nx]
    by_cases hv : (if c = 0 then a else x - 1) = 0
    · rw [if_pos hv]
      constructor
      · intro e; cases e
      · rintro ⟨_, e⟩
        have := e 0 (by simp)
        rw [rdc0 a, rdc0 x] at this
        obtain ⟨e1, e2⟩ := this
        rw [e1] at e2
        have e3 : (((0 : Nat) : Int) = c) = (c = 0) := propext ⟨fun z => by omega, fun z => by omega⟩
        simp only [e3] at e2
        exact absurd hv e2
    · rw [if_neg hv]
      cases e : nx w s (c - 1) with
      | none =>
        constructor
        · intro z; simp at z
        · rintro ⟨l, z⟩
          exfalso
          cases t with
          | nil => simp at l
          | cons y t =>
            have : nx w s (c - 1) = some t := (nx_iff hl).2 ⟨by simpa using l, fun i hi => by
              have := z (i + 1) (by simp; omega)
              rw [rdcs, rdcs, rdcs] at this
              simp only [hc] at this
              exact this⟩
            rw [e] at this
            cases this
      | some t' =>
        obtain ⟨l', z'⟩ := (nx_iff hl).1 e
        have e3 : (((0 : Nat) : Int) = c) = (c = 0) := propext ⟨fun z => by omega, fun z => by omega⟩
        constructor
        · intro z
          have z : (if c = 0 then a else x - 1) :: t' = t := by simpa using z
          subst z
          refine ⟨by simp [l'], fun i hi => ?_⟩
          cases i with
          | zero => rw [rdc0, rdc0, rdc0]; simp only [e3]; exact ⟨trivial, hv⟩
          | succ i =>
            rw [rdcs, rdcs, rdcs]
            simp only [hc]
            exact z' i (by simp at hi; omega)
        · rintro ⟨l, z⟩
          cases t with
          | nil => simp at l
          | cons y t =>
            have h0 := z 0 (by simp)
            rw [rdc0, rdc0, rdc0] at h0
            simp only [e3] at h0
            have ht : t' = t := by
              refine ext_rd (by rw [l']; simp at l; exact l.symm) fun i hi => ?_
              have := z (i + 1) (by simp; omega)
              rw [rdcs, rdcs, rdcs] at this
              simp only [hc] at this
              rw [this.1, (z' i (by omega)).1]
            simp [ht, h0.1]
/-- The state behind a night. -/
def nxt (w s : List Int) (c : Int) : List Int := (List.range w.length).map fun i : Nat => if (i : Int) = c then rd w (i : Int) else rd s (i : Int) - 1
theorem nxt_rd {w s : List Int} {c : Int} {i : Nat} (h : i < w.length) : rd (nxt w s c) (i : Int) = if (i : Int) = c then rd w (i : Int) else rd s (i : Int) - 1 := by
  rw [rd_get (by simp [nxt]; exact h)]
  simp [nxt]
theorem nxt_len (w s : List Int) (c : Int) : (nxt w s c).length = w.length := by simp [nxt]
theorem nx_some {w s : List Int} {c : Int} (h : s.length = w.length) (h0 : ∀ i, i < w.length → rd (nxt w s c) (i : Int) ≠ 0) : nx w s c = some (nxt w s c) := (nx_iff h).2 ⟨nxt_len _ _ _, fun i hi => ⟨nxt_rd hi, h0 i hi⟩⟩
theorem nx_nxt {w s t : List Int} {c : Int} (h : s.length = w.length) (e : nx w s c = some t) : t = nxt w s c := by
  obtain ⟨l, z⟩ := (nx_iff h).1 e
  refine ext_rd (by rw [l, nxt_len]) fun i hi => ?_
  rw [(z i (by omega)).1, nxt_rd (by omega)]
/-- More time left, and greater wants, are never worse. -/
theorem K_mono {w w' : List Int} (hl : w'.length = w.length) (hw : ∀ i, i < w.length → rd w (i : Int) ≤ rd w' (i : Int)) : ∀ {k : Nat} {s s' : List Int}, okSt w s → okSt w' s' → (∀ i, i < w.length → rd s (i : Int) ≤ rd s' (i : Int)) → K w k s = true → K w' k s' = true
  | 0, _, _, _, _, _, _ => rfl
  | k + 1, s, s', h, h', hs, e => by
    obtain ⟨c, t, h1, h2, h3, h4⟩ := K_succ.1 e
    have ls := okSt_len h
    have ls' := okSt_len h'
    have ot := nx_ok h h3
    have et := nx_nxt ls h3
    have hle : ∀ i, i < w.length → rd t (i : Int) ≤ rd (nxt w' s' c) (i : Int) := fun i hi => by
      rw [et, nxt_rd hi, nxt_rd (by omega)]
      have := hw i hi
      have := hs i hi
      split <;> omega
    have h5 : nx w' s' c = some (nxt w' s' c) := nx_some ls' fun i hi => by
      have := (okSt_iff.1 ot).2 i (by omega)
      have := hle i (by omega)
      omega
    exact K_succ.2 ⟨c, _, h1, by omega, h5, K_mono hl hw ot (nx_ok h' h5) hle h4⟩
/-- Scraping whatever section is no worse than scraping none. -/
theorem K_some {w s t : List Int} {k : Nat} (h : okSt w s) (e : nx w s (-1) = some t) (hk : K w k t = true) {c : Int} (h0 : 0 ≤ c) (h1 : c < w.length) : nx w s c = some (nxt w s c) ∧ K w k (nxt w s c) = true := by
  have ls := okSt_len h
  have ot := nx_ok h e
  have et := nx_nxt ls e
  have hp := okSt_pos h
  have hle : ∀ i, i < w.length → rd t (i : Int) ≤ rd (nxt w s c) (i : Int) := fun i hi => by
    rw [et, nxt_rd hi, nxt_rd hi, if_neg (by omega)]
    have := (okSt_iff.1 h).2 i hi
    split <;> omega
  have h5 : nx w s c = some (nxt w s c) := nx_some ls fun i hi => by
    have := (okSt_iff.1 ot).2 i hi
    have := hle i hi
    omega
  exact ⟨h5, K_mono rfl (fun i hi => Int.le_refl _) ot (nx_ok h h5) hle hk⟩
/-- For ever. -/
theorem K_ever {w s : List Int} (o : okW w) (h : okSt w s) (e : K w (inf w) s = true) (n : Nat) : K w n s = true := by
  rcases Nat.le_total n (inf w) with z | z
  · exact K_le z e
  · rw [inf_eq o z h]; exact e
/-- How many nights the sections need in k nights. -/
def needS : List Int → List Int → Int → Int
  | a :: w, x :: s, k => (k + a - x) / a + needS w s k
  | _, _, _ => 0
theorem needS_zero : ∀ {w s : List Int}, okSt w s → needS w s 0 = 0
  | [], [], _ => rfl
  | a :: w, x :: s, h => by
    rw [needS, needS_zero h.2, Int.ediv_eq_zero_of_lt (by have := h.1; omega) (by have := h.1; omega)]
    rfl
  | [], _ :: _, h => h.elim
  | _ :: _, [], h => h.elim
theorem needS_step {k : Int} (hk : 0 ≤ k) : ∀ {w s t : List Int} {c : Int}, okSt w s → nx w s c = some t → needS w s (k + 1) ≤ needS w t k + (if 0 ≤ c then 1 else 0)
  | [], [], t, c, _, e => by
    have : t = [] := by simpa [nx] using e.symm
    subst this
    simp only [needS]
    split <;> omega
  | a :: w, x :: s, t, c, h, e => by
    obtain ⟨⟨hx, hxa⟩, h'⟩ := h
    rw [nx] at e
    by_cases hv : (if c = 0 then a else x - 1) = 0
    · rw [if_pos hv] at e; cases e
    · rw [if_neg hv] at e
      cases e2 : nx w s (c - 1) with
      | none => rw [e2] at e; cases e
      | some t' =>
        rw [e2] at e
        have e : (if c = 0 then a else x - 1) :: t' = t := by simpa using e
        subst e
        have ih := needS_step hk h' e2
        simp only [needS]
        by_cases c0 : c = 0
        · subst c0
          rw [if_neg (show ¬ (0 : Int) ≤ 0 - 1 by omega)] at ih
          rw [if_pos rfl, if_pos (Int.le_refl 0)]
          have q : (k + 1 + a - x) / a ≤ (k + a - a) / a + 1 := by
            have q2 := Int.add_mul_ediv_right k 1 (show a ≠ 0 by omega)
            rw [show k + a - a = k by omega, ← q2]
            exact Int.ediv_le_ediv (by omega) (by omega)
          omega
        · rw [if_neg c0, show k + a - (x - 1) = k + 1 + a - x by omega]
          by_cases c1 : 0 ≤ c
          · rw [if_pos (show 0 ≤ c - 1 by omega)] at ih; rw [if_pos c1]; omega
          · rw [if_neg (show ¬ 0 ≤ c - 1 by omega)] at ih; rw [if_neg c1]; omega
  | [], _ :: _, _, _, h, _ => h.elim
  | _ :: _, [], _, _, h, _ => h.elim
theorem needS_le {w : List Int} : ∀ {k : Nat} {s : List Int}, okSt w s → K w k s = true → needS w s (k : Int) ≤ k
  | 0, s, h, _ => by rw [show ((0 : Nat) : Int) = 0 from rfl, needS_zero h]; omega
  | k + 1, s, h, e => by
    obtain ⟨c, t, h1, h2, h3, h4⟩ := K_succ.1 e
    have ih := needS_le (nx_ok h h3) h4
    have := needS_step (k := (k : Int)) (by omega) h h3
    have q : (if 0 ≤ c then 1 else 0 : Int) ≤ 1 := by split <;> omega
    rw [show ((k + 1 : Nat) : Int) = (k : Int) + 1 from rfl]
    omega
theorem needS_self : ∀ w : List Int, needS w w 840 = dsum w
  | [] => rfl
  | a :: w => by rw [needS, dsum, needS_self w, show (840 : Int) + a - a = 840 by omega]
/-- What can go on for ever has a density of at most 1. -/
theorem dens_ever {w : List Int} (o : okW w) (e : K w (inf w) w = true) : dsum w ≤ 840 := by
  have h := (num_first (okW_pos o)).1
  have := needS_le h (K_ever o h e 840)
  rw [show ((840 : Nat) : Int) = 840 from rfl, needS_self] at this
  exact this
/-- What Lasts tells of wants as described. -/
def lastsS (w : List Int) (r : Int × Int) : Prop := (K w (inf w) w = true ∧ r = (0, 5)) ∨ (K w (inf w) w = false ∧ ∃ n : Nat, r = ((n : Int), 0) ∧ n ≤ inf w ∧ K w n w = true ∧ K w (n + 1) w = false)
theorem lastsS_unique {w : List Int} {r r' : Int × Int} (h : lastsS w r) (h' : lastsS w r') : r = r' := by
  rcases h with ⟨h1, h2⟩ | ⟨h1, n, h2, hb, h3, h4⟩ <;> rcases h' with ⟨g1, g2⟩ | ⟨g1, m, g2, hb', g3, g4⟩
  · rw [h2, g2]
  · rw [h1] at g1; cases g1
  · rw [h1] at g1; cases g1
  · have e : n = m := by
      rcases Nat.lt_trichotomy n m with z | z | z
      · have := K_le (show n + 1 ≤ m by omega) g3
        rw [h4] at this; cases this
      · exact z
      · have := K_le (show m + 1 ≤ n by omega) h3
        rw [g4] at this; cases this
    rw [h2, g2, e]
theorem not_ever {w : List Int} (o : okW w) {n : Nat} (e : K w n w = false) : K w (inf w) w = false := by
  rw [Bool.eq_false_iff]
  intro h
  have := K_ever o (num_first (okW_pos o)).1 h n
  rw [e] at this; cases this
theorem lasts_loop {w : List Int} (o : okW w) : ∀ (d i : Nat), inf w - i = d → i ≤ inf w → K w i w = true → ∃ r, lastsS w r ∧ Ev (fun k => ice_Lasts.l0 k (setL w i) (i : Int) w (bys w) (prodI w)) r := by
  obtain ⟨b1, b2⟩ := prodI_le o
  obtain ⟨ow, ew⟩ := num_first (okW_pos o)
  have hinf : inf w ≤ 32768 := by unfold inf; omega
  have hf : ice_game_first.f w (bys w) (prodI w) = some (numL w w, prodI w) := by
    unfold ice_game_first.f
    rw [w64 (by omega) (by omega), ew]
  have hb := numL_bd ow
  intro d
  induction d with
  | zero =>
    intro i hd hi hk
    obtain rfl : i = inf w := by omega
    have st : stable w (inf w) := stable_all (okW_pos o) (Nat.le_refl (prodI w).toNat)
    refine ⟨(0, 5), .inl ⟨hk, rfl⟩, ?_⟩
    have hk1 : K w (inf w + 1) w = true := (st w ow).trans hk
    refine Ev.step (f := fun k => (ice_game_before.f k w (bys w) (prodI w) (setL w (inf w))).bind fun bt110 => ((ice_game_first.f w (bys w) bt110.2).bind fun bt114 => (if 0 ≤ bt114.1 then (if bt114.1 < (bt110.1.length : Int) then (if rdOf false bt110.1 bt114.1 = true then ((slices_Equal_bool_bool.f k bt110.1 (setL w (inf w))).bind fun t117 => (if t117 = true then (some (0, 5)) else (ice_Lasts.l0 k bt110.1 (wrap64 ((inf w : Int) + 1)) w (bys w) bt114.2))) else (some ((inf w : Int), 0))) else (none)) else (none)))) (fun k => by rw [ice_Lasts.l0]) (Ev.bind (before_ev o (inf w)) ?_)
    simp only [hf, Option.bind_some, if_pos hb.1, if_pos (show numL w w < ((setL w (inf w + 1)).length : Int) by rw [setL_len]; omega), setL_rd ow, if_pos hk1]
    refine Ev.bind (setEq_ev o _ _) ?_
    rw [decide_eq_true ((setL_stable (okW_pos o)).2 st)]
    exact Ev.now _
  | succ d ih =>
    intro i hd hi hk
    by_cases hk1 : K w (i + 1) w = true
    · by_cases st : stable w i
      · refine ⟨(0, 5), .inl ⟨by rw [stable_eq st hi ow]; exact hk, rfl⟩, ?_⟩
        refine Ev.step (f := fun k => (ice_game_before.f k w (bys w) (prodI w) (setL w i)).bind fun bt110 => ((ice_game_first.f w (bys w) bt110.2).bind fun bt114 => (if 0 ≤ bt114.1 then (if bt114.1 < (bt110.1.length : Int) then (if rdOf false bt110.1 bt114.1 = true then ((slices_Equal_bool_bool.f k bt110.1 (setL w i)).bind fun t117 => (if t117 = true then (some (0, 5)) else (ice_Lasts.l0 k bt110.1 (wrap64 ((i : Int) + 1)) w (bys w) bt114.2))) else (some ((i : Int), 0))) else (none)) else (none)))) (fun k => by rw [ice_Lasts.l0]) (Ev.bind (before_ev o i) ?_)
        simp only [hf, Option.bind_some, if_pos hb.1, if_pos (show numL w w < ((setL w (i + 1)).length : Int) by rw [setL_len]; omega), setL_rd ow, if_pos hk1]
        refine Ev.bind (setEq_ev o _ _) ?_
        rw [decide_eq_true ((setL_stable (okW_pos o)).2 st)]
        exact Ev.now _
      · obtain ⟨r, hr, e⟩ := ih (i + 1) (by omega) (by omega) hk1
        refine ⟨r, hr, ?_⟩
        refine Ev.step (f := fun k => (ice_game_before.f k w (bys w) (prodI w) (setL w i)).bind fun bt110 => ((ice_game_first.f w (bys w) bt110.2).bind fun bt114 => (if 0 ≤ bt114.1 then (if bt114.1 < (bt110.1.length : Int) then (if rdOf false bt110.1 bt114.1 = true then ((slices_Equal_bool_bool.f k bt110.1 (setL w i)).bind fun t117 => (if t117 = true then (some (0, 5)) else (ice_Lasts.l0 k bt110.1 (wrap64 ((i : Int) + 1)) w (bys w) bt114.2))) else (some ((i : Int), 0))) else (none)) else (none)))) (fun k => by rw [ice_Lasts.l0]) (Ev.bind (before_ev o i) ?_)
        simp only [hf, Option.bind_some, if_pos hb.1, if_pos (show numL w w < ((setL w (i + 1)).length : Int) by rw [setL_len]; omega), setL_rd ow, if_pos hk1]
        refine Ev.bind (setEq_ev o _ _) ?_
        rw [decide_eq_false (fun z => st ((setL_stable (okW_pos o)).1 z)), wsucc i (by omega)]
        exact e
    · have hk1 : K w (i + 1) w = false := by simpa using hk1
      refine ⟨(i, 0), .inr ⟨not_ever o hk1, i, rfl, hi, hk, hk1⟩, ?_⟩
      refine Ev.step (f := fun k => (ice_game_before.f k w (bys w) (prodI w) (setL w i)).bind fun bt110 => ((ice_game_first.f w (bys w) bt110.2).bind fun bt114 => (if 0 ≤ bt114.1 then (if bt114.1 < (bt110.1.length : Int) then (if rdOf false bt110.1 bt114.1 = true then ((slices_Equal_bool_bool.f k bt110.1 (setL w i)).bind fun t117 => (if t117 = true then (some (0, 5)) else (ice_Lasts.l0 k bt110.1 (wrap64 ((i : Int) + 1)) w (bys w) bt114.2))) else (some ((i : Int), 0))) else (none)) else (none)))) (fun k => by rw [ice_Lasts.l0]) (Ev.bind (before_ev o i) ?_)
      simp only [hf, Option.bind_some, if_pos hb.1, if_pos (show numL w w < ((setL w (i + 1)).length : Int) by rw [setL_len]; omega), setL_rd ow, hk1]
      exact Ev.now _
theorem ice_Lasts_ev (w : List Int) : ∃ r, Ev (fun k => ice_Lasts.f k w) r ∧ (okW w → lastsS w r) ∧ (¬ okW w → r = (0, 80)) := by
  classical
  by_cases o : okW w
  · obtain ⟨r, hr, e⟩ := lasts_loop o (inf w) 0 (by omega) (by omega) rfl
    refine ⟨r, Ev.bind (ice_Valid_ev w) ?_, fun _ => hr, fun h => absurd o h⟩
    simp only [decide_eq_true o, if_true]
    refine Ev.bind (gameOf_ev o) ?_
    simp only [all_some o, Option.bind_some]
    exact e
  · refine ⟨(0, 80), Ev.bind (ice_Valid_ev w) ?_, fun h => absurd h o, fun _ => rfl⟩
    simp only [decide_eq_false o, Bool.false_eq_true, if_false]
    exact Ev.now _
theorem reflasts_loop {w : List Int} (o : okW w) {m : Nat} (st : stable w m) (hm : m ≤ inf w) : ∀ (d i : Nat), m + 1 - i = d → i ≤ m + 1 → (∀ j, j < i → K w j w = true) → ∃ r, lastsS w r ∧ Ev (fun k => dropperref08_Lasts.l0 k ((List.range (m + 1)).map (setB w)) (numB w w) (i : Int)) r := by
  obtain ⟨b1, b2⟩ := prodI_le o
  have ow := (num_first (okW_pos o)).1
  have hinf : inf w ≤ 32768 := by unfold inf; omega
  have nb := numB_bd ow
  have hl : (((List.range (m + 1)).map (setB w)).length : Int) = m + 1 := by rw [List.length_map, List.length_range]; omega
  intro d
  induction d with
  | zero =>
    intro i hd hi hk
    obtain rfl : i = m + 1 := by omega
    refine ⟨(0, 5), .inl ⟨by rw [stable_eq st hm ow]; exact hk m (by omega), rfl⟩, ev_some _ fun k => ?_⟩
    rw [dropperref08_Lasts.l0, if_neg (by rw [hl]; omega)]
  | succ d ih =>
    intro i hd hi hk
    by_cases c : K w i w = true
    · obtain ⟨r, hr, e⟩ := ih (i + 1) (by omega) (by omega) (fun j hj => by
        by_cases z : j = i
        · subst z; exact c
        · exact hk j (by omega))
      refine ⟨r, hr, Ev.step (f := fun k => dropperref08_Lasts.l0 k ((List.range (m + 1)).map (setB w)) (numB w w) ((i + 1 : Nat) : Int)) (fun k => ?_) e⟩
      rw [dropperref08_Lasts.l0, if_pos (by rw [hl]; omega), if_pos (by omega), if_pos nb.1, table_row (by omega), if_pos (by rw [setB_len]; omega), setB_rd ow, if_pos c, wsucc i (by omega)]
    · have c : K w i w = false := by simpa using c
      have i1 : 1 ≤ i := by
        rcases Nat.eq_zero_or_pos i with z | z
        · subst z; cases c
        · exact z
      refine ⟨((i - 1 : Nat), 0), .inr ⟨not_ever o c, i - 1, rfl, by omega, hk _ (by omega), by rw [show i - 1 + 1 = i by omega]; exact c⟩, ev_some _ fun k => ?_⟩
      rw [dropperref08_Lasts.l0, if_pos (by rw [hl]; omega), if_pos (by omega), if_pos nb.1, table_row (by omega), if_pos (by rw [setB_len]; omega), setB_rd ow, c, if_neg (by decide), w64 (by omega) (by omega), show (i : Int) - 1 = ((i - 1 : Nat) : Int) by omega]
theorem ref_Lasts_ev (w : List Int) (hl : w.length ≤ 9223372036854775807) : ∃ r, Ev (fun k => dropperref08_Lasts.f k w) r ∧ (okW w → lastsS w r) ∧ (¬ okW w → r = (0, 80)) := by
  classical
  by_cases o : okW w
  · obtain ⟨m, h1, h2, et⟩ := table_ev o
    obtain ⟨r, hr, e⟩ := reflasts_loop o h1 h2 (m + 1) 0 (by omega) (by omega) (fun j hj => by omega)
    refine ⟨r, Ev.bind (ref_Valid_ev w hl) ?_, fun _ => hr, fun h => absurd o h⟩
    simp only [decide_eq_true o, if_true]
    exact Ev.bind et (Ev.bind (refnum_ev o (num_first (okW_pos o)).1) e)
  · refine ⟨(0, 80), Ev.bind (ref_Valid_ev w hl) ?_, fun h => absurd h o, fun _ => rfl⟩
    simp only [decide_eq_false o, Bool.false_eq_true, if_false]
    exact Ev.now _
def isOrd (n : Nat) (o : List Int) : Prop := o.length = n ∧ (∀ j, j < n → 0 ≤ rd o (j : Int) ∧ rd o (j : Int) < n) ∧ (∀ i j, i < n → j < n → rd o (i : Int) = rd o (j : Int) → i = j) ∧ (∀ i, i < n → ∃ j, j < n ∧ rd o (j : Int) = i)
def idx (n : Nat) : List Int := (List.range n).map fun i : Nat => (i : Int)
theorem idx_rd {n j : Nat} (h : j < n) : rd (idx n) (j : Int) = j := by
  rw [rd_get (by simp [idx]; exact h)]
  simp [idx]
theorem idx_ord (n : Nat) : isOrd n (idx n) := by
  refine ⟨by simp [idx], fun j hj => ?_, fun i j hi hj e => ?_, fun i hi => ⟨i, hi, idx_rd hi⟩⟩
  · rw [idx_rd hj]; omega
  · rw [idx_rd hi, idx_rd hj] at e; omega
theorem cmp_val (a b : Int) : cmp_Compare_int.f a b = some (if a < b then -1 else if a > b then 1 else 0) := by
  unfold cmp_Compare_int.f cmp_isNaN_int.f
  simp only [Option.bind_some, bne_self_eq_false, Bool.false_eq_true, if_false]
  split
  · rfl
  · split <;> rfl
theorem rota1_val {w : List Int} {a b : Int} (ha : 0 ≤ a) (ha2 : a < w.length) (hb : 0 ≤ b) (hb2 : b < w.length) : ice_Rota_1.f a b w = some (if rd w a < rd w b then -1 else if rd w a > rd w b then 1 else 0) := by
  unfold ice_Rota_1.f
  rw [if_pos ha, if_pos ha2, if_pos hb, if_pos hb2, cmp_val]
  rfl
/-- Two neighbours change places. -/
def swp (o : List Int) (j : Nat) : List Int := (o.set (j + 1) (rd o (j : Int))).set j (rd o ((j + 1 : Nat) : Int))
def tr (j p : Nat) : Nat := if p = j then j + 1 else if p = j + 1 then j else p
theorem tr_lt {n j p : Nat} (hj : j + 1 < n) (hp : p < n) : tr j p < n := by unfold tr; split <;> (try split) <;> omega
theorem tr_tr (j p : Nat) : tr j (tr j p) = p := by unfold tr; split <;> (try split) <;> (try split) <;> (try split) <;> omega
theorem swp_len (o : List Int) (j : Nat) : (swp o j).length = o.length := by simp [swp]
theorem swp_rd {o : List Int} {j p : Nat} (hj : j + 1 < o.length) (hp : p < o.length) : rd (swp o j) (p : Int) = rd o ((tr j p : Nat) : Int) := by
  unfold swp
  rw [rd_set2 _ _ (by simp; omega) (by simpa using hp), rd_set2 _ _ hj hp]
  unfold tr
  by_cases h1 : p = j
  · rw [if_pos h1, if_pos h1]
  · rw [if_neg h1, if_neg h1]
    by_cases h2 : p = j + 1
    · rw [if_pos h2, if_pos h2]
    · rw [if_neg h2, if_neg h2]
theorem swp_ord {n : Nat} {o : List Int} {j : Nat} (h : isOrd n o) (hj : j + 1 < n) : isOrd n (swp o j) := by
  obtain ⟨l, b, i1, s⟩ := h
  subst l
  refine ⟨swp_len _ _, fun p hp => ?_, fun p q hp hq e => ?_, fun i hi => ?_⟩
  · rw [swp_rd hj hp]; exact b _ (tr_lt hj hp)
  · rw [swp_rd hj hp, swp_rd hj hq] at e
    have := i1 _ _ (tr_lt hj hp) (tr_lt hj hq) e
    rw [← tr_tr j p, ← tr_tr j q, this]
  · obtain ⟨q, hq, e⟩ := s i hi
    exact ⟨tr j q, tr_lt hj hq, by rw [swp_rd hj (tr_lt hj hq), tr_tr]; exact e⟩
/-- The entries of s in the order o. -/
def app (o s : List Int) : List Int := o.map fun i => rd s i
theorem app_len (o s : List Int) : (app o s).length = o.length := by simp [app]
theorem app_rd {o s : List Int} {j : Nat} (h : j < o.length) : rd (app o s) (j : Int) = rd s (rd o (j : Int)) := by
  rw [rd_get (by rw [app_len]; exact h), rd_get h]
  simp [app]
theorem swp_split {o : List Int} {j : Nat} (hj : j + 1 < o.length) : o = o.take j ++ rd o (j : Int) :: rd o ((j + 1 : Nat) : Int) :: o.drop (j + 2) ∧ swp o j = o.take j ++ rd o ((j + 1 : Nat) : Int) :: rd o (j : Int) :: o.drop (j + 2) := by
  have h1 : o = o.take j ++ rd o (j : Int) :: rd o ((j + 1 : Nat) : Int) :: o.drop (j + 2) := by
    rw [← rd_drop o (j + 1) hj, ← rd_drop o j (by omega), List.take_append_drop]
  refine ⟨h1, ?_⟩
  generalize hx : rd o (j : Int) = x at h1 ⊢
  generalize hy : rd o ((j + 1 : Nat) : Int) = y at h1 ⊢
  have hl : (o.take j).length = j := by rw [List.length_take]; omega
  unfold swp
  rw [hx, hy]
  generalize o.take j = a at h1 hl ⊢
  generalize o.drop (j + 2) = b at h1 ⊢
  subst h1
  rw [List.set_append_right _ _ (by omega), show j + 1 - a.length = 1 by omega, List.set_append_right _ _ (by omega), show j - a.length = 0 by omega]
  rfl
theorem swp_prod {o w : List Int} {j : Nat} (hj : j + 1 < o.length) : prodI (app (swp o j) w) = prodI (app o w) := by
  obtain ⟨h1, h2⟩ := swp_split hj
  rw [h2]
  conv => rhs; rw [h1]
  unfold app
  rw [List.map_append, List.map_append, prodI_append, prodI_append]
  simp only [List.map_cons, prodI]
  congr 1
  exact Int.mul_left_comm _ _ _
def gOrd (w : List Int) (n : Nat) (o : List Int) : Prop := isOrd n o ∧ prodI (app o w) = prodI w
theorem swp_gOrd {w : List Int} {n : Nat} {o : List Int} {j : Nat} (h : gOrd w n o) (hj : j + 1 < n) : gOrd w n (swp o j) := ⟨swp_ord h.1 hj, by rw [swp_prod (by rw [h.1.1]; exact hj)]; exact h.2⟩
theorem idx_gOrd (w : List Int) : gOrd w w.length (idx w.length) := by
  refine ⟨idx_ord _, ?_⟩
  have : app (idx w.length) w = w := by
    refine ext_rd (by rw [app_len]; simp [idx]) fun j hj => ?_
    rw [app_len] at hj
    rw [app_rd hj, idx_rd (by simpa [idx] using hj)]
  rw [this]
/-- The want at a place of the order. -/
def at_ (w o : List Int) (j : Nat) : Int := rd w (rd o (j : Int))
def sorted (w o : List Int) (i : Nat) : Prop := ∀ p q, p < q → q < i → at_ w o p ≤ at_ w o q
def but (w o : List Int) (i j : Nat) : Prop := (∀ p q, p < q → q ≤ i → p ≠ j → q ≠ j → at_ w o p ≤ at_ w o q) ∧ ∀ q, j < q → q ≤ i → at_ w o j ≤ at_ w o q
abbrev cmpW (w : List Int) : Int → Int → Option Int := fun a_ b_ => ice_Rota_1.f a_ b_ w
theorem ins_in {w : List Int} {n i : Nat} (hn : w.length = n) (hi : i < n) (h5 : n ≤ 20)
    (next : ∀ o, gOrd w n o → sorted w o (i + 1) → ∃ o', gOrd w n o' ∧ sorted w o' n ∧ Ev (fun k => slices_insertionSortCmpFunc_int.l0 k o 0 n (cmpW w) ((i + 1 : Nat) : Int)) o') :
    ∀ (j : Nat) (o : List Int), j ≤ i → gOrd w n o → but w o i j → ∃ o', gOrd w n o' ∧ sorted w o' n ∧ Ev (fun k => slices_insertionSortCmpFunc_int.l1 k o 0 n (cmpW w) i (j : Int)) o'
  | 0, o, hj, ho, hb => by
    obtain ⟨o', g1, g2, e⟩ := next o ho (fun p q hpq hq => by
      by_cases hp : p = 0
      · subst hp; exact hb.2 q (by omega) (by omega)
      · exact hb.1 p q hpq (by omega) hp (by omega))
    refine ⟨o', g1, g2, Ev.step (f := fun k => slices_insertionSortCmpFunc_int.l0 k o 0 n (cmpW w) ((i + 1 : Nat) : Int)) (fun k => ?_) e⟩
    rw [slices_insertionSortCmpFunc_int.l1, if_neg (by omega), wsucc i (by omega)]
  | j + 1, o, hj, ho, hb => by
    obtain ⟨l, b, i1, s⟩ := ho.1
    have b1 := b (j + 1) (by omega)
    have b0 := b j (by omega)
    have hw : wrap64 (((j + 1 : Nat) : Int) - 1) = (j : Int) := wpred j (by omega)
    have hc := rota1_val (w := w) (a := rd o ((j + 1 : Nat) : Int)) (b := rd o (j : Int)) b1.1 (by omega) b0.1 (by omega)
    by_cases c : at_ w o (j + 1) < at_ w o j
    · obtain ⟨o', g1, g2, e⟩ := ins_in hn hi h5 next j (swp o j) (by omega) (swp_gOrd ho (by omega)) (by
        have hat : ∀ p, p ≤ i → at_ w (swp o j) p = at_ w o (tr j p) := fun p hp => by
          unfold at_; rw [swp_rd (by omega) (by omega)]
        have t0 : tr j j = j + 1 := by unfold tr; rw [if_pos rfl]
        have t1 : tr j (j + 1) = j := by unfold tr; rw [if_neg (by omega), if_pos rfl]
        have t2 : ∀ p, p ≠ j → p ≠ j + 1 → tr j p = p := fun p h1 h2 => by unfold tr; rw [if_neg h1, if_neg h2]
        refine ⟨fun p q hpq hq hp hq' => ?_, fun q hq hqi => ?_⟩
        · rw [hat p (by omega), hat q hq]
          by_cases h1 : p = j + 1
          · subst h1
            rw [t1, t2 q hq' (by omega)]
            exact hb.1 j q (by omega) hq (by omega) (by omega)
          · rw [t2 p hp h1]
            by_cases h2 : q = j + 1
            · subst h2
              rw [t1]
              exact hb.1 p j (by omega) (by omega) h1 (by omega)
            · rw [t2 q hq' h2]
              exact hb.1 p q hpq hq h1 h2
        · rw [hat j (by omega), hat q hqi, t0]
          by_cases h2 : q = j + 1
          · subst h2
            rw [t1]
            omega
          · rw [t2 q (by omega) h2]
            exact hb.2 q (by omega) hqi)
      refine ⟨o', g1, g2, Ev.step (f := fun k => slices_insertionSortCmpFunc_int.l1 k (swp o j) 0 n (cmpW w) i (j : Int)) (fun k => ?_) e⟩
      rw [slices_insertionSortCmpFunc_int.l1, if_pos (by omega), if_pos (by omega), if_pos (by omega), hw, if_pos (by omega), if_pos (by omega)]
      show (ice_Rota_1.f _ _ w).bind _ = _
      rw [hc]
      simp only [Option.bind_some]
      rw [if_pos (show (if rd w (rd o ((j + 1 : Nat) : Int)) < rd w (rd o (j : Int)) then (-1 : Int) else _) < 0 by rw [if_pos (show rd w (rd o ((j + 1 : Nat) : Int)) < rd w (rd o (j : Int)) from c)]; decide)]
      rfl
    · obtain ⟨o', g1, g2, e⟩ := next o ho (fun p q hpq hq => by
        have c' : at_ w o j ≤ at_ w o (j + 1) := by unfold at_ at c ⊢; omega
        by_cases hp : p = j + 1
        · subst hp; exact hb.2 q hpq (by omega)
        · by_cases hq' : q = j + 1
          · subst hq'
            by_cases hpj : p = j
            · subst hpj; exact c'
            · exact Int.le_trans (hb.1 p j (by omega) (by omega) hp (by omega)) c'
          · exact hb.1 p q hpq (by omega) hp hq')
      refine ⟨o', g1, g2, Ev.step (f := fun k => slices_insertionSortCmpFunc_int.l0 k o 0 n (cmpW w) ((i + 1 : Nat) : Int)) (fun k => ?_) e⟩
      rw [slices_insertionSortCmpFunc_int.l1, if_pos (by omega), if_pos (by omega), if_pos (by omega), hw, if_pos (by omega), if_pos (by omega)]
      show (ice_Rota_1.f _ _ w).bind _ = _
      rw [hc]
      simp only [Option.bind_some]
      rw [if_neg (show ¬ (if rd w (rd o ((j + 1 : Nat) : Int)) < rd w (rd o (j : Int)) then (-1 : Int) else if rd w (rd o ((j + 1 : Nat) : Int)) > rd w (rd o (j : Int)) then 1 else 0) < 0 by rw [if_neg (show ¬ rd w (rd o ((j + 1 : Nat) : Int)) < rd w (rd o (j : Int)) from c)]; split <;> decide), wsucc i (by omega)]
theorem ins_out {w : List Int} {n : Nat} (hn : w.length = n) (h5 : n ≤ 20) : ∀ (d i : Nat) (o : List Int), n - i = d → 1 ≤ i → gOrd w n o → sorted w o i → ∃ o', gOrd w n o' ∧ sorted w o' n ∧ Ev (fun k => slices_insertionSortCmpFunc_int.l0 k o 0 n (cmpW w) (i : Int)) o'
  | 0, i, o, hd, h1, ho, hs => ⟨o, ho, fun p q hpq hq => hs p q hpq (by omega), ev_some _ fun k => by rw [slices_insertionSortCmpFunc_int.l0, if_neg (by omega)]⟩
  | d + 1, i, o, hd, h1, ho, hs => by
    obtain ⟨o', g1, g2, e⟩ := ins_in hn (i := i) (by omega) h5 (fun o2 h2 s2 => ins_out hn h5 d (i + 1) o2 (by omega) (by omega) h2 s2) i o (Nat.le_refl _) ho ⟨fun p q hpq hq hp hq' => hs p q hpq (by omega), fun q hq hqi => by omega⟩
    exact ⟨o', g1, g2, Ev.step (f := fun k => slices_insertionSortCmpFunc_int.l1 k o 0 n (cmpW w) i (i : Int)) (fun k => by rw [slices_insertionSortCmpFunc_int.l0, if_pos (by omega)]) e⟩
theorem sort_ev {w : List Int} {n : Nat} (hn : w.length = n) (h5 : n ≤ 5) (h1 : 1 ≤ n) {o : List Int} (ho : gOrd w n o) : ∃ o', gOrd w n o' ∧ sorted w o' n ∧ Ev (fun k => slices_SortStableFunc_int_int.f k o (cmpW w)) o' := by
  obtain ⟨o', g1, g2, e⟩ := ins_out hn (by omega) (n - 1) 1 o (by omega) (Nat.le_refl _) ho (fun p q hpq hq => by omega)
  refine ⟨o', g1, g2, ?_⟩
  have e1 : Ev (fun k => slices_insertionSortCmpFunc_int.f k o 0 n (cmpW w)) o' := Ev.congr (fun k => by unfold slices_insertionSortCmpFunc_int.f; rw [show wrap64 ((0 : Int) + 1) = ((1 : Nat) : Int) from wsucc 0 (by omega)]) e
  have e2 : Ev (fun k => slices_stableCmpFunc_int.f k o n (cmpW w)) o' := by
    refine Ev.step (f := fun k => (slices_insertionSortCmpFunc_int.f k o 0 n (cmpW w)).bind fun t102 => (slices_stableCmpFunc_int.l1 k t102 n (cmpW w) 20)) (fun k => ?_) (Ev.bind e1 (ev_some _ fun k => ?_))
    · show slices_stableCmpFunc_int.l0 (k + 1) o n (cmpW w) 20 0 20 = _
      rw [slices_stableCmpFunc_int.l0, if_neg (by omega)]
    · rw [slices_stableCmpFunc_int.l1, if_neg (by omega)]
  have l := ho.1.1
  refine Ev.congr (fun k => ?_) (Ev.bind e2 (Ev.now o'))
  unfold slices_SortStableFunc_int_int.f
  rw [l]
def certs : List (List Int × List Int) := [
  ([1], [0]),
  ([2], [0]),
  ([3], [0]),
  ([4], [0]),
  ([5], [0]),
  ([6], [0]),
  ([7], [0]),
  ([8], [0]),
  ([2, 2], [0, 1, 0]),
  ([2, 3], [0, 0, 1, 0]),
  ([2, 4], [0, 0, 0, 1, 0]),
  ([2, 5], [0, 0, 0, 0, 1, 0]),
  ([2, 6], [0, 0, 0, 0, 0, 1, 0]),
  ([2, 7], [0, 0, 0, 0, 0, 0, 1, 0]),
  ([2, 8], [0, 0, 0, 0, 0, 0, 0, 1, 0]),
  ([3, 3], [0, 1, 0]),
  ([3, 4], [0, 0, 1, 0]),
  ([3, 5], [0, 0, 0, 1, 0]),
  ([3, 6], [0, 0, 0, 0, 1, 0]),
  ([3, 7], [0, 0, 0, 0, 0, 1, 0]),
  ([3, 8], [0, 0, 0, 0, 0, 0, 1, 0]),
  ([4, 4], [0, 1, 0]),
  ([4, 5], [0, 0, 1, 0]),
  ([4, 6], [0, 0, 0, 1, 0]),
  ([4, 7], [0, 0, 0, 0, 1, 0]),
  ([4, 8], [0, 0, 0, 0, 0, 1, 0]),
  ([5, 5], [0, 1, 0]),
  ([5, 6], [0, 0, 1, 0]),
  ([5, 7], [0, 0, 0, 1, 0]),
  ([5, 8], [0, 0, 0, 0, 1, 0]),
  ([6, 6], [0, 1, 0]),
  ([6, 7], [0, 0, 1, 0]),
  ([6, 8], [0, 0, 0, 1, 0]),
  ([7, 7], [0, 1, 0]),
  ([7, 8], [0, 0, 1, 0]),
  ([8, 8], [0, 1, 0]),
  ([2, 4, 4], [0, 1, 0, 2, 0, 1]),
  ([2, 4, 5], [0, 0, 1, 0, 2, 0, 1, 0, 2]),
  ([2, 4, 6], [0, 0, 0, 1, 0, 2, 0, 1, 0, 1]),
  ([2, 4, 7], [0, 0, 0, 1, 0, 2, 0, 1, 0, 0, 1, 0, 2]),
  ([2, 4, 8], [0, 0, 0, 1, 0, 1, 0, 2, 0, 1, 0, 0, 0, 1]),
  ([2, 5, 5], [0, 0, 1, 0, 2, 0, 0, 1]),
  ([2, 5, 6], [0, 0, 0, 1, 0, 2, 0, 0, 1, 0, 0, 2, 0, 1, 0, 0, 2]),
  ([2, 5, 7], [0, 0, 0, 0, 1, 0, 2, 0, 0, 1, 0, 0, 2, 0, 1, 0, 0, 1]),
  ([2, 5, 8], [0, 0, 0, 0, 1, 0, 0, 2, 0, 1, 0, 0, 0, 1, 0, 2, 0, 0, 1, 0, 0, 1]),
  ([2, 6, 6], [0, 0, 0, 1, 0, 2, 0, 0, 0, 1]),
  ([2, 6, 7], [0, 0, 0, 0, 1, 0, 2, 0, 0, 0, 1, 0, 0, 2, 0, 0, 1, 0, 0, 0, 2, 0, 1, 0, 0, 0, 2]),
  ([2, 6, 8], [0, 0, 0, 0, 0, 1, 0, 2, 0, 0, 0, 1, 0, 0, 0, 2, 0, 1, 0, 0, 0, 1]),
  ([2, 7, 7], [0, 0, 0, 0, 1, 0, 2, 0, 0, 0, 0, 1]),
  ([2, 7, 8], [0, 0, 0, 0, 0, 1, 0, 2, 0, 0, 0, 0, 1, 0, 0, 2, 0, 0, 0, 1, 0, 0, 0, 2, 0, 0, 1, 0, 0, 0, 0, 2, 0, 1, 0, 0, 0, 0, 2]),
  ([2, 8, 8], [0, 0, 0, 0, 0, 1, 0, 2, 0, 0, 0, 0, 0, 1]),
  ([3, 3, 3], [0, 1, 2, 0, 1]),
  ([3, 3, 4], [0, 1, 0, 2, 1, 0, 1, 2, 0, 1]),
  ([3, 3, 5], [0, 1, 0, 1, 2, 0, 1]),
  ([3, 3, 6], [0, 1, 0, 1, 0, 2, 1, 0, 1, 0, 1, 2, 0, 1]),
  ([3, 3, 7], [0, 1, 0, 1, 0, 1, 2, 0, 1]),
  ([3, 3, 8], [0, 1, 0, 1, 0, 1, 0, 2, 1, 0, 1, 0, 1, 0, 1, 2, 0, 1]),
  ([3, 4, 4], [0, 0, 1, 2, 0, 1, 0, 2, 0, 1]),
  ([3, 4, 5], [0, 0, 1, 0, 2, 0, 1, 0, 2]),
  ([3, 4, 6], [0, 0, 1, 0, 2, 0, 1, 0, 0, 1, 2, 0, 1]),
  ([3, 4, 7], [0, 0, 1, 0, 0, 1, 2, 0, 1, 0, 0, 1, 0, 2, 0, 1]),
  ([3, 4, 8], [0, 0, 1, 0, 0, 1, 0, 2, 0, 1, 0, 0, 1, 0, 2]),
  ([3, 5, 5], [0, 0, 0, 1, 2, 0, 0, 1, 0, 2, 0, 1, 0, 2]),
  ([3, 5, 6], [0, 0, 0, 1, 0, 2, 0, 1, 0, 0, 2, 0, 1]),
  ([3, 5, 7], [0, 0, 0, 1, 0, 2, 0, 1, 0, 0, 0, 1, 2, 0, 0, 1, 0, 0, 2, 0, 1]),
  ([3, 5, 8], [0, 0, 0, 1, 0, 0, 2, 0, 1, 0, 0, 0, 1, 0, 2, 0, 1]),
  ([3, 6, 6], [0, 0, 0, 0, 1, 2, 0, 0, 0, 1, 0, 2, 0, 0, 1, 0, 2]),
  ([3, 6, 7], [0, 0, 0, 0, 1, 0, 2, 0, 0, 1, 0, 0, 2, 0, 1, 0, 0, 0, 2, 0, 1]),
  ([3, 6, 8], [0, 0, 0, 0, 1, 0, 2, 0, 0, 1, 0, 0, 0, 2, 0, 1, 0, 0, 0, 0, 1, 2, 0, 0, 0, 1, 0, 0, 2, 0, 1]),
  ([3, 7, 7], [0, 0, 0, 0, 0, 1, 2, 0, 0, 0, 0, 1, 0, 2, 0, 0, 0, 1, 0, 2]),
  ([3, 7, 8], [0, 0, 0, 0, 0, 1, 0, 2, 0, 0, 0, 1, 0, 0, 2, 0, 0, 1, 0, 0, 0, 2, 0, 1, 0, 0, 0, 0, 2, 0, 1]),
  ([3, 8, 8], [0, 0, 0, 0, 0, 0, 1, 2, 0, 0, 0, 0, 0, 1, 0, 2, 0, 0, 0, 0, 1, 0, 2]),
  ([4, 4, 4], [0, 1, 2, 0, 1]),
  ([4, 4, 5], [0, 1, 0, 2, 1, 0, 1, 2, 0, 1]),
  ([4, 4, 6], [0, 1, 0, 1, 2, 0, 1]),
  ([4, 4, 7], [0, 1, 0, 1, 0, 2, 1, 0, 1, 0, 1, 2, 0, 1]),
  ([4, 4, 8], [0, 1, 0, 1, 0, 1, 2, 0, 1]),
  ([4, 5, 5], [0, 0, 1, 2, 0, 1, 0, 2, 0, 1]),
  ([4, 5, 6], [0, 0, 1, 0, 2, 0, 1, 0, 2]),
  ([4, 5, 7], [0, 0, 1, 0, 2, 0, 1, 0, 0, 1, 2, 0, 1]),
  ([4, 5, 8], [0, 0, 1, 0, 0, 1, 2, 0, 1, 0, 0, 1, 0, 2, 0, 1]),
  ([4, 6, 6], [0, 0, 0, 1, 2, 0, 0, 1, 0, 2, 0, 1, 0, 2]),
  ([4, 6, 7], [0, 0, 0, 1, 0, 2, 0, 1, 0, 0, 2, 0, 1]),
  ([4, 6, 8], [0, 0, 0, 1, 0, 2, 0, 1, 0, 0, 0, 1, 2, 0, 0, 1, 0, 0, 2, 0, 1]),
  ([4, 7, 7], [0, 0, 0, 0, 1, 2, 0, 0, 0, 1, 0, 2, 0, 0, 1, 0, 2]),
  ([4, 7, 8], [0, 0, 0, 0, 1, 0, 2, 0, 0, 1, 0, 0, 2, 0, 1, 0, 0, 0, 2, 0, 1]),
  ([4, 8, 8], [0, 0, 0, 0, 0, 1, 2, 0, 0, 0, 0, 1, 0, 2, 0, 0, 0, 1, 0, 2]),
  ([5, 5, 5], [0, 1, 2, 0, 1]),
  ([5, 5, 6], [0, 1, 0, 2, 1, 0, 1, 2, 0, 1]),
  ([5, 5, 7], [0, 1, 0, 1, 2, 0, 1]),
  ([5, 5, 8], [0, 1, 0, 1, 0, 2, 1, 0, 1, 0, 1, 2, 0, 1]),
  ([5, 6, 6], [0, 0, 1, 2, 0, 1, 0, 2, 0, 1]),
  ([5, 6, 7], [0, 0, 1, 0, 2, 0, 1, 0, 2]),
  ([5, 6, 8], [0, 0, 1, 0, 2, 0, 1, 0, 0, 1, 2, 0, 1]),
  ([5, 7, 7], [0, 0, 0, 1, 2, 0, 0, 1, 0, 2, 0, 1, 0, 2]),
  ([5, 7, 8], [0, 0, 0, 1, 0, 2, 0, 1, 0, 0, 2, 0, 1]),
  ([5, 8, 8], [0, 0, 0, 0, 1, 2, 0, 0, 0, 1, 0, 2, 0, 0, 1, 0, 2]),
  ([6, 6, 6], [0, 1, 2, 0, 1]),
  ([6, 6, 7], [0, 1, 0, 2, 1, 0, 1, 2, 0, 1]),
  ([6, 6, 8], [0, 1, 0, 1, 2, 0, 1]),
  ([6, 7, 7], [0, 0, 1, 2, 0, 1, 0, 2, 0, 1]),
  ([6, 7, 8], [0, 0, 1, 0, 2, 0, 1, 0, 2]),
  ([6, 8, 8], [0, 0, 0, 1, 2, 0, 0, 1, 0, 2, 0, 1, 0, 2]),
  ([7, 7, 7], [0, 1, 2, 0, 1]),
  ([7, 7, 8], [0, 1, 0, 2, 1, 0, 1, 2, 0, 1]),
  ([7, 8, 8], [0, 0, 1, 2, 0, 1, 0, 2, 0, 1]),
  ([8, 8, 8], [0, 1, 2, 0, 1]),
  ([2, 4, 8, 8], [0, 1, 0, 2, 0, 1, 0, 3, 0, 1, 0, 2]),
  ([2, 5, 8, 8], [0, 0, 2, 0, 1, 0, 3, 0, 1, 0, 2, 0, 1, 0, 3]),
  ([2, 6, 6, 6], [0, 1, 0, 2, 0, 3, 0, 1, 0, 2]),
  ([2, 6, 6, 7], [0, 0, 1, 0, 2, 0, 3, 0, 1, 0, 2, 0, 3]),
  ([2, 6, 6, 8], [0, 0, 0, 1, 0, 2, 0, 3, 0, 1, 0, 2, 0, 1, 0, 3, 0, 2, 0, 1, 0, 2]),
  ([2, 6, 7, 7], [0, 0, 1, 0, 2, 0, 3, 0, 1, 0, 2, 0, 3]),
  ([2, 6, 7, 8], [0, 0, 0, 1, 0, 2, 0, 3, 0, 1, 0, 2, 0, 1, 0, 3, 0, 2, 0, 1, 0, 3]),
  ([2, 6, 8, 8], [0, 0, 0, 1, 0, 2, 0, 3, 0, 1, 0, 2, 0, 1, 0, 3, 0, 1, 0, 2]),
  ([2, 7, 7, 7], [0, 0, 1, 0, 2, 0, 3, 0, 0, 1, 0, 2]),
  ([2, 7, 7, 8], [0, 0, 0, 1, 0, 2, 0, 3, 0, 0, 1, 0, 2, 0, 0, 3, 0, 1, 0, 2, 0, 0, 3]),
  ([2, 7, 8, 8], [0, 0, 0, 1, 0, 2, 0, 3, 0, 0, 1, 0, 0, 2, 0, 3, 0, 1, 0, 0, 2, 0, 3]),
  ([2, 8, 8, 8], [0, 0, 0, 1, 0, 2, 0, 3, 0, 0, 0, 1, 0, 2]),
  ([3, 3, 6, 6], [0, 1, 2, 0, 1, 3, 0, 1, 2]),
  ([3, 3, 6, 7], [0, 1, 0, 2, 1, 0, 3, 1, 0, 2, 1, 0, 3]),
  ([3, 3, 6, 8], [0, 1, 0, 1, 2, 0, 1, 3, 0, 1, 2, 0, 1, 3]),
  ([3, 3, 7, 7], [0, 1, 0, 2, 1, 0, 3, 1, 0, 1, 2, 0, 1, 3, 0, 1, 0, 2]),
  ([3, 3, 7, 8], [0, 1, 0, 1, 2, 0, 1, 3, 0, 1, 0, 2, 1, 0, 1, 3, 0, 1, 2, 0, 1, 0, 3, 1, 0, 2, 1, 0, 1, 3]),
  ([3, 3, 8, 8], [0, 1, 0, 1, 2, 0, 1, 3, 0, 1, 0, 1, 2]),
  ([3, 4, 5, 8], [0, 0, 1, 0, 2, 0, 1, 3, 0, 2, 1, 0, 1, 2, 0, 3, 1, 0, 2, 0, 1, 2]),
  ([3, 4, 6, 6], [0, 0, 1, 2, 0, 3, 1, 0, 2, 0, 1, 3, 0, 1, 2, 0, 1]),
  ([3, 4, 6, 7], [0, 0, 1, 2, 0, 1, 3, 0, 1, 2, 0, 1, 3]),
  ([3, 4, 6, 8], [0, 0, 1, 0, 2, 0, 1, 3, 0, 1, 2, 0, 1, 3]),
  ([3, 4, 7, 7], [0, 0, 1, 2, 0, 1, 3, 0, 1, 0, 2, 0, 1]),
  ([3, 4, 7, 8], [0, 0, 1, 0, 1, 2, 0, 3, 1, 0, 0, 1, 2, 0, 1, 3, 0, 1, 0, 2, 0, 1, 0, 3, 0, 1, 2, 0, 1, 0, 3]),
  ([3, 4, 8, 8], [0, 0, 1, 0, 1, 2, 0, 3, 1, 0, 0, 1, 2, 0, 1, 3, 0, 1, 0, 2, 0, 1, 0, 3, 0, 1, 0, 2]),
  ([3, 5, 5, 5], [0, 1, 0, 2, 3, 0, 1, 0, 2]),
  ([3, 5, 5, 6], [0, 0, 1, 0, 2, 3, 0, 1, 0, 2, 0, 3, 1, 0, 2, 0, 1, 3, 0, 2, 0, 1, 0, 3, 2, 0, 1, 0, 2]),
  ([3, 5, 5, 7], [0, 0, 0, 1, 2, 0, 3, 0, 1, 2, 0, 1, 0, 3, 2, 0, 1, 0, 2, 0, 3, 1, 0, 2, 0, 1]),
  ([3, 5, 5, 8], [0, 0, 0, 1, 2, 0, 3, 0, 1, 2, 0, 1, 0, 2, 3, 0, 1, 0, 2, 0, 1, 0, 3, 2, 0, 1, 0, 2, 0, 1, 3, 0, 2, 0, 1, 0, 2, 0, 3, 1, 0, 2, 0, 1]),
  ([3, 5, 6, 6], [0, 0, 1, 0, 2, 3, 0, 1, 0, 2, 0, 3, 1, 0, 2, 0, 1, 3, 0, 2, 0, 1, 0, 3, 0, 2, 1, 0, 3, 0, 1, 2, 0, 3, 0, 1, 0, 2]),
  ([3, 5, 6, 7], [0, 0, 0, 1, 0, 2, 3, 0, 1, 0, 2, 0, 1, 3, 0, 2, 0, 1, 0, 3, 0, 2, 1, 0, 3, 0, 1, 2, 0, 0, 1, 3, 0, 2]),
  ([3, 5, 6, 8], [0, 0, 0, 1, 0, 2, 0, 3, 1, 0, 2, 0, 1, 0, 3, 0, 2, 1, 0, 1, 0, 2, 3, 0, 1, 0, 2, 0, 1, 0, 3]),
  ([3, 5, 7, 7], [0, 0, 0, 1, 0, 2, 3, 0, 1, 0, 2, 0, 1, 3, 0, 0, 1, 2, 0, 3, 0, 1, 0, 2]),
  ([3, 5, 7, 8], [0, 0, 0, 1, 0, 2, 0, 3, 1, 0, 0, 2, 0, 1, 0, 3, 0, 1, 2, 0, 0, 1, 0, 3, 0, 2, 1, 0, 0, 1, 0, 3, 2, 0, 1, 0, 1, 0, 2, 3, 0, 1, 0, 0, 2, 0, 1, 3, 0, 0, 1, 2, 0, 0, 1, 3, 0, 2, 0, 1, 0, 3]),
  ([3, 5, 8, 8], [0, 0, 0, 1, 0, 2, 0, 3, 1, 0, 0, 0, 1, 2, 0, 3, 0, 1, 0, 0, 2, 0, 1, 3, 0, 0, 1, 0, 2, 0, 1]),
  ([3, 6, 6, 6], [0, 0, 1, 0, 2, 3, 0, 1, 0, 2, 0, 3, 0, 1, 0, 2]),
  ([3, 6, 6, 7], [0, 0, 0, 1, 0, 2, 3, 0, 1, 0, 2, 0, 3, 0, 1, 0, 2]),
  ([3, 6, 6, 8], [0, 0, 0, 0, 1, 2, 0, 3, 0, 1, 0, 2, 0, 0, 1, 3, 0, 2, 0, 1, 0, 0, 2, 3, 0, 1, 0, 2]),
  ([3, 6, 7, 7], [0, 0, 0, 1, 0, 2, 3, 0, 1, 0, 0, 2, 0, 3, 1, 0, 0, 2, 0, 1, 3, 0, 0, 2, 0, 1, 0, 3, 0, 2, 0, 1, 0, 3]),
  ([3, 6, 7, 8], [0, 0, 0, 0, 1, 0, 2, 3, 0, 1, 0, 0, 2, 0, 1, 3, 0, 0, 2, 0, 1, 0, 3, 0, 2, 0, 1, 0, 0, 3, 0, 2, 1, 0, 0, 3, 0, 1, 2, 0, 0, 0, 1, 3, 0, 2, 0, 1]),
  ([3, 6, 8, 8], [0, 0, 0, 0, 1, 0, 2, 3, 0, 1, 0, 0, 2, 0, 1, 3, 0, 0, 0, 1, 2, 0, 3, 0, 1, 0, 0, 2]),
  ([3, 7, 7, 7], [0, 0, 0, 1, 0, 2, 3, 0, 0, 1, 0, 2, 0, 3, 0, 1, 0, 2, 0, 3]),
  ([3, 7, 7, 8], [0, 0, 0, 0, 1, 0, 2, 3, 0, 0, 1, 0, 2, 0, 3, 0, 1, 0, 2, 0, 0, 3, 0, 1, 0, 2]),
  ([3, 7, 8, 8], [0, 0, 0, 0, 1, 0, 2, 3, 0, 0, 1, 0, 0, 2, 0, 3, 0, 1, 0, 0, 2, 0, 3]),
  ([3, 8, 8, 8], [0, 0, 0, 0, 1, 0, 2, 3, 0, 0, 0, 1, 0, 2, 0, 3, 0, 0, 1, 0, 2, 0, 3]),
  ([4, 4, 4, 4], [0, 1, 2, 3, 0, 1, 2]),
  ([4, 4, 4, 5], [0, 1, 2, 0, 3, 1, 2, 0, 1, 3, 2, 0, 1, 2, 3, 0, 1, 2]),
  ([4, 4, 4, 6], [0, 1, 2, 0, 1, 3, 2, 0, 1, 2, 0, 3, 1, 2, 0, 1, 2, 3, 0, 1, 2]),
  ([4, 4, 4, 7], [0, 1, 2, 0, 1, 2, 3, 0, 1, 2]),
  ([4, 4, 4, 8], [0, 1, 2, 0, 1, 2, 0, 3, 1, 2, 0, 1, 2, 0, 1, 3, 2, 0, 1, 2, 0, 1, 2, 3, 0, 1, 2]),
  ([4, 4, 5, 5], [0, 1, 0, 2, 3, 1, 0, 2, 1, 3, 0, 1, 2, 0, 3, 1, 0, 2]),
  ([4, 4, 5, 6], [0, 1, 0, 2, 1, 3, 0, 1, 2, 0, 1, 3, 0, 2, 1, 0, 3, 1, 2, 0, 1, 3]),
  ([4, 4, 5, 7], [0, 1, 0, 2, 1, 0, 3, 1, 2, 0, 1, 0, 2, 3, 1, 0, 2, 1, 0, 3]),
  ([4, 4, 5, 8], [0, 1, 0, 2, 1, 0, 3, 1, 2, 0, 1, 0, 2, 1, 3, 0, 1, 2, 0, 1, 0, 2, 3, 1, 0, 2, 1, 0, 1, 2, 3, 0, 1, 2]),
  ([4, 4, 6, 6], [0, 1, 0, 1, 2, 3, 0, 1, 0, 2, 1, 3, 0, 1, 2, 0, 1, 3, 0, 1, 2]),
  ([4, 4, 6, 7], [0, 1, 0, 1, 2, 0, 3, 1, 0, 2, 1, 0, 3, 1, 0, 2]),
  ([4, 4, 6, 8], [0, 1, 0, 1, 2, 0, 1, 3, 0, 1, 2, 0, 1, 0, 3, 1, 2, 0, 1, 0, 1, 2, 3, 0, 1, 0, 2, 1, 0, 3, 1, 0, 2, 1, 0, 1, 3, 0, 2, 1, 0, 1, 0, 2, 3, 1, 0, 1, 2, 0, 1, 3]),
  ([4, 4, 7, 7], [0, 1, 0, 1, 0, 2, 3, 1, 0, 1, 0, 2, 1, 3, 0, 1, 0, 2, 1, 0, 3, 1, 0, 2, 1, 0, 3]),
  ([4, 4, 7, 8], [0, 1, 0, 1, 0, 2, 1, 3, 0, 1, 0, 2, 1, 0, 3, 1, 0, 2, 1, 0, 1, 3, 0, 1, 2, 0, 1, 0, 3, 1, 0, 2]),
  ([4, 4, 8, 8], [0, 1, 0, 1, 0, 1, 2, 3, 0, 1, 0, 1, 0, 2, 1, 3, 0, 1, 0, 1, 2, 0, 1, 3, 0, 1, 0, 2, 1, 0, 3, 1, 0, 1, 2, 0, 1, 3]),
  ([4, 5, 5, 5], [0, 0, 1, 2, 3, 0, 1, 2, 0, 3, 1, 0, 2, 3, 0, 1]),
  ([4, 5, 5, 6], [0, 0, 1, 2, 0, 3, 1, 0, 2, 0, 1, 3, 0, 2, 1, 0, 3, 2, 0, 1, 0, 2, 3, 0, 1, 2, 0, 3]),
  ([4, 5, 5, 7], [0, 0, 1, 2, 0, 3, 1, 0, 2, 0, 1, 3, 0, 2, 1, 0, 2, 3, 0, 1, 2, 0, 1]),
  ([4, 5, 5, 8], [0, 0, 1, 2, 0, 1, 3, 0, 2, 1, 0, 2, 0, 1, 3]),
  ([4, 5, 6, 6], [0, 0, 1, 0, 2, 3, 0, 1, 0, 2, 3]),
  ([4, 5, 6, 7], [0, 0, 1, 0, 2, 3, 0, 1, 0, 2, 0, 1, 3, 0, 2, 1, 0, 3, 0, 1, 2, 0, 1, 3]),
  ([4, 5, 6, 8], [0, 0, 1, 0, 2, 0, 1, 3, 0, 2, 1, 0, 0, 1, 2, 3, 0, 1, 0, 2, 0, 1, 3]),
  ([4, 5, 7, 7], [0, 0, 1, 0, 2, 3, 0, 1, 0, 2, 0, 1, 3, 0, 1, 2, 0, 1, 3]),
  ([4, 5, 7, 8], [0, 0, 1, 0, 2, 0, 1, 3, 0, 1, 2, 0, 1, 0, 3, 0, 1, 2]),
  ([4, 5, 8, 8], [0, 0, 1, 0, 0, 1, 2, 3, 0, 1, 0, 0, 1, 2, 0, 3, 1, 0, 0, 1, 2, 0, 3]),
  ([4, 6, 6, 6], [0, 0, 0, 1, 2, 3, 0, 1, 0, 2, 3, 0, 1]),
  ([4, 6, 6, 7], [0, 0, 0, 1, 2, 0, 3, 0, 1, 2, 0, 3]),
  ([4, 6, 6, 8], [0, 0, 0, 1, 2, 0, 3, 0, 1, 2, 0, 0, 1, 3, 0, 2, 0, 1, 0, 2, 3, 0, 1, 0, 2, 0, 1, 3, 0, 2]),
  ([4, 6, 7, 7], [0, 0, 0, 1, 0, 2, 3, 0, 1, 0, 2, 0, 3, 1, 0, 2, 0, 1, 3, 0, 2, 0, 1, 0, 3, 0, 2, 1, 0, 3, 0, 1, 2, 0, 3, 0, 1, 0, 2]),
  ([4, 6, 7, 8], [0, 0, 0, 1, 0, 2, 3, 0, 1, 0, 2, 0, 1, 3, 0, 2, 0, 1, 0, 3, 0, 2, 1, 0, 0, 3, 0, 1, 2, 0, 0, 1, 3, 0, 2]),
  ([4, 6, 8, 8], [0, 0, 0, 1, 0, 2, 3, 0, 1, 0, 0, 2, 0, 1, 3, 0, 0, 1, 2, 0, 3, 0, 1, 0, 2, 0, 1, 3]),
  ([4, 7, 7, 7], [0, 0, 0, 0, 1, 2, 3, 0, 0, 1, 0, 2, 3, 0, 1, 0, 2, 0, 3, 0, 1, 0, 2]),
  ([4, 7, 7, 8], [0, 0, 0, 0, 1, 2, 0, 3, 0, 1, 0, 2, 0, 3, 0, 1]),
  ([4, 7, 8, 8], [0, 0, 0, 0, 1, 0, 2, 3, 0, 1, 0, 0, 2, 0, 3, 1, 0, 0, 2, 0, 1, 3, 0, 0, 2, 0, 1, 0, 3, 0, 2, 0, 1, 0, 3]),
  ([4, 8, 8, 8], [0, 0, 0, 0, 0, 1, 2, 3, 0, 0, 0, 1, 0, 2, 3, 0, 0, 1, 0, 2, 0, 3, 0, 1, 0, 2, 0, 3]),
  ([5, 5, 5, 5], [0, 1, 2, 3, 0, 1, 2]),
  ([5, 5, 5, 6], [0, 1, 2, 0, 3, 1, 2, 0, 1, 3, 2, 0, 1, 2, 3, 0, 1, 2]),
  ([5, 5, 5, 7], [0, 1, 2, 0, 1, 3, 2, 0, 1, 2, 0, 3, 1, 2, 0, 1, 2, 3, 0, 1, 2]),
  ([5, 5, 5, 8], [0, 1, 2, 0, 1, 2, 3, 0, 1, 2]),
  ([5, 5, 6, 6], [0, 1, 0, 2, 3, 1, 0, 2, 1, 3, 0, 1, 2, 0, 3, 1, 0, 2]),
  ([5, 5, 6, 7], [0, 1, 0, 2, 1, 3, 0, 1, 2, 0, 1, 3, 0, 2, 1, 0, 3, 1, 2, 0, 1, 3]),
  ([5, 5, 6, 8], [0, 1, 0, 2, 1, 0, 3, 1, 2, 0, 1, 0, 2, 3, 1, 0, 2, 1, 0, 3]),
  ([5, 5, 7, 7], [0, 1, 0, 1, 2, 3, 0, 1, 0, 2, 1, 3, 0, 1, 2, 0, 1, 3, 0, 1, 2]),
  ([5, 5, 7, 8], [0, 1, 0, 1, 2, 0, 3, 1, 0, 2, 1, 0, 3, 1, 0, 2]),
  ([5, 5, 8, 8], [0, 1, 0, 1, 0, 2, 3, 1, 0, 1, 0, 2, 1, 3, 0, 1, 0, 2, 1, 0, 3, 1, 0, 2, 1, 0, 3]),
  ([5, 6, 6, 6], [0, 0, 1, 2, 3, 0, 1, 2, 0, 3, 1, 0, 2, 3, 0, 1]),
  ([5, 6, 6, 7], [0, 0, 1, 2, 0, 3, 1, 0, 2, 0, 1, 3, 0, 2, 1, 0, 3, 2, 0, 1, 0, 2, 3, 0, 1, 2, 0, 3]),
  ([5, 6, 6, 8], [0, 0, 1, 2, 0, 3, 1, 0, 2, 0, 1, 3, 0, 2, 1, 0, 2, 3, 0, 1, 2, 0, 1]),
  ([5, 6, 7, 7], [0, 0, 1, 0, 2, 3, 0, 1, 0, 2, 3]),
  ([5, 6, 7, 8], [0, 0, 1, 0, 2, 3, 0, 1, 0, 2, 0, 1, 3, 0, 2, 1, 0, 3, 0, 1, 2, 0, 1, 3]),
  ([5, 6, 8, 8], [0, 0, 1, 0, 2, 3, 0, 1, 0, 2, 0, 1, 3, 0, 1, 2, 0, 1, 3]),
  ([5, 7, 7, 7], [0, 0, 0, 1, 2, 3, 0, 1, 0, 2, 3, 0, 1]),
  ([5, 7, 7, 8], [0, 0, 0, 1, 2, 0, 3, 0, 1, 2, 0, 3]),
  ([5, 7, 8, 8], [0, 0, 0, 1, 0, 2, 3, 0, 1, 0, 2, 0, 3, 1, 0, 2, 0, 1, 3, 0, 2, 0, 1, 0, 3, 0, 2, 1, 0, 3, 0, 1, 2, 0, 3, 0, 1, 0, 2]),
  ([5, 8, 8, 8], [0, 0, 0, 0, 1, 2, 3, 0, 0, 1, 0, 2, 3, 0, 1, 0, 2, 0, 3, 0, 1, 0, 2]),
  ([6, 6, 6, 6], [0, 1, 2, 3, 0, 1, 2]),
  ([6, 6, 6, 7], [0, 1, 2, 0, 3, 1, 2, 0, 1, 3, 2, 0, 1, 2, 3, 0, 1, 2]),
  ([6, 6, 6, 8], [0, 1, 2, 0, 1, 3, 2, 0, 1, 2, 0, 3, 1, 2, 0, 1, 2, 3, 0, 1, 2]),
  ([6, 6, 7, 7], [0, 1, 0, 2, 3, 1, 0, 2, 1, 3, 0, 1, 2, 0, 3, 1, 0, 2]),
  ([6, 6, 7, 8], [0, 1, 0, 2, 1, 3, 0, 1, 2, 0, 1, 3, 0, 2, 1, 0, 3, 1, 2, 0, 1, 3]),
  ([6, 6, 8, 8], [0, 1, 0, 1, 2, 3, 0, 1, 0, 2, 1, 3, 0, 1, 2, 0, 1, 3, 0, 1, 2]),
  ([6, 7, 7, 7], [0, 0, 1, 2, 3, 0, 1, 2, 0, 3, 1, 0, 2, 3, 0, 1]),
  ([6, 7, 7, 8], [0, 0, 1, 2, 0, 3, 1, 0, 2, 0, 1, 3, 0, 2, 1, 0, 3, 2, 0, 1, 0, 2, 3, 0, 1, 2, 0, 3]),
  ([6, 7, 8, 8], [0, 0, 1, 0, 2, 3, 0, 1, 0, 2, 3]),
  ([7, 7, 7, 7], [0, 1, 2, 3, 0, 1, 2]),
  ([7, 7, 7, 8], [0, 1, 2, 0, 3, 1, 2, 0, 1, 3, 2, 0, 1, 2, 3, 0, 1, 2])]
def ahead (s : List Int) (c i : Int) : Bool := decide (rd s i < rd s c) || (decide (rd s i = rd s c) && decide (i < c))
def stepOk (v s : List Int) (c : Int) : Bool := (List.range v.length).all fun i : Nat => !(ahead s c (i : Int)) || (match nx v s (i : Int) with
  | none => true
  | some t => !(K v 20 t))
def walkOk (v : List Int) : List Int → List (List Int) → List Int → Bool
  | [], seen, s => seen.contains s
  | c :: p, seen, s => decide (0 ≤ c) && decide (c < v.length) && stepOk v s c && (match nx v s c with
    | none => false
    | some t => walkOk v p (s :: seen) t)
def certOk (x : List Int × List Int) : Bool := walkOk x.1 x.2 [] x.1 && decide (x.2.length ≤ 100)
def srt : Nat → Nat → List (List Int)
  | 0, _ => [[]]
  | n + 1, m => ((List.range 9).filter fun a => decide (m ≤ a)).flatMap fun a => (srt n a).map fun l => (a : Int) :: l
def known (v : List Int) : Bool := decide (3000 < prodI v) || decide (840 < dsum v) || certs.any (fun x => x.1 == v) || !(K v 20 v)
set_option maxRecDepth 100000 in
theorem certs_ok : certs.all certOk = true := by decide +kernel
set_option maxRecDepth 100000 in
theorem known1 : (srt 1 1).all known = true := by decide +kernel
set_option maxRecDepth 100000 in
theorem known2 : (srt 2 1).all known = true := by decide +kernel
set_option maxRecDepth 100000 in
theorem known3 : (srt 3 1).all known = true := by decide +kernel
set_option maxRecDepth 100000 in
theorem known4 : (srt 4 1).all known = true := by decide +kernel
set_option maxRecDepth 100000 in
theorem known5 : (srt 5 1).all known = true := by decide +kernel
theorem chs_cons (n : Nat) : chs n = -1 :: idx n := by
  unfold chs idx
  rw [List.range_succ_eq_map, List.map_cons, List.map_map]
  congr 1
  refine List.map_congr_left fun i _ => ?_
  simp only [Function.comp]
  omega
def secs (w : List Int) (k : Nat) (s : List Int) : List Int := (idx w.length).filter fun c => good w k s c
theorem mem_idx {n : Nat} {c : Int} : c ∈ idx n ↔ 0 ≤ c ∧ c < n := by
  unfold idx
  rw [List.mem_map]
  constructor
  · rintro ⟨i, hi, rfl⟩; rw [List.mem_range] at hi; omega
  · intro h; exact ⟨c.toNat, by rw [List.mem_range]; omega, by omega⟩
theorem mem_secs {w s : List Int} {k : Nat} {c : Int} : c ∈ secs w k s ↔ (0 ≤ c ∧ c < w.length) ∧ good w k s c = true := by
  unfold secs; rw [List.mem_filter, mem_idx]
theorem secs_len (w : List Int) (k : Nat) (s : List Int) : (secs w k s).length ≤ w.length := by
  unfold secs
  refine Nat.le_trans (List.length_filter_le _ _) ?_
  simp [idx]
theorem secs_lt {w s : List Int} {k p q : Nat} (hpq : p < q) (hq : q < (secs w k s).length) : rd (secs w k s) (p : Int) < rd (secs w k s) (q : Int) := by
  have h : (secs w k s).Pairwise (· < ·) := by
    refine List.Pairwise.filter _ ?_
    unfold idx
    rw [List.pairwise_map]
    exact List.Pairwise.imp (fun h => by omega) List.pairwise_lt_range
  rw [rd_get (by omega), rd_get hq]
  exact List.pairwise_iff_getElem.1 h p q (by omega) hq hpq
theorem chsOf_secs (w : List Int) (k : Nat) (s : List Int) : chsOf w k s = if good w k s (-1) = true then -1 :: secs w k s else secs w k s := by
  unfold chsOf secs
  rw [chs_cons, List.filter_cons]
theorem del_loop {r : List Int} (hr : ∀ a ∈ r, a ≠ -1) (hl : r.length ≤ 100) : ∀ (d i : Nat), r.length - i = d → i ≤ r.length → Ev (fun k => slices_DeleteFunc_int_int.l0 k (r.take i ++ (-1 :: r).drop i) ice_game_urgent_1.f i ((i + 1 : Nat) : Int)) r
  | 0, i, hd, hi => by
    obtain rfl : i = r.length := by omega
    refine ev_some _ fun k => ?_
    have hll : (r.take r.length ++ (-1 :: r).drop r.length).length = r.length + 1 := by rw [List.length_append, List.length_take, List.length_drop, List.length_cons]; omega
    rw [slices_DeleteFunc_int_int.l0, if_neg (by rw [hll]; omega), if_pos (by omega), if_pos (by rw [hll]; omega)]
    simp
  | d + 1, i, hd, hi => by
    have hll : (r.take i ++ (-1 :: r).drop i).length = r.length + 1 := by simp; omega
    have hrd : rd (r.take i ++ (-1 :: r).drop i) ((i + 1 : Nat) : Int) = r[i]'(by omega) := by
      rw [rd_get (by rw [hll]; omega), List.getElem_append_right (by simp; omega)]
      simp only [List.getElem_drop]
      have e : i + (i + 1 - (r.take i).length) = i + 1 := by rw [List.length_take]; omega
      simp only [e, List.getElem_cons_succ]
    have hne : r[i]'(by omega) ≠ -1 := hr _ (List.getElem_mem _)
    have hset : (r.take i ++ (-1 :: r).drop i).set i (r[i]'(by omega)) = r.take (i + 1) ++ (-1 :: r).drop (i + 1) := by
      rw [List.set_append_right _ _ (by simp; omega)]
      have e : i - (r.take i).length = 0 := by rw [List.length_take]; omega
      have ht : r.take (i + 1) = r.take i ++ [r[i]'(by omega)] := by rw [List.take_add_one, List.getElem?_eq_getElem (by omega)]; rfl
      rw [e, List.drop_eq_getElem_cons (show i < (-1 :: r).length by simp; omega), List.set_cons_zero, ht, List.append_assoc]
      rfl
    refine Ev.step (f := fun k => slices_DeleteFunc_int_int.l0 k (r.take (i + 1) ++ (-1 :: r).drop (i + 1)) ice_game_urgent_1.f ((i + 1 : Nat) : Int) ((i + 1 + 1 : Nat) : Int)) (fun k => ?_) (del_loop hr hl d (i + 1) (by omega) (by omega))
    rw [slices_DeleteFunc_int_int.l0, if_pos (by rw [hll]; omega), if_pos (by omega), hrd]
    unfold ice_game_urgent_1.f
    simp only [Option.bind_some]
    rw [if_neg (by simpa using hne), if_pos (by omega), if_pos (by rw [hll]; omega), wsucc i (by omega), wsucc (i + 1) (by omega)]
    rw [show ((i : Int)).toNat = i from by omega, hset]
theorem del_ev {r : List Int} (hr : ∀ a ∈ r, a ≠ -1) (hl : r.length ≤ 100) (b : Bool) : Ev (fun k => slices_DeleteFunc_int_int.f k (if b = true then -1 :: r else r) ice_game_urgent_1.f) r := by
  have hp : ∀ l : List Int, ∀ j, j < l.length → ice_game_urgent_1.f (rd l (j : Int)) = some (decide (rd l (j : Int) = -1)) := fun l j _ => by
    unfold ice_game_urgent_1.f
    congr 1
  cases b with
  | false =>
    simp only [Bool.false_eq_true, if_false]
    obtain ⟨t, e, ht⟩ := index_int_loop (l := r) (by omega) (hp r) r.length 0 (by omega) (by omega) (by omega)
    have e1 : Ev (fun k => slices_IndexFunc_int_int.f k r ice_game_urgent_1.f) t := e
    have t1 : t = -1 := by
      rcases ht with ⟨h, _⟩ | ⟨k, _, hk, h, _⟩
      · exact h
      · exact absurd h (hr _ (by rw [rd_get hk]; exact List.getElem_mem _))
    subst t1
    exact Ev.bind e1 (by simp only [if_true]; exact Ev.now _)
  | true =>
    simp only [if_true]
    obtain ⟨t, e, ht⟩ := index_int_loop (l := -1 :: r) (by simp; omega) (hp (-1 :: r)) (-1 :: r).length 0 (by omega) (by omega) (by omega)
    have e1 : Ev (fun k => slices_IndexFunc_int_int.f k (-1 :: r) ice_game_urgent_1.f) t := e
    have t1 : t = 0 := by
      rcases ht with ⟨_, h⟩ | ⟨k, h, hk, _, h2⟩
      · exact absurd (rdc0 (-1) r) (h 0 (by simp))
      · by_cases z : k = 0
        · subst z; exact h
        · exact absurd (rdc0 (-1) r) (h2 0 (by omega))
    subst t1
    refine Ev.bind e1 ?_
    have := del_loop hr hl r.length 0 (by omega) (by omega)
    simp only [List.take_zero, List.nil_append, List.drop_zero] at this
    refine Ev.congr (fun n => ?_) this
    rw [if_neg (show ¬ (0 : Int) = -1 by decide), show wrap64 ((0 : Int) + 1) = ((0 + 1 : Nat) : Int) from wsucc 0 (by omega)]
    rfl
/-- The first one of the least: what MinFunc tells. -/
theorem min_loop {r : List Int} (hl : r.length ≤ 100) {v : Int → Int} {fn : Int → Int → Option Int} (hf : ∀ a b, a ∈ r → b ∈ r → ∃ z : Int, fn a b = some z ∧ (z < 0 ↔ v a < v b)) : ∀ (d i p : Nat), r.length - i = d → i ≤ r.length → p < i →
    (∀ q, q < p → v (rd r (p : Int)) < v (rd r (q : Int))) → (∀ q, p ≤ q → q < i → v (rd r (p : Int)) ≤ v (rd r (q : Int))) →
    ∃ p', p' < r.length ∧ (∀ q, q < p' → v (rd r (p' : Int)) < v (rd r (q : Int))) ∧ (∀ q, p' ≤ q → q < r.length → v (rd r (p' : Int)) ≤ v (rd r (q : Int))) ∧ Ev (fun k => slices_MinFunc_int_int.l0 k r fn (rd r (p : Int)) (i : Int)) (rd r (p' : Int))
  | 0, i, p, hd, hi, hp, h1, h2 => ⟨p, by omega, h1, fun q hq hq2 => h2 q hq (by omega), ev_some _ fun k => by rw [slices_MinFunc_int_int.l0, if_neg (by omega)]⟩
  | d + 1, i, p, hd, hi, hp, h1, h2 => by
    have mi : rd r (i : Int) ∈ r := by rw [rd_get (by omega)]; exact List.getElem_mem _
    have mp : rd r (p : Int) ∈ r := by rw [rd_get (by omega)]; exact List.getElem_mem _
    obtain ⟨z, hz, hlt⟩ := hf _ _ mi mp
    by_cases c : v (rd r (i : Int)) < v (rd r (p : Int))
    · obtain ⟨p', g1, g2, g3, e⟩ := min_loop hl hf d (i + 1) i (by omega) (by omega) (by omega) (fun q hq => by
        by_cases hqp : q < p
        · have := h1 q hqp; omega
        · have := h2 q (by omega) hq; omega) (fun q hq hq2 => by
        obtain rfl : q = i := by omega
        exact Int.le_refl _)
      refine ⟨p', g1, g2, g3, Ev.step (f := fun k => slices_MinFunc_int_int.l0 k r fn (rd r (i : Int)) ((i + 1 : Nat) : Int)) (fun k => ?_) e⟩
      rw [slices_MinFunc_int_int.l0, if_pos (by omega), if_pos (by omega), hz]
      simp only [Option.bind_some]
      rw [if_pos (hlt.2 c), wsucc i (by omega)]
    · obtain ⟨p', g1, g2, g3, e⟩ := min_loop hl hf d (i + 1) p (by omega) (by omega) (by omega) h1 (fun q hq hq2 => by
        by_cases hqi : q = i
        · subst hqi; omega
        · exact h2 q hq (by omega))
      refine ⟨p', g1, g2, g3, Ev.step (f := fun k => slices_MinFunc_int_int.l0 k r fn (rd r (p : Int)) ((i + 1 : Nat) : Int)) (fun k => ?_) e⟩
      rw [slices_MinFunc_int_int.l0, if_pos (by omega), if_pos (by omega), hz]
      simp only [Option.bind_some]
      rw [if_neg (fun h => c (hlt.1 h)), wsucc i (by omega)]
theorem min_ev {r : List Int} (h0 : 0 < r.length) (hl : r.length ≤ 100) {v : Int → Int} {fn : Int → Int → Option Int} (hf : ∀ a b, a ∈ r → b ∈ r → ∃ z : Int, fn a b = some z ∧ (z < 0 ↔ v a < v b)) :
    ∃ p', p' < r.length ∧ (∀ q, q < p' → v (rd r (p' : Int)) < v (rd r (q : Int))) ∧ (∀ q, p' ≤ q → q < r.length → v (rd r (p' : Int)) ≤ v (rd r (q : Int))) ∧ Ev (fun k => slices_MinFunc_int_int.f k r fn) (rd r (p' : Int)) := by
  obtain ⟨p', g1, g2, g3, e⟩ := min_loop hl hf (r.length - 1) 1 0 (by omega) (by omega) (by omega) (fun q hq => by omega) (fun q hq hq2 => by
    obtain rfl : q = 0 := by omega
    exact Int.le_refl _)
  refine ⟨p', g1, g2, g3, Ev.congr (fun k => ?_) e⟩
  unfold slices_MinFunc_int_int.f
  rw [if_neg (by omega), if_pos (by omega)]
  rfl
/-- c is the section that is scraped: the first one of those with the least digit by which it can go on. -/
def FM (w : List Int) (k : Nat) (s : List Int) (c : Int) : Prop := 0 ≤ c ∧ c < w.length ∧ good w k s c = true ∧ ∀ c' : Int, 0 ≤ c' → c' < w.length → ahead s c c' = true → good w k s c' = false
theorem FM_unique {w : List Int} {k : Nat} {s : List Int} {c c' : Int} (h : FM w k s c) (h' : FM w k s c') : c = c' := by
  obtain ⟨a1, a2, a3, a4⟩ := h
  obtain ⟨b1, b2, b3, b4⟩ := h'
  have x1 : ¬ ahead s c c' = true := fun z => by rw [a4 c' b1 b2 z] at b3; cases b3
  have x2 : ¬ ahead s c' c = true := fun z => by rw [b4 c a1 a2 z] at a3; cases a3
  simp only [ahead, Bool.or_eq_true, Bool.and_eq_true, decide_eq_true_eq, not_or, not_and] at x1 x2
  have := x1.1
  have := x2.1
  have := x1.2
  have := x2.2
  omega
theorem urgent_ev {w s : List Int} (o : okW w) (h : okSt w s) (k0 : Nat) (hk : K w (k0 + 1) s = true) : ∃ c, FM w k0 s c ∧ Ev (fun k => ice_game_urgent.f k w (bys w) (prodI w) (numL w s) (setL w k0)) (c, prodI w) := by
  have ol := o.1.2
  have hne : 0 < (secs w k0 s).length := by
    obtain ⟨c, t, h1, h2, h3, h4⟩ := K_succ.1 hk
    have : ∃ c, c ∈ secs w k0 s := by
      by_cases c0 : c = -1
      · subst c0
        obtain ⟨g1, g2⟩ := K_some h h3 h4 (c := 0) (by omega) (by have := o.1.1; omega)
        exact ⟨0, mem_secs.2 ⟨⟨by omega, by have := o.1.1; omega⟩, good_iff.2 ⟨_, g1, g2⟩⟩⟩
      · exact ⟨c, mem_secs.2 ⟨⟨by omega, h2⟩, good_iff.2 ⟨t, h3, h4⟩⟩⟩
    obtain ⟨c, hc⟩ := this
    exact List.length_pos_of_mem hc
  have hsl := secs_len w k0 s
  obtain ⟨p, g1, g2, g3, e⟩ := min_ev (r := secs w k0 s) hne (by omega) (v := fun c => rd s c) (fn := ice_game_urgent_2.f w (bys w) (prodI w) (numL w s)) (fun a b ha hb => by
    obtain ⟨⟨a1, a2⟩, _⟩ := mem_secs.1 ha
    obtain ⟨⟨b1, b2⟩, _⟩ := mem_secs.1 hb
    have ea := digit_some o h (prodI w) (i := a.toNat) (by omega)
    have eb := digit_some o h (prodI w) (i := b.toNat) (by omega)
    rw [show ((a.toNat : Nat) : Int) = a by omega] at ea
    rw [show ((b.toNat : Nat) : Int) = b by omega] at eb
    refine ⟨if rd s a < rd s b then -1 else if rd s a > rd s b then 1 else 0, ?_, ?_⟩
    · unfold ice_game_urgent_2.f
      rw [ea, eb]
      simp only [Option.bind_some]
      exact cmp_val _ _
    · by_cases c : rd s a < rd s b
      · rw [if_pos c]; simp [c]
      · rw [if_neg c]; simp only [c, iff_false]; split <;> decide)
  obtain ⟨⟨m1, m2⟩, m3⟩ := mem_secs.1 (show rd (secs w k0 s) (p : Int) ∈ secs w k0 s by rw [rd_get g1]; exact List.getElem_mem _)
  refine ⟨rd (secs w k0 s) (p : Int), ⟨m1, m2, m3, fun c' c1 c2 ha => ?_⟩, ?_⟩
  · rw [Bool.eq_false_iff]
    intro hg
    obtain ⟨q, hq, eq_⟩ := List.getElem_of_mem (mem_secs.2 ⟨⟨c1, c2⟩, hg⟩)
    have eq2 : rd (secs w k0 s) (q : Int) = c' := by rw [rd_get hq]; exact eq_
    subst eq2
    simp only [ahead, Bool.or_eq_true, Bool.and_eq_true, decide_eq_true_eq] at ha
    rcases Nat.lt_or_ge q p with z | z
    · have := g2 q z
      omega
    · have := g3 q z hq
      rcases ha with ha | ⟨_, ha⟩
      · omega
      · rcases Nat.eq_or_lt_of_le z with z | z
        · subst z; omega
        · have := secs_lt z hq
          omega
  · have e0 := choices_ev o h k0
    rw [chsOf_secs] at e0
    exact Ev.bind e0 (Ev.bind (del_ev (fun a ha => by have := (mem_secs.1 ha).1; omega) (by omega) (good w k0 s (-1))) (Ev.bind e (Ev.now _)))
theorem toN {x : Int} {n : Nat} (h : 0 ≤ x ∧ x < n) : ∃ i : Nat, i < n ∧ x = i := ⟨x.toNat, by omega, by omega⟩
theorem app_okW {n : Nat} {o w : List Int} (ho : isOrd n o) (hw : w.length = n) (h : okW w) : okW (app o w) := by
  obtain ⟨l, b, _, _⟩ := ho
  refine ⟨by rw [app_len, l, ← hw]; exact h.1, fun i hi => ?_⟩
  rw [app_len] at hi
  rw [app_rd hi]
  obtain ⟨j, hj, e⟩ := toN (b i (by omega))
  rw [e]
  exact h.2 j (by omega)
theorem K_perm {n : Nat} {o w : List Int} (ho : isOrd n o) (hw : w.length = n) : ∀ {k : Nat} {s : List Int}, okSt w s → (K w k s = true ↔ K (app o w) k (app o s) = true)
  | 0, s, h => ⟨fun _ => rfl, fun _ => rfl⟩
  | k + 1, s, h => by
    obtain ⟨l, b, inj, sur⟩ := id ho
    have hs := okSt_len h
    have hla : (app o w).length = n := by rw [app_len, l]
    constructor
    · intro e
      obtain ⟨c, t, h1, h2, h3, h4⟩ := K_succ.1 e
      have ot := nx_ok h h3
      obtain ⟨z1, z2⟩ := (nx_iff hs).1 h3
      obtain ⟨c', c1, c2, c3⟩ : ∃ c' : Int, -1 ≤ c' ∧ c' < n ∧ ∀ i, i < n → ((i : Int) = c' ↔ rd o (i : Int) = c) := by
        by_cases c0 : c = -1
        · exact ⟨-1, by omega, by omega, fun i hi => by have := b i hi; omega⟩
        · obtain ⟨q, hq, eq_⟩ := sur c.toNat (by omega)
          refine ⟨q, by omega, by omega, fun i hi => ⟨fun e => ?_, fun e => ?_⟩⟩
          · rw [show i = q by omega, eq_]; omega
          · have := inj i q hi hq (by rw [e, eq_]; omega)
            omega
      refine K_succ.2 ⟨c', app o t, c1, by rw [hla]; exact c2, (nx_iff (by rw [app_len, app_len])).2 ⟨by rw [app_len, app_len], fun i hi => ?_⟩, (K_perm ho hw ot).1 h4⟩
      rw [hla] at hi
      rw [app_rd (by omega), app_rd (by omega), app_rd (by omega)]
      obtain ⟨q, hq, eq_⟩ := toN (b i hi)
      have := z2 q (by omega)
      rw [eq_]
      have e3 : ((i : Int) = c') = ((q : Int) = c) := propext (by rw [c3 i hi, eq_])
      simp only [e3]
      exact this
    · intro e
      obtain ⟨c', t', h1, h2, h3, h4⟩ := K_succ.1 e
      obtain ⟨z1, z2⟩ := (nx_iff (by rw [app_len, app_len])).1 h3
      obtain ⟨c, c1, c2, c3⟩ : ∃ c : Int, -1 ≤ c ∧ c < n ∧ ∀ i, i < n → ((i : Int) = c' ↔ rd o (i : Int) = c) := by
        by_cases c0 : c' = -1
        · exact ⟨-1, by omega, by omega, fun i hi => by have := b i hi; omega⟩
        · rw [hla] at h2
          obtain ⟨q, hq, eq_⟩ := toN (x := c') (n := n) (by omega)
          subst eq_
          have := b q hq
          refine ⟨rd o (q : Int), by omega, by omega, fun i hi => ⟨fun e => by rw [e], fun e => ?_⟩⟩
          have := inj i q hi hq e
          omega
      have h5 : nx w s c = some (nxt w s c) := nx_some hs fun i hi => by
        obtain ⟨q, hq, eq_⟩ := sur i (by omega)
        have := z2 q (by rw [hla]; exact hq)
        rw [app_rd (by omega), app_rd (by omega), eq_] at this
        have e3 : ((q : Int) = c') = ((i : Int) = c) := propext (by rw [c3 q hq, eq_])
        simp only [e3] at this
        rw [nxt_rd hi, ← this.1]
        exact this.2
      have ot := nx_ok h h5
      have et : app o (nxt w s c) = t' := by
        refine ext_rd (by rw [app_len, z1, app_len]) fun i hi => ?_
        rw [app_len] at hi
        rw [app_rd hi, (z2 i (by rw [app_len]; exact hi)).1]
        obtain ⟨q, hq, eq_⟩ := toN (b i (by omega))
        rw [app_rd hi, app_rd hi, eq_, nxt_rd (by omega)]
        have e3 : ((i : Int) = c') = ((q : Int) = c) := propext (by rw [c3 i (by omega), eq_])
        simp only [e3]
      exact K_succ.2 ⟨c, _, c1, by omega, h5, (K_perm ho hw ot).2 (by rw [et]; exact h4)⟩
/-- The state that a night leads to, and its choice. -/
theorem FM_ever {v s : List Int} (o : okW v) (h : okSt v s) (hk : K v (inf v) s = true) : ∃ c, FM v (inf v) s c := by
  obtain ⟨c, hc, _⟩ := urgent_ev o h (inf v) (K_ever o h hk _)
  exact ⟨c, hc⟩
open Classical in
noncomputable def chX (v s : List Int) : Int := if h : ∃ c, FM v (inf v) s c then h.choose else 0
theorem chX_eq {v s : List Int} {c : Int} (h : FM v (inf v) s c) : chX v s = c := by
  unfold chX
  rw [dif_pos ⟨c, h⟩]
  exact FM_unique (Exists.choose_spec (⟨c, h⟩ : ∃ c, FM v (inf v) s c)) h
noncomputable def st (v : List Int) : Nat → List Int
  | 0 => v
  | i + 1 => nxt v (st v i) (chX v (st v i))
noncomputable def ch (v : List Int) (i : Nat) : Int := chX v (st v i)
theorem FM_next {v s : List Int} {c : Int} (h : okSt v s) (hf : FM v (inf v) s c) : nx v s c = some (nxt v s c) ∧ K v (inf v) (nxt v s c) = true := by
  obtain ⟨t, h1, h2⟩ := good_iff.1 hf.2.2.1
  have := nx_nxt (okSt_len h) h1
  subst this
  exact ⟨h1, h2⟩
theorem st_ok {v : List Int} (o : okW v) (hk : K v (inf v) v = true) : ∀ i, okSt v (st v i) ∧ K v (inf v) (st v i) = true ∧ FM v (inf v) (st v i) (ch v i) ∧ nx v (st v i) (ch v i) = some (st v (i + 1))
  | 0 => by
    have h := (num_first (okW_pos o)).1
    obtain ⟨c, hc⟩ := FM_ever o h hk
    have e : ch v 0 = c := chX_eq hc
    exact ⟨h, hk, by rw [e]; exact hc, (FM_next h (by rw [e]; exact hc)).1⟩
  | i + 1 => by
    obtain ⟨h1, h2, h3, h4⟩ := st_ok o hk i
    have h := nx_ok h1 h4
    have hk2 : K v (inf v) (st v (i + 1)) = true := (FM_next h1 h3).2
    obtain ⟨c, hc⟩ := FM_ever o h hk2
    have e : ch v (i + 1) = c := chX_eq hc
    exact ⟨h, hk2, by rw [e]; exact hc, (FM_next h (by rw [e]; exact hc)).1⟩
/-- The gaps in a list whose nights lead round. -/
theorem gaps_of {v L : List Int} (hL : 1 ≤ L.length) (S : Nat → List Int) (ok : ∀ q, okSt v (S q)) (step : ∀ q, nx v (S q) (nt L q) = some (S (q + 1))) : ∀ s, s < v.length → ∃ x : Nat, maxGap L (s : Int) x ∧ 1 ≤ x ∧ (x : Int) ≤ rd v (s : Int) := by
  intro s hs
  have hx : ∀ q, 1 ≤ rd (S q) (s : Int) ∧ rd (S q) (s : Int) ≤ rd v (s : Int) := fun q => (okSt_iff.1 (ok q)).2 s hs
  have hst : ∀ q, rd (S (q + 1)) (s : Int) = if (s : Int) = nt L q then rd v (s : Int) else rd (S q) (s : Int) - 1 := fun q => (((nx_iff (okSt_len (ok q))).1 (step q)).2 s hs).1
  have first : ∀ (d q : Nat), (rd (S q) (s : Int)).toNat = d → ∃ m : Nat, (m : Int) < rd (S q) (s : Int) ∧ nt L (q + m) = s ∧ ∀ j, j < m → nt L (q + j) ≠ s := by
    intro d
    induction d with
    | zero => intro q hd; have := hx q; omega
    | succ d ih =>
      intro q hd
      have h1 := hx q
      by_cases c : nt L q = s
      · exact ⟨0, by omega, c, fun j hj => by omega⟩
      · have h2 := hst q
        rw [if_neg (fun e => c e.symm)] at h2
        obtain ⟨m, g1, g2, g3⟩ := ih (q + 1) (by omega)
        refine ⟨m + 1, by omega, by rw [show q + (m + 1) = q + 1 + m by omega]; exact g2, fun j hj => ?_⟩
        cases j with
        | zero => exact c
        | succ j => rw [show q + (j + 1) = q + 1 + j by omega]; exact g3 j (by omega)
  have gap : ∀ a, nt L a = s → ∃ m, isGap L (s : Int) a m ∧ (m : Int) ≤ rd v (s : Int) := by
    intro a ha
    have h2 := hst a
    rw [if_pos ha.symm] at h2
    obtain ⟨m, g1, g2, g3⟩ := first _ (a + 1) rfl
    refine ⟨m + 1, ⟨by omega, by rw [show a + (m + 1) = a + 1 + m by omega]; exact g2, fun j h1 hj => ?_⟩, by omega⟩
    rw [show a + j = a + 1 + (j - 1) by omega]
    exact g3 (j - 1) (by omega)
  have fin : ∀ N, N ≤ L.length → (∀ a, a < N → nt L a ≠ s) ∨ ∃ x : Nat, ((∀ a, a < N → nt L a = s → ∃ m, isGap L (s : Int) a m ∧ m ≤ x) ∧ ∃ a, a < N ∧ nt L a = s ∧ isGap L (s : Int) a x) ∧ 1 ≤ x ∧ (x : Int) ≤ rd v (s : Int) := by
    intro N
    induction N with
    | zero => intro _; exact .inl fun a ha => by omega
    | succ N ih =>
      intro hN
      by_cases c : nt L N = s
      · obtain ⟨m, gm, hm⟩ := gap N c
        rcases ih (by omega) with h | ⟨x, ⟨h1, a0, ha0, hs0, hg0⟩, h3, h4⟩
        · refine .inr ⟨m, ⟨fun a ha hs' => ?_, N, by omega, c, gm⟩, gm.1, hm⟩
          by_cases e : a = N
          · subst e; exact ⟨m, gm, Nat.le_refl _⟩
          · exact absurd hs' (h a (by omega))
        · rcases Nat.le_total m x with z | z
          · refine .inr ⟨x, ⟨fun a ha hs' => ?_, a0, by omega, hs0, hg0⟩, h3, h4⟩
            by_cases e : a = N
            · subst e; exact ⟨m, gm, z⟩
            · exact h1 a (by omega) hs'
          · refine .inr ⟨m, ⟨fun a ha hs' => ?_, N, by omega, c, gm⟩, gm.1, hm⟩
            by_cases e : a = N
            · subst e; exact ⟨m, gm, Nat.le_refl _⟩
            · obtain ⟨m', g', h'⟩ := h1 a (by omega) hs'
              exact ⟨m', g', by omega⟩
      · rcases ih (by omega) with h | ⟨x, ⟨h1, a0, ha0, hs0, hg0⟩, h3, h4⟩
        · refine .inl fun a ha => ?_
          by_cases e : a = N
          · subst e; exact c
          · exact h a (by omega)
        · refine .inr ⟨x, ⟨fun a ha hs' => ?_, a0, by omega, hs0, hg0⟩, h3, h4⟩
          by_cases e : a = N
          · subst e; exact absurd hs' c
          · exact h1 a (by omega) hs'
  rcases fin L.length (Nat.le_refl _) with h | ⟨x, h, h3, h4⟩
  · exfalso
    obtain ⟨m, _, g2, _⟩ := first _ 0 rfl
    refine h (m % L.length) (Nat.mod_lt _ (by omega)) ?_
    rw [Nat.zero_add] at g2
    unfold nt at g2 ⊢
    rw [Nat.mod_mod]
    exact g2
  · exact ⟨x, h, h3, h4⟩
/-- .. and read in another order of the sections. -/
theorem rota_map {n : Nat} {o w L : List Int} (ho : isOrd n o) (hw : w.length = n) (hL : 1 ≤ L.length) (hL2 : L.length ≤ 100) (hin : ∀ i, i < L.length → 0 ≤ rd L (i : Int) ∧ rd L (i : Int) < n)
    (g : ∀ s, s < (app o w).length → ∃ x : Nat, maxGap L (s : Int) x ∧ 1 ≤ x ∧ (x : Int) ≤ rd (app o w) (s : Int)) : rota w (L.map fun c => rd o c) := by
  obtain ⟨l, b, inj, sur⟩ := id ho
  have hl : (L.map fun c => rd o c).length = L.length := by simp
  have hr : ∀ i, i < L.length → rd (L.map fun c => rd o c) (i : Int) = rd o (rd L (i : Int)) := fun i hi => by
    rw [rd_get (by rw [hl]; exact hi), rd_get hi]; simp
  have hnt : ∀ (p q : Nat), p < n → (nt (L.map fun c => rd o c) q = rd o (p : Int) ↔ nt L q = p) := fun p q hp => by
    unfold nt
    rw [hl, hr _ (Nat.mod_lt _ (by omega))]
    obtain ⟨z, hz, ez⟩ := toN (hin _ (Nat.mod_lt q (show 0 < L.length by omega)))
    rw [ez]
    constructor
    · intro e; rw [inj z p hz hp e]
    · intro e; rw [show z = p by omega]
  refine ⟨⟨by rw [hl]; omega, fun i hi => ?_⟩, fun s hs => ?_⟩
  · rw [hl] at hi
    rw [hr i hi]
    obtain ⟨z, hz, ez⟩ := toN (hin i hi)
    rw [ez]
    have := b z hz
    omega
  · obtain ⟨p, hp, ep⟩ := sur s (by omega)
    obtain ⟨x, ⟨h1, a, ha, hs', hg⟩, h3, h4⟩ := g p (by rw [app_len]; omega)
    have hgap : ∀ a m, isGap L (p : Int) a m → isGap (L.map fun c => rd o c) (s : Int) a m := fun a m hg => by
      obtain ⟨g1, g2, g3⟩ := hg
      refine ⟨g1, ?_, fun j j1 j2 => ?_⟩
      · rw [← ep]; exact (hnt p _ hp).2 g2
      · rw [← ep]; exact fun e => g3 j j1 j2 ((hnt p _ hp).1 e)
    have e : wv (L.map fun c => rd o c) (s : Int) = x := wv_eq ⟨fun a ha hs' => by
      rw [hl] at ha
      rw [← ep] at hs'
      obtain ⟨m, gm, hm⟩ := h1 a ha ((hnt p a hp).1 hs')
      exact ⟨m, hgap a m gm, hm⟩, a, by rw [hl]; exact ha, by rw [← ep]; exact (hnt p a hp).2 hs', hgap a x hg⟩
    rw [e]
    rw [app_rd (by omega), ep] at h4
    exact ⟨h3, h4⟩
theorem index2_loop {l : List Int} (hl : l.length ≤ 1000000) (x : Int) : ∀ (d i : Nat), l.length - i = d → i ≤ l.length → (∀ j, j < i → rd l (j : Int) ≠ x) →
    ∃ t : Int, ((t = -1 ∧ ∀ j, j < l.length → rd l (j : Int) ≠ x) ∨ ∃ j : Nat, j < l.length ∧ rd l (j : Int) = x ∧ t = j) ∧ Ev (fun k => slices_Index_int_int.l0 k l x (l.length : Int) (i : Int)) t
  | 0, i, hd, hi, h => ⟨-1, .inl ⟨rfl, fun j hj => h j (by omega)⟩, ev_some _ fun k => by rw [slices_Index_int_int.l0, if_neg (by omega)]⟩
  | d + 1, i, hd, hi, h => by
    by_cases c : x = rd l (i : Int)
    · exact ⟨i, .inr ⟨i, by omega, c.symm, rfl⟩, ev_some _ fun k => by rw [slices_Index_int_int.l0, if_pos (by omega), if_pos (by omega), if_pos (by omega), if_pos c]⟩
    · obtain ⟨t, ht, e⟩ := index2_loop hl x d (i + 1) (by omega) (by omega) (fun j hj => by
        by_cases z : j = i
        · subst z; exact fun z => c z.symm
        · exact h j (by omega))
      refine ⟨t, ht, Ev.step (f := fun k => slices_Index_int_int.l0 k l x (l.length : Int) ((i + 1 : Nat) : Int)) (fun k => ?_) e⟩
      rw [slices_Index_int_int.l0, if_pos (by omega), if_pos (by omega), if_pos (by omega), if_neg c, wsucc i (by omega)]
theorem index2_ev {l : List Int} (hl : l.length ≤ 1000000) (x : Int) : ∃ t : Int, ((t = -1 ∧ ∀ j, j < l.length → rd l (j : Int) ≠ x) ∨ ∃ j : Nat, j < l.length ∧ rd l (j : Int) = x ∧ t = j) ∧ Ev (fun k => slices_Index_int_int.f k l x) t :=
  index2_loop hl x l.length 0 (by omega) (by omega) (fun j hj => by omega)
theorem rd_dropn {L : List Int} {j q : Nat} (h : j + q < L.length) : rd (L.drop j) (q : Int) = rd L ((j + q : Nat) : Int) := by
  rw [rd_get (by rw [List.length_drop]; omega), rd_get h, List.getElem_drop]
theorem set_map {L : List Int} {f : Int → Int} {i : Nat} (h : i < L.length) : ((L.take i).map f ++ L.drop i).set i (f (rd L (i : Int))) = (L.take (i + 1)).map f ++ L.drop (i + 1) := by
  have hl : ((L.take i).map f).length = i := by rw [List.length_map, List.length_take]; omega
  rw [List.set_append_right _ _ (by omega), hl, Nat.sub_self, rd_drop L i h, List.set_cons_zero, List.take_add_one, List.getElem?_eq_getElem h, rd_get h, List.map_append, List.append_assoc]
  rfl
theorem m1_loop {o L : List Int} (hL : L.length ≤ 1000000) (h : ∀ i, i < L.length → 0 ≤ rd L (i : Int) ∧ rd L (i : Int) < o.length) : ∀ (d i : Nat), L.length - i = d → i ≤ L.length →
    Ev (fun k => ice_Rota.m1 k o ((L.take i).map (fun c => rd o c) ++ L.drop i) (L.length : Int) (i : Int)) (L.map (fun c => rd o c), 0)
  | 0, i, hd, hi => ev_some _ fun k => by
    rw [ice_Rota.m1, if_neg (by omega), List.take_of_length_le (by omega), List.drop_eq_nil_of_le (by omega), List.append_nil]
  | d + 1, i, hd, hi => by
    have hll : ((L.take i).map (fun c => rd o c) ++ L.drop i).length = L.length := by rw [List.length_append, List.length_map, List.length_take, List.length_drop]; omega
    have hr : rd ((L.take i).map (fun c => rd o c) ++ L.drop i) (i : Int) = rd L (i : Int) := by
      rw [rd_get (by omega), List.getElem_append_right (by rw [List.length_map, List.length_take]; omega), rd_get (by omega), List.getElem_drop]
      congr 1
      rw [List.length_map, List.length_take]; omega
    have hb := h i (by omega)
    refine Ev.step (f := fun k => ice_Rota.m1 k o ((L.take (i + 1)).map (fun c => rd o c) ++ L.drop (i + 1)) (L.length : Int) ((i + 1 : Nat) : Int)) (fun k => ?_) (m1_loop hL h d (i + 1) (by omega) (by omega))
    rw [ice_Rota.m1, if_pos (by omega), if_pos (by omega), if_pos (by rw [hll]; omega), hr, if_pos hb.1, if_pos hb.2, wsucc i (by omega), show ((i : Int)).toNat = i by omega, ← set_map (by omega)]
/-- The numbers of the states that were seen, and what was scraped. -/
noncomputable def vis (v : List Int) (i : Nat) : List Int := (List.range i).map fun q => numL v (st v q)
noncomputable def lst (v : List Int) (i : Nat) : List Int := (List.range i).map fun q => ch v q
theorem vis_len (v : List Int) (i : Nat) : (vis v i).length = i := by simp [vis]
theorem lst_len (v : List Int) (i : Nat) : (lst v i).length = i := by simp [lst]
theorem vis_rd {v : List Int} {i j : Nat} (h : j < i) : rd (vis v i) (j : Int) = numL v (st v j) := by
  rw [rd_get (by rw [vis_len]; exact h)]; simp [vis]
theorem lst_rd {v : List Int} {i j : Nat} (h : j < i) : rd (lst v i) (j : Int) = ch v j := by
  rw [rd_get (by rw [lst_len]; exact h)]; simp [lst]
theorem vis_succ (v : List Int) (i : Nat) : vis v (i + 1) = vis v i ++ [numL v (st v i)] := by
  unfold vis; rw [List.range_succ, List.map_append]; rfl
theorem lst_succ (v : List Int) (i : Nat) : lst v (i + 1) = lst v i ++ [ch v i] := by
  unfold lst; rw [List.range_succ, List.map_append]; rfl
def distinct (v : List Int) (i : Nat) : Prop := ∀ p q, p < q → q < i → st v p ≠ st v q
theorem cnt_true : ∀ n, cnt (fun _ => true) n = n
  | 0 => rfl
  | n + 1 => by unfold cnt; rw [cnt_true n]; rfl
theorem num_inj {v s t : List Int} (h : okSt v s) (h' : okSt v t) (e : numL v s = numL v t) : s = t := by
  rw [← dig_num h, ← dig_num h', e]
theorem pigeon {v : List Int} (o : okW v) (hk : K v (inf v) v = true) {i : Nat} (h : distinct v i) : i ≤ (prodI v).toNat := by
  have := cnt_inj (p := fun _ => true) (q := fun _ => true) (σ := fun q => (numL v (st v q)).toNat) (N := i) (M := (prodI v).toNat) (fun q hq _ => ⟨(num_lt (st_ok o hk q).1).1, rfl⟩) (fun p q hp hq _ _ e => by
    have h1 := (num_lt (st_ok o hk p).1).2
    have h2 := (num_lt (st_ok o hk q).1).2
    have e2 : st v p = st v q := num_inj (st_ok o hk p).1 (st_ok o hk q).1 (by omega)
    rcases Nat.lt_trichotomy p q with z | z | z
    · exact absurd e2 (h p q z hq)
    · exact z
    · exact absurd e2.symm (h q p z hp))
  rw [cnt_true, cnt_true] at this
  exact this
theorem i64_wf {a : Int} (h : 0 ≤ a) (h2 : a ≤ 1000000) : (Lit.int .i64 a).wf = true := by
  show (decide ((-9223372036854775808 : Int) ≤ a) && decide (a ≤ 9223372036854775807)) = true
  simp; omega
theorem m0_loop {v ord : List Int} (o : okW v) (hord : ord.length = v.length) (hk : K v (inf v) v = true) : ∀ (d i : Nat), (prodI v).toNat + 1 - i = d → distinct v i →
    ∃ i' j, j < i' ∧ i' ≤ (prodI v).toNat ∧ st v i' = st v j ∧ distinct v i' ∧ Ev (fun k => ice_Rota.m0 k ord (setL v (inf v)) (vis v i) (lst v i) (numL v (st v i)) v (bys v) (prodI v)) (((lst v i').drop j).map (fun c => rd ord c), 0)
  | 0, i, hd, h => by have := pigeon o hk h; omega
  | d + 1, i, hd, h => by
    have hi := pigeon o hk h
    obtain ⟨b1, b2⟩ := prodI_le o
    obtain ⟨s1, s2, s3, s4⟩ := st_ok o hk i
    obtain ⟨n1, n2⟩ := numL_bd s1
    obtain ⟨t, ht, e⟩ := index2_ev (l := vis v i) (by rw [vis_len]; omega) (numL v (st v i))
    rw [vis_len] at ht
    have hwf := i64_wf n1 (by omega)
    rcases ht with ⟨t1, hno⟩ | ⟨j, hj, ej, t1⟩
    · subst t1
      have hd' : distinct v (i + 1) := fun p q hpq hq => by
        by_cases z : q = i
        · subst z
          intro e'
          have := hno p hpq
          rw [vis_rd hpq, e'] at this
          exact this rfl
        · exact h p q hpq (by omega)
      obtain ⟨i', j, g1, g2, g3, g4, g5⟩ := m0_loop o hord hk d (i + 1) (by omega) hd'
      refine ⟨i', j, g1, g2, g3, g4, ?_⟩
      obtain ⟨c, hc, ec⟩ := urgent_ev o s1 (inf v) (K_ever o s1 s2 _)
      have ecc : ch v i = c := chX_eq hc
      subst ecc
      have et := tonight_ev o s1 (prodI v) (ch v i)
      rw [(tn_bd s1 s4).1] at et
      refine Ev.step (f := fun k => (slices_Index_int_int.f k (vis v i) (numL v (st v i))).bind fun t614 => (if t614 = (-1) then (if (vis v i).length < 17592186044416 then ((ice_game_urgent.f k v (bys v) (prodI v) (numL v (st v i)) (setL v (inf v))).bind fun bt618 => (if (lst v i).length < 17592186044416 then ((ice_game_tonight.f k v (bys v) bt618.2 (numL v (st v i)) bt618.1).bind fun bt623 => (ice_Rota.m0 k ord (setL v (inf v)) (vis v i ++ [numL v (st v i)]) (lst v i ++ [bt618.1]) bt623.1 v (bys v) bt623.2)) else (none))) else (none)) else (if 0 ≤ t614 then (if t614 ≤ ((lst v i).length : Int) then ((some ((lst v i).drop (t614 : Int).toNat : List Int)).bind fun y625 => (ice_Rota.m1 k ord y625 (y625.length : Int) 0)) else (none)) else (none)))) (fun k => ?_) (Ev.bind e ?_)
      · rw [ice_Rota.m0, if_pos hwf]
      · have e1 : Ev (fun k => (ice_game_urgent.f k v (bys v) (prodI v) (numL v (st v i)) (setL v (inf v))).bind fun bt618 => ((ice_game_tonight.f k v (bys v) bt618.2 (numL v (st v i)) bt618.1).bind fun bt623 => (ice_Rota.m0 k ord (setL v (inf v)) (vis v i ++ [numL v (st v i)]) (lst v i ++ [bt618.1]) bt623.1 v (bys v) bt623.2))) (((lst v i').drop j).map (fun c => rd ord c), 0) := by
          refine Ev.bind ec (Ev.bind et ?_)
          rw [vis_succ, lst_succ] at g5
          exact g5
        refine Ev.congr (fun k => ?_) e1
        rw [if_pos rfl, if_pos (by rw [vis_len]; omega)]
        simp only [if_pos (show (lst v i).length < 17592186044416 by rw [lst_len]; omega)]
    · subst t1
      rw [vis_rd hj] at ej
      have est : st v i = st v j := num_inj s1 (st_ok o hk j).1 ej.symm
      refine ⟨i, j, hj, hi, est, h, ?_⟩
      have hll : ((lst v i).drop j).length = i - j := by rw [List.length_drop, lst_len]
      have e2 := m1_loop (o := ord) (L := (lst v i).drop j) (by rw [hll]; omega) (fun q hq => by
        rw [hll] at hq
        have : rd ((lst v i).drop j) (q : Int) = ch v (j + q) := by
          rw [rd_dropn (by rw [lst_len]; omega)]
          exact lst_rd (by omega)
        rw [this, hord]
        obtain ⟨f1, f2, _⟩ := (st_ok o hk (j + q)).2.2.1
        exact ⟨f1, f2⟩) _ 0 rfl (by omega)
      rw [List.take_zero, List.map_nil, List.nil_append, List.drop_zero] at e2
      refine Ev.step (f := fun k => (slices_Index_int_int.f k (vis v i) (numL v (st v i))).bind fun t614 => (if t614 = (-1) then (if (vis v i).length < 17592186044416 then ((ice_game_urgent.f k v (bys v) (prodI v) (numL v (st v i)) (setL v (inf v))).bind fun bt618 => (if (lst v i).length < 17592186044416 then ((ice_game_tonight.f k v (bys v) bt618.2 (numL v (st v i)) bt618.1).bind fun bt623 => (ice_Rota.m0 k ord (setL v (inf v)) (vis v i ++ [numL v (st v i)]) (lst v i ++ [bt618.1]) bt623.1 v (bys v) bt623.2)) else (none))) else (none)) else (if 0 ≤ t614 then (if t614 ≤ ((lst v i).length : Int) then ((some ((lst v i).drop (t614 : Int).toNat : List Int)).bind fun y625 => (ice_Rota.m1 k ord y625 (y625.length : Int) 0)) else (none)) else (none)))) (fun k => ?_) (Ev.bind e ?_)
      · rw [ice_Rota.m0, if_pos hwf]
      · refine Ev.congr (fun k => ?_) e2
        rw [if_neg (by omega), if_pos (by omega), if_pos (by rw [lst_len]; omega), show ((j : Int)).toNat = j by omega]
        rfl
/-- What Rota tells of wants that are sorted. -/
def rotaS (v ord : List Int) (r : List Int × Int) : Prop := (K v (inf v) v = false → r = ([], 5)) ∧ (K v (inf v) v = true → ∃ i j, j < i ∧ i ≤ (prodI v).toNat ∧ st v i = st v j ∧ distinct v i ∧ r = (((lst v i).drop j).map (fun c => rd ord c), 0))
theorem g_ev {v ord : List Int} (o : okW v) (hord : ord.length = v.length) : ∃ r, rotaS v ord r ∧ Ev (fun k => ice_Rota.g k v ord) r := by
  obtain ⟨b1, b2⟩ := prodI_le o
  obtain ⟨ow, ew⟩ := num_first (okW_pos o)
  have hf : ice_game_first.f v (bys v) (prodI v) = some (numL v v, prodI v) := by
    unfold ice_game_first.f
    rw [w64 (by omega) (by omega), ew]
  have hrd := setL_rd ow (inf v)
  have hb := numL_bd ow
  by_cases hk : K v (inf v) v = true
  · obtain ⟨i, j, g1, g2, g3, g4, e⟩ := m0_loop o hord hk _ 0 rfl (fun p q hpq hq => by omega)
    refine ⟨(((lst v i).drop j).map (fun c => rd ord c), 0), ⟨fun h => (by rw [hk] at h; cases h), fun _ => ⟨i, j, g1, g2, g3, g4, rfl⟩⟩, ?_⟩
    refine Ev.bind (gameOf_ev o) (Ev.bind (ever_ev o) (Ev.congr (fun k => ?_) e))
    simp only [hf, Option.bind_some]
    rw [if_pos hb.1, if_pos (by rw [setL_len]; omega), if_pos (by rw [hrd]; exact hk)]
    rfl
  · refine ⟨([], 5), ⟨fun _ => rfl, fun h => absurd h hk⟩, ?_⟩
    refine Ev.bind (gameOf_ev o) (Ev.bind (ever_ev o) (Ev.congr (fun k => ?_) (Ev.now (([] : List Int), (5 : Int)))))
    simp only [hf, Option.bind_some]
    rw [if_pos hb.1, if_pos (by rw [setL_len]; omega), if_neg (by rw [hrd]; exact hk)]
theorem l1_loop {w ord : List Int} (hw : w.length ≤ 5) (ho : isOrd w.length ord) {r : List Int × Int} (e : Ev (fun k => ice_Rota.g k (app ord w) ord) r) : ∀ (d i : Nat), ord.length - i = d → i ≤ ord.length →
    Ev (fun k => ice_Rota.l1 k (app (ord.take i) w) ord (ord.length : Int) (i : Int) w) r
  | 0, i, hd, hi => by
    refine Ev.step (f := fun k => ice_Rota.g k (app ord w) ord) (fun k => ?_) e
    rw [ice_Rota.l1, if_neg (by omega), List.take_of_length_le (by omega)]
  | d + 1, i, hd, hi => by
    obtain ⟨l, b, _, _⟩ := id ho
    have hb := b i (by omega)
    refine Ev.step (f := fun k => ice_Rota.l1 k (app (ord.take (i + 1)) w) ord (ord.length : Int) ((i + 1 : Nat) : Int) w) (fun k => ?_) (l1_loop hw ho e d (i + 1) (by omega) (by omega))
    rw [ice_Rota.l1, if_pos (by omega), if_pos (by omega), if_pos (by omega), if_pos hb.1, if_pos hb.2, if_pos (by rw [app_len, List.length_take]; omega), wsucc i (by omega)]
    congr 1
    unfold app
    rw [List.take_add_one, List.getElem?_eq_getElem (by omega), List.map_append, rd_get (show i < ord.length by omega)]
    rfl
theorem l0_loop {w : List Int} (hw : w.length ≤ 5) {r : List Int × Int} (e : Ev (fun k => (slices_SortStableFunc_int_int.f k (idx w.length) (fun a_ b_ => ice_Rota_1.f a_ b_ w)).bind fun t607 => (ice_Rota.l1 k ([] : List Int) t607 ((idx w.length).length : Int) 0 w)) r) : ∀ (d i : Nat), w.length - i = d → i ≤ w.length →
    Ev (fun k => ice_Rota.l0 k (idx i ++ List.replicate (w.length - i) 0) (w.length : Int) (i : Int) w) r
  | 0, i, hd, hi => by
    obtain rfl : i = w.length := by omega
    refine Ev.step (fun k => ?_) e
    rw [ice_Rota.l0, if_neg (by omega), Nat.sub_self, List.replicate_zero, List.append_nil]
  | d + 1, i, hd, hi => by
    have hl : (idx i ++ List.replicate (w.length - i) (0 : Int)).length = w.length := by simp [idx]; omega
    refine Ev.step (f := fun k => ice_Rota.l0 k (idx (i + 1) ++ List.replicate (w.length - (i + 1)) 0) (w.length : Int) ((i + 1 : Nat) : Int) w) (fun k => ?_) (l0_loop hw e d (i + 1) (by omega) (by omega))
    rw [ice_Rota.l0, if_pos (by omega), if_pos (by omega), if_pos (by rw [hl]; omega), wsucc i (by omega), show ((i : Int)).toNat = i by omega]
    congr 1
    have li : (idx i).length = i := by simp [idx]
    rw [List.set_append_right _ _ (by omega), li, Nat.sub_self, show w.length - i = (w.length - (i + 1)) + 1 by omega, List.replicate_succ, List.set_cons_zero]
    unfold idx
    rw [List.range_succ, List.map_append, List.append_assoc]
    rfl
/-- What Rota tells. -/
theorem rota_ev0 (w : List Int) : ∃ r, Ev (fun k => ice_Rota.f k w) r ∧ (¬ okW w → r = ([], 80)) ∧ (okW w → ∃ ord, gOrd w w.length ord ∧ sorted w ord w.length ∧ rotaS (app ord w) ord r) := by
  classical
  by_cases o : okW w
  · obtain ⟨ord, g1, g2, es⟩ := sort_ev (w := w) rfl o.1.2 o.1.1 (idx_gOrd w)
    have oo := app_okW g1.1 rfl o
    obtain ⟨r, hr, eg⟩ := g_ev (v := app ord w) (ord := ord) oo (by rw [app_len])
    refine ⟨r, ?_, fun h => absurd o h, fun _ => ⟨ord, g1, g2, hr⟩⟩
    have ol := o.1.2
    have lo := g1.1.1
    have li : (idx w.length).length = w.length := by simp [idx]
    have e1 := l1_loop (w := w) (ord := ord) ol g1.1 eg _ 0 rfl (by omega)
    have e0 := l0_loop (w := w) ol (r := r) (Ev.bind es (by rw [li]; rw [lo] at e1; exact e1)) _ 0 rfl (by omega)
    refine Ev.bind (ice_Valid_ev w) ?_
    simp only [decide_eq_true o, if_true]
    refine Ev.congr (fun k => ?_) e0
    rw [if_pos (by omega), if_pos (by omega)]
    simp only [Option.bind_some]
    rw [List.length_replicate, show ((w.length : Int) : Int).toNat = w.length by omega]
    rfl
  · refine ⟨([], 80), ?_, fun _ => rfl, fun h => absurd h o⟩
    refine Ev.bind (ice_Valid_ev w) ?_
    simp only [decide_eq_false o, Bool.false_eq_true, if_false]
    exact Ev.now _
theorem mem_srt : ∀ {v : List Int} {m : Nat}, (∀ a ∈ v, (m : Int) ≤ a ∧ a ≤ 8) → v.Pairwise (· ≤ ·) → v ∈ srt v.length m
  | [], m, _, _ => by simp [srt]
  | a :: v, m, h, hp => by
    obtain ⟨p1, p2⟩ := List.pairwise_cons.1 hp
    have ha := h a (by simp)
    rw [List.length_cons, srt, List.mem_flatMap]
    refine ⟨a.toNat, by rw [List.mem_filter, List.mem_range]; simp; omega, ?_⟩
    rw [List.mem_map]
    exact ⟨v, mem_srt (fun b hb => ⟨by have := p1 b hb; omega, (h b (by simp [hb])).2⟩) p2, by rw [show ((a.toNat : Nat) : Int) = a by omega]⟩
theorem known_all {v : List Int} (o : okW v) (hs : v.Pairwise (· ≤ ·)) : known v = true := by
  have h := mem_srt (m := 1) (fun a ha => okW_mem o ha) hs
  obtain ⟨⟨l1, l2⟩, _⟩ := o
  have hl : v.length = 1 ∨ v.length = 2 ∨ v.length = 3 ∨ v.length = 4 ∨ v.length = 5 := by omega
  rcases hl with e | e | e | e | e <;> rw [e] at h
  · exact List.all_eq_true.1 known1 v h
  · exact List.all_eq_true.1 known2 v h
  · exact List.all_eq_true.1 known3 v h
  · exact List.all_eq_true.1 known4 v h
  · exact List.all_eq_true.1 known5 v h
theorem walk_states {v : List Int} : ∀ (p : List Int) (seen : List (List Int)) (s : List Int), walkOk v p seen s = true → ∃ (S : Nat → List Int) (C : Nat → Int), S 0 = s ∧ (∀ i, i < p.length → 0 ≤ C i ∧ C i < v.length ∧ stepOk v (S i) (C i) = true ∧ nx v (S i) (C i) = some (S (i + 1))) ∧ (S p.length ∈ seen ∨ ∃ j, j < p.length ∧ S p.length = S j)
  | [], seen, s, h => by
    refine ⟨fun _ => s, fun _ => 0, rfl, fun i hi => by simp at hi, .inl ?_⟩
    simpa [walkOk] using h
  | c :: p, seen, s, h => by
    rw [walkOk, Bool.and_eq_true, Bool.and_eq_true, Bool.and_eq_true, decide_eq_true_eq, decide_eq_true_eq] at h
    obtain ⟨⟨⟨h1, h2⟩, h3⟩, h4⟩ := h
    cases e : nx v s c with
    | none => rw [e] at h4; cases h4
    | some t =>
      rw [e] at h4
      obtain ⟨S, C, s0, st', en⟩ := walk_states p (s :: seen) t h4
      refine ⟨fun i => match i with | 0 => s | i + 1 => S i, fun i => match i with | 0 => c | i + 1 => C i, rfl, fun i hi => ?_, ?_⟩
      · cases i with
        | zero => exact ⟨h1, h2, h3, by rw [e, ← s0]⟩
        | succ i => exact st' i (by simpa using hi)
      · rw [List.length_cons]
        rcases en with en | ⟨j, hj, ej⟩
        · rcases List.mem_cons.1 en with z | z
          · exact .inr ⟨0, by omega, z⟩
          · exact .inl z
        · exact .inr ⟨j + 1, by omega, ej⟩
theorem short_run {v : List Int} (o : okW v) (hs : v.Pairwise (· ≤ ·)) (hp : prodI v ≤ 3000) (hk : K v (inf v) v = true) : ∃ L j, j < L ∧ L ≤ 100 ∧ st v L = st v j := by
  have hv := (num_first (okW_pos o)).1
  have h := known_all o hs
  rw [known, Bool.or_eq_true, Bool.or_eq_true, Bool.or_eq_true, decide_eq_true_eq, decide_eq_true_eq, Bool.not_eq_true'] at h
  rcases h with ((h | h) | h) | h
  · omega
  · have := dens_ever o hk; omega
  · rw [List.any_eq_true] at h
    obtain ⟨x, hx, ex⟩ := h
    have ex : x.1 = v := by simpa using ex
    have hc := List.all_eq_true.1 certs_ok x hx
    rw [certOk, Bool.and_eq_true, decide_eq_true_eq, ex] at hc
    obtain ⟨S, C, s0, hst, en⟩ := walk_states _ _ _ hc.1
    obtain ⟨j, hj, ej⟩ : ∃ j, j < x.2.length ∧ S x.2.length = S j := by
      rcases en with en | en
      · simp at en
      · exact en
    have ok : ∀ i, i ≤ x.2.length → okSt v (S i) := by
      intro i
      induction i with
      | zero => intro _; rw [s0]; exact hv
      | succ i ih => intro hi; exact nx_ok (ih (by omega)) (hst i (by omega)).2.2.2
    have step : ∀ n, (∀ i, i ≤ x.2.length → K v n (S i) = true) := by
      intro n
      induction n with
      | zero => intro i _; rfl
      | succ n ih =>
        have lt : ∀ i, i < x.2.length → K v (n + 1) (S i) = true := fun i hi => by
          obtain ⟨h1, h2, _, h4⟩ := hst i hi
          exact K_succ.2 ⟨C i, S (i + 1), by omega, h2, h4, ih (i + 1) (by omega)⟩
        intro i hi
        rcases Nat.eq_or_lt_of_le hi with z | z
        · rw [z, ej]; exact lt j hj
        · exact lt i z
    have fm : ∀ i, i < x.2.length → FM v (inf v) (S i) (C i) := fun i hi => by
      obtain ⟨h1, h2, h3, h4⟩ := hst i hi
      refine ⟨h1, h2, good_iff.2 ⟨_, h4, step _ (i + 1) (by omega)⟩, fun c' c1 c2 ha => ?_⟩
      rw [stepOk, List.all_eq_true] at h3
      have h3 := h3 c'.toNat (by rw [List.mem_range]; omega)
      rw [show ((c'.toNat : Nat) : Int) = c' by omega, ha] at h3
      rw [Bool.eq_false_iff]
      intro hg
      obtain ⟨t, g1, g2⟩ := good_iff.1 hg
      rw [g1] at h3
      have := K_ever o (nx_ok (ok i (by omega)) g1) g2 20
      simp [this] at h3
    have same : ∀ i, i ≤ x.2.length → st v i = S i := by
      intro i
      induction i with
      | zero => intro _; rw [s0]; rfl
      | succ i ih =>
        intro hi
        have e := ih (by omega)
        show nxt v (st v i) (chX v (st v i)) = _
        rw [e, chX_eq (fm i (by omega))]
        exact (nx_nxt (okSt_len (ok i (by omega))) (hst i (by omega)).2.2.2).symm
    exact ⟨x.2.length, j, hj, hc.2, by rw [same _ (Nat.le_refl _), same j (by omega)]; exact ej⟩
  · have := K_ever o hv hk 20
    rw [this] at h; cases h
theorem cycle_rota {n : Nat} {ord w : List Int} (ho : isOrd n ord) (hw : w.length = n) (o : okW (app ord w)) (hk : K (app ord w) (inf (app ord w)) (app ord w) = true) {i j : Nat} (hj : j < i) (hi : i ≤ 100) (e : st (app ord w) i = st (app ord w) j) : rota w (((lst (app ord w) i).drop j).map (fun c => rd ord c)) := by
  have hl : ((lst (app ord w) i).drop j).length = i - j := by rw [List.length_drop, lst_len]
  have hr : ∀ q, q < i - j → rd ((lst (app ord w) i).drop j) (q : Int) = ch (app ord w) (j + q) := fun q hq => by
    rw [rd_dropn (by rw [lst_len]; omega)]
    exact lst_rd (by omega)
  have hlo : (app ord w).length = n := by rw [app_len, ho.1]
  refine rota_map ho hw (by omega) (by omega) (fun q hq => ?_) (gaps_of (by omega) (fun q => st (app ord w) (j + q % (i - j))) (fun q => (st_ok o hk _).1) (fun q => ?_))
  · rw [hl] at hq
    rw [hr q hq]
    obtain ⟨f1, f2, _⟩ := (st_ok o hk (j + q)).2.2.1
    rw [hlo] at f2
    exact ⟨f1, f2⟩
  · have hm : q % (i - j) < i - j := Nat.mod_lt _ (by omega)
    have en : nt ((lst (app ord w) i).drop j) q = ch (app ord w) (j + q % (i - j)) := by
      unfold nt
      rw [hl]
      exact hr _ hm
    rw [en, (st_ok o hk (j + q % (i - j))).2.2.2]
    congr 1
    by_cases c : q % (i - j) + 1 < i - j
    · have : (q + 1) % (i - j) = q % (i - j) + 1 := by
        rw [Nat.add_mod, Nat.mod_eq_of_lt (show 1 < i - j by omega), Nat.mod_eq_of_lt c]
      rw [this]
      rfl
    · have h1 : q % (i - j) + 1 = i - j := by omega
      have : (q + 1) % (i - j) = 0 := by
        rw [show q + 1 = (i - j) * (q / (i - j)) + (i - j) by have := Nat.div_add_mod q (i - j); omega, Nat.mul_add_mod, Nat.mod_self]
      rw [this, show j + q % (i - j) + 1 = i by omega]
      exact e
theorem sorted_pair {w ord : List Int} {n : Nat} (ho : isOrd n ord) (h : sorted w ord n) : (app ord w).Pairwise (· ≤ ·) := by
  rw [List.pairwise_iff_getElem]
  intro p q hp hq hpq
  rw [← rd_get hp, ← rd_get hq]
  rw [app_len] at hp hq
  rw [app_rd hp, app_rd hq]
  exact h p q hpq (by rw [← ho.1]; exact hq)
theorem ord_ever {w ord : List Int} (o : okW w) (h : gOrd w w.length ord) : K (app ord w) (inf (app ord w)) (app ord w) = K w (inf w) w := by
  have e : inf (app ord w) = inf w := by unfold inf; rw [h.2]
  rw [e, Bool.eq_iff_iff]
  exact (K_perm h.1 rfl (num_first (okW_pos o)).1).symm
/-- What Rota tells. -/
theorem Rota_ev (w : List Int) : ∃ r : List Int × Int, Ev (fun k => ice_Rota.f k w) r ∧ r.1.length ≤ 40000 ∧ (¬ okW w → r = ([], 80)) ∧ (okW w → (K w (inf w) w = false → r = ([], 5)) ∧ (K w (inf w) w = true → r.2 = 0) ∧ (prodI w ≤ 3000 → K w (inf w) w = true → rota w r.1)) := by
  obtain ⟨r, e, h1, h2⟩ := rota_ev0 w
  by_cases o : okW w
  · obtain ⟨ord, g1, g2, g3, g4⟩ := h2 o
    rw [ord_ever o g1] at g3 g4
    have oo := app_okW g1.1 rfl o
    refine ⟨r, e, ?_, fun h => absurd o h, fun _ => ⟨g3, fun hk => ?_, fun hp hk => ?_⟩⟩
    · cases hk : K w (inf w) w with
      | false => rw [g3 hk]; simp
      | true =>
        obtain ⟨i, j, a1, a2, a3, a4, a5⟩ := g4 hk
        rw [a5, List.length_map, List.length_drop, lst_len]
        have := prodI_le oo
        omega
    · obtain ⟨i, j, a1, a2, a3, a4, a5⟩ := g4 hk
      rw [a5]
    · obtain ⟨i, j, a1, a2, a3, a4, a5⟩ := g4 hk
      rw [a5]
      have hk' : K (app ord w) (inf (app ord w)) (app ord w) = true := by rw [ord_ever o g1]; exact hk
      obtain ⟨L, j', b1, b2, b3⟩ := short_run oo (sorted_pair g1.1 g2) (by rw [g1.2]; exact hp) hk'
      refine cycle_rota g1.1 rfl oo hk' a1 ?_ a3
      rcases Nat.lt_or_ge L i with z | z
      · exact absurd b3.symm (a4 j' L b1 z)
      · omega
  · refine ⟨r, e, by rw [h1 o]; simp, h1, fun h => absurd h o⟩
theorem IceLasts_pure (l0 : List Int) (hx : ∀ x ∈ l0, (Lit.int .i64 x).wf = true) (hl : l0.length ≤ 9223372036854775807) : ∃ k, dropperlaw08_IceLasts.f k l0 = some true := by
  classical
  apply Ev.rounds
  obtain ⟨b, e, hb⟩ := many0_ev l0 hl
  refine Ev.bind e ?_
  cases b with
  | true =>
    simp only [if_true]
    exact Ev.bind awake_ev (Ev.now _)
  | false =>
    simp only [Bool.false_eq_true, if_false]
    obtain ⟨hl20, hp⟩ := hb rfl
    obtain ⟨r, e1, a1, a2⟩ := ice_Lasts_ev l0
    obtain ⟨r', e2, b1, b2⟩ := ref_Lasts_ev l0 hl
    have err : r = r' := by
      by_cases o : okW l0
      · exact lastsS_unique (a1 o) (b1 o)
      · rw [a2 o, b2 o]
    subst err
    refine Ev.bind e1 (Ev.bind e2 ?_)
    simp only [if_true, bne_self_eq_false]
    obtain ⟨q, e3, q0, q1, q2⟩ := Rota_ev l0
    refine Ev.step (f := fun k => (ice_Rota.f k l0).bind fun bt107 => (if r.2 = 80 then (if (bt107.1.length : Int) = 0 then (if bt107.2 = 80 then ((dropperlaw08_Awake.f k).bind fun t111 => (some t111)) else (some false)) else (some false)) else (if r.2 = 0 then (if (bt107.1.length : Int) = 0 then (if bt107.2 = 5 then ((dropperlaw08_Awake.f k).bind fun t112 => (some t112)) else (some false)) else (some false)) else ((dropperref08_IsRota.f k l0 bt107.1).bind fun bt113 => (if bt107.2 = 0 then (if bt113.2 = 0 then (if bt113.1 = true then ((dropperlaw08_Awake.f k).bind fun t115 => (some t115)) else (some false)) else (some false)) else (some false)))))) (fun k => ?_) (Ev.bind e3 ?_)
    · rw [dropperlaw08_IceLasts.j0, if_neg (by decide)]
    · by_cases o : okW l0
      · obtain ⟨c1, c2, c3⟩ := q2 o
        rcases a1 o with ⟨hk, hr⟩ | ⟨hk, n, hr, _⟩
        · have er := ref_IsRota_ev l0 q.1 hl (by omega)
          have hq := c3 (hp o) hk
          unfold isRotaR at er
          rw [if_pos o, decide_eq_true hq] at er
          rw [hr]
          simp only [show ¬ ((5 : Int) = 80) by decide, show ¬ ((5 : Int) = 0) by decide, if_false]
          refine Ev.bind er ?_
          simp only [c2 hk, if_true]
          exact Ev.bind awake_ev (Ev.now _)
        · rw [hr, c1 hk]
          simp only [show ¬ ((0 : Int) = 80) by decide, if_false, if_true, List.length_nil, show ((0 : Nat) : Int) = 0 from rfl]
          exact Ev.bind awake_ev (Ev.now _)
      · rw [a2 o, q1 o]
        simp only [if_true, List.length_nil, show ((0 : Nat) : Int) = 0 from rfl]
        exact Ev.bind awake_ev (Ev.now _)
end Go.Proofs.Ythbpibdfookbmaa.G
end
