/- Plain laws of the printed functions, out of this session's plain texts: what IceStates_pure needs. Plain Lean. -/
import Derived.Test.YthbpibdfookbmaaGF8
import Derived.Test.YthbpibdfookbmaaGF12
import Derived.Test.YthbpibdfookbmaaGF20
import Derived.Test.YthbpibdfookbmaaGF29
import Derived.Test.YthbpibdfookbmaaGF30
import Derived.Test.YthbpibdfookbmaaGF35
import Derived.Test.YthbpibdfookbmaaGF37
import Derived.Test.YthbpibdfookbmaaGF39
import Derived.Test.YthbpibdfookbmaaGF41
import Derived.Test.YthbpibdfookbmaaGF42
import Derived.Test.YthbpibdfookbmaaGF50
import Derived.Test.YthbpibdfookbmaaGF52
import Derived.Test.YthbpibdfookbmaaGF53
import Derived.Test.YthbpibdfookbmaaGF56
import Derived.Test.YthbpibdfookbmaaGF57
import Derived.Test.YthbpibdfookbmaaGF58
import Derived.Test.YthbpibdfookbmaaGF60
import Derived.Test.YthbpibdfookbmaaGF61
import Derived.Test.YthbpibdfookbmaaGF66
import Derived.Test.YthbpibdfookbmaaGF67
import Derived.Test.YthbpibdfookbmaaGF73
import Derived.Test.YthbpibdfookbmaaGF74
import Derived.Test.YthbpibdfookbmaaGF75
import Derived.Test.YthbpibdfookbmaaGF82
import Derived.Test.YthbpibdfookbmaaGF83
import Derived.Test.YthbpibdfookbmaaGF86
import Derived.Test.YthbpibdfookbmaaGF87
namespace Go.Proofs.Ythbpibdfookbmaa.G
set_option linter.unusedVariables false
set_option linter.unusedSimpArgs false
set_option linter.unusedSectionVars false
open Go.RowKit Go.Proofs.YthbpibdfookbmaaW.PrintWords Go.Proofs.YthbpibdfookbmaaW.PrintLast
theorem w64 {n : Int} (h : -9223372036854775808 ≤ n) (h2 : n ≤ 9223372036854775807) : wrap64 n = n := by unfold wrap64; omega
theorem ev_some {α : Type} (r : α) {g : Nat → Option α} (h : ∀ k, g (k + 1) = some r) : Ev g r := Ev.step (f := fun _ => some r) h (Ev.now r)
theorem wsucc (i : Nat) (h : i < 9223372036854775807) : wrap64 ((i : Int) + 1) = ((i + 1 : Nat) : Int) := by rw [w64 (by omega) (by omega)]; rfl
theorem rd_get {w : List Int} {i : Nat} (h : i < w.length) : rd w (i : Int) = w[i] := by
  simp [rd, List.getD_eq_getElem?_getD, h]
theorem rd_drop (w : List Int) (i : Nat) (h : i < w.length) : w.drop i = rd w (i : Int) :: w.drop (i + 1) := by
  rw [rd_get h]; exact List.drop_eq_getElem_cons h
/-- All are at least 1. -/
def pos (w : List Int) : Prop := ∀ a ∈ w, 1 ≤ a
def prodI : List Int → Int
  | [] => 1
  | a :: w => a * prodI w
theorem prodI_pos {w : List Int} (h : pos w) : 1 ≤ prodI w := by
  induction w with
  | nil => exact Int.le_refl _
  | cons a w ih =>
    have h1 := h a (by simp)
    have h2 := ih (fun b hb => h b (by simp [hb]))
    have : 1 * 1 ≤ a * prodI w := Int.mul_le_mul h1 h2 (by omega) (by omega)
    simpa [prodI] using this
theorem pos_drop {w : List Int} (h : pos w) (i : Nat) : pos (w.drop i) := fun a ha => h a (List.mem_of_mem_drop ha)
theorem pos_take {w : List Int} (h : pos w) (i : Nat) : pos (w.take i) := fun a ha => h a (List.mem_of_mem_take ha)
theorem prodI_append (u v : List Int) : prodI (u ++ v) = prodI u * prodI v := by
  induction u with
  | nil => simp [prodI]
  | cons a u ih => simp [prodI, ih, Int.mul_assoc]
theorem prodI_split (w : List Int) (i : Nat) : prodI (w.take i) * prodI (w.drop i) = prodI w := by
  rw [← prodI_append, List.take_append_drop]
theorem prodI_take_succ (w : List Int) (i : Nat) (h : i < w.length) : prodI (w.take (i + 1)) = prodI (w.take i) * rd w (i : Int) := by
  rw [List.take_succ_eq_append_getElem h, prodI_append, rd_get h]
  simp [prodI]
/-- A state of wants: as many numbers, each from 1 to the want. -/
def okSt : List Int → List Int → Prop
  | [], [] => True
  | a :: w, x :: s => (1 ≤ x ∧ x ≤ a) ∧ okSt w s
  | _, _ => False
theorem okSt_len : ∀ {w s : List Int}, okSt w s → s.length = w.length
  | [], [], _ => rfl
  | a :: w, x :: s, h => by simp [okSt_len h.2]
  | [], _ :: _, h => h.elim
  | _ :: _, [], h => h.elim
theorem okSt_iff : ∀ {w s : List Int}, okSt w s ↔ (s.length = w.length ∧ ∀ i, i < w.length → 1 ≤ rd s (i : Int) ∧ rd s (i : Int) ≤ rd w (i : Int))
  | [], [] => by simp [okSt]
  | a :: w, x :: s => by
    unfold okSt
    rw [okSt_iff (w := w) (s := s)]
    constructor
    · rintro ⟨h1, h2, h3⟩
      refine ⟨by simp [h2], fun i hi => ?_⟩
      cases i with
      | zero => exact h1
      | succ i => exact h3 i (by simpa using hi)
    · rintro ⟨h1, h2⟩
      exact ⟨h2 0 (by simp), by simpa using h1, fun i hi => h2 (i + 1) (by simpa using hi)⟩
  | [], _ :: _ => by simp [okSt]
  | _ :: _, [] => by simp [okSt]
/-- The number of a state: its first number counts least. -/
def numL : List Int → List Int → Int
  | a :: w, x :: s => (x - 1) + a * numL w s
  | _, _ => 0
theorem numL_bd : ∀ {w s : List Int}, okSt w s → 0 ≤ numL w s ∧ numL w s < prodI w
  | [], [], _ => by simp [numL, prodI]
  | a :: w, x :: s, h => by
    obtain ⟨h1, h2⟩ := numL_bd h.2
    obtain ⟨⟨h3, h4⟩, h5⟩ := h
    have h6 : 0 ≤ a * numL w s := Int.mul_nonneg (by omega) h1
    have h7 : a * (numL w s + 1) ≤ a * prodI w := Int.mul_le_mul_of_nonneg_left (by omega) (by omega)
    rw [Int.mul_add] at h7
    simp only [numL, prodI]
    omega
  | [], _ :: _, h => h.elim
  | _ :: _, [], h => h.elim
/-- The state with a number. -/
def digL : List Int → Int → List Int
  | [], _ => []
  | a :: w, n => (n % a + 1) :: digL w (n / a)
theorem dig_num : ∀ {w s : List Int}, okSt w s → digL w (numL w s) = s
  | [], [], _ => rfl
  | a :: w, x :: s, h => by
    have h0 := dig_num h.2
    obtain ⟨⟨h3, h4⟩, h5⟩ := h
    have e1 : (x - 1 + a * numL w s) % a = x - 1 := by
      rw [Int.add_mul_emod_self_left]; exact Int.emod_eq_of_lt (by omega) (by omega)
    have e2 : (x - 1 + a * numL w s) / a = numL w s := by
      rw [Int.add_mul_ediv_left _ _ (by omega), Int.ediv_eq_zero_of_lt (by omega) (by omega)]; omega
    simp only [numL, digL, e1, e2, h0]
    congr 1
    omega
  | [], _ :: _, h => h.elim
  | _ :: _, [], h => h.elim
theorem num_dig : ∀ {w : List Int} {n : Int}, pos w → 0 ≤ n → n < prodI w → numL w (digL w n) = n ∧ okSt w (digL w n)
  | [], n, _, h1, h2 => by
    have h2 : n < 1 := h2
    exact ⟨by simp [numL]; omega, trivial⟩
  | a :: w, n, hp, h1, h2 => by
    have ha := hp a (by simp)
    have h2 : n < a * prodI w := h2
    have hq : n / a < prodI w := Int.ediv_lt_of_lt_mul (by omega) (by rw [Int.mul_comm]; exact h2)
    obtain ⟨e, o⟩ := num_dig (w := w) (n := n / a) (fun b hb => hp b (by simp [hb])) (Int.ediv_nonneg h1 (by omega)) hq
    have h3 := Int.emod_nonneg n (show a ≠ 0 by omega)
    have h4 := Int.emod_lt_of_pos n (show 0 < a by omega)
    refine ⟨?_, ⟨by omega, by omega⟩, o⟩
    simp only [digL, numL, e]
    have := Int.emod_add_mul_ediv n a
    omega
/-- The state behind a night in which section c (from 0 on) is scraped; none: it is lost. -/
def nx : List Int → List Int → Int → Option (List Int)
  | a :: w, x :: s, c => if (if c = 0 then a else x - 1) = 0 then none else (nx w s (c - 1)).map fun t => (if c = 0 then a else x - 1) :: t
  | _, _, _ => some []
theorem nx_ok : ∀ {w s : List Int} {c : Int} {t : List Int}, okSt w s → nx w s c = some t → okSt w t
  | [], [], c, t, _, h => by
    obtain rfl := Option.some.inj h
    exact trivial
  | a :: w, x :: s, c, t, ho, h => by
    unfold nx at h
    by_cases z : (if c = 0 then a else x - 1) = 0
    · rw [if_pos z] at h; cases h
    · rw [if_neg z] at h
      obtain ⟨t', ht, rfl⟩ := Option.map_eq_some_iff.1 h
      obtain ⟨⟨h3, h4⟩, h5⟩ := ho
      refine ⟨?_, nx_ok h5 ht⟩
      by_cases q : c = 0
      · rw [if_pos q] at z ⊢; omega
      · rw [if_neg q] at z ⊢; omega
  | [], _ :: _, _, _, ho, _ => ho.elim
  | _ :: _, [], _, _, ho, _ => ho.elim
/-- All choices: none (-1), and each section. -/
def chs (n : Nat) : List Int := (List.range (n + 1)).map fun i : Nat => (i : Int) - 1
theorem mem_chs {n : Nat} {c : Int} : c ∈ chs n ↔ -1 ≤ c ∧ c < n := by
  unfold chs
  simp only [List.mem_map, List.mem_range]
  constructor
  · rintro ⟨i, h, rfl⟩; omega
  · rintro ⟨h1, h2⟩; exact ⟨(c + 1).toNat, by omega, by omega⟩
/-- Whether a state can go on for so many nights. -/
def K (w : List Int) : Nat → List Int → Bool
  | 0, _ => true
  | k + 1, s => (chs w.length).any fun c => match nx w s c with
    | some t => K w k t
    | none => false
theorem K_succ {w : List Int} {k : Nat} {s : List Int} : K w (k + 1) s = true ↔ ∃ (c : Int) (t : List Int), -1 ≤ c ∧ c < w.length ∧ nx w s c = some t ∧ K w k t = true := by
  rw [K, List.any_eq_true]
  constructor
  · rintro ⟨c, hc, h⟩
    obtain ⟨h1, h2⟩ := mem_chs.1 hc
    cases e : nx w s c with
    | none => rw [e] at h; cases h
    | some t => rw [e] at h; exact ⟨c, t, h1, h2, e, h⟩
  · rintro ⟨c, t, h1, h2, e, h⟩
    exact ⟨c, mem_chs.2 ⟨h1, h2⟩, by rw [e]; exact h⟩
theorem K_anti {w : List Int} : ∀ {k : Nat} {s : List Int}, K w (k + 1) s = true → K w k s = true
  | 0, s, _ => rfl
  | k + 1, s, h => by
    obtain ⟨c, t, h1, h2, e, h⟩ := K_succ.1 h
    exact K_succ.2 ⟨c, t, h1, h2, e, K_anti h⟩
theorem K_le {w : List Int} {s : List Int} {k m : Nat} (hk : k ≤ m) (h : K w m s = true) : K w k s = true := by
  induction m with
  | zero => obtain rfl : k = 0 := by omega
            exact h
  | succ m ih =>
    by_cases q : k = m + 1
    · rw [q]; exact h
    · exact ih (by omega) (K_anti h)
/-- From k on nothing changes. -/
def stable (w : List Int) (k : Nat) : Prop := ∀ s, okSt w s → K w (k + 1) s = K w k s
theorem stable_succ {w : List Int} {k : Nat} (h : stable w k) : stable w (k + 1) := by
  intro s hs
  have key : ∀ {s : List Int}, okSt w s → K w (k + 1) s = true → K w (k + 1 + 1) s = true := by
    intro s hs hk
    obtain ⟨c, t, h1, h2, e, h3⟩ := K_succ.1 hk
    exact K_succ.2 ⟨c, t, h1, h2, e, (h t (nx_ok hs e)).trans h3⟩
  cases q : K w (k + 1) s with
  | true => exact key hs q
  | false =>
    cases q2 : K w (k + 1 + 1) s with
    | false => rfl
    | true => exact absurd (K_anti q2) (by rw [q]; decide)
theorem stable_le {w : List Int} {k m : Nat} (h : stable w k) (hk : k ≤ m) : stable w m := by
  induction m with
  | zero => obtain rfl : k = 0 := by omega
            exact h
  | succ m ih =>
    by_cases q : k = m + 1
    · rw [← q]; exact h
    · exact stable_succ (ih (by omega))
theorem stable_eq {w : List Int} {k m : Nat} (h : stable w k) (hk : k ≤ m) {s : List Int} (hs : okSt w s) : K w m s = K w k s := by
  induction m with
  | zero => obtain rfl : k = 0 := by omega
            rfl
  | succ m ih =>
    by_cases q : k = m + 1
    · rw [q]
    · exact (stable_le h (by omega) s hs).trans (ih (by omega))
/-- How many of the numbers below n have p. -/
def cnt (p : Nat → Bool) : Nat → Nat
  | 0 => 0
  | n + 1 => cnt p n + if p n then 1 else 0
theorem cnt_le (p : Nat → Bool) : ∀ n, cnt p n ≤ n
  | 0 => Nat.le_refl _
  | n + 1 => by
    have := cnt_le p n
    unfold cnt; split <;> omega
theorem cnt_mono {p q : Nat → Bool} : ∀ {n : Nat}, (∀ i, i < n → p i = true → q i = true) → cnt p n ≤ cnt q n
  | 0, _ => Nat.le_refl _
  | n + 1, h => by
    have h1 := cnt_mono (n := n) (fun i hi => h i (by omega))
    have h2 := h n (by omega)
    unfold cnt
    by_cases c : p n = true
    · rw [if_pos c, if_pos (h2 c)]; omega
    · rw [if_neg c]; omega
theorem cnt_lt {p q : Nat → Bool} : ∀ {n : Nat}, (∀ i, i < n → p i = true → q i = true) → (∃ i, i < n ∧ p i = false ∧ q i = true) → cnt p n < cnt q n
  | 0, _, h => by obtain ⟨i, hi, _⟩ := h; omega
  | n + 1, h, ⟨i, hi, h3, h4⟩ => by
    have h2 := h n (by omega)
    by_cases q1 : i = n
    · subst q1
      have h1 := cnt_mono (n := i) (fun j hj => h j (by omega))
      unfold cnt
      rw [h3, h4]
      simp; omega
    · have h1 := cnt_lt (n := n) (fun j hj => h j (by omega)) ⟨i, by omega, h3, h4⟩
      unfold cnt
      by_cases c : p n = true
      · rw [if_pos c, if_pos (h2 c)]; omega
      · rw [if_neg c]; omega
theorem cnt_zero {p : Nat → Bool} : ∀ {n : Nat}, cnt p n = 0 → ∀ i, i < n → p i = false
  | 0, _, i, hi => by omega
  | n + 1, h, i, hi => by
    unfold cnt at h
    by_cases c : p n = true
    · rw [if_pos c] at h; omega
    · rw [if_neg c] at h
      by_cases q : i = n
      · rw [q]; simpa using c
      · exact cnt_zero (n := n) (by omega) i (by omega)
/-- How many states can go on for k nights. -/
def cntK (w : List Int) (k : Nat) : Nat := cnt (fun i => K w k (digL w i)) (prodI w).toNat
theorem dig_ok {w : List Int} (hp : pos w) {i : Nat} (hi : i < (prodI w).toNat) : numL w (digL w i) = i ∧ okSt w (digL w i) := num_dig hp (by omega) (by omega)
theorem num_lt {w s : List Int} (h : okSt w s) : (numL w s).toNat < (prodI w).toNat ∧ ((numL w s).toNat : Int) = numL w s := by
  obtain ⟨h1, h2⟩ := numL_bd h
  omega
theorem cntK_step {w : List Int} (hp : pos w) {k : Nat} (h : ¬ stable w k) : cntK w (k + 1) < cntK w k := by
  refine cnt_lt (fun i hi => fun h => K_anti h) ?_
  refine Classical.byContradiction fun hn => h fun s hs => ?_
  obtain ⟨h1, h2⟩ := num_lt hs
  have e : digL w ((numL w s).toNat : Int) = s := by rw [h2]; exact dig_num hs
  cases q : K w (k + 1) s with
  | true => exact (K_anti q).symm
  | false =>
    cases q2 : K w k s with
    | false => rfl
    | true => exact absurd ⟨_, h1, by rw [e]; exact q, by rw [e]; exact q2⟩ hn
/-- Behind as many nights as there are states nothing changes. -/
theorem stable_all {w : List Int} (hp : pos w) {k : Nat} (hk : (prodI w).toNat ≤ k) : stable w k := by
  have key : ∀ m, (∃ j, j < m ∧ stable w j) ∨ cntK w m + m ≤ (prodI w).toNat := by
    intro m
    induction m with
    | zero => exact .inr (by have := cnt_le (fun i => K w 0 (digL w i)) (prodI w).toNat; unfold cntK; omega)
    | succ m ih =>
      rcases ih with ⟨j, hj, h⟩ | h
      · exact .inl ⟨j, by omega, h⟩
      · by_cases c : stable w m
        · exact .inl ⟨m, by omega, c⟩
        · have := cntK_step hp c
          exact .inr (by omega)
  rcases key k with ⟨j, hj, h⟩ | h
  · exact stable_le h (by omega)
  · have h0 : cntK w k = 0 := by omega
    intro s hs
    obtain ⟨h1, h2⟩ := num_lt hs
    have e := cnt_zero h0 _ h1
    simp only [h2, dig_num hs] at e
    rw [e]
    cases q : K w (k + 1) s with
    | false => rfl
    | true => exact absurd (K_anti q) (by rw [e]; decide)
theorem within_some (a b c : Int) : ice_within.f a b c = some (decide (a ≤ b ∧ b ≤ c)) := by
  unfold ice_within.f
  by_cases h : a ≤ b <;> simp [h]
theorem from_some (a b c : Int) : dropperref08_from.f a b c = some (decide (a ≤ b ∧ b ≤ c)) := by
  unfold dropperref08_from.f
  by_cases h : a ≤ b <;> simp [h]
theorem mn_eq (a b : Int) : mn a b = min a b := by unfold mn; split <;> omega
theorem mx_eq (a b : Int) : mx a b = max a b := by unfold mx; split <;> omega
/-- Wants as described. -/
def okW (w : List Int) : Prop := (1 ≤ w.length ∧ w.length ≤ 5) ∧ ∀ i, i < w.length → 1 ≤ rd w (i : Int) ∧ rd w (i : Int) ≤ 8
theorem okW_mem {w : List Int} (h : okW w) {a : Int} (ha : a ∈ w) : 1 ≤ a ∧ a ≤ 8 := by
  obtain ⟨i, hi, rfl⟩ := List.getElem_of_mem ha
  have := h.2 i hi
  rwa [rd_get hi] at this
theorem okW_pos {w : List Int} (h : okW w) : pos w := fun a ha => (okW_mem h ha).1
theorem prodI_le8 : ∀ {w : List Int}, (∀ a ∈ w, 1 ≤ a ∧ a ≤ 8) → prodI w ≤ 8 ^ w.length
  | [], _ => by simp [prodI]
  | a :: w, h => by
    have h1 := h a (by simp)
    have h2 := prodI_le8 (w := w) (fun b hb => h b (by simp [hb]))
    have h3 := prodI_pos (w := w) (fun b hb => (h b (by simp [hb])).1)
    have : a * prodI w ≤ 8 * 8 ^ w.length := Int.mul_le_mul h1.2 h2 (by omega) (by omega)
    simp only [prodI, List.length_cons, Int.pow_succ]
    omega
theorem prodI_le {w : List Int} (h : okW w) : 1 ≤ prodI w ∧ prodI w ≤ 32768 := by
  refine ⟨prodI_pos (okW_pos h), Int.le_trans (prodI_le8 (fun a ha => okW_mem h ha)) ?_⟩
  obtain ⟨⟨h1, h2⟩, _⟩ := h
  generalize w.length = n at h1 h2
  match n, h1, h2 with
  | 1, _, _ => decide
  | 2, _, _ => decide
  | 3, _, _ => decide
  | 4, _, _ => decide
  | 5, _, _ => decide
theorem index_int_loop {l : List Int} (hl : l.length ≤ 9223372036854775807) {fn : Int → Option Bool} {p : Nat → Prop} [DecidablePred p] (hp : ∀ j, j < l.length → fn (rd l (j : Int)) = some (decide (p j))) : ∀ (d i : Nat), l.length - i = d → i ≤ l.length → (∀ j, j < i → ¬ p j) →
    ∃ t : Int, Ev (fun f => slices_IndexFunc_int_int.l0 f l fn l.length i) t ∧ ((t = -1 ∧ ∀ j, j < l.length → ¬ p j) ∨ ∃ k : Nat, t = k ∧ k < l.length ∧ p k ∧ ∀ j, j < k → ¬ p j) := by
  intro d
  induction d with
  | zero =>
    intro i hd hi h1
    obtain rfl : i = l.length := by omega
    refine ⟨-1, ev_some _ fun k => ?_, .inl ⟨rfl, h1⟩⟩
    rw [slices_IndexFunc_int_int.l0, if_neg (by omega)]
  | succ d ih =>
    intro i hd hi h1
    by_cases c : p i
    · refine ⟨i, ev_some _ fun k => ?_, .inr ⟨i, rfl, by omega, c, h1⟩⟩
      rw [slices_IndexFunc_int_int.l0, if_pos (by omega), if_pos (by omega), if_pos (by omega), hp i (by omega), decide_eq_true c]
      rfl
    · obtain ⟨t, e, ht⟩ := ih (i + 1) (by omega) (by omega) (fun j hj => if q : j = i then q ▸ c else h1 j (by omega))
      refine ⟨t, Ev.step (fun k => ?_) e, ht⟩
      rw [slices_IndexFunc_int_int.l0, if_pos (by omega), if_pos (by omega), if_pos (by omega), hp i (by omega), decide_eq_false c, wsucc i (by omega)]
      rfl
/-- Whether one has p: what ContainsFunc tells. -/
theorem contains_ev {l : List Int} (hl : l.length ≤ 9223372036854775807) {fn : Int → Option Bool} {p : Nat → Prop} [DecidablePred p] (hp : ∀ j, j < l.length → fn (rd l (j : Int)) = some (decide (p j))) :
    ∃ b : Bool, Ev (fun f => slices_ContainsFunc_int_int.f f l fn) b ∧ (b = true ↔ ∃ j, j < l.length ∧ p j) := by
  obtain ⟨t, e, ht⟩ := index_int_loop hl hp l.length 0 (by omega) (by omega) (by omega)
  refine ⟨decide (t ≥ 0), Ev.bind e (Ev.now _), ?_⟩
  rcases ht with ⟨rfl, h⟩ | ⟨k, rfl, hk, h1, h2⟩
  · simp only [decide_eq_true_eq]
    exact ⟨fun z => by omega, fun ⟨j, hj, hp⟩ => absurd hp (h j hj)⟩
  · simp only [decide_eq_true_eq]
    exact ⟨fun _ => ⟨k, hk, h1⟩, fun _ => by omega⟩
open Classical in
theorem ice_Valid_ev (w : List Int) : Ev (fun k => ice_Valid.f k w) (decide (okW w)) := by
  by_cases c : 1 ≤ w.length ∧ w.length ≤ 5
  · obtain ⟨b, e, hb⟩ := contains_ev (l := w) (fn := ice_Valid_1.f) (p := fun j => ¬ (1 ≤ rd w (j : Int) ∧ rd w (j : Int) ≤ 8)) (by omega) (fun j hj => by
      unfold ice_Valid_1.f
      rw [within_some]
      simp only [Option.bind_some]
      by_cases c : 1 ≤ rd w (j : Int) ∧ rd w (j : Int) ≤ 8 <;> simp [c])
    refine Ev.congr (f := fun k => (slices_ContainsFunc_int_int.f k w ice_Valid_1.f).bind fun t102 => (some (!t102))) (fun k => ?_) ?_
    · unfold ice_Valid.f
      rw [within_some, decide_eq_true (by omega)]
      rfl
    · have : decide (okW w) = !b := by
        cases b with
        | true =>
          obtain ⟨j, hj, h⟩ := hb.1 rfl
          rw [decide_eq_false (fun z => h (z.2 j hj))]
          rfl
        | false =>
          rw [decide_eq_true ⟨c, fun i hi => Decidable.not_not.1 (fun z => absurd (hb.2 ⟨i, hi, z⟩) (by decide))⟩]
          rfl
      rw [this]
      exact Ev.bind e (Ev.now _)
  · rw [decide_eq_false (fun z => c z.1)]
    refine ev_some _ fun k => ?_
    unfold ice_Valid.f
    rw [within_some, decide_eq_false (by omega)]
    rfl
open Classical in
theorem ref_valid_loop (w : List Int) (hl : w.length ≤ 9223372036854775807) : ∀ (d i : Nat), w.length - i = d → i ≤ w.length → (∀ j, j < i → 1 ≤ rd w (j : Int) ∧ rd w (j : Int) ≤ 8) → Ev (fun k => dropperref08_Valid.l0 k w i) (decide (okW w)) := by
  intro d
  induction d with
  | zero =>
    intro i hd hi h1
    obtain rfl : i = w.length := by omega
    refine ev_some _ fun k => ?_
    rw [dropperref08_Valid.l0, if_neg (by omega), from_some]
    simp only [Option.bind_some]
    congr 1
    exact decide_eq_decide.2 ⟨fun h => ⟨by omega, h1⟩, fun h => by have := h.1; omega⟩
  | succ d ih =>
    intro i hd hi h1
    by_cases c : 1 ≤ rd w (i : Int) ∧ rd w (i : Int) ≤ 8
    · refine Ev.step (fun k => ?_) (ih (i + 1) (by omega) (by omega) (fun j hj => if q : j = i then q ▸ c else h1 j (by omega)))
      rw [dropperref08_Valid.l0, if_pos (by omega), if_pos (by omega), from_some, decide_eq_true c, wsucc i (by omega)]
      rfl
    · rw [decide_eq_false (fun h => c (h.2 i (by omega)))]
      refine ev_some _ fun k => ?_
      rw [dropperref08_Valid.l0, if_pos (by omega), if_pos (by omega), from_some, decide_eq_false c]
      rfl
open Classical in
theorem ref_Valid_ev (w : List Int) (hl : w.length ≤ 9223372036854775807) : Ev (fun k => dropperref08_Valid.f k w) (decide (okW w)) := ref_valid_loop w hl w.length 0 (by omega) (by omega) (by omega)
theorem count_loop {w : List Int} (h : okW w) : ∀ (d i : Nat) (x : Int), w.length - i = d → i ≤ w.length → 1 ≤ x → x * prodI (w.drop i) = prodI w → Ev (fun k => dropperref08_Count.l0 k w x i) (prodI w) := by
  obtain ⟨b1, b2⟩ := prodI_le h
  have hlen := h.1.2
  intro d
  induction d with
  | zero =>
    intro i x hd hi hx e
    obtain rfl : i = w.length := by omega
    rw [List.drop_length] at e
    have e : x = prodI w := by simpa [prodI] using e
    rw [← e]
    refine ev_some _ fun k => ?_
    rw [dropperref08_Count.l0, if_neg (by omega)]
  | succ d ih =>
    intro i x hd hi hx e
    have hr := h.2 i (by omega)
    rw [rd_drop w i (by omega)] at e
    simp only [prodI] at e
    rw [← Int.mul_assoc] at e
    have p1 := prodI_pos (pos_drop (okW_pos h) (i + 1))
    have q1 : 1 ≤ x * rd w (i : Int) := by
      have : 1 * 1 ≤ x * rd w (i : Int) := Int.mul_le_mul hx hr.1 (by omega) (by omega)
      omega
    have q2 : x * rd w (i : Int) ≤ prodI w := by
      have : (x * rd w (i : Int)) * 1 ≤ (x * rd w (i : Int)) * prodI (w.drop (i + 1)) := Int.mul_le_mul_of_nonneg_left p1 (by omega)
      omega
    refine Ev.step (fun k => ?_) (ih (i + 1) _ (by omega) (by omega) q1 e)
    rw [dropperref08_Count.l0, if_pos (by omega), if_pos (by omega), wsucc i (by omega), w64 (by omega) (by omega)]
theorem count_ev {w : List Int} (h : okW w) : Ev (fun k => dropperref08_Count.f k w) (prodI w) := count_loop h w.length 0 1 (by omega) (by omega) (by omega) (by simp)
/-- What Many tells of wants alone. -/
theorem many_end (w : List Int) (hl : w.length ≤ 9223372036854775807) (ls : List (List Int)) (i : Nat) (hi : i = ls.length) (h1 : ls.length ≤ 9223372036854775807) : ∃ b : Bool, Ev (fun k => dropperlaw08_Many.l0 k w ls i) b ∧ (b = false → w.length ≤ 20 ∧ (okW w → prodI w ≤ 3000)) := by
  by_cases c : (w.length : Int) > 20
  · refine ⟨true, ev_some _ fun k => ?_, fun z => by cases z⟩
    rw [dropperlaw08_Many.l0, if_neg (by omega), if_pos c]
  · classical
    refine ⟨decide (okW w ∧ prodI w > 3000), Ev.step (f := fun k => (dropperref08_Valid.f k w).bind fun t102 => (if t102 = true then ((dropperref08_Count.f k w).bind fun t103 => (some (decide (t103 > 3000)))) else (some false))) (fun k => ?_) (Ev.bind (ref_Valid_ev w hl) ?_), fun z => ⟨by omega, fun o => ?_⟩⟩
    · rw [dropperlaw08_Many.l0, if_neg (by omega), if_neg c]
    · by_cases o : okW w
      · simp only [decide_eq_true o, if_true]
        have : decide (okW w ∧ prodI w > 3000) = decide (prodI w > 3000) := decide_eq_decide.2 ⟨fun z => z.2, fun z => ⟨o, z⟩⟩
        rw [this]
        exact Ev.bind (count_ev o) (Ev.now _)
      · simp only [decide_eq_false o, Bool.false_eq_true, if_false]
        rw [decide_eq_false (fun z => o z.1)]
        exact Ev.now _
    · have := of_decide_eq_false z
      have : ¬ prodI w > 3000 := fun q => this ⟨o, q⟩
      omega
theorem many0_ev (w : List Int) (hl : w.length ≤ 9223372036854775807) : ∃ b : Bool, Ev (fun k => dropperlaw08_Many.f k w ([] : List (List Int))) b ∧ (b = false → w.length ≤ 20 ∧ (okW w → prodI w ≤ 3000)) := many_end w hl [] 0 rfl (by simp)
set_option maxRecDepth 100000 in
theorem awake_ev : Ev (fun k => dropperlaw08_Awake.f k) true := Ev.of (fun k => dropperlaw08_Awake.mono k) (k := 300) (by decide +kernel)
/-- What a digit of each section counts. -/
def bysU (w : List Int) (n : Nat) : List Int := (List.range n).map fun i => prodI (w.take i)
def bys (w : List Int) : List Int := bysU w w.length
theorem rd_bys {w : List Int} {i : Nat} (h : i < w.length) : rd (bys w) (i : Int) = prodI (w.take i) := by
  simp [bys, bysU, rd, List.getD_eq_getElem?_getD, h]
theorem bys_len (w : List Int) : (bys w).length = w.length := by simp [bys, bysU]
theorem by_bd {w : List Int} (h : okW w) (i : Nat) : 1 ≤ prodI (w.take i) ∧ prodI (w.take i) ≤ prodI w := by
  have h1 := prodI_pos (pos_take (okW_pos h) i)
  have h2 := prodI_pos (pos_drop (okW_pos h) i)
  have h3 := prodI_split w i
  refine ⟨h1, ?_⟩
  have : prodI (w.take i) * 1 ≤ prodI (w.take i) * prodI (w.drop i) := Int.mul_le_mul_of_nonneg_left h2 (by omega)
  omega
theorem gameOf_loop {w : List Int} (h : okW w) : ∀ (d i : Nat), w.length - i = d → i ≤ w.length → Ev (fun k => ice_gameOf.l0 k w w.length i w (bysU w i) (prodI (w.take i))) (w, bys w, prodI w) := by
  have hlen := h.1.2
  obtain ⟨b1, b2⟩ := prodI_le h
  intro d
  induction d with
  | zero =>
    intro i hd hi
    obtain rfl : i = w.length := by omega
    refine ev_some _ fun k => ?_
    rw [ice_gameOf.l0, if_neg (by omega), List.take_length]
    rfl
  | succ d ih =>
    intro i hd hi
    have e := ih (i + 1) (by omega) (by omega)
    have p := prodI_take_succ w i (by omega)
    have q := by_bd h (i + 1)
    have u : bysU w (i + 1) = bysU w i ++ [prodI (w.take i)] := by simp [bysU, List.range_succ]
    rw [u] at e
    refine Ev.step (fun k => ?_) e
    rw [ice_gameOf.l0, if_pos (by omega), if_pos (by omega), if_pos (by omega), if_pos (by simp [bysU]; omega), wsucc i (by omega), ← p, w64 (by omega) (by omega)]
theorem gameOf_ev {w : List Int} (h : okW w) : Ev (fun k => ice_gameOf.f k w) (w, bys w, prodI w) := gameOf_loop h w.length 0 (by omega) (by omega)
theorem num_div : ∀ {w s : List Int} (i : Nat), okSt w s → numL w s / prodI (w.take i) = numL (w.drop i) (s.drop i)
  | w, s, 0, h => by simp [prodI]
  | [], [], i + 1, h => by simp [numL, prodI]
  | a :: w, x :: s, i + 1, h => by
    have e := num_div (w := w) (s := s) i h.2
    have h1 := numL_bd h
    obtain ⟨⟨h3, h4⟩, h5⟩ := h
    simp only [List.take_succ_cons, List.drop_succ_cons, prodI]
    rw [← e, ← Int.ediv_ediv_of_nonneg (by omega)]
    congr 1
    simp only [numL]
    rw [Int.add_mul_ediv_left _ _ (by omega), Int.ediv_eq_zero_of_lt (by omega) (by omega)]
    omega
  | [], _ :: _, _, h => h.elim
  | _ :: _, [], _, h => h.elim
theorem num_digit {w s : List Int} (h : okSt w s) {i : Nat} (hi : i < w.length) : (numL w s / prodI (w.take i)) % rd w (i : Int) + 1 = rd s (i : Int) := by
  have hs := okSt_len h
  obtain ⟨h1, h2⟩ := (okSt_iff.1 h).2 i hi
  rw [num_div i h, rd_drop w i hi, rd_drop s i (by omega)]
  simp only [numL]
  rw [Int.add_mul_emod_self_left, Int.emod_eq_of_lt (by omega) (by omega)]
  omega
theorem digit_some {w s : List Int} (o : okW w) (h : okSt w s) (N : Int) {i : Nat} (hi : i < w.length) : ice_game_digit.f w (bys w) N (numL w s) i = some (rd s (i : Int), N) := by
  obtain ⟨b1, b2⟩ := prodI_le o
  obtain ⟨n1, n2⟩ := numL_bd h
  have q := by_bd o i
  have r := o.2 i hi
  have hx := (okSt_iff.1 h).2 i hi
  have e := num_digit h hi
  have z1 : 0 ≤ numL w s / prodI (w.take i) := Int.ediv_nonneg n1 (by omega)
  have z2 : numL w s / prodI (w.take i) ≤ numL w s := Int.ediv_le_self _ n1
  unfold ice_game_digit.f
  rw [if_pos (by omega), if_pos (by rw [bys_len]; omega), rd_bys hi, if_neg (by omega), if_pos (by omega), if_neg (by omega), Int.tdiv_eq_ediv_of_nonneg n1, w64 (n := numL w s / prodI (w.take i)) (by omega) (by omega), Int.tmod_eq_emod_of_nonneg z1, w64 (by omega) (by omega), e]
/-- The number of the state behind a night; -1: it is lost. -/
def tn (w s : List Int) (c : Int) : Int := match nx w s c with
  | some t => numL w t
  | none => -1
theorem tonight_loop {w s : List Int} (o : okW w) (h : okSt w s) (N c : Int) : ∀ (d i : Nat) (acc : Int), w.length - i = d → i ≤ w.length → 0 ≤ acc → acc < prodI (w.take i) →
    Ev (fun k => ice_game_tonight.l0 k (numL w s) c acc w w.length i w (bys w) N) (match nx (w.drop i) (s.drop i) (c - i) with | some t => acc + prodI (w.take i) * numL (w.drop i) t | none => -1, N) := by
  have hlen := o.1.2
  have hs := okSt_len h
  obtain ⟨b1, b2⟩ := prodI_le o
  intro d
  induction d with
  | zero =>
    intro i acc hd hi ha hb
    obtain rfl : i = w.length := by omega
    refine ev_some _ fun k => ?_
    rw [ice_game_tonight.l0, if_neg (by omega), List.drop_length]
    simp [nx, numL]
  | succ d ih =>
    intro i acc hd hi ha hb
    have hx := (okSt_iff.1 h).2 i (by omega)
    have hw8 := o.2 i (by omega)
    have p := prodI_take_succ w i (by omega)
    have q0 := by_bd o i
    have q := by_bd o (i + 1)
    have dg := digit_some o h N (i := i) (by omega)
    have go : ∀ m : Int, 1 ≤ m → m ≤ rd w (i : Int) → Ev (fun k => ice_game_tonight.l0 k (numL w s) c (acc + (m - 1) * prodI (w.take i)) w w.length ((i + 1 : Nat) : Int) w (bys w) N)
        (match (nx (w.drop (i + 1)) (s.drop (i + 1)) (c - i - 1)).map (fun t => m :: t) with | some t => acc + prodI (w.take i) * numL (w.drop i) t | none => -1, N) := by
      intro m h1 h2
      have m1 : 0 ≤ (m - 1) * prodI (w.take i) := Int.mul_nonneg (by omega) (by omega)
      have m2 : (m - 1) * prodI (w.take i) ≤ (rd w (i : Int) - 1) * prodI (w.take i) := Int.mul_le_mul_of_nonneg_right (by omega) (by omega)
      have m3 : (rd w (i : Int) - 1) * prodI (w.take i) = prodI (w.take (i + 1)) - prodI (w.take i) := by rw [p, Int.sub_mul, Int.mul_comm]; omega
      have e := ih (i + 1) (acc + (m - 1) * prodI (w.take i)) (by omega) (by omega) (by omega) (by omega)
      rw [show c - ((i + 1 : Nat) : Int) = c - i - 1 by omega] at e
      rw [rd_drop w i (by omega)]
      cases z : nx (w.drop (i + 1)) (s.drop (i + 1)) (c - i - 1) with
      | none => rw [z] at e; exact e
      | some t =>
        rw [z] at e
        have e2 : acc + (m - 1) * prodI (w.take i) + prodI (w.take (i + 1)) * numL (w.drop (i + 1)) t = acc + prodI (w.take i) * numL (rd w (i : Int) :: w.drop (i + 1)) (m :: t) := by
          simp only [numL]
          rw [p, Int.mul_add, Int.mul_comm (m - 1), Int.mul_assoc]
          omega
        simp only [Option.map_some]
        rw [← e2]
        exact e
    rw [show nx (w.drop i) (s.drop i) (c - i) = if (if c - i = 0 then rd w (i : Int) else rd s (i : Int) - 1) = 0 then none else (nx (w.drop (i + 1)) (s.drop (i + 1)) (c - i - 1)).map fun t => (if c - i = 0 then rd w (i : Int) else rd s (i : Int) - 1) :: t by rw [rd_drop w i (by omega), rd_drop s i (by omega)]; rfl]
    by_cases cc : (i : Int) = c
    · have g := go (rd w (i : Int)) (by omega) (by omega)
      rw [if_pos (show c - (i : Int) = 0 by omega), if_neg (by omega)]
      have m1 : 0 ≤ (rd w (i : Int) - 1) * prodI (w.take i) := Int.mul_nonneg (by omega) (by omega)
      have m3 : (rd w (i : Int) - 1) * prodI (w.take i) = prodI (w.take (i + 1)) - prodI (w.take i) := by rw [p, Int.sub_mul, Int.mul_comm]; omega
      refine Ev.step (fun k => ?_) g
      rw [ice_game_tonight.l0, if_pos (by omega), if_pos (by omega), if_pos (by omega), dg]
      simp only [Option.bind_some]
      rw [if_pos cc, if_pos (by rw [bys_len]; omega), rd_bys (by omega), wsucc i (by omega), w64 (n := rd w (i : Int) - 1) (by omega) (by omega), w64 (n := (rd w (i : Int) - 1) * prodI (w.take i)) (by omega) (by omega), w64 (by omega) (by omega)]
    · rw [if_neg (show ¬ c - (i : Int) = 0 by omega)]
      by_cases c1 : rd s (i : Int) - 1 = 0
      · rw [if_pos c1]
        refine ev_some _ fun k => ?_
        rw [ice_game_tonight.l0, if_pos (by omega), if_pos (by omega), if_pos (by omega), dg]
        simp only [Option.bind_some]
        rw [if_neg cc, w64 (n := rd s (i : Int) - 1) (by omega) (by omega), if_pos c1]
      · rw [if_neg c1]
        have g := go (rd s (i : Int) - 1) (by omega) (by omega)
        have m1 : 0 ≤ (rd s (i : Int) - 1 - 1) * prodI (w.take i) := Int.mul_nonneg (by omega) (by omega)
        have m2 : (rd s (i : Int) - 1 - 1) * prodI (w.take i) ≤ (rd w (i : Int) - 1) * prodI (w.take i) := Int.mul_le_mul_of_nonneg_right (by omega) (by omega)
        have m3 : (rd w (i : Int) - 1) * prodI (w.take i) = prodI (w.take (i + 1)) - prodI (w.take i) := by rw [p, Int.sub_mul, Int.mul_comm]; omega
        refine Ev.step (fun k => ?_) g
        rw [ice_game_tonight.l0, if_pos (by omega), if_pos (by omega), if_pos (by omega), dg]
        simp only [Option.bind_some]
        rw [if_neg cc, w64 (n := rd s (i : Int) - 1) (by omega) (by omega), if_neg c1, if_pos (by rw [bys_len]; omega), rd_bys (by omega), wsucc i (by omega), w64 (n := rd s (i : Int) - 1 - 1) (by omega) (by omega), w64 (n := (rd s (i : Int) - 1 - 1) * prodI (w.take i)) (by omega) (by omega), w64 (by omega) (by omega)]
theorem tonight_ev {w s : List Int} (o : okW w) (h : okSt w s) (N c : Int) : Ev (fun k => ice_game_tonight.f k w (bys w) N (numL w s) c) (tn w s c, N) := by
  have e := tonight_loop o h N c w.length 0 0 (by omega) (by omega) (by omega) (by simp [prodI])
  simp only [List.drop_zero, List.take_zero, prodI, Int.one_mul, Int.zero_add, Int.natCast_zero, Int.sub_zero] at e
  exact e
theorem tn_bd {w s : List Int} (h : okSt w s) {c : Int} {t : List Int} (e : nx w s c = some t) : tn w s c = numL w t ∧ okSt w t ∧ 0 ≤ numL w t ∧ numL w t < prodI w := by
  have ot := nx_ok h e
  refine ⟨?_, ot, numL_bd ot⟩
  unfold tn
  rw [e]
/-- The program's set of the states that can go on for k nights. -/
def setL (w : List Int) (k : Nat) : List Bool := (List.range (prodI w).toNat).map fun i : Nat => K w k (digL w (i : Int))
theorem setL_len (w : List Int) (k : Nat) : (setL w k).length = (prodI w).toNat := by simp [setL]
theorem setL_rd {w s : List Int} (h : okSt w s) (k : Nat) : rdOf false (setL w k) (numL w s) = K w k s := by
  obtain ⟨h1, h2⟩ := num_lt h
  have : (digL w ((numL w s).toNat : Int)) = s := by rw [h2]; exact dig_num h
  unfold setL rdOf
  rw [List.getD_eq_getElem?_getD, List.getElem?_map, List.getElem?_range h1]
  simp only [Option.map_some, Option.getD_some, this]
theorem setL_eq {w : List Int} (hp : pos w) {k m : Nat} : setL w k = setL w m ↔ ∀ s, okSt w s → K w k s = K w m s := by
  constructor
  · intro e s hs
    rw [← setL_rd hs, ← setL_rd hs, e]
  · intro h
    unfold setL
    refine List.map_congr_left fun i hi => ?_
    exact h _ (dig_ok hp (List.mem_range.1 hi)).2
theorem setL_stable {w : List Int} (hp : pos w) {k : Nat} : setL w (k + 1) = setL w k ↔ stable w k := setL_eq hp
theorem all_some {w : List Int} (o : okW w) : ice_game_all.f w (bys w) (prodI w) = some (setL w 0, prodI w) := by
  obtain ⟨b1, b2⟩ := prodI_le o
  unfold ice_game_all.f slices_Repeat_bool_bool.f
  rw [if_pos (by simp), if_pos (by omega), if_pos (by omega)]
  simp only [Option.bind_some]
  congr 2
  unfold setL
  refine List.ext_getElem (by simp) fun i h1 h2 => ?_
  simp [K, rdOf]
/-- Whether a choice leads on. -/
def good (w : List Int) (k : Nat) (s : List Int) (c : Int) : Bool := match nx w s c with
  | some t => K w k t
  | none => false
def gF (w : List Int) (k : Nat) (s : List Int) : Nat → Bool
  | 0 => false
  | m + 1 => good w k s ((w.length : Int) - (m + 1)) || gF w k s m
theorem gF_iff {w : List Int} {k : Nat} {s : List Int} : ∀ {m : Nat}, gF w k s m = true ↔ ∃ c : Int, (w.length : Int) - m ≤ c ∧ c < w.length ∧ good w k s c = true
  | 0 => by
    simp only [gF, Bool.false_eq_true, false_iff]
    rintro ⟨c, h1, h2, _⟩; omega
  | m + 1 => by
    simp only [gF, Bool.or_eq_true]
    rw [gF_iff (m := m)]
    constructor
    · rintro (h | ⟨c, h1, h2, h3⟩)
      · exact ⟨_, by omega, by omega, h⟩
      · exact ⟨c, by omega, h2, h3⟩
    · rintro ⟨c, h1, h2, h3⟩
      by_cases q : c = (w.length : Int) - (m + 1)
      · left; rw [← q]; exact h3
      · right; exact ⟨c, by omega, h2, h3⟩
theorem good_iff {w : List Int} {k : Nat} {s : List Int} {c : Int} : good w k s c = true ↔ ∃ t, nx w s c = some t ∧ K w k t = true := by
  unfold good
  cases nx w s c with
  | none => simp
  | some t => simp
theorem K_gF {w : List Int} {k : Nat} {s : List Int} : K w (k + 1) s = gF w k s (w.length + 1) := by
  rw [Bool.eq_iff_iff, K_succ, gF_iff]
  constructor
  · rintro ⟨c, t, h1, h2, h3, h4⟩
    exact ⟨c, by omega, h2, good_iff.2 ⟨t, h3, h4⟩⟩
  · rintro ⟨c, h1, h2, h3⟩
    obtain ⟨t, h4, h5⟩ := good_iff.1 h3
    exact ⟨c, t, by omega, h2, h4, h5⟩
/-- The set under way: the first j numbers are told, number j is b, the others false. -/
def mid (f : Nat → Bool) (N j : Nat) (b : Bool) : List Bool := (List.range j).map f ++ b :: List.replicate (N - j - 1) false
theorem mid_len {f : Nat → Bool} {N j : Nat} {b : Bool} (h : j < N) : (mid f N j b).length = N := by simp [mid]; omega
theorem mid_rd {f : Nat → Bool} {N j : Nat} {b : Bool} (h : j < N) : rdOf false (mid f N j b) (j : Int) = b := by
  simp [mid, rdOf, List.getD_eq_getElem?_getD, List.getElem?_append]
theorem mid_set {f : Nat → Bool} {N j : Nat} {b v : Bool} (h : j < N) : (mid f N j b).set j v = mid f N j v := by
  simp [mid, List.set_append]
theorem mid_next {f : Nat → Bool} {N j : Nat} (h : j + 1 < N) : mid f N j (f j) = mid f N (j + 1) false := by
  unfold mid
  rw [List.range_succ, List.map_append, List.append_assoc]
  congr 1
  have : N - j - 1 = N - (j + 1) - 1 + 1 := by omega
  rw [this, List.replicate_succ]
  rfl
theorem mid_last {f : Nat → Bool} {N j : Nat} (h : j + 1 = N) : mid f N j (f j) = (List.range N).map f := by
  unfold mid
  rw [← h, List.range_succ, List.map_append, show j + 1 - j - 1 = 0 by omega]
  rfl
theorem mid_first {f : Nat → Bool} {N : Nat} (h : 0 < N) : mid f N 0 false = List.replicate N false := by
  unfold mid
  obtain ⟨m, rfl⟩ : ∃ m, N = m + 1 := ⟨N - 1, by omega⟩
  simp [List.replicate_succ]
theorem before_in {w : List Int} (o : okW w) (k0 : Nat) {j : Nat} (hj : j < (prodI w).toNat) {f : Nat → Bool} {r : List Bool × Int} : ∀ (m : Nat) (b : Bool), m ≤ w.length + 1 →
    Ev (fun k => ice_game_before.l0 k (setL w k0) (mid f (prodI w).toNat j (b || gF w k0 (digL w j) m)) (prodI w) ((j + 1 : Nat) : Int) w (bys w) (prodI w)) r →
    Ev (fun k => ice_game_before.l1 k (setL w k0) (mid f (prodI w).toNat j b) j ((w.length : Int) - m) (prodI w) j w (bys w) (prodI w)) r := by
  obtain ⟨b1, b2⟩ := prodI_le o
  have hlen := o.1.2
  obtain ⟨nd, od⟩ := dig_ok (okW_pos o) hj
  intro m
  induction m with
  | zero =>
    intro b hm e
    simp only [gF, Bool.or_false] at e
    refine Ev.step (fun k => ?_) e
    rw [ice_game_before.l1, if_neg (by omega), wsucc j (by omega)]
  | succ m ih =>
    intro b hm e
    cases b with
    | true =>
      simp only [Bool.true_or] at e
      refine Ev.step (fun k => ?_) e
      rw [ice_game_before.l1, if_pos (by omega), if_pos (by omega), if_pos (by rw [mid_len hj]; omega), if_pos (mid_rd hj), wsucc j (by omega)]
    | false =>
      have ht := tonight_ev o od (prodI w) ((w.length : Int) - ((m + 1 : Nat) : Int))
      rw [nd] at ht
      refine Ev.step (f := fun k => (ice_game_tonight.f k w (bys w) (prodI w) j ((w.length : Int) - ((m + 1 : Nat) : Int))).bind fun bt105 => (if bt105.1 = (-1) then (ice_game_before.l1 k (setL w k0) ((mid f (prodI w).toNat j false).set ((j : Int)).toNat false) j (wrap64 ((w.length : Int) - ((m + 1 : Nat) : Int) + 1)) (prodI w) j w (bys w) bt105.2) else (if 0 ≤ bt105.1 then (if bt105.1 < ((setL w k0).length : Int) then (ice_game_before.l1 k (setL w k0) ((mid f (prodI w).toNat j false).set ((j : Int)).toNat (rdOf false (setL w k0) bt105.1)) j (wrap64 ((w.length : Int) - ((m + 1 : Nat) : Int) + 1)) (prodI w) j w (bys w) bt105.2) else (none)) else (none)))) (fun k => ?_) (Ev.bind ht ?_)
      · rw [ice_game_before.l1, if_pos (by omega), if_pos (by omega), if_pos (by rw [mid_len hj]; omega), if_neg (by rw [mid_rd hj]; decide)]
      · have wz : wrap64 ((w.length : Int) - ((m + 1 : Nat) : Int) + 1) = (w.length : Int) - m := by rw [w64 (by omega) (by omega)]; omega
        simp only [Bool.false_or, gF] at e
        have gd : good w k0 (digL w j) ((w.length : Int) - ((m : Int) + 1)) = good w k0 (digL w j) ((w.length : Int) - ((m + 1 : Nat) : Int)) := rfl
        rw [gd] at e
        cases z : nx w (digL w j) ((w.length : Int) - ((m + 1 : Nat) : Int)) with
        | none =>
          have e0 : good w k0 (digL w j) ((w.length : Int) - ((m + 1 : Nat) : Int)) = false := by unfold good; rw [z]
          rw [e0] at e
          have e1 : tn w (digL w j) ((w.length : Int) - ((m + 1 : Nat) : Int)) = -1 := by unfold tn; rw [z]
          rw [e1]
          refine Ev.congr (fun k => ?_) (ih false (by omega) e)
          rw [if_pos rfl, wz, Int.toNat_natCast, mid_set hj]
        | some t =>
          obtain ⟨e1, ot, t1, t2⟩ := tn_bd od z
          have e0 : good w k0 (digL w j) ((w.length : Int) - ((m + 1 : Nat) : Int)) = K w k0 t := by unfold good; rw [z]
          rw [e0] at e
          rw [e1]
          refine Ev.congr (fun k => ?_) (ih (K w k0 t) (by omega) e)
          rw [if_neg (by omega), if_pos t1, if_pos (by rw [setL_len]; omega), wz, Int.toNat_natCast, mid_set hj, setL_rd ot]
theorem before_loop {w : List Int} (o : okW w) (k0 : Nat) : ∀ (d j : Nat), (prodI w).toNat - j = d → 0 < d →
    Ev (fun k => ice_game_before.l0 k (setL w k0) (mid (fun i => K w (k0 + 1) (digL w (i : Int))) (prodI w).toNat j false) (prodI w) j w (bys w) (prodI w)) (setL w (k0 + 1), prodI w) := by
  obtain ⟨b1, b2⟩ := prodI_le o
  have hlen := o.1.2
  intro d
  induction d with
  | zero => intro j _ h; omega
  | succ d ih =>
    intro j hd _
    refine Ev.step (f := fun k => ice_game_before.l1 k (setL w k0) (mid (fun i => K w (k0 + 1) (digL w (i : Int))) (prodI w).toNat j false) j (-1) (prodI w) j w (bys w) (prodI w)) (fun k => ?_) ?_
    · rw [ice_game_before.l0, if_pos (by omega)]
    · have e := before_in o k0 (j := j) (by omega) (f := fun i => K w (k0 + 1) (digL w (i : Int))) (r := (setL w (k0 + 1), prodI w)) (w.length + 1) false (by omega)
      rw [show (w.length : Int) - ((w.length + 1 : Nat) : Int) = -1 by omega] at e
      refine e ?_
      rw [Bool.false_or, ← K_gF]
      by_cases q : d = 0
      · refine ev_some _ fun k => ?_
        rw [ice_game_before.l0, if_neg (by omega)]
        rw [mid_last (f := fun i => K w (k0 + 1) (digL w (i : Int))) (by omega)]
        rfl
      · have e2 := ih (j + 1) (by omega) (by omega)
        rw [← mid_next (f := fun i => K w (k0 + 1) (digL w (i : Int))) (by omega)] at e2
        exact e2
theorem before_ev {w : List Int} (o : okW w) (k0 : Nat) : Ev (fun k => ice_game_before.f k w (bys w) (prodI w) (setL w k0)) (setL w (k0 + 1), prodI w) := by
  obtain ⟨b1, b2⟩ := prodI_le o
  have e := before_loop o k0 (prodI w).toNat 0 (by omega) (by omega)
  rw [mid_first (by omega)] at e
  refine Ev.congr (fun k => ?_) e
  unfold ice_game_before.f
  rw [if_pos (by omega), if_pos (by omega)]
  simp only [Option.bind_some, List.length_replicate]
  rw [show (((prodI w).toNat : Nat) : Int) = prodI w by omega]
  rfl
theorem equal_loop {a b : List Bool} (hab : a.length = b.length) (hl : a.length ≤ 4611686018427387904) : ∀ (d i : Nat), a.length - i = d → i ≤ a.length → (∀ j, j < i → rdOf false a (j : Int) = rdOf false b (j : Int)) → Ev (fun k => slices_Equal_bool_bool.l0 k a b a.length i) (decide (a = b)) := by
  intro d
  induction d with
  | zero =>
    intro i hd hi h1
    obtain rfl : i = a.length := by omega
    refine ev_some _ fun k => ?_
    rw [slices_Equal_bool_bool.l0, if_neg (by omega), decide_eq_true]
    refine List.ext_getElem hab fun j h2 h3 => ?_
    have := h1 j h2
    simpa [rdOf, List.getD_eq_getElem?_getD, h2, h3] using this
  | succ d ih =>
    intro i hd hi h1
    by_cases c : rdOf false a (i : Int) = rdOf false b (i : Int)
    · refine Ev.step (fun k => ?_) (ih (i + 1) (by omega) (by omega) (fun j hj => if q : j = i then q ▸ c else h1 j (by omega)))
      rw [slices_Equal_bool_bool.l0, if_pos (by omega), if_pos (by omega), if_pos (by omega), if_pos (by omega), c, if_neg (by simp), wsucc i (by omega)]
    · refine ev_some _ fun k => ?_
      rw [slices_Equal_bool_bool.l0, if_pos (by omega), if_pos (by omega), if_pos (by omega), if_pos (by omega), if_pos (by simpa using c), decide_eq_false]
      rintro rfl
      exact c rfl
theorem equal_ev {a b : List Bool} (hab : a.length = b.length) (hl : a.length ≤ 4611686018427387904) : Ev (fun k => slices_Equal_bool_bool.f k a b) (decide (a = b)) := by
  refine Ev.congr (fun k => ?_) (equal_loop hab hl a.length 0 (by omega) (by omega) (by omega))
  unfold slices_Equal_bool_bool.f
  rw [if_pos (by omega)]
  rfl
theorem setEq_ev {w : List Int} (o : okW w) (k0 m : Nat) : Ev (fun k => slices_Equal_bool_bool.f k (setL w k0) (setL w m)) (decide (setL w k0 = setL w m)) := by
  obtain ⟨b1, b2⟩ := prodI_le o
  exact equal_ev (by rw [setL_len, setL_len]) (by rw [setL_len]; omega)
theorem going_loop {w : List Int} (o : okW w) {n : Nat} (hn : n ≤ 1000000) : ∀ (d i : Nat), n - i = d → i ≤ n → Ev (fun k => ice_game_going.l0 k (setL w i) n i w (bys w) (prodI w)) (setL w n, prodI w) := by
  intro d
  induction d with
  | zero =>
    intro i hd hi
    obtain rfl : i = n := by omega
    refine ev_some _ fun k => ?_
    rw [ice_game_going.l0, if_neg (by omega)]
  | succ d ih =>
    intro i hd hi
    refine Ev.step (f := fun k => (ice_game_before.f k w (bys w) (prodI w) (setL w i)).bind fun bt105 => ((slices_Equal_bool_bool.f k bt105.1 (setL w i)).bind fun t109 => (if t109 = true then (some (setL w i, bt105.2)) else (ice_game_going.l0 k bt105.1 n (wrap64 ((i : Int) + 1)) w (bys w) bt105.2)))) (fun k => ?_) (Ev.bind (before_ev o i) (Ev.bind (setEq_ev o (i + 1) i) ?_))
    · rw [ice_game_going.l0, if_pos (by omega)]
    · by_cases c : setL w (i + 1) = setL w i
      · simp only [decide_eq_true c, if_true]
        have st := (setL_stable (okW_pos o)).1 c
        have : setL w i = setL w n := (setL_eq (okW_pos o)).2 fun s hs => (stable_eq st hi hs).symm
        rw [this]
        exact Ev.now _
      · simp only [decide_eq_false c, Bool.false_eq_true, if_false]
        rw [wsucc i (by omega)]
        exact ih (i + 1) (by omega) (by omega)
theorem going_ev {w : List Int} (o : okW w) {n : Int} (h0 : 0 ≤ n) (hn : n ≤ 1000000) : Ev (fun k => ice_game_going.f k w (bys w) (prodI w) n) (setL w n.toNat, prodI w) := by
  have e := going_loop o (n := n.toNat) (by omega) n.toNat 0 (by omega) (by omega)
  refine Ev.congr (fun k => ?_) e
  unfold ice_game_going.f
  rw [all_some o]
  simp only [Option.bind_some]
  rw [show ((n.toNat : Nat) : Int) = n by omega]
  rfl
/-- For ever: so many nights as there are states. -/
def inf (w : List Int) : Nat := (prodI w).toNat
theorem inf_eq {w : List Int} (o : okW w) {k : Nat} (hk : inf w ≤ k) {s : List Int} (hs : okSt w s) : K w k s = K w (inf w) s := stable_eq (stable_all (okW_pos o) (Nat.le_refl _)) hk hs
/-- The choices that lead from a state into a set. -/
def chsOf (w : List Int) (k : Nat) (s : List Int) : List Int := (chs w.length).filter fun c => good w k s c
def chsFrom (w : List Int) (k : Nat) (s : List Int) : Nat → List Int
  | 0 => []
  | m + 1 => (if good w k s ((w.length : Int) - ((m + 1 : Nat) : Int)) = true then [(w.length : Int) - ((m + 1 : Nat) : Int)] else []) ++ chsFrom w k s m
theorem chsFrom_eq (w : List Int) (k : Nat) (s : List Int) : ∀ m, m ≤ w.length + 1 → chsFrom w k s m = ((List.range m).map fun i : Nat => (w.length : Int) - m + i).filter fun c => good w k s c
  | 0, _ => rfl
  | m + 1, h => by
    rw [chsFrom, chsFrom_eq w k s m (by omega), List.range_succ_eq_map, List.map_cons, List.filter_cons]
    have e : (w.length : Int) - ((m + 1 : Nat) : Int) + ((0 : Nat) : Int) = (w.length : Int) - ((m + 1 : Nat) : Int) := by omega
    rw [e, List.map_map]
    have e2 : ((fun i : Nat => (w.length : Int) - ((m + 1 : Nat) : Int) + (i : Int)) ∘ Nat.succ) = fun i : Nat => (w.length : Int) - m + i := by
      funext i
      simp only [Function.comp]
      omega
    rw [e2]
    split <;> rfl
theorem chsOf_from (w : List Int) (k : Nat) (s : List Int) : chsFrom w k s (w.length + 1) = chsOf w k s := by
  rw [chsFrom_eq w k s _ (Nat.le_refl _)]
  unfold chsOf chs
  congr 1
  refine List.map_congr_left fun i _ => ?_
  omega
theorem chsFrom_len (w : List Int) (k : Nat) (s : List Int) : ∀ m, (chsFrom w k s m).length ≤ m
  | 0 => Nat.le_refl _
  | m + 1 => by
    have := chsFrom_len w k s m
    rw [chsFrom, List.length_append]
    split <;> simp <;> omega
theorem choices_loop {w s : List Int} (o : okW w) (h : okSt w s) (k0 : Nat) : ∀ (m : Nat) (x : List Int), m ≤ w.length + 1 → x.length ≤ 6 - m →
    Ev (fun k => ice_game_choices.l0 k (numL w s) (setL w k0) x ((w.length : Int) - m) w (bys w) (prodI w)) (x ++ chsFrom w k0 s m, prodI w) := by
  have hlen := o.1.2
  obtain ⟨b1, b2⟩ := prodI_le o
  intro m
  induction m with
  | zero =>
    intro x _ _
    refine ev_some _ fun k => ?_
    rw [ice_game_choices.l0, if_neg (by omega)]
    simp [chsFrom]
  | succ m ih =>
    intro x hm hx
    have wz : wrap64 ((w.length : Int) - ((m + 1 : Nat) : Int) + 1) = (w.length : Int) - m := by rw [w64 (by omega) (by omega)]; omega
    refine Ev.step (f := fun k => (ice_game_tonight.f k w (bys w) (prodI w) (numL w s) ((w.length : Int) - ((m + 1 : Nat) : Int))).bind fun bt101 => (if bt101.1 = (-1) then (ice_game_choices.l0 k (numL w s) (setL w k0) x (wrap64 ((w.length : Int) - ((m + 1 : Nat) : Int) + 1)) w (bys w) bt101.2) else (if 0 ≤ bt101.1 then (if bt101.1 < ((setL w k0).length : Int) then (if rdOf false (setL w k0) bt101.1 = true then (if x.length < 17592186044416 then (ice_game_choices.l0 k (numL w s) (setL w k0) (x ++ [(w.length : Int) - ((m + 1 : Nat) : Int)]) (wrap64 ((w.length : Int) - ((m + 1 : Nat) : Int) + 1)) w (bys w) bt101.2) else (none)) else (ice_game_choices.l0 k (numL w s) (setL w k0) x (wrap64 ((w.length : Int) - ((m + 1 : Nat) : Int) + 1)) w (bys w) bt101.2)) else (none)) else (none)))) (fun k => ?_) (Ev.bind (tonight_ev o h (prodI w) _) ?_)
    · rw [ice_game_choices.l0, if_pos (by omega)]
    · rw [chsFrom]
      cases z : nx w s ((w.length : Int) - ((m + 1 : Nat) : Int)) with
      | none =>
        have e0 : good w k0 s ((w.length : Int) - ((m + 1 : Nat) : Int)) = false := by unfold good; rw [z]
        have e1 : tn w s ((w.length : Int) - ((m + 1 : Nat) : Int)) = -1 := by unfold tn; rw [z]
        rw [e0, e1, if_neg (by decide), List.nil_append]
        refine Ev.congr (fun k => ?_) (ih x (by omega) (by omega))
        rw [if_pos rfl, wz]
      | some t =>
        obtain ⟨e1, ot, t1, t2⟩ := tn_bd h z
        have e0 : good w k0 s ((w.length : Int) - ((m + 1 : Nat) : Int)) = K w k0 t := by unfold good; rw [z]
        rw [e0, e1]
        cases q : K w k0 t with
        | true =>
          rw [if_pos rfl, ← List.append_assoc]
          refine Ev.congr (fun k => ?_) (ih (x ++ [(w.length : Int) - ((m + 1 : Nat) : Int)]) (by omega) (by rw [List.length_append]; simp; omega))
          rw [if_neg (by omega), if_pos t1, if_pos (by rw [setL_len]; omega), setL_rd ot, q, if_pos rfl, if_pos (by omega), wz]
        | false =>
          rw [if_neg (by decide), List.nil_append]
          refine Ev.congr (fun k => ?_) (ih x (by omega) (by omega))
          rw [if_neg (by omega), if_pos t1, if_pos (by rw [setL_len]; omega), setL_rd ot, q, if_neg (by decide), wz]
theorem choices_ev {w s : List Int} (o : okW w) (h : okSt w s) (k0 : Nat) : Ev (fun k => ice_game_choices.f k w (bys w) (prodI w) (numL w s) (setL w k0)) (chsOf w k0 s, prodI w) := by
  have e := choices_loop o h k0 (w.length + 1) [] (Nat.le_refl _) (by simp)
  rw [show (w.length : Int) - ((w.length + 1 : Nat) : Int) = -1 by omega, List.nil_append, chsOf_from] at e
  exact e
theorem list_loop {w s : List Int} (o : okW w) (h : okSt w s) : ∀ (d i : Nat), w.length - i = d → i ≤ w.length → Ev (fun k => ice_game_list.l0 k (numL w s) (s.take i) w.length i w (bys w) (prodI w)) (s, prodI w) := by
  have hlen := o.1.2
  have hs := okSt_len h
  intro d
  induction d with
  | zero =>
    intro i hd hi
    obtain rfl : i = w.length := by omega
    refine ev_some _ fun k => ?_
    rw [ice_game_list.l0, if_neg (by omega), ← hs, List.take_length]
  | succ d ih =>
    intro i hd hi
    have e := ih (i + 1) (by omega) (by omega)
    rw [List.take_succ_eq_append_getElem (by omega), ← rd_get (by omega)] at e
    refine Ev.step (fun k => ?_) e
    rw [ice_game_list.l0, if_pos (by omega), digit_some o h (prodI w) (by omega)]
    simp only [Option.bind_some]
    rw [if_pos (by rw [List.length_take]; omega), wsucc i (by omega)]
theorem list_ev {w s : List Int} (o : okW w) (h : okSt w s) : Ev (fun k => ice_game_list.f k w (bys w) (prodI w) (numL w s)) (s, prodI w) := list_loop o h w.length 0 (by omega) (by omega)
theorem number_loop {w s : List Int} (o : okW w) (h : okSt w s) : ∀ (d i : Nat) (acc : Int), w.length - i = d → i ≤ w.length → 0 ≤ acc → acc < prodI (w.take i) → acc + prodI (w.take i) * numL (w.drop i) (s.drop i) = numL w s → Ev (fun k => ice_game_number.l0 k acc s s.length i w (bys w) (prodI w)) (numL w s, prodI w) := by
  have hlen := o.1.2
  have hs := okSt_len h
  obtain ⟨b1, b2⟩ := prodI_le o
  intro d
  induction d with
  | zero =>
    intro i acc hd hi ha hb e
    obtain rfl : i = w.length := by omega
    rw [List.drop_length] at e
    refine ev_some _ fun k => ?_
    rw [ice_game_number.l0, if_neg (by omega)]
    have : acc = numL w s := by simpa [numL] using e
    rw [this]
  | succ d ih =>
    intro i acc hd hi ha hb e
    have hx := (okSt_iff.1 h).2 i (by omega)
    have hw8 := o.2 i (by omega)
    have p := prodI_take_succ w i (by omega)
    have q0 := by_bd o i
    have q := by_bd o (i + 1)
    have m1 : 0 ≤ (rd s (i : Int) - 1) * prodI (w.take i) := Int.mul_nonneg (by omega) (by omega)
    have m2 : (rd s (i : Int) - 1) * prodI (w.take i) ≤ (rd w (i : Int) - 1) * prodI (w.take i) := Int.mul_le_mul_of_nonneg_right (by omega) (by omega)
    have m3 : (rd w (i : Int) - 1) * prodI (w.take i) = prodI (w.take (i + 1)) - prodI (w.take i) := by rw [p, Int.sub_mul, Int.mul_comm]; omega
    rw [rd_drop w i (by omega), rd_drop s i (by omega)] at e
    simp only [numL] at e
    rw [Int.mul_add, ← Int.mul_assoc, ← p, Int.mul_comm _ (rd s (i : Int) - 1)] at e
    refine Ev.step (fun k => ?_) (ih (i + 1) (acc + (rd s (i : Int) - 1) * prodI (w.take i)) (by omega) (by omega) (by omega) (by omega) (by omega))
    rw [ice_game_number.l0, if_pos (by omega), if_pos (by omega), if_pos (by omega), if_pos (by rw [bys_len]; omega), rd_bys (by omega), wsucc i (by omega), w64 (n := rd s (i : Int) - 1) (by omega) (by omega), w64 (n := (rd s (i : Int) - 1) * prodI (w.take i)) (by omega) (by omega), w64 (by omega) (by omega)]
theorem number_ev {w s : List Int} (o : okW w) (h : okSt w s) : Ev (fun k => ice_game_number.f k w (bys w) (prodI w) s) (numL w s, prodI w) := number_loop o h w.length 0 0 (by omega) (by omega) (by omega) (by simp [prodI]) (by simp [prodI])
theorem state_l1 (w s : List Int) (hl : s.length ≤ 9223372036854775807) : ∀ (d i : Nat), s.length - i = d → i ≤ s.length → (∀ j, j < i → j < w.length → 1 ≤ rd s (j : Int) ∧ rd s (j : Int) ≤ rd w (j : Int)) → ∃ b : Bool, Ev (fun k => dropperref08_State.l0 k w s i) b ∧ (b = true ↔ okSt w s) := by
  have fin : ∀ (i : Nat), (∀ j, j < i → j < w.length → 1 ≤ rd s (j : Int) ∧ rd s (j : Int) ≤ rd w (j : Int)) → (s.length ≤ i ∨ w.length ≤ i) → i ≤ s.length → ((((s.length : Int) == (w.length : Int)) = true) ↔ okSt w s) := by
    intro i h1 h2 h3
    rw [okSt_iff, beq_iff_eq]
    constructor
    · intro e
      exact ⟨by omega, fun j hj => h1 j (by omega) hj⟩
    · rintro ⟨e, _⟩; omega
  intro d
  induction d with
  | zero =>
    intro i hd hi h1
    obtain rfl : i = s.length := by omega
    refine ⟨_, Ev.step (f := fun k => dropperref08_State.j1 k w s s.length false) (fun k => ?_) (ev_some ((s.length : Int) == (w.length : Int)) fun k => ?_), fin _ h1 (.inl (Nat.le_refl _)) (Nat.le_refl _)⟩
    · rw [dropperref08_State.l0, if_neg (by omega)]
    · rw [dropperref08_State.j1, if_neg (by decide)]
  | succ d ih =>
    intro i hd hi h1
    by_cases c : i < w.length
    · by_cases c2 : 1 ≤ rd s (i : Int) ∧ rd s (i : Int) ≤ rd w (i : Int)
      · obtain ⟨b, e, hb⟩ := ih (i + 1) (by omega) (by omega) (fun j hj hj2 => if q : j = i then q ▸ c2 else h1 j (by omega) hj2)
        refine ⟨b, Ev.step (f := fun k => dropperref08_State.j1 k w s i true) (fun k => ?_) (Ev.step (fun k => ?_) e), hb⟩
        · rw [dropperref08_State.l0, if_pos (by omega), decide_eq_true (by omega)]
        · rw [dropperref08_State.j1, if_pos rfl, if_pos (by omega), if_pos (by omega), if_pos (by omega), from_some, decide_eq_true c2, wsucc i (by omega)]
          rfl
      · refine ⟨false, Ev.step (f := fun k => dropperref08_State.j1 k w s i true) (fun k => ?_) (ev_some _ fun k => ?_), ?_⟩
        · rw [dropperref08_State.l0, if_pos (by omega), decide_eq_true (by omega)]
        · rw [dropperref08_State.j1, if_pos rfl, if_pos (by omega), if_pos (by omega), if_pos (by omega), from_some, decide_eq_false c2]
          rfl
        · constructor
          · intro z; cases z
          · intro z; exact absurd ((okSt_iff.1 z).2 i c) c2
    · refine ⟨_, Ev.step (f := fun k => dropperref08_State.j1 k w s i false) (fun k => ?_) (ev_some ((s.length : Int) == (w.length : Int)) fun k => ?_), fin i h1 (.inr (by omega)) hi⟩
      · rw [dropperref08_State.l0, if_pos (by omega), decide_eq_false (by omega)]
      · rw [dropperref08_State.j1, if_neg (by decide)]
open Classical in
theorem state_ev (w s : List Int) (hl : s.length ≤ 9223372036854775807) : Ev (fun k => dropperref08_State.f k w s) (decide (okSt w s)) := by
  obtain ⟨b, e, hb⟩ := state_l1 w s hl s.length 0 (by omega) (by omega) (by omega)
  have : decide (okSt w s) = b := by
    cases b with
    | true => exact decide_eq_true (hb.1 rfl)
    | false => exact decide_eq_false (fun z => by cases hb.2 z)
  rw [this]
  exact e
/-- What open tells. -/
def opn (w s : List Int) (o : Prop) [Decidable o] (h : Prop) [Decidable h] : List Int × List Int × Int × Int × Int := if o then (if h then (w, bys w, prodI w, numL w s, 0) else ([], [], 0, 0, 2)) else ([], [], 0, 0, 80)
theorem open_loop {w s : List Int} (o : okW w) (hs : s.length = w.length) : ∀ (d i : Nat), w.length - i = d → i ≤ w.length → (∀ j, j < i → 1 ≤ rd s (j : Int) ∧ rd s (j : Int) ≤ rd w (j : Int)) → ∃ r, Ev (fun k => ice_open.l0 k w s s s.length i) r ∧ (okSt w s → r = (w, bys w, prodI w, numL w s, 0)) ∧ (¬ okSt w s → r = ([], [], 0, 0, 2)) := by
  have hlen := o.1.2
  intro d
  induction d with
  | zero =>
    intro i hd hi h1
    have h : okSt w s := okSt_iff.2 ⟨hs, fun j hj => h1 j (by omega)⟩
    refine ⟨_, Ev.step (f := fun k => (ice_gameOf.f k w).bind fun bt105 => ((ice_game_number.f k bt105.1 bt105.2.1 bt105.2.2 s).bind fun bt109 => (some (bt105.1, bt105.2.1, bt109.2, bt109.1, 0)))) (fun k => ?_) (Ev.bind (gameOf_ev o) (Ev.bind (number_ev o h) (Ev.now _))), fun _ => rfl, fun z => absurd h z⟩
    rw [ice_open.l0, if_neg (by omega)]
  | succ d ih =>
    intro i hd hi h1
    by_cases c : 1 ≤ rd s (i : Int) ∧ rd s (i : Int) ≤ rd w (i : Int)
    · obtain ⟨r, e, h2⟩ := ih (i + 1) (by omega) (by omega) (fun j hj => if q : j = i then q ▸ c else h1 j (by omega))
      refine ⟨r, Ev.step (fun k => ?_) e, h2⟩
      rw [ice_open.l0, if_pos (by omega), if_pos (by omega), if_pos (by omega), if_pos (by omega), within_some, decide_eq_true c, wsucc i (by omega)]
      rfl
    · refine ⟨_, ev_some ([], [], 0, 0, 2) fun k => ?_, fun z => absurd ((okSt_iff.1 z).2 i (by omega)) c, fun _ => rfl⟩
      rw [ice_open.l0, if_pos (by omega), if_pos (by omega), if_pos (by omega), if_pos (by omega), within_some, decide_eq_false c]
      rfl
open Classical in
theorem open_ev (w s : List Int) : Ev (fun k => ice_open.f k w s) (opn w s (okW w) (okSt w s)) := by
  refine Ev.bind (ice_Valid_ev w) ?_
  unfold opn
  by_cases o : okW w
  · simp only [decide_eq_true o, if_true, if_pos o]
    by_cases c : (s.length : Int) = (w.length : Int)
    · simp only [if_pos c]
      obtain ⟨r, e, h1, h2⟩ := open_loop (s := s) o (by omega) w.length 0 (by omega) (by omega) (by omega)
      by_cases h : okSt w s
      · rw [if_pos h, ← h1 h]; exact e
      · rw [if_neg h, ← h2 h]; exact e
    · simp only [if_neg c]
      rw [if_neg (fun z => c (by have := okSt_len z; omega))]
      exact Ev.now _
  · simp only [decide_eq_false o, Bool.false_eq_true, if_false, if_neg o]
    exact Ev.now _
open Classical in
/-- What Tonight tells. -/
noncomputable def tonightR (w s : List Int) (c : Int) : List Int × Int := if okW w then (if okSt w s then (if -1 ≤ c ∧ c ≤ (w.length : Int) - 1 then (match nx w s c with | some t => (t, 0) | none => ([], 5)) else ([], 2)) else ([], 2)) else ([], 80)
theorem ice_Tonight_ev (w s : List Int) (c : Int) (hl : w.length ≤ 4611686018427387904) : Ev (fun k => ice_Tonight.f k w s c) (tonightR w s c) := by
  classical
  refine Ev.bind (open_ev w s) ?_
  unfold tonightR opn
  by_cases o : okW w
  · have hlen := o.1
    rw [if_pos o, if_pos o]
    by_cases h : okSt w s
    · rw [if_pos h, if_pos h]
      simp only [if_true]
      rw [within_some, w64 (by omega) (by omega)]
      simp only [Option.bind_some]
      by_cases q : -1 ≤ c ∧ c ≤ (w.length : Int) - 1
      · rw [if_pos q]
        simp only [decide_eq_true q, if_true]
        refine Ev.bind (tonight_ev o h _ c) ?_
        cases z : nx w s c with
        | none =>
          have : tn w s c = -1 := by unfold tn; rw [z]
          simp only [this, if_true]
          exact Ev.now _
        | some t =>
          obtain ⟨e1, ot, t1, t2⟩ := tn_bd h z
          simp only [e1, if_neg (show ¬ numL w t = -1 by omega)]
          exact Ev.bind (list_ev o ot) (Ev.now _)
      · rw [if_neg q]
        simp only [decide_eq_false q, Bool.false_eq_true, if_false]
        exact Ev.now _
    · rw [if_neg h, if_neg h]
      exact Ev.now _
  · rw [if_neg o, if_neg o]
    exact Ev.now _
open Classical in
noncomputable def choicesR (w s : List Int) : List Int × Int := if okW w then (if okSt w s then (chsOf w 0 s, 0) else ([], 2)) else ([], 80)
theorem ice_Choices_ev (w s : List Int) : Ev (fun k => ice_Choices.f k w s) (choicesR w s) := by
  classical
  refine Ev.bind (open_ev w s) ?_
  unfold choicesR opn
  by_cases o : okW w
  · rw [if_pos o, if_pos o]
    by_cases h : okSt w s
    · rw [if_pos h, if_pos h]
      simp only [if_true]
      rw [all_some o]
      simp only [Option.bind_some]
      exact Ev.bind (choices_ev o h 0) (Ev.now _)
    · rw [if_neg h, if_neg h]
      exact Ev.now _
  · rw [if_neg o, if_neg o]
    exact Ev.now _
open Classical in
noncomputable def forR (w s : List Int) (n : Int) : Bool × Int := if okW w then (if okSt w s then (if 0 ≤ n ∧ n ≤ 100000 then (K w n.toNat s, 0) else (false, 2)) else (false, 2)) else (false, 80)
theorem ice_For_ev (w s : List Int) (n : Int) : Ev (fun k => ice_For.f k w s n) (forR w s n) := by
  classical
  refine Ev.bind (open_ev w s) ?_
  unfold forR opn
  by_cases o : okW w
  · rw [if_pos o, if_pos o]
    by_cases h : okSt w s
    · have nb := numL_bd h
      rw [if_pos h, if_pos h]
      simp only [if_true]
      rw [within_some]
      simp only [Option.bind_some]
      by_cases q : 0 ≤ n ∧ n ≤ 100000
      · rw [if_pos q]
        simp only [decide_eq_true q, if_true]
        refine Ev.bind (going_ev o q.1 (by omega)) ?_
        rw [if_pos nb.1, if_pos (by rw [setL_len]; omega), setL_rd h]
        exact Ev.now _
      · rw [if_neg q]
        simp only [decide_eq_false q, Bool.false_eq_true, if_false]
        exact Ev.now _
    · rw [if_neg h, if_neg h]
      exact Ev.now _
  · rw [if_neg o, if_neg o]
    exact Ev.now _
theorem chsOf_len (w : List Int) (k : Nat) (s : List Int) : (chsOf w k s).length ≤ w.length + 1 := by
  rw [← chsOf_from]
  exact chsFrom_len w k s _
theorem u16_of {a : Int} (w : (Lit.int .u16 a).wf = true) : 0 ≤ a ∧ a ≤ 65535 := by
  have w' : (decide ((0 : Int) ≤ a) && decide (a ≤ 65535)) = true := w
  simpa using w'
theorem chs_any {w s : List Int} {k : Nat} : (chsOf w 0 s).any (fun c => good w k s c) = K w (k + 1) s := by
  rw [Bool.eq_iff_iff, List.any_eq_true, K_succ]
  unfold chsOf
  constructor
  · rintro ⟨c, hc, h⟩
    obtain ⟨h1, h2⟩ := mem_chs.1 (List.mem_filter.1 hc).1
    obtain ⟨t, h3, h4⟩ := good_iff.1 h
    exact ⟨c, t, h1, h2, h3, h4⟩
  · rintro ⟨c, t, h1, h2, h3, h4⟩
    exact ⟨c, List.mem_filter.2 ⟨mem_chs.2 ⟨h1, h2⟩, good_iff.2 ⟨t, h3, rfl⟩⟩, good_iff.2 ⟨t, h3, h4⟩⟩
theorem states_loop {w s : List Int} (o : okW w) (h : okSt w s) (L : List Int) (hL : L = chsOf w 0 s) : ∀ (d i : Nat) (x : Bool), L.length - i = d → i ≤ L.length →
    (x || (L.drop i).any (fun c => good w (inf w) s c)) = K w (inf w) s → Ev (fun k => dropperlaw08_IceStates.l0 k w s (K w (inf w) s) L x i) true := by
  have hlen := o.1.2
  have hb := prodI_le o
  have hLl : L.length ≤ 6 := by rw [hL]; have := chsOf_len w 0 s; omega
  intro d
  induction d with
  | zero =>
    intro i x hd hi e
    obtain rfl : i = L.length := by omega
    rw [List.drop_length] at e
    simp only [List.any_nil, Bool.or_false] at e
    refine Ev.step (f := fun k => (dropperlaw08_Awake.f k).bind fun t617 => (some t617)) (fun k => ?_) (Ev.bind awake_ev (Ev.now _))
    rw [dropperlaw08_IceStates.l0, if_neg (by omega), e, if_pos (by simp)]
  | succ d ih =>
    intro i x hd hi e
    have il : i < L.length := by omega
    rw [List.drop_eq_getElem_cons il, List.any_cons] at e
    have hc : L[i] ∈ chsOf w 0 s := by rw [← hL]; exact List.getElem_mem il
    have er : rd L (i : Int) = L[i] := rd_get il
    generalize L[i] = c at e hc er
    obtain ⟨hc1, hc2⟩ := List.mem_filter.1 hc
    obtain ⟨c1, c2⟩ := mem_chs.1 hc1
    obtain ⟨t, ht, _⟩ := good_iff.1 hc2
    have eg : good w (inf w) s c = K w (inf w) t := by unfold good; rw [ht]
    rw [eg] at e
    have e1 : tonightR w s c = (t, 0) := by
      unfold tonightR
      rw [if_pos o, if_pos h, if_pos (by omega), ht]
    have e2 : forR w t (prodI w) = (K w (inf w) t, 0) := by
      unfold forR
      rw [if_pos o, if_pos (nx_ok h ht), if_pos (by omega)]
      rfl
    have f1 := ice_Tonight_ev w s c (by omega)
    have f2 := ice_For_ev w t (prodI w)
    rw [e1] at f1
    rw [e2] at f2
    refine Ev.step (f := fun k => (ice_Tonight.f k w s c).bind fun bt619 => ((dropperref08_Count.f k w).bind fun t623 => ((ice_For.f k w bt619.1 t623).bind fun bt624 => (if bt619.2 = 0 then (if bt624.2 = 0 then (if x = true then (dropperlaw08_IceStates.l0 k w s (K w (inf w) s) L true (wrap64 ((i : Int) + 1))) else (dropperlaw08_IceStates.l0 k w s (K w (inf w) s) L bt624.1 (wrap64 ((i : Int) + 1)))) else (some false)) else (some false))))) (fun k => ?_) (Ev.bind f1 (Ev.bind (count_ev o) (Ev.bind f2 ?_)))
    · rw [dropperlaw08_IceStates.l0, if_pos (by omega), if_pos (by omega), er]
    · simp only [if_true]
      rw [wsucc i (by omega)]
      cases x with
      | true =>
        simp only [if_true]
        exact ih (i + 1) true (by omega) (by omega) (by simpa using e)
      | false =>
        simp only [Bool.false_eq_true, if_false]
        exact ih (i + 1) _ (by omega) (by omega) (by simpa using e)
theorem IceStates_pure (l0 l1 : List Int) (a0 a1 : Int) (hx0 : ∀ x ∈ l0, (Lit.int .i64 x).wf = true) (hx1 : ∀ x ∈ l1, (Lit.int .i64 x).wf = true) (w0 : (Lit.int .u16 a0).wf = true) (w1 : (Lit.int .u16 a1).wf = true) (hl0 : l0.length ≤ 9223372036854775807) (hl1 : l1.length ≤ 9223372036854775807) : ∃ k, dropperlaw08_IceStates.f k l0 l1 a0 a1 = some true := by
  classical
  have b0 := u16_of w0
  have b1 := u16_of w1
  have away : Ev (fun k => dropperlaw08_IceStates.j0 k l0 l1 true a0 a1) true := by
    refine Ev.step (f := fun k => (dropperlaw08_Awake.f k).bind fun t605 => (some t605)) (fun k => ?_) (Ev.bind awake_ev (Ev.now _))
    rw [dropperlaw08_IceStates.j0, if_pos rfl]
  apply Ev.rounds
  obtain ⟨b, e, hb⟩ := many0_ev l0 hl0
  refine Ev.bind e ?_
  cases b with
  | true =>
    simp only [if_true]
    exact away
  | false =>
    obtain ⟨h1, h2⟩ := hb rfl
    simp only [Bool.false_eq_true, if_false]
    refine Ev.bind (ref_Valid_ev l0 hl0) ?_
    by_cases o : okW l0
    rotate_left
    · simp only [decide_eq_false o, Bool.false_eq_true, if_false]
      exact away
    simp only [decide_eq_true o, if_true]
    refine Ev.bind (state_ev l0 l1 hl1) ?_
    by_cases h : okSt l0 l1
    rotate_left
    · simp only [decide_eq_false h, Bool.not_false]
      exact away
    simp only [decide_eq_true h, Bool.not_true]
    have hp := prodI_le o
    have less : mn a0 a1 = min a0 a1 := mn_eq _ _
    have more : mx a0 a1 = max a0 a1 := mx_eq _ _
    have f1 := ice_For_ev l0 l1 (min a0 a1)
    have f2 := ice_For_ev l0 l1 (max a0 a1)
    have f3 := ice_For_ev l0 l1 (prodI l0)
    have e1 : forR l0 l1 (min a0 a1) = (K l0 (min a0 a1).toNat l1, 0) := by unfold forR; rw [if_pos o, if_pos h, if_pos (by omega)]
    have e2 : forR l0 l1 (max a0 a1) = (K l0 (max a0 a1).toNat l1, 0) := by unfold forR; rw [if_pos o, if_pos h, if_pos (by omega)]
    have e3 : forR l0 l1 (prodI l0) = (K l0 (inf l0) l1, 0) := by unfold forR; rw [if_pos o, if_pos h, if_pos (by omega)]; rfl
    rw [e1] at f1
    rw [e2] at f2
    rw [e3] at f3
    have c1 : K l0 (max a0 a1).toNat l1 = true → K l0 (min a0 a1).toNat l1 = true := fun z => K_le (by omega) z
    have c2 : K l0 (inf l0) l1 = true → K l0 (max a0 a1).toNat l1 = true := fun z => by
      by_cases q : (max a0 a1).toNat ≤ inf l0
      · exact K_le q z
      · rw [inf_eq o (by omega) h]; exact z
    have fin : Ev (fun k => dropperlaw08_IceStates.j1 k l0 l1 (K l0 (inf l0) l1) false) true := by
      have g := ice_Choices_ev l0 l1
      have e4 : choicesR l0 l1 = (chsOf l0 0 l1, 0) := by unfold choicesR; rw [if_pos o, if_pos h]
      rw [e4] at g
      refine Ev.step (f := fun k => (ice_Choices.f k l0 l1).bind fun bt613 => (if bt613.2 = 0 then (dropperlaw08_IceStates.l0 k l0 l1 (K l0 (inf l0) l1) bt613.1 false 0) else (some false))) (fun k => ?_) (Ev.bind g ?_)
      · rw [dropperlaw08_IceStates.j1, if_neg (by decide)]
      · simp only [if_true]
        refine states_loop o h _ rfl _ 0 false rfl (by omega) ?_
        rw [List.drop_zero, Bool.false_or, chs_any]
        exact inf_eq o (by omega) h
    refine Ev.step (f := fun k => (ice_For.f k l0 l1 (min a0 a1)).bind fun bt606 => ((ice_For.f k l0 l1 (max a0 a1)).bind fun bt608 => ((dropperref08_Count.f k l0).bind fun t610 => ((ice_For.f k l0 l1 t610).bind fun bt611 => (if bt606.2 = 0 then (if bt608.2 = 0 then (if bt611.2 = 0 then (if bt608.1 = true then (if bt606.1 = true then (if bt611.1 = true then (dropperlaw08_IceStates.j1 k l0 l1 bt611.1 (!bt608.1)) else (dropperlaw08_IceStates.j1 k l0 l1 bt611.1 false)) else (dropperlaw08_IceStates.j1 k l0 l1 bt611.1 true)) else (if bt611.1 = true then (dropperlaw08_IceStates.j1 k l0 l1 bt611.1 (!bt608.1)) else (dropperlaw08_IceStates.j1 k l0 l1 bt611.1 false))) else (dropperlaw08_IceStates.j1 k l0 l1 bt611.1 true)) else (dropperlaw08_IceStates.j1 k l0 l1 bt611.1 true)) else (dropperlaw08_IceStates.j1 k l0 l1 bt611.1 true)))))) (fun k => ?_) (Ev.bind f1 (Ev.bind f2 (Ev.bind (count_ev o) (Ev.bind f3 ?_))))
    · rw [dropperlaw08_IceStates.j0, if_neg (by decide), less, more, w64 (by omega) (by omega), w64 (by omega) (by omega)]
    · simp only [if_true]
      cases q2 : K l0 (max a0 a1).toNat l1 with
      | true =>
        simp only [if_true, c1 q2, Bool.not_true]
        cases q3 : K l0 (inf l0) l1 with
        | true =>
          rw [q3] at fin
          simp only [if_true]
          exact fin
        | false =>
          rw [q3] at fin
          simp only [Bool.false_eq_true, if_false]
          exact fin
      | false =>
        have q3 : K l0 (inf l0) l1 = false := by
          cases q3 : K l0 (inf l0) l1 with
          | false => rfl
          | true => exact absurd (c2 q3) (by rw [q2]; decide)
        rw [q3] at fin ⊢
        simp only [Bool.false_eq_true, if_false]
        exact fin
end Go.Proofs.Ythbpibdfookbmaa.G
