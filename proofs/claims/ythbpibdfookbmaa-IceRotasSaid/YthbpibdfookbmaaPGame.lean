/- Wants, states, their numbers, what is behind a night, and for how many nights a state can go on. Plain Lean, no program in sight. -/
import Derived.Test.YthbpibdfookbmaaGBase
namespace Go.Proofs.Ythbpibdfookbmaa.G
set_option linter.unusedVariables false
open Go.RowKit Go.Proofs.YthbpibdfookbmaaW.PrintWords Go.Proofs.YthbpibdfookbmaaW.PrintLast
theorem w64 {n : Int} (h : -9223372036854775808 ≤ n) (h2 : n ≤ 9223372036854775807) : wrap64 n = n := by unfold wrap64; omega
theorem ev_some {α : Type} (r : α) {g : Nat → Option α} (h : ∀ k, g (k + 1) = some r) : Ev g r := Ev.step (f := fun _ => some r) h (Ev.now r)
theorem wsucc (i : Nat) (h : i < 9223372036854775807) : wrap64 ((i : Int) + 1) = ((i + 1 : Nat) : Int) := by rw [w64 (by omega) (by omega)]; rfl
theorem wpred (i : Nat) (h : i < 9223372036854775807) : wrap64 (((i + 1 : Nat) : Int) - 1) = (i : Int) := by rw [w64 (by omega) (by omega)]; omega
theorem rd_get {w : List Int} {i : Nat} (h : i < w.length) : rd w (i : Int) = w[i] := by
  simp [rd, List.getD_eq_getElem?_getD, h]
theorem rd_drop (w : List Int) (i : Nat) (h : i < w.length) : w.drop i = rd w (i : Int) :: w.drop (i + 1) := by
  rw [rd_get h]; exact List.drop_eq_getElem_cons h

/-- All are at least 1. -/
def pos (w : List Int) : Prop := ∀ a ∈ w, 1 ≤ a
def prodI : List Int → Int
  | [] => 1
  | a :: w => a * prodI w
theorem prodI_pos {w : List Int} (h : pos w) : 1 ≤ prodI w := by
  induction w with
  | nil => exact Int.le_refl _
  | cons a w ih =>
    have h1 := h a (by simp)
    have h2 := ih (fun b hb => h b (by simp [hb]))
    have : 1 * 1 ≤ a * prodI w := Int.mul_le_mul h1 h2 (by omega) (by omega)
    simpa [prodI] using this
theorem pos_drop {w : List Int} (h : pos w) (i : Nat) : pos (w.drop i) := fun a ha => h a (List.mem_of_mem_drop ha)
theorem pos_take {w : List Int} (h : pos w) (i : Nat) : pos (w.take i) := fun a ha => h a (List.mem_of_mem_take ha)
theorem prodI_append (u v : List Int) : prodI (u ++ v) = prodI u * prodI v := by
  induction u with
  | nil => simp [prodI]
  | cons a u ih => simp [prodI, ih, Int.mul_assoc]
theorem prodI_split (w : List Int) (i : Nat) : prodI (w.take i) * prodI (w.drop i) = prodI w := by
  rw [← prodI_append, List.take_append_drop]
theorem prodI_take_succ (w : List Int) (i : Nat) (h : i < w.length) : prodI (w.take (i + 1)) = prodI (w.take i) * rd w (i : Int) := by
  rw [List.take_succ_eq_append_getElem h, prodI_append, rd_get h]
  simp [prodI]
/-- A state of wants: as many numbers, each from 1 to the want. -/
def okSt : List Int → List Int → Prop
  | [], [] => True
  | a :: w, x :: s => (1 ≤ x ∧ x ≤ a) ∧ okSt w s
  | _, _ => False
theorem okSt_len : ∀ {w s : List Int}, okSt w s → s.length = w.length
  | [], [], _ => rfl
  | a :: w, x :: s, h => by simp [okSt_len h.2]
  | [], _ :: _, h => h.elim
  | _ :: _, [], h => h.elim
theorem okSt_pos : ∀ {w s : List Int}, okSt w s → pos w
  | [], [], _ => fun a ha => by simp at ha
  | a :: w, x :: s, h => fun b hb => by
    rcases List.mem_cons.1 hb with rfl | hb
    · have := h.1; omega
    · exact okSt_pos h.2 b hb
  | [], _ :: _, h => h.elim
  | _ :: _, [], h => h.elim
theorem okSt_iff : ∀ {w s : List Int}, okSt w s ↔ (s.length = w.length ∧ ∀ i, i < w.length → 1 ≤ rd s (i : Int) ∧ rd s (i : Int) ≤ rd w (i : Int))
  | [], [] => by simp [okSt]
  | a :: w, x :: s => by
    unfold okSt
    rw [okSt_iff (w := w) (s := s)]
    constructor
    · rintro ⟨h1, h2, h3⟩
      refine ⟨by simp [h2], fun i hi => ?_⟩
      cases i with
      | zero => exact h1
      | succ i => exact h3 i (by simpa using hi)
    · rintro ⟨h1, h2⟩
      exact ⟨h2 0 (by simp), by simpa using h1, fun i hi => h2 (i + 1) (by simpa using hi)⟩
  | [], _ :: _ => by simp [okSt]
  | _ :: _, [] => by simp [okSt]
theorem okSt_drop {w s : List Int} (h : okSt w s) (i : Nat) : okSt (w.drop i) (s.drop i) := by
  induction i generalizing w s with
  | zero => exact h
  | succ i ih =>
    match w, s, h with
    | [], [], _ => exact trivial
    | a :: w, x :: s, h => exact ih h.2
theorem okSt_append {w s w' s' : List Int} (h : okSt w s) (h' : okSt w' s') : okSt (w ++ w') (s ++ s') := by
  induction w generalizing s with
  | nil =>
    match s, h with
    | [], _ => exact h'
  | cons a w ih =>
    match s, h with
    | x :: s, h => exact ⟨h.1, ih h.2⟩
theorem okSt_reverse {w s : List Int} (h : okSt w s) : okSt w.reverse s.reverse := by
  induction w generalizing s with
  | nil =>
    match s, h with
    | [], _ => exact trivial
  | cons a w ih =>
    match s, h with
    | x :: s, h =>
      rw [List.reverse_cons, List.reverse_cons]
      exact okSt_append (ih h.2) ⟨h.1, trivial⟩
/-- The number of a state: its first number counts least. -/
def numL : List Int → List Int → Int
  | a :: w, x :: s => (x - 1) + a * numL w s
  | _, _ => 0
theorem numL_bd : ∀ {w s : List Int}, okSt w s → 0 ≤ numL w s ∧ numL w s < prodI w
  | [], [], _ => by simp [numL, prodI]
  | a :: w, x :: s, h => by
    obtain ⟨h1, h2⟩ := numL_bd h.2
    obtain ⟨⟨h3, h4⟩, h5⟩ := h
    have h6 : 0 ≤ a * numL w s := Int.mul_nonneg (by omega) h1
    have h7 : a * (numL w s + 1) ≤ a * prodI w := Int.mul_le_mul_of_nonneg_left (by omega) (by omega)
    rw [Int.mul_add] at h7
    simp only [numL, prodI]
    omega
  | [], _ :: _, h => h.elim
  | _ :: _, [], h => h.elim
/-- The state with a number. -/
def digL : List Int → Int → List Int
  | [], _ => []
  | a :: w, n => (n % a + 1) :: digL w (n / a)
theorem dig_num : ∀ {w s : List Int}, okSt w s → digL w (numL w s) = s
  | [], [], _ => rfl
  | a :: w, x :: s, h => by
    have h0 := dig_num h.2
    obtain ⟨⟨h3, h4⟩, h5⟩ := h
    have e1 : (x - 1 + a * numL w s) % a = x - 1 := by
      rw [Int.add_mul_emod_self_left]; exact Int.emod_eq_of_lt (by omega) (by omega)
    have e2 : (x - 1 + a * numL w s) / a = numL w s := by
      rw [Int.add_mul_ediv_left _ _ (by omega), Int.ediv_eq_zero_of_lt (by omega) (by omega)]; omega
    simp only [numL, digL, e1, e2, h0]
    congr 1
    omega
  | [], _ :: _, h => h.elim
  | _ :: _, [], h => h.elim
theorem num_dig : ∀ {w : List Int} {n : Int}, pos w → 0 ≤ n → n < prodI w → numL w (digL w n) = n ∧ okSt w (digL w n)
  | [], n, _, h1, h2 => by
    have h2 : n < 1 := h2
    exact ⟨by simp [numL]; omega, trivial⟩
  | a :: w, n, hp, h1, h2 => by
    have ha := hp a (by simp)
    have h2 : n < a * prodI w := h2
    have hq : n / a < prodI w := Int.ediv_lt_of_lt_mul (by omega) (by rw [Int.mul_comm]; exact h2)
    obtain ⟨e, o⟩ := num_dig (w := w) (n := n / a) (fun b hb => hp b (by simp [hb])) (Int.ediv_nonneg h1 (by omega)) hq
    have h3 := Int.emod_nonneg n (show a ≠ 0 by omega)
    have h4 := Int.emod_lt_of_pos n (show 0 < a by omega)
    refine ⟨?_, ⟨by omega, by omega⟩, o⟩
    simp only [digL, numL, e]
    have := Int.emod_add_mul_ediv n a
    omega
/-- The state behind a night in which section c (from 0 on) is scraped; none: it is lost. -/
def nx : List Int → List Int → Int → Option (List Int)
  | a :: w, x :: s, c => if (if c = 0 then a else x - 1) = 0 then none else (nx w s (c - 1)).map fun t => (if c = 0 then a else x - 1) :: t
  | _, _, _ => some []
theorem nx_ok : ∀ {w s : List Int} {c : Int} {t : List Int}, okSt w s → nx w s c = some t → okSt w t
  | [], [], c, t, _, h => by
    obtain rfl := Option.some.inj h
    exact trivial
  | a :: w, x :: s, c, t, ho, h => by
    unfold nx at h
    by_cases z : (if c = 0 then a else x - 1) = 0
    · rw [if_pos z] at h; cases h
    · rw [if_neg z] at h
      obtain ⟨t', ht, rfl⟩ := Option.map_eq_some_iff.1 h
      obtain ⟨⟨h3, h4⟩, h5⟩ := ho
      refine ⟨?_, nx_ok h5 ht⟩
      by_cases q : c = 0
      · rw [if_pos q] at z ⊢; omega
      · rw [if_neg q] at z ⊢; omega
  | [], _ :: _, _, _, ho, _ => ho.elim
  | _ :: _, [], _, _, ho, _ => ho.elim
/-- All choices: none (-1), and each section. -/
def chs (n : Nat) : List Int := (List.range (n + 1)).map fun i : Nat => (i : Int) - 1
theorem mem_chs {n : Nat} {c : Int} : c ∈ chs n ↔ -1 ≤ c ∧ c < n := by
  unfold chs
  simp only [List.mem_map, List.mem_range]
  constructor
  · rintro ⟨i, h, rfl⟩; omega
  · rintro ⟨h1, h2⟩; exact ⟨(c + 1).toNat, by omega, by omega⟩
/-- Whether a state can go on for so many nights. -/
def K (w : List Int) : Nat → List Int → Bool
  | 0, _ => true
  | k + 1, s => (chs w.length).any fun c => match nx w s c with
    | some t => K w k t
    | none => false
theorem K_succ {w : List Int} {k : Nat} {s : List Int} : K w (k + 1) s = true ↔ ∃ (c : Int) (t : List Int), -1 ≤ c ∧ c < w.length ∧ nx w s c = some t ∧ K w k t = true := by
  rw [K, List.any_eq_true]
  constructor
  · rintro ⟨c, hc, h⟩
    obtain ⟨h1, h2⟩ := mem_chs.1 hc
    cases e : nx w s c with
    | none => rw [e] at h; cases h
    | some t => rw [e] at h; exact ⟨c, t, h1, h2, e, h⟩
  · rintro ⟨c, t, h1, h2, e, h⟩
    exact ⟨c, mem_chs.2 ⟨h1, h2⟩, by rw [e]; exact h⟩
theorem K_anti {w : List Int} : ∀ {k : Nat} {s : List Int}, K w (k + 1) s = true → K w k s = true
  | 0, s, _ => rfl
  | k + 1, s, h => by
    obtain ⟨c, t, h1, h2, e, h⟩ := K_succ.1 h
    exact K_succ.2 ⟨c, t, h1, h2, e, K_anti h⟩
theorem K_le {w : List Int} {s : List Int} {k m : Nat} (hk : k ≤ m) (h : K w m s = true) : K w k s = true := by
  induction m with
  | zero => obtain rfl : k = 0 := by omega
            exact h
  | succ m ih =>
    by_cases q : k = m + 1
    · rw [q]; exact h
    · exact ih (by omega) (K_anti h)
/-- From k on nothing changes. -/
def stable (w : List Int) (k : Nat) : Prop := ∀ s, okSt w s → K w (k + 1) s = K w k s
theorem stable_succ {w : List Int} {k : Nat} (h : stable w k) : stable w (k + 1) := by
  intro s hs
  have key : ∀ {s : List Int}, okSt w s → K w (k + 1) s = true → K w (k + 1 + 1) s = true := by
    intro s hs hk
    obtain ⟨c, t, h1, h2, e, h3⟩ := K_succ.1 hk
    exact K_succ.2 ⟨c, t, h1, h2, e, (h t (nx_ok hs e)).trans h3⟩
  cases q : K w (k + 1) s with
  | true => exact key hs q
  | false =>
    cases q2 : K w (k + 1 + 1) s with
    | false => rfl
    | true => exact absurd (K_anti q2) (by rw [q]; decide)
theorem stable_le {w : List Int} {k m : Nat} (h : stable w k) (hk : k ≤ m) : stable w m := by
  induction m with
  | zero => obtain rfl : k = 0 := by omega
            exact h
  | succ m ih =>
    by_cases q : k = m + 1
    · rw [← q]; exact h
    · exact stable_succ (ih (by omega))
theorem stable_eq {w : List Int} {k m : Nat} (h : stable w k) (hk : k ≤ m) {s : List Int} (hs : okSt w s) : K w m s = K w k s := by
  induction m with
  | zero => obtain rfl : k = 0 := by omega
            rfl
  | succ m ih =>
    by_cases q : k = m + 1
    · rw [q]
    · exact (stable_le h (by omega) s hs).trans (ih (by omega))
/-- How many of the numbers below n have p. -/
def cnt (p : Nat → Bool) : Nat → Nat
  | 0 => 0
  | n + 1 => cnt p n + if p n then 1 else 0
theorem cnt_le (p : Nat → Bool) : ∀ n, cnt p n ≤ n
  | 0 => Nat.le_refl _
  | n + 1 => by
    have := cnt_le p n
    unfold cnt; split <;> omega
theorem cnt_mono {p q : Nat → Bool} : ∀ {n : Nat}, (∀ i, i < n → p i = true → q i = true) → cnt p n ≤ cnt q n
  | 0, _ => Nat.le_refl _
  | n + 1, h => by
    have h1 := cnt_mono (n := n) (fun i hi => h i (by omega))
    have h2 := h n (by omega)
    unfold cnt
    by_cases c : p n = true
    · rw [if_pos c, if_pos (h2 c)]; omega
    · rw [if_neg c]; omega
theorem cnt_lt {p q : Nat → Bool} : ∀ {n : Nat}, (∀ i, i < n → p i = true → q i = true) → (∃ i, i < n ∧ p i = false ∧ q i = true) → cnt p n < cnt q n
  | 0, _, h => by obtain ⟨i, hi, _⟩ := h; omega
  | n + 1, h, ⟨i, hi, h3, h4⟩ => by
    have h2 := h n (by omega)
    by_cases q1 : i = n
    · subst q1
      have h1 := cnt_mono (n := i) (fun j hj => h j (by omega))
      unfold cnt
      rw [h3, h4]
      simp; omega
    · have h1 := cnt_lt (n := n) (fun j hj => h j (by omega)) ⟨i, by omega, h3, h4⟩
      unfold cnt
      by_cases c : p n = true
      · rw [if_pos c, if_pos (h2 c)]; omega
      · rw [if_neg c]; omega
theorem cnt_congr {p q : Nat → Bool} : ∀ {n : Nat}, (∀ i, i < n → p i = q i) → cnt p n = cnt q n
  | 0, _ => rfl
  | n + 1, h => by unfold cnt; rw [cnt_congr (fun i hi => h i (by omega)), h n (by omega)]
theorem cnt_zero {p : Nat → Bool} : ∀ {n : Nat}, cnt p n = 0 → ∀ i, i < n → p i = false
  | 0, _, i, hi => by omega
  | n + 1, h, i, hi => by
    unfold cnt at h
    by_cases c : p n = true
    · rw [if_pos c] at h; omega
    · rw [if_neg c] at h
      by_cases q : i = n
      · rw [q]; simpa using c
      · exact cnt_zero (n := n) (by omega) i (by omega)
/-- How many states can go on for k nights. -/
def cntK (w : List Int) (k : Nat) : Nat := cnt (fun i => K w k (digL w i)) (prodI w).toNat
theorem dig_ok {w : List Int} (hp : pos w) {i : Nat} (hi : i < (prodI w).toNat) : numL w (digL w i) = i ∧ okSt w (digL w i) := num_dig hp (by omega) (by omega)
theorem num_lt {w s : List Int} (h : okSt w s) : (numL w s).toNat < (prodI w).toNat ∧ ((numL w s).toNat : Int) = numL w s := by
  obtain ⟨h1, h2⟩ := numL_bd h
  omega
theorem cntK_step {w : List Int} (hp : pos w) {k : Nat} (h : ¬ stable w k) : cntK w (k + 1) < cntK w k := by
  refine cnt_lt (fun i hi => fun h => K_anti h) ?_
  refine Classical.byContradiction fun hn => h fun s hs => ?_
  obtain ⟨h1, h2⟩ := num_lt hs
  have e : digL w ((numL w s).toNat : Int) = s := by rw [h2]; exact dig_num hs
  cases q : K w (k + 1) s with
  | true => exact (K_anti q).symm
  | false =>
    cases q2 : K w k s with
    | false => rfl
    | true => exact absurd ⟨_, h1, by rw [e]; exact q, by rw [e]; exact q2⟩ hn
/-- Behind as many nights as there are states nothing changes. -/
theorem stable_all {w : List Int} (hp : pos w) {k : Nat} (hk : (prodI w).toNat ≤ k) : stable w k := by
  have key : ∀ m, (∃ j, j < m ∧ stable w j) ∨ cntK w m + m ≤ (prodI w).toNat := by
    intro m
    induction m with
    | zero => exact .inr (by have := cnt_le (fun i => K w 0 (digL w i)) (prodI w).toNat; unfold cntK; omega)
    | succ m ih =>
      rcases ih with ⟨j, hj, h⟩ | h
      · exact .inl ⟨j, by omega, h⟩
      · by_cases c : stable w m
        · exact .inl ⟨m, by omega, c⟩
        · have := cntK_step hp c
          exact .inr (by omega)
  rcases key k with ⟨j, hj, h⟩ | h
  · exact stable_le h (by omega)
  · have h0 : cntK w k = 0 := by omega
    intro s hs
    obtain ⟨h1, h2⟩ := num_lt hs
    have e := cnt_zero h0 _ h1
    simp only [h2, dig_num hs] at e
    rw [e]
    cases q : K w (k + 1) s with
    | false => rfl
    | true => exact absurd (K_anti q) (by rw [e]; decide)
end Go.Proofs.Ythbpibdfookbmaa.G
