/- The law PullWider of the printed functions. Plain Lean. -/
import Derived.Test.YtiebfmenkpodeaaPCount
import Derived.Test.YtiebfmenkpodeaaPAnch
import Derived.Test.YtiebfmenkpodeaaGF6
namespace Go.Proofs.Ytiebfmenkpodeaa.G
set_option linter.unusedVariables false
set_option linter.unusedSimpArgs false
open Go.RowKit Go.Proofs.YtiebfmenkpodeaaW.PrintWords Go.Proofs.YtiebfmenkpodeaaW.PrintLast
/-- Masts as described. -/
def MOk (l : List Int) : Prop := 2 ≤ l.length ∧ l.length ≤ 30 ∧ (∀ j, j < l.length → 0 ≤ rd l (j : Int) ∧ rd l (j : Int) ≤ 100000) ∧ ∀ j, j + 1 < l.length → rd l (j : Int) < rd l ((j + 1 : Nat) : Int)
theorem masts_ref (l : List Int) (hl : l.length ≤ 9223372036854775807) : ∀ (d i : Nat), i + d = l.length → ∃ b : Bool, Ev (fun k => dropperref04_Masts.l0 k l (i : Int)) b ∧ (b = true → 2 ≤ l.length ∧ l.length ≤ 30 ∧ (∀ j, i ≤ j → j < l.length → 0 ≤ rd l (j : Int) ∧ rd l (j : Int) ≤ 100000) ∧ ∀ j, i ≤ j + 1 → j + 1 < l.length → rd l (j : Int) < rd l ((j + 1 : Nat) : Int)) := by
  intro d
  induction d with
  | zero =>
    intro i hi
    refine ⟨decide ((2 : Int) ≤ l.length ∧ (l.length : Int) ≤ 30), ev_some _ fun k => ?_, fun h => ?_⟩
    · rw [dropperref04_Masts.l0, if_neg (by omega), from_some]; rfl
    · have := of_decide_eq_true h
      exact ⟨by omega, by omega, fun j h1 h2 => by omega, fun j h1 h2 => by omega⟩
  | succ d ih =>
    intro i hi
    obtain ⟨b, e2, hb⟩ := ih (i + 1) (by omega)
    rw [← wsucc i (by omega)] at e2
    by_cases c1 : 0 ≤ rd l (i : Int) ∧ rd l (i : Int) ≤ 100000
    · by_cases c2 : 0 < i ∧ rd l (i : Int) ≤ rd l (wrap64 ((i : Int) - 1))
      · refine ⟨false, ev_some _ fun k => ?_, fun h => by cases h⟩
        rw [dropperref04_Masts.l0, if_pos (by omega), if_pos (by omega), from_some, decide_eq_true c1]
        simp only [Option.bind_some, if_true]
        rw [if_pos (by omega), if_pos c2.2]
        rw [if_pos (by rw [w64 (by omega) (by omega)]; omega), if_pos (by rw [w64 (by omega) (by omega)]; omega)]
      · refine ⟨b, Ev.step (fun k => ?_) e2, fun h => ?_⟩
        · rw [dropperref04_Masts.l0, if_pos (by omega), if_pos (by omega), from_some, decide_eq_true c1]
          simp only [Option.bind_some, if_true]
          by_cases c3 : 0 < i
          · rw [if_pos (by omega), if_neg (fun z => c2 ⟨c3, z⟩)]
            rw [if_pos (by rw [w64 (by omega) (by omega)]; omega), if_pos (by rw [w64 (by omega) (by omega)]; omega)]
          · rw [if_neg (by omega)]
        · obtain ⟨g1, g2, g3, g4⟩ := hb h
          refine ⟨g1, g2, fun j h1 h2 => ?_, fun j h1 h2 => ?_⟩
          · by_cases e : j = i
            · subst e; exact c1
            · exact g3 j (by omega) h2
          · by_cases e : j + 1 = i
            · subst e
              have z : ¬ rd l ((j + 1 : Nat) : Int) ≤ rd l (wrap64 (((j + 1 : Nat) : Int) - 1)) := fun z => c2 ⟨by omega, z⟩
              rw [wpred j (by omega)] at z
              omega
            · exact g4 j (by omega) h2
    · refine ⟨false, ev_some _ fun k => ?_, fun h => by cases h⟩
      rw [dropperref04_Masts.l0, if_pos (by omega), if_pos (by omega), from_some, decide_eq_false c1]
      rfl
theorem masts_ok {l : List Int} (h : MOk l) : ∀ (d i : Nat), i + d = l.length → Ev (fun k => pull_areMasts.l0 k l l (l.length : Int) (i : Int)) true := by
  obtain ⟨h2, h30, hb, ha⟩ := h
  intro d
  induction d with
  | zero =>
    intro i hi
    refine ev_some _ fun k => ?_
    rw [pull_areMasts.l0, if_neg (by omega), within_some, decide_eq_true (⟨by omega, by omega⟩ : (2 : Int) ≤ l.length ∧ (l.length : Int) ≤ 30)]; rfl
  | succ d ih =>
    intro i hi
    have e1 := ih (i + 1) (by omega)
    rw [← wsucc i (by omega)] at e1
    refine Ev.step (fun k => ?_) e1
    rw [pull_areMasts.l0, if_pos (by omega), if_pos (by omega), if_pos (by omega), within_some, decide_eq_true (hb i (by omega))]
    simp only [Option.bind_some, if_true]
    by_cases c3 : 0 < i
    · obtain ⟨j, rfl⟩ : ∃ j, i = j + 1 := ⟨i - 1, by omega⟩
      have := ha j (by omega)
      rw [if_pos (by omega), wpred j (by omega), if_pos (by omega), if_pos (by omega), if_neg (by omega)]
    · rw [if_neg (by omega)]
def BOk (a b : Int) : Prop := 1 ≤ a ∧ a ≤ b ∧ b ≤ 100000
theorem valid_ref (l : List Int) (hl : l.length ≤ 9223372036854775807) (a b : Int) : ∃ v : Bool, Ev (fun k => dropperref04_Valid.f k l a b) v ∧ (v = true → MOk l ∧ BOk a b) := by
  obtain ⟨m, e2, hm⟩ := masts_ref l hl l.length 0 (by omega)
  have rest : ∀ x : Bool, (if x = true then some (decide (b ≤ 100000)) else some false) = some (x && decide (b ≤ 100000)) := by intro x; cases x <;> rfl
  refine ⟨m && (decide (1 ≤ a ∧ a ≤ b) && decide (b ≤ 100000)), ?_, fun h => ?_⟩
  · refine Ev.bind (g := fun k => dropperref04_Masts.l0 k l 0) (f := fun k m => if m = true then ((dropperref04_from.f 1 a b).bind fun t102 => (if t102 = true then (some (decide (b ≤ 100000))) else (some false))) else (some false)) e2 ?_
    refine Ev.congr (fun k => ?_) (Ev.now _)
    rw [from_some]
    cases m <;> simp [rest]
  · have h1 : m = true := by cases m <;> simp_all
    subst h1
    obtain ⟨g1, g2, g3, g4⟩ := hm rfl
    have h3 : (1 ≤ a ∧ a ≤ b) ∧ b ≤ 100000 := by simpa using h
    exact ⟨⟨g1, g2, fun j h => g3 j (by omega) h, fun j h => g4 j (by omega) h⟩, h3.1.1, h3.1.2, h3.2⟩
theorem valid_p {l : List Int} (h : MOk l) {a b : Int} (hb : BOk a b) : Ev (fun k => pull_Valid.f k l a b) true := by
  refine Ev.bind (g := fun k => pull_areMasts.l0 k l l (l.length : Int) 0) (f := fun k m => if m = true then ((pull_within.f 1 a b).bind fun t102 => (if t102 = true then (some (decide (b ≤ 100000))) else (some false))) else (some false)) (masts_ok h l.length 0 (by omega)) ?_
  refine Ev.congr (fun k => ?_) (Ev.now _)
  rw [within_some, decide_eq_true (show 1 ≤ a ∧ a ≤ b from ⟨hb.1, hb.2.1⟩)]
  simp [decide_eq_true hb.2.2]
theorem number_val {l : List Int} (h : MOk l) {a b : Int} (hb : BOk a b) {N : Nat → Int} (hN : Onw (mayB l a b) l.length N) : Ev (fun k => pull_Number.f k l a b) (N 0, 0) := by
  obtain ⟨K1, s1⟩ := open_anch (valid_p h hb)
  obtain ⟨K3, s3⟩ := numbers_ev hN h.2.1 h.1
  have h1 := h.1
  have e0 : rd ((List.range l.length).map N) 0 = N 0 := rd_map N (i := 0) (by omega)
  refine ⟨K1 + K3, fun k hk => ?_⟩
  have t : pull_open.f k l a b = some (l, a, b, 0) := s1 k (by omega)
  have t3 := s3 k (by omega)
  dsimp only at t3 ⊢
  unfold pull_Number.f
  rw [t]
  simp only [Option.bind_some, if_true]
  rw [t3]
  simp only [Option.bind_some, List.length_map, List.length_range, e0]
  rw [if_pos (by omega)]
theorem anchors_val {l : List Int} (h : MOk l) {a b : Int} (hb : BOk a b) {B N : Nat → Int} (hB : Bhd (mayB l a b) l.length B) (hN : Onw (mayB l a b) l.length N) : Ev (fun k => pull_Anchors.f k l a b) (idx (fun j => decide (B j > 0 ∧ N j > 0)) 0 l.length, 0) := by
  obtain ⟨K1, s1⟩ := open_anch (valid_p h hb)
  obtain ⟨K3, s3⟩ := anchors_ev hB hN h.1 h.2.1
  obtain ⟨K6, s6⟩ := idx_p (n := l.length) h.2.1 (p := fun j => decide (B j > 0 ∧ N j > 0)) (f := prF B N) (fn := pull_Anchors_1.f) (fun j hj => by unfold pull_Anchors_1.f; rw [prod_pos hB hN h.2.1 hj]) l.length 0 [] (by omega) (by simp)
  rw [List.nil_append] at s6
  refine ⟨K1 + K3 + K6, fun k hk => ?_⟩
  have t : pull_open.f k l a b = some (l, a, b, 0) := s1 k (by omega)
  have t3 := s3 k (by omega)
  have t6 := s6 k (by omega)
  dsimp only at t3 t6 ⊢
  unfold pull_Anchors.f pull_indexes.f
  rw [t]
  simp only [Option.bind_some, if_true]
  rw [t3]
  simp only [Option.bind_some, List.length_map, List.length_range]
  rw [show (0 : Int) = ((0 : Nat) : Int) from rfl, t6]
  rfl
theorem idx_mem (p : Nat → Bool) : ∀ (d i : Nat) (x : Int), x ∈ idx p i d ↔ ∃ j, i ≤ j ∧ j < i + d ∧ p j = true ∧ x = (j : Int)
  | 0, i, x => by simp [idx]; intro j h1 h2; omega
  | d + 1, i, x => by
    rw [idx, List.mem_append, idx_mem p d (i + 1) x]
    constructor
    · rintro (h | ⟨j, h1, h2, h3, h4⟩)
      · by_cases c : p i = true
        · rw [if_pos c, List.mem_singleton] at h; exact ⟨i, by omega, by omega, c, h⟩
        · rw [if_neg c] at h; cases h
      · exact ⟨j, by omega, by omega, h3, h4⟩
    · rintro ⟨j, h1, h2, h3, h4⟩
      by_cases e : j = i
      · subst e; left; rw [if_pos h3, List.mem_singleton]; exact h4
      · right; exact ⟨j, by omega, by omega, h3, h4⟩
theorem rd_mem (l : List Int) (x : Int) : x ∈ l ↔ ∃ j, j < l.length ∧ rd l ((j : Nat) : Int) = x := by
  rw [List.mem_iff_getElem]
  constructor
  · rintro ⟨j, h, e⟩; exact ⟨j, h, by simp [rd, List.getD_eq_getElem?_getD, h, e]⟩
  · rintro ⟨j, h, e⟩; exact ⟨j, h, by simpa [rd, List.getD_eq_getElem?_getD, h] using e⟩
theorem rd_take {l : List Int} {m j : Nat} (h : j < m) : rd (l.take m) (j : Int) = rd l (j : Int) := by
  simp [rd, List.getD_eq_getElem?_getD, List.getElem?_take, h]
theorem rd_drop (l : List Int) (m j : Nat) : rd (l.drop m) (j : Int) = rd l ((j + m : Nat) : Int) := by
  simp only [rd, List.getD_eq_getElem?_getD, List.getElem?_drop, Int.toNat_natCast, Nat.add_comm]
theorem mok_take {l : List Int} (h : MOk l) {m : Nat} (h2 : 2 ≤ m) (hm : m ≤ l.length) : MOk (l.take m) := by
  have hl : (l.take m).length = m := by rw [List.length_take]; omega
  refine ⟨by omega, by have := h.2.1; omega, fun j hj => ?_, fun j hj => ?_⟩
  · rw [rd_take (by omega)]; exact h.2.2.1 j (by omega)
  · rw [rd_take (by omega), rd_take (by omega)]; exact h.2.2.2 j (by omega)
theorem mok_drop {l : List Int} (h : MOk l) {m : Nat} (hm : m + 2 ≤ l.length) : MOk (l.drop m) := by
  have hl : (l.drop m).length = l.length - m := by rw [List.length_drop]
  refine ⟨by omega, by have := h.2.1; omega, fun j hj => ?_, fun j hj => ?_⟩
  · rw [rd_drop]; exact h.2.2.1 _ (by omega)
  · rw [rd_drop, rd_drop, show j + 1 + m = j + m + 1 by omega]; exact h.2.2.2 _ (by omega)
/-- The masts the other way round. -/
def bk (l : List Int) : Nat → Int := fun j => 100000 - rd l ((l.length - 1 - j : Nat) : Int)
theorem mok_back {l x : List Int} (h : MOk l) (hx : x.length = l.length) (e : ∀ j, j < l.length → rd x (j : Int) = bk l j) : MOk x := by
  refine ⟨by have := h.1; omega, by have := h.2.1; omega, fun j hj => ?_, fun j hj => ?_⟩
  · rw [e j (by omega)]; have := h.2.2.1 (l.length - 1 - j) (by omega); unfold bk; omega
  · rw [e j (by omega), e (j + 1) (by omega)]
    have := h.2.2.2 (l.length - 1 - (j + 1)) (by omega)
    rw [show l.length - 1 - (j + 1) + 1 = l.length - 1 - j by omega] at this
    unfold bk; omega
theorem onw_congr {M M' : Nat → Nat → Bool} {n : Nat} {N : Nat → Int} (e : ∀ i k, i < k → k < n → M i k = M' i k) (h : Onw M n N) : Onw M' n N := by
  refine ⟨h.1, fun i hi => ?_⟩
  rw [h.2 i hi]
  refine sm_congr _ _ fun j h1 h2 => ?_
  unfold wy
  rw [e i j (by omega) (by omega)]
theorem sm_shift (f : Nat → Int) (c : Nat) : ∀ (d k : Nat), sm f (k + c) d = sm (fun j => f (j + c)) k d
  | 0, _ => rfl
  | d + 1, k => by rw [sm, sm, show k + c + 1 = (k + 1) + c by omega, sm_shift f c d (k + 1)]
theorem onw_drop {M : Nat → Nat → Bool} {n m : Nat} {N : Nat → Int} (hm : m < n) (h : Onw M n N) : Onw (fun i k => M (i + m) (k + m)) (n - m) (fun i => N (i + m)) := by
  refine ⟨?_, fun i hi => ?_⟩
  · show N (n - m - 1 + m) = 1
    rw [show n - m - 1 + m = n - 1 by omega]; exact h.1
  · show N (i + m) = _
    rw [h.2 (i + m) (by omega), show i + m + 1 = i + 1 + m by omega, sm_shift, show n - 1 - (i + m) = n - m - 1 - i by omega]
    rfl
theorem may_drop {l : List Int} {a b : Int} (m i k : Nat) : mayB (l.drop m) a b i k = mayB l a b (i + m) (k + m) := by
  unfold mayB; rw [rd_drop, rd_drop]
theorem may_take {l : List Int} {a b : Int} {m i k : Nat} (hi : i < m) (hk : k < m) : mayB (l.take m) a b i k = mayB l a b i k := by
  unfold mayB; rw [rd_take hi, rd_take hk]
theorem may_back {l x : List Int} {a b : Int} (h : MOk l) (hx : x.length = l.length) (e : ∀ j, j < l.length → rd x (j : Int) = bk l j) {i k : Nat} (hi : i < k) (hk : k < l.length) : mayB x a b i k = mayB l a b (l.length - 1 - k) (l.length - 1 - i) := by
  have b1 := h.2.2.1 (l.length - 1 - k) (by omega)
  have b2 := h.2.2.1 (l.length - 1 - i) (by omega)
  unfold mayB
  rw [e i (by omega), e k hk]
  unfold bk
  rw [show (100000 - rd l ((l.length - 1 - k : Nat) : Int) - (100000 - rd l ((l.length - 1 - i : Nat) : Int))) = rd l ((l.length - 1 - i : Nat) : Int) - rd l ((l.length - 1 - k : Nat) : Int) by omega]
theorem is_loop {x : List Int} {at_ : Int} {s : Bool} {K : Nat} (ha : ∀ k, K ≤ k → dropperlaw04_Awake.f k = some true) (hx : x.length ≤ 1000) : ∀ (d i : Nat) (is : Bool), i + d = x.length → (s = true ↔ (is = true ∨ ∃ j, i ≤ j ∧ j < x.length ∧ rd x ((j : Nat) : Int) = at_)) → Ev (fun k => dropperlaw04_PullWider.l1 k x at_ s is (i : Int)) true := by
  intro d
  induction d with
  | zero =>
    intro i is hi hs
    have e : is = s := by
      cases is <;> cases s <;> simp at hs ⊢
      obtain ⟨j, h1, h2, _⟩ := hs; omega
    subst e
    refine ⟨K + 1, fun k hk => ?_⟩
    obtain ⟨k, rfl⟩ : ∃ q, k = q + 1 := ⟨k - 1, by omega⟩
    dsimp only
    rw [dropperlaw04_PullWider.l1, if_neg (by omega), if_pos (by simp), ha k (by omega)]
    rfl
  | succ d ih =>
    intro i is hi hs
    cases is with
    | true =>
      refine Ev.step (fun k => ?_) (ih (i + 1) true (by omega) ⟨fun _ => Or.inl rfl, fun _ => hs.2 (Or.inl rfl)⟩)
      rw [dropperlaw04_PullWider.l1, if_pos (by omega), if_pos rfl, wsucc i (by omega)]
    | false =>
      refine Ev.step (fun k => ?_) (ih (i + 1) (rd x (i : Int) == at_) (by omega) ⟨fun h => ?_, fun h => hs.2 (Or.inr ?_)⟩)
      · rw [dropperlaw04_PullWider.l1, if_pos (by omega), if_neg (by decide), if_pos (by omega), wsucc i (by omega)]
      · rcases hs.1 h with h | ⟨j, h1, h2, h3⟩
        · cases h
        · by_cases e : j = i
          · subst e; left; simp [h3]
          · right; exact ⟨j, by omega, h2, h3⟩
      · rcases h with h | ⟨j, h1, h2, h3⟩
        · exact ⟨i, Nat.le_refl _, by omega, by simpa using h⟩
        · exact ⟨j, by omega, h2, h3⟩
theorem u16_lim {x : Int} (h : (Lit.int .u16 x).wf = true) : 0 ≤ x ∧ x ≤ 65535 := by
  have w' : (decide ((0 : Int) ≤ x) && decide (x ≤ 65535)) = true := h
  simpa using w'
theorem PullWider_pure (l : List Int) (a b v0 v1 v2 : Int) (hx : ∀ x ∈ l, (Lit.int .i64 x).wf = true) (w0 : (Lit.int .i64 a).wf = true) (w1 : (Lit.int .i64 b).wf = true) (u0 : (Lit.int .u16 v0).wf = true) (u1 : (Lit.int .u16 v1).wf = true) (u2 : (Lit.int .u16 v2).wf = true) (hl : l.length ≤ 9223372036854775807) : ∃ k, dropperlaw04_PullWider.f k l a b v0 v1 v2 = some true := by
  obtain ⟨K0, s0⟩ := awake_num
  have a0 : ∀ k, K0 ≤ k → dropperlaw04_Awake.f k = some true := s0
  obtain ⟨v, ⟨K1, s1⟩, hv⟩ := valid_ref l hl a b
  have a1 : ∀ k, K1 ≤ k → dropperref04_Valid.f k l a b = some v := s1
  cases v with
  | false =>
    refine ⟨K0 + K1, ?_⟩
    unfold dropperlaw04_PullWider.f
    rw [a1 _ (by omega)]
    simp [a0 (K0 + K1) (by omega)]
  | true =>
    obtain ⟨hm, hb⟩ := hv rfl
    have b0 := u16_lim u0
    have b1 := u16_lim u1
    have b2 := u16_lim u2
    have hl2 := hm.1
    have hl30 := hm.2.1
    obtain ⟨F, hF⟩ := way_ex (mayB l a b)
    have hN : Onw (mayB l a b) l.length (fun i => F i (l.length - 1)) := by
      have := hF (l.length - 1)
      rwa [show l.length - 1 + 1 = l.length by omega] at this
    obtain ⟨B, hB⟩ := bhd_ex (mayB l a b) l.length
    obtain ⟨N, eN⟩ : ∃ N, N = (fun i => F i (l.length - 1)) := ⟨_, rfl⟩
    rw [← eN] at hN
    -- wider bounds
    obtain ⟨wl, ewl⟩ : ∃ z, z = mx 1 (wrap64 (a - wrap64 v0)) := ⟨_, rfl⟩
    obtain ⟨wm, ewm⟩ : ∃ z, z = mn 100000 (wrap64 (b + wrap64 v1)) := ⟨_, rfl⟩
    have q1 : 1 ≤ wl ∧ wl ≤ a ∧ b ≤ wm ∧ wm ≤ 100000 := by
      obtain ⟨h1, h2, h3⟩ := hb
      rw [w64 (n := v0) (by omega) (by omega), w64 (by omega) (by omega), mx_eq] at ewl
      rw [w64 (n := v1) (by omega) (by omega), w64 (by omega) (by omega), mn_eq] at ewm
      omega
    obtain ⟨N2, hN2⟩ := onw_ex (mayB l wl wm) (n := l.length) (by omega)
    have hw : N 0 ≤ N2 0 := onw_wider (fun i k h => by
      unfold mayB at h ⊢
      have := of_decide_eq_true h
      exact decide_eq_true (by omega)) hN hN2 l.length 0 (by omega) (by omega)
    obtain ⟨K2, s2⟩ := number_val hm hb hN
    have a2 : ∀ k, K2 ≤ k → pull_Number.f k l a b = some (N 0, 0) := s2
    obtain ⟨K3, s3⟩ := number_val hm (a := wl) (b := wm) ⟨q1.1, by have := hb.2.1; omega, q1.2.2.2⟩ hN2
    have a3 : ∀ k, K3 ≤ k → pull_Number.f k l wl wm = some (N2 0, 0) := s3
    have n0 : 0 ≤ N 0 := (onw_bd hN l.length 0 (by omega) (by omega)).1
    obtain ⟨K4, s4⟩ := anchors_val hm hb hB hN
    have a4 : ∀ k, K4 ≤ k → pull_Anchors.f k l a b = some (idx (fun j => decide (B j > 0 ∧ N j > 0)) 0 l.length, 0) := s4
    obtain ⟨at_, eat⟩ : ∃ z : Nat, z = v2.toNat % l.length := ⟨_, rfl⟩
    have lat : at_ < l.length := by rw [eat]; exact Nat.mod_lt _ (by omega)
    have tm : Int.tmod (wrap64 v2) (l.length : Int) = (at_ : Int) := by
      rw [w64 (by omega) (by omega), eat]
      obtain ⟨z, rfl⟩ : ∃ z : Nat, v2 = z := ⟨v2.toNat, by omega⟩
      rw [Int.toNat_natCast]; rfl
    have eB : ∀ k, k < l.length → B k = F 0 k := fun k hk => hF.bhd hB l.length k (by omega) hk
    obtain ⟨p, ep⟩ : ∃ p : Nat → Bool, p = (fun j => decide (B j > 0 ∧ N j > 0)) := ⟨_, rfl⟩
    rw [← ep] at a4
    -- the last loop
    have fin : ∀ s : Bool, (s = true ↔ p at_ = true) → Ev (fun k => dropperlaw04_PullWider.l1 k (idx p 0 l.length) (at_ : Int) s false 0) true := by
      intro s hs
      refine is_loop a0 (by have := idx_len p l.length 0; omega) (idx p 0 l.length).length 0 false (by omega) ?_
      rw [hs]
      constructor
      · intro h
        right
        obtain ⟨j, h1, h2⟩ := (rd_mem _ _).1 ((idx_mem p l.length 0 (at_ : Int)).2 ⟨at_, by omega, by omega, h, rfl⟩)
        exact ⟨j, by omega, h1, h2⟩
      · rintro (h | ⟨j, h1, h2, h3⟩)
        · cases h
        · obtain ⟨i, g1, g2, g3, g4⟩ := (idx_mem p l.length 0 (at_ : Int)).1 ((rd_mem _ _).2 ⟨j, h2, h3⟩)
          obtain rfl : at_ = i := by omega
          exact g3
    have fin2 : ∀ s : Bool, (s = true ↔ p at_ = true) → Ev (fun k => dropperlaw04_PullWider.j3 k (idx p 0 l.length) (at_ : Int) s) true := by
      intro s hs
      exact Ev.step (fun k => by rw [dropperlaw04_PullWider.j3]) (fin s hs)
    have J1 : Ev (fun k => dropperlaw04_PullWider.j1 k l (N 0) false a b v0 v1 v2) true := by
      have lw : wrap64 ((l.length : Int) - 1) = (l.length : Int) - 1 := w64 (by omega) (by omega)
      have J2 : Ev (fun k => if (at_ : Int) > 0 then (dropperlaw04_PullWider.j2 k l (idx p 0 l.length) (at_ : Int) (decide (N 0 > 0)) (decide ((at_ : Int) < (wrap64 ((l.length : Int) - 1)))) a b) else (dropperlaw04_PullWider.j2 k l (idx p 0 l.length) (at_ : Int) (decide (N 0 > 0)) false a b)) true := by
        have ends : (at_ = 0 ∨ at_ + 1 = l.length) → Ev (fun k => dropperlaw04_PullWider.j2 k l (idx p 0 l.length) (at_ : Int) (decide (N 0 > 0)) false a b) true := by
          intro he
          refine Ev.step (fun k => by rw [dropperlaw04_PullWider.j2, if_neg (by decide)]) (fin2 (decide (N 0 > 0)) ?_)
          rw [ep]
          have e1 : N (l.length - 1) = 1 := hN.1
          have e2 := eB 0 (by omega)
          have e3 := eB (l.length - 1) (by omega)
          have e4 : N 0 = F 0 (l.length - 1) := by rw [eN]
          rw [hB.1] at e2
          rcases he with he | he
          · subst he
            simp only [decide_eq_true_eq, hB.1]
            omega
          · obtain rfl : at_ = l.length - 1 := by omega
            simp only [decide_eq_true_eq]
            omega
        by_cases c : 0 < at_
        · by_cases c2 : at_ + 1 = l.length
          · refine Ev.congr (fun k => ?_) (ends (Or.inr c2))
            rw [if_pos (by omega), lw, decide_eq_false (show ¬ (at_ : Int) < (l.length : Int) - 1 by omega)]
          · have mt := mok_take hm (m := at_ + 1) (by omega) (by omega)
            have md := mok_drop hm (m := at_) (by omega)
            have tl : (l.take (at_ + 1)).length = at_ + 1 := by rw [List.length_take]; omega
            have dl : (l.drop at_).length = l.length - at_ := by rw [List.length_drop]
            have o1 : Onw (mayB (l.take (at_ + 1)) a b) (l.take (at_ + 1)).length (fun i => F i at_) := by
              rw [tl]
              exact onw_congr (fun i k h1 h2 => (may_take (by omega) h2).symm) (hF at_)
            have o2 : Onw (mayB (l.drop at_) a b) (l.drop at_).length (fun i => N (i + at_)) := by
              rw [dl]
              exact onw_congr (fun i k h1 h2 => (may_drop at_ i k).symm) (onw_drop (by omega) hN)
            obtain ⟨K5, s5⟩ := number_val mt hb o1
            obtain ⟨K6, s6⟩ := number_val md hb o2
            have a5 : ∀ k, K5 ≤ k → pull_Number.f k (l.take (at_ + 1)) a b = some (F 0 at_, 0) := s5
            have a6 : ∀ k, K6 ≤ k → pull_Number.f k (l.drop at_) a b = some (N at_, 0) := fun k hk => by
              have := s6 k hk
              dsimp only at this
              rw [this, Nat.zero_add]
            have hp : p at_ = decide (F 0 at_ > 0 ∧ N at_ > 0) := by rw [ep, ← eB at_ lat]
            obtain ⟨K7, s7⟩ := fin2 (p at_) Iff.rfl
            refine ⟨K5 + K6 + K7 + 1, fun k hk => ?_⟩
            obtain ⟨k, rfl⟩ : ∃ q, k = q + 1 := ⟨k - 1, by omega⟩
            dsimp only
            rw [if_pos (by omega), lw, decide_eq_true (show (at_ : Int) < (l.length : Int) - 1 by omega), dropperlaw04_PullWider.j2, if_pos rfl, wsucc at_ (by omega), if_pos (by omega), if_pos (by omega)]
            rw [Int.toNat_natCast, Int.toNat_natCast, a5 k (by omega), a6 k (by omega)]
            simp only [Option.bind_some, if_true]
            rw [if_pos (by omega), if_pos (by omega)]
            have t7 : dropperlaw04_PullWider.j3 k (idx p 0 l.length) (at_ : Int) (p at_) = some true := s7 k (by omega)
            by_cases c3 : F 0 at_ > 0
            · rw [if_pos c3]
              rw [hp, show decide (F 0 at_ > 0 ∧ N at_ > 0) = decide (N at_ > 0) from decide_eq_decide.2 ⟨fun h => h.2, fun h => ⟨c3, h⟩⟩] at t7
              exact t7
            · rw [if_neg c3]
              rw [hp, decide_eq_false (fun h => c3 h.1)] at t7
              exact t7
        · refine Ev.congr (fun k => ?_) (ends (Or.inl (by omega)))
          rw [if_neg (by omega)]
      obtain ⟨K8, s8⟩ := J2
      refine ⟨K4 + K8 + 1, fun k hk => ?_⟩
      obtain ⟨k, rfl⟩ : ∃ q, k = q + 1 := ⟨k - 1, by omega⟩
      have t8 := s8 k (by omega)
      dsimp only at t8 ⊢
      rw [dropperlaw04_PullWider.j1, if_neg (by decide), a4 k (by omega)]
      simp only [Option.bind_some, if_true]
      rw [if_neg (by omega), tm]
      exact t8
    -- the masts the other way round
    have back : ∀ (d : Nat) (x : List Int), d + x.length = l.length → (∀ j, j < x.length → rd x (j : Int) = bk l j) → Ev (fun k => dropperlaw04_PullWider.l0 k l (N 0) 0 (N2 0) 0 x ((d : Int) - 1) a b v0 v1 v2) true := by
      intro d
      induction d with
      | zero =>
        intro x hd hx'
        obtain ⟨N3, hN3⟩ := onw_ex (mayB x a b) (n := x.length) (by omega)
        have e3 : N3 0 = N 0 := onw_back (n := l.length) (M := mayB l a b) (M' := mayB x a b) (by omega) (fun i k h1 h2 => may_back hm (by omega) (fun j hj => hx' j (by omega)) h1 h2) hN (by rw [show l.length = x.length by omega]; exact hN3)
        obtain ⟨K5, s5⟩ := number_val (mok_back hm (by omega) (fun j hj => hx' j (by omega))) hb hN3
        have a5 : ∀ k, K5 ≤ k → pull_Number.f k x a b = some (N3 0, 0) := s5
        obtain ⟨K6, s6⟩ := J1
        refine ⟨K5 + K6 + 1, fun k hk => ?_⟩
        obtain ⟨k, rfl⟩ : ∃ q, k = q + 1 := ⟨k - 1, by omega⟩
        have t6 := s6 k (by omega)
        dsimp only at t6 ⊢
        rw [dropperlaw04_PullWider.l0, if_neg (by omega), a5 k (by omega), e3]
        simp only [Option.bind_some, if_true]
        rw [if_neg (by omega), decide_eq_false (by omega)]
        exact t6
      | succ d ih =>
        intro x hd hx'
        have v := hm.2.2.1 d (by omega)
        have sn := snoc_inv (f := bk l) (v := 100000 - rd l (d : Int)) rfl hx' (by unfold bk; rw [show l.length - 1 - x.length = d by omega])
        refine Ev.step (fun k => ?_) (ih (x ++ [100000 - rd l (d : Int)]) (by simp; omega) (fun j hj => sn.2 j (by simpa using hj)))
        rw [show (((d + 1 : Nat) : Int) - 1) = (d : Int) by omega, dropperlaw04_PullWider.l0, if_pos (by omega), if_pos (by omega), if_pos (by omega), if_pos (by omega), w64 (n := 100000 - rd l (d : Int)) (by omega) (by omega), w64 (n := (d : Int) - 1) (by omega) (by omega)]
    obtain ⟨K9, s9⟩ := back l.length [] (by simp) (fun j hj => by simp at hj)
    refine ⟨K0 + K1 + K2 + K3 + K9, ?_⟩
    have t9 := s9 (K0 + K1 + K2 + K3 + K9) (by omega)
    dsimp only at t9
    unfold dropperlaw04_PullWider.f
    rw [a1 _ (by omega)]
    simp only [Option.bind_some, if_true]
    rw [← ewl, ← ewm, a2 _ (by omega), a3 _ (by omega)]
    simp only [Option.bind_some]
    rw [w64 (n := (l.length : Int) - 1) (by omega) (by omega)]
    exact t9
end Go.Proofs.Ytiebfmenkpodeaa.G
