/- The law ArmPieces of the printed functions. Plain Lean. -/
import Derived.Test.YtiapmkndgalgnaaPPieces
namespace Go.Proofs.Ytiapmkndgalgnaa.G
set_option linter.unusedVariables false
open Go.RowKit Go.Proofs.YtiapmkndgalgnaaW.PrintWords Go.Proofs.YtiapmkndgalgnaaW.PrintLast

/-- An index is within the windows, and behind the one ahead of it. -/
def PI (l : List S73) (ps : List Int) (j : Nat) : Prop := 0 ≤ rd ps (j : Int) ∧ rd ps (j : Int) < l.length ∧ (0 < j → rd ps ((j - 1 : Nat) : Int) < rd ps (j : Int))
/-- Indexes that begin with 0. -/
def P0 (ps : List Int) : Prop := ps ≠ [] ∧ rd ps 0 = 0
def FA (l : List S73) (ps : List Int) (j : Nat) : Prop := Feas (seg l (rd ps (j : Int)).toNat (toI l ps j).toNat)

theorem pa_iff (l : List S73) (ps : List Int) : (∀ j, j < ps.length → PA l ps j) ↔ (∀ j, j < ps.length → PI l ps j) ∧ ∀ j, j < ps.length → FA l ps j := by
  constructor
  · intro h
    refine ⟨fun j hj => ?_, fun j hj => (h j hj).2.2.2⟩
    obtain ⟨h1, h2, h3, _⟩ := h j hj
    refine ⟨h1, by omega, fun h0 => ?_⟩
    obtain ⟨_, g2, _⟩ := h (j - 1) (by omega)
    unfold toI at g2
    rw [if_pos (by omega), show j - 1 + 1 = j by omega] at g2
    exact g2
  · rintro ⟨h, h'⟩ j hj
    obtain ⟨h1, h2, _⟩ := h j hj
    refine ⟨h1, ?_, ?_, h' j hj⟩
    · unfold toI
      by_cases c : j + 1 < ps.length
      · rw [if_pos c]
        exact (h (j + 1) c).2.2 (by omega)
      · rw [if_neg c]; exact h2
    · unfold toI
      by_cases c : j + 1 < ps.length
      · rw [if_pos c]
        have := (h (j + 1) c).2.1; omega
      · rw [if_neg c]; omega

open Classical in
theorem ref_are_loop1 {l : List S73} (h : Okl l) (hl : l.length ≤ 30) {ps : List Int} (hps : ps.length ≤ 50) (hI : ∀ j, j < ps.length → PI l ps j) : ∀ (d i : Nat) (r : Bool), ps.length - i = d → i ≤ ps.length → (r = true ↔ ∀ j, i ≤ j → j < ps.length → FA l ps j) →
    Ev (fun k => dropperref03_ArePieces.l1 k l ps i) (r, 0) := by
  intro d
  induction d with
  | zero =>
    intro i r hd hi hr
    have : r = true := hr.2 (fun j _ _ => by omega)
    subst this
    refine ev_some _ fun k => ?_
    rw [dropperref03_ArePieces.l1, if_neg (by omega)]
  | succ d ih =>
    intro i r hd hi hr
    have hlt : i < ps.length := by omega
    rw [all_from hlt] at hr
    obtain ⟨i1, i2, _⟩ := hI i hlt
    have hw : wrap64 ((i : Int) + 1) = ((i + 1 : Nat) : Int) := by rw [w64 (by omega) (by omega)]; rfl
    have q1 : (i : Int) < (ps.length : Int) := by omega
    have q2 : (0 : Int) ≤ (i : Int) := by omega
    have q3 : (0 : Int) ≤ ((i + 1 : Nat) : Int) := by omega
    have ih' := ih (i + 1) r (by omega) (by omega)
    have t : rd ps (i : Int) ≤ toI l ps i ∧ toI l ps i ≤ (l.length : Int) := by
      unfold toI
      by_cases c : i + 1 < ps.length
      · rw [if_pos c]
        obtain ⟨_, k2, k3⟩ := hI (i + 1) c
        have := k3 (by omega)
        rw [show i + 1 - 1 = i by omega] at this
        omega
      · rw [if_neg c]; omega
    obtain ⟨t1, t2⟩ := t
    have red : ∀ k, dropperref03_ArePieces.l1 (k + 1) l ps i = 
        ((dropperref03_Some.f k (seg l (rd ps (i : Int)).toNat (toI l ps i).toNat)).bind fun t => if t = true then dropperref03_ArePieces.l1 k l ps ((i + 1 : Nat) : Int) else some (false, 0)) := by
      intro k
      rewrite [dropperref03_ArePieces.l1, if_pos q1, hw]
      by_cases c : i + 1 < ps.length
      · have c' : ((i + 1 : Nat) : Int) < (ps.length : Int) := by omega
        have e : toI l ps i = rd ps ((i + 1 : Nat) : Int) := by unfold toI; rw [if_pos c]
        rewrite [e] at t1 t2
        rewrite [if_pos c', if_pos q3, if_pos q2, if_pos i1, if_pos t1, if_pos t2, e]
        rfl
      · have c' : ¬ ((i + 1 : Nat) : Int) < (ps.length : Int) := by omega
        have e : toI l ps i = (l.length : Int) := by unfold toI; rw [if_neg c]
        rewrite [e] at t1 t2
        rewrite [if_neg c', if_pos q2, if_pos i1, if_pos t1, if_pos t2, e]
        rfl
    have c := some_ev (seg_ok h (rd ps (i : Int)).toNat (toI l ps i).toNat) (by have := seg_len l (rd ps (i : Int)).toNat (toI l ps i).toNat; omega)
    refine Ev.step red ?_
    refine Ev.bind c ?_
    by_cases f : Feas (seg l (rd ps (i : Int)).toNat (toI l ps i).toNat)
    · simp only [f, decide_true, if_true]
      exact ih' (hr.trans ⟨fun z => z.2, fun z => ⟨f, z⟩⟩)
    · simp only [f, decide_false, if_false, Bool.false_eq_true]
      have : r = false := by
        cases r with
        | false => rfl
        | true => exact absurd (hr.1 rfl).1 f
      rw [this]
      exact Ev.now _

open Classical in
theorem ref_are_loop0 {l : List S73} (h : Okl l) (hl : l.length ≤ 30) {ps : List Int} (hps : ps.length ≤ 50) (r : Bool) (hr : r = true ↔ P0 ps ∧ ∀ j, j < ps.length → PA l ps j) : ∀ (d i : Nat), ps.length - i = d → i ≤ ps.length → (∀ j, j < i → PI l ps j) →
    Ev (fun k => dropperref03_ArePieces.l0 k l ps i) (r, 0) := by
  intro d
  induction d with
  | zero =>
    intro i hd hi hp
    obtain rfl : i = ps.length := by omega
    rw [pa_iff] at hr
    have q1 : ¬ (ps.length : Int) < (ps.length : Int) := by omega
    by_cases c : P0 ps
    · obtain ⟨c1, c2⟩ := c
      have hpos : 0 < ps.length := List.length_pos_iff.2 c1
      have q2 : ¬ (ps.length : Int) = 0 := by omega
      have q3 : (0 : Int) < (ps.length : Int) := by omega
      have e := ref_are_loop1 h hl hps hp ps.length 0 r (by omega) (by omega) (by
        rw [hr]
        exact ⟨fun z j _ hj => z.2.2 j hj, fun z => ⟨⟨c1, c2⟩, hp, fun j hj => z j (Nat.zero_le j) hj⟩⟩)
      refine Ev.step (fun k => ?_) (Ev.step (g := fun k => dropperref03_ArePieces.j1 k l ps false) (fun k => ?_) e)
      · rw [dropperref03_ArePieces.l0, if_neg q1, if_neg q2, if_pos q3, c2]
        rfl
      · rw [dropperref03_ArePieces.j1]
        rfl
    · have e : r = false := by
        cases r with
        | false => rfl
        | true => exact absurd (hr.1 rfl).1 c
      rw [e]
      refine Ev.step (f := fun k => dropperref03_ArePieces.j1 k l ps true) (fun k => ?_) (ev_some _ fun k => by rw [dropperref03_ArePieces.j1, if_pos rfl])
      rw [dropperref03_ArePieces.l0, if_neg q1]
      by_cases z : ps = []
      · subst z; rfl
      · have hpos : 0 < ps.length := List.length_pos_iff.2 z
        rw [if_neg (by omega), if_pos (by omega)]
        have : rd ps 0 ≠ 0 := fun y => c ⟨z, y⟩
        rw [show (rd ps 0 != 0) = true by simpa using this]
  | succ d ih =>
    intro i hd hi hp
    have hlt : i < ps.length := by omega
    have hw : wrap64 ((i : Int) + 1) = ((i + 1 : Nat) : Int) := by rw [w64 (by omega) (by omega)]; rfl
    have q1 : (i : Int) < (ps.length : Int) := by omega
    have q2 : (0 : Int) ≤ (i : Int) := by omega
    have ih' := ih (i + 1) (by omega) (by omega)
    have no : ¬ PI l ps i → r = false := fun hn => by
      cases r with
      | false => rfl
      | true => exact absurd (((pa_iff l ps).1 (hr.1 rfl).2).1 i hlt) hn
    have go : PI l ps i → ∀ j, j < i + 1 → PI l ps j := fun g j hj => by
      by_cases e : j = i
      · subst e; exact g
      · exact hp j (by omega)
    by_cases c1 : rd ps (i : Int) < 0
    · rw [no (fun z => by have := z.1; omega)]
      exact ev_some _ fun k => by rw [dropperref03_ArePieces.l0, if_pos q1, if_pos q2, if_pos c1]
    by_cases c2 : rd ps (i : Int) ≥ (l.length : Int)
    · rw [no (fun z => by have := z.2.1; omega)]
      exact ev_some _ fun k => by rw [dropperref03_ArePieces.l0, if_pos q1, if_pos q2, if_neg c1, if_pos c2]
    by_cases c3 : 0 < i
    · have hw1 : wrap64 ((i : Int) - 1) = ((i - 1 : Nat) : Int) := by rw [w64 (by omega) (by omega)]; omega
      by_cases c4 : rd ps (i : Int) ≤ rd ps ((i - 1 : Nat) : Int)
      · rw [no (fun z => by have := z.2.2 c3; omega)]
        exact ev_some _ fun k => by rw [dropperref03_ArePieces.l0, if_pos q1, if_pos q2, if_neg c1, if_neg c2, if_pos (by omega), hw1, if_pos (by omega), if_pos (by omega), if_pos c4]
      · refine Ev.step (fun k => ?_) (ih' (go ⟨by omega, by omega, fun _ => by omega⟩))
        rw [dropperref03_ArePieces.l0, if_pos q1, if_pos q2, if_neg c1, if_neg c2, if_pos (by omega), hw1, if_pos (by omega), if_pos (by omega), if_neg c4, hw]
    · refine Ev.step (fun k => ?_) (ih' (go ⟨by omega, by omega, fun _ => by omega⟩))
      rw [dropperref03_ArePieces.l0, if_pos q1, if_pos q2, if_neg c1, if_neg c2, if_neg (by omega), hw]

/-- What ArePieces answers. -/
def ArePA (l : List S73) (ps : List Int) : Prop := P0 ps ∧ ∀ j, j < ps.length → PA l ps j

open Classical in
theorem arm_ArePieces_ev (l : List S73) (hl : l.length ≤ 4611686018427387904) {ps : List Int} (hps : ps.length ≤ 50) : Ev (fun k => arm_ArePieces.f k l ps) (if okV l = true then (decide (ArePA l ps), 0) else (false, 20)) := by
  have v1 := arm_valid_ev l hl
  cases hv : okV l with
  | false => rw [hv] at v1; exact Ev.bind v1 (Ev.now _)
  | true =>
    rw [hv] at v1
    obtain ⟨h, h1, h30⟩ := okV_okl hv
    refine Ev.bind v1 ?_
    simp only [if_true]
    have out : ¬ ArePA l ps → Ev (fun k => arm_ArePieces.j0 k l ps true) (decide (ArePA l ps), 0) := fun z => by
      rw [decide_eq_false z]
      exact ev_some _ fun k => by rw [arm_ArePieces.j0, if_pos rfl]
    by_cases c1 : ps = []
    · have := out (fun z => z.1.1 c1)
      refine Ev.congr (fun k => ?_) this
      rw [if_pos (by simp [c1])]
    · have hpos : 0 < ps.length := List.length_pos_iff.2 c1
      have q1 : ¬ (ps.length : Int) = 0 := by omega
      have q2 : (0 : Int) < (ps.length : Int) := by omega
      by_cases c2 : rd ps 0 = 0
      · have hx : wrap64 ((ps.length : Int) - 1) = ((ps.length - 1 : Nat) : Int) := by rw [w64 (by omega) (by omega)]; omega
        have q3 : (0 : Int) ≤ ((ps.length - 1 : Nat) : Int) := by omega
        have q4 : ((ps.length - 1 : Nat) : Int) < (ps.length : Int) := by omega
        by_cases c3 : rd ps ((ps.length - 1 : Nat) : Int) ≥ (l.length : Int)
        · have := out (fun z => by
            obtain ⟨_, g2, g3, _⟩ := z.2 (ps.length - 1) (by omega)
            omega)
          refine Ev.congr (fun k => ?_) this
          rw [if_neg q1, if_pos q2, if_pos c2, hx, if_pos q3, if_pos q4, decide_eq_true c3]
        · have e := arm_are_loop h h30 hps ps.length 0 (decide (ArePA l ps)) (by omega) (by omega) (by
            rw [decide_eq_true_iff]
            exact ⟨fun z j _ hj => z.2 j hj, fun z => ⟨⟨c1, c2⟩, fun j hj => z j (Nat.zero_le j) hj⟩⟩)
          refine Ev.congr (fun k => ?_) (Ev.step (g := fun k => arm_ArePieces.j0 k l ps false) (fun k => ?_) e)
          · rw [if_neg q1, if_pos q2, if_pos c2, hx, if_pos q3, if_pos q4, decide_eq_false c3]
          · rw [arm_ArePieces.j0]
            rfl
      · have := out (fun z => c2 z.1.2)
        refine Ev.congr (fun k => ?_) this
        rw [if_neg q1, if_pos q2, if_neg c2]

open Classical in
theorem ref_ArePieces_ev (l : List S73) (hl : l.length ≤ 4611686018427387904) {ps : List Int} (hps : ps.length ≤ 50) : Ev (fun k => dropperref03_ArePieces.f k l ps) (if okV l = true then (decide (ArePA l ps), 0) else (false, 20)) := by
  have v1 := ref_valid_ev l hl
  cases hv : okV l with
  | false => rw [hv] at v1; exact Ev.bind v1 (Ev.now _)
  | true =>
    rw [hv] at v1
    obtain ⟨h, h1, h30⟩ := okV_okl hv
    refine Ev.bind v1 ?_
    simp only [if_true]
    exact ref_are_loop0 h h30 hps _ (by rw [decide_eq_true_iff]; rfl) ps.length 0 (by omega) (by omega) (fun j hj => by omega)

open Classical in
theorem ArmPieces_pure (l : List S73) (ps : List Int) (hx : ∀ x ∈ l, (Lit.int .i64 x.f0).wf = true ∧ (Lit.int .i64 x.f1).wf = true ∧ (Lit.int .i64 x.f2).wf = true) (hy : ∀ x ∈ ps, (Lit.int .i64 x).wf = true) : ∃ k, dropperlaw03_ArmPieces.f k l ps = some true := by
  obtain ⟨K6, f1⟩ := first_ev
  by_cases c : (l.length : Int) > 40
  · refine ⟨K6 + 1, ?_⟩
    have := f1 K6 (Nat.le_refl _)
    dsimp only at this
    unfold dropperlaw03_ArmPieces.f dropperlaw03_Long.f
    rw [decide_eq_true c]
    simp only [Option.bind_some, if_true]
    rw [dropperlaw03_ArmPieces.j0]
    simp [this]
  by_cases c2 : (ps.length : Int) > 50
  · refine ⟨K6 + 1, ?_⟩
    have := f1 K6 (Nat.le_refl _)
    dsimp only at this
    unfold dropperlaw03_ArmPieces.f dropperlaw03_Long.f
    rw [decide_eq_false c, decide_eq_true c2]
    simp only [Option.bind_some, if_false, Bool.false_eq_true]
    rw [dropperlaw03_ArmPieces.j0]
    simp [this]
  have hl : l.length ≤ 4611686018427387904 := by omega
  have hps : ps.length ≤ 50 := by omega
  obtain ⟨K1, s1⟩ := arm_Pieces_ev l hl
  obtain ⟨K2, s2⟩ := ref_Pieces_ev l hl
  obtain ⟨K3, s3⟩ := arm_ArePieces_ev l hl hps
  obtain ⟨K4, s4⟩ := ref_ArePieces_ev l hl hps
  obtain ⟨K5, s5⟩ := same_ints_ev (if okV l = true then (gp l, (0 : Int)) else ([], 20)).1 (by
    split
    · have := gr_len l (l.length - 1) 1 [] 0
      unfold gp
      simp only [List.length_nil] at this
      dsimp only
      omega
    · simp)
  generalize hk : K1 + K2 + K3 + K4 + K5 + K6 = k
  have a1 := s1 k (by omega)
  have a2 := s2 k (by omega)
  have a3 := s3 k (by omega)
  have a4 := s4 k (by omega)
  have a5 := s5 k (by omega)
  have a6 := f1 k (by omega)
  dsimp only at a1 a2 a3 a4 a5 a6
  refine ⟨k + 1, ?_⟩
  unfold dropperlaw03_ArmPieces.f dropperlaw03_Long.f
  rw [decide_eq_false c, decide_eq_false c2]
  simp only [Option.bind_some, if_false, Bool.false_eq_true]
  rw [dropperlaw03_ArmPieces.j0]
  generalize (if okV l = true then (gp l, (0 : Int)) else ([], 20)) = x at *
  generalize (if okV l = true then (decide (ArePA l ps), (0 : Int)) else (false, 20)) = y at *
  simp [a1, a2, a3, a4, a5, a6]
end Go.Proofs.Ytiapmkndgalgnaa.G
