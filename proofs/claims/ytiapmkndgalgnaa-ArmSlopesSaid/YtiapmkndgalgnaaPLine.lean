/- Slopes, a line, and whether there is one: both programs tell the same. Plain Lean. -/
import Derived.Test.YtiapmkndgalgnaaPRef
import Derived.Test.YtiapmkndgalgnaaPVersines
import Derived.Test.YtiapmkndgalgnaaGF5
namespace Go.Proofs.Ytiapmkndgalgnaa.G
set_option linter.unusedVariables false
open Go.RowKit Go.Proofs.YtiapmkndgalgnaaW.PrintWords Go.Proofs.YtiapmkndgalgnaaW.PrintLast
open Rat (divInt)

def encT : St → Int × Int × Int × Int × Int
  | none => (0, 0, 0, 0, 5)
  | some (p, q) => (p.num, p.den, q.num, q.den, 0)

theorem arm_Slopes_ev (l : List S73) (hl : l.length ≤ 4611686018427387904) : Ev (fun k => arm_Slopes.f k l) (if okV l = true then encT (finS l) else (0, 0, 0, 0, 20)) := by
  have v1 := arm_valid_ev l hl
  cases hv : okV l with
  | false => rw [hv] at v1; exact Ev.bind v1 (Ev.now _)
  | true =>
    rw [hv] at v1
    have h := (okV_okl hv).1
    refine Ev.bind v1 ?_
    have hs := allS_ok h l.length (Nat.le_refl _)
    have e := slopes_ev h hl
    simp only [if_true]
    unfold finS
    generalize allS l l.length = s at *
    refine Ev.bind e (Ev.congr (fun k => ?_) (Ev.now _))
    cases s with
    | none => simp only [encS, encT, Bool.false_eq_true, if_false]
    | some z =>
      obtain ⟨p, q⟩ := z
      simp only [encS, if_true]
      rw [small_less hs.2 hs.1]
      simp only [Option.bind_some]
      by_cases c : q < p
      · simp only [c, decide_true, if_true]; rfl
      · simp only [c, decide_false, if_false, Bool.false_eq_true]; rfl

theorem ref_Slopes_ev (l : List S73) (hl : l.length ≤ 4611686018427387904) : Ev (fun k => dropperref03_Slopes.f k l) (if okV l = true then encT (finS l) else (0, 0, 0, 0, 20)) := by
  have v1 := ref_valid_ev l hl
  cases hv : okV l with
  | false => rw [hv] at v1; exact Ev.bind v1 (Ev.now _)
  | true =>
    rw [hv] at v1
    have h := (okV_okl hv).1
    refine Ev.bind v1 ?_
    simp only [if_true]
    have e := ref_slopes_ev h hl
    generalize finS l = s at *
    refine Ev.bind e (Ev.congr (fun k => ?_) (Ev.now _))
    cases s with
    | none => simp only [encS, encT, Bool.false_eq_true, if_false]
    | some z =>
      obtain ⟨p, q⟩ := z
      simp only [encS, encT, if_true]

theorem feas_some {l : List S73} (h : Okl l) (h2 : 2 ≤ l.length) : Feas l ↔ (encS (finS l)).2.2.2.2 = true := by
  have hF := feas_iff h
  have hE := all_ext h
  unfold finS
  generalize allS l l.length = s at *
  cases s with
  | none =>
    refine absurd ⟨rd_mem (show 0 < l.length by omega), rd_mem (show 1 < l.length by omega), h.lt (show 0 < 1 by omega) (by omega)⟩ (hE _ _)
  | some z =>
    obtain ⟨p, q⟩ := z
    rw [hF]
    dsimp only
    by_cases c : q < p
    · simp [c, encS]
    · simp [c, encS]
theorem feas_one {l : List S73} (h : Okl l) (h2 : l.length < 2) : Feas l := by
  match l, h2 with
  | [], _ => exact ⟨0, 0, by simp⟩
  | [w], _ =>
    refine ⟨0, w.f1, ?_⟩
    intro x hx
    simp at hx
    subst hx
    have : (x.f1 : Rat) ≤ x.f2 := Rat.intCast_le_intCast.2 (h.bnd x (by simp)).2.2.2.1
    unfold thr
    grind

open Classical in
theorem some_ev {l : List S73} (h : Okl l) (hl : l.length ≤ 4611686018427387904) : Ev (fun k => dropperref03_Some.f k l) (decide (Feas l)) := by
  by_cases c : l.length < 2
  · rw [decide_eq_true (feas_one h c)]
    refine Ev.congr (fun k => ?_) (Ev.now _)
    unfold dropperref03_Some.f
    rw [if_pos (by omega)]
  · have e := ref_slopes_ev h hl
    have hf := feas_some h (by omega)
    have hd : decide (Feas l) = (encS (finS l)).2.2.2.2 := by
      by_cases z : Feas l
      · rw [decide_eq_true z, hf.1 z]
      · rw [decide_eq_false z]
        cases q : (encS (finS l)).2.2.2.2 with
        | false => rfl
        | true => exact absurd (hf.2 q) z
    rw [hd]
    refine Ev.congr (fun k => ?_) (Ev.bind (f := fun _ t => some t.2.2.2.2) e (Ev.now _))
    unfold dropperref03_Some.f
    rw [if_neg (by omega)]

/-- The line A x + B over D is within a window. -/
def onL (A B D : Int) (w : S73) : Prop := w.f1 * D ≤ A * w.f0 + B ∧ A * w.f0 + B ≤ w.f2 * D
theorem ref_through_loop {l : List S73} (h : Okl l) (hl : l.length ≤ 4611686018427387904) {A B D : Int} (hA : A.natAbs ≤ 1000000) (hB : B.natAbs ≤ 1000000000000) (hD : 1 ≤ D) (hD2 : D ≤ 1000000) : ∀ (d i : Nat) (r : Bool), l.length - i = d → i ≤ l.length → (r = true ↔ ∀ w ∈ l.drop i, onL A B D w) →
    Ev (fun k => dropperref03_Through.l0 k l i A B D) (r, 0) := by
  intro d
  induction d with
  | zero =>
    intro i r hd hi hr
    obtain rfl : i = l.length := by omega
    refine ev_some _ fun k => ?_
    rw [dropperref03_Through.l0, if_neg (by omega)]
    rw [hr.2 (by simp)]
  | succ d ih =>
    intro i r hd hi hr
    have hlt : i < l.length := by omega
    have hb := h.bnd _ (rd_mem hlt)
    rw [drop_rd l i hlt] at hr
    have p0 : (i : Int) < l.length := by omega
    have p1 : 0 ≤ (i : Int) := by omega
    have hw1 := w64 (n := (i : Int) + 1) (by omega) (by omega)
    have r1 : l.length - (i + 1) = d := by omega
    have r2 : i + 1 ≤ l.length := by omega
    generalize hw : rd_T73 l (i : Int) = w at *
    obtain ⟨b1, b2, b3, b4, b5⟩ := hb
    have m1 := mul_bd' (a := A) (b := w.f0) (A := 1000000) (B := 100000) (by omega) (by omega)
    have m2 := mul_bd' (a := w.f1) (b := D) (A := 1000) (B := 1000000) (by omega) (by omega)
    have m3 := mul_bd' (a := w.f2) (b := D) (A := 1000) (B := 1000000) (by omega) (by omega)
    have red : ∀ k, dropperref03_Through.l0 (k + 1) l i A B D = if A * w.f0 + B < w.f1 * D then some (false, 0) else if A * w.f0 + B > w.f2 * D then some (false, 0) else dropperref03_Through.l0 k l ((i + 1 : Nat) : Int) A B D := by
      intro k
      rewrite [dropperref03_Through.l0, if_pos p0, if_pos p1, hw, w64 (n := A * w.f0) (by omega) (by omega), w64 (n := A * w.f0 + B) (by omega) (by omega), w64 (n := w.f1 * D) (by omega) (by omega), w64 (n := w.f2 * D) (by omega) (by omega), hw1]
      rfl
    by_cases c : onL A B D w
    · refine Ev.step (fun k => ?_) (ih (i + 1) r r1 r2 (by rw [hr]; simp [c]))
      rw [red, if_neg (by have := c.1; omega), if_neg (by have := c.2; omega)]
    · have e : r = false := by
        cases r with
        | false => rfl
        | true => exact absurd (hr.1 rfl w List.mem_cons_self) c
      rw [e]
      refine ev_some _ fun k => ?_
      rw [red]
      by_cases c1 : A * w.f0 + B < w.f1 * D
      · rw [if_pos c1]
      · rw [if_neg c1, if_pos]
        by_cases c2 : A * w.f0 + B > w.f2 * D
        · exact c2
        · exact absurd ⟨by omega, by omega⟩ c

/-- The loop of Line: the highest of what the windows' lows ask. -/
theorem line_loop {l : List S73} (h : Okl l) (hl : l.length ≤ 4611686018427387904) {N D : Int} (hN : N.natAbs ≤ 100000) (hD : 1 ≤ D) (hD2 : D ≤ 100000) : ∀ (d i : Nat) (B : Int), l.length - i = d → i ≤ l.length → -1000000000000 ≤ B → B ≤ 100000000000 →
    ∃ B', Ev (fun k => arm_Line.l0 k l l.length i N D N B D) (N, B', D, 0) ∧ B ≤ B' ∧ B' ≤ 100000000000 ∧ (∀ w ∈ l.drop i, w.f1 * D - N * w.f0 ≤ B') ∧ (B' = B ∨ ∃ w ∈ l.drop i, B' = w.f1 * D - N * w.f0) := by
  intro d
  induction d with
  | zero =>
    intro i B hd hi hB hB2
    obtain rfl : i = l.length := by omega
    refine ⟨B, ev_some _ fun k => ?_, by omega, hB2, by simp, .inl rfl⟩
    rw [arm_Line.l0, if_neg (by omega)]
  | succ d ih =>
    intro i B hd hi hB hB2
    have hlt : i < l.length := by omega
    have hb := h.bnd _ (rd_mem hlt)
    rw [drop_rd l i hlt]
    have p0 : (i : Int) < l.length := by omega
    have p1 : 0 ≤ (i : Int) := by omega
    have hw1 := w64 (n := (i : Int) + 1) (by omega) (by omega)
    have r1 : l.length - (i + 1) = d := by omega
    have r2 : i + 1 ≤ l.length := by omega
    generalize hw : rd_T73 l (i : Int) = w at *
    obtain ⟨b1, b2, b3, b4, b5⟩ := hb
    have m1 := mul_bd' (a := w.f1) (b := D) (A := 1000) (B := 100000) (by omega) (by omega)
    have m2 := mul_bd' (a := N) (b := w.f0) (A := 100000) (B := 100000) (by omega) (by omega)
    have hmx : mx B (w.f1 * D - N * w.f0) = B ∧ w.f1 * D - N * w.f0 ≤ B ∨ mx B (w.f1 * D - N * w.f0) = w.f1 * D - N * w.f0 ∧ B ≤ w.f1 * D - N * w.f0 := by unfold mx; omega
    obtain ⟨B', e, g1, g2, g3, g4⟩ := ih (i + 1) (mx B (w.f1 * D - N * w.f0)) r1 r2 (by omega) (by omega)
    refine ⟨B', Ev.step (fun k => ?_) e, by omega, g2, ?_, ?_⟩
    · rewrite [arm_Line.l0, if_pos p0, if_pos p1, if_pos p0, hw, w64 (n := w.f1 * D) (by omega) (by omega), w64 (n := N * w.f0) (by omega) (by omega), w64 (n := w.f1 * D - N * w.f0) (by omega) (by omega), hw1]
      rfl
    · intro v hv
      rcases List.mem_cons.1 hv with rfl | hv
      · omega
      · exact g3 v hv
    · rcases g4 with g4 | ⟨v, hv, g4⟩
      · rcases hmx with z | z
        · exact .inl (by omega)
        · exact .inr ⟨w, List.mem_cons_self, by omega⟩
      · exact .inr ⟨v, List.mem_cons_of_mem _ hv, g4⟩

/-- Slopes that all pairs bear, as whole numbers: the line as low as it can be goes through. -/
theorem line_on {l : List S73} (h : Okl l) {m : Rat} (hm : ∀ a b, a ∈ l → b ∈ l → a.f0 < b.f0 → loS a b ≤ m ∧ m ≤ hiS a b) {u : S73} (hu : u ∈ l) {B : Int} (hB : B = u.f1 * (m.den : Int) - m.num * u.f0) (hmax : ∀ v ∈ l, v.f1 * (m.den : Int) - m.num * v.f0 ≤ B) :
    ∀ w ∈ l, onL m.num B m.den w := by
  have hd : (0 : Rat) < ((m.den : Int) : Rat) := by
    have : ((0 : Int) : Rat) < ((m.den : Int) : Rat) := Rat.intCast_lt_intCast.2 (by have := m.den_pos; omega)
    simpa using this
  have hmd : m * ((m.den : Int) : Rat) = (m.num : Rat) := by
    have e : m = divInt m.num m.den := (Rat.num_divInt_den m).symm
    have e2 : divInt m.num m.den * ((m.den : Int) : Rat) = (m.num : Rat) := by
      rw [Rat.divInt_eq_div]; exact Rat.div_mul_cancel (by grind)
    rw [← e] at e2
    exact e2
  have hx : ∀ v ∈ l, (v.f1 : Rat) - m * v.f0 ≤ (u.f1 : Rat) - m * u.f0 := by
    intro v hv
    have h1 := hmax v hv
    rw [hB] at h1
    have h2 : ((v.f1 * (m.den : Int) - m.num * v.f0 : Int) : Rat) ≤ ((u.f1 * (m.den : Int) - m.num * u.f0 : Int) : Rat) := Rat.intCast_le_intCast.2 h1
    simp only [Rat.intCast_sub, Rat.intCast_mul] at h2
    rw [← hmd] at h2
    refine Rat.le_of_mul_le_mul_right ?_ hd
    grind
  have hl := line_at h hm hu hx
  intro w hw
  obtain ⟨t1, t2⟩ := hl w hw
  have s1 := Rat.mul_le_mul_of_nonneg_right t1 (show (0 : Rat) ≤ ((m.den : Int) : Rat) by grind)
  have s2 := Rat.mul_le_mul_of_nonneg_right t2 (show (0 : Rat) ≤ ((m.den : Int) : Rat) by grind)
  have e : (m * w.f0 + ((u.f1 : Rat) - m * u.f0)) * ((m.den : Int) : Rat) = ((m.num * w.f0 + B : Int) : Rat) := by
    rw [hB]
    simp only [Rat.intCast_sub, Rat.intCast_mul, Rat.intCast_add]
    rw [← hmd]
    grind
  rw [e] at s1 s2
  constructor
  · rw [← Rat.intCast_le_intCast, Rat.intCast_mul]; exact s1
  · rw [← Rat.intCast_le_intCast, Rat.intCast_mul]; exact s2
end Go.Proofs.Ytiapmkndgalgnaa.G
