/- Three windows forbid a line: the printed functions of both programs tell the same, and search alike. Plain Lean. -/
import Derived.Test.YtiapmkndgalgnaaPGeo
import Derived.Test.YtiapmkndgalgnaaPVersines
import Derived.Test.YtiapmkndgalgnaaGF4
namespace Go.Proofs.Ytiapmkndgalgnaa.G
set_option linter.unusedVariables false
open Go.RowKit Go.Proofs.YtiapmkndgalgnaaW.PrintWords Go.Proofs.YtiapmkndgalgnaaW.PrintLast

theorem line_ab {x0 y0 z0 A B yl yh : Rat} (hxy : x0 < y0) (hyz : y0 < z0) (h1 : yl * (z0 - x0) ≤ A * (z0 - y0) + B * (y0 - x0)) (h2 : A * (z0 - y0) + B * (y0 - x0) ≤ yh * (z0 - x0)) :
    ∃ m c : Rat, m * x0 + c = A ∧ m * z0 + c = B ∧ yl ≤ m * y0 + c ∧ m * y0 + c ≤ yh := by
  have hW : 0 < z0 - x0 := by grind
  have hW' : z0 - x0 ≠ 0 := by grind
  have hc := Rat.div_mul_cancel (a := B - A) hW'
  generalize hm : (B - A) / (z0 - x0) = m at hc
  refine ⟨m, A - m * x0, by grind, by grind, ?_, ?_⟩
  · refine Rat.le_of_mul_le_mul_right ?_ hW
    have : (m * y0 + (A - m * x0)) * (z0 - x0) = A * (z0 - y0) + B * (y0 - x0) := by grind
    rw [this]; exact h1
  · refine Rat.le_of_mul_le_mul_right ?_ hW
    have : (m * y0 + (A - m * x0)) * (z0 - x0) = A * (z0 - y0) + B * (y0 - x0) := by grind
    rw [this]; exact h2

theorem three_iff {x0 y0 z0 xl xh yl yh zl zh : Rat} (hxy : x0 < y0) (hyz : y0 < z0) (hx : xl ≤ xh) (hy : yl ≤ yh) (hz : zl ≤ zh) :
    (∃ m c : Rat, (xl ≤ m * x0 + c ∧ m * x0 + c ≤ xh) ∧ (yl ≤ m * y0 + c ∧ m * y0 + c ≤ yh) ∧ (zl ≤ m * z0 + c ∧ m * z0 + c ≤ zh)) ↔
      (xl * (z0 - y0) + zl * (y0 - x0) ≤ yh * (z0 - x0) ∧ yl * (z0 - x0) ≤ xh * (z0 - y0) + zh * (y0 - x0)) := by
  have p1 : 0 ≤ z0 - y0 := by grind
  have p2 : 0 ≤ y0 - x0 := by grind
  have p3 : 0 ≤ z0 - x0 := by grind
  constructor
  · rintro ⟨m, c, ⟨a1, a2⟩, ⟨b1, b2⟩, ⟨c1, c2⟩⟩
    have e : (m * x0 + c) * (z0 - y0) + (m * z0 + c) * (y0 - x0) = (m * y0 + c) * (z0 - x0) := by grind
    have i1 := Rat.mul_le_mul_of_nonneg_right a1 p1
    have i2 := Rat.mul_le_mul_of_nonneg_right a2 p1
    have i3 := Rat.mul_le_mul_of_nonneg_right c1 p2
    have i4 := Rat.mul_le_mul_of_nonneg_right c2 p2
    have i5 := Rat.mul_le_mul_of_nonneg_right b1 p3
    have i6 := Rat.mul_le_mul_of_nonneg_right b2 p3
    generalize (m * x0 + c) * (z0 - y0) = X at *
    generalize (m * z0 + c) * (y0 - x0) = Z at *
    generalize (m * y0 + c) * (z0 - x0) = Y at *
    constructor <;> grind
  · rintro ⟨h1, h2⟩
    have j1 := Rat.mul_le_mul_of_nonneg_right hy p3
    by_cases t0 : yl * (z0 - x0) ≤ xl * (z0 - y0) + zl * (y0 - x0)
    · obtain ⟨m, c, e1, e2, e3, e4⟩ := line_ab hxy hyz t0 h1
      exact ⟨m, c, by grind, by grind, by grind⟩
    by_cases t1 : xh * (z0 - y0) + zh * (y0 - x0) ≤ yh * (z0 - x0)
    · obtain ⟨m, c, e1, e2, e3, e4⟩ := line_ab hxy hyz h2 t1
      exact ⟨m, c, by grind, by grind, by grind⟩
    · have hD : 0 < (xh * (z0 - y0) + zh * (y0 - x0)) - (xl * (z0 - y0) + zl * (y0 - x0)) := by grind
      have hc := Rat.div_mul_cancel (a := yl * (z0 - x0) - (xl * (z0 - y0) + zl * (y0 - x0))) (b := (xh * (z0 - y0) + zh * (y0 - x0)) - (xl * (z0 - y0) + zl * (y0 - x0))) (by grind)
      generalize ht : (yl * (z0 - x0) - (xl * (z0 - y0) + zl * (y0 - x0))) / ((xh * (z0 - y0) + zh * (y0 - x0)) - (xl * (z0 - y0) + zl * (y0 - x0))) = t at hc
      have ht0 : 0 ≤ t := by
        refine Rat.le_of_mul_le_mul_right ?_ hD
        rw [hc]; grind
      have ht1 : t ≤ 1 := by
        refine Rat.le_of_mul_le_mul_right ?_ hD
        rw [hc]; grind
      have k1 := Rat.mul_le_mul_of_nonneg_right ht0 (show 0 ≤ xh - xl by grind)
      have k2 := Rat.mul_le_mul_of_nonneg_right ht1 (show 0 ≤ xh - xl by grind)
      have k3 := Rat.mul_le_mul_of_nonneg_right ht0 (show 0 ≤ zh - zl by grind)
      have k4 := Rat.mul_le_mul_of_nonneg_right ht1 (show 0 ≤ zh - zl by grind)
      have e : (xl + t * (xh - xl)) * (z0 - y0) + (zl + t * (zh - zl)) * (y0 - x0) = yl * (z0 - x0) := by grind
      obtain ⟨m, c, e1, e2, e3, e4⟩ := line_ab (A := xl + t * (xh - xl)) (B := zl + t * (zh - zl)) (yl := yl) (yh := yh) hxy hyz (by grind) (by grind)
      exact ⟨m, c, by grind, by grind, by grind⟩

/-- Three windows, as the document's answer tells them: the middle one is missed by what the outer ones let reach it. -/
def forb (x y z : S73) : Prop := y.f2 * (z.f0 - x.f0) < x.f1 * (z.f0 - y.f0) + z.f1 * (y.f0 - x.f0) ∨ x.f2 * (z.f0 - y.f0) + z.f2 * (y.f0 - x.f0) < y.f1 * (z.f0 - x.f0)
theorem forb_iff {x y z : S73} (hx : inB x) (hy : inB y) (hz : inB z) (h1 : x.f0 < y.f0) (h2 : y.f0 < z.f0) : forb x y z ↔ ¬ Feas [x, y, z] := by
  have c : ∀ {a b : Int}, a ≤ b → (a : Rat) ≤ b := fun h => Rat.intCast_le_intCast.2 h
  have key := three_iff (x0 := x.f0) (y0 := y.f0) (z0 := z.f0) (Rat.intCast_lt_intCast.2 h1) (Rat.intCast_lt_intCast.2 h2) (c hx.2.2.2.1) (c hy.2.2.2.1) (c hz.2.2.2.1)
  have e : Feas [x, y, z] ↔ (∃ m c : Rat, ((x.f1 : Rat) ≤ m * x.f0 + c ∧ m * x.f0 + c ≤ x.f2) ∧ ((y.f1 : Rat) ≤ m * y.f0 + c ∧ m * y.f0 + c ≤ y.f2) ∧ ((z.f1 : Rat) ≤ m * z.f0 + c ∧ m * z.f0 + c ≤ z.f2)) := by
    unfold Feas thr
    simp
  rw [e, key]
  have e1 : ((x.f1 : Rat) * (z.f0 - y.f0) + z.f1 * (y.f0 - x.f0) ≤ y.f2 * (z.f0 - x.f0)) ↔ x.f1 * (z.f0 - y.f0) + z.f1 * (y.f0 - x.f0) ≤ y.f2 * (z.f0 - x.f0) := by
    rw [← Rat.intCast_le_intCast]; simp
  have e2 : ((y.f1 : Rat) * (z.f0 - x.f0) ≤ x.f2 * (z.f0 - y.f0) + z.f2 * (y.f0 - x.f0)) ↔ y.f1 * (z.f0 - x.f0) ≤ x.f2 * (z.f0 - y.f0) + z.f2 * (y.f0 - x.f0) := by
    rw [← Rat.intCast_le_intCast]; simp
  rw [e1, e2]
  unfold forb
  omega
instance (x y z : S73) : Decidable (forb x y z) := by unfold forb; infer_instance

theorem mul_bd {a b : Int} {A B : Nat} (ha : a.natAbs ≤ A) (hb : b.natAbs ≤ B) : (a * b).natAbs ≤ A * B := by
  rw [Int.natAbs_mul]; exact Nat.mul_le_mul ha hb

theorem ref_forbids_ev {l : List S73} (h : Okl l) {a b c : Nat} (hab : a < b) (hbc : b < c) (hc : c < l.length) :
    dropperref03_forbids.f l a b c = some (decide (forb (rd_T73 l (a : Int)) (rd_T73 l (b : Int)) (rd_T73 l (c : Int)))) := by
  have hx := h.bnd _ (rd_mem (show a < l.length by omega))
  have hy := h.bnd _ (rd_mem (show b < l.length by omega))
  have hz := h.bnd _ (rd_mem hc)
  unfold dropperref03_forbids.f
  rw [if_pos (by omega), if_pos (by omega), if_pos (by omega), if_pos (by omega), if_pos (by omega), if_pos (by omega)]
  generalize rd_T73 l (a : Int) = x at *
  generalize rd_T73 l (b : Int) = y at *
  generalize rd_T73 l (c : Int) = z at *
  obtain ⟨_, _, _, _, _⟩ := hx
  obtain ⟨_, _, _, _, _⟩ := hy
  obtain ⟨_, _, _, _, _⟩ := hz
  have m1 := mul_bd (a := y.f2) (b := z.f0 - x.f0) (A := 1000) (B := 100000) (by omega) (by omega)
  have m2 := mul_bd (a := x.f1) (b := z.f0 - y.f0) (A := 1000) (B := 100000) (by omega) (by omega)
  have m3 := mul_bd (a := z.f1) (b := y.f0 - x.f0) (A := 1000) (B := 100000) (by omega) (by omega)
  have m4 := mul_bd (a := y.f1) (b := z.f0 - x.f0) (A := 1000) (B := 100000) (by omega) (by omega)
  have m5 := mul_bd (a := x.f2) (b := z.f0 - y.f0) (A := 1000) (B := 100000) (by omega) (by omega)
  have m6 := mul_bd (a := z.f2) (b := y.f0 - x.f0) (A := 1000) (B := 100000) (by omega) (by omega)
  rw [w64 (n := z.f0 - x.f0) (by omega) (by omega), w64 (n := z.f0 - y.f0) (by omega) (by omega), w64 (n := y.f0 - x.f0) (by omega) (by omega)]
  rw [w64 (n := y.f2 * (z.f0 - x.f0)) (by omega) (by omega), w64 (n := x.f1 * (z.f0 - y.f0)) (by omega) (by omega), w64 (n := z.f1 * (y.f0 - x.f0)) (by omega) (by omega), w64 (n := y.f1 * (z.f0 - x.f0)) (by omega) (by omega), w64 (n := x.f2 * (z.f0 - y.f0)) (by omega) (by omega), w64 (n := z.f2 * (y.f0 - x.f0)) (by omega) (by omega)]
  rw [w64 (n := x.f1 * (z.f0 - y.f0) + z.f1 * (y.f0 - x.f0)) (by omega) (by omega), w64 (n := x.f2 * (z.f0 - y.f0) + z.f2 * (y.f0 - x.f0)) (by omega) (by omega)]
  by_cases c1 : y.f2 * (z.f0 - x.f0) < x.f1 * (z.f0 - y.f0) + z.f1 * (y.f0 - x.f0)
  · rw [if_pos c1, decide_eq_true (show forb x y z from .inl c1)]
  · rw [if_neg c1]
    by_cases c2 : x.f2 * (z.f0 - y.f0) + z.f2 * (y.f0 - x.f0) < y.f1 * (z.f0 - x.f0)
    · rw [decide_eq_true (show forb x y z from .inr c2), decide_eq_true (show y.f1 * (z.f0 - x.f0) > x.f2 * (z.f0 - y.f0) + z.f2 * (y.f0 - x.f0) from c2)]
    · rw [decide_eq_false (show ¬ forb x y z from fun h => h.elim c1 c2), decide_eq_false (show ¬ (y.f1 * (z.f0 - x.f0) > x.f2 * (z.f0 - y.f0) + z.f2 * (y.f0 - x.f0)) from c2)]

open Classical in
theorem arm_forbids_ev {l : List S73} (h : Okl l) {a b c : Nat} (hab : a < b) (hbc : b < c) (hc : c < l.length) :
    Ev (fun k => arm_forbids.f k l a b c) (decide (forb (rd_T73 l (a : Int)) (rd_T73 l (b : Int)) (rd_T73 l (c : Int)))) := by
  have hx := h.bnd _ (rd_mem (show a < l.length by omega))
  have hy := h.bnd _ (rd_mem (show b < l.length by omega))
  have hz := h.bnd _ (rd_mem hc)
  have h1 := h.lt hab (by omega)
  have h2 := h.lt hbc hc
  have ho : Okl [rd_T73 l (a : Int), rd_T73 l (b : Int), rd_T73 l (c : Int)] := by
    refine ⟨?_, ?_⟩
    · intro w hw
      simp only [List.mem_cons, List.not_mem_nil, or_false] at hw
      rcases hw with rfl | rfl | rfl <;> assumption
    · simp only [List.pairwise_cons, List.mem_cons, List.not_mem_nil, or_false]
      refine ⟨?_, ?_, by simp, List.Pairwise.nil⟩
      · rintro w (rfl | rfl)
        · exact h1
        · omega
      · rintro w rfl
        exact h2
  obtain ⟨K, hK⟩ := can_ev ho (by simp)
  refine ⟨K, fun k hk => ?_⟩
  have e := hK k hk
  dsimp only at e ⊢
  unfold arm_forbids.f
  rw [if_pos (by omega), if_pos (by omega), if_pos (by omega), if_pos (by omega), if_pos (by omega), if_pos (by omega)]
  show (arm_can.f k [rd_T73 l (a : Int), rd_T73 l (b : Int), rd_T73 l (c : Int)]).bind _ = _
  rw [e]
  simp only [Option.bind_some]
  congr 1
  have hf := forb_iff hx hy hz h1 h2
  by_cases c : Feas [rd_T73 l (a : Int), rd_T73 l (b : Int), rd_T73 l (c : Int)]
  · rw [decide_eq_true c, decide_eq_false (fun z => hf.1 z c)]; rfl
  · rw [decide_eq_false c, decide_eq_true (hf.2 c)]; rfl

/-- Do the windows with these indexes forbid? -/
def P3 (l : List S73) (a b c : Nat) : Prop := forb (rd_T73 l (a : Int)) (rd_T73 l (b : Int)) (rd_T73 l (c : Int))
instance (l : List S73) (a b c : Nat) : Decidable (P3 l a b c) := by unfold P3; infer_instance
/-- What a search for three windows has found. -/
def Found (l : List S73) (r : Int × Int × Int × Int) : Prop :=
  (∃ a b c : Nat, a < b ∧ b < c ∧ c < l.length ∧ P3 l a b c ∧ r = ((a : Int), (b : Int), (c : Int), 0)) ∨ (r = (0, 0, 0, 5) ∧ ∀ a b c : Nat, a < b → b < c → c < l.length → ¬ P3 l a b c)
theorem wn {i : Nat} (h : i ≤ 4611686018427387904) : wrap64 ((i : Int) + 1) = ((i + 1 : Nat) : Int) := by rw [w64 (by omega) (by omega)]; rfl

theorem search2 {l : List S73} (h : Okl l) (hl : l.length ≤ 4611686018427387904) {a b : Nat} (hab : a < b) (hb : b < l.length) : ∀ (d c : Nat), l.length - c = d → c ≤ l.length → b < c → (∀ c', b < c' → c' < c → ¬ P3 l a b c') →
    ((∀ c', b < c' → c' < l.length → ¬ P3 l a b c') → ∃ r, Ev (fun k => arm_Forbid.l1 k l a ((b + 1 : Nat) : Int) l.length a) r ∧ Ev (fun k => dropperref03_Forbid.l1 k l a ((b + 1 : Nat) : Int)) r ∧ Found l r) →
    ∃ r, Ev (fun k => arm_Forbid.l2 k l a b c l.length a) r ∧ Ev (fun k => dropperref03_Forbid.l2 k l a b c) r ∧ Found l r := by
  intro d
  induction d with
  | zero =>
    intro c hd hc hbc hn hk
    obtain ⟨r, h1, h2, h3⟩ := hk (fun c' h1 h2 => hn c' h1 (by omega))
    refine ⟨r, Ev.step (fun k => ?_) h1, Ev.step (fun k => ?_) h2, h3⟩
    · rw [arm_Forbid.l2, if_neg (by omega), wn (by omega)]
    · rw [dropperref03_Forbid.l2, if_neg (by omega), wn (by omega)]
  | succ d ih =>
    intro c hd hc hbc hn hk
    have hlt : c < l.length := by omega
    have e1 := arm_forbids_ev h hab hbc hlt
    have e2 := ref_forbids_ev h hab hbc hlt
    by_cases p : P3 l a b c
    · refine ⟨((a : Int), (b : Int), (c : Int), 0), ?_, ?_, .inl ⟨a, b, c, hab, hbc, hlt, p, rfl⟩⟩
      · have p' : decide (forb (rd_T73 l (a : Int)) (rd_T73 l (b : Int)) (rd_T73 l (c : Int))) = true := decide_eq_true p
        rw [p'] at e1
        refine Ev.step (fun k => ?_) (Ev.bind (f := fun k t => if t = true then some ((a : Int), (b : Int), (c : Int), (0 : Int)) else arm_Forbid.l2 k l a b (wrap64 ((c : Int) + 1)) l.length a) e1 (Ev.now _))
        rw [arm_Forbid.l2, if_pos (by omega)]
      · refine ev_some _ fun k => ?_
        rw [dropperref03_Forbid.l2, if_pos (by omega), e2, decide_eq_true (show forb _ _ _ from p)]
        rfl
    · obtain ⟨r, h1, h2, h3⟩ := ih (c + 1) (by omega) (by omega) (by omega) (fun c' q1 q2 => by
        by_cases e : c' = c
        · subst e; exact p
        · exact hn c' q1 (by omega)) hk
      refine ⟨r, ?_, ?_, h3⟩
      · have p' : decide (forb (rd_T73 l (a : Int)) (rd_T73 l (b : Int)) (rd_T73 l (c : Int))) = false := decide_eq_false p
        rw [p'] at e1
        refine Ev.step (fun k => ?_) (Ev.bind (f := fun k t => if t = true then some ((a : Int), (b : Int), (c : Int), (0 : Int)) else arm_Forbid.l2 k l a b (wrap64 ((c : Int) + 1)) l.length a) e1 (by
          simpa [wn (show c ≤ 4611686018427387904 by omega)] using h1))
        rw [arm_Forbid.l2, if_pos (by omega)]
      · refine Ev.step (fun k => ?_) h2
        rw [dropperref03_Forbid.l2, if_pos (by omega), e2, decide_eq_false (show ¬ forb _ _ _ from p), wn (by omega)]
        rfl

theorem search1 {l : List S73} (h : Okl l) (hl : l.length ≤ 4611686018427387904) {a : Nat} (ha : a < l.length) : ∀ (d b : Nat), l.length - b = d → b ≤ l.length → a < b → (∀ b' c', a < b' → b' < b → b' < c' → c' < l.length → ¬ P3 l a b' c') →
    ((∀ b' c', a < b' → b' < c' → c' < l.length → ¬ P3 l a b' c') → ∃ r, Ev (fun k => arm_Forbid.l0 k l l.length ((a + 1 : Nat) : Int)) r ∧ Ev (fun k => dropperref03_Forbid.l0 k l ((a + 1 : Nat) : Int)) r ∧ Found l r) →
    ∃ r, Ev (fun k => arm_Forbid.l1 k l a b l.length a) r ∧ Ev (fun k => dropperref03_Forbid.l1 k l a b) r ∧ Found l r := by
  intro d
  induction d with
  | zero =>
    intro b hd hb hab hn hk
    obtain ⟨r, h1, h2, h3⟩ := hk (fun b' c' h1 h2 h3 => hn b' c' h1 (by omega) h2 h3)
    refine ⟨r, Ev.step (fun k => ?_) h1, Ev.step (fun k => ?_) h2, h3⟩
    · rw [arm_Forbid.l1, if_neg (by omega), wn (by omega)]
    · rw [dropperref03_Forbid.l1, if_neg (by omega), wn (by omega)]
  | succ d ih =>
    intro b hd hb hab hn hk
    have hlt : b < l.length := by omega
    obtain ⟨r, h1, h2, h3⟩ := search2 h hl hab hlt (l.length - (b + 1)) (b + 1) rfl (by omega) (by omega) (fun c' q1 q2 => by omega) (fun hno => ih (b + 1) (by omega) (by omega) (by omega) (fun b' c' q1 q2 q3 q4 => by
      by_cases e : b' = b
      · subst e; exact hno c' q3 q4
      · exact hn b' c' q1 (by omega) q3 q4) hk)
    refine ⟨r, Ev.step (fun k => ?_) h1, Ev.step (fun k => ?_) h2, h3⟩
    · rw [arm_Forbid.l1, if_pos (by omega), wn (by omega)]
    · rw [dropperref03_Forbid.l1, if_pos (by omega), wn (by omega)]

theorem search0 {l : List S73} (h : Okl l) (hl : l.length ≤ 4611686018427387904) : ∀ (d a : Nat), l.length - a = d → a ≤ l.length → (∀ a' b' c', a' < a → a' < b' → b' < c' → c' < l.length → ¬ P3 l a' b' c') →
    ∃ r, Ev (fun k => arm_Forbid.l0 k l l.length a) r ∧ Ev (fun k => dropperref03_Forbid.l0 k l a) r ∧ Found l r := by
  intro d
  induction d with
  | zero =>
    intro a hd ha hn
    refine ⟨(0, 0, 0, 5), ev_some _ fun k => ?_, ev_some _ fun k => ?_, .inr ⟨rfl, fun a' b' c' q1 q2 q3 => hn a' b' c' (by omega) q1 q2 q3⟩⟩
    · rw [arm_Forbid.l0, if_neg (by omega)]
    · rw [dropperref03_Forbid.l0, if_neg (by omega)]
  | succ d ih =>
    intro a hd ha hn
    have hlt : a < l.length := by omega
    obtain ⟨r, h1, h2, h3⟩ := search1 h hl hlt (l.length - (a + 1)) (a + 1) rfl (by omega) (by omega) (fun b' c' q1 q2 => by omega) (fun hno => ih (a + 1) (by omega) (by omega) (fun a' b' c' q1 q2 q3 q4 => by
      by_cases e : a' = a
      · subst e; exact hno b' c' q2 q3 q4
      · exact hn a' b' c' (by omega) q2 q3 q4))
    refine ⟨r, Ev.step (fun k => ?_) h1, Ev.step (fun k => ?_) h2, h3⟩
    · rw [arm_Forbid.l0, if_pos (by omega), wn (by omega)]
    · rw [dropperref03_Forbid.l0, if_pos (by omega), wn (by omega)]

/-- Both programs' Forbid tell the same; of valid windows they have found what there is. -/
theorem forbid_ev (l : List S73) (hl : l.length ≤ 4611686018427387904) : ∃ r, Ev (fun k => arm_Forbid.f k l) r ∧ Ev (fun k => dropperref03_Forbid.f k l) r ∧ (okV l = true → Found l r) ∧ (okV l = false → r = (0, 0, 0, 20)) := by
  have v1 := arm_valid_ev l hl
  have v2 := ref_valid_ev l hl
  cases hv : okV l with
  | false =>
    rw [hv] at v1 v2
    exact ⟨(0, 0, 0, 20), Ev.bind v1 (Ev.now _), Ev.bind v2 (Ev.now _), by simp, fun _ => rfl⟩
  | true =>
    rw [hv] at v1 v2
    obtain ⟨r, h1, h2, h3⟩ := search0 (okV_okl hv).1 hl l.length 0 (by omega) (by omega) (fun a' b' c' q1 => by omega)
    exact ⟨r, Ev.bind v1 h1, Ev.bind v2 h2, fun _ => h3, by simp⟩

/-- Both programs' Forbids tell the same. -/
theorem forbids_ev (l : List S73) (hl : l.length ≤ 4611686018427387904) (a b c : Int) : ∃ r, Ev (fun k => arm_Forbids.f k l a b c) r ∧ Ev (fun k => dropperref03_Forbids.f k l a b c) r := by
  have v1 := arm_valid_ev l hl
  have v2 := ref_valid_ev l hl
  cases hv : okV l with
  | false =>
    rw [hv] at v1 v2
    exact ⟨(false, 20), Ev.bind v1 (Ev.now _), Ev.bind v2 (Ev.now _)⟩
  | true =>
    rw [hv] at v1 v2
    have ho := (okV_okl hv).1
    by_cases hin : 0 ≤ a ∧ a < b ∧ b < c ∧ c < l.length
    · obtain ⟨q1, q2, q3, q4⟩ := hin
      obtain ⟨a, rfl⟩ := Int.eq_ofNat_of_zero_le q1
      obtain ⟨b, rfl⟩ := Int.eq_ofNat_of_zero_le (show 0 ≤ b by omega)
      obtain ⟨c, rfl⟩ := Int.eq_ofNat_of_zero_le (show 0 ≤ c by omega)
      have e1 := arm_forbids_ev ho (a := a) (b := b) (c := c) (by omega) (by omega) (by omega)
      have e2 := ref_forbids_ev ho (a := a) (b := b) (c := c) (by omega) (by omega) (by omega)
      refine ⟨(decide (forb (rd_T73 l (a : Int)) (rd_T73 l (b : Int)) (rd_T73 l (c : Int))), 0), Ev.bind v1 ?_, Ev.bind v2 ?_⟩
      · refine Ev.congr (fun k => ?_) (Ev.bind (f := fun _ t => some (t, (0 : Int))) e1 (Ev.now _))
        rw [if_pos rfl, if_neg (by omega), if_neg (by omega), if_neg (by omega), if_neg (by omega)]
      · refine Ev.congr (fun k => ?_) (Ev.now _)
        rw [if_pos rfl, if_neg (by omega), if_neg (by omega), if_neg (by omega), if_neg (by omega), e2]
        rfl
    · refine ⟨(false, 2), Ev.bind v1 ?_, Ev.bind v2 ?_⟩
      · refine Ev.congr (fun k => ?_) (Ev.now _)
        rw [if_pos rfl]
        repeat' split
        all_goals first | rfl | omega
      · refine Ev.congr (fun k => ?_) (Ev.now _)
        rw [if_pos rfl]
        repeat' split
        all_goals first | rfl | omega

theorem ArmForbids_pure (l : List S73) (a b c : Int) (hx : ∀ x ∈ l, (Lit.int .i64 x.f0).wf = true ∧ (Lit.int .i64 x.f1).wf = true ∧ (Lit.int .i64 x.f2).wf = true) (w0 : (Lit.int .i64 a).wf = true) (w1 : (Lit.int .i64 b).wf = true) (w2 : (Lit.int .i64 c).wf = true) :
    ∃ k, dropperlaw03_ArmForbids.f k l a b c = some true := by
  by_cases hlen : (l.length : Int) > 40
  · obtain ⟨K, hK⟩ := first_ev
    refine ⟨K, ?_⟩
    have := hK K (Nat.le_refl _)
    dsimp only at this
    unfold dropperlaw03_ArmForbids.f dropperlaw03_Long.f
    rw [decide_eq_true hlen]
    simp [this]
  · have hl : l.length ≤ 4611686018427387904 := by omega
    obtain ⟨r, ⟨K1, e1⟩, ⟨K2, e2⟩, _⟩ := forbid_ev l hl
    obtain ⟨q, ⟨K3, e3⟩, ⟨K4, e4⟩⟩ := forbids_ev l hl a b c
    obtain ⟨K5, e5⟩ := first_ev
    refine ⟨K1 + K2 + K3 + K4 + K5, ?_⟩
    generalize hk : K1 + K2 + K3 + K4 + K5 = k
    have e1 := e1 k (by omega)
    have e2 := e2 k (by omega)
    have e3 := e3 k (by omega)
    have e4 := e4 k (by omega)
    have e5 := e5 k (by omega)
    dsimp only at e1 e2 e3 e4 e5
    unfold dropperlaw03_ArmForbids.f dropperlaw03_Long.f
    rw [decide_eq_false hlen]
    simp [e1, e2, e3, e4, e5]
end Go.Proofs.Ytiapmkndgalgnaa.G
