/- Windows that are mirrored, turned and widened. Plain Lean. -/
import Derived.Test.YtiapmkndgalgnaaPChanged
import Derived.Test.YtiapmkndgalgnaaPFirst
import Derived.Test.YtiapmkndgalgnaaGF39
import Derived.Test.YtiapmkndgalgnaaGF41
import Derived.Test.YtiapmkndgalgnaaGF43
namespace Go.Proofs.Ytiapmkndgalgnaa.G
set_option linter.unusedVariables false
open Go.RowKit Go.Proofs.YtiapmkndgalgnaaW.PrintWords Go.Proofs.YtiapmkndgalgnaaW.PrintLast
theorem okV_pos {l : List S73} (hv : okV l = true) : 0 < l.length ∧ l.length ≤ 30 := by
  simp only [okV, Bool.and_eq_true, decide_eq_true_eq] at hv
  omega
/-- A window from side to side. -/
def mirG (x : S73) : S73 := ⟨x.f0, wrap64 (-x.f2), wrap64 (-x.f1)⟩
/-- A window from the other end. -/
def turG (x : S73) : S73 := ⟨wrap64 (100000 - x.f0), x.f1, x.f2⟩
/-- A wider window. -/
def widG (b : Int) (x : S73) : S73 := ⟨x.f0, mx (wrap64 (x.f1 - b)) (-1000), mn (wrap64 (x.f2 + b)) 1000⟩
/-- Windows that are changed one by one, or the error. -/
def chR (g : List S73 → List S73) (l : List S73) : List S73 × Int := if okV l = true then (g l, 0) else ([], 20)
theorem arm_Mirror_ev (l : List S73) (hl : l.length ≤ 4611686018427387904) : Ev (fun k => arm_Mirror.f k l) (chR (fun l => l.map mirG) l) := by
  have e := changed_ev (fn := arm_Mirror_1.f) (g := mirG) hl (fun _ x _ => by unfold arm_Mirror_1.f; rfl)
  exact Ev.bind e (Ev.now _)
theorem rev_get (l : List S73) (i : Nat) (h : i < l.length) : rd_T73 l.reverse (i : Int) = rd_T73 l ((l.length - 1 - i : Nat) : Int) := by
  simp only [rd_T73, List.getD_eq_getElem?_getD, Int.toNat_natCast]
  rw [List.getElem?_reverse h]
theorem rdT_ext {x y : List S73} (hl : x.length = y.length) (h : ∀ i : Nat, i < x.length → rd_T73 x (i : Int) = rd_T73 y (i : Int)) : x = y := by
  refine List.ext_getElem hl fun i h1 h2 => ?_
  have := h i h1
  rwa [rd_nat x i h1, rd_nat y i h2] at this
theorem rdT_set (x : List S73) {i j : Nat} (v : S73) (hi : i < x.length) (hj : j < x.length) : rd_T73 (x.set i v) (j : Int) = if j = i then v else rd_T73 x (j : Int) := by
  simp only [rd_T73, List.getD_eq_getElem?_getD, Int.toNat_natCast, List.getElem?_set]
  by_cases e : i = j
  · subst e; simp [hi]
  · rw [if_neg e, if_neg (fun h => e h.symm)]
theorem reverse_loop {l : List S73} (hl : l.length ≤ 4611686018427387904) : ∀ (d : Nat) (x : List S73) (i : Nat), l.length - 2 * i ≤ d → 2 * i ≤ l.length + 1 → x.length = l.length → (∀ j : Nat, j < l.length → rd_T73 x (j : Int) = if j < i ∨ l.length - 1 - i < j then rd_T73 l.reverse (j : Int) else rd_T73 l (j : Int)) →
    Ev (fun k => api_Window_69.l0 k x (i : Int) ((l.length : Int) - 1 - i)) l.reverse := by
  intro d
  induction d with
  | zero =>
    intro x i hd hi hx h1
    refine ev_some _ fun k => ?_
    rw [api_Window_69.l0, if_neg (by omega)]
    congr 1
    refine rdT_ext (by simp [hx]) fun j hj => ?_
    rw [h1 j (by omega)]
    by_cases c : j < i ∨ l.length - 1 - i < j
    · rw [if_pos c]
    · rw [if_neg c, rev_get l j (by omega)]
      congr 1
      omega
  | succ d ih =>
    intro x i hd hi hx h1
    by_cases c : (i : Int) < (l.length : Int) - 1 - i
    · obtain ⟨m, hm⟩ : ∃ m : Nat, l.length - 1 - i = m := ⟨_, rfl⟩
      have em : (l.length : Int) - 1 - i = (m : Int) := by omega
      have him : i < m := by omega
      have hml : m < l.length := by omega
      have a1 := h1 i (by omega)
      have a2 := h1 m hml
      rw [if_neg (by omega)] at a1 a2
      have e := ih ((x.set i (rd_T73 l (m : Int))).set m (rd_T73 l (i : Int))) (i + 1) (by omega) (by omega) (by rw [List.length_set, List.length_set]; exact hx) (fun j hj => by
        rw [rdT_set _ _ (by rw [List.length_set]; omega) (by rw [List.length_set]; omega), rdT_set _ _ (by omega) (by omega), h1 j hj]
        by_cases q : j = m
        · rw [if_pos q, if_pos (by omega), q, rev_get l m hml]
          congr 1
          omega
        · rw [if_neg q]
          by_cases q2 : j = i
          · rw [if_pos q2, if_pos (by omega), q2, rev_get l i (by omega)]
            congr 1
            omega
          · rw [if_neg q2]
            by_cases q3 : j < i ∨ l.length - 1 - i < j
            · rw [if_pos q3, if_pos (by omega)]
            · rw [if_neg q3, if_neg (by omega)])
      refine Ev.step (fun k => ?_) e
      rw [em, api_Window_69.l0, if_pos (by omega), if_pos (by omega), if_pos (by omega), if_pos (by omega), if_pos (by omega), a1, a2, w64 (n := (i : Int) + 1) (by omega) (by omega), w64 (n := (m : Int) - 1) (by omega) (by omega)]
      congr 1
      omega
    · refine ev_some _ fun k => ?_
      rw [api_Window_69.l0, if_neg c]
      congr 1
      refine rdT_ext (by simp [hx]) fun j hj => ?_
      rw [h1 j (by omega)]
      by_cases c : j < i ∨ l.length - 1 - i < j
      · rw [if_pos c]
      · rw [if_neg c, rev_get l j (by omega)]
        congr 1
        omega
theorem reverse_ev (l : List S73) (hl : l.length ≤ 4611686018427387904) : Ev (fun k => api_Window_69.f k l) l.reverse := by
  refine Ev.congr (fun k => ?_) (reverse_loop hl l.length l 0 (by omega) (by omega) rfl (fun j hj => by rw [if_neg (by omega)]))
  unfold api_Window_69.f
  rw [w64 (n := (l.length : Int) - 1) (by omega) (by omega)]
  congr 1
  omega
theorem chR_len (g : List S73 → List S73) (l : List S73) (hg : (g l).length = l.length) : (chR g l).1.length ≤ 30 := by
  unfold chR
  by_cases c : okV l = true
  · rw [if_pos c]
    show (g l).length ≤ 30
    have := (okV_pos c).2
    omega
  · rw [if_neg c]; simp
theorem arm_Turned_ev (l : List S73) (hl : l.length ≤ 4611686018427387904) : Ev (fun k => arm_Turned.f k l) (chR (fun l => (l.map turG).reverse) l) := by
  have e := changed_ev (fn := arm_Turned_1.f) (g := turG) hl (fun _ x _ => by unfold arm_Turned_1.f; rfl)
  unfold chR
  by_cases c : okV l = true
  · rw [if_pos c] at e ⊢
    refine Ev.bind e (Ev.bind (reverse_ev (l.map turG) (by rw [List.length_map]; omega)) (Ev.now _))
  · rw [if_neg c] at e ⊢
    refine Ev.bind e (Ev.bind (reverse_ev [] (by simp)) (Ev.now _))
theorem arm_Widen_ev (l : List S73) (hl : l.length ≤ 4611686018427387904) (b : Int) : Ev (fun k => arm_Widen.f k l b) (if okV l = true then (if 0 ≤ b ∧ b ≤ 2000 then (l.map (widG b), 0) else ([], 2)) else ([], 20)) := by
  have v1 := arm_valid_ev l hl
  cases hv : okV l with
  | false =>
    rw [hv] at v1
    exact Ev.bind v1 (Ev.now _)
  | true =>
    rw [hv] at v1
    refine Ev.bind v1 ?_
    simp only [if_true, within_some, Option.bind_some]
    by_cases c : 0 ≤ b ∧ b ≤ 2000
    · rw [decide_eq_true c, if_pos (show 0 ≤ b ∧ b ≤ 2000 from c)]
      simp only [if_true]
      have e := changed_ev (fn := fun z0_ z1_ z2_ => arm_Widen_1.f z0_ z1_ z2_ b) (g := widG b) hl (fun _ x _ => by unfold arm_Widen_1.f; rfl)
      rw [if_pos hv] at e
      exact Ev.bind e (Ev.now _)
    · rw [decide_eq_false c, if_neg (show ¬ (0 ≤ b ∧ b ≤ 2000) from c)]
      exact Ev.now _
end Go.Proofs.Ytiapmkndgalgnaa.G
