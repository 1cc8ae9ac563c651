/- The law ArmTurns of the printed functions. Plain Lean. -/
import Derived.Test.YtiapmkndgalgnaaPChanged
import Derived.Test.YtiapmkndgalgnaaPFirst
import Derived.Test.YtiapmkndgalgnaaGF9
namespace Go.Proofs.Ytiapmkndgalgnaa.G
set_option linter.unusedVariables false
open Go.RowKit Go.Proofs.YtiapmkndgalgnaaW.PrintWords Go.Proofs.YtiapmkndgalgnaaW.PrintLast
theorem okV_pos {l : List S73} (hv : okV l = true) : 0 < l.length ∧ l.length ≤ 30 := by
  simp only [okV, Bool.and_eq_true, decide_eq_true_eq] at hv
  omega
/-- A window from side to side. -/
def mirG (x : S73) : S73 := ⟨x.f0, wrap64 (-x.f2), wrap64 (-x.f1)⟩
/-- A window from the other end. -/
def turG (x : S73) : S73 := ⟨wrap64 (100000 - x.f0), x.f1, x.f2⟩
/-- A wider window. -/
def widG (b : Int) (x : S73) : S73 := ⟨x.f0, mx (wrap64 (x.f1 - b)) (-1000), mn (wrap64 (x.f2 + b)) 1000⟩
/-- Windows that are changed one by one, or the error. -/
def chR (g : List S73 → List S73) (l : List S73) : List S73 × Int := if okV l = true then (g l, 0) else ([], 20)
theorem arm_Mirror_ev (l : List S73) (hl : l.length ≤ 4611686018427387904) : Ev (fun k => arm_Mirror.f k l) (chR (fun l => l.map mirG) l) := by
  have e := changed_ev (fn := arm_Mirror_1.f) (g := mirG) hl (fun _ x _ => by unfold arm_Mirror_1.f; rfl)
  exact Ev.bind e (Ev.now _)
theorem rev_get (l : List S73) (i : Nat) (h : i < l.length) : rd_T73 l.reverse (i : Int) = rd_T73 l ((l.length - 1 - i : Nat) : Int) := by
  simp only [rd_T73, List.getD_eq_getElem?_getD, Int.toNat_natCast]
  rw [List.getElem?_reverse h]
theorem rdT_ext {x y : List S73} (hl : x.length = y.length) (h : ∀ i : Nat, i < x.length → rd_T73 x (i : Int) = rd_T73 y (i : Int)) : x = y := by
  refine List.ext_getElem hl fun i h1 h2 => ?_
  have := h i h1
  rwa [rd_nat x i h1, rd_nat y i h2] at this
theorem rdT_set (x : List S73) {i j : Nat} (v : S73) (hi : i < x.length) (hj : j < x.length) : rd_T73 (x.set i v) (j : Int) = if j = i then v else rd_T73 x (j : Int) := by
  simp only [rd_T73, List.getD_eq_getElem?_getD, Int.toNat_natCast, List.getElem?_set]
  by_cases e : i = j
  · subst e; simp [hi]
  · rw [if_neg e, if_neg (fun h => e h.symm)]
theorem reverse_loop {l : List S73} (hl : l.length ≤ 4611686018427387904) : ∀ (d : Nat) (x : List S73) (i : Nat), l.length - 2 * i ≤ d → 2 * i ≤ l.length + 1 → x.length = l.length → (∀ j : Nat, j < l.length → rd_T73 x (j : Int) = if j < i ∨ l.length - 1 - i < j then rd_T73 l.reverse (j : Int) else rd_T73 l (j : Int)) →
    Ev (fun k => api_Window_69.l0 k x (i : Int) ((l.length : Int) - 1 - i)) l.reverse := by
  intro d
  induction d with
  | zero =>
    intro x i hd hi hx h1
    refine ev_some _ fun k => ?_
    rw [api_Window_69.l0, if_neg (by omega)]
    congr 1
    refine rdT_ext (by simp [hx]) fun j hj => ?_
    rw [h1 j (by omega)]
    by_cases c : j < i ∨ l.length - 1 - i < j
    · rw [if_pos c]
    · rw [if_neg c, rev_get l j (by omega)]
      congr 1
      omega
  | succ d ih =>
    intro x i hd hi hx h1
    by_cases c : (i : Int) < (l.length : Int) - 1 - i
    · obtain ⟨m, hm⟩ : ∃ m : Nat, l.length - 1 - i = m := ⟨_, rfl⟩
      have em : (l.length : Int) - 1 - i = (m : Int) := by omega
      have him : i < m := by omega
      have hml : m < l.length := by omega
      have a1 := h1 i (by omega)
      have a2 := h1 m hml
      rw [if_neg (by omega)] at a1 a2
      have e := ih ((x.set i (rd_T73 l (m : Int))).set m (rd_T73 l (i : Int))) (i + 1) (by omega) (by omega) (by rw [List.length_set, List.length_set]; exact hx) (fun j hj => by
        rw [rdT_set _ _ (by rw [List.length_set]; omega) (by rw [List.length_set]; omega), rdT_set _ _ (by omega) (by omega), h1 j hj]
        by_cases q : j = m
        · rw [if_pos q, if_pos (by omega), q, rev_get l m hml]
          congr 1
          omega
        · rw [if_neg q]
          by_cases q2 : j = i
          · rw [if_pos q2, if_pos (by omega), q2, rev_get l i (by omega)]
            congr 1
            omega
          · rw [if_neg q2]
            by_cases q3 : j < i ∨ l.length - 1 - i < j
            · rw [if_pos q3, if_pos (by omega)]
            · rw [if_neg q3, if_neg (by omega)])
      refine Ev.step (fun k => ?_) e
      rw [em, api_Window_69.l0, if_pos (by omega), if_pos (by omega), if_pos (by omega), if_pos (by omega), if_pos (by omega), a1, a2, w64 (n := (i : Int) + 1) (by omega) (by omega), w64 (n := (m : Int) - 1) (by omega) (by omega)]
      congr 1
      omega
    · refine ev_some _ fun k => ?_
      rw [api_Window_69.l0, if_neg c]
      congr 1
      refine rdT_ext (by simp [hx]) fun j hj => ?_
      rw [h1 j (by omega)]
      by_cases c : j < i ∨ l.length - 1 - i < j
      · rw [if_pos c]
      · rw [if_neg c, rev_get l j (by omega)]
        congr 1
        omega
theorem reverse_ev (l : List S73) (hl : l.length ≤ 4611686018427387904) : Ev (fun k => api_Window_69.f k l) l.reverse := by
  refine Ev.congr (fun k => ?_) (reverse_loop hl l.length l 0 (by omega) (by omega) rfl (fun j hj => by rw [if_neg (by omega)]))
  unfold api_Window_69.f
  rw [w64 (n := (l.length : Int) - 1) (by omega) (by omega)]
  congr 1
  omega
theorem chR_len (g : List S73 → List S73) (l : List S73) (hg : (g l).length = l.length) : (chR g l).1.length ≤ 30 := by
  unfold chR
  by_cases c : okV l = true
  · rw [if_pos c]
    show (g l).length ≤ 30
    have := (okV_pos c).2
    omega
  · rw [if_neg c]; simp
theorem arm_Turned_ev (l : List S73) (hl : l.length ≤ 4611686018427387904) : Ev (fun k => arm_Turned.f k l) (chR (fun l => (l.map turG).reverse) l) := by
  have e := changed_ev (fn := arm_Turned_1.f) (g := turG) hl (fun _ x _ => by unfold arm_Turned_1.f; rfl)
  unfold chR
  by_cases c : okV l = true
  · rw [if_pos c] at e ⊢
    refine Ev.bind e (Ev.bind (reverse_ev (l.map turG) (by rw [List.length_map]; omega)) (Ev.now _))
  · rw [if_neg c] at e ⊢
    refine Ev.bind e (Ev.bind (reverse_ev [] (by simp)) (Ev.now _))
theorem arm_Widen_ev (l : List S73) (hl : l.length ≤ 4611686018427387904) (b : Int) : Ev (fun k => arm_Widen.f k l b) (if okV l = true then (if 0 ≤ b ∧ b ≤ 2000 then (l.map (widG b), 0) else ([], 2)) else ([], 20)) := by
  have v1 := arm_valid_ev l hl
  cases hv : okV l with
  | false =>
    rw [hv] at v1
    exact Ev.bind v1 (Ev.now _)
  | true =>
    rw [hv] at v1
    refine Ev.bind v1 ?_
    simp only [if_true, within_some, Option.bind_some]
    by_cases c : 0 ≤ b ∧ b ≤ 2000
    · rw [decide_eq_true c, if_pos (show 0 ≤ b ∧ b ≤ 2000 from c)]
      simp only [if_true]
      have e := changed_ev (fn := fun z0_ z1_ z2_ => arm_Widen_1.f z0_ z1_ z2_ b) (g := widG b) hl (fun _ x _ => by unfold arm_Widen_1.f; rfl)
      rw [if_pos hv] at e
      exact Ev.bind e (Ev.now _)
    · rw [decide_eq_false c, if_neg (show ¬ (0 ≤ b ∧ b ≤ 2000) from c)]
      exact Ev.now _
theorem ref_mirror_loop {l : List S73} (hl : l.length ≤ 30) : ∀ (d i : Nat) (x : List S73), l.length - i = d → i ≤ l.length → x.length ≤ i → Ev (fun k => dropperref03_Mirror.l0 k l x i) (x ++ (l.drop i).map mirG, 0) := by
  intro d
  induction d with
  | zero =>
    intro i x hd hi hx
    obtain rfl : i = l.length := by omega
    refine ev_some _ fun k => ?_
    rw [dropperref03_Mirror.l0, if_neg (by omega), List.drop_length]
    simp
  | succ d ih =>
    intro i x hd hi hx
    have hw : wrap64 ((i : Int) + 1) = ((i + 1 : Nat) : Int) := by rw [w64 (by omega) (by omega)]; rfl
    have e := ih (i + 1) (x ++ [mirG (rd_T73 l (i : Int))]) (by omega) (by omega) (by rw [List.length_append]; simp; omega)
    rw [drop_rd l i (by omega), List.map_cons]
    rw [List.append_assoc] at e
    refine Ev.step (fun k => ?_) e
    rw [dropperref03_Mirror.l0, if_pos (by omega), if_pos (by omega), if_pos (by omega), hw]
    rfl
theorem ref_widen_loop {l : List S73} (hl : l.length ≤ 30) (b : Int) : ∀ (d i : Nat) (x : List S73), l.length - i = d → i ≤ l.length → x.length ≤ i → Ev (fun k => dropperref03_Widen.l0 k l b x i) (x ++ (l.drop i).map (widG b), 0) := by
  intro d
  induction d with
  | zero =>
    intro i x hd hi hx
    obtain rfl : i = l.length := by omega
    refine ev_some _ fun k => ?_
    rw [dropperref03_Widen.l0, if_neg (by omega), List.drop_length]
    simp
  | succ d ih =>
    intro i x hd hi hx
    have hw : wrap64 ((i : Int) + 1) = ((i + 1 : Nat) : Int) := by rw [w64 (by omega) (by omega)]; rfl
    have mxc : ∀ a c : Int, mx a c = mx c a := fun a c => by unfold mx; repeat' split <;> omega
    have e := ih (i + 1) (x ++ [widG b (rd_T73 l (i : Int))]) (by omega) (by omega) (by rw [List.length_append]; simp; omega)
    rw [drop_rd l i (by omega), List.map_cons]
    rw [List.append_assoc] at e
    refine Ev.step (fun k => ?_) e
    rw [dropperref03_Widen.l0, if_pos (by omega), if_pos (by omega), if_pos (by omega), hw, mxc (-1000), mn_comm 1000]
    rfl
theorem take_rev {l : List S73} {d : Nat} (hd : d < l.length) : ((l.take (d + 1)).map turG).reverse = turG (rd_T73 l (d : Int)) :: ((l.take d).map turG).reverse := by
  rw [rd_nat l d hd, List.take_succ_eq_append_getElem hd, List.map_append, List.reverse_append]
  rfl
theorem ref_turned_loop {l : List S73} (hl : l.length ≤ 30) : ∀ (d : Nat) (x : List S73), d ≤ l.length → x.length + d ≤ l.length → Ev (fun k => dropperref03_Turned.l0 k l x ((d : Int) - 1)) (x ++ ((l.take d).map turG).reverse, 0) := by
  intro d
  induction d with
  | zero =>
    intro x hd hx
    refine ev_some _ fun k => ?_
    rw [dropperref03_Turned.l0, if_neg (by omega)]
    simp
  | succ d ih =>
    intro x hd hx
    have e := ih (x ++ [turG (rd_T73 l (d : Int))]) (by omega) (by rw [List.length_append]; simp; omega)
    rw [take_rev (by omega)]
    rw [List.append_assoc] at e
    refine Ev.step (fun k => ?_) e
    rw [show ((d + 1 : Nat) : Int) - 1 = (d : Int) by omega, dropperref03_Turned.l0, if_pos (by omega), if_pos (by omega), if_pos (by omega), if_pos (by omega), w64 (n := (d : Int) - 1) (by omega) (by omega)]
    rfl
theorem ref_Mirror_ev (l : List S73) (hl : l.length ≤ 4611686018427387904) : Ev (fun k => dropperref03_Mirror.f k l) (chR (fun l => l.map mirG) l) := by
  have v1 := ref_valid_ev l hl
  unfold chR
  cases hv : okV l with
  | false => rw [hv] at v1; exact Ev.bind v1 (Ev.now _)
  | true =>
    rw [hv] at v1
    refine Ev.bind v1 ?_
    exact ref_mirror_loop (okV_pos hv).2 l.length 0 [] (by omega) (by omega) (by simp)
theorem ref_Turned_ev (l : List S73) (hl : l.length ≤ 4611686018427387904) : Ev (fun k => dropperref03_Turned.f k l) (chR (fun l => (l.map turG).reverse) l) := by
  have v1 := ref_valid_ev l hl
  unfold chR
  cases hv : okV l with
  | false => rw [hv] at v1; exact Ev.bind v1 (Ev.now _)
  | true =>
    rw [hv] at v1
    refine Ev.bind v1 ?_
    have e := ref_turned_loop (okV_pos hv).2 l.length [] (by omega) (by simp)
    rw [List.take_length] at e
    simp only [if_true]
    rw [w64 (n := (l.length : Int) - 1) (by omega) (by omega)]
    exact e
theorem ref_Widen_ev (l : List S73) (hl : l.length ≤ 4611686018427387904) (b : Int) : Ev (fun k => dropperref03_Widen.f k l b) (if okV l = true then (if 0 ≤ b ∧ b ≤ 2000 then (l.map (widG b), 0) else ([], 2)) else ([], 20)) := by
  have v1 := ref_valid_ev l hl
  cases hv : okV l with
  | false => rw [hv] at v1; exact Ev.bind v1 (Ev.now _)
  | true =>
    rw [hv] at v1
    refine Ev.bind v1 ?_
    simp only [if_true]
    by_cases c : 0 ≤ b ∧ b ≤ 2000
    · rw [if_pos (show 0 ≤ b ∧ b ≤ 2000 from c)]
      simp only [if_neg (show ¬ b < 0 by omega), if_neg (show ¬ b > 2000 by omega)]
      exact ref_widen_loop (okV_pos hv).2 b l.length 0 [] (by omega) (by omega) (by simp)
    · rw [if_neg (show ¬ (0 ≤ b ∧ b ≤ 2000) from c)]
      by_cases c1 : b < 0
      · simp only [if_pos c1]; exact Ev.now _
      · simp only [if_neg c1, if_pos (show b > 2000 by omega)]; exact Ev.now _
theorem ArmTurns_pure (l : List S73) (b : Int) (hx : ∀ x ∈ l, (Lit.int .i64 x.f0).wf = true ∧ (Lit.int .i64 x.f1).wf = true ∧ (Lit.int .i64 x.f2).wf = true) (wb : (Lit.int .i64 b).wf = true) : ∃ k, dropperlaw03_ArmTurns.f k l b = some true := by
  obtain ⟨K0, f0⟩ := first_ev
  by_cases c0 : (l.length : Int) > 40
  · refine ⟨K0, ?_⟩
    have := f0 K0 (Nat.le_refl _)
    dsimp only at this
    unfold dropperlaw03_ArmTurns.f dropperlaw03_Long.f
    rw [decide_eq_true c0]
    simp [this]
  have hl : l.length ≤ 4611686018427387904 := by omega
  obtain ⟨K1, s1⟩ := arm_Mirror_ev l hl
  obtain ⟨K2, s2⟩ := ref_Mirror_ev l hl
  obtain ⟨K3, s3⟩ := arm_Turned_ev l hl
  obtain ⟨K4, s4⟩ := ref_Turned_ev l hl
  obtain ⟨K5, s5⟩ := arm_Widen_ev l hl b
  obtain ⟨K6, s6⟩ := ref_Widen_ev l hl b
  generalize hz : (if okV l = true then (if 0 ≤ b ∧ b ≤ 2000 then (l.map (widG b), 0) else ([], 2)) else ([], 20) : List S73 × Int) = z at s5 s6
  obtain ⟨K7, s7⟩ := same_ev (chR (fun l => l.map mirG) l).1 (by have := chR_len (fun l => l.map mirG) l (by simp); omega)
  obtain ⟨K8, s8⟩ := same_ev (chR (fun l => (l.map turG).reverse) l).1 (by have := chR_len (fun l => (l.map turG).reverse) l (by simp); omega)
  obtain ⟨K9, s9⟩ := same_ev z.1 (by
    rw [← hz]
    split
    · split
      · simp; omega
      · simp
    · simp)
  generalize hk : K0 + K1 + K2 + K3 + K4 + K5 + K6 + K7 + K8 + K9 = k
  have a0 := f0 k (by omega)
  have a1 := s1 (k + 2) (by omega)
  have a2 := s2 (k + 2) (by omega)
  have a3 := s3 (k + 1) (by omega)
  have a4 := s4 (k + 1) (by omega)
  have a5 := s5 k (by omega)
  have a6 := s6 k (by omega)
  have a7 := s7 (k + 2) (by omega)
  have a8 := s8 (k + 1) (by omega)
  have a9 := s9 k (by omega)
  dsimp only at a0 a1 a2 a3 a4 a5 a6 a7 a8 a9
  refine ⟨k + 2, ?_⟩
  unfold dropperlaw03_ArmTurns.f dropperlaw03_Long.f
  rw [decide_eq_false c0]
  generalize chR (fun l => l.map mirG) l = x at *
  generalize chR (fun l => (l.map turG).reverse) l = y at *
  simp only [Option.bind_some, Bool.false_eq_true, if_false, a1, a2, a7, if_true, bne_self_eq_false]
  show dropperlaw03_ArmTurns.j0 (k + 1 + 1) l b false = some true
  rw [dropperlaw03_ArmTurns.j0]
  simp only [Option.bind_some, Bool.false_eq_true, if_false, a3, a4, a8, if_true, bne_self_eq_false]
  rw [dropperlaw03_ArmTurns.j1]
  simp [a0, a5, a6, a9]
end Go.Proofs.Ytiapmkndgalgnaa.G
