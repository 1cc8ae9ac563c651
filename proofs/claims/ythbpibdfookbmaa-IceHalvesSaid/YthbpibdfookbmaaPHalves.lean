/- The greatest halves, the rota of eight nights by them, wants that are eased: both programs tell the same (IceHalves). Plain Lean. -/
import Derived.Test.YthbpibdfookbmaaPBase
import Derived.Test.YthbpibdfookbmaaGF3
namespace Go.Proofs.Ythbpibdfookbmaa.G
set_option linter.unusedVariables false
set_option linter.unusedSimpArgs false
open Go.RowKit Go.Proofs.YthbpibdfookbmaaW.PrintWords Go.Proofs.YthbpibdfookbmaaW.PrintLast
/-- The greatest power of 2 that is at most a want. -/
def hv (n : Int) : Int := if 8 ≤ n then 8 else if 4 ≤ n then 4 else if 2 ≤ n then 2 else 1
theorem one8 {n : Int} (h : 1 ≤ n ∧ n ≤ 8) : n = 1 ∨ n = 2 ∨ n = 3 ∨ n = 4 ∨ n = 5 ∨ n = 6 ∨ n = 7 ∨ n = 8 := by omega
theorem half_ev {n : Int} (h : 1 ≤ n ∧ n ≤ 8) : Ev (fun k => ice_half.f k n) (hv n) := by
  rcases one8 h with rfl | rfl | rfl | rfl | rfl | rfl | rfl | rfl <;> exact Ev.of (fun k => ice_half.mono _ k) (k := 6) (by decide +kernel)
theorem take_map_succ (w : List Int) (f : Int → Int) (i : Nat) (h : i < w.length) : (w.take i).map f ++ [f (rd w (i : Int))] = (w.take (i + 1)).map f := by
  rw [List.take_succ_eq_append_getElem h, rd_get h, List.map_append]; rfl
theorem halves_loop {w : List Int} (h : okW w) : ∀ (d i : Nat), w.length - i = d → i ≤ w.length → Ev (fun k => ice_Halves.l0 k ((w.take i).map hv) w w.length i) (w.map hv, 0) := by
  have hlen := h.1.2
  intro d
  induction d with
  | zero =>
    intro i hd hi
    obtain rfl : i = w.length := by omega
    refine ev_some _ fun k => ?_
    rw [ice_Halves.l0, if_neg (by omega), List.take_length]
  | succ d ih =>
    intro i hd hi
    refine Ev.step (f := fun k => (ice_half.f k (rd w i)).bind fun t103 => (if ((w.take i).map hv).length < 17592186044416 then (ice_Halves.l0 k (((w.take i).map hv) ++ [t103]) w w.length (wrap64 ((i : Int) + 1))) else (none))) (fun k => ?_) (Ev.bind (half_ev (h.2 i (by omega))) ?_)
    · rw [ice_Halves.l0, if_pos (by omega), if_pos (by omega), if_pos (by omega)]
    · have e := ih (i + 1) (by omega) (by omega)
      rw [← take_map_succ w hv i (by omega)] at e
      refine Ev.congr (fun k => ?_) e
      rw [if_pos (by simp; omega), wsucc i (by omega)]
open Classical in
theorem ice_Halves_ev (w : List Int) : Ev (fun k => ice_Halves.f k w) (if okW w then (w.map hv, 0) else ([], 80)) := by
  refine Ev.bind (ice_Valid_ev w) ?_
  by_cases o : okW w
  · simp only [decide_eq_true o, if_true, if_pos o]
    have e := halves_loop o w.length 0 (by omega) (by omega)
    exact e
  · simp only [decide_eq_false o, Bool.false_eq_true, if_false, if_neg o]
    exact Ev.now _
theorem ref_half_step {w x : List Int} {i : Nat} (hi : i < w.length) {z : Int} (hz : 1 ≤ z ∧ z ≤ 8) (h2 : 2 * z ≤ rd w (i : Int)) {r : List Int × Int} (e : Ev (fun k => dropperref08_Halves.l1 k w x i (z * 2)) r) : Ev (fun k => dropperref08_Halves.l1 k w x i z) r := by
  refine Ev.step (fun k => ?_) e
  rw [dropperref08_Halves.l1, if_pos (by omega), if_pos (by omega), w64 (by omega) (by omega), if_pos h2, w64 (by omega) (by omega)]
theorem ref_half_end {w x : List Int} {i : Nat} (hi : i < w.length) {z : Int} (hz : 1 ≤ z ∧ z ≤ 8) (h2 : ¬ 2 * z ≤ rd w (i : Int)) (hx : x.length ≤ 5) (hw : w.length ≤ 5) {r : List Int × Int} (e : Ev (fun k => dropperref08_Halves.l0 k w (x ++ [z]) ((i + 1 : Nat) : Int)) r) : Ev (fun k => dropperref08_Halves.l1 k w x i z) r := by
  refine Ev.step (fun k => ?_) e
  rw [dropperref08_Halves.l1, if_pos (by omega), if_pos (by omega), w64 (by omega) (by omega), if_neg h2, if_pos (by omega), wsucc i (by omega)]
theorem ref_half_one {w x : List Int} {i : Nat} (hi : i < w.length) (h8 : 1 ≤ rd w (i : Int) ∧ rd w (i : Int) ≤ 8) (hx : x.length ≤ 5) (hw : w.length ≤ 5) {r : List Int × Int} (e : Ev (fun k => dropperref08_Halves.l0 k w (x ++ [hv (rd w (i : Int))]) ((i + 1 : Nat) : Int)) r) : Ev (fun k => dropperref08_Halves.l1 k w x i 1) r := by
  unfold hv at e
  by_cases c1 : 2 ≤ rd w (i : Int)
  · refine ref_half_step hi (by omega) (by omega) ?_
    by_cases c2 : 4 ≤ rd w (i : Int)
    · refine ref_half_step hi (by omega) (by omega) ?_
      by_cases c3 : 8 ≤ rd w (i : Int)
      · refine ref_half_step hi (by omega) (by omega) (ref_half_end hi (by omega) (by omega) hx hw ?_)
        rw [if_pos c3] at e
        exact e
      · refine ref_half_end hi (by omega) (by omega) hx hw ?_
        rw [if_neg c3, if_pos c2] at e
        exact e
    · refine ref_half_end hi (by omega) (by omega) hx hw ?_
      rw [if_neg (by omega), if_neg c2, if_pos c1] at e
      exact e
  · refine ref_half_end hi (by omega) (by omega) hx hw ?_
    rw [if_neg (by omega), if_neg (by omega), if_neg c1] at e
    exact e
theorem ref_halves_loop {w : List Int} (h : okW w) : ∀ (d i : Nat), w.length - i = d → i ≤ w.length → Ev (fun k => dropperref08_Halves.l0 k w ((w.take i).map hv) i) (w.map hv, 0) := by
  have hlen := h.1.2
  intro d
  induction d with
  | zero =>
    intro i hd hi
    obtain rfl : i = w.length := by omega
    refine ev_some _ fun k => ?_
    rw [dropperref08_Halves.l0, if_neg (by omega), List.take_length]
  | succ d ih =>
    intro i hd hi
    have e := ih (i + 1) (by omega) (by omega)
    rw [← take_map_succ w hv i (by omega)] at e
    refine Ev.step (fun k => ?_) (ref_half_one (by omega) (h.2 i (by omega)) (by simp; omega) hlen e)
    rw [dropperref08_Halves.l0, if_pos (by omega)]
open Classical in
theorem ref_Halves_ev (w : List Int) (hl : w.length ≤ 9223372036854775807) : Ev (fun k => dropperref08_Halves.f k w) (if okW w then (w.map hv, 0) else ([], 80)) := by
  refine Ev.bind (ref_Valid_ev w hl) ?_
  by_cases o : okW w
  · simp only [decide_eq_true o, if_true, if_pos o]
    exact ref_halves_loop o w.length 0 (by omega) (by omega)
  · simp only [decide_eq_false o, Bool.false_eq_true, if_false, if_neg o]
    exact Ev.now _
/-- The reference reads of the wants their number alone. -/
theorem ref_by_len {x x' : List Int} (e : x.length = x'.length) : ∀ k, (∀ a b c, dropperref08_ByHalves.l0 k x a b c = dropperref08_ByHalves.l0 k x' a b c) ∧ (∀ a b c d, dropperref08_ByHalves.l1 k x a b c d = dropperref08_ByHalves.l1 k x' a b c d) ∧ (∀ a b c d f, dropperref08_ByHalves.l2 k x a b c d f = dropperref08_ByHalves.l2 k x' a b c d f) ∧ (∀ a b c d f, dropperref08_ByHalves.l3 k x a b c d f = dropperref08_ByHalves.l3 k x' a b c d f) ∧ (∀ a b c d f, dropperref08_ByHalves.j3 k x a b c d f = dropperref08_ByHalves.j3 k x' a b c d f)
  | 0 => ⟨fun _ _ _ => rfl, fun _ _ _ _ => rfl, fun _ _ _ _ _ => rfl, fun _ _ _ _ _ => rfl, fun _ _ _ _ _ => rfl⟩
  | k + 1 => by
    obtain ⟨h0, h1, h2, h3, h4⟩ := ref_by_len e k
    refine ⟨?_, ?_, ?_, ?_, ?_⟩ <;> intros
    · rw [dropperref08_ByHalves.l0, dropperref08_ByHalves.l0, h1]
    · rw [dropperref08_ByHalves.l1, dropperref08_ByHalves.l1, h0, h1, h2, e]
    · rw [dropperref08_ByHalves.l2, dropperref08_ByHalves.l2, h2, h4]
    · rw [dropperref08_ByHalves.l3, dropperref08_ByHalves.l3, h1, h3]
    · rw [dropperref08_ByHalves.j3, dropperref08_ByHalves.j3, h3]
/-- All lists of so many powers of 2. -/
def allH : Nat → List (List Int)
  | 0 => [[]]
  | n + 1 => (allH n).flatMap fun l => [1 :: l, 2 :: l, 4 :: l, 8 :: l]
theorem hv_four {n : Int} : hv n = 1 ∨ hv n = 2 ∨ hv n = 4 ∨ hv n = 8 := by unfold hv; omega
theorem allH_mem : ∀ w : List Int, w.map hv ∈ allH w.length
  | [] => by simp [allH]
  | a :: w => by
    rw [List.length_cons, List.map_cons, allH, List.mem_flatMap]
    refine ⟨_, allH_mem w, ?_⟩
    rcases hv_four (n := a) with h | h | h | h <;> rw [h] <;> simp
/-- What both tell of powers of 2. -/
def iceBH (h : List Int) : Option (List Int × Int) := ice_ByHalves.l0 300 h (List.replicate 8 (-1)) 1
def refBH (h : List Int) : Option (List Int × Int) := dropperref08_ByHalves.l0 300 h h [-1, -1, -1, -1, -1, -1, -1, -1] 1
def sameBH (h : List Int) : Bool := match iceBH h, refBH h with
  | some a, some b => a.1 == b.1 && a.2 == b.2
  | _, _ => false
set_option maxRecDepth 100000 in
theorem same_BH1 : (allH 1).all sameBH = true := by decide +kernel
set_option maxRecDepth 100000 in
theorem same_BH2 : (allH 2).all sameBH = true := by decide +kernel
set_option maxRecDepth 100000 in
theorem same_BH3 : (allH 3).all sameBH = true := by decide +kernel
set_option maxRecDepth 100000 in
theorem same_BH4 : (allH 4).all sameBH = true := by decide +kernel
set_option maxRecDepth 100000 in
theorem same_BH5 : (allH 5).all sameBH = true := by decide +kernel
theorem same_BH {w : List Int} (h : okW w) : sameBH (w.map hv) = true := by
  have m := allH_mem w
  obtain ⟨⟨h1, h2⟩, _⟩ := h
  generalize w.map hv = l at m ⊢
  generalize w.length = n at m h1 h2
  match n, h1, h2, m with
  | 1, _, _, m => exact List.all_eq_true.1 same_BH1 l m
  | 2, _, _, m => exact List.all_eq_true.1 same_BH2 l m
  | 3, _, _, m => exact List.all_eq_true.1 same_BH3 l m
  | 4, _, _, m => exact List.all_eq_true.1 same_BH4 l m
  | 5, _, _, m => exact List.all_eq_true.1 same_BH5 l m
theorem byHalves_ev (w : List Int) (hl : w.length ≤ 9223372036854775807) : ∃ r : List Int × Int, Ev (fun k => ice_ByHalves.f k w) r ∧ Ev (fun k => dropperref08_ByHalves.f k w) r ∧ (okW w → iceBH (w.map hv) = some r) ∧ (¬ okW w → r = ([], 80)) := by
  classical
  by_cases o : okW w
  · have s := same_BH o
    unfold sameBH at s
    cases e1 : iceBH (w.map hv) with
    | none => rw [e1] at s; cases s
    | some a =>
      cases e2 : refBH (w.map hv) with
      | none => rw [e1, e2] at s; cases s
      | some b =>
        rw [e1, e2] at s
        simp only [Bool.and_eq_true, beq_iff_eq] at s
        obtain rfl : a = b := Prod.ext s.1 s.2
        refine ⟨a, ?_, ?_, fun _ => rfl, fun z => absurd o z⟩
        · have e := ice_Halves_ev w
          rw [if_pos o] at e
          refine Ev.bind e ?_
          simp only [if_true]
          refine Ev.congr (f := fun k => ice_ByHalves.l0 k (w.map hv) (List.replicate 8 (-1)) 1) (fun k => ?_) (Ev.of (fun k => (ice_ByHalves.mono_l k).1 _ _ _) e1)
          rfl
        · have e := ref_Halves_ev w hl
          rw [if_pos o] at e
          refine Ev.bind e ?_
          simp only [if_true]
          unfold refBH at e2
          rw [((ref_by_len (x := w.map hv) (x' := w) (by simp)) 300).1] at e2
          exact Ev.of (fun k => (dropperref08_ByHalves.mono_l k).1 _ _ _ _) e2
  · refine ⟨([], 80), ?_, ?_, fun z => absurd z o, fun _ => rfl⟩
    · have e := ice_Halves_ev w
      rw [if_neg o] at e
      refine Ev.bind e ?_
      exact Ev.now _
    · have e := ref_Halves_ev w hl
      rw [if_neg o] at e
      refine Ev.bind e ?_
      exact Ev.now _
open Classical in
/-- The wants with that of a section greater by 1. -/
noncomputable def easeR (w : List Int) (s : Int) : List Int × Int := if okW w then (if 0 ≤ s ∧ s ≤ w.length - 1 then (if rd w s = 8 then ([], 2) else (w.set s.toNat (rd w s + 1), 0)) else ([], 2)) else ([], 80)
theorem rd_bd {w : List Int} (o : okW w) {s : Int} (h : 0 ≤ s ∧ s < w.length) : 1 ≤ rd w s ∧ rd w s ≤ 8 := by
  have := o.2 s.toNat (by omega)
  rwa [show ((s.toNat : Nat) : Int) = s by omega] at this
theorem ice_Ease_ev (w : List Int) (s : Int) : Ev (fun k => ice_Ease.f k w s) (easeR w s) := by
  classical
  refine Ev.bind (ice_Valid_ev w) ?_
  unfold easeR
  by_cases o : okW w
  · have hlen := o.1
    simp only [decide_eq_true o, if_true, if_pos o]
    rw [within_some, w64 (by omega) (by omega)]
    simp only [Option.bind_some]
    by_cases c : 0 ≤ s ∧ s ≤ (w.length : Int) - 1
    · rw [if_pos c]
      simp only [decide_eq_true c, if_true]
      have hb := rd_bd o (s := s) (by omega)
      rw [if_pos c.1, if_pos (by omega)]
      by_cases c2 : rd w s = 8
      · rw [if_pos c2, if_pos c2]; exact Ev.now _
      · rw [if_neg c2, if_neg c2]
        unfold slices_Clone_int_int.f
        simp only [Option.bind_some, List.nil_append, List.length_nil]
        rw [if_pos (by omega)]
        simp only [Option.bind_some]
        rw [if_pos (by omega), w64 (by omega) (by omega)]
        exact Ev.now _
    · rw [if_neg c]
      simp only [decide_eq_false c, Bool.false_eq_true, if_false]
      exact Ev.now _
  · simp only [decide_eq_false o, Bool.false_eq_true, if_false, if_neg o]
    exact Ev.now _
theorem ref_Ease_ev (w : List Int) (hl : w.length ≤ 9223372036854775807) (s : Int) : Ev (fun k => dropperref08_Ease.f k w s) (easeR w s) := by
  classical
  refine Ev.bind (ref_Valid_ev w hl) ?_
  unfold easeR
  by_cases o : okW w
  · have hlen := o.1
    simp only [decide_eq_true o, if_true, if_pos o]
    rw [from_some, w64 (by omega) (by omega)]
    simp only [Option.bind_some]
    by_cases c : 0 ≤ s ∧ s ≤ (w.length : Int) - 1
    · rw [if_pos c]
      simp only [decide_eq_true c, if_true]
      have hb := rd_bd o (s := s) (by omega)
      rw [if_pos c.1, if_pos (by omega)]
      by_cases c2 : rd w s = 8
      · rw [if_pos c2, if_pos c2]; exact Ev.now _
      · rw [if_neg c2, if_neg c2]
        simp only [Option.bind_some, List.nil_append, List.length_nil]
        rw [if_pos (by omega), if_pos (by omega), w64 (by omega) (by omega)]
        exact Ev.now _
    · rw [if_neg c]
      simp only [decide_eq_false c, Bool.false_eq_true, if_false]
      exact Ev.now _
  · simp only [decide_eq_false o, Bool.false_eq_true, if_false, if_neg o]
    exact Ev.now _
theorem easeR_len (w : List Int) (hl : w.length ≤ 20) (s : Int) : (easeR w s).1.length ≤ 20 := by
  unfold easeR
  split
  · split
    · split
      · simp
      · simpa using hl
    · simp
  · simp
theorem IceHalves_pure (l0 : List Int) (a1 : Int) (hx : ∀ x ∈ l0, (Lit.int .i64 x).wf = true) (w1 : (Lit.int .i64 a1).wf = true) (hl : l0.length ≤ 9223372036854775807) : ∃ k, dropperlaw08_IceHalves.f k l0 a1 = some true := by
  apply Ev.rounds
  by_cases c : (l0.length : Int) > 20
  · refine Ev.congr (f := fun k => (dropperlaw08_Awake.f k).bind fun t101 => (some t101)) (fun k => ?_) (Ev.bind awake_ev (Ev.now _))
    unfold dropperlaw08_IceHalves.f
    rw [if_pos c]
  · obtain ⟨r, e1, e2, e3, e4⟩ := byHalves_ev l0 hl
    have hr : r.1.length ≤ 4611686018427387904 := by
      by_cases o : okW l0
      · have := e3 o
        have h8 : ∀ n, n ≤ 5 → 1 ≤ n → (allH n).all (fun h => match iceBH h with | some r => decide (r.1.length ≤ 8) | none => false) = true := by
          intro n h1 h2
          match n, h1, h2 with
          | 1, _, _ => decide +kernel
          | 2, _, _ => decide +kernel
          | 3, _, _ => decide +kernel
          | 4, _, _ => decide +kernel
          | 5, _, _ => decide +kernel
        have h9 := List.all_eq_true.1 (h8 l0.length o.1.2 o.1.1) _ (allH_mem l0)
        rw [this] at h9
        have := of_decide_eq_true h9
        omega
      · rw [e4 o]; simp
    refine Ev.congr (f := fun k => (ice_Halves.f k l0).bind fun bt102 => ((dropperref08_Halves.f k l0).bind fun bt106 => (if bt102.2 = bt106.2 then ((dropperlaw08_SameInts.f k bt102.1 bt106.1).bind fun t110 => (dropperlaw08_IceHalves.j0 k l0 a1 (!t110))) else (dropperlaw08_IceHalves.j0 k l0 a1 true)))) (fun k => ?_) ?_
    · unfold dropperlaw08_IceHalves.f
      rw [if_neg c]
    refine Ev.bind (ice_Halves_ev l0) (Ev.bind (ref_Halves_ev l0 hl) ?_)
    simp only [if_true]
    refine Ev.bind (same_ev _ (by split <;> simp; omega)) ?_
    refine Ev.step (f := fun k => (ice_ByHalves.f k l0).bind fun bt111 => ((dropperref08_ByHalves.f k l0).bind fun bt115 => ((ice_Ease.f k l0 a1).bind fun bt119 => ((dropperref08_Ease.f k l0 a1).bind fun bt123 => (if bt111.2 = bt115.2 then ((dropperlaw08_SameInts.f k bt111.1 bt115.1).bind fun t127 => (if t127 = true then (if bt119.2 = bt123.2 then ((dropperlaw08_SameInts.f k bt119.1 bt123.1).bind fun t128 => (if t128 = true then ((dropperlaw08_Awake.f k).bind fun t129 => (some t129)) else (some false))) else (some false)) else (some false))) else (some false)))))) (fun k => ?_) ?_
    · rw [dropperlaw08_IceHalves.j0, if_neg (by decide)]
    refine Ev.bind e1 (Ev.bind e2 (Ev.bind (ice_Ease_ev l0 a1) (Ev.bind (ref_Ease_ev l0 hl a1) ?_)))
    simp only [if_true]
    refine Ev.bind (same_ev _ hr) ?_
    simp only [if_true]
    refine Ev.bind (same_ev _ (by have := easeR_len l0 (by omega) a1; omega)) ?_
    simp only [if_true]
    exact Ev.bind awake_ev (Ev.now _)
end Go.Proofs.Ythbpibdfookbmaa.G
