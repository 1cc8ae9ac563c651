/- How many states can go on for ever: both numberings count the same (IceSafe). Plain Lean. -/
import Derived.Test.YthbpibdfookbmaaPRef
import Derived.Test.YthbpibdfookbmaaGF4
namespace Go.Proofs.Ythbpibdfookbmaa.G
set_option linter.unusedVariables false
set_option linter.unusedSimpArgs false
open Go.RowKit Go.Proofs.YthbpibdfookbmaaW.PrintWords Go.Proofs.YthbpibdfookbmaaW.PrintLast
theorem cnt_remove {q : Nat → Bool} {j : Nat} (hq : q j = true) : ∀ {M : Nat}, j < M → cnt (fun i => q i && i != j) M + 1 = cnt q M
  | 0, h => by omega
  | M + 1, h => by
    unfold cnt
    by_cases e : j = M
    · subst e
      rw [hq]
      have : cnt (fun i => q i && i != j) j = cnt q j := cnt_congr (fun i hi => by
        have : i ≠ j := by omega
        simp [this])
      rw [this]
      simp
    · have ih := cnt_remove hq (M := M) (by omega)
      have : (q M && M != j) = q M := by
        have : M ≠ j := by omega
        simp [this]
      rw [this]
      omega
theorem cnt_inj {p : Nat → Bool} {σ : Nat → Nat} : ∀ {N : Nat} {q : Nat → Bool} {M : Nat}, (∀ i, i < N → p i = true → σ i < M ∧ q (σ i) = true) → (∀ i j, i < N → j < N → p i = true → p j = true → σ i = σ j → i = j) → cnt p N ≤ cnt q M
  | 0, q, M, _, _ => Nat.zero_le _
  | N + 1, q, M, h1, h2 => by
    rw [show cnt p (N + 1) = cnt p N + if p N = true then 1 else 0 from rfl]
    by_cases c : p N = true
    · rw [if_pos c]
      obtain ⟨a, b⟩ := h1 N (by omega) c
      rw [← cnt_remove b a]
      refine Nat.succ_le_succ (cnt_inj (fun i hi hp => ?_) (fun i j hi hj => h2 i j (by omega) (by omega)))
      obtain ⟨a2, b2⟩ := h1 i (by omega) hp
      refine ⟨a2, ?_⟩
      have : σ i ≠ σ N := fun e => by have := h2 i N (by omega) (by omega) hp c e; omega
      simp [b2, this]
    · rw [if_neg c]
      exact cnt_inj (fun i hi hp => h1 i (by omega) hp) (fun i j hi hj => h2 i j (by omega) (by omega))
/-- Both numberings count the same states. -/
theorem cnt_both {w : List Int} (hp : pos w) (P : List Int → Bool) : cnt (fun i => P (digL w (i : Int))) (prodI w).toNat = cnt (fun i => P (digB w (i : Int))) (prodI w).toNat := by
  refine Nat.le_antisymm ?_ ?_
  · refine cnt_inj (σ := fun i => (numB w (digL w (i : Int))).toNat) (fun i hi h => ?_) (fun i j hi hj _ _ e => ?_)
    · obtain ⟨e, o⟩ := dig_ok hp hi
      obtain ⟨h1, h2⟩ := numB_bd o
      refine ⟨by omega, ?_⟩
      rw [show (((numB w (digL w (i : Int))).toNat : Nat) : Int) = numB w (digL w (i : Int)) by omega, digB_num o]
      exact h
    · obtain ⟨e1, o1⟩ := dig_ok hp hi
      obtain ⟨e2, o2⟩ := dig_ok hp hj
      have b1 := numB_bd o1
      have b2 := numB_bd o2
      have e3 : numB w (digL w (i : Int)) = numB w (digL w (j : Int)) := by
        have e : (numB w (digL w (i : Int))).toNat = (numB w (digL w (j : Int))).toNat := e
        omega
      have e4 := congrArg (digB w) e3
      rw [digB_num o1, digB_num o2] at e4
      rw [e4] at e1
      omega
  · refine cnt_inj (σ := fun i => (numL w (digB w (i : Int))).toNat) (fun i hi h => ?_) (fun i j hi hj _ _ e => ?_)
    · obtain ⟨e, o⟩ := numB_dig hp (n := (i : Int)) (by omega) (by omega)
      obtain ⟨h1, h2⟩ := num_lt o
      refine ⟨h1, ?_⟩
      rw [h2, dig_num o]
      exact h
    · obtain ⟨e1, o1⟩ := numB_dig hp (n := (i : Int)) (by omega) (by omega)
      obtain ⟨e2, o2⟩ := numB_dig hp (n := (j : Int)) (by omega) (by omega)
      have b1 := numL_bd o1
      have b2 := numL_bd o2
      have e3 : numL w (digB w (i : Int)) = numL w (digB w (j : Int)) := by
        have e : (numL w (digB w (i : Int))).toNat = (numL w (digB w (j : Int))).toNat := e
        omega
      have e4 := congrArg (digL w) e3
      rw [dig_num o1, dig_num o2] at e4
      rw [e4] at e1
      omega
theorem safe_loop {w : List Int} (o : okW w) (k0 : Nat) : ∀ (d i : Nat), (prodI w).toNat - i = d → i ≤ (prodI w).toNat → Ev (fun k => ice_Safe.l0 k (cnt (fun j => K w k0 (digL w (j : Int))) i) (setL w k0) (setL w k0).length i) (((cnt (fun j => K w k0 (digL w (j : Int))) (prodI w).toNat : Nat) : Int), 0) := by
  obtain ⟨b1, b2⟩ := prodI_le o
  intro d
  induction d with
  | zero =>
    intro i hd hi
    obtain rfl : i = (prodI w).toNat := by omega
    refine ev_some _ fun k => ?_
    rw [ice_Safe.l0, if_neg (by rw [setL_len]; omega)]
  | succ d ih =>
    intro i hd hi
    have hc := cnt_le (fun j => K w k0 (digL w (j : Int))) i
    obtain ⟨e1, o1⟩ := dig_ok (okW_pos o) (i := i) (by omega)
    have e2 := setL_rd o1 k0
    rw [e1] at e2
    have e := ih (i + 1) (by omega) (by omega)
    rw [cnt] at e
    refine Ev.step (fun k => ?_) e
    rw [ice_Safe.l0, if_pos (by rw [setL_len]; omega), if_pos (by omega), if_pos (by rw [setL_len]; omega), e2]
    by_cases c : K w k0 (digL w (i : Int)) = true
    · rw [if_pos c, if_pos c, wsucc i (by omega), wsucc _ (by omega)]
    · rw [if_neg c, if_neg c, wsucc i (by omega)]
      rfl
theorem refsafe_loop {w : List Int} (o : okW w) (m : Nat) (hm : m ≤ inf w) : ∀ (d i : Nat), (prodI w).toNat - i = d → i ≤ (prodI w).toNat → Ev (fun k => dropperref08_Safe.l0 k w ((List.range (m + 1)).map (setB w)) (cnt (fun j => K w m (digB w (j : Int))) i) i) (((cnt (fun j => K w m (digB w (j : Int))) (prodI w).toNat : Nat) : Int), 0) := by
  obtain ⟨b1, b2⟩ := prodI_le o
  have hinf : inf w ≤ 32768 := by unfold inf; omega
  have hl : wrap64 ((((List.range (m + 1)).map (setB w)).length : Int) - 1) = (m : Int) := by
    rw [List.length_map, List.length_range, w64 (by omega) (by omega)]; omega
  intro d
  induction d with
  | zero =>
    intro i hd hi
    obtain rfl : i = (prodI w).toNat := by omega
    obtain ⟨K0, hK⟩ := count_ev o
    refine ⟨K0 + 1, fun n hn => ?_⟩
    obtain ⟨k, rfl⟩ : ∃ k, n = k + 1 := ⟨n - 1, by omega⟩
    show dropperref08_Safe.l0 (k + 1) w _ _ _ = _
    have hK2 : dropperref08_Count.f k w = some (prodI w) := hK k (by omega)
    rw [dropperref08_Safe.l0, hK2]
    simp only [Option.bind_some]
    rw [if_neg (by omega)]
  | succ d ih =>
    intro i hd hi
    have hc := cnt_le (fun j => K w m (digB w (j : Int))) i
    obtain ⟨e1, o1⟩ := numB_dig (okW_pos o) (n := (i : Int)) (by omega) (by omega)
    have e2 := setB_rd o1 m
    rw [e1] at e2
    have e := ih (i + 1) (by omega) (by omega)
    rw [cnt] at e
    refine Ev.step (fun k => ?_) (Ev.bind (f := fun k t105 => (if (i : Int) < t105 then (if K w m (digB w (i : Int)) = true then (dropperref08_Safe.l0 k w ((List.range (m + 1)).map (setB w)) ((cnt (fun j => K w m (digB w (j : Int))) i + 1 : Nat) : Int) ((i + 1 : Nat) : Int)) else (dropperref08_Safe.l0 k w ((List.range (m + 1)).map (setB w)) (cnt (fun j => K w m (digB w (j : Int))) i) ((i + 1 : Nat) : Int))) else some (((cnt (fun j => K w m (digB w (j : Int))) i : Nat) : Int), 0))) (count_ev o) ?_)
    · rw [dropperref08_Safe.l0, hl, if_pos (by omega), if_pos (by rw [List.length_map, List.length_range]; omega), if_pos (by omega), table_row (by omega), if_pos (by rw [setB_len]; omega), e2, wsucc i (by omega), wsucc _ (by omega)]
    · simp only [if_pos (show (i : Int) < prodI w by omega)]
      by_cases c : K w m (digB w (i : Int)) = true
      · rw [if_pos c] at e
        simp only [if_pos c]
        exact e
      · rw [if_neg c] at e
        simp only [if_neg c]
        exact e
open Classical in
theorem ice_Safe_ev (w : List Int) : Ev (fun k => ice_Safe.f k w) (if okW w then (((cntK w (inf w) : Nat) : Int), 0) else (0, 80)) := by
  refine Ev.bind (ice_Valid_ev w) ?_
  by_cases o : okW w
  · simp only [decide_eq_true o, if_true, if_pos o]
    refine Ev.bind (gameOf_ev o) (Ev.bind (ever_ev o) ?_)
    exact safe_loop o (inf w) (prodI w).toNat 0 (by omega) (by omega)
  · simp only [decide_eq_false o, Bool.false_eq_true, if_false, if_neg o]
    exact Ev.now _
open Classical in
theorem ref_Safe_ev (w : List Int) (hl : w.length ≤ 9223372036854775807) : Ev (fun k => dropperref08_Safe.f k w) (if okW w then (((cntK w (inf w) : Nat) : Int), 0) else (0, 80)) := by
  refine Ev.bind (ref_Valid_ev w hl) ?_
  by_cases o : okW w
  · simp only [decide_eq_true o, if_true, if_pos o]
    obtain ⟨m, h1, h2, e⟩ := table_ev o
    refine Ev.bind e ?_
    have e2 := refsafe_loop o m h2 (prodI w).toNat 0 (by omega) (by omega)
    have : cntK w (inf w) = cnt (fun j => K w m (digB w (j : Int))) (prodI w).toNat := by
      unfold cntK
      rw [cnt_both (okW_pos o)]
      refine cnt_congr fun i hi => ?_
      exact stable_eq h1 h2 (numB_dig (okW_pos o) (by omega) (by omega)).2
    rw [this]
    exact e2
  · simp only [decide_eq_false o, Bool.false_eq_true, if_false, if_neg o]
    exact Ev.now _
theorem IceSafe_pure (l0 : List Int) (hx : ∀ x ∈ l0, (Lit.int .i64 x).wf = true) (hl : l0.length ≤ 9223372036854775807) : ∃ k, dropperlaw08_IceSafe.f k l0 = some true := by
  apply Ev.rounds
  obtain ⟨b, e, hb⟩ := many0_ev l0 hl
  refine Ev.bind e ?_
  cases b with
  | true =>
    simp only [if_true]
    exact Ev.bind awake_ev (Ev.now _)
  | false =>
    simp only [Bool.false_eq_true, if_false]
    refine Ev.bind (ice_Safe_ev l0) (Ev.bind (ref_Safe_ev l0 hl) ?_)
    simp only [if_true]
    exact Ev.bind awake_ev (Ev.now _)
end Go.Proofs.Ythbpibdfookbmaa.G
