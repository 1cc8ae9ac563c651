/- The state behind tonight, the choices, and for how many nights a state can go on: both programs tell the same (IceNights). Plain Lean. -/
import Derived.Test.YthbpibdfookbmaaPRef
import Derived.Test.YthbpibdfookbmaaGF7
namespace Go.Proofs.Ythbpibdfookbmaa.G
set_option linter.unusedVariables false
set_option linter.unusedSimpArgs false
open Go.RowKit Go.Proofs.YthbpibdfookbmaaW.PrintWords Go.Proofs.YthbpibdfookbmaaW.PrintLast
/-- What open tells. -/
def opn (w s : List Int) (o : Prop) [Decidable o] (h : Prop) [Decidable h] : List Int × List Int × Int × Int × Int := if o then (if h then (w, bys w, prodI w, numL w s, 0) else ([], [], 0, 0, 2)) else ([], [], 0, 0, 80)
theorem open_loop {w s : List Int} (o : okW w) (hs : s.length = w.length) : ∀ (d i : Nat), w.length - i = d → i ≤ w.length → (∀ j, j < i → 1 ≤ rd s (j : Int) ∧ rd s (j : Int) ≤ rd w (j : Int)) → ∃ r, Ev (fun k => ice_open.l0 k w s s s.length i) r ∧ (okSt w s → r = (w, bys w, prodI w, numL w s, 0)) ∧ (¬ okSt w s → r = ([], [], 0, 0, 2)) := by
  have hlen := o.1.2
  intro d
  induction d with
  | zero =>
    intro i hd hi h1
    have h : okSt w s := okSt_iff.2 ⟨hs, fun j hj => h1 j (by omega)⟩
    refine ⟨_, Ev.step (f := fun k => (ice_gameOf.f k w).bind fun bt105 => ((ice_game_number.f k bt105.1 bt105.2.1 bt105.2.2 s).bind fun bt109 => (some (bt105.1, bt105.2.1, bt109.2, bt109.1, 0)))) (fun k => ?_) (Ev.bind (gameOf_ev o) (Ev.bind (number_ev o h) (Ev.now _))), fun _ => rfl, fun z => absurd h z⟩
    rw [ice_open.l0, if_neg (by omega)]
  | succ d ih =>
    intro i hd hi h1
    by_cases c : 1 ≤ rd s (i : Int) ∧ rd s (i : Int) ≤ rd w (i : Int)
    · obtain ⟨r, e, h2⟩ := ih (i + 1) (by omega) (by omega) (fun j hj => if q : j = i then q ▸ c else h1 j (by omega))
      refine ⟨r, Ev.step (fun k => ?_) e, h2⟩
      rw [ice_open.l0, if_pos (by omega), if_pos (by omega), if_pos (by omega), if_pos (by omega), within_some, decide_eq_true c, wsucc i (by omega)]
      rfl
    · refine ⟨_, ev_some ([], [], 0, 0, 2) fun k => ?_, fun z => absurd ((okSt_iff.1 z).2 i (by omega)) c, fun _ => rfl⟩
      rw [ice_open.l0, if_pos (by omega), if_pos (by omega), if_pos (by omega), if_pos (by omega), within_some, decide_eq_false c]
      rfl
open Classical in
theorem open_ev (w s : List Int) : Ev (fun k => ice_open.f k w s) (opn w s (okW w) (okSt w s)) := by
  refine Ev.bind (ice_Valid_ev w) ?_
  unfold opn
  by_cases o : okW w
  · simp only [decide_eq_true o, if_true, if_pos o]
    by_cases c : (s.length : Int) = (w.length : Int)
    · simp only [if_pos c]
      obtain ⟨r, e, h1, h2⟩ := open_loop (s := s) o (by omega) w.length 0 (by omega) (by omega) (by omega)
      by_cases h : okSt w s
      · rw [if_pos h, ← h1 h]; exact e
      · rw [if_neg h, ← h2 h]; exact e
    · simp only [if_neg c]
      rw [if_neg (fun z => c (by have := okSt_len z; omega))]
      exact Ev.now _
  · simp only [decide_eq_false o, Bool.false_eq_true, if_false, if_neg o]
    exact Ev.now _
open Classical in
/-- What Tonight tells. -/
noncomputable def tonightR (w s : List Int) (c : Int) : List Int × Int := if okW w then (if okSt w s then (if -1 ≤ c ∧ c ≤ (w.length : Int) - 1 then (match nx w s c with | some t => (t, 0) | none => ([], 5)) else ([], 2)) else ([], 2)) else ([], 80)
theorem ice_Tonight_ev (w s : List Int) (c : Int) (hl : w.length ≤ 4611686018427387904) : Ev (fun k => ice_Tonight.f k w s c) (tonightR w s c) := by
  classical
  refine Ev.bind (open_ev w s) ?_
  unfold tonightR opn
  by_cases o : okW w
  · have hlen := o.1
    rw [if_pos o, if_pos o]
    by_cases h : okSt w s
    · rw [if_pos h, if_pos h]
      simp only [if_true]
      rw [within_some, w64 (by omega) (by omega)]
      simp only [Option.bind_some]
      by_cases q : -1 ≤ c ∧ c ≤ (w.length : Int) - 1
      · rw [if_pos q]
        simp only [decide_eq_true q, if_true]
        refine Ev.bind (tonight_ev o h _ c) ?_
        cases z : nx w s c with
        | none =>
          have : tn w s c = -1 := by unfold tn; rw [z]
          simp only [this, if_true]
          exact Ev.now _
        | some t =>
          obtain ⟨e1, ot, t1, t2⟩ := tn_bd h z
          simp only [e1, if_neg (show ¬ numL w t = -1 by omega)]
          exact Ev.bind (list_ev o ot) (Ev.now _)
      · rw [if_neg q]
        simp only [decide_eq_false q, Bool.false_eq_true, if_false]
        exact Ev.now _
    · rw [if_neg h, if_neg h]
      exact Ev.now _
  · rw [if_neg o, if_neg o]
    exact Ev.now _
theorem ref_Tonight_ev (w s : List Int) (c : Int) (hl : w.length ≤ 4611686018427387904) (hs : s.length ≤ 9223372036854775807) : Ev (fun k => dropperref08_Tonight.f k w s c) (tonightR w s c) := by
  classical
  refine Ev.bind (ref_Valid_ev w (by omega)) ?_
  unfold tonightR
  by_cases o : okW w
  · have hlen := o.1
    simp only [decide_eq_true o, if_true, if_pos o]
    refine Ev.bind (state_ev w s hs) ?_
    by_cases h : okSt w s
    · simp only [decide_eq_true h, if_true, if_pos h]
      rw [from_some, w64 (by omega) (by omega)]
      simp only [Option.bind_some]
      by_cases q : -1 ≤ c ∧ c ≤ (w.length : Int) - 1
      · rw [if_pos q]
        refine Ev.step (f := fun k => (dropperref08_tonight.f k w s c).bind fun bt104 => (if bt104.2 = true then (some (bt104.1, 0)) else (some (([] : List Int), 5)))) (fun k => ?_) (Ev.bind (reftonight_ev o h c) ?_)
        · rw [dropperref08_Tonight.j0, decide_eq_true q, if_neg (by decide)]
        · unfold rtn
          cases z : nx w s c with
          | none => exact Ev.now _
          | some t => exact Ev.now _
      · rw [if_neg q]
        refine ev_some _ fun k => ?_
        rw [dropperref08_Tonight.j0, decide_eq_false q, if_pos (by decide)]
    · simp only [decide_eq_false h, Bool.false_eq_true, if_false, if_neg h]
      refine ev_some _ fun k => ?_
      rw [dropperref08_Tonight.j0, if_pos rfl]
  · simp only [decide_eq_false o, Bool.false_eq_true, if_false, if_neg o]
    exact Ev.now _
open Classical in
noncomputable def choicesR (w s : List Int) : List Int × Int := if okW w then (if okSt w s then (chsOf w 0 s, 0) else ([], 2)) else ([], 80)
theorem ice_Choices_ev (w s : List Int) : Ev (fun k => ice_Choices.f k w s) (choicesR w s) := by
  classical
  refine Ev.bind (open_ev w s) ?_
  unfold choicesR opn
  by_cases o : okW w
  · rw [if_pos o, if_pos o]
    by_cases h : okSt w s
    · rw [if_pos h, if_pos h]
      simp only [if_true]
      rw [all_some o]
      simp only [Option.bind_some]
      exact Ev.bind (choices_ev o h 0) (Ev.now _)
    · rw [if_neg h, if_neg h]
      exact Ev.now _
  · rw [if_neg o, if_neg o]
    exact Ev.now _
theorem good0 (w s : List Int) (c : Int) : good w 0 s c = (rtn w s c).2 := by
  unfold good rtn
  cases nx w s c <;> rfl
theorem refchoices_loop {w s : List Int} (o : okW w) (h : okSt w s) : ∀ (m : Nat) (x : List Int), m ≤ w.length + 1 → x.length ≤ 6 - m →
    Ev (fun k => dropperref08_Choices.l0 k w s x ((w.length : Int) - m)) (x ++ chsFrom w 0 s m, 0) := by
  have hlen := o.1.2
  intro m
  induction m with
  | zero =>
    intro x _ _
    refine ev_some _ fun k => ?_
    rw [dropperref08_Choices.l0, if_neg (by omega)]
    simp [chsFrom]
  | succ m ih =>
    intro x hm hx
    have wz : wrap64 ((w.length : Int) - ((m + 1 : Nat) : Int) + 1) = (w.length : Int) - m := by rw [w64 (by omega) (by omega)]; omega
    refine Ev.step (f := fun k => (dropperref08_tonight.f k w s ((w.length : Int) - ((m + 1 : Nat) : Int))).bind fun bt103 => (if bt103.2 = true then (if x.length < 17592186044416 then (dropperref08_Choices.l0 k w s (x ++ [(w.length : Int) - ((m + 1 : Nat) : Int)]) (wrap64 ((w.length : Int) - ((m + 1 : Nat) : Int) + 1))) else (none)) else (dropperref08_Choices.l0 k w s x (wrap64 ((w.length : Int) - ((m + 1 : Nat) : Int) + 1))))) (fun k => ?_) (Ev.bind (reftonight_ev o h _) ?_)
    · rw [dropperref08_Choices.l0, if_pos (by omega)]
    · rw [chsFrom, good0, wz]
      cases q : (rtn w s ((w.length : Int) - ((m + 1 : Nat) : Int))).2 with
      | true =>
        rw [if_pos rfl, ← List.append_assoc]
        refine Ev.congr (fun k => ?_) (ih (x ++ [(w.length : Int) - ((m + 1 : Nat) : Int)]) (by omega) (by rw [List.length_append]; simp; omega))
        rw [if_pos rfl, if_pos (by omega)]
      | false =>
        rw [if_neg (by decide), List.nil_append]
        exact ih x (by omega) (by omega)
theorem ref_Choices_ev (w s : List Int) (hl : w.length ≤ 4611686018427387904) (hs : s.length ≤ 9223372036854775807) : Ev (fun k => dropperref08_Choices.f k w s) (choicesR w s) := by
  classical
  refine Ev.bind (ref_Valid_ev w (by omega)) ?_
  unfold choicesR
  by_cases o : okW w
  · simp only [decide_eq_true o, if_true, if_pos o]
    refine Ev.bind (state_ev w s hs) ?_
    by_cases h : okSt w s
    · simp only [decide_eq_true h, if_true, if_pos h]
      have e := refchoices_loop o h (w.length + 1) [] (Nat.le_refl _) (by simp)
      rw [show (w.length : Int) - ((w.length + 1 : Nat) : Int) = -1 by omega, List.nil_append, chsOf_from] at e
      exact e
    · simp only [decide_eq_false h, Bool.false_eq_true, if_false, if_neg h]
      exact Ev.now _
  · simp only [decide_eq_false o, Bool.false_eq_true, if_false, if_neg o]
    exact Ev.now _
open Classical in
noncomputable def forR (w s : List Int) (n : Int) : Bool × Int := if okW w then (if okSt w s then (if 0 ≤ n ∧ n ≤ 100000 then (K w n.toNat s, 0) else (false, 2)) else (false, 2)) else (false, 80)
theorem ice_For_ev (w s : List Int) (n : Int) : Ev (fun k => ice_For.f k w s n) (forR w s n) := by
  classical
  refine Ev.bind (open_ev w s) ?_
  unfold forR opn
  by_cases o : okW w
  · rw [if_pos o, if_pos o]
    by_cases h : okSt w s
    · have nb := numL_bd h
      rw [if_pos h, if_pos h]
      simp only [if_true]
      rw [within_some]
      simp only [Option.bind_some]
      by_cases q : 0 ≤ n ∧ n ≤ 100000
      · rw [if_pos q]
        simp only [decide_eq_true q, if_true]
        refine Ev.bind (going_ev o q.1 (by omega)) ?_
        rw [if_pos nb.1, if_pos (by rw [setL_len]; omega), setL_rd h]
        exact Ev.now _
      · rw [if_neg q]
        simp only [decide_eq_false q, Bool.false_eq_true, if_false]
        exact Ev.now _
    · rw [if_neg h, if_neg h]
      exact Ev.now _
  · rw [if_neg o, if_neg o]
    exact Ev.now _
/-- A row of the table, as the document asks for it. -/
theorem table_min {w : List Int} (o : okW w) {m : Nat} (st : stable w m) (hm : m ≤ inf w) {n : Int} (h0 : 0 ≤ n) (h1 : n ≤ 1000000) : ∃ i : Nat, mn n (wrap64 ((((List.range (m + 1)).map (setB w)).length : Int) - 1)) = (i : Int) ∧ i < m + 1 ∧ rd_L3 ((List.range (m + 1)).map (setB w)) (i : Int) = setB w i ∧ ∀ s, okSt w s → K w i s = K w n.toNat s := by
  have hinf : inf w ≤ 32768 := by have := prodI_le o; unfold inf; omega
  rw [List.length_map, List.length_range, w64 (by omega) (by omega), mn_eq]
  by_cases c : n ≤ m
  · exact ⟨n.toNat, by omega, by omega, table_row (by omega), fun s hs => rfl⟩
  · exact ⟨m, by omega, by omega, table_row (by omega), fun s hs => (stable_eq st (by omega) hs).symm⟩
theorem ref_For_ev (w s : List Int) (n : Int) (hl : w.length ≤ 4611686018427387904) (hs : s.length ≤ 9223372036854775807) : Ev (fun k => dropperref08_For.f k w s n) (forR w s n) := by
  classical
  refine Ev.bind (ref_Valid_ev w (by omega)) ?_
  unfold forR
  by_cases o : okW w
  · simp only [decide_eq_true o, if_true, if_pos o]
    refine Ev.bind (state_ev w s hs) ?_
    by_cases h : okSt w s
    · simp only [decide_eq_true h, if_true, if_pos h]
      rw [from_some]
      simp only [Option.bind_some]
      by_cases q : 0 ≤ n ∧ n ≤ 100000
      · rw [if_pos q]
        obtain ⟨m, h1, h2, e⟩ := table_ev o
        obtain ⟨i, i1, i2, i3, i4⟩ := table_min o h1 h2 (n := n) (by omega) (by omega)
        have nb := numB_bd h
        refine Ev.step (f := fun k => (dropperref08_Table.f k w).bind fun t104 => (if 0 ≤ (mn n (wrap64 ((t104.length : Int) - 1))) then (if (mn n (wrap64 ((t104.length : Int) - 1))) < (t104.length : Int) then ((dropperref08_number.f k w s).bind fun t108 => (if 0 ≤ t108 then (if t108 < ((rd_L3 t104 (mn n (wrap64 ((t104.length : Int) - 1)))).length : Int) then (some (rdOf false (rd_L3 t104 (mn n (wrap64 ((t104.length : Int) - 1)))) t108, (0 : Int))) else (none)) else (none))) else (none)) else (none))) (fun k => ?_) (Ev.bind e ?_)
        · rw [dropperref08_For.j0, decide_eq_true q, if_neg (by decide)]
        · rw [i1, i3]
          simp only [if_pos (show (0 : Int) ≤ (i : Int) by omega), if_pos (show (i : Int) < (((List.range (m + 1)).map (setB w)).length : Int) by rw [List.length_map, List.length_range]; omega)]
          refine Ev.bind (refnum_ev o h) ?_
          rw [if_pos nb.1, if_pos (by rw [setB_len]; omega), setB_rd h, i4 s h]
          exact Ev.now _
      · rw [if_neg q]
        refine ev_some _ fun k => ?_
        rw [dropperref08_For.j0, decide_eq_false q, if_pos (by decide)]
    · simp only [decide_eq_false h, Bool.false_eq_true, if_false, if_neg h]
      refine ev_some _ fun k => ?_
      rw [dropperref08_For.j0, if_pos rfl]
  · simp only [decide_eq_false o, Bool.false_eq_true, if_false, if_neg o]
    exact Ev.now _
theorem chsOf_len (w : List Int) (k : Nat) (s : List Int) : (chsOf w k s).length ≤ w.length + 1 := by
  rw [← chsOf_from]
  exact chsFrom_len w k s _
theorem tonightR_len (w s : List Int) (c : Int) : (tonightR w s c).1.length ≤ 5 := by
  unfold tonightR
  by_cases o : okW w
  · rw [if_pos o]
    by_cases h : okSt w s
    · rw [if_pos h]
      by_cases q : -1 ≤ c ∧ c ≤ (w.length : Int) - 1
      · rw [if_pos q]
        cases z : nx w s c with
        | none => simp
        | some t => have := okSt_len (nx_ok h z); have := o.1.2; simp only; omega
      · rw [if_neg q]; simp
    · rw [if_neg h]; simp
  · rw [if_neg o]; simp
theorem choicesR_len (w s : List Int) : (choicesR w s).1.length ≤ 6 := by
  unfold choicesR
  by_cases o : okW w
  · rw [if_pos o]
    by_cases h : okSt w s
    · rw [if_pos h]; have := chsOf_len w 0 s; have := o.1.2; simp only; omega
    · rw [if_neg h]; simp
  · rw [if_neg o]; simp
theorem IceNights_pure (l0 l1 : List Int) (v0 v1 : Int) (hx0 : ∀ x ∈ l0, (Lit.int .i64 x).wf = true) (hx1 : ∀ x ∈ l1, (Lit.int .i64 x).wf = true) (w0 : (Lit.int .i64 v0).wf = true) (w1 : (Lit.int .i64 v1).wf = true) (hl0 : l0.length ≤ 9223372036854775807) (hl1 : l1.length ≤ 9223372036854775807) : ∃ k, dropperlaw08_IceNights.f k l0 l1 v0 v1 = some true := by
  apply Ev.rounds
  obtain ⟨b, e, hb⟩ := many1_ev l0 hl0 l1
  refine Ev.bind e ?_
  cases b with
  | true =>
    simp only [if_true]
    exact Ev.bind awake_ev (Ev.now _)
  | false =>
    obtain ⟨h1, h2, _⟩ := hb rfl
    simp only [Bool.false_eq_true, if_false]
    refine Ev.bind (ice_Tonight_ev l0 l1 v0 (by omega)) (Ev.bind (ref_Tonight_ev l0 l1 v0 (by omega) hl1) ?_)
    simp only [if_true]
    refine Ev.bind (same_ev _ (by have := tonightR_len l0 l1 v0; omega)) ?_
    refine Ev.step (f := fun k => (ice_Choices.f k l0 l1).bind fun bt116 => ((dropperref08_Choices.f k l0 l1).bind fun bt120 => ((ice_For.f k l0 l1 v1).bind fun bt124 => ((dropperref08_For.f k l0 l1 v1).bind fun bt126 => (if bt116.2 = bt120.2 then ((dropperlaw08_SameInts.f k bt116.1 bt120.1).bind fun t128 => (if t128 = true then (if (bt124.1 == bt126.1) = true then (if bt124.2 = bt126.2 then ((dropperlaw08_Awake.f k).bind fun t129 => (some t129)) else (some false)) else (some false)) else (some false))) else (some false)))))) (fun k => ?_) ?_
    · rw [dropperlaw08_IceNights.j0, if_neg (by decide)]
    refine Ev.bind (ice_Choices_ev l0 l1) (Ev.bind (ref_Choices_ev l0 l1 (by omega) hl1) (Ev.bind (ice_For_ev l0 l1 v1) (Ev.bind (ref_For_ev l0 l1 v1 (by omega) hl1) ?_)))
    simp only [if_true]
    refine Ev.bind (same_ev _ (by have := choicesR_len l0 l1; omega)) ?_
    simp only [beq_self_eq_true, if_true]
    exact Ev.bind awake_ev (Ev.now _)
end Go.Proofs.Ythbpibdfookbmaa.G
