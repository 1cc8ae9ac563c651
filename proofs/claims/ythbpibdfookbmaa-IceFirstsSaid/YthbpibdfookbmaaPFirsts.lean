/- The first choices for so many nights: both programs tell the same (IceFirsts). Plain Lean. -/
import Derived.Test.YthbpibdfookbmaaPRef
import Derived.Test.YthbpibdfookbmaaGF5
namespace Go.Proofs.Ythbpibdfookbmaa.G
set_option linter.unusedVariables false
set_option linter.unusedSimpArgs false
open Go.RowKit Go.Proofs.YthbpibdfookbmaaW.PrintWords Go.Proofs.YthbpibdfookbmaaW.PrintLast
theorem good_congr {w s : List Int} (h : okSt w s) {i n : Nat} (e : ∀ t, okSt w t → K w i t = K w n t) (c : Int) : good w i s c = good w n s c := by
  unfold good
  cases z : nx w s c with
  | none => rfl
  | some t => exact e t (nx_ok h z)
theorem chsFrom_congr {w s : List Int} (h : okSt w s) {i n : Nat} (e : ∀ t, okSt w t → K w i t = K w n t) : ∀ m, chsFrom w i s m = chsFrom w n s m
  | 0 => rfl
  | m + 1 => by rw [chsFrom, chsFrom, chsFrom_congr h e m, good_congr h e]
/-- The first choices for so many nights. -/
def fst (w : List Int) : Nat → List Int → List Int
  | 0, _ => []
  | k + 1, s => match chsFrom w k s (w.length + 1) with
    | [] => []
    | c :: _ => match nx w s c with
      | none => []
      | some t => c :: fst w k t
theorem fst_step {w s : List Int} (h : okSt w s) {k : Nat} (hk : K w (k + 1) s = true) : ∃ c L t, chsFrom w k s (w.length + 1) = c :: L ∧ nx w s c = some t ∧ okSt w t ∧ K w k t = true ∧ fst w (k + 1) s = c :: fst w k t := by
  have g : ∃ c, c ∈ chsFrom w k s (w.length + 1) := by
    obtain ⟨c, t, h1, h2, h3, h4⟩ := K_succ.1 hk
    rw [chsOf_from]
    exact ⟨c, List.mem_filter.2 ⟨mem_chs.2 ⟨h1, h2⟩, good_iff.2 ⟨t, h3, h4⟩⟩⟩
  cases z : chsFrom w k s (w.length + 1) with
  | nil => rw [z] at g; obtain ⟨c, hc⟩ := g; cases hc
  | cons c L =>
    have hc : c ∈ chsOf w k s := by rw [← chsOf_from, z]; simp
    obtain ⟨t, h3, h4⟩ := good_iff.1 (List.mem_filter.1 hc).2
    refine ⟨c, L, t, rfl, h3, nx_ok h h3, h4, ?_⟩
    rw [fst, z]
    simp only [h3]
theorem fst_len (w : List Int) : ∀ k s, (fst w k s).length ≤ k
  | 0, s => Nat.le_refl _
  | k + 1, s => by
    rw [fst]
    split
    · simp
    · split
      · simp
      · have := fst_len w k (by assumption)
        simp only [List.length_cons]
        omega
/-- From m nights on nothing changes, or no more are asked for. -/
def enough (w : List Int) (n m : Nat) : Prop := m ≤ n ∧ (m = n ∨ stable w m)
theorem enough_eq {w : List Int} {n m : Nat} (h : enough w n m) {a : Nat} (ha : a ≤ n) {s : List Int} (hs : okSt w s) : K w (min a m) s = K w a s := by
  rcases h.2 with q | q
  · rw [show min a m = a by omega]
  · by_cases c : a ≤ m
    · rw [show min a m = a by omega]
    · rw [show min a m = m by omega]; exact (stable_eq q (by omega) hs).symm
theorem rowL {w : List Int} {m i : Nat} (h : i < m + 1) : rd_L3 ((List.range (m + 1)).map (setL w)) (i : Int) = setL w i := by
  unfold rd_L3
  rw [Int.toNat_natCast, List.getD_eq_getElem?_getD, List.getElem?_map, List.getElem?_range h]
  rfl
theorem min_idx {α : Type} {f : Nat → α} {n m : Nat} (hm : m ≤ n) (hn : n ≤ 1000000) {a : Nat} (ha : a ≤ n) : mn (a : Int) (wrap64 ((((List.range (m + 1)).map f).length : Int) - 1)) = ((min a m : Nat) : Int) := by
  rw [List.length_map, List.length_range, w64 (by omega) (by omega), mn_eq]
  omega
theorem first_l1 {w : List Int} (o : okW w) {n m : Nat} (hn : n ≤ 200) (em : enough w n m) : ∀ (r : Nat) (s x : List Int), r ≤ n → okSt w s → K w r s = true → x.length + r ≤ 200 →
    Ev (fun k => ice_First.l1 k ((List.range (m + 1)).map (setL w)) (numL w s) x ((r : Int) - 1) w (bys w) (prodI w)) (x ++ fst w r s, 0) := by
  obtain ⟨b1, b2⟩ := prodI_le o
  have hlen := o.1.2
  intro r
  induction r with
  | zero =>
    intro s x hr hs hk hx
    refine ev_some _ fun k => ?_
    rw [ice_First.l1, if_neg (by omega)]
    simp [fst]
  | succ r ih =>
    intro s x hr hs hk hx
    obtain ⟨c, L, t, h1, h2, h3, h4, h5⟩ := fst_step hs hk
    have hidx := min_idx (f := setL w) em.1 (by omega) (a := r) (by omega)
    have hch := choices_ev o hs (min r m)
    have ec : chsOf w (min r m) s = c :: L := by
      rw [← chsOf_from, chsFrom_congr hs (n := r) (fun t ht => enough_eq em (by omega) ht), h1]
    rw [ec] at hch
    obtain ⟨e1, ot, t1, t2⟩ := tn_bd hs h2
    have ht := tonight_ev o hs (prodI w) c
    rw [e1] at ht
    refine Ev.step (f := fun k => (ice_game_choices.f k w (bys w) (prodI w) (numL w s) (setL w (min r m))).bind fun bt128 => (if 0 < (bt128.1.length : Int) then (if x.length < 17592186044416 then ((ice_game_tonight.f k w (bys w) bt128.2 (numL w s) (rd bt128.1 0)).bind fun bt136 => (ice_First.l1 k ((List.range (m + 1)).map (setL w)) bt136.1 (x ++ [rd bt128.1 0]) (wrap64 ((r : Int) - 1)) w (bys w) bt136.2)) else (none)) else (none))) (fun k => ?_) (Ev.bind hch ?_)
    · rw [ice_First.l1, show ((r + 1 : Nat) : Int) - 1 = (r : Int) by omega, if_pos (by omega), hidx, if_pos (by omega), if_pos (by rw [List.length_map, List.length_range]; omega), rowL (by omega)]
    · simp only [if_pos (show (0 : Int) < ((c :: L).length : Int) by simp), if_pos (show x.length < 17592186044416 by omega)]
      have r0 : rd (c :: L) 0 = c := rfl
      rw [r0]
      refine Ev.bind ht ?_
      rw [h5, w64 (by omega) (by omega), show x ++ c :: fst w r t = (x ++ [c]) ++ fst w r t by simp]
      exact ih t (x ++ [c]) (by omega) h3 h4 (by simp; omega)
open Classical in
theorem first_j1 {w : List Int} (o : okW w) {n m : Nat} (hn : n ≤ 200) (em : enough w n m) : Ev (fun k => ice_First.j1 k n ((List.range (m + 1)).map (setL w)) w (bys w) (prodI w)) (if K w n w = true then (fst w n w, 0) else ([], 5)) := by
  obtain ⟨b1, b2⟩ := prodI_le o
  obtain ⟨ow, ew⟩ := num_first (okW_pos o)
  have hidx := min_idx (f := setL w) em.1 (by omega) (a := n) (by omega)
  have hf : ice_game_first.f w (bys w) (prodI w) = some (numL w w, prodI w) := by
    unfold ice_game_first.f
    rw [w64 (by omega) (by omega), ew]
  have hk := enough_eq em (a := n) (by omega) ow
  by_cases c : K w n w = true
  · rw [if_pos c]
    have e := first_l1 o hn em n w [] (by omega) ow c (by simp; omega)
    rw [List.nil_append] at e
    refine Ev.step (fun k => ?_) e
    rw [ice_First.j1, hf]
    simp only [Option.bind_some]
    rw [hidx, if_pos (by omega), if_pos (by rw [List.length_map, List.length_range]; omega), rowL (by omega), if_pos (by omega), if_pos (by rw [setL_len]; omega), setL_rd ow, hk, c, if_pos rfl, w64 (by omega) (by omega)]
  · rw [if_neg c]
    refine ev_some _ fun k => ?_
    rw [ice_First.j1, hf]
    simp only [Option.bind_some]
    rw [hidx, if_pos (by omega), if_pos (by rw [List.length_map, List.length_range]; omega), rowL (by omega), if_pos (by omega), if_pos (by rw [setL_len]; omega), setL_rd ow, hk, if_neg c]
theorem first_l0 {w : List Int} (o : okW w) {n : Nat} (hn : n ≤ 200) {r : List Int × Int} (fin : ∀ m, enough w n m → Ev (fun k => ice_First.j1 k n ((List.range (m + 1)).map (setL w)) w (bys w) (prodI w)) r) : ∀ (d i : Nat), n - i = d → i ≤ n →
    Ev (fun k => ice_First.l0 k n ((List.range (i + 1)).map (setL w)) w (bys w) (prodI w)) r := by
  intro d
  induction d with
  | zero =>
    intro i hd hi
    obtain rfl : i = n := by omega
    refine Ev.step (fun k => ?_) (fin i ⟨Nat.le_refl _, .inl rfl⟩)
    rw [ice_First.l0, if_neg (by rw [List.length_map, List.length_range]; omega)]
  | succ d ih =>
    intro i hd hi
    have hl : wrap64 ((((List.range (i + 1)).map (setL w)).length : Int) - 1) = (i : Int) := by
      rw [List.length_map, List.length_range, w64 (by omega) (by omega)]; omega
    refine Ev.step (f := fun k => (ice_game_before.f k w (bys w) (prodI w) (setL w i)).bind fun bt115 => ((slices_Equal_bool_bool.f k bt115.1 (setL w i)).bind fun t119 => (if t119 = true then (ice_First.j1 k n ((List.range (i + 1)).map (setL w)) w (bys w) bt115.2) else (if ((List.range (i + 1)).map (setL w)).length < 5864062014805 then (ice_First.l0 k n (((List.range (i + 1)).map (setL w)) ++ [bt115.1]) w (bys w) bt115.2) else (none))))) (fun k => ?_) (Ev.bind (before_ev o i) (Ev.bind (setEq_ev o (i + 1) i) ?_))
    · rw [ice_First.l0, if_pos (by rw [List.length_map, List.length_range]; omega), hl, if_pos (by omega), if_pos (by rw [List.length_map, List.length_range]; omega), rowL (by omega)]
    · by_cases c : setL w (i + 1) = setL w i
      · simp only [decide_eq_true c, if_true]
        exact fin i ⟨hi, .inr ((setL_stable (okW_pos o)).1 c)⟩
      · simp only [decide_eq_false c, Bool.false_eq_true, if_false]
        have e := ih (i + 1) (by omega) (by omega)
        rw [List.range_succ (n := i + 1), List.map_append] at e
        refine Ev.congr (fun k => ?_) e
        rw [if_pos (by rw [List.length_map, List.length_range]; omega)]
        rfl
open Classical in
/-- What First tells. -/
noncomputable def firstR (w : List Int) (n : Int) : List Int × Int := if okW w then (if 0 ≤ n ∧ n ≤ 200 then (if K w n.toNat w = true then (fst w n.toNat w, 0) else ([], 5)) else ([], 2)) else ([], 80)
theorem ice_First_ev (w : List Int) (n : Int) : Ev (fun k => ice_First.f k w n) (firstR w n) := by
  classical
  refine Ev.bind (ice_Valid_ev w) ?_
  unfold firstR
  by_cases o : okW w
  · simp only [decide_eq_true o, if_true, if_pos o]
    rw [within_some]
    simp only [Option.bind_some]
    by_cases q : 0 ≤ n ∧ n ≤ 200
    · rw [if_pos q]
      simp only [decide_eq_true q, if_true]
      refine Ev.bind (gameOf_ev o) ?_
      rw [all_some o]
      simp only [Option.bind_some]
      have e := first_l0 o (n := n.toNat) (by omega) (fun m em => first_j1 o (by omega) em) n.toNat 0 (by omega) (by omega)
      rw [show ((n.toNat : Nat) : Int) = n by omega] at e
      exact e
    · rw [if_neg q]
      simp only [decide_eq_false q, Bool.false_eq_true, if_false]
      exact Ev.now _
  · simp only [decide_eq_false o, Bool.false_eq_true, if_false, if_neg o]
    exact Ev.now _
theorem reffirst_in {w s : List Int} (o : okW w) (h : okSt w s) {M : Nat} (st : stable w M) (hM : M ≤ inf w) {r : Nat} (hr : r ≤ 200) {x : List Int} (hx : x.length ≤ 200) {R : List Int × Int} {c : Int} {L t : List Int} (ht : nx w s c = some t) (e : Ev (fun k => dropperref08_First.l0 k w ((List.range (M + 1)).map (setB w)) t (x ++ [c]) ((r : Int) - 1)) R) : ∀ m : Nat, m ≤ w.length + 1 → chsFrom w r s m = c :: L →
    Ev (fun k => dropperref08_First.l1 k w ((List.range (M + 1)).map (setB w)) s x r ((w.length : Int) - m)) R := by
  have hlen := o.1.2
  have hinf : inf w ≤ 32768 := by have := prodI_le o; unfold inf; omega
  intro m
  induction m with
  | zero => intro _ z; cases z
  | succ m ih =>
    intro hm z
    have wz : wrap64 ((w.length : Int) - ((m + 1 : Nat) : Int) + 1) = (w.length : Int) - m := by rw [w64 (by omega) (by omega)]; omega
    have hi : ∃ i : Nat, mn (r : Int) (wrap64 ((((List.range (M + 1)).map (setB w)).length : Int) - 1)) = (i : Int) ∧ i < M + 1 ∧ ∀ u, okSt w u → K w i u = K w r u := by
      rw [List.length_map, List.length_range, w64 (by omega) (by omega), mn_eq]
      by_cases q : r ≤ M
      · exact ⟨r, by omega, by omega, fun u hu => rfl⟩
      · exact ⟨M, by omega, by omega, fun u hu => (stable_eq st (by omega) hu).symm⟩
    obtain ⟨i, i1, i2, i3⟩ := hi
    rw [chsFrom] at z
    refine Ev.step (f := fun k => (dropperref08_tonight.f k w s ((w.length : Int) - ((m + 1 : Nat) : Int))).bind fun bt115 => (if bt115.2 = true then ((dropperref08_number.f k w bt115.1).bind fun t120 => (if 0 ≤ t120 then (if t120 < ((setB w i).length : Int) then (if rdOf false (setB w i) t120 = true then (if x.length < 17592186044416 then (dropperref08_First.l0 k w ((List.range (M + 1)).map (setB w)) bt115.1 (x ++ [(w.length : Int) - ((m + 1 : Nat) : Int)]) (wrap64 ((r : Int) - 1))) else (none)) else (dropperref08_First.l1 k w ((List.range (M + 1)).map (setB w)) s x r (wrap64 ((w.length : Int) - ((m + 1 : Nat) : Int) + 1)))) else (none)) else (none))) else (dropperref08_First.l1 k w ((List.range (M + 1)).map (setB w)) s x r (wrap64 ((w.length : Int) - ((m + 1 : Nat) : Int) + 1))))) (fun k => ?_) (Ev.bind (reftonight_ev o h _) ?_)
    · rw [dropperref08_First.l1, if_pos (by omega), i1]
      congr 1
      funext bt115
      rw [if_pos (show (0 : Int) ≤ (i : Int) by omega), if_pos (show (i : Int) < _ by rw [List.length_map, List.length_range]; omega), table_row i2]
    · rw [wz]
      unfold rtn
      cases q : nx w s ((w.length : Int) - ((m + 1 : Nat) : Int)) with
      | none =>
        have g : good w r s ((w.length : Int) - ((m + 1 : Nat) : Int)) = false := by unfold good; rw [q]
        rw [g, if_neg (by decide), List.nil_append] at z
        simp only [Bool.false_eq_true, if_false]
        exact ih (by omega) z
      | some u =>
        have g : good w r s ((w.length : Int) - ((m + 1 : Nat) : Int)) = K w r u := by unfold good; rw [q]
        have ou := nx_ok h q
        have ub := numB_bd ou
        simp only [if_true]
        refine Ev.bind (refnum_ev o ou) ?_
        simp only [if_pos ub.1, if_pos (show numB w u < ((setB w i).length : Int) by rw [setB_len]; omega), setB_rd ou, i3 u ou]
        cases k1 : K w r u with
        | true =>
          rw [g, k1, if_pos rfl] at z
          obtain ⟨rfl, _⟩ := List.cons.inj z
          obtain rfl : t = u := Option.some.inj (ht.symm.trans q)
          simp only [if_true, if_pos (show x.length < 17592186044416 by omega)]
          rw [w64 (n := (r : Int) - 1) (by omega) (by omega)]
          exact e
        | false =>
          rw [g, k1, if_neg (by decide), List.nil_append] at z
          simp only [Bool.false_eq_true, if_false]
          exact ih (by omega) z
theorem reffirst_l0 {w : List Int} (o : okW w) {M : Nat} (st : stable w M) (hM : M ≤ inf w) : ∀ (r : Nat) (s x : List Int), okSt w s → K w r s = true → x.length + r ≤ 200 →
    Ev (fun k => dropperref08_First.l0 k w ((List.range (M + 1)).map (setB w)) s x ((r : Int) - 1)) (x ++ fst w r s, 0) := by
  have hlen := o.1.2
  intro r
  induction r with
  | zero =>
    intro s x hs hk hx
    refine ev_some _ fun k => ?_
    rw [dropperref08_First.l0, if_neg (by omega)]
    simp [fst]
  | succ r ih =>
    intro s x hs hk hx
    obtain ⟨c, L, t, h1, h2, h3, h4, h5⟩ := fst_step hs hk
    have e := ih t (x ++ [c]) h3 h4 (by simp; omega)
    have e2 := reffirst_in o hs st hM (r := r) (by omega) (x := x) (by omega) h2 e (w.length + 1) (Nat.le_refl _) h1
    rw [show (w.length : Int) - ((w.length + 1 : Nat) : Int) = -1 by omega] at e2
    rw [h5, show x ++ c :: fst w r t = (x ++ [c]) ++ fst w r t by simp]
    refine Ev.step (fun k => ?_) e2
    rw [dropperref08_First.l0, show ((r + 1 : Nat) : Int) - 1 = (r : Int) by omega, if_pos (by omega)]
theorem ref_First_ev (w : List Int) (hl : w.length ≤ 9223372036854775807) (n : Int) : Ev (fun k => dropperref08_First.f k w n) (firstR w n) := by
  classical
  refine Ev.bind (ref_Valid_ev w hl) ?_
  unfold firstR
  by_cases o : okW w
  · simp only [decide_eq_true o, if_true, if_pos o]
    have hlen := o.1.2
    have hinf : inf w ≤ 32768 := by have := prodI_le o; unfold inf; omega
    rw [from_some]
    simp only [Option.bind_some]
    by_cases q : 0 ≤ n ∧ n ≤ 200
    · rw [if_pos q]
      simp only [decide_eq_true q, if_true]
      obtain ⟨M, st, hM, e⟩ := table_ev o
      refine Ev.bind e ?_
      obtain ⟨ow, ew⟩ := num_first (okW_pos o)
      have hi : ∃ i : Nat, mn n (wrap64 ((((List.range (M + 1)).map (setB w)).length : Int) - 1)) = (i : Int) ∧ i < M + 1 ∧ ∀ u, okSt w u → K w i u = K w n.toNat u := by
        rw [List.length_map, List.length_range, w64 (by omega) (by omega), mn_eq]
        by_cases q : n ≤ M
        · exact ⟨n.toNat, by omega, by omega, fun u hu => rfl⟩
        · exact ⟨M, by omega, by omega, fun u hu => (stable_eq st (by omega) hu).symm⟩
      obtain ⟨i, i1, i2, i3⟩ := hi
      rw [i1]
      simp only [Option.bind_some, List.nil_append, List.length_nil]
      simp only [if_pos (show 0 + w.length < 17592186044416 by omega), if_pos (show (0 : Int) ≤ (i : Int) by omega), if_pos (show (i : Int) < (((List.range (M + 1)).map (setB w)).length : Int) by rw [List.length_map, List.length_range]; omega), Option.bind_some]
      have wb := numB_bd ow
      refine Ev.bind (refnum_ev o ow) ?_
      simp only [if_pos wb.1, table_row i2, if_pos (show numB w w < ((setB w i).length : Int) by rw [setB_len]; omega), setB_rd ow, i3 w ow]
      by_cases c : K w n.toNat w = true
      · simp only [if_pos c]
        have e := reffirst_l0 o st hM n.toNat w [] ow c (by simp; omega)
        rw [List.nil_append, show ((n.toNat : Nat) : Int) - 1 = n - 1 by omega] at e
        rw [w64 (by omega) (by omega)]
        exact e
      · simp only [if_neg c]
        exact Ev.now _
    · rw [if_neg q]
      simp only [decide_eq_false q, Bool.false_eq_true, if_false]
      exact Ev.now _
  · simp only [decide_eq_false o, Bool.false_eq_true, if_false, if_neg o]
    exact Ev.now _
theorem firstR_len (w : List Int) (n : Int) : (firstR w n).1.length ≤ 200 := by
  unfold firstR
  by_cases o : okW w
  · rw [if_pos o]
    by_cases q : 0 ≤ n ∧ n ≤ 200
    · rw [if_pos q]
      split
      · have := fst_len w n.toNat w; simp only; omega
      · simp
    · rw [if_neg q]; simp
  · rw [if_neg o]; simp
theorem IceFirsts_pure (l0 : List Int) (a1 : Int) (hx : ∀ x ∈ l0, (Lit.int .i64 x).wf = true) (w1 : (Lit.int .i64 a1).wf = true) (hl : l0.length ≤ 9223372036854775807) : ∃ k, dropperlaw08_IceFirsts.f k l0 a1 = some true := by
  apply Ev.rounds
  obtain ⟨b, e, hb⟩ := many0_ev l0 hl
  refine Ev.bind e ?_
  cases b with
  | true =>
    simp only [if_true]
    exact Ev.bind awake_ev (Ev.now _)
  | false =>
    simp only [Bool.false_eq_true, if_false]
    refine Ev.bind (ice_First_ev l0 a1) (Ev.bind (ref_First_ev l0 hl a1) ?_)
    simp only [if_true]
    refine Ev.bind (same_ev _ (by have := firstR_len l0 a1; omega)) ?_
    simp only [if_true]
    exact Ev.bind awake_ev (Ev.now _)
end Go.Proofs.Ythbpibdfookbmaa.G
