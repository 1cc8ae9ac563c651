/- The document's numbers of states, what is behind a night, and its table. Plain Lean. -/
import Derived.Test.YthbpibdfookbmaaPStep
import Derived.Test.YthbpibdfookbmaaGF41
import Derived.Test.YthbpibdfookbmaaGF55
namespace Go.Proofs.Ythbpibdfookbmaa.G
set_option linter.unusedVariables false
set_option linter.unusedSimpArgs false
open Go.RowKit Go.Proofs.YthbpibdfookbmaaW.PrintWords Go.Proofs.YthbpibdfookbmaaW.PrintLast
theorem prodI_reverse (w : List Int) : prodI w.reverse = prodI w := by
  induction w with
  | nil => rfl
  | cons a w ih => rw [List.reverse_cons, prodI_append, ih]; simp [prodI, Int.mul_comm]
theorem pos_reverse {w : List Int} (h : pos w) : pos w.reverse := fun a ha => h a (by simpa using ha)
theorem okSt_take {w s : List Int} (h : okSt w s) (i : Nat) : okSt (w.take i) (s.take i) := by
  induction i generalizing w s with
  | zero => simp only [List.take_zero]; exact trivial
  | succ i ih =>
    match w, s, h with
    | [], [], _ => exact trivial
    | a :: w, x :: s, h => exact ⟨h.1, ih h.2⟩
theorem okSt_rev_iff {w s : List Int} : okSt w.reverse s.reverse ↔ okSt w s := ⟨fun h => by simpa using okSt_reverse h, okSt_reverse⟩
/-- The document's number of a state: its last number counts least. -/
def numB (w s : List Int) : Int := numL w.reverse s.reverse
def digB (w : List Int) (n : Int) : List Int := (digL w.reverse n).reverse
theorem numB_bd {w s : List Int} (h : okSt w s) : 0 ≤ numB w s ∧ numB w s < prodI w := by
  have := numL_bd (okSt_reverse h)
  rwa [prodI_reverse] at this
theorem digB_num {w s : List Int} (h : okSt w s) : digB w (numB w s) = s := by
  unfold digB numB
  rw [dig_num (okSt_reverse h), List.reverse_reverse]
theorem numB_dig {w : List Int} (hp : pos w) {n : Int} (h0 : 0 ≤ n) (h1 : n < prodI w) : numB w (digB w n) = n ∧ okSt w (digB w n) := by
  obtain ⟨e, o⟩ := num_dig (pos_reverse hp) h0 (by rw [prodI_reverse]; exact h1)
  unfold numB digB
  refine ⟨by rw [List.reverse_reverse]; exact e, ?_⟩
  have := okSt_reverse o
  rwa [List.reverse_reverse] at this
theorem take_rev_succ (w : List Int) (i : Nat) (h : i < w.length) : (w.take (i + 1)).reverse = rd w (i : Int) :: (w.take i).reverse := by
  rw [List.take_succ_eq_append_getElem h, rd_get h]; simp
theorem refnum_loop {w s : List Int} (o : okW w) (h : okSt w s) : ∀ (d i : Nat), w.length - i = d → i ≤ w.length → Ev (fun k => dropperref08_number.l0 k w s (numL (w.take i).reverse (s.take i).reverse) i) (numB w s) := by
  have hlen := o.1.2
  have hs := okSt_len h
  obtain ⟨b1, b2⟩ := prodI_le o
  intro d
  induction d with
  | zero =>
    intro i hd hi
    obtain rfl : i = w.length := by omega
    refine ev_some _ fun k => ?_
    rw [dropperref08_number.l0, if_neg (by omega), List.take_length]
    rw [← hs, List.take_length]
    rfl
  | succ d ih =>
    intro i hd hi
    have hx := (okSt_iff.1 h).2 i (by omega)
    have hw8 := o.2 i (by omega)
    have q := by_bd o i
    have n1 := numL_bd (okSt_reverse (okSt_take h i))
    rw [prodI_reverse] at n1
    have e := ih (i + 1) (by omega) (by omega)
    rw [take_rev_succ w i (by omega), take_rev_succ s i (by omega)] at e
    simp only [numL] at e
    generalize numL (w.take i).reverse (s.take i).reverse = z at n1 e ⊢
    have z1 : 0 ≤ z * rd w (i : Int) := Int.mul_nonneg n1.1 (by omega)
    have z2 : z * rd w (i : Int) ≤ 32768 * 8 := Int.mul_le_mul (by omega) hw8.2 (by omega) (by omega)
    refine Ev.step (fun k => ?_) e
    rw [dropperref08_number.l0, if_pos (by omega), if_pos (by omega), if_pos (by omega), wsucc i (by omega), w64 (n := z * rd w (i : Int)) (by omega) (by omega), w64 (n := z * rd w (i : Int) + rd s (i : Int)) (by omega) (by omega), w64 (by omega) (by omega)]
    rw [show z * rd w (i : Int) + rd s (i : Int) - 1 = rd s (i : Int) - 1 + rd w (i : Int) * z by rw [Int.mul_comm]; omega]
theorem refnum_ev {w s : List Int} (o : okW w) (h : okSt w s) : Ev (fun k => dropperref08_number.f k w s) (numB w s) := refnum_loop o h w.length 0 (by omega) (by omega)
theorem digL_append (u : List Int) (a n : Int) (hp : pos u) (hn : 0 ≤ n) : digL (u ++ [a]) n = digL u n ++ [(n / prodI u) % a + 1] := by
  induction u generalizing n with
  | nil => simp [digL, prodI]
  | cons b u ih =>
    have hb := hp b (by simp)
    simp only [List.cons_append, digL, prodI]
    rw [ih (n / b) (fun c hc => hp c (by simp [hc])) (Int.ediv_nonneg hn (by omega)), Int.ediv_ediv_of_nonneg (by omega)]
theorem drop_rev (w : List Int) (i : Nat) (h : i < w.length) : (w.drop i).reverse = (w.drop (i + 1)).reverse ++ [rd w (i : Int)] := by
  rw [rd_drop w i h, List.reverse_cons]
theorem set_rep (i : Nat) (v : Int) (E : List Int) : (List.replicate (i + 1) 0 ++ E).set i v = List.replicate i 0 ++ v :: E := by
  rw [List.replicate_succ']
  simp [List.set_append]
theorem numbered_loop {w : List Int} (o : okW w) {n : Int} (h0 : 0 ≤ n) (h1 : n < prodI w) : ∀ (i : Nat), i ≤ w.length → Ev (fun k => dropperref08_numbered.l0 k w (n / prodI (w.drop i)) (List.replicate i 0 ++ (digL (w.drop i).reverse n).reverse) ((i : Int) - 1)) (digB w n) := by
  have hlen := o.1.2
  obtain ⟨b1, b2⟩ := prodI_le o
  intro i
  induction i with
  | zero =>
    intro _
    refine ev_some _ fun k => ?_
    rw [dropperref08_numbered.l0, if_neg (by omega)]
    rfl
  | succ i ih =>
    intro hi
    have hw8 := o.2 i (by omega)
    have p1 := prodI_pos (pos_drop (okW_pos o) (i + 1))
    have z1 : 0 ≤ n / prodI (w.drop (i + 1)) := Int.ediv_nonneg h0 (by omega)
    have z2 : n / prodI (w.drop (i + 1)) ≤ n := Int.ediv_le_self _ h0
    have z3 : 0 ≤ n / prodI (w.drop (i + 1)) / rd w (i : Int) := Int.ediv_nonneg z1 (by omega)
    have z4 : n / prodI (w.drop (i + 1)) / rd w (i : Int) ≤ n / prodI (w.drop (i + 1)) := Int.ediv_le_self _ z1
    have z5 := Int.emod_nonneg (n / prodI (w.drop (i + 1))) (show rd w (i : Int) ≠ 0 by omega)
    have z6 := Int.emod_lt_of_pos (n / prodI (w.drop (i + 1))) (show 0 < rd w (i : Int) by omega)
    have e := ih (by omega)
    have e1 : prodI (w.drop i) = prodI (w.drop (i + 1)) * rd w (i : Int) := by rw [rd_drop w i (by omega)]; simp only [prodI]; rw [Int.mul_comm]
    rw [e1, ← Int.ediv_ediv_of_nonneg (by omega), drop_rev w i (by omega), digL_append _ _ _ (pos_reverse (pos_drop (okW_pos o) _)) h0, List.reverse_append, prodI_reverse] at e
    have el : (digL (w.drop (i + 1)).reverse n).reverse.length = w.length - (i + 1) := by
      have ln : ∀ (u : List Int) (m : Int), (digL u m).length = u.length := by
        intro u
        induction u with
        | nil => intro m; rfl
        | cons a u ih => intro m; simp [digL, ih]
      simp [ln]
    refine Ev.step (fun k => ?_) e
    rw [dropperref08_numbered.l0, if_pos (by omega), if_pos (by omega), if_pos (by omega)]
    rw [show ((i + 1 : Nat) : Int) - 1 = (i : Int) by omega, if_neg (by omega), if_pos (by rw [List.length_append, List.length_replicate, el]; omega), Int.tdiv_eq_ediv_of_nonneg z1, Int.tmod_eq_emod_of_nonneg z1, w64 (n := n / prodI (w.drop (i + 1)) / rd w (i : Int)) (by omega) (by omega), w64 (n := n / prodI (w.drop (i + 1)) % rd w (i : Int) + 1) (by omega) (by omega), w64 (by omega) (by omega), Int.toNat_natCast, set_rep]
    rfl
theorem numbered_ev {w : List Int} (o : okW w) {n : Int} (h0 : 0 ≤ n) (h1 : n < prodI w) : Ev (fun k => dropperref08_numbered.f k w n) (digB w n) := by
  have hlen := o.1.2
  have e := numbered_loop o h0 h1 w.length (Nat.le_refl _)
  rw [List.drop_length] at e
  simp only [prodI, Int.ediv_one, List.reverse_nil, digL, List.append_nil] at e
  refine Ev.congr (fun k => ?_) e
  unfold dropperref08_numbered.f
  rw [if_pos (by omega), if_pos (by omega), w64 (by omega) (by omega), Int.toNat_natCast]
theorem reftonight_loop {w s : List Int} (o : okW w) (h : okSt w s) (c : Int) : ∀ (d i : Nat) (x : List Int), w.length - i = d → i ≤ w.length → x.length = i →
    Ev (fun k => dropperref08_tonight.l0 k w s c x i) (match nx (w.drop i) (s.drop i) (c - i) with | some t => (x ++ t, true) | none => ([], false)) := by
  have hlen := o.1.2
  have hs := okSt_len h
  intro d
  induction d with
  | zero =>
    intro i x hd hi hx
    obtain rfl : i = w.length := by omega
    refine ev_some _ fun k => ?_
    rw [dropperref08_tonight.l0, if_neg (by omega), List.drop_length]
    simp [nx]
  | succ d ih =>
    intro i x hd hi hx
    have hv := (okSt_iff.1 h).2 i (by omega)
    have hw8 := o.2 i (by omega)
    have go : ∀ m : Int, Ev (fun k => dropperref08_tonight.l0 k w s c (x ++ [m]) ((i + 1 : Nat) : Int))
        (match (nx (w.drop (i + 1)) (s.drop (i + 1)) (c - i - 1)).map (fun t => m :: t) with | some t => (x ++ t, true) | none => ([], false)) := by
      intro m
      have e := ih (i + 1) (x ++ [m]) (by omega) (by omega) (by simp [hx])
      rw [show c - ((i + 1 : Nat) : Int) = c - i - 1 by omega] at e
      cases z : nx (w.drop (i + 1)) (s.drop (i + 1)) (c - i - 1) with
      | none => rw [z] at e; exact e
      | some t =>
        rw [z] at e
        simp only [List.append_assoc, List.singleton_append] at e
        exact e
    rw [show nx (w.drop i) (s.drop i) (c - i) = if (if c - i = 0 then rd w (i : Int) else rd s (i : Int) - 1) = 0 then none else (nx (w.drop (i + 1)) (s.drop (i + 1)) (c - i - 1)).map fun t => (if c - i = 0 then rd w (i : Int) else rd s (i : Int) - 1) :: t by rw [rd_drop w i (by omega), rd_drop s i (by omega)]; rfl]
    by_cases cc : (i : Int) = c
    · rw [if_pos (show c - (i : Int) = 0 by omega), if_neg (by omega)]
      refine Ev.step (fun k => ?_) (go (rd w (i : Int)))
      rw [dropperref08_tonight.l0, if_pos (by omega), if_pos (by omega), if_pos (by omega), if_pos cc, if_neg (by omega), if_pos (by omega), wsucc i (by omega)]
    · rw [if_neg (show ¬ c - (i : Int) = 0 by omega)]
      by_cases c1 : rd s (i : Int) - 1 = 0
      · rw [if_pos c1]
        refine ev_some _ fun k => ?_
        rw [dropperref08_tonight.l0, if_pos (by omega), if_pos (by omega), if_pos (by omega), if_neg cc, w64 (n := rd s (i : Int) - 1) (by omega) (by omega), if_pos c1]
      · rw [if_neg c1]
        refine Ev.step (fun k => ?_) (go (rd s (i : Int) - 1))
        rw [dropperref08_tonight.l0, if_pos (by omega), if_pos (by omega), if_pos (by omega), if_neg cc, w64 (n := rd s (i : Int) - 1) (by omega) (by omega), if_neg c1, if_pos (by omega), wsucc i (by omega)]
/-- What the document's tonight tells. -/
def rtn (w s : List Int) (c : Int) : List Int × Bool := match nx w s c with
  | some t => (t, true)
  | none => ([], false)
theorem reftonight_ev {w s : List Int} (o : okW w) (h : okSt w s) (c : Int) : Ev (fun k => dropperref08_tonight.f k w s c) (rtn w s c) := by
  have e := reftonight_loop o h c w.length 0 [] (by omega) (by omega) rfl
  simp only [List.drop_zero, Int.natCast_zero, Int.sub_zero, List.nil_append] at e
  exact e
/-- The document's set of the states that can go on for k nights. -/
def setB (w : List Int) (k : Nat) : List Bool := (List.range (prodI w).toNat).map fun i : Nat => K w k (digB w (i : Int))
theorem setB_len (w : List Int) (k : Nat) : (setB w k).length = (prodI w).toNat := by simp [setB]
theorem setB_rd {w s : List Int} (h : okSt w s) (k : Nat) : rdOf false (setB w k) (numB w s) = K w k s := by
  obtain ⟨h1, h2⟩ := numB_bd h
  have e0 : ((numB w s).toNat : Int) = numB w s := by omega
  have : (digB w ((numB w s).toNat : Int)) = s := by rw [e0]; exact digB_num h
  unfold setB rdOf
  rw [List.getD_eq_getElem?_getD, List.getElem?_map, List.getElem?_range (by omega)]
  simp only [Option.map_some, Option.getD_some, this]
theorem setB_eq {w : List Int} (hp : pos w) {k m : Nat} : setB w k = setB w m ↔ ∀ s, okSt w s → K w k s = K w m s := by
  constructor
  · intro e s hs
    rw [← setB_rd hs, ← setB_rd hs, e]
  · intro h
    unfold setB
    refine List.map_congr_left fun i hi => ?_
    have := List.mem_range.1 hi
    exact h _ (numB_dig hp (by omega) (by omega)).2
/-- A row under way: the first j are told, number j is b, the others z. -/
def midG {α : Type} (f : Nat → α) (N j : Nat) (b z : α) : List α := (List.range j).map f ++ b :: List.replicate (N - j - 1) z
section
variable {α : Type} {f : Nat → α} {N j : Nat} {b v z : α}
theorem midG_len (h : j < N) : (midG f N j b z).length = N := by simp [midG]; omega
theorem midG_get (d : α) (h : j < N) : (midG f N j b z).getD j d = b := by
  simp [midG, List.getD_eq_getElem?_getD, List.getElem?_append]
theorem midG_set (h : j < N) : (midG f N j b z).set j v = midG f N j v z := by
  simp [midG, List.set_append]
theorem midG_next (h : j + 1 < N) : midG f N j (f j) z = midG f N (j + 1) z z := by
  unfold midG
  rw [List.range_succ, List.map_append, List.append_assoc]
  congr 1
  have : N - j - 1 = N - (j + 1) - 1 + 1 := by omega
  rw [this, List.replicate_succ]
  rfl
theorem midG_last (h : j + 1 = N) : midG f N j (f j) z = (List.range N).map f := by
  unfold midG
  rw [← h, List.range_succ, List.map_append, show j + 1 - j - 1 = 0 by omega]
  rfl
theorem midG_first (h : 0 < N) : midG f N 0 z z = List.replicate N z := by
  unfold midG
  obtain ⟨m, rfl⟩ : ∃ m, N = m + 1 := ⟨N - 1, by omega⟩
  simp [List.replicate_succ]
end
/-- The states behind a night, by the choices from the m-th last on. -/
def nbF (w s : List Int) : Nat → List (List Int)
  | 0 => []
  | m + 1 => (match nx w s ((w.length : Int) - ((m + 1 : Nat) : Int)) with | some t => [t] | none => []) ++ nbF w s m
theorem nbF_ok {w s : List Int} (h : okSt w s) : ∀ m, ∀ t ∈ nbF w s m, okSt w t
  | 0, t, ht => by simp [nbF] at ht
  | m + 1, t, ht => by
    rw [nbF, List.mem_append] at ht
    rcases ht with ht | ht
    · cases z : nx w s ((w.length : Int) - ((m + 1 : Nat) : Int)) with
      | none => rw [z] at ht; simp at ht
      | some u => rw [z] at ht; simp at ht; rw [ht]; exact nx_ok h z
    · exact nbF_ok h m t ht
theorem nbF_len (w s : List Int) : ∀ m, (nbF w s m).length ≤ m
  | 0 => Nat.le_refl _
  | m + 1 => by
    have := nbF_len w s m
    rw [nbF, List.length_append]
    split <;> simp <;> omega
theorem nbF_any (w s : List Int) (k : Nat) : ∀ m, (nbF w s m).any (fun t => K w k t) = gF w k s m
  | 0 => rfl
  | m + 1 => by
    rw [nbF, List.any_append, nbF_any w s k m, gF]
    congr 1
    show _ = good w k s ((w.length : Int) - ((m + 1 : Nat) : Int))
    unfold good
    cases nx w s ((w.length : Int) - ((m + 1 : Nat) : Int)) <;> simp
/-- The numbers of the states behind a night. -/
def nbN (w : List Int) (i : Nat) : List Int := (nbF w (digB w (i : Int)) (w.length + 1)).map (numB w)
theorem table_l1 {w : List Int} (o : okW w) {j : Nat} (hj : j < (prodI w).toNat) {r : List (List Bool)} (x3 : List Bool) : ∀ (m : Nat) (u : List Int), m ≤ w.length + 1 → u.length ≤ 6 - m →
    Ev (fun k => dropperref08_Table.l0 k w x3 (midG (nbN w) (prodI w).toNat j (u ++ (nbF w (digB w (j : Int)) m).map (numB w)) []) ((j + 1 : Nat) : Int)) r →
    Ev (fun k => dropperref08_Table.l1 k w x3 (midG (nbN w) (prodI w).toNat j u []) j ((w.length : Int) - m)) r := by
  have hlen := o.1.2
  obtain ⟨b1, b2⟩ := prodI_le o
  obtain ⟨nd, od⟩ := numB_dig (okW_pos o) (n := (j : Int)) (by omega) (by omega)
  intro m
  induction m with
  | zero =>
    intro u hm hu e
    simp only [nbF, List.map_nil, List.append_nil] at e
    refine Ev.step (fun k => ?_) e
    rw [dropperref08_Table.l1, if_neg (by omega), wsucc j (by omega)]
  | succ m ih =>
    intro u hm hu e
    have wz : wrap64 ((w.length : Int) - ((m + 1 : Nat) : Int) + 1) = (w.length : Int) - m := by rw [w64 (by omega) (by omega)]; omega
    have hx4 : rd_L1 (midG (nbN w) (prodI w).toNat j u []) (j : Int) = u := by
      show List.getD _ _ _ = _
      rw [Int.toNat_natCast]
      exact midG_get [] hj
    refine Ev.step (f := fun k => (dropperref08_numbered.f k w j).bind fun t609 => ((dropperref08_tonight.f k w t609 ((w.length : Int) - ((m + 1 : Nat) : Int))).bind fun bt612 => (if bt612.2 = true then (if 0 ≤ (j : Int) then (if (j : Int) < ((midG (nbN w) (prodI w).toNat j u []).length : Int) then ((dropperref08_number.f k w bt612.1).bind fun t617 => (if (rd_L1 (midG (nbN w) (prodI w).toNat j u []) (j : Int)).length < 17592186044416 then (dropperref08_Table.l1 k w x3 ((midG (nbN w) (prodI w).toNat j u []).set (j : Int).toNat ((rd_L1 (midG (nbN w) (prodI w).toNat j u []) (j : Int)) ++ [t617])) j (wrap64 ((w.length : Int) - ((m + 1 : Nat) : Int) + 1))) else (none))) else (none)) else (none)) else (dropperref08_Table.l1 k w x3 (midG (nbN w) (prodI w).toNat j u []) j (wrap64 ((w.length : Int) - ((m + 1 : Nat) : Int) + 1)))))) (fun k => ?_) (Ev.bind (numbered_ev o (n := (j : Int)) (by omega) (by omega)) (Ev.bind (reftonight_ev o od _) ?_))
    · rw [dropperref08_Table.l1, if_pos (by omega)]
    · rw [wz]
      unfold rtn
      rw [nbF] at e
      cases z : nx w (digB w (j : Int)) ((w.length : Int) - ((m + 1 : Nat) : Int)) with
      | none =>
        rw [z] at e
        simp only [Bool.false_eq_true, if_false]
        exact ih u (by omega) (by omega) e
      | some t =>
        rw [z] at e
        simp only [if_true]
        refine Ev.congr (f := fun k => (dropperref08_number.f k w t).bind fun t617 => (dropperref08_Table.l1 k w x3 (midG (nbN w) (prodI w).toNat j (u ++ [t617]) []) j ((w.length : Int) - m))) (fun k => ?_) (Ev.bind (refnum_ev o (nx_ok od z)) ?_)
        · rw [if_pos (by omega), if_pos (by rw [midG_len hj]; omega), hx4]
          congr 1
          funext t617
          rw [if_pos (by omega), Int.toNat_natCast, midG_set hj]
        · refine ih (u ++ [numB w t]) (by omega) (by rw [List.length_append]; simp; omega) ?_
          simpa using e
theorem table_l0 {w : List Int} (o : okW w) {r : List (List Bool)} (e : Ev (fun k => dropperref08_Table.l2 k (setB w 0) ((List.range (prodI w).toNat).map (nbN w)) [setB w 0] true) r) : ∀ (d j : Nat), (prodI w).toNat - j = d → 0 < d →
    Ev (fun k => dropperref08_Table.l0 k w (midG (fun _ => true) (prodI w).toNat j false false) (midG (nbN w) (prodI w).toNat j [] []) j) r := by
  obtain ⟨b1, b2⟩ := prodI_le o
  have hlen := o.1.2
  intro d
  induction d with
  | zero => intro j _ h; omega
  | succ d ih =>
    intro j hd _
    refine Ev.step (f := fun k => dropperref08_Table.l1 k w (midG (fun _ => true) (prodI w).toNat j true false) (midG (nbN w) (prodI w).toNat j [] []) j (-1)) (fun k => ?_) ?_
    · rw [dropperref08_Table.l0, if_pos (by rw [midG_len (by omega)]; omega), if_pos (by omega), Int.toNat_natCast, midG_set (by omega)]
    · have e1 := table_l1 o (j := j) (by omega) (r := r) (midG (fun _ => true) (prodI w).toNat j true false) (w.length + 1) [] (Nat.le_refl _) (by simp)
      rw [show (w.length : Int) - ((w.length + 1 : Nat) : Int) = -1 by omega] at e1
      refine e1 ?_
      rw [List.nil_append]
      show Ev (fun k => dropperref08_Table.l0 k w (midG (fun _ => true) (prodI w).toNat j ((fun _ => true) j) false) (midG (nbN w) (prodI w).toNat j (nbN w j) []) ((j + 1 : Nat) : Int)) r
      by_cases q : d = 0
      · rw [midG_last (by omega), midG_last (by omega)]
        have s0 : (List.range (prodI w).toNat).map (fun _ => true) = setB w 0 := rfl
        rw [s0]
        refine Ev.step (fun k => ?_) e
        rw [dropperref08_Table.l0, if_neg (by rw [setB_len]; omega)]
      · rw [midG_next (by omega), midG_next (by omega)]
        exact ih (j + 1) (by omega) (by omega)
theorem nbL_rd {w : List Int} {j : Nat} (hj : j < (prodI w).toNat) : rd_L1 ((List.range (prodI w).toNat).map (nbN w)) (j : Int) = nbN w j := by
  unfold rd_L1
  rw [Int.toNat_natCast, List.getD_eq_getElem?_getD, List.getElem?_map, List.getElem?_range hj]
  rfl
theorem table_l4 {w : List Int} (o : okW w) (k0 : Nat) {j : Nat} (hj : j < (prodI w).toNat) {f : Nat → Bool} {r : List (List Bool)} {x9 : List (List Bool)} {x10 : Bool} : ∀ (d i : Nat) (b : Bool), (nbN w j).length - i = d → i ≤ (nbN w j).length →
    Ev (fun k => dropperref08_Table.l3 k (setB w k0) ((List.range (prodI w).toNat).map (nbN w)) x9 (x10 || ((b || ((nbF w (digB w (j : Int)) (w.length + 1)).drop i).any fun t => K w k0 t) != K w k0 (digB w (j : Int)))) (midG f (prodI w).toNat j (b || ((nbF w (digB w (j : Int)) (w.length + 1)).drop i).any fun t => K w k0 t) false) ((j + 1 : Nat) : Int)) r →
    Ev (fun k => dropperref08_Table.l4 k (setB w k0) ((List.range (prodI w).toNat).map (nbN w)) x9 x10 (midG f (prodI w).toNat j b false) j i) r := by
  have hlen := o.1.2
  obtain ⟨b1, b2⟩ := prodI_le o
  obtain ⟨nd, od⟩ := numB_dig (okW_pos o) (n := (j : Int)) (by omega) (by omega)
  have nl : (nbN w j).length = (nbF w (digB w (j : Int)) (w.length + 1)).length := by simp [nbN]
  have nl2 := nbF_len w (digB w (j : Int)) (w.length + 1)
  have hx : ∀ b, rdOf false (midG f (prodI w).toNat j b false) (j : Int) = b := fun b => by
    show List.getD _ _ _ = _
    rw [Int.toNat_natCast]
    exact midG_get false hj
  have hn : rdOf false (setB w k0) (j : Int) = K w k0 (digB w (j : Int)) := by
    have := setB_rd od k0
    rwa [nd] at this
  intro d
  induction d with
  | zero =>
    intro i b hd hi e
    obtain rfl : i = (nbN w j).length := by omega
    rw [nl, List.drop_length] at e
    simp only [List.any_nil, Bool.or_false] at e
    refine Ev.step (fun k => ?_) e
    rw [dropperref08_Table.l4, if_pos (by omega), if_pos (by simp; omega), nbL_rd hj, if_neg (by omega), wsucc j (by omega)]
    cases x10 with
    | true => simp
    | false => rw [if_neg (by decide), if_pos (by rw [midG_len hj]; omega), if_pos (by rw [setB_len]; omega), hx, hn, Bool.false_or]
  | succ d ih =>
    intro i b hd hi e
    have il : i < (nbF w (digB w (j : Int)) (w.length + 1)).length := by omega
    rw [List.drop_eq_getElem_cons il, List.any_cons] at e
    have ot := nbF_ok od (w.length + 1) _ (List.getElem_mem il)
    have tb := numB_bd ot
    have er : rd (nbN w j) (i : Int) = numB w ((nbF w (digB w (j : Int)) (w.length + 1))[i]) := by
      rw [rd_get (by omega)]
      simp [nbN]
    cases b with
    | true =>
      simp only [Bool.true_or] at e
      refine Ev.step (fun k => ?_) (ih (i + 1) true (by omega) (by omega) (by simpa using e))
      rw [dropperref08_Table.l4, if_pos (by omega), if_pos (by simp; omega), nbL_rd hj, if_pos (by omega), if_pos (by rw [midG_len hj]; omega), hx, if_pos rfl, Int.toNat_natCast, midG_set hj, wsucc i (by omega)]
    | false =>
      simp only [Bool.false_or] at e
      refine Ev.step (fun k => ?_) (ih (i + 1) (K w k0 ((nbF w (digB w (j : Int)) (w.length + 1))[i])) (by omega) (by omega) e)
      rw [dropperref08_Table.l4, if_pos (by omega), if_pos (by simp; omega), nbL_rd hj, if_pos (by omega), if_pos (by rw [midG_len hj]; omega), hx, if_neg (by decide), if_pos (by omega), er, if_pos tb.1, if_pos (by rw [setB_len]; omega), setB_rd ot, Int.toNat_natCast, midG_set hj, wsucc i (by omega)]
/-- Whether any of the first j states can go on for k nights, but not for one more. -/
def chg (w : List Int) (k : Nat) : Nat → Bool
  | 0 => false
  | j + 1 => chg w k j || (K w (k + 1) (digB w (j : Int)) != K w k (digB w (j : Int)))
theorem chg_false {w : List Int} {k : Nat} : ∀ {n : Nat}, chg w k n = false ↔ ∀ j, j < n → K w (k + 1) (digB w (j : Int)) = K w k (digB w (j : Int))
  | 0 => by simp [chg]
  | n + 1 => by
    rw [chg, Bool.or_eq_false_iff, chg_false (n := n)]
    constructor
    · rintro ⟨h1, h2⟩ j hj
      by_cases q : j = n
      · rw [q]; simpa using h2
      · exact h1 j (by omega)
    · intro h
      exact ⟨fun j hj => h j (by omega), by simpa using h n (by omega)⟩
theorem chg_stable {w : List Int} (hp : pos w) {k : Nat} : chg w k (prodI w).toNat = false ↔ stable w k := by
  rw [chg_false]
  constructor
  · intro h s hs
    obtain ⟨h1, h2⟩ := numB_bd hs
    have := h (numB w s).toNat (by omega)
    rwa [show (((numB w s).toNat : Nat) : Int) = numB w s by omega, digB_num hs] at this
  · intro h j hj
    exact h _ (numB_dig hp (by omega) (by omega)).2
theorem table_l3 {w : List Int} (o : okW w) (k0 : Nat) {x9 : List (List Bool)} {r : List (List Bool)}
    (e : Ev (fun k => dropperref08_Table.l3 k (setB w k0) ((List.range (prodI w).toNat).map (nbN w)) x9 (chg w k0 (prodI w).toNat) (setB w (k0 + 1)) (prodI w)) r) : ∀ (d j : Nat), (prodI w).toNat - j = d → 0 < d →
    Ev (fun k => dropperref08_Table.l3 k (setB w k0) ((List.range (prodI w).toNat).map (nbN w)) x9 (chg w k0 j) (midG (fun i => K w (k0 + 1) (digB w (i : Int))) (prodI w).toNat j false false) j) r := by
  obtain ⟨b1, b2⟩ := prodI_le o
  have hlen := o.1.2
  intro d
  induction d with
  | zero => intro j _ h; omega
  | succ d ih =>
    intro j hd _
    refine Ev.step (f := fun k => dropperref08_Table.l4 k (setB w k0) ((List.range (prodI w).toNat).map (nbN w)) x9 (chg w k0 j) (midG (fun i => K w (k0 + 1) (digB w (i : Int))) (prodI w).toNat j false false) j ((0 : Nat) : Int)) (fun k => ?_) ?_
    · rw [dropperref08_Table.l3, if_pos (by rw [setB_len]; omega)]
      rfl
    · refine table_l4 o k0 (by omega) _ 0 false rfl (by omega) ?_
      rw [List.drop_zero, Bool.false_or, nbF_any, ← K_gF]
      show Ev (fun k => dropperref08_Table.l3 k (setB w k0) ((List.range (prodI w).toNat).map (nbN w)) x9 (chg w k0 (j + 1)) (midG (fun i => K w (k0 + 1) (digB w (i : Int))) (prodI w).toNat j ((fun i : Nat => K w (k0 + 1) (digB w (i : Int))) j) false) ((j + 1 : Nat) : Int)) r
      by_cases q : d = 0
      · rw [midG_last (by omega), show j + 1 = (prodI w).toNat by omega, show (((prodI w).toNat : Nat) : Int) = prodI w by omega]
        exact e
      · rw [midG_next (by omega)]
        exact ih (j + 1) (by omega) (by omega)
theorem table_l2 {w : List Int} (o : okW w) : ∀ (d i : Nat), inf w - i = d → i ≤ inf w → ∃ m, stable w m ∧ m ≤ inf w ∧ Ev (fun k => dropperref08_Table.l2 k (setB w i) ((List.range (prodI w).toNat).map (nbN w)) ((List.range (i + 1)).map (setB w)) true) ((List.range (m + 1)).map (setB w)) := by
  obtain ⟨b1, b2⟩ := prodI_le o
  have hlen := o.1.2
  have hinf : inf w ≤ 32768 := by unfold inf; omega
  have start : ∀ (i : Nat) {x9 r : List (List Bool)}, Ev (fun k => dropperref08_Table.l3 k (setB w i) ((List.range (prodI w).toNat).map (nbN w)) x9 (chg w i (prodI w).toNat) (setB w (i + 1)) (prodI w)) r → Ev (fun k => dropperref08_Table.l2 k (setB w i) ((List.range (prodI w).toNat).map (nbN w)) x9 true) r := by
    intro i x9 r e
    refine Ev.step (fun k => ?_) (table_l3 o i e (prodI w).toNat 0 (by omega) (by omega))
    rw [dropperref08_Table.l2, if_pos rfl, setB_len, if_pos (by omega), if_pos (by omega), Int.toNat_natCast, midG_first (by omega)]
    rfl
  have stop : ∀ i, stable w i → Ev (fun k => dropperref08_Table.l2 k (setB w i) ((List.range (prodI w).toNat).map (nbN w)) ((List.range (i + 1)).map (setB w)) true) ((List.range (i + 1)).map (setB w)) := by
    intro i st
    refine start i (Ev.step (f := fun k => dropperref08_Table.l2 k (setB w i) ((List.range (prodI w).toNat).map (nbN w)) ((List.range (i + 1)).map (setB w)) false) (fun k => ?_) (ev_some _ fun k => ?_))
    · rw [dropperref08_Table.l3, if_neg (by rw [setB_len]; omega), (chg_stable (okW_pos o)).2 st, if_neg (by decide)]
    · rw [dropperref08_Table.l2, if_neg (by decide)]
  intro d
  induction d with
  | zero =>
    intro i hd hi
    have st : stable w i := stable_all (okW_pos o) (by unfold inf at hd hi; omega)
    exact ⟨i, st, hi, stop i st⟩
  | succ d ih =>
    intro i hd hi
    by_cases st : stable w i
    · exact ⟨i, st, hi, stop i st⟩
    · obtain ⟨m, h1, h2, e⟩ := ih (i + 1) (by omega) (by omega)
      refine ⟨m, h1, h2, start i (Ev.step (fun k => ?_) e)⟩
      have c : chg w i (prodI w).toNat = true := by
        cases q : chg w i (prodI w).toNat with
        | true => rfl
        | false => exact absurd ((chg_stable (okW_pos o)).1 q) st
      rw [dropperref08_Table.l3, if_neg (by rw [setB_len]; omega), c, if_pos rfl, if_pos (by simp; omega)]
      rw [List.range_succ (n := i + 1), List.map_append]
      rfl
theorem table_ev {w : List Int} (o : okW w) : ∃ m, stable w m ∧ m ≤ inf w ∧ Ev (fun k => dropperref08_Table.f k w) ((List.range (m + 1)).map (setB w)) := by
  obtain ⟨b1, b2⟩ := prodI_le o
  obtain ⟨m, h1, h2, e⟩ := table_l2 o (inf w) 0 rfl (by omega)
  refine ⟨m, h1, h2, ?_⟩
  refine Ev.bind (count_ev o) ?_
  have e0 := table_l0 o e (prodI w).toNat 0 (by omega) (by omega)
  rw [midG_first (by omega), midG_first (by omega)] at e0
  refine Ev.congr (fun k => ?_) e0
  rw [if_pos (by omega), if_pos (by omega)]
  simp only [Option.bind_some, List.length_replicate]
  rw [if_pos (by omega), if_pos (by omega), Int.toNat_natCast]
  rfl
/-- A row of the table. -/
theorem table_row {w : List Int} {m i : Nat} (h : i < m + 1) : rd_L3 ((List.range (m + 1)).map (setB w)) (i : Int) = setB w i := by
  unfold rd_L3
  rw [Int.toNat_natCast, List.getD_eq_getElem?_getD, List.getElem?_map, List.getElem?_range h]
  rfl
theorem state_l1 (w s : List Int) (hl : s.length ≤ 9223372036854775807) : ∀ (d i : Nat), s.length - i = d → i ≤ s.length → (∀ j, j < i → j < w.length → 1 ≤ rd s (j : Int) ∧ rd s (j : Int) ≤ rd w (j : Int)) → ∃ b : Bool, Ev (fun k => dropperref08_State.l0 k w s i) b ∧ (b = true ↔ okSt w s) := by
  have fin : ∀ (i : Nat), (∀ j, j < i → j < w.length → 1 ≤ rd s (j : Int) ∧ rd s (j : Int) ≤ rd w (j : Int)) → (s.length ≤ i ∨ w.length ≤ i) → i ≤ s.length → ((((s.length : Int) == (w.length : Int)) = true) ↔ okSt w s) := by
    intro i h1 h2 h3
    rw [okSt_iff, beq_iff_eq]
    constructor
    · intro e
      exact ⟨by omega, fun j hj => h1 j (by omega) hj⟩
    · rintro ⟨e, _⟩; omega
  intro d
  induction d with
  | zero =>
    intro i hd hi h1
    obtain rfl : i = s.length := by omega
    refine ⟨_, Ev.step (f := fun k => dropperref08_State.j1 k w s s.length false) (fun k => ?_) (ev_some ((s.length : Int) == (w.length : Int)) fun k => ?_), fin _ h1 (.inl (Nat.le_refl _)) (Nat.le_refl _)⟩
    · rw [dropperref08_State.l0, if_neg (by omega)]
    · rw [dropperref08_State.j1, if_neg (by decide)]
  | succ d ih =>
    intro i hd hi h1
    by_cases c : i < w.length
    · by_cases c2 : 1 ≤ rd s (i : Int) ∧ rd s (i : Int) ≤ rd w (i : Int)
      · obtain ⟨b, e, hb⟩ := ih (i + 1) (by omega) (by omega) (fun j hj hj2 => if q : j = i then q ▸ c2 else h1 j (by omega) hj2)
        refine ⟨b, Ev.step (f := fun k => dropperref08_State.j1 k w s i true) (fun k => ?_) (Ev.step (fun k => ?_) e), hb⟩
        · rw [dropperref08_State.l0, if_pos (by omega), decide_eq_true (by omega)]
        · rw [dropperref08_State.j1, if_pos rfl, if_pos (by omega), if_pos (by omega), if_pos (by omega), from_some, decide_eq_true c2, wsucc i (by omega)]
          rfl
      · refine ⟨false, Ev.step (f := fun k => dropperref08_State.j1 k w s i true) (fun k => ?_) (ev_some _ fun k => ?_), ?_⟩
        · rw [dropperref08_State.l0, if_pos (by omega), decide_eq_true (by omega)]
        · rw [dropperref08_State.j1, if_pos rfl, if_pos (by omega), if_pos (by omega), if_pos (by omega), from_some, decide_eq_false c2]
          rfl
        · constructor
          · intro z; cases z
          · intro z; exact absurd ((okSt_iff.1 z).2 i c) c2
    · refine ⟨_, Ev.step (f := fun k => dropperref08_State.j1 k w s i false) (fun k => ?_) (ev_some ((s.length : Int) == (w.length : Int)) fun k => ?_), fin i h1 (.inr (by omega)) hi⟩
      · rw [dropperref08_State.l0, if_pos (by omega), decide_eq_false (by omega)]
      · rw [dropperref08_State.j1, if_neg (by decide)]
open Classical in
theorem state_ev (w s : List Int) (hl : s.length ≤ 9223372036854775807) : Ev (fun k => dropperref08_State.f k w s) (decide (okSt w s)) := by
  obtain ⟨b, e, hb⟩ := state_l1 w s hl s.length 0 (by omega) (by omega) (by omega)
  have : decide (okSt w s) = b := by
    cases b with
    | true => exact decide_eq_true (hb.1 rfl)
    | false => exact decide_eq_false (fun z => by cases hb.2 z)
  rw [this]
  exact e
end Go.Proofs.Ythbpibdfookbmaa.G
