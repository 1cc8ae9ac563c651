/- The law WireMeets of the printed functions. Plain Lean. -/
import Derived.Test.YtciepmpadcpkbaaPLaw
import Derived.Test.YtciepmpadcpkbaaGF9
namespace Go.Proofs.Ytciepmpadcpkbaa.G
set_option linter.unusedVariables false
open Go.RowKit Go.Proofs.YtciepmpadcpkbaaW.PrintWords Go.Proofs.YtciepmpadcpkbaaW.PrintLast
/-- Numbers that can be asked as heights. -/
def hts (l : List Int) : Prop := ∀ j, j < l.length → -1000000 ≤ rd l (j : Int) ∧ rd l (j : Int) ≤ 1000000
theorem index_int_loop {l : List Int} (hl : l.length ≤ 9223372036854775807) {fn : Int → Option Bool} {p : Nat → Prop} [DecidablePred p] (hp : ∀ j, j < l.length → fn (rd l (j : Int)) = some (decide (p j))) : ∀ (d i : Nat), l.length - i = d → i ≤ l.length → (∀ j, j < i → ¬ p j) →
    ∃ t : Int, Ev (fun f => slices_IndexFunc_int_int.l0 f l fn l.length i) t ∧ ((t = -1 ∧ ∀ j, j < l.length → ¬ p j) ∨ ∃ k : Nat, t = k ∧ k < l.length ∧ p k ∧ ∀ j, j < k → ¬ p j) := by
  intro d
  induction d with
  | zero =>
    intro i hd hi h1
    obtain rfl : i = l.length := by omega
    refine ⟨-1, ev_some _ fun k => ?_, .inl ⟨rfl, h1⟩⟩
    rw [slices_IndexFunc_int_int.l0, if_neg (by omega)]
  | succ d ih =>
    intro i hd hi h1
    by_cases c : p i
    · refine ⟨i, ev_some _ fun k => ?_, .inr ⟨i, rfl, by omega, c, h1⟩⟩
      rw [slices_IndexFunc_int_int.l0, if_pos (by omega), if_pos (by omega), if_pos (by omega), hp i (by omega), decide_eq_true c]
      rfl
    · obtain ⟨t, e, ht⟩ := ih (i + 1) (by omega) (by omega) (fun j hj => if q : j = i then q ▸ c else h1 j (by omega))
      refine ⟨t, Ev.step (fun k => ?_) e, ht⟩
      rw [slices_IndexFunc_int_int.l0, if_pos (by omega), if_pos (by omega), if_pos (by omega), hp i (by omega), decide_eq_false c, wsucc i (by omega)]
      rfl
open Classical in
theorem are_ev (l : List Int) (hl : l.length ≤ 9223372036854775807) : Ev (fun f => wire_are.f f l) (decide (hts l)) := by
  obtain ⟨t, e, ht⟩ := index_int_loop hl (fn := wire_are_1.f) (p := fun j => ¬ (-1000000 ≤ rd l (j : Int) ∧ rd l (j : Int) ≤ 1000000)) (fun j hj => by
    unfold wire_are_1.f wire_isHeight.f
    rw [within_some]
    simp only [Option.bind_some]
    by_cases c : -1000000 ≤ rd l (j : Int) ∧ rd l (j : Int) ≤ 1000000 <;> simp [c]) l.length 0 (by omega) (by omega) (by omega)
  have e2 : Ev (fun f => slices_ContainsFunc_int_int.f f l wire_are_1.f) (decide (t ≥ 0)) := Ev.bind e (Ev.now _)
  have e3 : Ev (fun f => wire_are.f f l) (!(decide (t ≥ 0))) := Ev.bind e2 (Ev.now _)
  rcases ht with ⟨rfl, h⟩ | ⟨k, rfl, hk, h1, h2⟩
  · rw [decide_eq_true (show hts l from fun j hj => Decidable.not_not.1 (h j hj))]
    exact e3
  · rw [decide_eq_false (show ¬ hts l from fun z => h1 (z k hk))]
    rw [decide_eq_true (show ((k : Nat) : Int) ≥ 0 by omega)] at e3
    exact e3
open Classical in
theorem heights_loop (l : List Int) (hl : l.length ≤ 9223372036854775807) (n : Int) : ∀ (d i : Nat), l.length - i = d → i ≤ l.length → (∀ j, j < i → -1000000 ≤ rd l (j : Int) ∧ rd l (j : Int) ≤ 1000000) → Ev (fun f => dropperref02_heights.l0 f l n i) (decide (hts l ∧ (l.length : Int) = n)) := by
  intro d
  induction d with
  | zero =>
    intro i hd hi h1
    obtain rfl : i = l.length := by omega
    refine ev_some _ fun k => ?_
    rw [dropperref02_heights.l0, if_neg (by omega)]
    have : hts l := h1
    by_cases c : (l.length : Int) = n
    · rw [decide_eq_true ⟨this, c⟩, c]; simp
    · rw [decide_eq_false (fun z => c z.2)]; simp [c]
  | succ d ih =>
    intro i hd hi h1
    by_cases c : -1000000 ≤ rd l (i : Int) ∧ rd l (i : Int) ≤ 1000000
    · refine Ev.step (fun k => ?_) (ih (i + 1) (by omega) (by omega) (fun j hj => if q : j = i then q ▸ c else h1 j (by omega)))
      rw [dropperref02_heights.l0, if_pos (by omega), if_pos (by omega), from_some, decide_eq_true c, wsucc i (by omega)]
      rfl
    · refine ev_some _ fun k => ?_
      rw [dropperref02_heights.l0, if_pos (by omega), if_pos (by omega), from_some, decide_eq_false c, decide_eq_false (fun z => c (z.1 i (by omega)))]
      rfl
open Classical in
theorem heights_ev (l : List Int) (hl : l.length ≤ 9223372036854775807) (n : Int) : Ev (fun f => dropperref02_heights.f f l n) (decide (hts l ∧ (l.length : Int) = n)) := heights_loop l hl n l.length 0 (by omega) (by omega) (by omega)
/-- What is made of two heights, one by one. -/
def zipF (g : Int → Int → Int) (a b : List Int) : List Int := (List.range a.length).map fun i : Nat => g (rd a (i : Int)) (rd b (i : Int))
theorem rd_snoc {x : List Int} {i j : Nat} {v : Int} (hx : x.length = i) (hj : j < i + 1) : rd (x ++ [v]) (j : Int) = if j = i then v else rd x (j : Int) := by
  by_cases q : j = i
  · subst q
    rw [if_pos rfl]
    simp [rd, List.getD_eq_getElem?_getD, ← hx]
  · rw [if_neg q]
    simp only [rd, List.getD_eq_getElem?_getD, Int.toNat_natCast]
    rw [List.getElem?_append_left (by omega)]
theorem snoc_inv {x : List Int} {i : Nat} {v : Int} {f : Nat → Int} (hx : x.length = i) (h1 : ∀ j, j < i → rd x (j : Int) = f j) (hv : v = f i) : (x ++ [v]).length = i + 1 ∧ ∀ j, j < i + 1 → rd (x ++ [v]) (j : Int) = f j := by
  refine ⟨by simp [hx], fun j hj => ?_⟩
  rw [rd_snoc hx hj]
  by_cases q : j = i
  · rw [if_pos q, q, hv]
  · rw [if_neg q, h1 j (by omega)]
theorem pair_loop {a b : List Int} (ha : a.length ≤ 50) (hab : a.length = b.length) {fn : Int → Int → Option Int} {g : Int → Int → Int} (hg : ∀ x y, fn x y = some (g x y)) : ∀ (d i : Nat) (x : List Int), a.length - i = d → i ≤ a.length → x.length = i → (∀ j, j < i → rd x (j : Int) = g (rd a (j : Int)) (rd b (j : Int))) → Ev (fun f => wire_pairwise.l0 f a b fn x a.length i) (zipF g a b, 0) := by
  intro d
  induction d with
  | zero =>
    intro i x hd hi hx h1
    obtain rfl : i = a.length := by omega
    refine ev_some _ fun k => ?_
    rw [wire_pairwise.l0, if_neg (by omega)]
    exact congrArg (fun z => some (z, (0 : Int))) (rd_ext hx h1)
  | succ d ih =>
    intro i x hd hi hx h1
    obtain ⟨e1, e2⟩ := snoc_inv (f := fun j => g (rd a (j : Int)) (rd b (j : Int))) hx h1 rfl
    refine Ev.step (fun k => ?_) (ih (i + 1) _ (by omega) (by omega) e1 e2)
    rw [wire_pairwise.l0, if_pos (by omega), if_pos (by omega), if_pos (by omega), if_pos (by omega), hg]
    simp only [Option.bind_some]
    rw [if_pos (by omega), wsucc i (by omega)]
open Classical in
/-- What Meet and Join tell. -/
noncomputable def pairR (g : Int → Int → Int) (a b : List Int) : List Int × Int := if a.length = b.length ∧ a.length ≤ 30 ∧ hts a ∧ hts b then (zipF g a b, 0) else ([], 2)
open Classical in
theorem pair_ev {a b : List Int} (ha : a.length ≤ 50) (hb : b.length ≤ 50) {fn : Int → Int → Option Int} {g : Int → Int → Int} (hg : ∀ x y, fn x y = some (g x y)) : Ev (fun f => wire_pairwise.f f a b fn) (pairR g a b) := by
  have no : ∀ {r : List Int × Int}, r = ([], 2) → Ev (fun f => wire_pairwise.j0 f a b fn true) r := by
    rintro _ rfl
    refine ev_some _ fun k => ?_
    rw [wire_pairwise.j0, if_pos rfl]
  unfold pairR
  by_cases c1 : (a.length : Int) = (b.length : Int)
  · by_cases c2 : (a.length : Int) > 30
    · refine Ev.congr (fun k => ?_) (no (if_neg (fun z => by omega)))
      unfold wire_pairwise.f
      rw [if_pos c1, if_pos c2]
    · refine Ev.congr (f := fun k => (wire_are.f k a).bind fun t101 => (if t101 = true then ((wire_are.f k b).bind fun t102 => (wire_pairwise.j0 k a b fn (!t102))) else (wire_pairwise.j0 k a b fn true))) (fun k => ?_) (Ev.bind (are_ev a (by omega)) ?_)
      · unfold wire_pairwise.f
        rw [if_pos c1, if_neg c2]
      · by_cases c3 : hts a
        · simp only [decide_eq_true c3, if_true]
          refine Ev.bind (are_ev b (by omega)) ?_
          by_cases c4 : hts b
          · rw [if_pos ⟨by omega, by omega, c3, c4⟩]
            simp only [decide_eq_true c4, Bool.not_true]
            refine Ev.step (fun k => ?_) (pair_loop ha (by omega) hg a.length 0 [] (by omega) (by omega) rfl (by omega))
            rw [wire_pairwise.j0, if_neg (by decide)]
            rfl
          · simp only [decide_eq_false c4, Bool.not_false]
            exact no (if_neg (fun z => c4 z.2.2.2))
        · simp only [decide_eq_false c3, if_false, Bool.false_eq_true]
          exact no (if_neg (fun z => c3 z.2.2.1))
  · refine Ev.congr (fun k => ?_) (no (if_neg (fun z => by omega)))
    unfold wire_pairwise.f
    rw [if_neg c1]
theorem wire_Meet_ev {a b : List Int} (ha : a.length ≤ 50) (hb : b.length ≤ 50) : Ev (fun f => wire_Meet.f f a b) (pairR mn a b) := Ev.bind (pair_ev ha hb (fun x y => by unfold wire_Meet_1.f; rfl)) (Ev.now _)
theorem wire_Join_ev {a b : List Int} (ha : a.length ≤ 50) (hb : b.length ≤ 50) : Ev (fun f => wire_Join.f f a b) (pairR mx a b) := Ev.bind (pair_ev ha hb (fun x y => by unfold wire_Join_1.f; rfl)) (Ev.now _)
open Classical in
theorem both_ev {a b : List Int} (ha : a.length ≤ 50) (hb : b.length ≤ 50) : Ev (fun f => dropperref02_both.f f a b) (decide (a.length = b.length ∧ a.length ≤ 30 ∧ hts a ∧ hts b)) := by
  by_cases c1 : (a.length : Int) ≤ 30
  · refine Ev.congr (f := fun f => (dropperref02_heights.f f a b.length).bind fun t101 => (if t101 = true then ((dropperref02_heights.f f b a.length).bind fun t102 => (some t102)) else (some false))) (fun k => ?_) (Ev.bind (heights_ev a (by omega) b.length) ?_)
    · unfold dropperref02_both.f
      rw [if_pos c1]
    · by_cases c2 : hts a ∧ (a.length : Int) = (b.length : Int)
      · simp only [decide_eq_true c2, if_true]
        refine Ev.bind (heights_ev b (by omega) a.length) ?_
        rw [decide_eq_decide.2 (show (hts b ∧ (b.length : Int) = (a.length : Int)) ↔ (a.length = b.length ∧ a.length ≤ 30 ∧ hts a ∧ hts b) from ⟨fun z => ⟨by omega, by omega, c2.1, z.1⟩, fun z => ⟨z.2.2.2, by omega⟩⟩)]
        exact Ev.now _
      · simp only [decide_eq_false c2, if_false, Bool.false_eq_true]
        rw [decide_eq_false (fun z => c2 ⟨z.2.2.1, by omega⟩)]
        exact Ev.now _
  · rw [decide_eq_false (fun z => by omega)]
    refine Ev.congr (fun k => ?_) (Ev.now _)
    unfold dropperref02_both.f
    rw [if_neg c1]
theorem ref_meet_loop {a b : List Int} (ha : a.length ≤ 50) (hab : a.length = b.length) : ∀ (d i : Nat) (x : List Int), a.length - i = d → i ≤ a.length → x.length = i → (∀ j, j < i → rd x (j : Int) = mn (rd a (j : Int)) (rd b (j : Int))) → Ev (fun f => dropperref02_Meet.l0 f a b x i) (zipF mn a b, 0) := by
  intro d
  induction d with
  | zero =>
    intro i x hd hi hx h1
    obtain rfl : i = a.length := by omega
    refine ev_some _ fun k => ?_
    rw [dropperref02_Meet.l0, if_neg (by omega)]
    exact congrArg (fun z => some (z, (0 : Int))) (rd_ext hx h1)
  | succ d ih =>
    intro i x hd hi hx h1
    obtain ⟨e1, e2⟩ := snoc_inv (f := fun j => mn (rd a (j : Int)) (rd b (j : Int))) hx h1 rfl
    refine Ev.step (fun k => ?_) (ih (i + 1) _ (by omega) (by omega) e1 e2)
    rw [dropperref02_Meet.l0, if_pos (by omega), if_pos (by omega), if_pos (by omega), if_pos (by omega), wsucc i (by omega)]
theorem ref_join_loop {a b : List Int} (ha : a.length ≤ 50) (hab : a.length = b.length) : ∀ (d i : Nat) (x : List Int), a.length - i = d → i ≤ a.length → x.length = i → (∀ j, j < i → rd x (j : Int) = mx (rd a (j : Int)) (rd b (j : Int))) → Ev (fun f => dropperref02_Join.l0 f a b x i) (zipF mx a b, 0) := by
  intro d
  induction d with
  | zero =>
    intro i x hd hi hx h1
    obtain rfl : i = a.length := by omega
    refine ev_some _ fun k => ?_
    rw [dropperref02_Join.l0, if_neg (by omega)]
    exact congrArg (fun z => some (z, (0 : Int))) (rd_ext hx h1)
  | succ d ih =>
    intro i x hd hi hx h1
    obtain ⟨e1, e2⟩ := snoc_inv (f := fun j => mx (rd a (j : Int)) (rd b (j : Int))) hx h1 rfl
    refine Ev.step (fun k => ?_) (ih (i + 1) _ (by omega) (by omega) e1 e2)
    rw [dropperref02_Join.l0, if_pos (by omega), if_pos (by omega), if_pos (by omega), if_pos (by omega), wsucc i (by omega)]
open Classical in
theorem ref_Meet_ev {a b : List Int} (ha : a.length ≤ 50) (hb : b.length ≤ 50) : Ev (fun f => dropperref02_Meet.f f a b) (pairR mn a b) := by
  refine Ev.bind (both_ev ha hb) ?_
  unfold pairR
  by_cases c : a.length = b.length ∧ a.length ≤ 30 ∧ hts a ∧ hts b
  · simp only [decide_eq_true c, if_pos c, if_true]
    exact ref_meet_loop ha c.1 a.length 0 [] (by omega) (by omega) rfl (by omega)
  · simp only [decide_eq_false c, if_neg c, if_false, Bool.false_eq_true]
    exact Ev.now _
open Classical in
theorem ref_Join_ev {a b : List Int} (ha : a.length ≤ 50) (hb : b.length ≤ 50) : Ev (fun f => dropperref02_Join.f f a b) (pairR mx a b) := by
  refine Ev.bind (both_ev ha hb) ?_
  unfold pairR
  by_cases c : a.length = b.length ∧ a.length ≤ 30 ∧ hts a ∧ hts b
  · simp only [decide_eq_true c, if_pos c, if_true]
    exact ref_join_loop ha c.1 a.length 0 [] (by omega) (by omega) rfl (by omega)
  · simp only [decide_eq_false c, if_neg c, if_false, Bool.false_eq_true]
    exact Ev.now _
theorem pairR_len (g : Int → Int → Int) (a b : List Int) : (pairR g a b).1.length ≤ 4611686018427387904 := by
  unfold pairR
  split
  · rename_i h
    simp only [zipF, List.length_map, List.length_range]
    omega
  · simp
theorem WireMeets_pure (a b : List Int) (hx : ∀ x ∈ a, (Lit.int .i64 x).wf = true) (hy : ∀ x ∈ b, (Lit.int .i64 x).wf = true) : ∃ k_, dropperlaw02_WireMeets.f k_ a b = some true := by
  obtain ⟨t, ⟨K0, s0⟩, ht⟩ := large_ev [] [a, b] (by simp)
  obtain ⟨K1, s1⟩ := awake_ev
  cases t with
  | true =>
    refine ⟨K0 + K1, ?_⟩
    have a0 := s0 (K0 + K1) (by omega)
    have a1 := s1 (K0 + K1) (by omega)
    dsimp only at a0 a1
    unfold dropperlaw02_WireMeets.f
    rw [a0]
    simp [a1]
  | false =>
    have ha : a.length ≤ 50 := (ht rfl).2 a (by simp)
    have hb : b.length ≤ 50 := (ht rfl).2 b (by simp)
    obtain ⟨K2, s2⟩ := wire_Meet_ev ha hb
    obtain ⟨K3, s3⟩ := ref_Meet_ev ha hb
    obtain ⟨K4, s4⟩ := wire_Join_ev ha hb
    obtain ⟨K5, s5⟩ := ref_Join_ev ha hb
    obtain ⟨K6, s6⟩ := same_ev (pairR mn a b).1 (pairR_len mn a b)
    obtain ⟨K7, s7⟩ := same_ev (pairR mx a b).1 (pairR_len mx a b)
    generalize hk : K0 + K1 + K2 + K3 + K4 + K5 + K6 + K7 = K
    have a0 := s0 K (by omega)
    have a1 := s1 K (by omega)
    have a2 := s2 K (by omega)
    have a3 := s3 K (by omega)
    have a4 := s4 K (by omega)
    have a5 := s5 K (by omega)
    have a6 := s6 K (by omega)
    have a7 := s7 K (by omega)
    dsimp only at a0 a1 a2 a3 a4 a5 a6 a7
    refine ⟨K, ?_⟩
    unfold dropperlaw02_WireMeets.f
    rw [a0]
    generalize pairR mn a b = x at *
    generalize pairR mx a b = y at *
    simp [a1, a2, a3, a4, a5, a6, a7]
end Go.Proofs.Ytciepmpadcpkbaa.G
