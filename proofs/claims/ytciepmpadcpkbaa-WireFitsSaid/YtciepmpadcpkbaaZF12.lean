/- Functions of the seat and plain laws about them: PMeets, PSweep, GF55, GF16, GF17, GF18, PClash. -/
import Derived.Test.YtciepmpadcpkbaaZF9
import Derived.Test.YtciepmpadcpkbaaZF11
import Derived.Test.YtciepmpadcpkbaaZF3
import Derived.Test.YtciepmpadcpkbaaGBase
import Derived.Test.YtciepmpadcpkbaaZF6
import Derived.Test.YtciepmpadcpkbaaZF0
import Derived.Test.YtciepmpadcpkbaaZF2
import Derived.Test.YtciepmpadcpkbaaZF4
section
namespace Go.Proofs.Ytciepmpadcpkbaa.G
set_option linter.unusedVariables false
set_option linter.unusedSimpArgs false
open Go.RowKit Go.Proofs.YtciepmpadcpkbaaW.PrintWords Go.Proofs.YtciepmpadcpkbaaW.PrintLast
/-- Numbers that can be asked as heights. -/
def hts (l : List Int) : Prop := ∀ j, j < l.length → -1000000 ≤ rd l (j : Int) ∧ rd l (j : Int) ≤ 1000000
theorem index_int_loop {l : List Int} (hl : l.length ≤ 9223372036854775807) {fn : Int → Option Bool} {p : Nat → Prop} [DecidablePred p] (hp : ∀ j, j < l.length → fn (rd l (j : Int)) = some (decide (p j))) : ∀ (d i : Nat), l.length - i = d → i ≤ l.length → (∀ j, j < i → ¬ p j) →
    ∃ t : Int, Ev (fun f => slices_IndexFunc_int_int.l0 f l fn l.length i) t ∧ ((t = -1 ∧ ∀ j, j < l.length → ¬ p j) ∨ ∃ k : Nat, t = k ∧ k < l.length ∧ p k ∧ ∀ j, j < k → ¬ p j) := by
  intro d
  induction d with
  | zero =>
    intro i hd hi h1
    obtain rfl : i = l.length := by omega
    refine ⟨-1, ev_some _ fun k => ?_, .inl ⟨rfl, h1⟩⟩
    rw [slices_IndexFunc_int_int.l0, if_neg (by omega)]
  | succ d ih =>
    intro i hd hi h1
    by_cases c : p i
    · refine ⟨i, ev_some _ fun k => ?_, .inr ⟨i, rfl, by omega, c, h1⟩⟩
      rw [slices_IndexFunc_int_int.l0, if_pos (by omega), if_pos (by omega), if_pos (by omega), hp i (by omega), decide_eq_true c]
      rfl
    · obtain ⟨t, e, ht⟩ := ih (i + 1) (by omega) (by omega) (fun j hj => if q : j = i then q ▸ c else h1 j (by omega))
      refine ⟨t, Ev.step (fun k => ?_) e, ht⟩
      rw [slices_IndexFunc_int_int.l0, if_pos (by omega), if_pos (by omega), if_pos (by omega), hp i (by omega), decide_eq_false c, wsucc i (by omega)]
      rfl
open Classical in
theorem are_ev (l : List Int) (hl : l.length ≤ 9223372036854775807) : Ev (fun f => wire_are.f f l) (decide (hts l)) := by
  obtain ⟨t, e, ht⟩ := index_int_loop hl (fn := wire_are_1.f) (p := fun j => ¬ (-1000000 ≤ rd l (j : Int) ∧ rd l (j : Int) ≤ 1000000)) (fun j hj => by
    unfold wire_are_1.f wire_isHeight.f
    rw [within_some]
    simp only [Option.bind_some]
    by_cases c : -1000000 ≤ rd l (j : Int) ∧ rd l (j : Int) ≤ 1000000 <;> simp [c]) l.length 0 (by omega) (by omega) (by omega)
  have e2 : Ev (fun f => slices_ContainsFunc_int_int.f f l wire_are_1.f) (decide (t ≥ 0)) := Ev.bind e (Ev.now _)
  have e3 : Ev (fun f => wire_are.f f l) (!(decide (t ≥ 0))) := Ev.bind e2 (Ev.now _)
  rcases ht with ⟨rfl, h⟩ | ⟨k, rfl, hk, h1, h2⟩
  · rw [decide_eq_true (show hts l from fun j hj => Decidable.not_not.1 (h j hj))]
    exact e3
  · rw [decide_eq_false (show ¬ hts l from fun z => h1 (z k hk))]
    rw [decide_eq_true (show ((k : Nat) : Int) ≥ 0 by omega)] at e3
    exact e3
open Classical in
theorem heights_loop (l : List Int) (hl : l.length ≤ 9223372036854775807) (n : Int) : ∀ (d i : Nat), l.length - i = d → i ≤ l.length → (∀ j, j < i → -1000000 ≤ rd l (j : Int) ∧ rd l (j : Int) ≤ 1000000) → Ev (fun f => dropperref02_heights.l0 f l n i) (decide (hts l ∧ (l.length : Int) = n)) := by
  intro d
  induction d with
  | zero =>
    intro i hd hi h1
    obtain rfl : i = l.length := by omega
    refine ev_some _ fun k => ?_
    rw [dropperref02_heights.l0, if_neg (by omega)]
    have : hts l := h1
    by_cases c : (l.length : Int) = n
    · rw [decide_eq_true ⟨this, c⟩, c]; simp
    · rw [decide_eq_false (fun z => c z.2)]; simp [c]
  | succ d ih =>
    intro i hd hi h1
    by_cases c : -1000000 ≤ rd l (i : Int) ∧ rd l (i : Int) ≤ 1000000
    · refine Ev.step (fun k => ?_) (ih (i + 1) (by omega) (by omega) (fun j hj => if q : j = i then q ▸ c else h1 j (by omega)))
      rw [dropperref02_heights.l0, if_pos (by omega), if_pos (by omega), from_some, decide_eq_true c, wsucc i (by omega)]
      rfl
    · refine ev_some _ fun k => ?_
      rw [dropperref02_heights.l0, if_pos (by omega), if_pos (by omega), from_some, decide_eq_false c, decide_eq_false (fun z => c (z.1 i (by omega)))]
      rfl
open Classical in
theorem heights_ev (l : List Int) (hl : l.length ≤ 9223372036854775807) (n : Int) : Ev (fun f => dropperref02_heights.f f l n) (decide (hts l ∧ (l.length : Int) = n)) := heights_loop l hl n l.length 0 (by omega) (by omega) (by omega)
/-- What is made of two heights, one by one. -/
def zipF (g : Int → Int → Int) (a b : List Int) : List Int := (List.range a.length).map fun i : Nat => g (rd a (i : Int)) (rd b (i : Int))
theorem rd_snoc {x : List Int} {i j : Nat} {v : Int} (hx : x.length = i) (hj : j < i + 1) : rd (x ++ [v]) (j : Int) = if j = i then v else rd x (j : Int) := by
  by_cases q : j = i
  · subst q
    rw [if_pos rfl]
    simp [rd, List.getD_eq_getElem?_getD, ← hx]
  · rw [if_neg q]
    simp only [rd, List.getD_eq_getElem?_getD, Int.toNat_natCast]
    rw [List.getElem?_append_left (by omega)]
theorem snoc_inv {x : List Int} {i : Nat} {v : Int} {f : Nat → Int} (hx : x.length = i) (h1 : ∀ j, j < i → rd x (j : Int) = f j) (hv : v = f i) : (x ++ [v]).length = i + 1 ∧ ∀ j, j < i + 1 → rd (x ++ [v]) (j : Int) = f j := by
  refine ⟨by simp [hx], fun j hj => ?_⟩
  rw [rd_snoc hx hj]
  by_cases q : j = i
  · rw [if_pos q, q, hv]
  · rw [if_neg q, h1 j (by omega)]
theorem pair_loop {a b : List Int} (ha : a.length ≤ 50) (hab : a.length = b.length) {fn : Int → Int → Option Int} {g : Int → Int → Int} (hg : ∀ x y, fn x y = some (g x y)) : ∀ (d i : Nat) (x : List Int), a.length - i = d → i ≤ a.length → x.length = i → (∀ j, j < i → rd x (j : Int) = g (rd a (j : Int)) (rd b (j : Int))) → Ev (fun f => wire_pairwise.l0 f a b fn x a.length i) (zipF g a b, 0) := by
  intro d
  induction d with
  | zero =>
    intro i x hd hi hx h1
    obtain rfl : i = a.length := by omega
    refine ev_some _ fun k => ?_
    rw [wire_pairwise.l0, if_neg (by omega)]
    exact congrArg (fun z => some (z, (0 : Int))) (rd_ext hx h1)
  | succ d ih =>
    intro i x hd hi hx h1
    obtain ⟨e1, e2⟩ := snoc_inv (f := fun j => g (rd a (j : Int)) (rd b (j : Int))) hx h1 rfl
    refine Ev.step (fun k => ?_) (ih (i + 1) _ (by omega) (by omega) e1 e2)
    rw [wire_pairwise.l0, if_pos (by omega), if_pos (by omega), if_pos (by omega), if_pos (by omega), hg]
    simp only [Option.bind_some]
    rw [if_pos (by omega), wsucc i (by omega)]
open Classical in
/-- What Meet and Join tell. -/
noncomputable def pairR (g : Int → Int → Int) (a b : List Int) : List Int × Int := if a.length = b.length ∧ a.length ≤ 30 ∧ hts a ∧ hts b then (zipF g a b, 0) else ([], 2)
open Classical in
theorem pair_ev {a b : List Int} (ha : a.length ≤ 50) (hb : b.length ≤ 50) {fn : Int → Int → Option Int} {g : Int → Int → Int} (hg : ∀ x y, fn x y = some (g x y)) : Ev (fun f => wire_pairwise.f f a b fn) (pairR g a b) := by
  have no : ∀ {r : List Int × Int}, r = ([], 2) → Ev (fun f => wire_pairwise.j0 f a b fn true) r := by
    rintro _ rfl
    refine ev_some _ fun k => ?_
    rw [wire_pairwise.j0, if_pos rfl]
  unfold pairR
  by_cases c1 : (a.length : Int) = (b.length : Int)
  · by_cases c2 : (a.length : Int) > 30
    · refine Ev.congr (fun k => ?_) (no (if_neg (fun z => by omega)))
      unfold wire_pairwise.f
      rw [if_pos c1, if_pos c2]
    · refine Ev.congr (f := fun k => (wire_are.f k a).bind fun t101 => (if t101 = true then ((wire_are.f k b).bind fun t102 => (wire_pairwise.j0 k a b fn (!t102))) else (wire_pairwise.j0 k a b fn true))) (fun k => ?_) (Ev.bind (are_ev a (by omega)) ?_)
      · unfold wire_pairwise.f
        rw [if_pos c1, if_neg c2]
      · by_cases c3 : hts a
        · simp only [decide_eq_true c3, if_true]
          refine Ev.bind (are_ev b (by omega)) ?_
          by_cases c4 : hts b
          · rw [if_pos ⟨by omega, by omega, c3, c4⟩]
            simp only [decide_eq_true c4, Bool.not_true]
            refine Ev.step (fun k => ?_) (pair_loop ha (by omega) hg a.length 0 [] (by omega) (by omega) rfl (by omega))
            rw [wire_pairwise.j0, if_neg (by decide)]
            rfl
          · simp only [decide_eq_false c4, Bool.not_false]
            exact no (if_neg (fun z => c4 z.2.2.2))
        · simp only [decide_eq_false c3, if_false, Bool.false_eq_true]
          exact no (if_neg (fun z => c3 z.2.2.1))
  · refine Ev.congr (fun k => ?_) (no (if_neg (fun z => by omega)))
    unfold wire_pairwise.f
    rw [if_neg c1]
theorem wire_Meet_ev {a b : List Int} (ha : a.length ≤ 50) (hb : b.length ≤ 50) : Ev (fun f => wire_Meet.f f a b) (pairR mn a b) := Ev.bind (pair_ev ha hb (fun x y => by unfold wire_Meet_1.f; rfl)) (Ev.now _)
theorem wire_Join_ev {a b : List Int} (ha : a.length ≤ 50) (hb : b.length ≤ 50) : Ev (fun f => wire_Join.f f a b) (pairR mx a b) := Ev.bind (pair_ev ha hb (fun x y => by unfold wire_Join_1.f; rfl)) (Ev.now _)
open Classical in
theorem both_ev {a b : List Int} (ha : a.length ≤ 50) (hb : b.length ≤ 50) : Ev (fun f => dropperref02_both.f f a b) (decide (a.length = b.length ∧ a.length ≤ 30 ∧ hts a ∧ hts b)) := by
  by_cases c1 : (a.length : Int) ≤ 30
  · refine Ev.congr (f := fun f => (dropperref02_heights.f f a b.length).bind fun t101 => (if t101 = true then ((dropperref02_heights.f f b a.length).bind fun t102 => (some t102)) else (some false))) (fun k => ?_) (Ev.bind (heights_ev a (by omega) b.length) ?_)
    · unfold dropperref02_both.f
      rw [if_pos c1]
    · by_cases c2 : hts a ∧ (a.length : Int) = (b.length : Int)
      · simp only [decide_eq_true c2, if_true]
        refine Ev.bind (heights_ev b (by omega) a.length) ?_
        rw [decide_eq_decide.2 (show (hts b ∧ (b.length : Int) = (a.length : Int)) ↔ (a.length = b.length ∧ a.length ≤ 30 ∧ hts a ∧ hts b) from ⟨fun z => ⟨by omega, by omega, c2.1, z.1⟩, fun z => ⟨z.2.2.2, by omega⟩⟩)]
        exact Ev.now _
      · simp only [decide_eq_false c2, if_false, Bool.false_eq_true]
        rw [decide_eq_false (fun z => c2 ⟨z.2.2.1, by omega⟩)]
        exact Ev.now _
  · rw [decide_eq_false (fun z => by omega)]
    refine Ev.congr (fun k => ?_) (Ev.now _)
    unfold dropperref02_both.f
    rw [if_neg c1]
theorem ref_meet_loop {a b : List Int} (ha : a.length ≤ 50) (hab : a.length = b.length) : ∀ (d i : Nat) (x : List Int), a.length - i = d → i ≤ a.length → x.length = i → (∀ j, j < i → rd x (j : Int) = mn (rd a (j : Int)) (rd b (j : Int))) → Ev (fun f => dropperref02_Meet.l0 f a b x i) (zipF mn a b, 0) := by
  intro d
  induction d with
  | zero =>
    intro i x hd hi hx h1
    obtain rfl : i = a.length := by omega
    refine ev_some _ fun k => ?_
    rw [dropperref02_Meet.l0, if_neg (by omega)]
    exact congrArg (fun z => some (z, (0 : Int))) (rd_ext hx h1)
  | succ d ih =>
    intro i x hd hi hx h1
    obtain ⟨e1, e2⟩ := snoc_inv (f := fun j => mn (rd a (j : Int)) (rd b (j : Int))) hx h1 rfl
    refine Ev.step (fun k => ?_) (ih (i + 1) _ (by omega) (by omega) e1 e2)
    rw [dropperref02_Meet.l0, if_pos (by omega), if_pos (by omega), if_pos (by omega), if_pos (by omega), wsucc i (by omega)]
theorem ref_join_loop {a b : List Int} (ha : a.length ≤ 50) (hab : a.length = b.length) : ∀ (d i : Nat) (x : List Int), a.length - i = d → i ≤ a.length → x.length = i → (∀ j, j < i → rd x (j : Int) = mx (rd a (j : Int)) (rd b (j : Int))) → Ev (fun f => dropperref02_Join.l0 f a b x i) (zipF mx a b, 0) := by
  intro d
  induction d with
  | zero =>
    intro i x hd hi hx h1
    obtain rfl : i = a.length := by omega
    refine ev_some _ fun k => ?_
    rw [dropperref02_Join.l0, if_neg (by omega)]
    exact congrArg (fun z => some (z, (0 : Int))) (rd_ext hx h1)
  | succ d ih =>
    intro i x hd hi hx h1
    obtain ⟨e1, e2⟩ := snoc_inv (f := fun j => mx (rd a (j : Int)) (rd b (j : Int))) hx h1 rfl
    refine Ev.step (fun k => ?_) (ih (i + 1) _ (by omega) (by omega) e1 e2)
    rw [dropperref02_Join.l0, if_pos (by omega), if_pos (by omega), if_pos (by omega), if_pos (by omega), wsucc i (by omega)]
open Classical in
theorem ref_Meet_ev {a b : List Int} (ha : a.length ≤ 50) (hb : b.length ≤ 50) : Ev (fun f => dropperref02_Meet.f f a b) (pairR mn a b) := by
  refine Ev.bind (both_ev ha hb) ?_
  unfold pairR
  by_cases c : a.length = b.length ∧ a.length ≤ 30 ∧ hts a ∧ hts b
  · simp only [decide_eq_true c, if_pos c, if_true]
    exact ref_meet_loop ha c.1 a.length 0 [] (by omega) (by omega) rfl (by omega)
  · simp only [decide_eq_false c, if_neg c, if_false, Bool.false_eq_true]
    exact Ev.now _
open Classical in
theorem ref_Join_ev {a b : List Int} (ha : a.length ≤ 50) (hb : b.length ≤ 50) : Ev (fun f => dropperref02_Join.f f a b) (pairR mx a b) := by
  refine Ev.bind (both_ev ha hb) ?_
  unfold pairR
  by_cases c : a.length = b.length ∧ a.length ≤ 30 ∧ hts a ∧ hts b
  · simp only [decide_eq_true c, if_pos c, if_true]
    exact ref_join_loop ha c.1 a.length 0 [] (by omega) (by omega) rfl (by omega)
  · simp only [decide_eq_false c, if_neg c, if_false, Bool.false_eq_true]
    exact Ev.now _
theorem pairR_len (g : Int → Int → Int) (a b : List Int) : (pairR g a b).1.length ≤ 4611686018427387904 := by
  unfold pairR
  split
  · rename_i h
    simp only [zipF, List.length_map, List.length_range]
    omega
  · simp
theorem WireMeets_pure (a b : List Int) (hx : ∀ x ∈ a, (Lit.int .i64 x).wf = true) (hy : ∀ x ∈ b, (Lit.int .i64 x).wf = true) : ∃ k_, dropperlaw02_WireMeets.f k_ a b = some true := by
  obtain ⟨t, ⟨K0, s0⟩, ht⟩ := large_ev [] [a, b] (by simp)
  obtain ⟨K1, s1⟩ := awake_ev
  cases t with
  | true =>
    refine ⟨K0 + K1, ?_⟩
    have a0 := s0 (K0 + K1) (by omega)
    have a1 := s1 (K0 + K1) (by omega)
    dsimp only at a0 a1
    unfold dropperlaw02_WireMeets.f
    rw [a0]
    simp [a1]
  | false =>
    have ha : a.length ≤ 50 := (ht rfl).2 a (by simp)
    have hb : b.length ≤ 50 := (ht rfl).2 b (by simp)
    obtain ⟨K2, s2⟩ := wire_Meet_ev ha hb
    obtain ⟨K3, s3⟩ := ref_Meet_ev ha hb
    obtain ⟨K4, s4⟩ := wire_Join_ev ha hb
    obtain ⟨K5, s5⟩ := ref_Join_ev ha hb
    obtain ⟨K6, s6⟩ := same_ev (pairR mn a b).1 (pairR_len mn a b)
    obtain ⟨K7, s7⟩ := same_ev (pairR mx a b).1 (pairR_len mx a b)
    generalize hk : K0 + K1 + K2 + K3 + K4 + K5 + K6 + K7 = K
    have a0 := s0 K (by omega)
    have a1 := s1 K (by omega)
    have a2 := s2 K (by omega)
    have a3 := s3 K (by omega)
    have a4 := s4 K (by omega)
    have a5 := s5 K (by omega)
    have a6 := s6 K (by omega)
    have a7 := s7 K (by omega)
    dsimp only at a0 a1 a2 a3 a4 a5 a6 a7
    refine ⟨K, ?_⟩
    unfold dropperlaw02_WireMeets.f
    rw [a0]
    generalize pairR mn a b = x at *
    generalize pairR mx a b = y at *
    simp [a1, a2, a3, a4, a5, a6, a7]
end Go.Proofs.Ytciepmpadcpkbaa.G
end
section
namespace Go.Proofs.Ytciepmpadcpkbaa.G
set_option linter.unusedVariables false
set_option linter.unusedSimpArgs false
open Go.RowKit Go.Proofs.YtciepmpadcpkbaaW.PrintWords Go.Proofs.YtciepmpadcpkbaaW.PrintLast

/-- What m windows ask of the window at i. -/
def gM (b : Nat → Int) (l : List S72) (r n : Int) (i : Nat) : Nat → Int
  | 0 => b i
  | m + 1 => max (gM b l r n i m) (b m - dst l r n i m)
theorem gM_char (b : Nat → Int) (l : List S72) (r n : Int) (i : Nat) : ∀ m, (∀ k, k < m → b k - dst l r n i k ≤ gM b l r n i m) ∧ b i ≤ gM b l r n i m ∧ (gM b l r n i m ≤ b i ∨ ∃ k, k < m ∧ gM b l r n i m ≤ b k - dst l r n i k)
  | 0 => ⟨fun k hk => by omega, by simp [gM], .inl (by simp [gM])⟩
  | m + 1 => by
    obtain ⟨h1, h2, h3⟩ := gM_char b l r n i m
    rw [gM]
    refine ⟨fun k hk => ?_, by omega, ?_⟩
    · by_cases e : k = m
      · subst e; omega
      · have := h1 k (by omega); omega
    · by_cases c : gM b l r n i m ≤ b m - dst l r n i m
      · exact .inr ⟨m, by omega, by omega⟩
      · rcases h3 with h | ⟨k, hk, h⟩
        · exact .inl (by omega)
        · exact .inr ⟨k, by omega, by omega⟩
theorem gM_uniq {b : Nat → Int} {l : List S72} {r n : Int} {i : Nat} (hi : i < l.length) {x : Int} (h1 : ∀ k, k < l.length → b k - dst l r n i k ≤ x) (h2 : ∃ k, k < l.length ∧ x ≤ b k - dst l r n i k) : gM b l r n i l.length = x := by
  obtain ⟨g1, g2, g3⟩ := gM_char b l r n i l.length
  obtain ⟨k, hk, h2⟩ := h2
  have a := g1 k hk
  have e := h1 i hi
  rw [dst_self] at e
  rcases g3 with h | ⟨k', hk', h⟩
  · omega
  · have := h1 k' hk'
    omega
/-- The sweep forward. -/
def fw (b : Nat → Int) (l : List S72) (r n : Int) : Nat → Int
  | 0 => b 0
  | i + 1 => max (b (i + 1)) (fw b l r n i - stp l r n i)
theorem fw_char {l : List S72} (h : okV l) {r n : Int} (hs : slope r n) (b : Nat → Int) : ∀ {i : Nat}, i < l.length → (∀ k, k ≤ i → b k - (pre l r n i - pre l r n k) ≤ fw b l r n i) ∧ ∃ k, k ≤ i ∧ fw b l r n i = b k - (pre l r n i - pre l r n k)
  | 0, _ => ⟨fun k hk => by
      obtain rfl : k = 0 := by omega
      simp [fw], 0, by omega, by simp [fw]⟩
  | i + 1, hi => by
    obtain ⟨h1, k, hk, h2⟩ := fw_char h hs b (i := i) (by omega)
    have s := (stp_bd h hs hi).1
    have p : pre l r n (i + 1) = pre l r n i + stp l r n i := rfl
    rw [fw]
    refine ⟨fun j hj => ?_, ?_⟩
    · by_cases e : j = i + 1
      · subst e; omega
      · have := h1 j (by omega); omega
    · by_cases c : b (i + 1) ≤ fw b l r n i - stp l r n i
      · exact ⟨k, by omega, by omega⟩
      · exact ⟨i + 1, by omega, by omega⟩
theorem gM_last {l : List S72} (h : okV l) {r n : Int} (hs : slope r n) (b : Nat → Int) {m : Nat} (hm : m + 1 = l.length) : gM b l r n m l.length = fw b l r n m := by
  obtain ⟨h1, k, hk, h2⟩ := fw_char h hs b (i := m) (by omega)
  refine gM_uniq (by omega) (fun j hj => ?_) ⟨k, by omega, ?_⟩
  · rw [dst_comm, dst_le h hs (by omega) (by omega)]
    exact h1 j (by omega)
  · rw [dst_comm, dst_le h hs (by omega) (by omega), h2]
    omega
theorem gM_step {l : List S72} (h : okV l) {r n : Int} (hs : slope r n) (b : Nat → Int) {j : Nat} (hj : j + 1 < l.length) : gM b l r n j l.length = max (fw b l r n j) (gM b l r n (j + 1) l.length - stp l r n j) := by
  obtain ⟨h1, k, hk, h2⟩ := fw_char h hs b (i := j) (by omega)
  obtain ⟨g1, g2, g3⟩ := gM_char b l r n (j + 1) l.length
  have s := (stp_bd h hs hj).1
  have p : pre l r n (j + 1) = pre l r n j + stp l r n j := rfl
  refine gM_uniq (by omega) (fun i hi => ?_) ?_
  · by_cases c : i ≤ j
    · rw [dst_comm, dst_le h hs c (by omega)]
      have := h1 i c
      omega
    · have a := g1 i hi
      rw [dst_le h hs (by omega) hi] at a ⊢
      omega
  · by_cases c : gM b l r n (j + 1) l.length - stp l r n j ≤ fw b l r n j
    · refine ⟨k, by omega, ?_⟩
      rw [dst_comm, dst_le h hs hk (by omega)]
      omega
    · have key : ∃ i, i < l.length ∧ gM b l r n (j + 1) l.length ≤ b i - dst l r n (j + 1) i := by
        rcases g3 with g | ⟨i, hi, g⟩
        · exact ⟨j + 1, hj, by rw [dst_self]; omega⟩
        · exact ⟨i, hi, g⟩
      obtain ⟨i, hi, g⟩ := key
      by_cases e : i ≤ j
      · exfalso
        have := h1 i e
        rw [dst_comm, dst_le h hs (show i ≤ j + 1 by omega) hj] at g
        omega
      · refine ⟨i, hi, ?_⟩
        rw [dst_le h hs (by omega) hi] at g ⊢
        omega
theorem fw_bd {l : List S72} (h : okV l) {r n : Int} (hs : slope r n) {b : Nat → Int} (hb : ∀ k, k < l.length → -10000 ≤ b k ∧ b k ≤ 10000) {i : Nat} (hi : i < l.length) : -10000 ≤ fw b l r n i ∧ fw b l r n i ≤ 10000 := by
  obtain ⟨h1, k, hk, h2⟩ := fw_char h hs b hi
  have a := h1 i (by omega)
  have e := pre_mono h hs hk hi
  have := hb k (by omega)
  have := hb i hi
  omega
theorem gM_bd {l : List S72} (h : okV l) {r n : Int} (hs : slope r n) {b : Nat → Int} (hb : ∀ k, k < l.length → -10000 ≤ b k ∧ b k ≤ 10000) {i : Nat} (hi : i < l.length) : -10000 ≤ gM b l r n i l.length ∧ gM b l r n i l.length ≤ 10000 := by
  obtain ⟨g1, g2, g3⟩ := gM_char b l r n i l.length
  have := hb i hi
  rcases g3 with g | ⟨k, hk, g⟩
  · omega
  · have := hb k hk
    have := dst_bd h hs hi hk
    omega
/-- What all windows ask, as a list. -/
def gL (b : Nat → Int) (l : List S72) (r n : Int) : List Int := (List.range l.length).map fun i => gM b l r n i l.length
theorem gL_len (b : Nat → Int) (l : List S72) (r n : Int) : (gL b l r n).length = l.length := by simp [gL]
theorem rd_gL (b : Nat → Int) (l : List S72) (r n : Int) {i : Nat} (h : i < l.length) : rd (gL b l r n) (i : Int) = gM b l r n i l.length := rd_map _ h

theorem back_loop {l : List S72} (h : okV l) {r n : Int} (hs : slope r n) {b : Nat → Int} (hb : ∀ k, k < l.length → -10000 ≤ b k ∧ b k ≤ 10000) : ∀ (d : Nat) (x : List Int), d + 1 ≤ l.length → x.length = l.length → (∀ j, d ≤ j → j < l.length → rd x (j : Int) = gM b l r n j l.length) → (∀ j, j < d → rd x (j : Int) = fw b l r n j) →
    Ev (fun k => wire_places_lowest.l1 k (plc l r n) x ((d : Int) - 1)) (gL b l r n) := by
  intro d
  induction d with
  | zero =>
    intro x hd hx h1 h2
    refine ev_some _ fun k => ?_
    rw [wire_places_lowest.l1, if_neg (by omega)]
    congr 1
    exact rd_ext hx fun i hi => h1 i (by omega) hi
  | succ d ih =>
    intro x hd hx h1 h2
    have hl30 := h.1.2
    have b1 := gM_bd h hs hb (i := d + 1) (by omega)
    have b2 := stp_bd h hs (i := d) (by omega)
    have e0 : dst l r n d (d + 1) = stp l r n d := by rw [dst_le h hs (by omega) (by omega), pre]; omega
    have e := ih (x.set d (gM b l r n d l.length)) (by omega) (by rw [List.length_set]; exact hx) (fun j hj hj2 => by
        rw [rd_set x _ (by omega) (by omega)]
        by_cases q : j = d
        · rw [if_pos q, q]
        · rw [if_neg q]; exact h1 j (by omega) hj2) (fun j hj => by
        rw [rd_set x _ (by omega) (by omega), if_neg (by omega)]
        exact h2 j (by omega))
    refine Ev.step (fun k => ?_) e
    have q0 : (((d + 1 : Nat) : Int) - 1) = (d : Int) := by omega
    rw [q0, wire_places_lowest.l1, wsucc d (by omega), if_pos (by omega), if_pos (by omega), if_pos (by omega), if_pos (by omega), if_pos (by omega), to_some h hs (by omega) (by omega), e0]
    simp only [Option.bind_some]
    rw [h1 (d + 1) (by omega) (by omega), h2 d (by omega), w64 (n := gM b l r n (d + 1) l.length - stp l r n d) (by omega) (by omega), w64 (n := (d : Int) - 1) (by omega) (by omega), mx_eq, ← gM_step h hs b (by omega)]
    rfl
theorem front_loop {l : List S72} (h : okV l) {r n : Int} (hs : slope r n) {b : Nat → Int} (hb : ∀ k, k < l.length → -10000 ≤ b k ∧ b k ≤ 10000) : ∀ (d i : Nat) (x : List Int), l.length - i = d → 1 ≤ i → i ≤ l.length → x.length = l.length → (∀ j, j < i → rd x (j : Int) = fw b l r n j) → (∀ j, i ≤ j → j < l.length → rd x (j : Int) = b j) →
    Ev (fun k => wire_places_lowest.l0 k (plc l r n) x i) (gL b l r n) := by
  intro d
  induction d with
  | zero =>
    intro i x hd hi1 hi hx h1 h2
    obtain rfl : i = l.length := by omega
    have hl30 := h.1.2
    refine Ev.step (fun k => ?_) (back_loop h hs hb (l.length - 1) x (by omega) hx (fun j hj hj2 => ?_) (fun j hj => h1 j (by omega)))
    · rw [wire_places_lowest.l0, hx, if_neg (by omega), w64 (by omega) (by omega)]
      congr 1
      omega
    · obtain rfl : j = l.length - 1 := by omega
      rw [h1 _ hj2, gM_last h hs b (by omega)]
  | succ d ih =>
    intro i x hd hi1 hi hx h1 h2
    obtain ⟨j, rfl⟩ : ∃ j, i = j + 1 := ⟨i - 1, by omega⟩
    have hlt : j + 1 < l.length := by omega
    have hl30 := h.1.2
    have b1 := fw_bd h hs hb (i := j) (by omega)
    have b2 := stp_bd h hs (i := j) (by omega)
    have e0 : dst l r n (j + 1) j = stp l r n j := by rw [dst_comm, dst_le h hs (by omega) (by omega), pre]; omega
    have e := ih (j + 1 + 1) (x.set (j + 1) (fw b l r n (j + 1))) (by omega) (by omega) (by omega) (by rw [List.length_set]; exact hx) (fun m hm => by
        rw [rd_set x _ (by omega) (by omega)]
        by_cases q : m = j + 1
        · rw [if_pos q, q]
        · rw [if_neg q]; exact h1 m (by omega)) (fun m hm hm2 => by
        rw [rd_set x _ (by omega) (by omega), if_neg (by omega)]
        exact h2 m (by omega) hm2)
    refine Ev.step (fun k => ?_) e
    rw [wire_places_lowest.l0, wpred j (by omega), if_pos (by omega), if_pos (by omega), if_pos (by omega), if_pos (by omega), to_some h hs (by omega) (by omega), e0]
    simp only [Option.bind_some]
    rw [h1 j (by omega), h2 (j + 1) (by omega) hlt, w64 (n := fw b l r n j - stp l r n j) (by omega) (by omega), mx_eq, wsucc (j + 1) (by omega)]
    rfl
theorem lowest_ev' {l : List S72} (h : okV l) {r n : Int} (hs : slope r n) {b : Nat → Int} (hb : ∀ k, k < l.length → -10000 ≤ b k ∧ b k ≤ 10000) {x : List Int} (hx : x.length = l.length) (hxb : ∀ j, j < l.length → rd x (j : Int) = b j) :
    Ev (fun k => wire_places_lowest.f k (plc l r n) x) (gL b l r n) := by
  have hl := h.1
  refine Ev.congr (fun k => ?_) (front_loop h hs hb (l.length - 1) 1 x (by omega) (by omega) (by omega) hx (fun j hj => by
    obtain rfl : j = 0 := by omega
    rw [hxb 0 (by omega), fw]) (fun j hj hj2 => hxb j hj2))
  unfold wire_places_lowest.f slices_Clone_int_int.f
  simp only [Option.bind_some, List.nil_append, List.length_nil, Nat.zero_add]
  rw [if_pos (by omega)]
  rfl

/-- The lows of windows. -/
def loL (l : List S72) : List Int := (List.range l.length).map fun i => (wn l i).f1
theorem lows_loop {l : List S72} (hl : l.length ≤ 50) : ∀ (d i : Nat) (x : List Int), l.length - i = d → i ≤ l.length → x.length = i → (∀ j, j < i → rd x (j : Int) = (wn l j).f1) → Ev (fun k => wire_lows.l0 k x l l.length i) (loL l) := by
  intro d
  induction d with
  | zero =>
    intro i x hd hi hx h1
    obtain rfl : i = l.length := by omega
    refine ev_some _ fun k => ?_
    rw [wire_lows.l0, if_neg (by omega)]
    congr 1
    exact rd_ext hx h1
  | succ d ih =>
    intro i x hd hi hx h1
    have e := ih (i + 1) (x ++ [(wn l i).f1]) (by omega) (by omega) (by simp [hx]) (fun j hj => by
      by_cases q : j = i
      · subst q
        simp [rd, List.getD_eq_getElem?_getD, ← hx]
      · rw [← h1 j (by omega)]
        simp only [rd, List.getD_eq_getElem?_getD, Int.toNat_natCast]
        rw [List.getElem?_append_left (by omega)])
    refine Ev.step (fun k => ?_) e
    rw [wire_lows.l0, if_pos (by omega), if_pos (by omega), if_pos (by omega), if_pos (by omega), wsucc i (by omega)]
theorem lows_ev {l : List S72} (hl : l.length ≤ 50) : Ev (fun k => wire_lows.f k l) (loL l) := lows_loop hl l.length 0 [] (by omega) (by omega) rfl (by omega)
theorem loL_len (l : List S72) : (loL l).length = l.length := by simp [loL]
theorem rd_loL (l : List S72) {i : Nat} (h : i < l.length) : rd (loL l) (i : Int) = (wn l i).f1 := rd_map _ h

/-- Heights are nowhere above the windows. -/
def undr (l : List S72) (x : List Int) : Prop := ∀ i, i < l.length → rd x (i : Int) ≤ (wn l i).f2
open Classical in
theorem under_loop {l : List S72} (hl : l.length ≤ 50) {x : List Int} (hx : x.length = l.length) : ∀ (d i : Nat), l.length - i = d → i ≤ l.length → (∀ j, j < i → rd x (j : Int) ≤ (wn l j).f2) → Ev (fun k => wire_under.l0 k l x l.length i) (decide (undr l x)) := by
  intro d
  induction d with
  | zero =>
    intro i hd hi h1
    obtain rfl : i = l.length := by omega
    refine ev_some _ fun k => ?_
    rw [wire_under.l0, if_neg (by omega), decide_eq_true (show undr l x from h1)]
  | succ d ih =>
    intro i hd hi h1
    by_cases c : rd x (i : Int) ≤ (wn l i).f2
    · refine Ev.step (fun k => ?_) (ih (i + 1) (by omega) (by omega) (fun j hj => if q : j = i then q ▸ c else h1 j (by omega)))
      rw [wire_under.l0, if_pos (by omega), if_pos (by omega), if_pos (by omega), if_pos (by omega), if_neg (Int.not_lt.2 c), wsucc i (by omega)]
    · refine ev_some _ fun k => ?_
      rw [wire_under.l0, if_pos (by omega), if_pos (by omega), if_pos (by omega), if_pos (by omega), if_pos (Int.not_le.1 c), decide_eq_false (fun z => c (z i (by omega)))]
open Classical in
theorem under_ev {l : List S72} (hl : l.length ≤ 50) {x : List Int} (hx : x.length = l.length) : Ev (fun k => wire_under.f k l x) (decide (undr l x)) := by
  refine Ev.congr (fun k => ?_) (under_loop hl hx l.length 0 (by omega) (by omega) (by omega))
  unfold wire_under.f
  rw [hx]
  rfl
end Go.Proofs.Ytciepmpadcpkbaa.G
end
section
namespace Go.Proofs.Ytciepmpadcpkbaa.G
open Go.RowKit Go.Proofs.YtciepmpadcpkbaaW.PrintWords Go.Proofs.YtciepmpadcpkbaaW.PrintLast Go.Proofs.YtciepmpadcpkbaaW.PrintMore
attribute [local go_sem] max2_int min2_int max_two min_two max_three min_three max_four min_four   -- for this text's walks alone
set_option linter.unusedVariables false
set_option linter.unusedSimpArgs false

/-! ### dropperref02_clashes: function 55 -/
def dropperref02_clashes.f (k : Nat) (l0 : List (S72)) (a1 : Int) (a2 : Int) (a3 : Int) (a4 : Int) : Option (Bool) := if 0 ≤ a3 then (if a3 < (l0.length : Int) then (if 0 ≤ a4 then (if a4 < (l0.length : Int) then ((dropperref02_steps.f k l0 a1 a2 a3 a4).bind fun t103 => (some (decide (((rd_T72 l0 a3).f1) > (wrap64 (((rd_T72 l0 a4).f2) + t103)))))) else (none)) else (none)) else (none)) else (none)
theorem dropperref02_clashes.mono : ∀ a0 a1 a2 a3 a4 k, LeO (dropperref02_clashes.f k a0 a1 a2 a3 a4) (dropperref02_clashes.f (k + 1) a0 a1 a2 a3 a4) := by
  intro a0 a1 a2 a3 a4 k
  unfold dropperref02_clashes.f
  repeat' first
      | (with_reducible exact dropperref02_steps.mono _ _ _ _ _ _)
      | (with_reducible exact LeO.refl _)
      | (with_reducible exact LeO.none _)
      | (with_reducible refine LeO.ite ?_ ?_)
      | (with_reducible refine LeO.bind ?_ (fun _ => ?_))
      | exact dropperref02_steps.mono _ _ _ _ _ _
      | exact LeO.none _
      | refine LeO.ite ?_ ?_
      | refine LeO.bind ?_ (fun _ => ?_)
def dropperref02_clashes.T1 : Bool × List (List Nat × List Nat) := (true, [([], []), ([], []), ([0, 1], [0, 1]), ([2], [2]), ([3], [3]), ([], []), ([], []), ([5, 6], [5, 6]), ([7], [7]), ([8], [8]), ([], []), ([], []), ([], []), ([], []), ([], []), ([10, 11, 12, 13, 14], [10, 11, 12, 13, 14]), ([9, 15], [9, 15]), ([4, 16], [4, 16]), ([17, 15, 0, 1, 2, 3, 4, 5, 6, 7, 8, 9, 10, 11, 12, 13, 14, 15, 16, 17], [17])])
def dropperref02_clashes.B1 : List Nat := [0, 0, 3, 7, 15, 0, 0, 96, 224, 480, 0, 0, 0, 0, 0, 31744, 65504, 131071, 262143]
theorem dropperref02_clashes.tab1 : rtab .any (opsOf Try.f55 1) = dropperref02_clashes.T1 := by kernel_rfl
theorem dropperref02_clashes.bits1 : waitsOk dropperref02_clashes.T1.2 dropperref02_clashes.B1 = true := by kernel_rfl
set_option maxHeartbeats 8000000 in
set_option maxRecDepth 100000 in
theorem dropperref02_clashes.calls (k : Nat) (A0 : Option Addr) (c0 : Nat) (l0 : List (S72)) (a1 : Int) (a2 : Int) (a3 : Int) (a4 : Int) (r : Bool) (w : World) (hr0 : Kd.C k72 w A0 l0.length l0) (hc0 : l0.length ≤ c0) (h : dropperref02_clashes.f k l0 a1 a2 a3 a4 = some r) :
    Calls Try.prog 55 #[.slice A0 l0.length c0, .int .i64 a1, .int .i64 a2, .int .i64 a3, .int .i64 a4] w fun e w' => e = .returned (.bool r) ∧ Below w.heap.size w w' := by
  have HR0 := Aside0.mk hr0
  have HC0 := Aside0.mk hc0
  clear hr0 hc0
  have HB := Aside0.mk (Below.refl w.heap.size w)
  have H : (if 0 ≤ a3 then (if a3 < (l0.length : Int) then (if 0 ≤ a4 then (if a4 < (l0.length : Int) then ((dropperref02_steps.f k l0 a1 a2 a3 a4).bind fun t103 => (some (decide (((rd_T72 l0 a3).f1) > (wrap64 (((rd_T72 l0 a4).f2) + t103)))))) else (none)) else (none)) else (none)) else (none)) = some r := h
  clear h
  by_cases c6 : 0 ≤ a3
  rotate_left
  · rw [if_neg c6] at H
    exact absurd H (by simp)

  rw [if_pos c6] at H
  have c6b0 : decide (0 ≤ a3) = true := decide_eq_true c6
  clear c6
  by_cases c7 : a3 < (l0.length : Int)
  rotate_left
  · rw [if_neg c7] at H
    exact absurd H (by simp)
  rw [if_pos c7] at H
  have c7b0 : decide (a3 < (l0.length : Int)) = true := decide_eq_true c7
  clear c7
  by_cases c8 : 0 ≤ a4
  rotate_left
  · rw [if_neg c8] at H
    exact absurd H (by simp)
  rw [if_pos c8] at H
  have c8b0 : decide (0 ≤ a4) = true := decide_eq_true c8
  clear c8
  by_cases c9 : a4 < (l0.length : Int)
  rotate_left
  · rw [if_neg c9] at H
    exact absurd H (by simp)
  rw [if_pos c9] at H
  have c9b0 : decide (a4 < (l0.length : Int)) = true := decide_eq_true c9
  clear c9
  replace H := Option.bind_eq_some_iff.mp H
  obtain ⟨t103, A100, H⟩ := H
  replace H : (some (decide (((rd_T72 l0 a3).f1) > (wrap64 (((rd_T72 l0 a4).f2) + t103))))) = some r := H
  have A10 := Aside0.mk A100
  clear A100
  obtain rfl := Option.some.inj H
  go_enter Try.func55, Try.ntmps55
  try go_wp2
  have n0_ := Aside0.mk (below_drew1 HB.out)
  clear HB
  have HB := n0_
  clear n0_
  have p101 : 0 ≤ (a3 : Int) := of_decide_eq_true (by first | (with_reducible assumption) | assumption)
  have q101 : a3 < (l0.length : Int) := of_decide_eq_true (by first | (with_reducible assumption) | assumption)
  obtain ⟨ad101, e101, hx101_0, hx101_1, hx101_2⟩ := at_T72 HR0.out a3 p101 q101
  have hw101_2 := hx101_2
  have hw101_1 := hx101_1
  have hw101_0 := hx101_0
  cases e101
  replace hx101_0 := (HB.out.cell (World.block_lt_of_cell? w _ hx101_0)).trans hx101_0
  replace hx101_1 := (HB.out.cell (World.block_lt_of_cell? w _ hx101_1)).trans hx101_1
  replace hx101_2 := (HB.out.cell (World.block_lt_of_cell? w _ hx101_2)).trans hx101_2
  replace p101 := eq_true p101
  replace q101 := eq_true q101
  have p102 : 0 ≤ (a4 : Int) := of_decide_eq_true (by first | (with_reducible assumption) | assumption)
  have q102 : a4 < (l0.length : Int) := of_decide_eq_true (by first | (with_reducible assumption) | assumption)
  obtain ⟨ad102, e102, hx102_0, hx102_1, hx102_2⟩ := at_T72 HR0.out a4 p102 q102
  have hw102_2 := hx102_2
  have hw102_1 := hx102_1
  have hw102_0 := hx102_0
  obtain rfl : ad101 = ad102 := (by injection e102)
  replace hx102_0 := (HB.out.cell (World.block_lt_of_cell? w _ hx102_0)).trans hx102_0
  replace hx102_1 := (HB.out.cell (World.block_lt_of_cell? w _ hx102_1)).trans hx102_1
  replace hx102_2 := (HB.out.cell (World.block_lt_of_cell? w _ hx102_2)).trans hx102_2
  replace p102 := eq_true p102
  replace q102 := eq_true q102
  refine start_ (n := 19) (S := fun w' => w'.cell? (ad101.add ((a3).toNat * 3)) = some (.int .i64 ((rd_T72 l0 a3).f0)) ∧ w'.cell? ⟨(ad101.add ((a3).toNat * 3)).block, (ad101.add ((a3).toNat * 3)).off + 1, none⟩ = some (.int .i64 ((rd_T72 l0 a3).f1)) ∧ w'.cell? ⟨(ad101.add ((a3).toNat * 3)).block, (ad101.add ((a3).toNat * 3)).off + 2, none⟩ = some (.int .i64 ((rd_T72 l0 a3).f2)) ∧ w'.cell? (ad101.add ((a4).toNat * 3)) = some (.int .i64 ((rd_T72 l0 a4).f0)) ∧ w'.cell? ⟨(ad101.add ((a4).toNat * 3)).block, (ad101.add ((a4).toNat * 3)).off + 1, none⟩ = some (.int .i64 ((rd_T72 l0 a4).f1)) ∧ w'.cell? ⟨(ad101.add ((a4).toNat * 3)).block, (ad101.add ((a4).toNat * 3)).off + 2, none⟩ = some (.int .i64 ((rd_T72 l0 a4).f2))) (ds := []) (mkB 19 0) (by kernel_rfl) rfl rfl ⟨(pw_cell_below HB.out hw101_0), (pw_cell_below HB.out hw101_1), (pw_cell_below HB.out hw101_2), (pw_cell_below HB.out hw102_0), (pw_cell_below HB.out hw102_1), (pw_cell_below HB.out hw102_2)⟩ (fun hHeld => ?_); refine with_tabW dropperref02_clashes.tab1 dropperref02_clashes.bits1 (fun HT_ HW_ => ?_)
  generalize w.drew = w11 at HB hx101_0 hx101_1 hx101_2 hx102_0 hx102_1 hx102_2 hHeld ⊢
  refine pr_ 0 (some 11) (mkB 19 1) HT_ ?_
  refine pr_ 1 (some 12) (mkB 19 3) HT_ ?_
  refine pr_ 2 (some 13) (mkB 19 7) HT_ ?_
  refine pr_ 3 (some 14) (mkB 19 15) HT_ ?_
  refine pr_ 5 (some 16) (mkB 19 47) HT_ ?_
  refine pr_ 6 (some 17) (mkB 19 111) HT_ ?_
  refine pr_ 7 (some 18) (mkB 19 239) HT_ ?_
  refine pr_ 8 (some 19) (mkB 19 495) HT_ ?_
  refine pr_ 10 (some 21) (mkB 19 1519) HT_ ?_
  refine pr_ 11 (some 22) (mkB 19 3567) HT_ ?_
  refine pr_ 12 (some 23) (mkB 19 7663) HT_ ?_
  refine pr_ 13 (some 24) (mkB 19 15855) HT_ ?_
  refine pr_ 14 (some 25) (mkB 19 32239) HT_ ?_
  refine take_ (i := 4) (N := some 15) (v := ?_) (a' := ?_) (mkB 19 32255) rfl rfl (take_ofW HT_.out HW_.out (by kernel_rfl)) (fun _ _ _ h => h) (Or.inl ⟨by rfl, ?_⟩) hHeld ?_ ?_
  rotate_left
  · rintro w' ⟨s0, s1, s2, s3, s4, s5⟩
    go_simp
    with_reducible rfl
  rotate_left
  · simp only [Act.put, List.setIfInBounds_toArray, List.set_cons_zero, List.set_cons_succ, i64_w, i32_w]
    rfl
  refine take_ (i := 9) (N := some 20) (v := ?_) (a' := ?_) (mkB 19 32767) rfl rfl (take_ofW HT_.out HW_.out (by kernel_rfl)) (fun _ _ _ h => h) (Or.inl ⟨by rfl, ?_⟩) hHeld ?_ ?_
  rotate_left
  · rintro w' ⟨s0, s1, s2, s3, s4, s5⟩
    go_simp
    with_reducible rfl
  rotate_left
  · simp only [Act.put, List.setIfInBounds_toArray, List.set_cons_zero, List.set_cons_succ, i64_w, i32_w]
    rfl
  refine one_ (i := 15) (N := some 26) (mkB 19 65535) rfl rfl (one_of HT_.out (by kernel_rfl)) (by decide) (fun K hK => ?_)
  refine goes_ Try.func71 (by kernel_rfl) rfl #[.slice (some ad101) l0.length c0, .int .i64 a1, .int .i64 a2, .int .i64 a3, .int .i64 a4] (by rfl) rfl rfl (by (try simp only [List.map_toArray, List.map_cons, List.map_nil]); first | done | rfl | (simp only [List.length_drop, List.length_take]; rfl)) ?_
  with_reducible refine (dropperref02_steps.calls k _ _ l0 a1 a2 a3 a4 t103 _ ?side1 ?side2 A10.out).mono ?_
  (case side1 => repeat (first | exact (Kd.C_below HR0.out HB.out) | (with_reducible refine Kd.C_alloc ?_ _) | (with_reducible refine Kd.C_drewN ?_ _) | (with_reducible refine Kd.C_drew ?_)))
  (case side2 => exact HC0.out)
  rintro e w12 ⟨rfl, hb⟩
  refine ⟨_, rfl, ?_⟩
  have n0_ := Aside0.mk (below_step (by repeat (first | (with_reducible first | exact HB.out | apply below_alloc | apply pw_below_drewN | apply below_drew1) | exact HB.out)) hb)
  clear HB
  have HB := n0_
  clear n0_
  (try clear hb)
  (try clear hb2)
  (try clear hk)
  (try clear hi)
  refine hK.out _ _ ⟨(pw_cell_below HB.out hw101_0), (pw_cell_below HB.out hw101_1), (pw_cell_below HB.out hw101_2), (pw_cell_below HB.out hw102_0), (pw_cell_below HB.out hw102_1), (pw_cell_below HB.out hw102_2)⟩ (fun hHeld => ?_)
  clear hK K
  refine norm_ (a' := ?_) ?_ ?_
  rotate_left
  · show Act.put _ (some 26) _ = _
    simp only [Act.put, List.setIfInBounds_toArray, List.set_cons_zero, List.set_cons_succ, i64_w, i32_w]
    rfl
  refine pr_ 16 (some 27) (mkB 19 131071) HT_ ?_
  refine pr_ 17 (some 28) (mkB 19 262143) HT_ ?_
  refine pr_ 18 (some 10) (mkB 19 524287) HT_ ?_
  refine done_ (done_of HT_.out (by kernel_rfl)) ?_
  try go_wp2
  go_ret
  exact ⟨by first | rfl | (simp [errW_none, errW_some] <;> rfl) | (simp [*, errW_none, errW_some] <;> rfl), by repeat (first | (with_reducible first | exact HB.out | apply below_alloc | apply pw_below_drewN | apply below_drew1) | exact HB.out)⟩
end Go.Proofs.Ytciepmpadcpkbaa.G
end
section
namespace Go.Proofs.Ytciepmpadcpkbaa.G
open Go.RowKit Go.Proofs.YtciepmpadcpkbaaW.PrintWords Go.Proofs.YtciepmpadcpkbaaW.PrintLast Go.Proofs.YtciepmpadcpkbaaW.PrintMore
attribute [local go_sem] max2_int min2_int max_two min_two max_three min_three max_four min_four   -- for this text's walks alone
set_option linter.unusedVariables false
set_option linter.unusedSimpArgs false

/-! ### dropperref02_Clash: function 16 -/
mutual
def dropperref02_Clash.l0 : Nat → List (S72) → Int → Int → Int → Option (Int × Int × Int)
  | 0, _, _, _, _ => none
  | k + 1, x0, x1, x2, x10 => if x10 < (x0.length : Int) then (dropperref02_Clash.l1 k x0 x1 x2 x10 0) else (some (0, 0, 5))
def dropperref02_Clash.l1 : Nat → List (S72) → Int → Int → Int → Int → Option (Int × Int × Int)
  | 0, _, _, _, _, _ => none
  | k + 1, x0, x1, x2, x10, x11 => if x11 < (x0.length : Int) then ((dropperref02_clashes.f k x0 x1 x2 x10 x11).bind fun t102 => (if t102 = true then (some (x10, x11, 0)) else (dropperref02_Clash.l1 k x0 x1 x2 x10 (wrap64 (x11 + 1))))) else (dropperref02_Clash.l0 k x0 x1 x2 (wrap64 (x10 + 1)))
end
def dropperref02_Clash.f (k : Nat) (l0 : List (S72)) (a1 : Int) (a2 : Int) : Option (Int × Int × Int) := (dropperref02_asked.f k l0 a1 a2).bind fun t101 => (if t101 = 0 then (dropperref02_Clash.l0 k l0 a1 a2 0) else (some (0, 0, t101)))
theorem dropperref02_Clash.mono_l : ∀ k, (∀ y0 y1 y2 y3, LeO (dropperref02_Clash.l0 k y0 y1 y2 y3) (dropperref02_Clash.l0 (k + 1) y0 y1 y2 y3)) ∧ (∀ y0 y1 y2 y3 y4, LeO (dropperref02_Clash.l1 k y0 y1 y2 y3 y4) (dropperref02_Clash.l1 (k + 1) y0 y1 y2 y3 y4))
  | 0 => ⟨fun _ _ _ _ r h => by simp [dropperref02_Clash.l0] at h, fun _ _ _ _ _ r h => by simp [dropperref02_Clash.l1] at h⟩
  | k + 1 => by
    obtain ⟨ih0, ih1⟩ := dropperref02_Clash.mono_l k
    refine ⟨?_, ?_⟩
    · intro y0 y1 y2 y3
      unfold dropperref02_Clash.l0
      repeat' first
      | (with_reducible exact ih0 _ _ _ _)
      | (with_reducible exact ih1 _ _ _ _ _)
      | (with_reducible exact dropperref02_asked.mono _ _ _ _)
      | (with_reducible exact dropperref02_clashes.mono _ _ _ _ _ _)
      | (with_reducible exact LeO.refl _)
      | (with_reducible exact LeO.none _)
      | (with_reducible refine LeO.ite ?_ ?_)
      | (with_reducible refine LeO.bind ?_ (fun _ => ?_))
      | exact ih0 _ _ _ _
      | exact ih1 _ _ _ _ _
      | exact dropperref02_asked.mono _ _ _ _
      | exact dropperref02_clashes.mono _ _ _ _ _ _
      | exact LeO.none _
      | refine LeO.ite ?_ ?_
      | refine LeO.bind ?_ (fun _ => ?_)
    · intro y0 y1 y2 y3 y4
      unfold dropperref02_Clash.l1
      repeat' first
      | (with_reducible exact ih0 _ _ _ _)
      | (with_reducible exact ih1 _ _ _ _ _)
      | (with_reducible exact dropperref02_asked.mono _ _ _ _)
      | (with_reducible exact dropperref02_clashes.mono _ _ _ _ _ _)
      | (with_reducible exact LeO.refl _)
      | (with_reducible exact LeO.none _)
      | (with_reducible refine LeO.ite ?_ ?_)
      | (with_reducible refine LeO.bind ?_ (fun _ => ?_))
      | exact ih0 _ _ _ _
      | exact ih1 _ _ _ _ _
      | exact dropperref02_asked.mono _ _ _ _
      | exact dropperref02_clashes.mono _ _ _ _ _ _
      | exact LeO.none _
      | refine LeO.ite ?_ ?_
      | refine LeO.bind ?_ (fun _ => ?_)
theorem dropperref02_Clash.mono : ∀ a0 a1 a2 k, LeO (dropperref02_Clash.f k a0 a1 a2) (dropperref02_Clash.f (k + 1) a0 a1 a2) := by
  intro a0 a1 a2 k
  obtain ⟨ih0, ih1⟩ := dropperref02_Clash.mono_l k
  unfold dropperref02_Clash.f
  repeat' first
      | (with_reducible exact ih0 _ _ _ _)
      | (with_reducible exact ih1 _ _ _ _ _)
      | (with_reducible exact dropperref02_asked.mono _ _ _ _)
      | (with_reducible exact dropperref02_clashes.mono _ _ _ _ _ _)
      | (with_reducible exact LeO.refl _)
      | (with_reducible exact LeO.none _)
      | (with_reducible refine LeO.ite ?_ ?_)
      | (with_reducible refine LeO.bind ?_ (fun _ => ?_))
      | exact ih0 _ _ _ _
      | exact ih1 _ _ _ _ _
      | exact dropperref02_asked.mono _ _ _ _
      | exact dropperref02_clashes.mono _ _ _ _ _ _
      | exact LeO.none _
      | refine LeO.ite ?_ ?_
      | refine LeO.bind ?_ (fun _ => ?_)
set_option maxHeartbeats 8000000 in
set_option maxRecDepth 100000 in
theorem dropperref02_Clash.calls (k : Nat) (A0 : Option Addr) (c0 : Nat) (l0 : List (S72)) (a1 : Int) (a2 : Int) (r1 : Int) (r2 : Int) (r3 : Int) (w : World) (hr0 : Kd.C k72 w A0 l0.length l0) (hc0 : l0.length ≤ c0) (h : dropperref02_Clash.f k l0 a1 a2 = some (r1, r2, r3)) :
    Calls Try.prog 16 #[.slice A0 l0.length c0, .int .i64 a1, .int .i64 a2] w fun e w' => e = .returned (.tuple #[.int .i64 r1, .int .i64 r2, .int .i64 r3]) ∧ Below w.heap.size w w' := by
  have HR0 := Aside0.mk hr0
  have HC0 := Aside0.mk hc0
  clear hr0 hc0
  have HB := Aside0.mk (Below.refl w.heap.size w)
  have H : ((dropperref02_asked.f k l0 a1 a2).bind fun t101 => (if t101 = 0 then (dropperref02_Clash.l0 k l0 a1 a2 0) else (some (0, 0, t101)))) = some (r1, r2, r3) := h
  clear h
  replace H := Option.bind_eq_some_iff.mp H
  obtain ⟨t101, A40, H⟩ := H
  replace H : (if t101 = 0 then (dropperref02_Clash.l0 k l0 a1 a2 0) else (some (0, 0, t101))) = some (r1, r2, r3) := H
  have A4 := Aside0.mk A40
  clear A40
  by_cases c5 : t101 = 0
  rotate_left
  · rw [if_neg c5] at H
    have c5b0 : (t101 == 0) = false := beq_eq_false_iff_ne.mpr c5
    have c5b1 : (t101 != 0) = true := bne_iff_ne.mpr c5
    simp only [Option.some.injEq, Prod.mk.injEq] at H
    obtain ⟨rfl, rfl, rfl⟩ := H
    go_enter Try.func16, Try.ntmps16
    go_wp2_with (first | ((with_reducible refine gate_callee (f := 54) rfl ?_); refine goesL_ (some 15) rfl rfl Try.func54 (by kernel_rfl) rfl #[.slice A0 l0.length c0, .int .i64 a1, .int .i64 a2] rfl (by (try simp only [List.map_toArray, List.map_cons, List.map_nil]); first | done | rfl | (simp only [List.length_drop, List.length_take]; rfl)) ?_; (with_reducible refine (dropperref02_asked.calls k _ _ l0 a1 a2 t101 _ ?side1 ?side2 A4.out).mono ?_); (case side1 => repeat (first | exact HR0.out | (with_reducible refine Kd.C_alloc ?_ _) | (with_reducible refine Kd.C_drewN ?_ _) | (with_reducible refine Kd.C_drew ?_))); (case side2 => exact HC0.out); rintro e w13 ⟨rfl, hb⟩; refine ⟨_, rfl, ?_⟩; have n0_ := Aside0.mk (below_step (by repeat (first | (with_reducible first | exact HB.out | apply below_alloc | apply pw_below_drewN | apply below_drew1) | exact HB.out)) hb); clear HB; have HB := n0_; clear n0_; (try clear hb); (try clear hb2); (try clear hk); (try clear hi)))
    go_ret3
    exact ⟨by first | rfl | (simp [errW_none, errW_some] <;> rfl) | (simp [*, errW_none, errW_some] <;> rfl), by repeat (first | (with_reducible first | exact HB.out | apply below_alloc | apply pw_below_drewN | apply below_drew1) | exact HB.out)⟩

  rw [if_pos c5] at H
  have c5b0 : (t101 == 0) = true := beq_iff_eq.mpr c5
  have c5b1 : (t101 != 0) = false := bne_eq_false_iff_eq.mpr c5
  clear c5
  have H' := Aside0.mk H
  clear H
  go_enter Try.func16, Try.ntmps16
  go_wp2_with (first | ((with_reducible refine gate_callee (f := 54) rfl ?_); refine goesL_ (some 15) rfl rfl Try.func54 (by kernel_rfl) rfl #[.slice A0 l0.length c0, .int .i64 a1, .int .i64 a2] rfl (by (try simp only [List.map_toArray, List.map_cons, List.map_nil]); first | done | rfl | (simp only [List.length_drop, List.length_take]; rfl)) ?_; (with_reducible refine (dropperref02_asked.calls k _ _ l0 a1 a2 t101 _ ?side1 ?side2 A4.out).mono ?_); (case side1 => repeat (first | exact HR0.out | (with_reducible refine Kd.C_alloc ?_ _) | (with_reducible refine Kd.C_drewN ?_ _) | (with_reducible refine Kd.C_drew ?_))); (case side2 => exact HC0.out); rintro e w6 ⟨rfl, hb⟩; refine ⟨_, rfl, ?_⟩; have n0_ := Aside0.mk (below_step (by repeat (first | (with_reducible first | exact HB.out | apply below_alloc | apply pw_below_drewN | apply below_drew1) | exact HB.out)) hb); clear HB; have HB := n0_; clear n0_; (try clear hb); (try clear hb2); (try clear hk); (try clear hi)))
  go_loopg [10] k (fun kq v10 w' => ∃ (x10_1 : Int), v10 = .int .i64 x10_1 ∧ Aside0 (dropperref02_Clash.l0 kq l0 a1 a2 x10_1 = some (r1, r2, r3)) ∧ Aside0 (kq ≤ k) ∧ Aside0 (Below w.heap.size w w'))
  case atStart => exact ⟨(0), (by first | rfl | (simp; done) | (simp [*]; done)), H', ⟨Nat.le_refl _⟩, ⟨by repeat (first | (with_reducible first | exact HB.out | apply below_alloc | apply pw_below_drewN | apply below_drew1) | exact HB.out)⟩⟩
  case round =>
    clear H'
    try clear c1
    try clear p2
    try clear c5
    try clear c5b0
    try clear c5b1
    obtain ⟨x10_1, rfl, HA, HK1, HB⟩ := hrel
    cases gk with
    | zero => exact absurd HA.out (by simp [dropperref02_Clash.l0])
    | succ k1 =>
      have H := HA.out
      clear HA
      simp only [dropperref02_Clash.l0] at H
      by_cases c7 : x10_1 < (l0.length : Int)
      rotate_left
      · rw [if_neg c7] at H
        have c7b0 : decide (x10_1 < (l0.length : Int)) = false := decide_eq_false c7
        clear c7
        simp only [Option.some.injEq, Prod.mk.injEq] at H
        obtain ⟨rfl, rfl, rfl⟩ := H
        go_wp2
        go_ret3
        exact ⟨by first | rfl | (simp [errW_none, errW_some] <;> rfl) | (simp [*, errW_none, errW_some] <;> rfl), by repeat (first | (with_reducible first | exact HB.out | apply below_alloc | apply pw_below_drewN | apply below_drew1) | exact HB.out)⟩
      rw [if_pos c7] at H
      have c7b0 : decide (x10_1 < (l0.length : Int)) = true := decide_eq_true c7
      clear c7
      have H' := Aside0.mk H
      clear H
      go_wp2
      go_loopg [11] k1 (fun kq v11 w' => ∃ (x11_2 : Int), v11 = .int .i64 x11_2 ∧ Aside0 (dropperref02_Clash.l1 kq l0 a1 a2 x10_1 x11_2 = some (r1, r2, r3)) ∧ Aside0 (kq ≤ k1) ∧ Aside0 (Below w.heap.size w w'))
      case atStart => exact ⟨(0), (by first | rfl | (simp; done) | (simp [*]; done)), H', ⟨Nat.le_refl _⟩, ⟨by repeat (first | (with_reducible first | exact HB.out | apply below_alloc | apply pw_below_drewN | apply below_drew1) | exact HB.out)⟩⟩
      case round =>
        clear H'
        try clear c1
        try clear p2
        try clear c5
        try clear c5b0
        try clear c5b1
        try clear c7
        try clear c7b0
        try clear p2
        obtain ⟨x11_2, rfl, HA, HK2, HB⟩ := hrel
        cases gk with
        | zero => exact absurd HA.out (by simp [dropperref02_Clash.l1])
        | succ k2 =>
          have H := HA.out
          clear HA
          simp only [dropperref02_Clash.l1] at H
          by_cases c8 : x11_2 < (l0.length : Int)
          rotate_left
          · rw [if_neg c8] at H
            have c8b0 : decide (x11_2 < (l0.length : Int)) = false := decide_eq_false c8
            clear c8
            have H' := Aside0.mk H
            clear H
            go_wp2
            go_roundg k2
            case measure => have := HK1.out; have := HK2.out; omega
            case rel => exact ⟨(wrap64 (x10_1 + 1)), (by first | rfl | (simp; done) | (simp [*]; done)), H', ⟨by have := HK1.out; have := HK2.out; omega⟩, ⟨by repeat (first | (with_reducible first | exact HB.out | apply below_alloc | apply pw_below_drewN | apply below_drew1) | exact HB.out)⟩⟩
          rw [if_pos c8] at H
          have c8b0 : decide (x11_2 < (l0.length : Int)) = true := decide_eq_true c8
          clear c8
          replace H := Option.bind_eq_some_iff.mp H
          obtain ⟨t102, A90, H⟩ := H
          replace H : (if t102 = true then (some (x10_1, x11_2, 0)) else (dropperref02_Clash.l1 k2 l0 a1 a2 x10_1 (wrap64 (x11_2 + 1)))) = some (r1, r2, r3) := H
          have A9 := Aside0.mk A90
          clear A90
          by_cases c10 : t102 = true
          · subst c10
            have H1 : (some (x10_1, x11_2, 0)) = some (r1, r2, r3) := by rw [if_pos rfl] at H; exact H
            clear H
            have H := H1
            clear H1
            simp only [Option.some.injEq, Prod.mk.injEq] at H
            obtain ⟨rfl, rfl, rfl⟩ := H
            go_wp2_with (first | ((with_reducible refine gate_callee (f := 55) rfl ?_); refine goesL_ (some 36) rfl rfl Try.func55 (by kernel_rfl) rfl #[.slice A0 l0.length c0, .int .i64 a1, .int .i64 a2, .int .i64 x10_1, .int .i64 x11_2] rfl (by (try simp only [List.map_toArray, List.map_cons, List.map_nil]); first | done | rfl | (simp only [List.length_drop, List.length_take]; rfl)) ?_; (with_reducible refine (dropperref02_clashes.calls k2 _ _ l0 a1 a2 x10_1 x11_2 true _ ?side1 ?side2 A9.out).mono ?_); (case side1 => repeat (first | exact (Kd.C_below HR0.out HB.out) | (with_reducible refine Kd.C_alloc ?_ _) | (with_reducible refine Kd.C_drewN ?_ _) | (with_reducible refine Kd.C_drew ?_))); (case side2 => exact HC0.out); rintro e w11 ⟨rfl, hb⟩; refine ⟨_, rfl, ?_⟩; have n0_ := Aside0.mk (below_step (by repeat (first | (with_reducible first | exact HB.out | apply below_alloc | apply pw_below_drewN | apply below_drew1) | exact HB.out)) hb); clear HB; have HB := n0_; clear n0_; (try clear hb); (try clear hb2); (try clear hk); (try clear hi)))
            go_ret3
            exact ⟨by first | rfl | (simp [errW_none, errW_some] <;> rfl) | (simp [*, errW_none, errW_some] <;> rfl), by repeat (first | (with_reducible first | exact HB.out | apply below_alloc | apply pw_below_drewN | apply below_drew1) | exact HB.out)⟩
          replace c10 := Bool.eq_false_iff.mpr c10
          subst c10
          have H1 : (dropperref02_Clash.l1 k2 l0 a1 a2 x10_1 (wrap64 (x11_2 + 1))) = some (r1, r2, r3) := by rw [if_neg (show ¬ (false = true) by decide)] at H; exact H
          clear H
          have H := H1
          clear H1
          have H' := Aside0.mk H
          clear H
          go_wp2_with (first | ((with_reducible refine gate_callee (f := 55) rfl ?_); refine goesL_ (some 36) rfl rfl Try.func55 (by kernel_rfl) rfl #[.slice A0 l0.length c0, .int .i64 a1, .int .i64 a2, .int .i64 x10_1, .int .i64 x11_2] rfl (by (try simp only [List.map_toArray, List.map_cons, List.map_nil]); first | done | rfl | (simp only [List.length_drop, List.length_take]; rfl)) ?_; (with_reducible refine (dropperref02_clashes.calls k2 _ _ l0 a1 a2 x10_1 x11_2 false _ ?side1 ?side2 A9.out).mono ?_); (case side1 => repeat (first | exact (Kd.C_below HR0.out HB.out) | (with_reducible refine Kd.C_alloc ?_ _) | (with_reducible refine Kd.C_drewN ?_ _) | (with_reducible refine Kd.C_drew ?_))); (case side2 => exact HC0.out); rintro e w12 ⟨rfl, hb⟩; refine ⟨_, rfl, ?_⟩; have n0_ := Aside0.mk (below_step (by repeat (first | (with_reducible first | exact HB.out | apply below_alloc | apply pw_below_drewN | apply below_drew1) | exact HB.out)) hb); clear HB; have HB := n0_; clear n0_; (try clear hb); (try clear hb2); (try clear hk); (try clear hi)))
          go_roundg k2
          case measure => have := HK1.out; have := HK2.out; omega
          case rel => exact ⟨(wrap64 (x11_2 + 1)), (by first | rfl | (simp; done) | (simp [*]; done)), H', ⟨by have := HK1.out; have := HK2.out; omega⟩, ⟨by repeat (first | (with_reducible first | exact HB.out | apply below_alloc | apply pw_below_drewN | apply below_drew1) | exact HB.out)⟩⟩
end Go.Proofs.Ytciepmpadcpkbaa.G
end
section
namespace Go.Proofs.Ytciepmpadcpkbaa.G
open Go.RowKit Go.Proofs.YtciepmpadcpkbaaW.PrintWords Go.Proofs.YtciepmpadcpkbaaW.PrintLast Go.Proofs.YtciepmpadcpkbaaW.PrintMore
attribute [local go_sem] max2_int min2_int max_two min_two max_three min_three max_four min_four   -- for this text's walks alone
set_option linter.unusedVariables false
set_option linter.unusedSimpArgs false

/-! ### wire_Clashes: function 17 -/
def wire_Clashes.f (k : Nat) (l0 : List (S72)) (a1 : Int) (a2 : Int) (a3 : Int) (a4 : Int) : Option (Bool × Int) := (wire_asked.f k l0 a1 a2).bind fun bt101 => (if bt101.2 = 0 then ((wire_within.f 0 a3 (wrap64 ((l0.length : Int) - 1))).bind fun t105 => (if t105 = true then ((wire_within.f 0 a4 (wrap64 ((l0.length : Int) - 1))).bind fun t106 => (if t106 = true then (if 0 ≤ a3 then (if a3 < (l0.length : Int) then (if 0 ≤ a4 then (if a4 < (l0.length : Int) then ((wire_places_to.f bt101.1 a3 a4).bind fun t109 => (some (decide (((rd_T72 l0 a3).f1) > (wrap64 (((rd_T72 l0 a4).f2) + t109))), 0))) else (none)) else (none)) else (none)) else (none)) else (some (false, 2)))) else (some (false, 2)))) else (some (false, bt101.2)))
theorem wire_Clashes.mono : ∀ a0 a1 a2 a3 a4 k, LeO (wire_Clashes.f k a0 a1 a2 a3 a4) (wire_Clashes.f (k + 1) a0 a1 a2 a3 a4) := by
  intro a0 a1 a2 a3 a4 k
  unfold wire_Clashes.f
  repeat' first
      | (with_reducible exact wire_asked.mono _ _ _ _)
      | (with_reducible exact LeO.refl _)
      | (with_reducible exact LeO.none _)
      | (with_reducible refine LeO.ite ?_ ?_)
      | (with_reducible refine LeO.bind ?_ (fun _ => ?_))
      | exact wire_asked.mono _ _ _ _
      | exact LeO.none _
      | refine LeO.ite ?_ ?_
      | refine LeO.bind ?_ (fun _ => ?_)
def wire_Clashes.T6 : Bool × List (List Nat × List Nat) := (true, [([], []), ([], []), ([0, 1], [0, 1]), ([2], [2]), ([3], [3]), ([], []), ([], []), ([5, 6], [5, 6]), ([7], [7]), ([8], [8]), ([], []), ([], []), ([], []), ([10, 11, 12], [10, 11, 12]), ([9, 13], [9, 13]), ([4, 14], [4, 14]), ([15, 13, 0, 1, 2, 3, 4, 5, 6, 7, 8, 9, 10, 11, 12, 13, 14, 15], [15]), ([16, 0, 1, 2, 3, 4, 5, 6, 7, 8, 9, 10, 11, 12, 13, 14, 15, 16], [])])
def wire_Clashes.B6 : List Nat := [0, 0, 3, 7, 15, 0, 0, 96, 224, 480, 0, 0, 0, 7168, 16352, 32767, 65535, 131071]
theorem wire_Clashes.tab6 : rtab .any (opsOf Try.f17 6) = wire_Clashes.T6 := by kernel_rfl
theorem wire_Clashes.bits6 : waitsOk wire_Clashes.T6.2 wire_Clashes.B6 = true := by kernel_rfl
set_option maxHeartbeats 8000000 in
set_option maxRecDepth 100000 in
theorem wire_Clashes.calls (k : Nat) (A0 : Option Addr) (c0 : Nat) (l0 : List (S72)) (a1 : Int) (a2 : Int) (a3 : Int) (a4 : Int) (r1 : Bool) (r2 : Int) (w : World) (hr0 : Kd.C k72 w A0 l0.length l0) (hc0 : l0.length ≤ c0) (h : wire_Clashes.f k l0 a1 a2 a3 a4 = some (r1, r2)) :
    Calls Try.prog 17 #[.slice A0 l0.length c0, .int .i64 a1, .int .i64 a2, .int .i64 a3, .int .i64 a4] w fun e w' => e = .returned (.tuple #[.bool r1, .int .i64 r2]) ∧ Below w.heap.size w w' := by
  have HR0 := Aside0.mk hr0
  have HC0 := Aside0.mk hc0
  clear hr0 hc0
  have HB := Aside0.mk (Below.refl w.heap.size w)
  have H : ((wire_asked.f k l0 a1 a2).bind fun bt101 => (if bt101.2 = 0 then ((wire_within.f 0 a3 (wrap64 ((l0.length : Int) - 1))).bind fun t105 => (if t105 = true then ((wire_within.f 0 a4 (wrap64 ((l0.length : Int) - 1))).bind fun t106 => (if t106 = true then (if 0 ≤ a3 then (if a3 < (l0.length : Int) then (if 0 ≤ a4 then (if a4 < (l0.length : Int) then ((wire_places_to.f bt101.1 a3 a4).bind fun t109 => (some (decide (((rd_T72 l0 a3).f1) > (wrap64 (((rd_T72 l0 a4).f2) + t109))), 0))) else (none)) else (none)) else (none)) else (none)) else (some (false, 2)))) else (some (false, 2)))) else (some (false, bt101.2)))) = some (r1, r2) := h
  clear h
  replace H := Option.bind_eq_some_iff.mp H
  obtain ⟨⟨t101, t102⟩, A60, H⟩ := H
  replace H : (if t102 = 0 then ((wire_within.f 0 a3 (wrap64 ((l0.length : Int) - 1))).bind fun t105 => (if t105 = true then ((wire_within.f 0 a4 (wrap64 ((l0.length : Int) - 1))).bind fun t106 => (if t106 = true then (if 0 ≤ a3 then (if a3 < (l0.length : Int) then (if 0 ≤ a4 then (if a4 < (l0.length : Int) then ((wire_places_to.f t101 a3 a4).bind fun t109 => (some (decide (((rd_T72 l0 a3).f1) > (wrap64 (((rd_T72 l0 a4).f2) + t109))), 0))) else (none)) else (none)) else (none)) else (none)) else (some (false, 2)))) else (some (false, 2)))) else (some (false, t102))) = some (r1, r2) := H
  have A6 := Aside0.mk A60
  clear A60
  by_cases c7 : t102 = 0
  rotate_left
  · rw [if_neg c7] at H
    have c7b0 : (t102 == 0) = false := beq_eq_false_iff_ne.mpr c7
    have c7b1 : (t102 != 0) = true := bne_iff_ne.mpr c7
    simp only [Option.some.injEq, Prod.mk.injEq] at H
    obtain ⟨rfl, rfl⟩ := H
    go_enter Try.func17, Try.ntmps17
    go_wp2_with (first | ((with_reducible refine gate_callee (f := 50) rfl ?_); refine goesL_ (some 18) rfl rfl Try.func50 (by kernel_rfl) rfl #[.slice A0 l0.length c0, .int .i64 a1, .int .i64 a2] rfl (by (try simp only [List.map_toArray, List.map_cons, List.map_nil]); first | done | rfl | (simp only [List.length_drop, List.length_take]; rfl)) ?_; (with_reducible refine (wire_asked.calls k _ _ l0 a1 a2 t101 t102 _ ?side1 ?side2 A6.out).mono ?_); (case side1 => repeat (first | exact HR0.out | (with_reducible refine Kd.C_alloc ?_ _) | (with_reducible refine Kd.C_drewN ?_ _) | (with_reducible refine Kd.C_drew ?_))); (case side2 => exact HC0.out); rintro e w23 ⟨v103, rfl, ho0, hb⟩; refine ⟨_, rfl, ?_⟩; have n0_ := Aside0.mk (Kd.R_lower ho0 (below_size (by repeat (first | (with_reducible first | exact HB.out | apply below_alloc | apply pw_below_drewN | apply below_drew1) | exact HB.out)))); have n1_ := Aside0.mk (below_step (by repeat (first | (with_reducible first | exact HB.out | apply below_alloc | apply pw_below_drewN | apply below_drew1) | exact HB.out)) hb); clear HB; have HO104 := n0_; have HB := n1_; clear n0_ n1_; (try clear hb); (try clear hb2); (try clear hk); (try clear hi); (try clear ho0)))
    go_ret2
    exact ⟨by first | rfl | (simp [errW_none, errW_some] <;> rfl) | (simp [*, errW_none, errW_some] <;> rfl), by repeat (first | (with_reducible first | exact HB.out | apply below_alloc | apply pw_below_drewN | apply below_drew1) | exact HB.out)⟩

  rw [if_pos c7] at H
  have c7b0 : (t102 == 0) = true := beq_iff_eq.mpr c7
  have c7b1 : (t102 != 0) = false := bne_eq_false_iff_eq.mpr c7
  clear c7
  replace H := Option.bind_eq_some_iff.mp H
  obtain ⟨t105, A80, H⟩ := H
  replace H : (if t105 = true then ((wire_within.f 0 a4 (wrap64 ((l0.length : Int) - 1))).bind fun t106 => (if t106 = true then (if 0 ≤ a3 then (if a3 < (l0.length : Int) then (if 0 ≤ a4 then (if a4 < (l0.length : Int) then ((wire_places_to.f t101 a3 a4).bind fun t109 => (some (decide (((rd_T72 l0 a3).f1) > (wrap64 (((rd_T72 l0 a4).f2) + t109))), 0))) else (none)) else (none)) else (none)) else (none)) else (some (false, 2)))) else (some (false, 2))) = some (r1, r2) := H
  have A8 := Aside0.mk A80
  clear A80
  by_cases c9 : t105 = true
  rotate_left
  · replace c9 := Bool.eq_false_iff.mpr c9
    subst c9
    have H1 : (some (false, 2)) = some (r1, r2) := by rw [if_neg (show ¬ (false = true) by decide)] at H; exact H
    clear H
    have H := H1
    clear H1
    simp only [Option.some.injEq, Prod.mk.injEq] at H
    obtain ⟨rfl, rfl⟩ := H
    go_enter Try.func17, Try.ntmps17
    go_wp2_with (first | ((with_reducible refine gate_callee (f := 50) rfl ?_); refine goesL_ (some 18) rfl rfl Try.func50 (by kernel_rfl) rfl #[.slice A0 l0.length c0, .int .i64 a1, .int .i64 a2] rfl (by (try simp only [List.map_toArray, List.map_cons, List.map_nil]); first | done | rfl | (simp only [List.length_drop, List.length_take]; rfl)) ?_; (with_reducible refine (wire_asked.calls k _ _ l0 a1 a2 t101 t102 _ ?side1 ?side2 A6.out).mono ?_); (case side1 => repeat (first | exact HR0.out | (with_reducible refine Kd.C_alloc ?_ _) | (with_reducible refine Kd.C_drewN ?_ _) | (with_reducible refine Kd.C_drew ?_))); (case side2 => exact HC0.out); rintro e w22 ⟨v103, rfl, ho0, hb⟩; refine ⟨_, rfl, ?_⟩; have n0_ := Aside0.mk (Kd.R_lower ho0 (below_size (by repeat (first | (with_reducible first | exact HB.out | apply below_alloc | apply pw_below_drewN | apply below_drew1) | exact HB.out)))); have n1_ := Aside0.mk (below_step (by repeat (first | (with_reducible first | exact HB.out | apply below_alloc | apply pw_below_drewN | apply below_drew1) | exact HB.out)) hb); clear HB; have HO104 := n0_; have HB := n1_; clear n0_ n1_; (try clear hb); (try clear hb2); (try clear hk); (try clear hi); (try clear ho0)) | ((with_reducible refine gate_callee (f := 56) rfl ?_); refine goesL_ (some 30) rfl rfl Try.func56 (by kernel_rfl) rfl #[.int .i64 0, .int .i64 a3, .int .i64 (wrap64 ((l0.length : Int) - 1))] rfl (by (try simp only [List.map_toArray, List.map_cons, List.map_nil]); first | done | rfl | (simp only [List.length_drop, List.length_take]; rfl)) ?_; (with_reducible refine (wire_within.calls 0 a3 (wrap64 ((l0.length : Int) - 1)) false _ A8.out).mono ?_); rintro e w' ⟨rfl, ⟨nd, rfl⟩⟩; refine ⟨_, rfl, ?_⟩))
    go_ret2
    exact ⟨by first | rfl | (simp [errW_none, errW_some] <;> rfl) | (simp [*, errW_none, errW_some] <;> rfl), by repeat (first | (with_reducible first | exact HB.out | apply below_alloc | apply pw_below_drewN | apply below_drew1) | exact HB.out)⟩
  subst c9
  have H1 : ((wire_within.f 0 a4 (wrap64 ((l0.length : Int) - 1))).bind fun t106 => (if t106 = true then (if 0 ≤ a3 then (if a3 < (l0.length : Int) then (if 0 ≤ a4 then (if a4 < (l0.length : Int) then ((wire_places_to.f t101 a3 a4).bind fun t109 => (some (decide (((rd_T72 l0 a3).f1) > (wrap64 (((rd_T72 l0 a4).f2) + t109))), 0))) else (none)) else (none)) else (none)) else (none)) else (some (false, 2)))) = some (r1, r2) := by rw [if_pos rfl] at H; exact H
  clear H
  have H := H1
  clear H1
  replace H := Option.bind_eq_some_iff.mp H
  obtain ⟨t106, A100, H⟩ := H
  replace H : (if t106 = true then (if 0 ≤ a3 then (if a3 < (l0.length : Int) then (if 0 ≤ a4 then (if a4 < (l0.length : Int) then ((wire_places_to.f t101 a3 a4).bind fun t109 => (some (decide (((rd_T72 l0 a3).f1) > (wrap64 (((rd_T72 l0 a4).f2) + t109))), 0))) else (none)) else (none)) else (none)) else (none)) else (some (false, 2))) = some (r1, r2) := H
  have A10 := Aside0.mk A100
  clear A100
  by_cases c11 : t106 = true
  rotate_left
  · replace c11 := Bool.eq_false_iff.mpr c11
    subst c11
    have H1 : (some (false, 2)) = some (r1, r2) := by rw [if_neg (show ¬ (false = true) by decide)] at H; exact H
    clear H
    have H := H1
    clear H1
    simp only [Option.some.injEq, Prod.mk.injEq] at H
    obtain ⟨rfl, rfl⟩ := H
    go_enter Try.func17, Try.ntmps17
    go_wp2_with (first | ((with_reducible refine gate_callee (f := 50) rfl ?_); refine goesL_ (some 18) rfl rfl Try.func50 (by kernel_rfl) rfl #[.slice A0 l0.length c0, .int .i64 a1, .int .i64 a2] rfl (by (try simp only [List.map_toArray, List.map_cons, List.map_nil]); first | done | rfl | (simp only [List.length_drop, List.length_take]; rfl)) ?_; (with_reducible refine (wire_asked.calls k _ _ l0 a1 a2 t101 t102 _ ?side1 ?side2 A6.out).mono ?_); (case side1 => repeat (first | exact HR0.out | (with_reducible refine Kd.C_alloc ?_ _) | (with_reducible refine Kd.C_drewN ?_ _) | (with_reducible refine Kd.C_drew ?_))); (case side2 => exact HC0.out); rintro e w21 ⟨v103, rfl, ho0, hb⟩; refine ⟨_, rfl, ?_⟩; have n0_ := Aside0.mk (Kd.R_lower ho0 (below_size (by repeat (first | (with_reducible first | exact HB.out | apply below_alloc | apply pw_below_drewN | apply below_drew1) | exact HB.out)))); have n1_ := Aside0.mk (below_step (by repeat (first | (with_reducible first | exact HB.out | apply below_alloc | apply pw_below_drewN | apply below_drew1) | exact HB.out)) hb); clear HB; have HO104 := n0_; have HB := n1_; clear n0_ n1_; (try clear hb); (try clear hb2); (try clear hk); (try clear hi); (try clear ho0)) | ((with_reducible refine gate_callee (f := 56) rfl ?_); refine goesL_ (some 30) rfl rfl Try.func56 (by kernel_rfl) rfl #[.int .i64 0, .int .i64 a3, .int .i64 (wrap64 ((l0.length : Int) - 1))] rfl (by (try simp only [List.map_toArray, List.map_cons, List.map_nil]); first | done | rfl | (simp only [List.length_drop, List.length_take]; rfl)) ?_; (with_reducible refine (wire_within.calls 0 a3 (wrap64 ((l0.length : Int) - 1)) true _ A8.out).mono ?_); rintro e w' ⟨rfl, ⟨nd, rfl⟩⟩; refine ⟨_, rfl, ?_⟩) | (go_at_call 56; (with_reducible refine (wire_within.calls 0 a4 (wrap64 ((l0.length : Int) - 1)) false _ A10.out).mono ?_); rintro e w' ⟨rfl, ⟨nd, rfl⟩⟩))
    go_ret2
    exact ⟨by first | rfl | (simp [errW_none, errW_some] <;> rfl) | (simp [*, errW_none, errW_some] <;> rfl), by repeat (first | (with_reducible first | exact HB.out | apply below_alloc | apply pw_below_drewN | apply below_drew1) | exact HB.out)⟩
  subst c11
  have H1 : (if 0 ≤ a3 then (if a3 < (l0.length : Int) then (if 0 ≤ a4 then (if a4 < (l0.length : Int) then ((wire_places_to.f t101 a3 a4).bind fun t109 => (some (decide (((rd_T72 l0 a3).f1) > (wrap64 (((rd_T72 l0 a4).f2) + t109))), 0))) else (none)) else (none)) else (none)) else (none)) = some (r1, r2) := by rw [if_pos rfl] at H; exact H
  clear H
  have H := H1
  clear H1
  by_cases c12 : 0 ≤ a3
  rotate_left
  · rw [if_neg c12] at H
    exact absurd H (by simp)
  rw [if_pos c12] at H
  have c12b0 : decide (0 ≤ a3) = true := decide_eq_true c12
  clear c12
  by_cases c13 : a3 < (l0.length : Int)
  rotate_left
  · rw [if_neg c13] at H
    exact absurd H (by simp)
  rw [if_pos c13] at H
  have c13b0 : decide (a3 < (l0.length : Int)) = true := decide_eq_true c13
  clear c13
  by_cases c14 : 0 ≤ a4
  rotate_left
  · rw [if_neg c14] at H
    exact absurd H (by simp)
  rw [if_pos c14] at H
  have c14b0 : decide (0 ≤ a4) = true := decide_eq_true c14
  clear c14
  by_cases c15 : a4 < (l0.length : Int)
  rotate_left
  · rw [if_neg c15] at H
    exact absurd H (by simp)
  rw [if_pos c15] at H
  have c15b0 : decide (a4 < (l0.length : Int)) = true := decide_eq_true c15
  clear c15
  replace H := Option.bind_eq_some_iff.mp H
  obtain ⟨t109, A160, H⟩ := H
  replace H : (some (decide (((rd_T72 l0 a3).f1) > (wrap64 (((rd_T72 l0 a4).f2) + t109))), 0)) = some (r1, r2) := H
  have A16 := Aside0.mk A160
  clear A160
  simp only [Option.some.injEq, Prod.mk.injEq] at H
  obtain ⟨rfl, rfl⟩ := H
  go_enter Try.func17, Try.ntmps17
  try go_wp2_with (first | ((with_reducible refine gate_callee (f := 50) rfl ?_); refine goesL_ (some 18) rfl rfl Try.func50 (by kernel_rfl) rfl #[.slice A0 l0.length c0, .int .i64 a1, .int .i64 a2] rfl (by (try simp only [List.map_toArray, List.map_cons, List.map_nil]); first | done | rfl | (simp only [List.length_drop, List.length_take]; rfl)) ?_; (with_reducible refine (wire_asked.calls k _ _ l0 a1 a2 t101 t102 _ ?side1 ?side2 A6.out).mono ?_); (case side1 => repeat (first | exact HR0.out | (with_reducible refine Kd.C_alloc ?_ _) | (with_reducible refine Kd.C_drewN ?_ _) | (with_reducible refine Kd.C_drew ?_))); (case side2 => exact HC0.out); rintro e w17 ⟨v103, rfl, ho0, hb⟩; refine ⟨_, rfl, ?_⟩; have n0_ := Aside0.mk (Kd.R_lower ho0 (below_size (by repeat (first | (with_reducible first | exact HB.out | apply below_alloc | apply pw_below_drewN | apply below_drew1) | exact HB.out)))); have n1_ := Aside0.mk (below_step (by repeat (first | (with_reducible first | exact HB.out | apply below_alloc | apply pw_below_drewN | apply below_drew1) | exact HB.out)) hb); clear HB; have HO104 := n0_; have HB := n1_; clear n0_ n1_; (try clear hb); (try clear hb2); (try clear hk); (try clear hi); (try clear ho0)) | ((with_reducible refine gate_callee (f := 56) rfl ?_); refine goesL_ (some 30) rfl rfl Try.func56 (by kernel_rfl) rfl #[.int .i64 0, .int .i64 a3, .int .i64 (wrap64 ((l0.length : Int) - 1))] rfl (by (try simp only [List.map_toArray, List.map_cons, List.map_nil]); first | done | rfl | (simp only [List.length_drop, List.length_take]; rfl)) ?_; (with_reducible refine (wire_within.calls 0 a3 (wrap64 ((l0.length : Int) - 1)) true _ A8.out).mono ?_); rintro e w' ⟨rfl, ⟨nd, rfl⟩⟩; refine ⟨_, rfl, ?_⟩) | (go_at_call 56; (with_reducible refine (wire_within.calls 0 a4 (wrap64 ((l0.length : Int) - 1)) true _ A10.out).mono ?_); rintro e w' ⟨rfl, ⟨nd, rfl⟩⟩))
  (try (rw [drewN_self w17]; generalize hq_ : World.drewN w17 _ = w17; have n0_ : Aside0 (Kd.R (Kd.int .i64) 3 w17 w.heap.size (fun _ => True) v103 t101) := ⟨by rw [← hq_]; exact (by (with_reducible repeat (first | apply Kd.R_alloc | apply Kd.R_drewN | apply Kd.R_drew)); exact HO104.out)⟩; have n1_ : Aside0 (Below w.heap.size w w17) := ⟨by rw [← hq_]; exact (by repeat (first | (with_reducible first | exact HB.out | apply below_alloc | apply pw_below_drewN | apply below_drew1) | exact HB.out))⟩; clear HO104 HB hq_; have HO104 := n0_; have HB := n1_; clear n0_ n1_))
  have n0_ := Aside0.mk (Kd.R_drew HO104.out)
  have n1_ := Aside0.mk (below_drew1 HB.out)
  clear HO104
  clear HB
  have HO104 := n0_
  have HB := n1_
  clear n0_ n1_
  have p107 : 0 ≤ (a3 : Int) := of_decide_eq_true (by first | (with_reducible assumption) | assumption)
  have q107 : a3 < (l0.length : Int) := of_decide_eq_true (by first | (with_reducible assumption) | assumption)
  obtain ⟨ad107, e107, hx107_0, hx107_1, hx107_2⟩ := at_T72 HR0.out a3 p107 q107
  have hw107_2 := hx107_2
  have hw107_1 := hx107_1
  have hw107_0 := hx107_0
  cases e107
  replace hx107_0 := (HB.out.cell (World.block_lt_of_cell? w _ hx107_0)).trans hx107_0
  replace hx107_1 := (HB.out.cell (World.block_lt_of_cell? w _ hx107_1)).trans hx107_1
  replace hx107_2 := (HB.out.cell (World.block_lt_of_cell? w _ hx107_2)).trans hx107_2
  replace p107 := eq_true p107
  replace q107 := eq_true q107
  have p108 : 0 ≤ (a4 : Int) := of_decide_eq_true (by first | (with_reducible assumption) | assumption)
  have q108 : a4 < (l0.length : Int) := of_decide_eq_true (by first | (with_reducible assumption) | assumption)
  obtain ⟨ad108, e108, hx108_0, hx108_1, hx108_2⟩ := at_T72 HR0.out a4 p108 q108
  have hw108_2 := hx108_2
  have hw108_1 := hx108_1
  have hw108_0 := hx108_0
  obtain rfl : ad107 = ad108 := (by injection e108)
  replace hx108_0 := (HB.out.cell (World.block_lt_of_cell? w _ hx108_0)).trans hx108_0
  replace hx108_1 := (HB.out.cell (World.block_lt_of_cell? w _ hx108_1)).trans hx108_1
  replace hx108_2 := (HB.out.cell (World.block_lt_of_cell? w _ hx108_2)).trans hx108_2
  replace p108 := eq_true p108
  replace q108 := eq_true q108
  obtain ⟨Ao19, co19, eo19⟩ := Kd.R_slice HO104.out
  (first | subst eo19 | (injection eo19 with f1_ f2_ f3_; have f4_ := f1_.symm; have f5_ := f3_.symm; clear f1_ f2_ f3_; subst f4_; subst f5_))
  refine start_ (n := 18) (S := fun w' => w'.cell? (ad107.add ((a3).toNat * 3)) = some (.int .i64 ((rd_T72 l0 a3).f0)) ∧ w'.cell? ⟨(ad107.add ((a3).toNat * 3)).block, (ad107.add ((a3).toNat * 3)).off + 1, none⟩ = some (.int .i64 ((rd_T72 l0 a3).f1)) ∧ w'.cell? ⟨(ad107.add ((a3).toNat * 3)).block, (ad107.add ((a3).toNat * 3)).off + 2, none⟩ = some (.int .i64 ((rd_T72 l0 a3).f2)) ∧ w'.cell? (ad107.add ((a4).toNat * 3)) = some (.int .i64 ((rd_T72 l0 a4).f0)) ∧ w'.cell? ⟨(ad107.add ((a4).toNat * 3)).block, (ad107.add ((a4).toNat * 3)).off + 1, none⟩ = some (.int .i64 ((rd_T72 l0 a4).f1)) ∧ w'.cell? ⟨(ad107.add ((a4).toNat * 3)).block, (ad107.add ((a4).toNat * 3)).off + 2, none⟩ = some (.int .i64 ((rd_T72 l0 a4).f2))) (ds := []) (mkB 18 0) (by kernel_rfl) rfl rfl ⟨(pw_cell_below HB.out hw107_0), (pw_cell_below HB.out hw107_1), (pw_cell_below HB.out hw107_2), (pw_cell_below HB.out hw108_0), (pw_cell_below HB.out hw108_1), (pw_cell_below HB.out hw108_2)⟩ (fun hHeld => ?_); refine with_tabW wire_Clashes.tab6 wire_Clashes.bits6 (fun HT_ HW_ => ?_)
  generalize w17.drew = w18 at HO104 HB hx107_0 hx107_1 hx107_2 hx108_0 hx108_1 hx108_2 hHeld ⊢
  refine pr_ 0 (some 40) (mkB 18 1) HT_ ?_
  refine pr_ 1 (some 41) (mkB 18 3) HT_ ?_
  refine pr_ 2 (some 42) (mkB 18 7) HT_ ?_
  refine pr_ 3 (some 43) (mkB 18 15) HT_ ?_
  refine pr_ 5 (some 45) (mkB 18 47) HT_ ?_
  refine pr_ 6 (some 46) (mkB 18 111) HT_ ?_
  refine pr_ 7 (some 47) (mkB 18 239) HT_ ?_
  refine pr_ 8 (some 48) (mkB 18 495) HT_ ?_
  refine pr_ 10 (some 50) (mkB 18 1519) HT_ ?_
  refine pr_ 11 (some 51) (mkB 18 3567) HT_ ?_
  refine pr_ 12 (some 52) (mkB 18 7663) HT_ ?_
  refine take_ (i := 4) (N := some 44) (v := ?_) (a' := ?_) (mkB 18 7679) rfl rfl (take_ofW HT_.out HW_.out (by kernel_rfl)) (fun _ _ _ h => h) (Or.inl ⟨by rfl, ?_⟩) hHeld ?_ ?_
  rotate_left
  · rintro w' ⟨s0, s1, s2, s3, s4, s5⟩
    go_simp
    with_reducible rfl
  rotate_left
  · simp only [Act.put, List.setIfInBounds_toArray, List.set_cons_zero, List.set_cons_succ, i64_w, i32_w]
    rfl
  refine take_ (i := 9) (N := some 49) (v := ?_) (a' := ?_) (mkB 18 8191) rfl rfl (take_ofW HT_.out HW_.out (by kernel_rfl)) (fun _ _ _ h => h) (Or.inl ⟨by rfl, ?_⟩) hHeld ?_ ?_
  rotate_left
  · rintro w' ⟨s0, s1, s2, s3, s4, s5⟩
    go_simp
    with_reducible rfl
  rotate_left
  · simp only [Act.put, List.setIfInBounds_toArray, List.set_cons_zero, List.set_cons_succ, i64_w, i32_w]
    rfl
  refine one_ (i := 13) (N := some 53) (mkB 18 16383) rfl rfl (one_of HT_.out (by kernel_rfl)) (by decide) (fun K hK => ?_)
  refine goes_ Try.func53 (by kernel_rfl) rfl #[.slice Ao19 t101.length co19, .int .i64 a3, .int .i64 a4] (by rfl) rfl rfl (by (try simp only [List.map_toArray, List.map_cons, List.map_nil]); first | done | rfl | (simp only [List.length_drop, List.length_take]; rfl)) ?_
  with_reducible refine (wire_places_to.calls _ _ t101 a3 a4 t109 _ ?side1 ?side2 A16.out).mono ?_
  (case side1 => repeat (first | exact (Kd.R_reads' HO104.out).2.2 | (with_reducible refine Kd.C_alloc ?_ _) | (with_reducible refine Kd.C_drewN ?_ _) | (with_reducible refine Kd.C_drew ?_)))
  (case side2 => exact (Kd.R_reads' HO104.out).2.1)
  rintro e w20 ⟨rfl, hb⟩
  refine ⟨_, rfl, ?_⟩
  have n0_ := Aside0.mk (Kd.R_below (by (with_reducible repeat (first | apply Kd.R_alloc | apply Kd.R_drewN | apply Kd.R_drew)); exact HO104.out) hb)
  have n1_ := Aside0.mk (below_step (by repeat (first | (with_reducible first | exact HB.out | apply below_alloc | apply pw_below_drewN | apply below_drew1) | exact HB.out)) hb)
  clear HO104
  clear HB
  have HO104 := n0_
  have HB := n1_
  clear n0_ n1_
  (try clear hb)
  (try clear hb2)
  (try clear hk)
  (try clear hi)
  refine hK.out _ _ ⟨(pw_cell_below HB.out hw107_0), (pw_cell_below HB.out hw107_1), (pw_cell_below HB.out hw107_2), (pw_cell_below HB.out hw108_0), (pw_cell_below HB.out hw108_1), (pw_cell_below HB.out hw108_2)⟩ (fun hHeld => ?_)
  clear hK K
  refine norm_ (a' := ?_) ?_ ?_
  rotate_left
  · show Act.put _ (some 53) _ = _
    simp only [Act.put, List.setIfInBounds_toArray, List.set_cons_zero, List.set_cons_succ, i64_w, i32_w]
    rfl
  refine pr_ 14 (some 54) (mkB 18 32767) HT_ ?_
  refine pr_ 15 (some 55) (mkB 18 65535) HT_ ?_
  refine pr_ 16 (some 10) (mkB 18 131071) HT_ ?_
  refine pr_ 17 (some 11) (mkB 18 262143) HT_ ?_
  refine done_ (done_of HT_.out (by kernel_rfl)) ?_
  try go_wp2
  go_ret2
  exact ⟨by first | rfl | (simp [errW_none, errW_some] <;> rfl) | (simp [*, errW_none, errW_some] <;> rfl), by repeat (first | (with_reducible first | exact HB.out | apply below_alloc | apply pw_below_drewN | apply below_drew1) | exact HB.out)⟩
end Go.Proofs.Ytciepmpadcpkbaa.G
end
section
namespace Go.Proofs.Ytciepmpadcpkbaa.G
open Go.RowKit Go.Proofs.YtciepmpadcpkbaaW.PrintWords Go.Proofs.YtciepmpadcpkbaaW.PrintLast Go.Proofs.YtciepmpadcpkbaaW.PrintMore
attribute [local go_sem] max2_int min2_int max_two min_two max_three min_three max_four min_four   -- for this text's walks alone
set_option linter.unusedVariables false
set_option linter.unusedSimpArgs false

/-! ### dropperref02_Clashes: function 18 -/
def dropperref02_Clashes.f (k : Nat) (l0 : List (S72)) (a1 : Int) (a2 : Int) (a3 : Int) (a4 : Int) : Option (Bool × Int) := (dropperref02_asked.f k l0 a1 a2).bind fun t101 => (if t101 = 0 then ((dropperref02_from.f 0 a3 (wrap64 ((l0.length : Int) - 1))).bind fun t102 => (if t102 = true then ((dropperref02_from.f 0 a4 (wrap64 ((l0.length : Int) - 1))).bind fun t103 => (if t103 = true then ((dropperref02_clashes.f k l0 a1 a2 a3 a4).bind fun t104 => (some (t104, 0))) else (some (false, 2)))) else (some (false, 2)))) else (some (false, t101)))
theorem dropperref02_Clashes.mono : ∀ a0 a1 a2 a3 a4 k, LeO (dropperref02_Clashes.f k a0 a1 a2 a3 a4) (dropperref02_Clashes.f (k + 1) a0 a1 a2 a3 a4) := by
  intro a0 a1 a2 a3 a4 k
  unfold dropperref02_Clashes.f
  repeat' first
      | (with_reducible exact dropperref02_asked.mono _ _ _ _)
      | (with_reducible exact dropperref02_clashes.mono _ _ _ _ _ _)
      | (with_reducible exact LeO.refl _)
      | (with_reducible exact LeO.none _)
      | (with_reducible refine LeO.ite ?_ ?_)
      | (with_reducible refine LeO.bind ?_ (fun _ => ?_))
      | exact dropperref02_asked.mono _ _ _ _
      | exact dropperref02_clashes.mono _ _ _ _ _ _
      | exact LeO.none _
      | refine LeO.ite ?_ ?_
      | refine LeO.bind ?_ (fun _ => ?_)
set_option maxHeartbeats 8000000 in
set_option maxRecDepth 100000 in
theorem dropperref02_Clashes.calls (k : Nat) (A0 : Option Addr) (c0 : Nat) (l0 : List (S72)) (a1 : Int) (a2 : Int) (a3 : Int) (a4 : Int) (r1 : Bool) (r2 : Int) (w : World) (hr0 : Kd.C k72 w A0 l0.length l0) (hc0 : l0.length ≤ c0) (h : dropperref02_Clashes.f k l0 a1 a2 a3 a4 = some (r1, r2)) :
    Calls Try.prog 18 #[.slice A0 l0.length c0, .int .i64 a1, .int .i64 a2, .int .i64 a3, .int .i64 a4] w fun e w' => e = .returned (.tuple #[.bool r1, .int .i64 r2]) ∧ Below w.heap.size w w' := by
  have HR0 := Aside0.mk hr0
  have HC0 := Aside0.mk hc0
  clear hr0 hc0
  have HB := Aside0.mk (Below.refl w.heap.size w)
  have H : ((dropperref02_asked.f k l0 a1 a2).bind fun t101 => (if t101 = 0 then ((dropperref02_from.f 0 a3 (wrap64 ((l0.length : Int) - 1))).bind fun t102 => (if t102 = true then ((dropperref02_from.f 0 a4 (wrap64 ((l0.length : Int) - 1))).bind fun t103 => (if t103 = true then ((dropperref02_clashes.f k l0 a1 a2 a3 a4).bind fun t104 => (some (t104, 0))) else (some (false, 2)))) else (some (false, 2)))) else (some (false, t101)))) = some (r1, r2) := h
  clear h
  replace H := Option.bind_eq_some_iff.mp H
  obtain ⟨t101, A60, H⟩ := H
  replace H : (if t101 = 0 then ((dropperref02_from.f 0 a3 (wrap64 ((l0.length : Int) - 1))).bind fun t102 => (if t102 = true then ((dropperref02_from.f 0 a4 (wrap64 ((l0.length : Int) - 1))).bind fun t103 => (if t103 = true then ((dropperref02_clashes.f k l0 a1 a2 a3 a4).bind fun t104 => (some (t104, 0))) else (some (false, 2)))) else (some (false, 2)))) else (some (false, t101))) = some (r1, r2) := H
  have A6 := Aside0.mk A60
  clear A60
  by_cases c7 : t101 = 0
  rotate_left
  · rw [if_neg c7] at H
    have c7b0 : (t101 == 0) = false := beq_eq_false_iff_ne.mpr c7
    have c7b1 : (t101 != 0) = true := bne_iff_ne.mpr c7
    simp only [Option.some.injEq, Prod.mk.injEq] at H
    obtain ⟨rfl, rfl⟩ := H
    go_enter Try.func18, Try.ntmps18
    go_wp2_with (first | ((with_reducible refine gate_callee (f := 54) rfl ?_); refine goesL_ (some 16) rfl rfl Try.func54 (by kernel_rfl) rfl #[.slice A0 l0.length c0, .int .i64 a1, .int .i64 a2] rfl (by (try simp only [List.map_toArray, List.map_cons, List.map_nil]); first | done | rfl | (simp only [List.length_drop, List.length_take]; rfl)) ?_; (with_reducible refine (dropperref02_asked.calls k _ _ l0 a1 a2 t101 _ ?side1 ?side2 A6.out).mono ?_); (case side1 => repeat (first | exact HR0.out | (with_reducible refine Kd.C_alloc ?_ _) | (with_reducible refine Kd.C_drewN ?_ _) | (with_reducible refine Kd.C_drew ?_))); (case side2 => exact HC0.out); rintro e w17 ⟨rfl, hb⟩; refine ⟨_, rfl, ?_⟩; have n0_ := Aside0.mk (below_step (by repeat (first | (with_reducible first | exact HB.out | apply below_alloc | apply pw_below_drewN | apply below_drew1) | exact HB.out)) hb); clear HB; have HB := n0_; clear n0_; (try clear hb); (try clear hb2); (try clear hk); (try clear hi)))
    go_ret2
    exact ⟨by first | rfl | (simp [errW_none, errW_some] <;> rfl) | (simp [*, errW_none, errW_some] <;> rfl), by repeat (first | (with_reducible first | exact HB.out | apply below_alloc | apply pw_below_drewN | apply below_drew1) | exact HB.out)⟩

  rw [if_pos c7] at H
  have c7b0 : (t101 == 0) = true := beq_iff_eq.mpr c7
  have c7b1 : (t101 != 0) = false := bne_eq_false_iff_eq.mpr c7
  clear c7
  replace H := Option.bind_eq_some_iff.mp H
  obtain ⟨t102, A80, H⟩ := H
  replace H : (if t102 = true then ((dropperref02_from.f 0 a4 (wrap64 ((l0.length : Int) - 1))).bind fun t103 => (if t103 = true then ((dropperref02_clashes.f k l0 a1 a2 a3 a4).bind fun t104 => (some (t104, 0))) else (some (false, 2)))) else (some (false, 2))) = some (r1, r2) := H
  have A8 := Aside0.mk A80
  clear A80
  by_cases c9 : t102 = true
  rotate_left
  · replace c9 := Bool.eq_false_iff.mpr c9
    subst c9
    have H1 : (some (false, 2)) = some (r1, r2) := by rw [if_neg (show ¬ (false = true) by decide)] at H; exact H
    clear H
    have H := H1
    clear H1
    simp only [Option.some.injEq, Prod.mk.injEq] at H
    obtain ⟨rfl, rfl⟩ := H
    go_enter Try.func18, Try.ntmps18
    go_wp2_with (first | ((with_reducible refine gate_callee (f := 54) rfl ?_); refine goesL_ (some 16) rfl rfl Try.func54 (by kernel_rfl) rfl #[.slice A0 l0.length c0, .int .i64 a1, .int .i64 a2] rfl (by (try simp only [List.map_toArray, List.map_cons, List.map_nil]); first | done | rfl | (simp only [List.length_drop, List.length_take]; rfl)) ?_; (with_reducible refine (dropperref02_asked.calls k _ _ l0 a1 a2 t101 _ ?side1 ?side2 A6.out).mono ?_); (case side1 => repeat (first | exact HR0.out | (with_reducible refine Kd.C_alloc ?_ _) | (with_reducible refine Kd.C_drewN ?_ _) | (with_reducible refine Kd.C_drew ?_))); (case side2 => exact HC0.out); rintro e w16 ⟨rfl, hb⟩; refine ⟨_, rfl, ?_⟩; have n0_ := Aside0.mk (below_step (by repeat (first | (with_reducible first | exact HB.out | apply below_alloc | apply pw_below_drewN | apply below_drew1) | exact HB.out)) hb); clear HB; have HB := n0_; clear n0_; (try clear hb); (try clear hb2); (try clear hk); (try clear hi)) | ((with_reducible refine gate_callee (f := 57) rfl ?_); refine goesL_ (some 24) rfl rfl Try.func57 (by kernel_rfl) rfl #[.int .i64 0, .int .i64 a3, .int .i64 (wrap64 ((l0.length : Int) - 1))] rfl (by (try simp only [List.map_toArray, List.map_cons, List.map_nil]); first | done | rfl | (simp only [List.length_drop, List.length_take]; rfl)) ?_; (with_reducible refine (dropperref02_from.calls 0 a3 (wrap64 ((l0.length : Int) - 1)) false _ A8.out).mono ?_); rintro e w' ⟨rfl, ⟨nd, rfl⟩⟩; refine ⟨_, rfl, ?_⟩))
    go_ret2
    exact ⟨by first | rfl | (simp [errW_none, errW_some] <;> rfl) | (simp [*, errW_none, errW_some] <;> rfl), by repeat (first | (with_reducible first | exact HB.out | apply below_alloc | apply pw_below_drewN | apply below_drew1) | exact HB.out)⟩
  subst c9
  have H1 : ((dropperref02_from.f 0 a4 (wrap64 ((l0.length : Int) - 1))).bind fun t103 => (if t103 = true then ((dropperref02_clashes.f k l0 a1 a2 a3 a4).bind fun t104 => (some (t104, 0))) else (some (false, 2)))) = some (r1, r2) := by rw [if_pos rfl] at H; exact H
  clear H
  have H := H1
  clear H1
  replace H := Option.bind_eq_some_iff.mp H
  obtain ⟨t103, A100, H⟩ := H
  replace H : (if t103 = true then ((dropperref02_clashes.f k l0 a1 a2 a3 a4).bind fun t104 => (some (t104, 0))) else (some (false, 2))) = some (r1, r2) := H
  have A10 := Aside0.mk A100
  clear A100
  by_cases c11 : t103 = true
  rotate_left
  · replace c11 := Bool.eq_false_iff.mpr c11
    subst c11
    have H1 : (some (false, 2)) = some (r1, r2) := by rw [if_neg (show ¬ (false = true) by decide)] at H; exact H
    clear H
    have H := H1
    clear H1
    simp only [Option.some.injEq, Prod.mk.injEq] at H
    obtain ⟨rfl, rfl⟩ := H
    go_enter Try.func18, Try.ntmps18
    go_wp2_with (first | ((with_reducible refine gate_callee (f := 54) rfl ?_); refine goesL_ (some 16) rfl rfl Try.func54 (by kernel_rfl) rfl #[.slice A0 l0.length c0, .int .i64 a1, .int .i64 a2] rfl (by (try simp only [List.map_toArray, List.map_cons, List.map_nil]); first | done | rfl | (simp only [List.length_drop, List.length_take]; rfl)) ?_; (with_reducible refine (dropperref02_asked.calls k _ _ l0 a1 a2 t101 _ ?side1 ?side2 A6.out).mono ?_); (case side1 => repeat (first | exact HR0.out | (with_reducible refine Kd.C_alloc ?_ _) | (with_reducible refine Kd.C_drewN ?_ _) | (with_reducible refine Kd.C_drew ?_))); (case side2 => exact HC0.out); rintro e w15 ⟨rfl, hb⟩; refine ⟨_, rfl, ?_⟩; have n0_ := Aside0.mk (below_step (by repeat (first | (with_reducible first | exact HB.out | apply below_alloc | apply pw_below_drewN | apply below_drew1) | exact HB.out)) hb); clear HB; have HB := n0_; clear n0_; (try clear hb); (try clear hb2); (try clear hk); (try clear hi)) | ((with_reducible refine gate_callee (f := 57) rfl ?_); refine goesL_ (some 24) rfl rfl Try.func57 (by kernel_rfl) rfl #[.int .i64 0, .int .i64 a3, .int .i64 (wrap64 ((l0.length : Int) - 1))] rfl (by (try simp only [List.map_toArray, List.map_cons, List.map_nil]); first | done | rfl | (simp only [List.length_drop, List.length_take]; rfl)) ?_; (with_reducible refine (dropperref02_from.calls 0 a3 (wrap64 ((l0.length : Int) - 1)) true _ A8.out).mono ?_); rintro e w' ⟨rfl, ⟨nd, rfl⟩⟩; refine ⟨_, rfl, ?_⟩) | (go_at_call 57; (with_reducible refine (dropperref02_from.calls 0 a4 (wrap64 ((l0.length : Int) - 1)) false _ A10.out).mono ?_); rintro e w' ⟨rfl, ⟨nd, rfl⟩⟩))
    go_ret2
    exact ⟨by first | rfl | (simp [errW_none, errW_some] <;> rfl) | (simp [*, errW_none, errW_some] <;> rfl), by repeat (first | (with_reducible first | exact HB.out | apply below_alloc | apply pw_below_drewN | apply below_drew1) | exact HB.out)⟩
  subst c11
  have H1 : ((dropperref02_clashes.f k l0 a1 a2 a3 a4).bind fun t104 => (some (t104, 0))) = some (r1, r2) := by rw [if_pos rfl] at H; exact H
  clear H
  have H := H1
  clear H1
  replace H := Option.bind_eq_some_iff.mp H
  obtain ⟨t104, A120, H⟩ := H
  replace H : (some (t104, 0)) = some (r1, r2) := H
  have A12 := Aside0.mk A120
  clear A120
  simp only [Option.some.injEq, Prod.mk.injEq] at H
  obtain ⟨rfl, rfl⟩ := H
  go_enter Try.func18, Try.ntmps18
  go_wp2_with (first | ((with_reducible refine gate_callee (f := 54) rfl ?_); refine goesL_ (some 16) rfl rfl Try.func54 (by kernel_rfl) rfl #[.slice A0 l0.length c0, .int .i64 a1, .int .i64 a2] rfl (by (try simp only [List.map_toArray, List.map_cons, List.map_nil]); first | done | rfl | (simp only [List.length_drop, List.length_take]; rfl)) ?_; (with_reducible refine (dropperref02_asked.calls k _ _ l0 a1 a2 t101 _ ?side1 ?side2 A6.out).mono ?_); (case side1 => repeat (first | exact HR0.out | (with_reducible refine Kd.C_alloc ?_ _) | (with_reducible refine Kd.C_drewN ?_ _) | (with_reducible refine Kd.C_drew ?_))); (case side2 => exact HC0.out); rintro e w13 ⟨rfl, hb⟩; refine ⟨_, rfl, ?_⟩; have n0_ := Aside0.mk (below_step (by repeat (first | (with_reducible first | exact HB.out | apply below_alloc | apply pw_below_drewN | apply below_drew1) | exact HB.out)) hb); clear HB; have HB := n0_; clear n0_; (try clear hb); (try clear hb2); (try clear hk); (try clear hi)) | ((with_reducible refine gate_callee (f := 57) rfl ?_); refine goesL_ (some 24) rfl rfl Try.func57 (by kernel_rfl) rfl #[.int .i64 0, .int .i64 a3, .int .i64 (wrap64 ((l0.length : Int) - 1))] rfl (by (try simp only [List.map_toArray, List.map_cons, List.map_nil]); first | done | rfl | (simp only [List.length_drop, List.length_take]; rfl)) ?_; (with_reducible refine (dropperref02_from.calls 0 a3 (wrap64 ((l0.length : Int) - 1)) true _ A8.out).mono ?_); rintro e w' ⟨rfl, ⟨nd, rfl⟩⟩; refine ⟨_, rfl, ?_⟩) | (go_at_call 57; (with_reducible refine (dropperref02_from.calls 0 a4 (wrap64 ((l0.length : Int) - 1)) true _ A10.out).mono ?_); rintro e w' ⟨rfl, ⟨nd, rfl⟩⟩) | ((with_reducible refine gate_callee (f := 55) rfl ?_); refine goesL_ (some 39) rfl rfl Try.func55 (by kernel_rfl) rfl #[.slice A0 l0.length c0, .int .i64 a1, .int .i64 a2, .int .i64 a3, .int .i64 a4] rfl (by (try simp only [List.map_toArray, List.map_cons, List.map_nil]); first | done | rfl | (simp only [List.length_drop, List.length_take]; rfl)) ?_; (with_reducible refine (dropperref02_clashes.calls k _ _ l0 a1 a2 a3 a4 t104 _ ?side1 ?side2 A12.out).mono ?_); (case side1 => repeat (first | exact (Kd.C_below HR0.out (by repeat (first | (with_reducible first | exact HB.out | apply below_alloc | apply pw_below_drewN | apply below_drew1) | exact HB.out))) | (with_reducible refine Kd.C_alloc ?_ _) | (with_reducible refine Kd.C_drewN ?_ _) | (with_reducible refine Kd.C_drew ?_))); (case side2 => exact HC0.out); rintro e w14 ⟨rfl, hb⟩; refine ⟨_, rfl, ?_⟩; have n0_ := Aside0.mk (below_step (by repeat (first | (with_reducible first | exact HB.out | apply below_alloc | apply pw_below_drewN | apply below_drew1) | exact HB.out)) hb); clear HB; have HB := n0_; clear n0_; (try clear hb); (try clear hb2); (try clear hk); (try clear hi)))
  go_ret2
  exact ⟨by first | rfl | (simp [errW_none, errW_some] <;> rfl) | (simp [*, errW_none, errW_some] <;> rfl), by repeat (first | (with_reducible first | exact HB.out | apply below_alloc | apply pw_below_drewN | apply below_drew1) | exact HB.out)⟩
end Go.Proofs.Ytciepmpadcpkbaa.G
end
section
namespace Go.Proofs.Ytciepmpadcpkbaa.G
set_option linter.unusedVariables false
set_option linter.unusedSimpArgs false
open Go.RowKit Go.Proofs.YtciepmpadcpkbaaW.PrintWords Go.Proofs.YtciepmpadcpkbaaW.PrintLast

/-- The windows i and k clash. -/
def clk (l : List S72) (r n : Int) (i k : Nat) : Prop := (wn l i).f1 > (wn l k).f2 + dst l r n i k
instance (l : List S72) (r n : Int) (i k : Nat) : Decidable (clk l r n i k) := by unfold clk; infer_instance
theorem okV.rng {l : List S72} (h : okV l) {i : Nat} (hi : i < l.length) : -10000 ≤ (wn l i).f1 ∧ (wn l i).f1 ≤ (wn l i).f2 ∧ (wn l i).f2 ≤ 10000 := (h.2 i hi).2.2
theorem clk_wrap {l : List S72} (h : okV l) {r n : Int} (hs : slope r n) {i k : Nat} (hi : i < l.length) (hk : k < l.length) : decide ((wn l i).f1 > wrap64 ((wn l k).f2 + dst l r n i k)) = decide (clk l r n i k) := by
  have := h.rng hk
  have := dst_bd h hs hi hk
  rw [w64 (n := (wn l k).f2 + dst l r n i k) (by omega) (by omega)]
  rfl
theorem ref_clashes_ev {l : List S72} (h : okV l) {r n : Int} (hs : slope r n) {i k : Nat} (hi : i < l.length) (hk : k < l.length) : Ev (fun f => dropperref02_clashes.f f l r n i k) (decide (clk l r n i k)) := by
  obtain ⟨K, hK⟩ := steps_ev h hs hi hk
  refine ⟨K, fun f hf => ?_⟩
  have := hK f hf
  dsimp only at this ⊢
  unfold dropperref02_clashes.f
  rw [if_pos (by omega), if_pos (by omega), if_pos (by omega), if_pos (by omega), this]
  simp only [Option.bind_some]
  rw [clk_wrap h hs hi hk]
/-- The first window from k on, of d, with which i clashes. -/
def rowC (l : List S72) (r n : Int) (i : Nat) : Nat → Nat → Option Nat
  | 0, _ => none
  | d + 1, k => if clk l r n i k then some k else rowC l r n i d (k + 1)
/-- The first clash, of d windows from i on. -/
def allC (l : List S72) (r n : Int) : Nat → Nat → Int × Int × Int
  | 0, _ => (0, 0, 5)
  | d + 1, i => match rowC l r n i l.length 0 with
    | some k => ((i : Int), (k : Int), 0)
    | none => allC l r n d (i + 1)
theorem rowC_none {l : List S72} {r n : Int} {i : Nat} : ∀ {d k : Nat}, rowC l r n i d k = none ↔ ∀ j, k ≤ j → j < k + d → ¬ clk l r n i j
  | 0, k => ⟨fun _ j h1 h2 => by omega, fun _ => rfl⟩
  | d + 1, k => by
    rw [rowC]
    by_cases c : clk l r n i k
    · rw [if_pos c]
      exact ⟨fun h => by simp at h, fun h => absurd c (h k (Nat.le_refl _) (by omega))⟩
    · rw [if_neg c, rowC_none (d := d) (k := k + 1)]
      refine ⟨fun h j h1 h2 => ?_, fun h j h1 h2 => h j (by omega) (by omega)⟩
      by_cases e : j = k
      · subst e; exact c
      · exact h j (by omega) (by omega)
theorem rowC_some {l : List S72} {r n : Int} {i : Nat} : ∀ {d k j : Nat}, rowC l r n i d k = some j → k ≤ j ∧ j < k + d ∧ clk l r n i j
  | 0, k, j, h => by simp [rowC] at h
  | d + 1, k, j, h => by
    rw [rowC] at h
    by_cases c : clk l r n i k
    · rw [if_pos c] at h
      obtain rfl := Option.some.inj h
      exact ⟨by omega, by omega, c⟩
    · rw [if_neg c] at h
      have := rowC_some h
      exact ⟨by omega, by omega, this.2.2⟩
theorem rowC_skip {l : List S72} {r n : Int} {i : Nat} : ∀ {s d k : Nat}, (∀ j, k ≤ j → j < k + s → ¬ clk l r n i j) → rowC l r n i (s + d) k = rowC l r n i d (k + s)
  | 0, d, k, h => by simp
  | s + 1, d, k, h => by
    rw [show s + 1 + d = (s + d) + 1 by omega, rowC, if_neg (h k (Nat.le_refl _) (by omega)), rowC_skip (s := s) (fun j h1 h2 => h j (by omega) (by omega)), show k + 1 + s = k + (s + 1) by omega]
/-- No windows clash. -/
def noC (l : List S72) (r n : Int) : Prop := ∀ i, i < l.length → ∀ k, k < l.length → ¬ clk l r n i k
theorem allC_five {l : List S72} {r n : Int} : ∀ {d i : Nat}, i + d = l.length → ((allC l r n d i).2.2 = 5 ↔ ∀ j, i ≤ j → j < l.length → ∀ k, k < l.length → ¬ clk l r n j k) ∧ ((allC l r n d i).2.2 = 5 ∨ (allC l r n d i).2.2 = 0)
  | 0, i, hd => ⟨⟨fun _ j h1 h2 => by omega, fun _ => rfl⟩, .inl rfl⟩
  | d + 1, i, hd => by
    rw [allC]
    cases c : rowC l r n i l.length 0 with
    | some k =>
      obtain ⟨_, h2, h3⟩ := rowC_some c
      refine ⟨⟨fun h => by simp at h, fun h => absurd h3 (h i (Nat.le_refl _) (by omega) k (by omega))⟩, .inr rfl⟩
    | none =>
      have c' := rowC_none.1 c
      obtain ⟨h1, h2⟩ := allC_five (l := l) (r := r) (n := n) (d := d) (i := i + 1) (by omega)
      refine ⟨⟨fun h j hj hj2 k hk => ?_, fun h => h1.2 fun j hj => h j (by omega)⟩, h2⟩
      by_cases e : j = i
      · subst e; exact c' k (by omega) (by omega)
      · exact h1.1 h j (by omega) hj2 k hk
theorem allC_noC {l : List S72} {r n : Int} : (allC l r n l.length 0).2.2 = 5 ↔ noC l r n := by
  rw [(allC_five (by omega)).1]
  exact ⟨fun h i hi => h i (by omega) hi, fun h i _ hi => h i hi⟩

theorem ref_clash_loop {l : List S72} (h : okV l) {r n : Int} (hs : slope r n) : ∀ (d i : Nat), i + d = l.length → Ev (fun f => dropperref02_Clash.l0 f l r n i) (allC l r n d i) := by
  intro d
  induction d with
  | zero =>
    intro i hd
    refine ev_some _ fun k => ?_
    rw [dropperref02_Clash.l0, if_neg (by omega)]
    rfl
  | succ d ih =>
    intro i hd
    have hl30 := h.1.2
    have inner : ∀ (e k : Nat), k + e = l.length → Ev (fun f => dropperref02_Clash.l1 f l r n i k) (match rowC l r n i e k with | some j => ((i : Int), (j : Int), 0) | none => allC l r n d (i + 1)) := by
      intro e
      induction e with
      | zero =>
        intro k hk
        refine Ev.step (fun f => ?_) (ih (i + 1) (by omega))
        rw [dropperref02_Clash.l1, if_neg (by omega), wsucc i (by omega)]
      | succ e ihe =>
        intro k hk
        have c := ref_clashes_ev h hs (show i < l.length by omega) (show k < l.length by omega)
        refine Ev.step (f := fun f => (dropperref02_clashes.f f l r n i k).bind fun t102 => if t102 = true then some ((i : Int), (k : Int), 0) else dropperref02_Clash.l1 f l r n i ((k + 1 : Nat) : Int)) (fun f => ?_) (Ev.bind c ?_)
        · rw [dropperref02_Clash.l1, if_pos (by omega), wsucc k (by omega)]
        · rw [rowC]
          by_cases c : clk l r n i k
          · rw [if_pos c]
            simp only [decide_eq_true c, if_true]
            exact Ev.now _
          · rw [if_neg c]
            simp only [decide_eq_false c, if_false, Bool.false_eq_true]
            exact ihe (k + 1) (by omega)
    refine Ev.step (fun f => ?_) (inner l.length 0 (by omega))
    rw [dropperref02_Clash.l0, if_pos (by omega)]
    rfl
open Classical in
/-- What Clash tells. -/
noncomputable def clashR (l : List S72) (r n : Int) : Int × Int × Int := if askE l r n = 0 then allC l r n l.length 0 else (0, 0, askE l r n)
theorem ref_Clash_ev (l : List S72) (hl : l.length ≤ 9223372036854775807) (r n : Int) : Ev (fun f => dropperref02_Clash.f f l r n) (clashR l r n) := by
  refine Ev.bind (ref_asked_ev l hl r n) ?_
  unfold clashR
  by_cases c : askE l r n = 0
  · obtain ⟨h, hs⟩ := askE_zero c
    rw [if_pos c, c]
    exact ref_clash_loop h hs l.length 0 (by omega)
  · simp only [if_neg c]
    exact Ev.now _

theorem index_loop {l : List S72} (hl : l.length ≤ 50) {fn : Int → Int → Int → Option Bool} {p : Nat → Prop} [DecidablePred p] (hp : ∀ j, j < l.length → fn (wn l j).f0 (wn l j).f1 (wn l j).f2 = some (decide (p j))) : ∀ (d i : Nat), l.length - i = d → i ≤ l.length → (∀ j, j < i → ¬ p j) →
    ∃ t : Int, Ev (fun f => api_Window.l0 f l fn l.length i) t ∧ ((t = -1 ∧ ∀ j, j < l.length → ¬ p j) ∨ ∃ k : Nat, t = k ∧ k < l.length ∧ p k ∧ ∀ j, j < k → ¬ p j) := by
  intro d
  induction d with
  | zero =>
    intro i hd hi h1
    obtain rfl : i = l.length := by omega
    refine ⟨-1, ev_some _ fun k => ?_, .inl ⟨rfl, h1⟩⟩
    rw [api_Window.l0, if_neg (by omega)]
  | succ d ih =>
    intro i hd hi h1
    by_cases c : p i
    · refine ⟨i, ev_some _ fun k => ?_, .inr ⟨i, rfl, by omega, c, h1⟩⟩
      rw [api_Window.l0, if_pos (by omega), if_pos (by omega), if_pos (by omega), hp i (by omega), decide_eq_true c]
      rfl
    · obtain ⟨t, e, ht⟩ := ih (i + 1) (by omega) (by omega) (fun j hj => if q : j = i then q ▸ c else h1 j (by omega))
      refine ⟨t, Ev.step (fun k => ?_) e, ht⟩
      rw [api_Window.l0, if_pos (by omega), if_pos (by omega), if_pos (by omega), hp i (by omega), decide_eq_false c, wsucc i (by omega)]
      rfl
theorem wire_clash_inner {l : List S72} (h : okV l) {r n : Int} (hs : slope r n) {i : Nat} (hi : i < l.length) {R : Int × Int × Int} (hR : Ev (fun f => wire_Clash.l0 f l (plc l r n) l l.length ((i + 1 : Nat) : Int)) R) : ∀ (e k : Nat), k + e = l.length →
    Ev (fun f => wire_Clash.l1 f l (plc l r n) i k l l.length i (wn l i).f0 (wn l i).f1 (wn l i).f2) (match rowC l r n i e k with | some j => ((i : Int), (j : Int), 0) | none => R) := by
  intro e
  have hl30 := h.1.2
  induction e with
  | zero =>
    intro k hk
    refine Ev.step (fun f => ?_) (Ev.step (g := fun f => wire_Clash.j2 f l (plc l r n) i k l l.length i false (wn l i).f0 (wn l i).f1 (wn l i).f2) (fun f => ?_) hR)
    · rw [wire_Clash.l1, if_pos (by omega), decide_eq_false (by omega)]
    · rw [wire_Clash.j2, if_neg (by decide), wsucc i (by omega)]
  | succ e ihe =>
    intro k hk
    refine Ev.step (fun f => ?_) (Ev.step (g := fun f => wire_Clash.j2 f l (plc l r n) i k l l.length i true (wn l i).f0 (wn l i).f1 (wn l i).f2) (f := fun f => if clk l r n i k then some ((i : Int), (k : Int), 0) else wire_Clash.l1 f l (plc l r n) i ((k + 1 : Nat) : Int) l l.length i (wn l i).f0 (wn l i).f1 (wn l i).f2) (fun f => ?_) ?_)
    · rw [wire_Clash.l1, if_pos (by omega), decide_eq_true (by omega)]
    · have q := clk_wrap h hs hi (show k < l.length by omega)
      rw [wire_Clash.j2, if_pos rfl, if_pos (by omega), if_pos (by omega), to_some h hs hi (by omega), wsucc k (by omega)]
      simp only [Option.bind_some]
      by_cases c : clk l r n i k
      · rw [decide_eq_true c] at q
        rw [if_pos c, if_pos (of_decide_eq_true q)]
      · rw [decide_eq_false c] at q
        rw [if_neg c, if_neg (of_decide_eq_false q)]
    · rw [rowC]
      by_cases c : clk l r n i k
      · simp only [if_pos c]; exact Ev.now _
      · simp only [if_neg c]; exact ihe (k + 1) (by omega)
theorem wire_clash_loop {l : List S72} (h : okV l) {r n : Int} (hs : slope r n) : ∀ (d i : Nat), i + d = l.length → Ev (fun f => wire_Clash.l0 f l (plc l r n) l l.length i) (allC l r n d i) := by
  intro d
  have hl30 := h.1.2
  induction d with
  | zero =>
    intro i hd
    refine ev_some _ fun k => ?_
    rw [wire_Clash.l0, if_neg (by omega)]
    rfl
  | succ d ih =>
    intro i hd
    have hi : i < l.length := by omega
    obtain ⟨t, e, ht⟩ := index_loop (l := l) (by omega) (fn := fun z0 z1 z2 => wire_Clash_1.f z0 z1 z2 (wn l i).f0 (wn l i).f1 (wn l i).f2) (p := fun j => (wn l i).f1 > (wn l j).f2) (fun j hj => by unfold wire_Clash_1.f; rfl) l.length 0 (by omega) (by omega) (by omega)
    refine Ev.step (f := fun f => (api_Window.f f l (fun z0 z1 z2 => wire_Clash_1.f z0 z1 z2 (wn l i).f0 (wn l i).f1 (wn l i).f2)).bind fun t => wire_Clash.l1 f l (plc l r n) i t l l.length i (wn l i).f0 (wn l i).f1 (wn l i).f2) (fun f => ?_) (Ev.bind e ?_)
    · rw [wire_Clash.l0, if_pos (by omega), if_pos (by omega), if_pos (by omega)]
    · have weak : ∀ {j}, j < l.length → clk l r n i j → (wn l i).f1 > (wn l j).f2 := fun {j} hj c => by
        have := dst_bd h hs hi hj
        unfold clk at c
        omega
      rw [allC]
      rcases ht with ⟨rfl, ht⟩ | ⟨k, rfl, hk, _, ht⟩
      · have : rowC l r n i l.length 0 = none := rowC_none.2 fun j _ hj c => ht j (by omega) (weak (by omega) c)
        rw [this]
        refine Ev.step (fun f => ?_) (Ev.step (g := fun f => wire_Clash.j2 f l (plc l r n) i (-1) l l.length i false (wn l i).f0 (wn l i).f1 (wn l i).f2) (fun f => ?_) (ih (i + 1) (by omega)))
        · rw [wire_Clash.l1, if_neg (by omega)]
        · rw [wire_Clash.j2, if_neg (by decide), wsucc i (by omega)]
      · have e := wire_clash_inner h hs hi (ih (i + 1) (by omega)) (l.length - k) k (by omega)
        have s := rowC_skip (l := l) (r := r) (n := n) (i := i) (s := k) (d := l.length - k) (k := 0) (fun j _ hj c => ht j (by omega) (weak (by omega) c))
        rw [show k + (l.length - k) = l.length by omega, Nat.zero_add] at s
        rw [s]
        exact e
theorem wire_Clash_ev (l : List S72) (hl : l.length ≤ 9223372036854775807) (r n : Int) : Ev (fun f => wire_Clash.f f l r n) (clashR l r n) := by
  refine Ev.bind (wire_asked_ev l hl r n) ?_
  unfold clashR
  by_cases c : askE l r n = 0
  · obtain ⟨h, hs⟩ := askE_zero c
    simp only [if_pos c]
    exact wire_clash_loop h hs l.length 0 (by omega)
  · simp only [if_neg c]
    exact Ev.now _

/-- What Clashes tells. -/
noncomputable def clashesR (l : List S72) (r n i k : Int) : Bool × Int := if askE l r n = 0 then (if (0 ≤ i ∧ i < l.length) ∧ 0 ≤ k ∧ k < l.length then (decide (clk l r n i.toNat k.toNat), 0) else (false, 2)) else (false, askE l r n)
theorem wire_Clashes_ev (l : List S72) (hl : l.length ≤ 9223372036854775807) (r n i k : Int) : Ev (fun f => wire_Clashes.f f l r n i k) (clashesR l r n i k) := by
  refine Ev.bind (wire_asked_ev l hl r n) ?_
  unfold clashesR
  by_cases c : askE l r n = 0
  · obtain ⟨h, hs⟩ := askE_zero c
    have hl1 := h.1
    simp only [if_pos c, if_true, within_some, Option.bind_some]
    rw [w64 (n := (l.length : Int) - 1) (by omega) (by omega)]
    by_cases c1 : 0 ≤ i ∧ i < l.length
    · rw [decide_eq_true (show 0 ≤ i ∧ i ≤ (l.length : Int) - 1 by omega)]
      by_cases c2 : 0 ≤ k ∧ k < l.length
      · rw [decide_eq_true (show 0 ≤ k ∧ k ≤ (l.length : Int) - 1 by omega), if_pos (show (0 ≤ i ∧ i < (l.length : Int)) ∧ 0 ≤ k ∧ k < (l.length : Int) from ⟨c1, c2⟩)]
        obtain ⟨a, rfl⟩ := Int.eq_ofNat_of_zero_le c1.1
        obtain ⟨b, rfl⟩ := Int.eq_ofNat_of_zero_le c2.1
        refine Ev.congr (fun f => ?_) (Ev.now _)
        simp only [if_true]
        rw [if_pos c1.1, if_pos c1.2, if_pos c2.1, if_pos c2.2, to_some h hs (by omega) (by omega)]
        simp only [Option.bind_some, Int.toNat_natCast]
        rw [clk_wrap h hs (by omega) (by omega)]
      · rw [decide_eq_false (show ¬ (0 ≤ k ∧ k ≤ (l.length : Int) - 1) by omega), if_neg (show ¬ ((0 ≤ i ∧ i < (l.length : Int)) ∧ 0 ≤ k ∧ k < (l.length : Int)) from fun z => c2 z.2)]
        exact Ev.now _
    · rw [decide_eq_false (show ¬ (0 ≤ i ∧ i ≤ (l.length : Int) - 1) by omega), if_neg (show ¬ ((0 ≤ i ∧ i < (l.length : Int)) ∧ 0 ≤ k ∧ k < (l.length : Int)) from fun z => c1 z.1)]
      exact Ev.now _
  · simp only [if_neg c]
    exact Ev.now _
theorem ref_Clashes_ev (l : List S72) (hl : l.length ≤ 9223372036854775807) (r n i k : Int) : Ev (fun f => dropperref02_Clashes.f f l r n i k) (clashesR l r n i k) := by
  refine Ev.bind (ref_asked_ev l hl r n) ?_
  unfold clashesR
  by_cases c : askE l r n = 0
  · obtain ⟨h, hs⟩ := askE_zero c
    have hl1 := h.1
    simp only [if_pos c, from_some, Option.bind_some]
    rw [w64 (n := (l.length : Int) - 1) (by omega) (by omega)]
    by_cases c1 : 0 ≤ i ∧ i < l.length
    · rw [decide_eq_true (show 0 ≤ i ∧ i ≤ (l.length : Int) - 1 by omega)]
      by_cases c2 : 0 ≤ k ∧ k < l.length
      · rw [decide_eq_true (show 0 ≤ k ∧ k ≤ (l.length : Int) - 1 by omega), if_pos (show (0 ≤ i ∧ i < (l.length : Int)) ∧ 0 ≤ k ∧ k < (l.length : Int) from ⟨c1, c2⟩)]
        obtain ⟨a, rfl⟩ := Int.eq_ofNat_of_zero_le c1.1
        obtain ⟨b, rfl⟩ := Int.eq_ofNat_of_zero_le c2.1
        simp only [if_true]
        exact Ev.bind (ref_clashes_ev h hs (by omega) (by omega)) (Ev.now _)
      · rw [decide_eq_false (show ¬ (0 ≤ k ∧ k ≤ (l.length : Int) - 1) by omega), if_neg (show ¬ ((0 ≤ i ∧ i < (l.length : Int)) ∧ 0 ≤ k ∧ k < (l.length : Int)) from fun z => c2 z.2)]
        exact Ev.now _
    · rw [decide_eq_false (show ¬ (0 ≤ i ∧ i ≤ (l.length : Int) - 1) by omega), if_neg (show ¬ ((0 ≤ i ∧ i < (l.length : Int)) ∧ 0 ≤ k ∧ k < (l.length : Int)) from fun z => c1 z.1)]
      exact Ev.now _
  · simp only [if_neg c]
    exact Ev.now _
end Go.Proofs.Ytciepmpadcpkbaa.G
end
