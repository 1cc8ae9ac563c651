/- The law PullAnchors of the printed functions. Plain Lean. -/
import Derived.Test.YtiebfmenkpodeaaPNum2
namespace Go.Proofs.Ytiebfmenkpodeaa.G
set_option linter.unusedVariables false
set_option linter.unusedSimpArgs false
set_option linter.unusedSectionVars false
open Go.RowKit Go.Proofs.YtiebfmenkpodeaaW.PrintWords Go.Proofs.YtiebfmenkpodeaaW.PrintLast
theorem same_anch {x : List Int} (hx : x.length ≤ 1000) : Ev (fun k => dropperlaw04_SameInts.f k x x) true := by
  have loop : ∀ (d i : Nat), i + d = x.length → Ev (fun k => dropperlaw04_SameInts.l0 k x x (i : Int)) true := by
    intro d
    induction d with
    | zero =>
      intro i hi
      refine ev_some _ fun k => ?_
      rw [dropperlaw04_SameInts.l0, if_neg (by omega)]
    | succ d ih =>
      intro i hi
      refine Ev.step (fun k => ?_) (ih (i + 1) (by omega))
      rw [dropperlaw04_SameInts.l0, if_pos (by omega), if_pos (by omega), if_pos (by omega), if_pos rfl, wsucc i (by omega)]
  refine Ev.congr (fun k => ?_) (loop x.length 0 (by omega))
  unfold dropperlaw04_SameInts.f
  rw [if_pos rfl]
  rfl
theorem open_anch {l : List Int} {a b : Int} {v : Bool} (e : Ev (fun k => pull_Valid.f k l a b) v) : Ev (fun k => pull_open.f k l a b) (if v = true then (l, a, b, 0) else ([], 0, 0, 40)) := by
  obtain ⟨K, s⟩ := e
  refine ⟨K, fun k hk => ?_⟩
  have := s k hk
  dsimp only at this ⊢
  unfold pull_open.f
  rw [this]
  cases v <;> rfl
/-- A row of the counts below k; the others as they began. -/
def BelK (n : Nat) (B : Nat → Int) (k : Nat) (x : List Int) : Prop := x.length = n ∧ ∀ j, j < n → rd x (j : Int) = if j < k then B j else if j = 0 then 1 else 0
/-- Such a row, the count at k under way. -/
def BelI (n : Nat) (B : Nat → Int) (k : Nat) (v : Int) (x : List Int) : Prop := x.length = n ∧ rd x (k : Int) = v ∧ ∀ j, j < n → j ≠ k → rd x (j : Int) = if j < k then B j else if j = 0 then 1 else 0
theorem BelI.of {n : Nat} {B : Nat → Int} {k : Nat} {x : List Int} (h : BelK n B k x) (hk : k < n) : BelI n B k (if k = 0 then 1 else 0) x := ⟨h.1, by rw [h.2 k hk, if_neg (by omega)], fun j h1 h2 => h.2 j h1⟩
theorem BelI.to {n : Nat} {B : Nat → Int} {k : Nat} {x : List Int} (h : BelI n B k (B k) x) : BelK n B (k + 1) x := by
  refine ⟨h.1, fun j h1 => ?_⟩
  by_cases e : j = k
  · subst e; rw [h.2.1, if_pos (by omega)]
  · rw [h.2.2 j h1 e]
    by_cases c : j < k
    · rw [if_pos c, if_pos (by omega)]
    · rw [if_neg c, if_neg (show ¬ j < k + 1 by omega)]
theorem BelI.set {n : Nat} {B : Nat → Int} {k : Nat} {v u : Int} {x : List Int} (h : BelI n B k v x) (hk : k < n) : BelI n B k u (x.set k u) := by
  have hx := h.1
  refine ⟨by simp [hx], ?_, fun j h1 h2 => ?_⟩
  · rw [rd_set x u (by omega) (by omega), if_pos rfl]
  · rw [rd_set x u (by omega) (by omega), if_neg h2, h.2.2 j h1 h2]
theorem addb_ok {n : Nat} {M : Nat → Nat → Bool} {B : Nat → Int} (h : Bhd M n B) (hn : n ≤ 30) {i k d : Nat} {v : Int} {x : List Int} (hk : i + (d + 1) = k) (hkn : k < n) (hx : BelI n B k v x) (hv : 0 ≤ v) (hs : v + sm (wb M B k) i (d + 1) = B k) (hM : M i k = true) :
    wrap64 (rd x (k : Int) + rd x (i : Int)) = v + B i ∧ v + B i + sm (wb M B k) (i + 1) d = B k ∧ 0 ≤ v + B i := by
  have e : wb M B k i = B i := by unfold wb; rw [if_pos hM]
  rw [sm, e] at hs
  have bi := bhd_bd h n i (by omega) (by omega)
  have bk := bhd_bd h n k (by omega) hkn
  have ps := p2_small (a := k) (by omega)
  have sn : 0 ≤ sm (wb M B k) (i + 1) d := sm_nonneg _ _ fun j h3 h4 => by
    have := bhd_bd h n j (by omega) (by omega)
    unfold wb
    split <;> omega
  rw [hx.2.1, hx.2.2 i (by omega) (by omega), if_pos (by omega)]
  refine ⟨w64 (by omega) (by omega), by omega, by omega⟩
theorem skipb_ok {M : Nat → Nat → Bool} {B : Nat → Int} {i k d : Nat} {v c : Int} (hs : v + sm (wb M B k) i (d + 1) = c) (hM : M i k = false) : v + sm (wb M B k) (i + 1) d = c := by
  have e : wb M B k i = 0 := by unfold wb; rw [hM]; rfl
  rw [sm, e] at hs
  omega
section
variable {l : List Int} {a b : Int} {B : Nat → Int} (h : Bhd (mayB l a b) l.length B) (hn : l.length ≤ 30)
include h hn
theorem sumb {k : Nat} (hk : k < l.length) : (if k = 0 then (1 : Int) else 0) + sm (wb (mayB l a b) B k) 0 k = B k := by
  by_cases e : k = 0
  · subst e; rw [if_pos rfl, sm, h.1]; rfl
  · rw [if_neg e, ← h.2 k (by omega) hk]; omega
theorem be_inner_p {nums : List Int} {k : Nat} (hk : k < l.length) {R : List Int × Int × Int × Int} (cont : ∀ x', BelK l.length B (k + 1) x' → Ev (fun q => pull_layout_anchors.l0 q nums x' (l.length : Int) ((k + 1 : Nat) : Int) l a b) R) : ∀ (d i : Nat) (v : Int) (x : List Int), i + d = k → BelI l.length B k v x → 0 ≤ v → v + sm (wb (mayB l a b) B k) i d = B k →
    Ev (fun q => pull_layout_anchors.l1 q nums x (k : Int) (l.length : Int) (k : Int) (k : Int) (i : Int) l a b) R := by
  intro d
  induction d with
  | zero =>
    intro i v x hi hx hv hs
    rw [sm, Int.add_zero] at hs
    subst hs
    refine Ev.step (fun q => ?_) (cont x hx.to)
    rw [pull_layout_anchors.l1, wsucc k (by omega), if_neg (by omega)]
  | succ d ih =>
    intro i v x hi hx hv hs
    have el := length_some (l := l) (a := a) (b := b) (i := i) (k := k) (by omega) (by omega)
    have hx1 := hx.1
    cases hM : mayB l a b i k with
    | true =>
      obtain ⟨e1, e2, e3⟩ := addb_ok h hn hi hk hx hv hs hM
      refine Ev.step (fun q => ?_) (ih (i + 1) (v + B i) _ (by omega) (hx.set (u := v + B i) hk) e3 e2)
      rw [pull_layout_anchors.l1, wsucc i (by omega)]
      simp only [Option.bind_some, el, hM, if_true]
      rw [if_pos (by omega), if_pos (by omega), if_pos (by omega), if_pos (by omega), if_pos (by omega), e1, Int.toNat_natCast]
    | false =>
      refine Ev.step (fun q => ?_) (ih (i + 1) v x (by omega) hx hv (skipb_ok hs hM))
      rw [pull_layout_anchors.l1, wsucc i (by omega)]
      simp only [Option.bind_some, el, hM, Bool.false_eq_true, if_false]
      rw [if_pos (by omega)]
theorem be_inner_r {k : Nat} (hk : k < l.length) {R : List Int} (cont : ∀ x', BelK l.length B (k + 1) x' → Ev (fun q => dropperref04_behind.l0 q l a b x' ((k + 1 : Nat) : Int)) R) : ∀ (d i : Nat) (v : Int) (x : List Int), i + d = k → BelI l.length B k v x → 0 ≤ v → v + sm (wb (mayB l a b) B k) i d = B k →
    Ev (fun q => dropperref04_behind.l1 q l a b x (k : Int) (i : Int)) R := by
  intro d
  induction d with
  | zero =>
    intro i v x hi hx hv hs
    rw [sm, Int.add_zero] at hs
    subst hs
    refine Ev.step (fun q => ?_) (cont x hx.to)
    rw [dropperref04_behind.l1, wsucc k (by omega), if_neg (by omega)]
  | succ d ih =>
    intro i v x hi hx hv hs
    have el := may_some (l := l) (a := a) (b := b) (i := i) (k := k) (by omega) (by omega)
    have hx1 := hx.1
    cases hM : mayB l a b i k with
    | true =>
      obtain ⟨e1, e2, e3⟩ := addb_ok h hn hi hk hx hv hs hM
      refine Ev.step (fun q => ?_) (ih (i + 1) (v + B i) _ (by omega) (hx.set (u := v + B i) hk) e3 e2)
      rw [dropperref04_behind.l1, wsucc i (by omega)]
      simp only [Option.bind_some, el, hM, if_true]
      rw [if_pos (by omega), if_pos (by omega), if_pos (by omega), if_pos (by omega), if_pos (by omega), e1, Int.toNat_natCast]
    | false =>
      refine Ev.step (fun q => ?_) (ih (i + 1) v x (by omega) hx hv (skipb_ok hs hM))
      rw [dropperref04_behind.l1, wsucc i (by omega)]
      simp only [Option.bind_some, el, hM, Bool.false_eq_true, if_false]
      rw [if_pos (by omega)]
theorem be_outer_p {nums : List Int} {R : List Int × Int × Int × Int} (cont : Ev (fun q => pull_layout_anchors.l2 q [] nums ((List.range l.length).map B) (l.length : Int) 0 l a b) R) : ∀ (d k : Nat) (x : List Int), k + d = l.length → BelK l.length B k x → Ev (fun q => pull_layout_anchors.l0 q nums x (l.length : Int) (k : Int) l a b) R := by
  intro d
  induction d with
  | zero =>
    intro k x hk hx
    obtain rfl : x = (List.range l.length).map B := rd_ext hx.1 fun i hi => by rw [hx.2 i hi, if_pos (by omega)]
    refine Ev.step (fun q => ?_) cont
    rw [pull_layout_anchors.l0, if_neg (by omega)]
  | succ d ih =>
    intro k x hk hx
    refine Ev.step (fun q => ?_) (be_inner_p h hn (nums := nums) (k := k) (by omega) (fun x' h' => ih (k + 1) x' (by omega) h') k 0 _ x (by omega) (BelI.of hx (by omega)) (by split <;> omega) (sumb h hn (by omega)))
    rw [pull_layout_anchors.l0, if_pos (by omega)]
    rfl
theorem be_outer_r : ∀ (d k : Nat) (x : List Int), k + d = l.length → BelK l.length B k x → Ev (fun q => dropperref04_behind.l0 q l a b x (k : Int)) ((List.range l.length).map B) := by
  intro d
  induction d with
  | zero =>
    intro k x hk hx
    obtain rfl : x = (List.range l.length).map B := rd_ext hx.1 fun i hi => by rw [hx.2 i hi, if_pos (by omega)]
    refine ev_some _ fun q => ?_
    rw [dropperref04_behind.l0, if_neg (by omega)]
  | succ d ih =>
    intro k x hk hx
    refine Ev.step (fun q => ?_) (be_inner_r h hn (k := k) (by omega) (fun x' h' => ih (k + 1) x' (by omega) h') k 0 _ x (by omega) (BelI.of hx (by omega)) (by split <;> omega) (sumb h hn (by omega)))
    rw [dropperref04_behind.l0, if_pos (by omega)]
    rfl
theorem be_first (hn1 : 2 ≤ l.length) : BelK l.length B 0 ((List.replicate l.length (0 : Int)).set 0 1) ∧ BelK l.length B 1 ((List.replicate l.length (0 : Int)).set 0 1) := by
  have key : ∀ j : Nat, j < l.length → rd ((List.replicate l.length (0 : Int)).set 0 1) (j : Int) = if j = 0 then 1 else 0 := by
    intro j hj
    rw [rd_set _ _ (by simp; omega) (by simp; omega), rd_rep]
  refine ⟨⟨by simp, fun j hj => ?_⟩, ⟨by simp, fun j hj => ?_⟩⟩
  · rw [key j hj, if_neg (by omega : ¬ j < 0)]
  · rw [key j hj]
    by_cases e : j = 0
    · subst e; rw [if_pos rfl, if_pos (by omega), h.1]
    · rw [if_neg e, if_neg (by omega)]
theorem behind_ev (hn1 : 2 ≤ l.length) : Ev (fun k => dropperref04_behind.f k l a b) ((List.range l.length).map B) := by
  refine Ev.congr (fun k => ?_) (be_outer_r h hn (l.length - 1) 1 _ (by omega) (be_first h hn hn1).2)
  unfold dropperref04_behind.f
  rw [if_pos (by omega), if_pos (by omega)]
  simp only [Option.bind_some, Int.toNat_natCast, List.length_replicate]
  rw [if_pos (by omega)]
  rfl
end
/-- The products. -/
def prF (B N : Nat → Int) : Nat → Int := fun j => wrap64 (B j * N j)
theorem prod_loop {l : List Int} {a b : Int} {B N : Nat → Int} (hn1 : 2 ≤ l.length) (hn : l.length ≤ 30) : ∀ (d i : Nat) (out : List Int), i + d = l.length → out.length = i → (∀ j, j < i → rd out (j : Int) = prF B N j) →
    Ev (fun q => pull_layout_anchors.l2 q out ((List.range l.length).map N) ((List.range l.length).map B) (l.length : Int) (i : Int) l a b) ((List.range l.length).map (prF B N), N 0, a, b) := by
  intro d
  induction d with
  | zero =>
    intro i out hi ho h1
    obtain rfl : i = l.length := by omega
    obtain rfl : out = (List.range l.length).map (prF B N) := rd_ext ho h1
    have e0 : rd ((List.range l.length).map N) 0 = N 0 := rd_map N (i := 0) (by omega)
    refine ev_some _ fun q => ?_
    rw [pull_layout_anchors.l2, if_neg (by omega), e0]
    simp only [List.length_map, List.length_range]
    rw [if_pos (by omega)]
  | succ d ih =>
    intro i out hi ho h1
    have e1 : rd ((List.range l.length).map N) (i : Int) = N i := rd_map N (by omega)
    have e2 : rd ((List.range l.length).map B) (i : Int) = B i := rd_map B (by omega)
    have sn := snoc_inv (f := prF B N) (v := wrap64 (B i * N i)) ho h1 rfl
    refine Ev.step (fun q => ?_) (ih (i + 1) (out ++ [wrap64 (B i * N i)]) (by omega) sn.1 sn.2)
    rw [pull_layout_anchors.l2, if_pos (by omega), e1, e2, wsucc i (by omega)]
    simp only [List.length_map, List.length_range]
    rw [if_pos (by omega), if_pos (by omega), if_pos (by omega), if_pos (by omega)]
theorem anchors_ev {l : List Int} {a b : Int} {B N : Nat → Int} (hB : Bhd (mayB l a b) l.length B) (hN : Onw (mayB l a b) l.length N) (hn1 : 2 ≤ l.length) (hn : l.length ≤ 30) : Ev (fun k => pull_layout_anchors.f k l a b) ((List.range l.length).map (prF B N), N 0, a, b) := by
  obtain ⟨K1, s1⟩ := numbers_ev hN hn hn1
  obtain ⟨K2, s2⟩ := be_outer_p hB hn (prod_loop (l := l) (a := a) (b := b) (B := B) (N := N) hn1 hn l.length 0 [] (by omega) rfl (fun j hj => by omega)) l.length 0 _ (by omega) (be_first hB hn hn1).1
  refine ⟨K1 + K2, fun k hk => ?_⟩
  have a1 := s1 k (by omega)
  have a2 := s2 k (by omega)
  dsimp only at a1 a2 ⊢
  unfold pull_layout_anchors.f
  rw [a1]
  simp only [Option.bind_some, Int.toNat_natCast, List.length_replicate]
  rw [if_pos (by omega), if_pos (by omega), if_pos (by omega)]
  exact a2
/-- The indexes from i on, d of them, that are such. -/
def idx (p : Nat → Bool) : Nat → Nat → List Int
  | _, 0 => []
  | i, d + 1 => (if p i = true then [(i : Int)] else []) ++ idx p (i + 1) d
theorem idx_len (p : Nat → Bool) : ∀ d i, (idx p i d).length ≤ d
  | 0, _ => by simp [idx]
  | d + 1, i => by
    have := idx_len p d (i + 1)
    rw [idx, List.length_append]
    split
    · rw [List.length_singleton]; omega
    · rw [List.length_nil]; omega
section
variable {n : Nat} (hn : n ≤ 30) {p : Nat → Bool}
include hn
theorem idx_p {f : Nat → Int} {fn : Int → Option Bool} (hf : ∀ j, j < n → fn (f j) = some (p j)) : ∀ (d i : Nat) (out : List Int), i + d = n → out.length ≤ i → Ev (fun k => pull_indexes.l0 k fn out ((List.range n).map f) (n : Int) (i : Int)) (out ++ idx p i d) := by
  intro d
  induction d with
  | zero =>
    intro i out hi ho
    refine ev_some _ fun k => ?_
    rw [pull_indexes.l0, if_neg (by omega), idx, List.append_nil]
  | succ d ih =>
    intro i out hi ho
    have e1 : rd ((List.range n).map f) (i : Int) = f i := rd_map f (by omega)
    cases hp : p i with
    | true =>
      have e := ih (i + 1) (out ++ [(i : Int)]) (by omega) (by simp; omega)
      rw [idx, hp, if_pos rfl, ← List.append_assoc]
      refine Ev.step (fun k => ?_) e
      rw [pull_indexes.l0, if_pos (by omega), e1, hf i (by omega), hp, wsucc i (by omega)]
      simp only [Option.bind_some, if_true, List.length_map, List.length_range]
      rw [if_pos (by omega), if_pos (by omega), if_pos (by omega)]
    | false =>
      have e := ih (i + 1) out (by omega) (by omega)
      rw [idx, hp, if_neg (by decide), List.nil_append]
      refine Ev.step (fun k => ?_) e
      rw [pull_indexes.l0, if_pos (by omega), e1, hf i (by omega), hp, wsucc i (by omega)]
      simp only [Option.bind_some, Bool.false_eq_true, if_false, List.length_map, List.length_range]
      rw [if_pos (by omega), if_pos (by omega)]
theorem idx_a {l : List Int} (hl : l.length = n) {B N : Nat → Int} (hf : ∀ j, j < n → p j = decide (B j > 0 ∧ N j > 0)) : ∀ (d i : Nat) (out : List Int), i + d = n → out.length ≤ i → Ev (fun k => dropperref04_Anchors.l0 k l ((List.range n).map B) ((List.range n).map N) out (i : Int)) (out ++ idx p i d, 0) := by
  intro d
  induction d with
  | zero =>
    intro i out hi ho
    refine ev_some _ fun k => ?_
    rw [dropperref04_Anchors.l0, if_neg (by omega), idx, List.append_nil]
  | succ d ih =>
    intro i out hi ho
    have e1 : rd ((List.range n).map B) (i : Int) = B i := rd_map B (by omega)
    have e2 : rd ((List.range n).map N) (i : Int) = N i := rd_map N (by omega)
    have h1 := hf i (by omega)
    by_cases c : B i > 0 ∧ N i > 0
    · have hp : p i = true := by rw [h1, decide_eq_true c]
      have e := ih (i + 1) (out ++ [(i : Int)]) (by omega) (by simp; omega)
      rw [idx, hp, if_pos rfl, ← List.append_assoc]
      refine Ev.step (fun k => ?_) e
      rw [dropperref04_Anchors.l0, if_pos (by omega), e1, e2, wsucc i (by omega)]
      simp only [List.length_map, List.length_range]
      rw [if_pos (by omega), if_pos (by omega), if_pos c.1, if_pos (by omega), if_pos c.2, if_pos (by omega)]
    · have hp : p i = false := by rw [h1, decide_eq_false c]
      have e := ih (i + 1) out (by omega) (by omega)
      rw [idx, hp, if_neg (by decide), List.nil_append]
      refine Ev.step (fun k => ?_) e
      rw [dropperref04_Anchors.l0, if_pos (by omega), e1, e2, wsucc i (by omega)]
      simp only [List.length_map, List.length_range]
      rw [if_pos (by omega), if_pos (by omega)]
      by_cases c1 : B i > 0
      · rw [if_pos c1, if_pos (by omega), if_neg (fun z => c ⟨c1, z⟩)]
      · rw [if_neg c1]
theorem idx_m {l : List Int} (hl : l.length = n) {B N : Nat → Int} (hf : ∀ j, j < n → p j = decide (wrap64 (B j * N j) = N 0)) : ∀ (d i : Nat) (out : List Int), i + d = n → out.length ≤ i → Ev (fun k => dropperref04_Must.l0 k l ((List.range n).map B) ((List.range n).map N) out (i : Int)) (out ++ idx p i d, 0) := by
  intro d
  induction d with
  | zero =>
    intro i out hi ho
    refine ev_some _ fun k => ?_
    rw [dropperref04_Must.l0, if_neg (by omega), idx, List.append_nil]
  | succ d ih =>
    intro i out hi ho
    have e1 : rd ((List.range n).map B) (i : Int) = B i := rd_map B (by omega)
    have e2 : rd ((List.range n).map N) (i : Int) = N i := rd_map N (by omega)
    have e0 : rd ((List.range n).map N) 0 = N 0 := rd_map N (i := 0) (by omega)
    have h1 := hf i (by omega)
    by_cases c : wrap64 (B i * N i) = N 0
    · have hp : p i = true := by rw [h1, decide_eq_true c]
      have e := ih (i + 1) (out ++ [(i : Int)]) (by omega) (by simp; omega)
      rw [idx, hp, if_pos rfl, ← List.append_assoc]
      refine Ev.step (fun k => ?_) e
      rw [dropperref04_Must.l0, if_pos (by omega), e1, e2, e0, wsucc i (by omega)]
      simp only [List.length_map, List.length_range]
      rw [if_pos (by omega), if_pos (by omega), if_pos (by omega), if_pos (by omega), if_pos c, if_pos (by omega)]
    · have hp : p i = false := by rw [h1, decide_eq_false c]
      have e := ih (i + 1) out (by omega) (by omega)
      rw [idx, hp, if_neg (by decide), List.nil_append]
      refine Ev.step (fun k => ?_) e
      rw [dropperref04_Must.l0, if_pos (by omega), e1, e2, e0, wsucc i (by omega)]
      simp only [List.length_map, List.length_range]
      rw [if_pos (by omega), if_pos (by omega), if_pos (by omega), if_pos (by omega), if_neg c]
end
theorem prod_pos {n : Nat} {M : Nat → Nat → Bool} {B N : Nat → Int} (hB : Bhd M n B) (hN : Onw M n N) (hn : n ≤ 30) {j : Nat} (hj : j < n) : decide (prF B N j > 0) = decide (B j > 0 ∧ N j > 0) := by
  have b1 := bhd_bd hB n j (by omega) hj
  have b2 := onw_bd hN n j hj (by omega)
  have m : B j * N j ≤ p2 j * p2 (n - 1 - j) := Int.mul_le_mul b1.2 b2.2 b2.1 (by have := p2_pos j; omega)
  rw [← p2_add] at m
  have ps := p2_small (a := j + (n - 1 - j)) (by omega)
  have m0 : 0 ≤ B j * N j := Int.mul_nonneg b1.1 b2.1
  unfold prF
  rw [w64 (by omega) (by omega)]
  refine decide_eq_decide.2 ⟨fun z => ?_, fun z => Int.mul_pos z.1 z.2⟩
  refine ⟨?_, ?_⟩
  · by_cases c : B j = 0
    · rw [c, Int.zero_mul] at z; omega
    · omega
  · by_cases c : N j = 0
    · rw [c, Int.mul_zero] at z; omega
    · omega
theorem anch_ev (l : List Int) (hl : l.length ≤ 50) (a b : Int) : ∃ R S : List Int × Int, R.1.length ≤ 50 ∧ S.1.length ≤ 50 ∧ Ev (fun k => pull_Anchors.f k l a b) R ∧ Ev (fun k => dropperref04_Anchors.f k l a b) R ∧ Ev (fun k => pull_Must.f k l a b) S ∧ Ev (fun k => dropperref04_Must.f k l a b) S := by
  obtain ⟨v, e1, e2, hv⟩ := valid_ev l hl a b
  obtain ⟨K1, s1⟩ := open_anch e1
  obtain ⟨K2, s2⟩ := e2
  cases v with
  | false =>
    refine ⟨([], 40), ([], 40), by simp, by simp, ⟨K1, fun k hk => ?_⟩, ⟨K2, fun k hk => ?_⟩, ⟨K1, fun k hk => ?_⟩, ⟨K2, fun k hk => ?_⟩⟩
    · have t : pull_open.f k l a b = some ([], 0, 0, 40) := s1 k hk
      dsimp only; unfold pull_Anchors.f; rw [t]; rfl
    · have t : dropperref04_Valid.f k l a b = some false := s2 k hk
      dsimp only; unfold dropperref04_Anchors.f; rw [t]; rfl
    · have t : pull_open.f k l a b = some ([], 0, 0, 40) := s1 k hk
      dsimp only; unfold pull_Must.f; rw [t]; rfl
    · have t : dropperref04_Valid.f k l a b = some false := s2 k hk
      dsimp only; unfold dropperref04_Must.f; rw [t]; rfl
  | true =>
    obtain ⟨h2, h30⟩ := hv rfl
    obtain ⟨N, hN⟩ := onw_ex (mayB l a b) (n := l.length) (by omega)
    obtain ⟨B, hB⟩ := bhd_ex (mayB l a b) l.length
    obtain ⟨K3, s3⟩ := anchors_ev hB hN h2 h30
    obtain ⟨K4, s4⟩ := onward_ev hN h30 h2
    obtain ⟨K5, s5⟩ := behind_ev hB h30 h2
    have e0 : rd ((List.range l.length).map N) 0 = N 0 := rd_map N (i := 0) (by omega)
    obtain ⟨K6, s6⟩ := idx_p (n := l.length) h30 (p := fun j => decide (B j > 0 ∧ N j > 0)) (f := prF B N) (fn := pull_Anchors_1.f) (fun j hj => by unfold pull_Anchors_1.f; rw [prod_pos hB hN h30 hj]) l.length 0 [] (by omega) (by simp)
    obtain ⟨K7, s7⟩ := idx_a (n := l.length) h30 (p := fun j => decide (B j > 0 ∧ N j > 0)) rfl (B := B) (N := N) (fun j hj => rfl) l.length 0 [] (by omega) (by simp)
    obtain ⟨K8, s8⟩ := idx_p (n := l.length) h30 (p := fun j => decide (wrap64 (B j * N j) = N 0)) (f := prF B N) (fn := fun z => pull_Must_1.f z (N 0)) (fun j hj => by unfold pull_Must_1.f prF; rfl) l.length 0 [] (by omega) (by simp)
    obtain ⟨K9, s9⟩ := idx_m (n := l.length) h30 (p := fun j => decide (wrap64 (B j * N j) = N 0)) rfl (B := B) (N := N) (fun j hj => rfl) l.length 0 [] (by omega) (by simp)
    have il := idx_len (fun j => decide (B j > 0 ∧ N j > 0)) l.length 0
    have im := idx_len (fun j => decide (wrap64 (B j * N j) = N 0)) l.length 0
    rw [List.nil_append] at s6 s7 s8 s9
    generalize idx (fun j => decide (B j > 0 ∧ N j > 0)) 0 l.length = X at *
    generalize idx (fun j => decide (wrap64 (B j * N j) = N 0)) 0 l.length = Y at *
    refine ⟨(X, 0), if N 0 = 0 then ([], 5) else (Y, 0), by dsimp only; omega, by split <;> simp <;> omega, ⟨K1 + K3 + K6, fun k hk => ?_⟩, ⟨K2 + K4 + K5 + K7, fun k hk => ?_⟩, ⟨K1 + K3 + K8, fun k hk => ?_⟩, ⟨K2 + K4 + K5 + K9, fun k hk => ?_⟩⟩
    · have t : pull_open.f k l a b = some (l, a, b, 0) := s1 k (by omega)
      have t3 := s3 k (by omega)
      have t6 := s6 k (by omega)
      dsimp only at t3 t6 ⊢
      unfold pull_Anchors.f pull_indexes.f
      rw [t]
      simp only [Option.bind_some, if_true]
      rw [t3]
      simp only [Option.bind_some, List.length_map, List.length_range]
      rw [show (0 : Int) = ((0 : Nat) : Int) from rfl, t6]
      rfl
    · have t : dropperref04_Valid.f k l a b = some true := s2 k (by omega)
      have t4 := s4 k (by omega)
      have t5 := s5 k (by omega)
      have t7 := s7 k (by omega)
      dsimp only at t4 t5 t7 ⊢
      unfold dropperref04_Anchors.f
      rw [t]
      simp only [Option.bind_some, if_true]
      rw [t5]
      simp only [Option.bind_some]
      rw [t4]
      exact t7
    · have t : pull_open.f k l a b = some (l, a, b, 0) := s1 k (by omega)
      have t3 := s3 k (by omega)
      have t8 := s8 k (by omega)
      dsimp only at t3 t8 ⊢
      unfold pull_Must.f pull_indexes.f
      rw [t]
      simp only [Option.bind_some, if_true]
      rw [t3]
      simp only [Option.bind_some, List.length_map, List.length_range]
      by_cases c : N 0 = 0
      · rw [if_pos c, if_pos c]
      · rw [if_neg c, if_neg c]
        have t8' : pull_indexes.l0 k (fun z0_ => pull_Must_1.f z0_ (N 0)) [] ((List.range l.length).map (prF B N)) (l.length : Int) 0 = some Y := t8
        rw [t8']
        rfl
    · have t : dropperref04_Valid.f k l a b = some true := s2 k (by omega)
      have t4 := s4 k (by omega)
      have t5 := s5 k (by omega)
      have t9 := s9 k (by omega)
      dsimp only at t4 t5 t9 ⊢
      unfold dropperref04_Must.f
      rw [t]
      simp only [Option.bind_some, if_true]
      rw [t5]
      simp only [Option.bind_some]
      rw [t4]
      simp only [Option.bind_some, List.length_map, List.length_range, e0]
      rw [if_pos (by omega)]
      by_cases c : N 0 = 0
      · rw [if_pos c, if_pos c]
      · rw [if_neg c, if_neg c]
        exact t9
theorem PullAnchors_pure (l : List Int) (a b : Int) (hx : ∀ x ∈ l, (Lit.int .i64 x).wf = true) (w0 : (Lit.int .i64 a).wf = true) (w1 : (Lit.int .i64 b).wf = true) : ∃ k, dropperlaw04_PullAnchors.f k l a b = some true := by
  obtain ⟨K0, s0⟩ := awake_num
  by_cases c : (l.length : Int) > 50
  · refine ⟨K0, ?_⟩
    have a0 := s0 K0 (Nat.le_refl _)
    dsimp only at a0
    unfold dropperlaw04_PullAnchors.f dropperlaw04_long.f
    rw [if_pos c]
    simp [a0]
  · have hl : l.length ≤ 50 := by omega
    obtain ⟨R, S, hR, hS, ⟨K1, s1⟩, ⟨K2, s2⟩, ⟨K3, s3⟩, ⟨K4, s4⟩⟩ := anch_ev l hl a b
    obtain ⟨K5, s5⟩ := same_anch (x := R.1) (by omega)
    obtain ⟨K6, s6⟩ := same_anch (x := S.1) (by omega)
    generalize hk : K0 + K1 + K2 + K3 + K4 + K5 + K6 = K
    have a0 := s0 K (by omega)
    have a1 := s1 K (by omega)
    have a2 := s2 K (by omega)
    have a3 := s3 K (by omega)
    have a4 := s4 K (by omega)
    have a5 := s5 K (by omega)
    have a6 := s6 K (by omega)
    dsimp only at a0 a1 a2 a3 a4 a5 a6
    refine ⟨K, ?_⟩
    unfold dropperlaw04_PullAnchors.f dropperlaw04_long.f
    rw [if_neg c, a1, a2, a3, a4]
    simp [a0, a5, a6]
end Go.Proofs.Ytiebfmenkpodeaa.G
