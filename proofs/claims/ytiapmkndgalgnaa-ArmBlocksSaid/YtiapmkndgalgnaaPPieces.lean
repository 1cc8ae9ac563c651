/- Pieces: the printed loops take the longest ones, and both programs agree on what pieces are. Plain Lean. -/
import Derived.Test.YtiapmkndgalgnaaPSome
import Derived.Test.YtiapmkndgalgnaaPFirst
import Derived.Test.YtiapmkndgalgnaaGF6
namespace Go.Proofs.Ytiapmkndgalgnaa.G
set_option linter.unusedVariables false
open Go.RowKit Go.Proofs.YtiapmkndgalgnaaW.PrintWords Go.Proofs.YtiapmkndgalgnaaW.PrintLast

/-- Windows from a to b, b without. -/
def seg (l : List S73) (a b : Nat) : List S73 := (l.take b).drop a
theorem seg_ok {l : List S73} (h : Okl l) (a b : Nat) : Okl (seg l a b) := h.sub ((List.drop_sublist _ _).trans (List.take_sublist _ _))
theorem seg_len (l : List S73) (a b : Nat) : (seg l a b).length ≤ l.length := by unfold seg; rw [List.length_drop, List.length_take]; omega
theorem rd_last (l : List Int) (p : Int) (i : Int) (h : i = (l.length : Int)) : rd (l ++ [p]) i = p := by
  subst h; simp [rd]
theorem same_ints (l : List Int) (hl : l.length ≤ 4611686018427387904) : ∀ (d i : Nat), l.length - i = d → i ≤ l.length → Ev (fun k => dropperlaw03_SameInts.l0 k l l i) true := by
  intro d
  induction d with
  | zero =>
    intro i hd hi
    refine ev_some _ fun k => ?_
    rw [dropperlaw03_SameInts.l0, if_neg (by omega)]
  | succ d ih =>
    intro i hd hi
    have hw : wrap64 ((i : Int) + 1) = ((i + 1 : Nat) : Int) := by rw [w64 (by omega) (by omega)]; rfl
    refine Ev.step (fun k => ?_) (ih (i + 1) (by omega) (by omega))
    rw [dropperlaw03_SameInts.l0, if_pos (by omega), if_pos (by omega), if_pos (by omega), if_pos rfl, hw]
theorem same_ints_ev (l : List Int) (hl : l.length ≤ 4611686018427387904) : Ev (fun k => dropperlaw03_SameInts.f k l l) true := by
  refine Ev.congr (fun k => ?_) (same_ints l hl l.length 0 (by omega) (by omega))
  unfold dropperlaw03_SameInts.f
  rw [if_pos rfl]; rfl

open Classical in
/-- The longest pieces, from window i on, the last one begun at p. -/
noncomputable def gr (l : List S73) : Nat → Nat → List Int → Nat → List Int
  | 0, _, out, p => out ++ [(p : Int)]
  | d + 1, i, out, p => if Feas (seg l p (i + 1)) then gr l d (i + 1) out p else gr l d (i + 1) (out ++ [(p : Int)]) i
theorem gr_len (l : List S73) : ∀ (d i : Nat) (out : List Int) (p : Nat), (gr l d i out p).length ≤ out.length + 1 + d
  | 0, i, out, p => by simp [gr]
  | d + 1, i, out, p => by
    rw [gr]
    split
    · have := gr_len l d (i + 1) out p; omega
    · have := gr_len l d (i + 1) (out ++ [(p : Int)]) i
      rw [List.length_append, List.length_singleton] at this; omega

open Classical in
theorem arm_pieces_loop {l : List S73} (h : Okl l) (hl : l.length ≤ 30) : ∀ (d i : Nat) (out : List Int) (p : Nat), l.length - i = d → i ≤ l.length → p ≤ i → out.length ≤ i →
    Ev (fun k => arm_pieces.l0 k l (out ++ [(p : Int)]) l.length i) (gr l d i out p) := by
  intro d
  induction d with
  | zero =>
    intro i out p hd hi hp ho
    refine ev_some _ fun k => ?_
    rw [arm_pieces.l0, if_neg (by omega), gr]
  | succ d ih =>
    intro i out p hd hi hp ho
    have hlen : ((out ++ [(p : Int)]).length : Int) = out.length + 1 := by simp
    have hlen' : (out ++ [(p : Int)]).length = out.length + 1 := by simp
    have hw : wrap64 ((i : Int) + 1) = ((i + 1 : Nat) : Int) := by rw [w64 (by omega) (by omega)]; rfl
    have hx : wrap64 (((out ++ [(p : Int)]).length : Int) - 1) = (out.length : Int) := by rw [hlen, w64 (by omega) (by omega)]; omega
    have hr := rd_last out (p : Int) (out.length : Int) rfl
    have c := can_ev (seg_ok h p (i + 1)) (by have := seg_len l p (i + 1); omega)
    have q1 : (i : Int) < (l.length : Int) := by omega
    have q2 : (0 : Int) ≤ (out.length : Int) := by omega
    have q3 : (out.length : Int) < ((out ++ [(p : Int)]).length : Int) := by omega
    have q4 : (0 : Int) ≤ (p : Int) := by omega
    have q5 : (p : Int) ≤ ((i + 1 : Nat) : Int) := by omega
    have q6 : ((i + 1 : Nat) : Int) ≤ (l.length : Int) := by omega
    have q7 : (out ++ [(p : Int)]).length < 17592186044416 := by omega
    have red : ∀ k, arm_pieces.l0 (k + 1) l (out ++ [(p : Int)]) l.length i = (arm_can.f k (seg l p (i + 1))).bind fun t => if t = true then arm_pieces.l0 k l (out ++ [(p : Int)]) l.length ((i + 1 : Nat) : Int) else arm_pieces.l0 k l (out ++ [(p : Int)] ++ [(i : Int)]) l.length ((i + 1 : Nat) : Int) := by
      intro k
      rewrite [arm_pieces.l0, if_pos q1, hx, if_pos q2, if_pos q3, hr, if_pos q4, hw, if_pos q5, if_pos q6, if_pos q7]
      simp only [Int.toNat_natCast]
      rfl
    refine Ev.step red ?_
    refine Ev.bind c ?_
    rw [gr]
    by_cases f : Feas (seg l p (i + 1))
    · simp only [f, decide_true, if_true]
      exact ih (i + 1) out p (by omega) (by omega) (by omega) (by omega)
    · simp only [f, decide_false, if_false, Bool.false_eq_true]
      exact ih (i + 1) (out ++ [(p : Int)]) i (by omega) (by omega) (by omega) (by omega)

open Classical in
theorem ref_pieces_loop {l : List S73} (h : Okl l) (hl : l.length ≤ 30) : ∀ (d i : Nat) (out : List Int) (p : Nat), l.length - i = d → i ≤ l.length → p ≤ i → out.length ≤ i →
    Ev (fun k => dropperref03_Pieces.l0 k l (out ++ [(p : Int)]) i) (gr l d i out p, 0) := by
  intro d
  induction d with
  | zero =>
    intro i out p hd hi hp ho
    refine ev_some _ fun k => ?_
    rw [dropperref03_Pieces.l0, if_neg (by omega), gr]
  | succ d ih =>
    intro i out p hd hi hp ho
    have hlen : ((out ++ [(p : Int)]).length : Int) = out.length + 1 := by simp
    have hlen' : (out ++ [(p : Int)]).length = out.length + 1 := by simp
    have hw : wrap64 ((i : Int) + 1) = ((i + 1 : Nat) : Int) := by rw [w64 (by omega) (by omega)]; rfl
    have hx : wrap64 (((out ++ [(p : Int)]).length : Int) - 1) = (out.length : Int) := by rw [hlen, w64 (by omega) (by omega)]; omega
    have hr := rd_last out (p : Int) (out.length : Int) rfl
    have c := some_ev (seg_ok h p (i + 1)) (by have := seg_len l p (i + 1); omega)
    have q1 : (i : Int) < (l.length : Int) := by omega
    have q2 : (0 : Int) ≤ (out.length : Int) := by omega
    have q3 : (out.length : Int) < ((out ++ [(p : Int)]).length : Int) := by omega
    have q4 : (0 : Int) ≤ (p : Int) := by omega
    have q5 : (p : Int) ≤ ((i + 1 : Nat) : Int) := by omega
    have q6 : ((i + 1 : Nat) : Int) ≤ (l.length : Int) := by omega
    have q7 : (out ++ [(p : Int)]).length < 17592186044416 := by omega
    have red : ∀ k, dropperref03_Pieces.l0 (k + 1) l (out ++ [(p : Int)]) i = (dropperref03_Some.f k (seg l p (i + 1))).bind fun t => if t = true then dropperref03_Pieces.l0 k l (out ++ [(p : Int)]) ((i + 1 : Nat) : Int) else dropperref03_Pieces.l0 k l (out ++ [(p : Int)] ++ [(i : Int)]) ((i + 1 : Nat) : Int) := by
      intro k
      rewrite [dropperref03_Pieces.l0, if_pos q1, hx, if_pos q2, if_pos q3, hr, if_pos q4, hw, if_pos q5, if_pos q6, if_pos q7]
      simp only [Int.toNat_natCast]
      rfl
    refine Ev.step red ?_
    refine Ev.bind c ?_
    rw [gr]
    by_cases f : Feas (seg l p (i + 1))
    · simp only [f, decide_true, if_true]
      exact ih (i + 1) out p (by omega) (by omega) (by omega) (by omega)
    · simp only [f, decide_false, if_false, Bool.false_eq_true]
      exact ih (i + 1) (out ++ [(p : Int)]) i (by omega) (by omega) (by omega) (by omega)

/-- The longest pieces. -/
noncomputable def gp (l : List S73) : List Int := gr l (l.length - 1) 1 [] 0
theorem gr_first {l : List S73} (h : Okl l) (h1 : 1 ≤ l.length) : gr l l.length 0 [] 0 = gp l := by
  obtain ⟨d, hd⟩ : ∃ d, l.length = d + 1 := ⟨l.length - 1, by omega⟩
  rw [gp, hd, gr, if_pos]
  · rfl
  · refine feas_one (seg_ok h 0 1) ?_
    unfold seg; rw [List.length_drop, List.length_take]; omega

theorem arm_pieces_ev {l : List S73} (h : Okl l) (h1 : 1 ≤ l.length) (hl : l.length ≤ 30) : Ev (fun k => arm_pieces.f k l) (gp l) := by
  rw [← gr_first h h1]
  exact arm_pieces_loop h hl l.length 0 [] 0 (by omega) (by omega) (by omega) (by simp)
theorem arm_Pieces_ev (l : List S73) (hl : l.length ≤ 4611686018427387904) : Ev (fun k => arm_Pieces.f k l) (if okV l = true then (gp l, 0) else ([], 20)) := by
  have v1 := arm_valid_ev l hl
  cases hv : okV l with
  | false => rw [hv] at v1; exact Ev.bind v1 (Ev.now _)
  | true =>
    rw [hv] at v1
    obtain ⟨h, h1, h30⟩ := okV_okl hv
    refine Ev.bind v1 ?_
    simp only [if_true]
    exact Ev.bind (arm_pieces_ev h h1 h30) (Ev.now _)
theorem ref_Pieces_ev (l : List S73) (hl : l.length ≤ 4611686018427387904) : Ev (fun k => dropperref03_Pieces.f k l) (if okV l = true then (gp l, 0) else ([], 20)) := by
  have v1 := ref_valid_ev l hl
  cases hv : okV l with
  | false => rw [hv] at v1; exact Ev.bind v1 (Ev.now _)
  | true =>
    rw [hv] at v1
    obtain ⟨h, h1, h30⟩ := okV_okl hv
    refine Ev.bind v1 ?_
    simp only [if_true]
    exact ref_pieces_loop h h30 (l.length - 1) 1 [] 0 (by omega) (by omega) (by omega) (by simp)

/-- Where the piece that begins at an index ends. -/
def toI (l : List S73) (ps : List Int) (j : Nat) : Int := if j + 1 < ps.length then rd ps ((j + 1 : Nat) : Int) else l.length
/-- The piece that begins at an index is one. -/
def PA (l : List S73) (ps : List Int) (j : Nat) : Prop := 0 ≤ rd ps (j : Int) ∧ rd ps (j : Int) < toI l ps j ∧ toI l ps j ≤ l.length ∧ Feas (seg l (rd ps (j : Int)).toNat (toI l ps j).toNat)
theorem all_from {P : Nat → Prop} {i n : Nat} (h : i < n) : (∀ j, i ≤ j → j < n → P j) ↔ P i ∧ ∀ j, i + 1 ≤ j → j < n → P j := by
  constructor
  · intro g; exact ⟨g i (Nat.le_refl _) h, fun j h1 h2 => g j (by omega) h2⟩
  · rintro ⟨g, g2⟩ j h1 h2
    by_cases e : j = i
    · subst e; exact g
    · exact g2 j (by omega) h2

open Classical in
theorem arm_are_loop {l : List S73} (h : Okl l) (hl : l.length ≤ 30) {ps : List Int} (hps : ps.length ≤ 50) : ∀ (d i : Nat) (r : Bool), ps.length - i = d → i ≤ ps.length → (r = true ↔ ∀ j, i ≤ j → j < ps.length → PA l ps j) →
    Ev (fun k => arm_ArePieces.l0 k l ps ps ps.length i) (r, 0) := by
  intro d
  induction d with
  | zero =>
    intro i r hd hi hr
    have : r = true := hr.2 (fun j _ _ => by omega)
    subst this
    refine ev_some _ fun k => ?_
    rw [arm_ArePieces.l0, if_neg (by omega)]
  | succ d ih =>
    intro i r hd hi hr
    have hlt : i < ps.length := by omega
    rw [all_from hlt] at hr
    have hw : wrap64 ((i : Int) + 1) = ((i + 1 : Nat) : Int) := by rw [w64 (by omega) (by omega)]; rfl
    have q1 : (i : Int) < (ps.length : Int) := by omega
    have q2 : (0 : Int) ≤ (i : Int) := by omega
    have q3 : (0 : Int) ≤ ((i + 1 : Nat) : Int) := by omega
    have ih' := ih (i + 1) r (by omega) (by omega)
    have red : ∀ k, arm_ArePieces.l0 (k + 1) l ps ps ps.length i = if rd ps (i : Int) < 0 then some (false, 0) else if rd ps (i : Int) ≥ toI l ps i then some (false, 0) else if toI l ps i > (l.length : Int) then some (false, 0) else
        (if 0 ≤ rd ps (i : Int) then if rd ps (i : Int) ≤ toI l ps i then if toI l ps i ≤ (l.length : Int) then (arm_can.f k (seg l (rd ps (i : Int)).toNat (toI l ps i).toNat)).bind fun t => if t = true then arm_ArePieces.l0 k l ps ps ps.length ((i + 1 : Nat) : Int) else some (false, 0) else none else none else none) := by
      intro k
      rewrite [arm_ArePieces.l0, if_pos q1, if_pos q2, if_pos q1, hw]
      by_cases c : i + 1 < ps.length
      · have c' : ((i + 1 : Nat) : Int) < (ps.length : Int) := by omega
        have e : toI l ps i = rd ps ((i + 1 : Nat) : Int) := by unfold toI; rw [if_pos c]
        rewrite [if_pos c', if_pos q3, e]
        rfl
      · have c' : ¬ ((i + 1 : Nat) : Int) < (ps.length : Int) := by omega
        have e : toI l ps i = (l.length : Int) := by unfold toI; rw [if_neg c]
        rewrite [if_neg c', e]
        rfl
    have no : ¬ PA l ps i → r = false := fun hn => by
      cases r with
      | false => rfl
      | true => exact absurd (hr.1 rfl).1 hn
    generalize hx : rd ps (i : Int) = x at *
    generalize hy : toI l ps i = y at *
    by_cases c1 : x < 0
    · rw [no (fun z => by have := z.1; omega)]
      exact ev_some _ fun k => by rw [red, if_pos c1]
    by_cases c2 : x ≥ y
    · rw [no (fun z => by have := z.2.1; omega)]
      exact ev_some _ fun k => by rw [red, if_neg c1, if_pos c2]
    by_cases c3 : y > (l.length : Int)
    · rw [no (fun z => by have := z.2.2.1; omega)]
      exact ev_some _ fun k => by rw [red, if_neg c1, if_neg c2, if_pos c3]
    have q4 : 0 ≤ x := by omega
    have q5 : x ≤ y := by omega
    have q6 : y ≤ (l.length : Int) := by omega
    have c := can_ev (seg_ok h x.toNat y.toNat) (by have := seg_len l x.toNat y.toNat; omega)
    refine Ev.step (fun k => (red k).trans (by rw [if_neg c1, if_neg c2, if_neg c3, if_pos q4, if_pos q5, if_pos q6])) ?_
    refine Ev.bind c ?_
    by_cases f : Feas (seg l x.toNat y.toNat)
    · simp only [f, decide_true, if_true]
      refine ih' (hr.trans ⟨fun z => z.2, fun z => ⟨⟨by omega, by omega, by omega, ?_⟩, z⟩⟩)
      rw [hx, hy]; exact f
    · simp only [f, decide_false, if_false, Bool.false_eq_true]
      rw [no (fun z => f (by have := z.2.2.2; rw [hx, hy] at this; exact this))]
      exact Ev.now _
end Go.Proofs.Ytiapmkndgalgnaa.G
