/- Pieces: the printed loops take the longest ones, and both programs agree on what pieces are. Plain Lean. -/
import Derived.Test.YtiapmkndgalgnaaPGeo
import Derived.Test.YtiapmkndgalgnaaPFirst
import Derived.Test.YtiapmkndgalgnaaGF27
namespace Go.Proofs.Ytiapmkndgalgnaa.G
set_option linter.unusedVariables false
open Go.RowKit Go.Proofs.YtiapmkndgalgnaaW.PrintWords Go.Proofs.YtiapmkndgalgnaaW.PrintLast

theorem feas_one {l : List S73} (h : Okl l) (h2 : l.length < 2) : Feas l := by
  match l, h2 with
  | [], _ => exact ⟨0, 0, by simp⟩
  | [w], _ =>
    refine ⟨0, w.f1, ?_⟩
    intro x hx
    simp at hx
    subst hx
    have : (x.f1 : Rat) ≤ x.f2 := Rat.intCast_le_intCast.2 (h.bnd x (by simp)).2.2.2.1
    unfold thr
    grind
/-- Windows from a to b, b without. -/
def seg (l : List S73) (a b : Nat) : List S73 := (l.take b).drop a
theorem seg_ok {l : List S73} (h : Okl l) (a b : Nat) : Okl (seg l a b) := h.sub ((List.drop_sublist _ _).trans (List.take_sublist _ _))
theorem seg_len (l : List S73) (a b : Nat) : (seg l a b).length ≤ l.length := by unfold seg; rw [List.length_drop, List.length_take]; omega
theorem rd_last (l : List Int) (p : Int) (i : Int) (h : i = (l.length : Int)) : rd (l ++ [p]) i = p := by
  subst h; simp [rd]
open Classical in
/-- The longest pieces, from window i on, the last one begun at p. -/
noncomputable def gr (l : List S73) : Nat → Nat → List Int → Nat → List Int
  | 0, _, out, p => out ++ [(p : Int)]
  | d + 1, i, out, p => if Feas (seg l p (i + 1)) then gr l d (i + 1) out p else gr l d (i + 1) (out ++ [(p : Int)]) i
theorem gr_len (l : List S73) : ∀ (d i : Nat) (out : List Int) (p : Nat), (gr l d i out p).length ≤ out.length + 1 + d
  | 0, i, out, p => by simp [gr]
  | d + 1, i, out, p => by
    rw [gr]
    split
    · have := gr_len l d (i + 1) out p; omega
    · have := gr_len l d (i + 1) (out ++ [(p : Int)]) i
      rw [List.length_append, List.length_singleton] at this; omega

open Classical in
theorem arm_pieces_loop {l : List S73} (h : Okl l) (hl : l.length ≤ 30) : ∀ (d i : Nat) (out : List Int) (p : Nat), l.length - i = d → i ≤ l.length → p ≤ i → out.length ≤ i →
    Ev (fun k => arm_pieces.l0 k l (out ++ [(p : Int)]) l.length i) (gr l d i out p) := by
  intro d
  induction d with
  | zero =>
    intro i out p hd hi hp ho
    refine ev_some _ fun k => ?_
    rw [arm_pieces.l0, if_neg (by omega), gr]
  | succ d ih =>
    intro i out p hd hi hp ho
    have hlen : ((out ++ [(p : Int)]).length : Int) = out.length + 1 := by simp
    have hlen' : (out ++ [(p : Int)]).length = out.length + 1 := by simp
    have hw : wrap64 ((i : Int) + 1) = ((i + 1 : Nat) : Int) := by rw [w64 (by omega) (by omega)]; rfl
    have hx : wrap64 (((out ++ [(p : Int)]).length : Int) - 1) = (out.length : Int) := by rw [hlen, w64 (by omega) (by omega)]; omega
    have hr := rd_last out (p : Int) (out.length : Int) rfl
    have c := can_ev (seg_ok h p (i + 1)) (by have := seg_len l p (i + 1); omega)
    have q1 : (i : Int) < (l.length : Int) := by omega
    have q2 : (0 : Int) ≤ (out.length : Int) := by omega
    have q3 : (out.length : Int) < ((out ++ [(p : Int)]).length : Int) := by omega
    have q4 : (0 : Int) ≤ (p : Int) := by omega
    have q5 : (p : Int) ≤ ((i + 1 : Nat) : Int) := by omega
    have q6 : ((i + 1 : Nat) : Int) ≤ (l.length : Int) := by omega
    have q7 : (out ++ [(p : Int)]).length < 17592186044416 := by omega
    have red : ∀ k, arm_pieces.l0 (k + 1) l (out ++ [(p : Int)]) l.length i = (arm_can.f k (seg l p (i + 1))).bind fun t => if t = true then arm_pieces.l0 k l (out ++ [(p : Int)]) l.length ((i + 1 : Nat) : Int) else arm_pieces.l0 k l (out ++ [(p : Int)] ++ [(i : Int)]) l.length ((i + 1 : Nat) : Int) := by
      intro k
      rewrite [arm_pieces.l0, if_pos q1, hx, if_pos q2, if_pos q3, hr, if_pos q4, hw, if_pos q5, if_pos q6, if_pos q7]
      simp only [Int.toNat_natCast]
      rfl
    refine Ev.step red ?_
    refine Ev.bind c ?_
    rw [gr]
    by_cases f : Feas (seg l p (i + 1))
    · simp only [f, decide_true, if_true]
      exact ih (i + 1) out p (by omega) (by omega) (by omega) (by omega)
    · simp only [f, decide_false, if_false, Bool.false_eq_true]
      exact ih (i + 1) (out ++ [(p : Int)]) i (by omega) (by omega) (by omega) (by omega)

/-- The longest pieces. -/
noncomputable def gp (l : List S73) : List Int := gr l (l.length - 1) 1 [] 0
theorem gr_first {l : List S73} (h : Okl l) (h1 : 1 ≤ l.length) : gr l l.length 0 [] 0 = gp l := by
  obtain ⟨d, hd⟩ : ∃ d, l.length = d + 1 := ⟨l.length - 1, by omega⟩
  rw [gp, hd, gr, if_pos]
  · rfl
  · refine feas_one (seg_ok h 0 1) ?_
    unfold seg; rw [List.length_drop, List.length_take]; omega

theorem arm_pieces_ev {l : List S73} (h : Okl l) (h1 : 1 ≤ l.length) (hl : l.length ≤ 30) : Ev (fun k => arm_pieces.f k l) (gp l) := by
  rw [← gr_first h h1]
  exact arm_pieces_loop h hl l.length 0 [] 0 (by omega) (by omega) (by omega) (by simp)
theorem arm_Pieces_ev (l : List S73) (hl : l.length ≤ 4611686018427387904) : Ev (fun k => arm_Pieces.f k l) (if okV l = true then (gp l, 0) else ([], 20)) := by
  have v1 := arm_valid_ev l hl
  cases hv : okV l with
  | false => rw [hv] at v1; exact Ev.bind v1 (Ev.now _)
  | true =>
    rw [hv] at v1
    obtain ⟨h, h1, h30⟩ := okV_okl hv
    refine Ev.bind v1 ?_
    simp only [if_true]
    exact Ev.bind (arm_pieces_ev h h1 h30) (Ev.now _)
end Go.Proofs.Ytiapmkndgalgnaa.G
