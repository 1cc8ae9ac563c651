/- The law ArmBlocks of the printed functions: both programs' blocks are the pairs of neighbouring pieces, and both tell the same lists as blocks. Plain Lean. -/
import Derived.Test.YtiapmkndgalgnaaPPieces
import Derived.Test.YtiapmkndgalgnaaGF12
namespace Go.Proofs.Ytiapmkndgalgnaa.G
set_option linter.unusedVariables false
open Go.RowKit Go.Proofs.YtiapmkndgalgnaaW.PrintWords Go.Proofs.YtiapmkndgalgnaaW.PrintLast

/-- The pairs of neighbours, from the i-th number on. -/
def bg (ps : List Int) : Nat → Nat → List S84 → List S84
  | 0, _, out => out
  | d + 1, i, out => bg ps d (i + 1) (out ++ [(⟨rd ps (i : Int), rd ps ((i + 1 : Nat) : Int)⟩ : S84)])
theorem bg_len (ps : List Int) : ∀ (d i : Nat) (out : List S84), (bg ps d i out).length = out.length + d
  | 0, i, out => rfl
  | d + 1, i, out => by rw [bg, bg_len, List.length_append, List.length_singleton]; omega
theorem rd_drop1 (ps : List Int) (i : Nat) : rd (ps.drop 1) (i : Int) = rd ps ((i + 1 : Nat) : Int) := by
  simp [rd, List.getD_eq_getElem?_getD]

theorem ref_blocks_loop {ps : List Int} (hps : ps.length ≤ 1000000) (e : Int) : ∀ (d i : Nat) (out : List S84), i + 1 + d = ps.length → out.length ≤ i →
    Ev (fun k => dropperref03_Blocks.l0 k ps e out ((i + 1 : Nat) : Int)) (bg ps d i out, e) := by
  intro d
  induction d with
  | zero =>
    intro i out hd ho
    exact ev_some _ fun k => by rw [dropperref03_Blocks.l0, if_neg (by omega)]; rfl
  | succ d ih =>
    intro i out hd ho
    have hw : wrap64 (((i + 1 : Nat) : Int) - 1) = (i : Int) := by rw [w64 (by omega) (by omega)]; omega
    have hw2 : wrap64 (((i + 1 : Nat) : Int) + 1) = ((i + 1 + 1 : Nat) : Int) := by rw [w64 (by omega) (by omega)]; rfl
    refine Ev.step (fun k => ?_) (ih (i + 1) (out ++ [(⟨rd ps (i : Int), rd ps ((i + 1 : Nat) : Int)⟩ : S84)]) (by omega) (by rw [List.length_append, List.length_singleton]; omega))
    rw [dropperref03_Blocks.l0, if_pos (by omega), hw, if_pos (by omega), if_pos (by omega), if_pos (by omega), if_pos (by omega), hw2]

theorem arm_blocks_loop {ps : List Int} (hps : ps.length ≤ 1000000) : ∀ (d i : Nat) (out : List S84), i + 1 + d = ps.length → out.length ≤ i →
    Ev (fun k => arm_Blocks.l0 k out (rd ps (i : Int)) (ps.drop 1) ((ps.drop 1).length : Int) (i : Int)) (bg ps d i out, 0) := by
  intro d
  induction d with
  | zero =>
    intro i out hd ho
    have hl : (ps.drop 1).length = ps.length - 1 := List.length_drop
    exact ev_some _ fun k => by rw [arm_Blocks.l0, if_neg (by omega)]; rfl
  | succ d ih =>
    intro i out hd ho
    have hl : (ps.drop 1).length = ps.length - 1 := List.length_drop
    have hw2 : wrap64 ((i : Int) + 1) = ((i + 1 : Nat) : Int) := by rw [w64 (by omega) (by omega)]; rfl
    refine Ev.step (fun k => ?_) (ih (i + 1) (out ++ [(⟨rd ps (i : Int), rd ps ((i + 1 : Nat) : Int)⟩ : S84)]) (by omega) (by rw [List.length_append, List.length_singleton]; omega))
    rw [arm_Blocks.l0, if_pos (by omega), if_pos (by omega), if_pos (by omega), if_pos (by omega), hw2, rd_drop1]

theorem gr_head (l : List S73) : ∀ (d i : Nat) (out : List Int) (p : Nat), (∀ x, (out ++ [(p : Int)]).head? = some x → x = 0) → ∀ x, (gr l d i out p).head? = some x → x = 0
  | 0, i, out, p, h => by rw [gr]; exact h
  | d + 1, i, out, p, h => by
    rw [gr]
    split
    · exact gr_head l d (i + 1) out p h
    · refine gr_head l d (i + 1) (out ++ [(p : Int)]) i ?_
      intro x hx
      refine h x ?_
      cases out with
      | nil => simpa using hx
      | cons a b => simpa using hx
theorem gr_pos (l : List S73) : ∀ (d i : Nat) (out : List Int) (p : Nat), 1 ≤ (gr l d i out p).length
  | 0, i, out, p => by rw [gr]; simp
  | d + 1, i, out, p => by
    rw [gr]
    split
    · exact gr_pos l d (i + 1) out p
    · exact gr_pos l d (i + 1) _ i
theorem gp_zero (l : List S73) : rd (gp l) 0 = 0 := by
  have h := gr_head l (l.length - 1) 1 [] 0 (by intro x hx; simpa using hx.symm)
  unfold gp
  cases e : gr l (l.length - 1) 1 [] 0 with
  | nil => rfl
  | cons a b =>
    rw [e] at h
    have := h a rfl
    simp [rd, this]

/-- What Blocks answers. -/
noncomputable def blkR (l : List S73) : List S84 × Int := if okV l = true then (bg (gp l) ((gp l).length - 1) 0 [], 0) else ([], 20)
theorem gp_len (l : List S73) : 1 ≤ (gp l).length ∧ (gp l).length ≤ l.length + 1 := by
  have h1 := gr_pos l (l.length - 1) 1 [] 0
  have h2 := gr_len l (l.length - 1) 1 [] 0
  unfold gp
  simp only [List.length_nil] at h2
  omega

theorem arm_Blocks_ev (l : List S73) (hl : l.length ≤ 4611686018427387904) : Ev (fun k => arm_Blocks.f k l) (blkR l) := by
  have v1 := arm_valid_ev l hl
  unfold blkR
  cases hv : okV l with
  | false => rw [hv] at v1; exact Ev.bind v1 (Ev.now _)
  | true =>
    rw [hv] at v1
    obtain ⟨h, h1, h30⟩ := okV_okl hv
    have hg := gp_len l
    refine Ev.bind v1 ?_
    simp only [if_true]
    refine Ev.bind (arm_pieces_ev h h1 h30) ?_
    have e := arm_blocks_loop (ps := gp l) (by omega) ((gp l).length - 1) 0 [] (by omega) (by simp)
    rw [show ((0 : Nat) : Int) = 0 from rfl, gp_zero] at e
    refine Ev.congr (fun k => ?_) e
    rw [if_pos (by omega)]
    rfl

theorem ref_Blocks_ev (l : List S73) (hl : l.length ≤ 4611686018427387904) : Ev (fun k => dropperref03_Blocks.f k l) (blkR l) := by
  have v1 := ref_Pieces_ev l hl
  unfold blkR
  cases hv : okV l with
  | false =>
    rw [hv] at v1
    refine Ev.bind v1 ?_
    exact ev_some _ fun k => by rw [if_neg (by decide), dropperref03_Blocks.l0, if_neg (by decide)]; rfl
  | true =>
    rw [hv] at v1
    obtain ⟨h, h1, h30⟩ := okV_okl hv
    have hg := gp_len l
    refine Ev.bind v1 ?_
    simp only [if_true]
    exact ref_blocks_loop (ps := gp l) (by omega) 0 ((gp l).length - 1) 0 [] (by omega) (by simp)

theorem same_blocks_loop (l : List S84) (hl : l.length ≤ 4611686018427387904) : ∀ (d i : Nat), l.length - i = d → i ≤ l.length → Ev (fun k => dropperlaw03_sameBlocks.l0 k l l i) true := by
  intro d
  induction d with
  | zero =>
    intro i hd hi
    refine ev_some _ fun k => ?_
    rw [dropperlaw03_sameBlocks.l0, if_neg (by omega)]
  | succ d ih =>
    intro i hd hi
    have hw : wrap64 ((i : Int) + 1) = ((i + 1 : Nat) : Int) := by rw [w64 (by omega) (by omega)]; rfl
    refine Ev.step (fun k => ?_) (ih (i + 1) (by omega) (by omega))
    rw [dropperlaw03_sameBlocks.l0, if_pos (by omega), if_pos (by omega), if_pos (by omega), if_neg (by simp), hw]
theorem same_blocks_ev (l : List S84) (hl : l.length ≤ 4611686018427387904) : Ev (fun k => dropperlaw03_sameBlocks.f k l l) true := by
  refine Ev.congr (fun k => ?_) (same_blocks_loop l hl l.length 0 (by omega) (by omega))
  unfold dropperlaw03_sameBlocks.f
  rw [if_pos rfl]; rfl

/-- A pair that is no block, behind one that ended at e. -/
def BadB (l : List S73) (a b e : Int) : Prop := a < e ∨ b ≤ a ∨ (l.length : Int) ≤ b ∨ Feas (seg l a.toNat (b + 1).toNat)
open Classical in
/-- Which pair is the first that is no block. -/
noncomputable def wgo (l : List S73) (bs : List S84) : Nat → Nat → Int → Int × Int
  | 0, _, e => (-1, e)
  | d + 1, i, e => if BadB l (rd_T84 bs (i : Int)).f0 (rd_T84 bs (i : Int)).f1 e then ((i : Int), e) else wgo l bs d (i + 1) (rd_T84 bs (i : Int)).f1

open Classical in
theorem lit_ev {l : List S73} (h : Okl l) (hl : l.length ≤ 30) (a b e : Int) (he : 0 ≤ e) : Ev (fun k => arm_AreBlocks_1.f k a b e l) (if BadB l a b e then (true, e) else (false, b)) := by
  unfold BadB
  by_cases c1 : a < e
  · rw [if_pos (.inl c1)]
    exact ev_some _ fun k => by unfold arm_AreBlocks_1.f; rw [if_pos c1]
  by_cases c2 : b ≤ a
  · rw [if_pos (.inr (.inl c2))]
    exact ev_some _ fun k => by unfold arm_AreBlocks_1.f; rw [if_neg c1, if_pos c2]
  by_cases c3 : (l.length : Int) ≤ b
  · rw [if_pos (.inr (.inr (.inl c3)))]
    exact ev_some _ fun k => by unfold arm_AreBlocks_1.f; rw [if_neg c1, if_neg c2, if_pos c3]
  have hw : wrap64 (b + 1) = b + 1 := w64 (by omega) (by omega)
  have c := can_ev (seg_ok h a.toNat (b + 1).toNat) (by have := seg_len l a.toNat (b + 1).toNat; omega)
  refine Ev.congr (f := fun k => (arm_can.f k (seg l a.toNat (b + 1).toNat)).bind fun t => if t = true then some (true, e) else some (false, b)) (fun k => ?_) ?_
  · unfold arm_AreBlocks_1.f
    rw [if_neg c1, if_neg c2, if_neg c3, hw, if_pos (by omega), if_pos (by omega), if_pos (by omega)]
    rfl
  · refine Ev.bind c ?_
    by_cases f : Feas (seg l a.toNat (b + 1).toNat)
    · simp only [f, or_true, decide_true, if_true]
      exact Ev.now _
    · simp only [f, c1, c2, c3, or_self, decide_false, if_false, Bool.false_eq_true]
      exact Ev.now _

theorem arm_idx {l : List S73} (h : Okl l) (hl : l.length ≤ 30) {bs : List S84} (hbs : bs.length ≤ 50) : ∀ (d i : Nat) (e : Int), bs.length - i = d → i ≤ bs.length → 0 ≤ e →
    ∃ K, ∀ k, K ≤ k → ∀ n, d < n → arm_AreBlocks.i0 n bs (fun a b c => arm_AreBlocks_1.f k a b c l) (bs.length : Int) (i : Int) e = some (wgo l bs d i e) := by
  intro d
  induction d with
  | zero =>
    intro i e hd hi he
    refine ⟨0, fun k _ n hn => ?_⟩
    obtain ⟨m, rfl⟩ : ∃ m, n = m + 1 := ⟨n - 1, by omega⟩
    rw [arm_AreBlocks.i0, if_neg (by omega)]
    rfl
  | succ d ih =>
    intro i e hd hi he
    have hw : wrap64 ((i : Int) + 1) = ((i + 1 : Nat) : Int) := by rw [w64 (by omega) (by omega)]; rfl
    obtain ⟨K1, s1⟩ := lit_ev h hl (rd_T84 bs (i : Int)).f0 (rd_T84 bs (i : Int)).f1 e he
    by_cases c : BadB l (rd_T84 bs (i : Int)).f0 (rd_T84 bs (i : Int)).f1 e
    · refine ⟨K1, fun k hk n hn => ?_⟩
      obtain ⟨m, rfl⟩ : ∃ m, n = m + 1 := ⟨n - 1, by omega⟩
      have a1 := s1 k hk
      rw [if_pos c] at a1
      dsimp only at a1
      rw [arm_AreBlocks.i0, if_pos (by omega), if_pos (by omega), if_pos (by omega), a1, wgo, if_pos c]
      rfl
    · have hb : 0 ≤ (rd_T84 bs (i : Int)).f1 := by unfold BadB at c; omega
      obtain ⟨K2, s2⟩ := ih (i + 1) (rd_T84 bs (i : Int)).f1 (by omega) (by omega) hb
      refine ⟨K1 + K2, fun k hk n hn => ?_⟩
      obtain ⟨m, rfl⟩ : ∃ m, n = m + 1 := ⟨n - 1, by omega⟩
      have a1 := s1 k (by omega)
      rw [if_neg c] at a1
      dsimp only at a1
      have a2 := s2 k (by omega) m (by omega)
      rw [arm_AreBlocks.i0, if_pos (by omega), if_pos (by omega), if_pos (by omega), a1, wgo, if_neg c, hw]
      exact a2

/-- What AreBlocks answers. -/
noncomputable def areR (l : List S73) (bs : List S84) : Bool × Int := if okV l = true then (if bs.length ≤ 30 then (decide ((wgo l bs bs.length 0 0).1 < 0), 0) else (false, 0)) else (false, 20)

theorem arm_AreBlocks_ev (l : List S73) (hl : l.length ≤ 4611686018427387904) {bs : List S84} (hbs : bs.length ≤ 50) : Ev (fun k => arm_AreBlocks.f k l bs) (areR l bs) := by
  have v1 := arm_valid_ev l hl
  unfold areR
  cases hv : okV l with
  | false => rw [hv] at v1; exact Ev.bind v1 (Ev.now _)
  | true =>
    rw [hv] at v1
    obtain ⟨h, h1, h30⟩ := okV_okl hv
    refine Ev.bind v1 ?_
    simp only [if_true]
    by_cases c : bs.length ≤ 30
    · obtain ⟨K, s⟩ := arm_idx h h30 hbs bs.length 0 0 (by omega) (by omega) (by omega)
      refine ⟨K + bs.length + 1, fun k hk => ?_⟩
      have a := s k (by omega) k (by omega)
      dsimp only
      rw [if_pos (by omega), if_pos c]
      unfold arm_AreBlocks.c
      rw [show ((0 : Nat) : Int) = 0 from rfl] at a
      rw [a]
      generalize wgo l bs bs.length 0 0 = x
      show some (!decide (x.1 ≥ 0), (0 : Int)) = some (decide (x.1 < 0), 0)
      by_cases z : x.1 < 0
      · rw [decide_eq_true z, decide_eq_false (by omega)]; rfl
      · rw [decide_eq_false z, decide_eq_true (by omega)]; rfl
    · exact ev_some _ fun k => by rw [if_neg (by omega), if_neg c]

open Classical in
theorem ref_blk_loop {l : List S73} (h : Okl l) (hl : l.length ≤ 30) {bs : List S84} (hbs : bs.length ≤ 50) : ∀ (d i : Nat) (e : Int), bs.length - i = d → i ≤ bs.length → 0 ≤ e → e = (if i = 0 then 0 else (rd_T84 bs ((i - 1 : Nat) : Int)).f1) →
    Ev (fun k => dropperref03_AreBlocks.l0 k l bs (i : Int)) (decide ((wgo l bs d i e).1 < 0), 0) := by
  intro d
  induction d with
  | zero =>
    intro i e hd hi he hq
    exact ev_some _ fun k => by rw [dropperref03_AreBlocks.l0, if_neg (by omega)]; rfl
  | succ d ih =>
    intro i e hd hi he hq
    have hw : wrap64 ((i : Int) + 1) = ((i + 1 : Nat) : Int) := by rw [w64 (by omega) (by omega)]; rfl
    have q1 : (i : Int) < (bs.length : Int) := by omega
    have q2 : (0 : Int) ≤ (i : Int) := by omega
    have ih' := fun hb => ih (i + 1) (rd_T84 bs (i : Int)).f1 (by omega) (by omega) hb (by rw [if_neg (by omega)]; rfl)
    rw [wgo]
    generalize hx : rd_T84 bs (i : Int) = x at ih' ⊢
    have bad : BadB l x.f0 x.f1 e → decide ((if BadB l x.f0 x.f1 e then ((i : Int), e) else wgo l bs d (i + 1) x.f1).1 < 0) = false := fun z => by
      rw [if_pos z]; exact decide_eq_false (by dsimp only; omega)
    by_cases c0 : x.f0 < 0
    · rw [bad (.inl (by omega))]
      exact ev_some _ fun k => by rw [dropperref03_AreBlocks.l0, if_pos q1, if_pos q2, hx, if_pos c0]
    by_cases c2 : x.f1 ≤ x.f0
    · rw [bad (.inr (.inl c2))]
      exact ev_some _ fun k => by rw [dropperref03_AreBlocks.l0, if_pos q1, if_pos q2, hx, if_neg c0, if_pos c2]
    by_cases c3 : x.f1 ≥ (l.length : Int)
    · rw [bad (.inr (.inr (.inl c3)))]
      exact ev_some _ fun k => by rw [dropperref03_AreBlocks.l0, if_pos q1, if_pos q2, hx, if_neg c0, if_neg c2, if_pos c3]
    have hw1 : wrap64 (x.f1 + 1) = x.f1 + 1 := w64 (by omega) (by omega)
    have cs := some_ev (seg_ok h x.f0.toNat (x.f1 + 1).toNat) (by have := seg_len l x.f0.toNat (x.f1 + 1).toNat; omega)
    have go : ¬ x.f0 < e → Ev (fun k => (dropperref03_Some.f k (seg l x.f0.toNat (x.f1 + 1).toNat)).bind fun t => if t = true then some (false, (0 : Int)) else dropperref03_AreBlocks.l0 k l bs ((i + 1 : Nat) : Int)) (decide ((if BadB l x.f0 x.f1 e then ((i : Int), e) else wgo l bs d (i + 1) x.f1).1 < 0), 0) := fun c1 => by
      refine Ev.bind cs ?_
      by_cases f : Feas (seg l x.f0.toNat (x.f1 + 1).toNat)
      · rw [bad (.inr (.inr (.inr f)))]
        simp only [f, decide_true, if_true]
        exact Ev.now _
      · rw [if_neg (show ¬ BadB l x.f0 x.f1 e by unfold BadB; simp only [f, or_false]; omega)]
        simp only [f, decide_false, if_false, Bool.false_eq_true]
        exact ih' (by omega)
    by_cases ci : i = 0
    · subst ci
      rw [if_pos rfl] at hq
      refine Ev.step (fun k => ?_) (go (by omega))
      rw [dropperref03_AreBlocks.l0, if_pos q1, if_pos q2, hx, if_neg c0, if_neg c2, if_neg c3, if_neg (by omega), if_pos (by omega), hw1, if_pos (by omega), if_pos (by omega), hw]
      rfl
    · rw [if_neg ci] at hq
      have hw2 : wrap64 ((i : Int) - 1) = ((i - 1 : Nat) : Int) := by rw [w64 (by omega) (by omega)]; omega
      by_cases c1 : x.f0 < e
      · rw [bad (.inl c1)]
        exact ev_some _ fun k => by rw [dropperref03_AreBlocks.l0, if_pos q1, if_pos q2, hx, if_neg c0, if_neg c2, if_neg c3, if_pos (by omega), hw2, if_pos (by omega), if_pos (by omega), ← hq, if_pos c1]
      · refine Ev.step (fun k => ?_) (go c1)
        rw [dropperref03_AreBlocks.l0, if_pos q1, if_pos q2, hx, if_neg c0, if_neg c2, if_neg c3, if_pos (by omega), hw2, if_pos (by omega), if_pos (by omega), ← hq, if_neg c1, if_pos (by omega), hw1, if_pos (by omega), if_pos (by omega), hw]
        rfl

theorem ref_AreBlocks_ev (l : List S73) (hl : l.length ≤ 4611686018427387904) {bs : List S84} (hbs : bs.length ≤ 50) : Ev (fun k => dropperref03_AreBlocks.f k l bs) (areR l bs) := by
  have v1 := ref_valid_ev l hl
  unfold areR
  cases hv : okV l with
  | false => rw [hv] at v1; exact Ev.bind v1 (Ev.now _)
  | true =>
    rw [hv] at v1
    obtain ⟨h, h1, h30⟩ := okV_okl hv
    refine Ev.bind v1 ?_
    simp only [if_true]
    by_cases c : bs.length ≤ 30
    · have e := ref_blk_loop h h30 hbs bs.length 0 0 (by omega) (by omega) (by omega) (by rw [if_pos rfl])
      refine Ev.congr (fun k => ?_) (Ev.congr (fun k => rfl) (by rw [if_pos c]; exact e))
      rw [if_neg (by omega)]
      rfl
    · exact ev_some _ fun k => by rw [if_pos (by omega), if_neg c]

theorem ArmBlocks_pure (l : List S73) (bs : List S84) (hx : ∀ x ∈ l, (Lit.int .i64 x.f0).wf = true ∧ (Lit.int .i64 x.f1).wf = true ∧ (Lit.int .i64 x.f2).wf = true) (hy : ∀ x ∈ bs, (Lit.int .i64 x.f0).wf = true ∧ (Lit.int .i64 x.f1).wf = true) : ∃ k, dropperlaw03_ArmBlocks.f k l bs = some true := by
  obtain ⟨K6, f1⟩ := first_ev
  by_cases c : (l.length : Int) > 40
  · refine ⟨K6 + 1, ?_⟩
    have := f1 K6 (Nat.le_refl _)
    dsimp only at this
    unfold dropperlaw03_ArmBlocks.f dropperlaw03_Long.f
    rw [decide_eq_true c]
    simp only [Option.bind_some, if_true]
    rw [dropperlaw03_ArmBlocks.j0]
    simp [this]
  by_cases c2 : (bs.length : Int) > 50
  · refine ⟨K6 + 1, ?_⟩
    have := f1 K6 (Nat.le_refl _)
    dsimp only at this
    unfold dropperlaw03_ArmBlocks.f dropperlaw03_Long.f
    rw [decide_eq_false c, decide_eq_true c2]
    simp only [Option.bind_some, if_false, Bool.false_eq_true]
    rw [dropperlaw03_ArmBlocks.j0]
    simp [this]
  have hl : l.length ≤ 4611686018427387904 := by omega
  have hbs : bs.length ≤ 50 := by omega
  obtain ⟨K1, s1⟩ := arm_Blocks_ev l hl
  obtain ⟨K2, s2⟩ := ref_Blocks_ev l hl
  obtain ⟨K3, s3⟩ := arm_AreBlocks_ev l hl hbs
  obtain ⟨K4, s4⟩ := ref_AreBlocks_ev l hl hbs
  obtain ⟨K5, s5⟩ := same_blocks_ev (blkR l).1 (by
    have := gp_len l
    unfold blkR
    split
    · rw [bg_len]; simp only [List.length_nil]; omega
    · simp)
  generalize hk : K1 + K2 + K3 + K4 + K5 + K6 = k
  have a1 := s1 k (by omega)
  have a2 := s2 k (by omega)
  have a3 := s3 k (by omega)
  have a4 := s4 k (by omega)
  have a5 := s5 k (by omega)
  have a6 := f1 k (by omega)
  dsimp only at a1 a2 a3 a4 a5 a6
  refine ⟨k + 1, ?_⟩
  unfold dropperlaw03_ArmBlocks.f dropperlaw03_Long.f
  rw [decide_eq_false c, decide_eq_false c2]
  simp only [Option.bind_some, if_false, Bool.false_eq_true]
  rw [dropperlaw03_ArmBlocks.j0]
  generalize blkR l = x at *
  generalize areR l bs = y at *
  simp [a1, a2, a3, a4, a5, a6]
end Go.Proofs.Ytiapmkndgalgnaa.G
