/- Functions of the seat and plain laws about them: PFits. -/
import Derived.Test.YtciepmpadcpkbaaZF12
import Derived.Test.YtciepmpadcpkbaaZF8
section
namespace Go.Proofs.Ytciepmpadcpkbaa.G
set_option linter.unusedVariables false
set_option linter.unusedSimpArgs false
open Go.RowKit Go.Proofs.YtciepmpadcpkbaaW.PrintWords Go.Proofs.YtciepmpadcpkbaaW.PrintLast
/-- The steps, as a list. -/
def stpL (l : List S72) (r n : Int) : List Int := (List.range (l.length - 1)).map (stp l r n)
theorem steps_list_loop {l : List S72} (h : okV l) {r n : Int} (hs : slope r n) : ∀ (d i : Nat) (x : List Int), l.length - 1 - i = d → i ≤ l.length - 1 → x.length = i → (∀ j, j < i → rd x (j : Int) = stp l r n j) → Ev (fun f => wire_Steps.l0 f (plc l r n) x ((l.length - 1 : Nat) : Int) i) (stpL l r n, 0) ∧ Ev (fun f => dropperref02_Steps.l0 f l r n x i) (stpL l r n, 0) := by
  intro d
  have hl1 := h.1
  induction d with
  | zero =>
    intro i x hd hi hx h1
    obtain rfl : i = l.length - 1 := by omega
    constructor
    · refine ev_some _ fun k => ?_
      rw [wire_Steps.l0, if_neg (by omega)]
      exact congrArg (fun z => some (z, (0 : Int))) (rd_ext hx h1)
    · refine ev_some _ fun k => ?_
      rw [dropperref02_Steps.l0, wsucc _ (by omega), if_neg (by omega)]
      exact congrArg (fun z => some (z, (0 : Int))) (rd_ext hx h1)
  | succ d ih =>
    intro i x hd hi hx h1
    have b := stp_bd h hs (i := i) (by omega)
    have b1 := pre_bd' h hs (i := i) (by omega)
    have e0 : pre l r n (i + 1) - pre l r n i = stp l r n i := by rw [pre]; omega
    have e3 : dst l r n i (i + 1) = stp l r n i := by rw [dst_le h hs (by omega) (by omega)]; exact e0
    obtain ⟨s1, s2⟩ := snoc_inv (f := stp l r n) hx h1 rfl
    obtain ⟨e1, e2⟩ := ih (i + 1) _ (by omega) (by omega) s1 s2
    constructor
    · refine Ev.step (fun k => ?_) e1
      rw [wire_Steps.l0, wsucc i (by omega), plc_len, if_pos (by omega), if_pos (by omega), if_pos (by omega), if_pos (by omega), if_pos (by omega), if_pos (by omega), rd_plc l r n (i := i + 1) (by omega), rd_plc l r n (i := i) (by omega), e0, w64 (by omega) (by omega)]
    · refine Ev.step (f := fun k => (dropperref02_steps.f k l r n i ((i + 1 : Nat) : Int)).bind fun t102 => (if x.length < 17592186044416 then (dropperref02_Steps.l0 k l r n (x ++ [t102]) ((i + 1 : Nat) : Int)) else (none))) (fun k => ?_) (Ev.bind (steps_ev h hs (i := i) (k := i + 1) (by omega) (by omega)) ?_)
      · rw [dropperref02_Steps.l0, wsucc i (by omega), if_pos (by omega)]
      · simp only [e3, if_pos (show x.length < 17592186044416 by omega)]
        exact e2
open Classical in
/-- What Steps tells. -/
noncomputable def stepsR (l : List S72) (r n : Int) : List Int × Int := if askE l r n = 0 then (stpL l r n, 0) else ([], askE l r n)
theorem wire_Steps_ev (l : List S72) (hl : l.length ≤ 9223372036854775807) (r n : Int) : Ev (fun f => wire_Steps.f f l r n) (stepsR l r n) := by
  refine Ev.bind (wire_asked_ev l hl r n) ?_
  unfold stepsR
  by_cases c : askE l r n = 0
  · obtain ⟨h, hs⟩ := askE_zero c
    have hl1 := h.1
    simp only [if_pos c, plc_len, List.length_drop]
    simp only [if_pos (show 1 ≤ (l.length : Int) by omega)]
    exact (steps_list_loop h hs (l.length - 1) 0 [] (by omega) (by omega) rfl (by omega)).1
  · simp only [if_neg c]
    exact Ev.now _
theorem ref_Steps_ev (l : List S72) (hl : l.length ≤ 9223372036854775807) (r n : Int) : Ev (fun f => dropperref02_Steps.f f l r n) (stepsR l r n) := by
  refine Ev.bind (ref_asked_ev l hl r n) ?_
  unfold stepsR
  by_cases c : askE l r n = 0
  · obtain ⟨h, hs⟩ := askE_zero c
    have hl1 := h.1
    simp only [if_pos c]
    exact (steps_list_loop h hs (l.length - 1) 0 [] (by omega) (by omega) rfl (by omega)).2
  · simp only [if_neg c]
    exact Ev.now _
theorem stepsR_len {l : List S72} (hl : l.length ≤ 50) (r n : Int) : (stepsR l r n).1.length ≤ 50 := by
  unfold stepsR
  split
  · simp only [stpL, List.length_map, List.length_range]; omega
  · simp
/-- The height at i fits. -/
def fit1 (l : List S72) (r n : Int) (x : List Int) (i : Nat) : Prop := ((wn l i).f1 ≤ rd x (i : Int) ∧ rd x (i : Int) ≤ (wn l i).f2) ∧ (i = 0 ∨ (-(stp l r n (i - 1)) ≤ rd x (i : Int) - rd x ((i - 1 : Nat) : Int) ∧ rd x (i : Int) - rd x ((i - 1 : Nat) : Int) ≤ stp l r n (i - 1)))
/-- Heights are a wire. -/
def fitP (l : List S72) (r n : Int) (x : List Int) : Prop := ∀ i, i < l.length → fit1 l r n x i
open Classical in
theorem fits_loop {l : List S72} (h : okV l) {r n : Int} (hs : slope r n) {x : List Int} (hx : x.length = l.length) (hb : hts x) : ∀ (d i : Nat), l.length - i = d → i ≤ l.length → (∀ j, j < i → fit1 l r n x j) → Ev (fun f => wire_Fits.l0 f l x (plc l r n) x x.length i) (decide (fitP l r n x), 0) ∧ Ev (fun f => dropperref02_Fits.l0 f l r n x i) (decide (fitP l r n x), 0) := by
  intro d
  have hl1 := h.1
  induction d with
  | zero =>
    intro i hd hi h1
    obtain rfl : i = l.length := by omega
    rw [decide_eq_true (show fitP l r n x from h1)]
    constructor
    · refine ev_some _ fun k => ?_
      rw [wire_Fits.l0, if_neg (by omega)]
    · refine ev_some _ fun k => ?_
      rw [dropperref02_Fits.l0, if_neg (by omega)]
  | succ d ih =>
    intro i hd hi h1
    have hlt : i < l.length := by omega
    have b1 := hb i (by omega)
    by_cases c : (wn l i).f1 ≤ rd x (i : Int) ∧ rd x (i : Int) ≤ (wn l i).f2
    · cases i with
      | zero =>
        obtain ⟨e1, e2⟩ := ih 1 (by omega) (by omega) (fun j hj => by
          obtain rfl : j = 0 := by omega
          exact ⟨c, .inl rfl⟩)
        constructor
        · refine Ev.step (fun k => ?_) e1
          rw [wire_Fits.l0, if_pos (by omega), if_pos (by omega), if_pos (by omega), if_pos (by omega), within_some, decide_eq_true c]
          simp only [Option.bind_some, if_true]
          rw [if_neg (by omega), wsucc 0 (by omega)]
        · refine Ev.step (fun k => ?_) e2
          rw [dropperref02_Fits.l0, if_pos (by omega), if_pos (by omega), if_pos (by omega), from_some, decide_eq_true c]
          simp only [Option.bind_some, if_true]
          rw [if_neg (by omega), wsucc 0 (by omega)]
      | succ j =>
        have b2 := hb j (by omega)
        have b3 := stp_bd h hs hlt
        have e3 : dst l r n j (j + 1) = stp l r n j := by rw [dst_le h hs (by omega) (by omega), pre]; omega
        have e4 : dst l r n (j + 1) j = stp l r n j := by rw [dst_comm]; exact e3
        have hd' : wrap64 (rd x ((j + 1 : Nat) : Int) - rd x (j : Int)) = rd x ((j + 1 : Nat) : Int) - rd x (j : Int) := w64 (by omega) (by omega)
        have hd2 : wrap64 (rd x (j : Int) - rd x ((j + 1 : Nat) : Int)) = rd x (j : Int) - rd x ((j + 1 : Nat) : Int) := w64 (by omega) (by omega)
        have hd3 : wrap64 (-(stp l r n j)) = -(stp l r n j) := w64 (by omega) (by omega)
        have red1 : ∀ k, wire_Fits.l0 (k + 1) l x (plc l r n) x x.length ((j + 1 : Nat) : Int) = if decide (-(stp l r n j) ≤ rd x ((j + 1 : Nat) : Int) - rd x (j : Int) ∧ rd x ((j + 1 : Nat) : Int) - rd x (j : Int) ≤ stp l r n j) = true then wire_Fits.l0 k l x (plc l r n) x x.length ((j + 1 + 1 : Nat) : Int) else some (false, 0) := by
          intro k
          rw [wire_Fits.l0, if_pos (by omega), if_pos (by omega), if_pos (by omega), if_pos (by omega), within_some, decide_eq_true c]
          simp only [Option.bind_some, if_true]
          rw [if_pos (by omega), wpred j (by omega), to_some h hs hlt (by omega), e4]
          simp only [Option.bind_some]
          rw [if_pos (by omega), if_pos (by omega), hd3, hd', within_some, wsucc (j + 1) (by omega)]
          rfl
        have red2 : Ev (fun k => dropperref02_steps.f k l r n (j : Int) ((j + 1 : Nat) : Int)) (stp l r n j) := e3 ▸ steps_ev h hs (i := j) (k := j + 1) (by omega) hlt
        have red3 : ∀ k, dropperref02_Fits.l0 (k + 1) l r n x ((j + 1 : Nat) : Int) = (dropperref02_steps.f k l r n (j : Int) ((j + 1 : Nat) : Int)).bind fun t111 => if (mx (rd x ((j + 1 : Nat) : Int) - rd x (j : Int)) (rd x (j : Int) - rd x ((j + 1 : Nat) : Int))) > t111 then some (false, 0) else dropperref02_Fits.l0 k l r n x ((j + 1 + 1 : Nat) : Int) := by
          intro k
          rw [dropperref02_Fits.l0, if_pos (by omega), if_pos (by omega), if_pos (by omega), from_some, decide_eq_true c]
          simp only [Option.bind_some, if_true]
          rw [if_pos (by omega), wpred j (by omega), if_pos (by omega), if_pos (by omega), hd', hd2, wsucc (j + 1) (by omega)]
        by_cases q : -(stp l r n j) ≤ rd x ((j + 1 : Nat) : Int) - rd x (j : Int) ∧ rd x ((j + 1 : Nat) : Int) - rd x (j : Int) ≤ stp l r n j
        · obtain ⟨e1, e2⟩ := ih (j + 1 + 1) (by omega) (by omega) (fun m hm => if z : m = j + 1 then by subst z; exact ⟨c, .inr q⟩ else h1 m (by omega))
          constructor
          · refine Ev.step (fun k => ?_) e1
            rw [red1 k, decide_eq_true q, if_pos rfl]
          · refine Ev.step red3 (Ev.bind red2 ?_)
            have q5 : ¬ (max (rd x ((j + 1 : Nat) : Int) - rd x (j : Int)) (rd x (j : Int) - rd x ((j + 1 : Nat) : Int)) > stp l r n j) := by omega
            simp only [mx_eq, if_neg q5]
            exact e2
        · have nf : ¬ fitP l r n x := fun z => by
            rcases (z (j + 1) hlt).2 with y | y
            · omega
            · exact q y
          rw [decide_eq_false nf]
          constructor
          · refine ev_some _ fun k => ?_
            rw [red1 k, decide_eq_false q, if_neg (by decide)]
          · refine Ev.step red3 (Ev.bind red2 ?_)
            have q5 : max (rd x ((j + 1 : Nat) : Int) - rd x (j : Int)) (rd x (j : Int) - rd x ((j + 1 : Nat) : Int)) > stp l r n j := by omega
            simp only [mx_eq, if_pos q5]
            exact Ev.now _
    · have nf : ¬ fitP l r n x := fun z => c (z i hlt).1
      rw [decide_eq_false nf]
      constructor
      · refine ev_some _ fun k => ?_
        rw [wire_Fits.l0, if_pos (by omega), if_pos (by omega), if_pos (by omega), if_pos (by omega), within_some, decide_eq_false c]
        simp
      · refine ev_some _ fun k => ?_
        rw [dropperref02_Fits.l0, if_pos (by omega), if_pos (by omega), if_pos (by omega), from_some, decide_eq_false c]
        simp
open Classical in
/-- What Fits tells. -/
noncomputable def fitsR (l : List S72) (r n : Int) (x : List Int) : Bool × Int := if askE l r n = 0 then (if x.length = l.length ∧ hts x then (decide (fitP l r n x), 0) else (false, 2)) else (false, askE l r n)
open Classical in
theorem wire_Fits_ev (l : List S72) (hl : l.length ≤ 9223372036854775807) (r n : Int) (x : List Int) (hx : x.length ≤ 9223372036854775807) : Ev (fun f => wire_Fits.f f l r n x) (fitsR l r n x) := by
  refine Ev.bind (wire_asked_ev l hl r n) ?_
  unfold fitsR
  by_cases c : askE l r n = 0
  · obtain ⟨h, hs⟩ := askE_zero c
    simp only [if_pos c]
    by_cases c1 : (x.length : Int) = (l.length : Int)
    · simp only [if_pos c1]
      refine Ev.bind (are_ev x hx) ?_
      by_cases c2 : hts x
      · simp only [decide_eq_true c2, if_true]
        rw [if_pos (show x.length = l.length ∧ hts x from ⟨by omega, c2⟩)]
        exact (fits_loop h hs (by omega) c2 l.length 0 (by omega) (by omega) (by omega)).1
      · simp only [decide_eq_false c2, if_false, Bool.false_eq_true]
        rw [if_neg (show ¬ (x.length = l.length ∧ hts x) from fun z => c2 z.2)]
        exact Ev.now _
    · simp only [if_neg c1]
      rw [if_neg (show ¬ (x.length = l.length ∧ hts x) from fun z => c1 (by omega))]
      exact Ev.now _
  · simp only [if_neg c]
    exact Ev.now _
open Classical in
theorem ref_Fits_ev (l : List S72) (hl : l.length ≤ 9223372036854775807) (r n : Int) (x : List Int) (hx : x.length ≤ 9223372036854775807) : Ev (fun f => dropperref02_Fits.f f l r n x) (fitsR l r n x) := by
  refine Ev.bind (ref_asked_ev l hl r n) ?_
  unfold fitsR
  by_cases c : askE l r n = 0
  · obtain ⟨h, hs⟩ := askE_zero c
    simp only [if_pos c]
    refine Ev.bind (heights_ev x hx l.length) ?_
    by_cases c2 : hts x ∧ (x.length : Int) = (l.length : Int)
    · simp only [decide_eq_true c2, if_true]
      rw [if_pos (show x.length = l.length ∧ hts x from ⟨by omega, c2.1⟩)]
      exact (fits_loop h hs (by omega) c2.1 l.length 0 (by omega) (by omega) (by omega)).2
    · simp only [decide_eq_false c2, if_false, Bool.false_eq_true]
      rw [if_neg (show ¬ (x.length = l.length ∧ hts x) from fun z => c2 ⟨z.2, by omega⟩)]
      exact Ev.now _
  · simp only [if_neg c]
    exact Ev.now _
open Classical in
theorem WireFits_pure (l : List S72) (r n : Int) (x : List Int) (hx : ∀ x ∈ l, (Lit.int .i64 x.f0).wf = true ∧ (Lit.int .i64 x.f1).wf = true ∧ (Lit.int .i64 x.f2).wf = true) (wr : (Lit.int .i64 r).wf = true) (wn_ : (Lit.int .i64 n).wf = true) (wx : ∀ y ∈ x, (Lit.int .i64 y).wf = true) : ∃ k_, dropperlaw02_WireFits.f k_ l r n x = some true := by
  obtain ⟨t, ⟨K0, s0⟩, ht⟩ := large_ev l [x] (by simp)
  obtain ⟨K1, s1⟩ := awake_ev
  cases t with
  | true =>
    refine ⟨K0 + K1, ?_⟩
    have a0 := s0 (K0 + K1) (by omega)
    have a1 := s1 (K0 + K1) (by omega)
    dsimp only at a0 a1
    unfold dropperlaw02_WireFits.f
    rw [a0]
    simp [a1]
  | false =>
    have hl : l.length ≤ 50 := (ht rfl).1
    have hx : x.length ≤ 50 := (ht rfl).2 x (by simp)
    obtain ⟨K2, s2⟩ := wire_Steps_ev l (by omega) r n
    obtain ⟨K3, s3⟩ := ref_Steps_ev l (by omega) r n
    obtain ⟨K4, s4⟩ := wire_Fits_ev l (by omega) r n x (by omega)
    obtain ⟨K5, s5⟩ := ref_Fits_ev l (by omega) r n x (by omega)
    obtain ⟨K6, s6⟩ := wire_valid_ev l (by omega)
    obtain ⟨K7, s7⟩ := ref_valid_ev l (by omega)
    obtain ⟨K8, s8⟩ := same_ev (stepsR l r n).1 (by have := stepsR_len hl r n; omega)
    generalize hk : K0 + K1 + K2 + K3 + K4 + K5 + K6 + K7 + K8 = K
    have a0 := s0 K (by omega)
    have a1 := s1 K (by omega)
    have a2 := s2 K (by omega)
    have a3 := s3 K (by omega)
    have a4 := s4 K (by omega)
    have a5 := s5 K (by omega)
    have a6 := s6 K (by omega)
    have a7 := s7 K (by omega)
    have a8 := s8 K (by omega)
    dsimp only at a0 a1 a2 a3 a4 a5 a6 a7 a8
    refine ⟨K, ?_⟩
    unfold dropperlaw02_WireFits.f
    rw [a0]
    generalize stepsR l r n = y at *
    generalize fitsR l r n x = z at *
    simp [a1, a2, a3, a4, a5, a6, a7, a8]
end Go.Proofs.Ytciepmpadcpkbaa.G
end
