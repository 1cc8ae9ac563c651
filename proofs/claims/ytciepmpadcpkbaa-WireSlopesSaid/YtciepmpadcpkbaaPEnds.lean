/- The law WireEnds of the printed functions: the highest wire and the room. Plain Lean. -/
import Derived.Test.YtciepmpadcpkbaaPLaw
import Derived.Test.YtciepmpadcpkbaaPLow
import Derived.Test.YtciepmpadcpkbaaGF10
namespace Go.Proofs.Ytciepmpadcpkbaa.G
set_option linter.unusedVariables false
set_option linter.unusedSimpArgs false
open Go.RowKit Go.Proofs.YtciepmpadcpkbaaW.PrintWords Go.Proofs.YtciepmpadcpkbaaW.PrintLast
/-- Each number of the windows is one of 64 bits. -/
def wf64 (l : List S72) : Prop := ∀ x ∈ l, (Lit.int .i64 x.f0).wf = true ∧ (Lit.int .i64 x.f1).wf = true ∧ (Lit.int .i64 x.f2).wf = true
theorem i64_of {x : Int} (h : (Lit.int .i64 x).wf = true) : -9223372036854775808 ≤ x ∧ x ≤ 9223372036854775807 := by
  simp only [Lit.wf, Bool.and_eq_true, decide_eq_true_eq] at h
  exact h
theorem wn_mem {l : List S72} {i : Nat} (h : i < l.length) : wn l i ∈ l := by
  have : wn l i = l[i] := by simp [wn, rd_T72, List.getD_eq_getElem?_getD, h]
  rw [this]; exact List.getElem_mem h
theorem drop_wn (l : List S72) (i : Nat) (h : i < l.length) : l.drop i = wn l i :: l.drop (i + 1) := by
  have : wn l i = l[i] := by simp [wn, rd_T72, List.getD_eq_getElem?_getD, h]
  rw [this]; exact List.drop_eq_getElem_cons h
/-- A window upside down. -/
def flip (x : S72) : S72 := ⟨x.f0, wrap64 (-x.f2), wrap64 (-x.f1)⟩
theorem wn_flip {l : List S72} {i : Nat} (h : i < l.length) : wn (l.map flip) i = flip (wn l i) := by
  simp [wn, rd_T72, List.getD_eq_getElem?_getD, h]
theorem good_flip {l : List S72} (hw : wf64 l) {i : Nat} (hi : i < l.length) : good (l.map flip) i ↔ good l i := by
  unfold good
  rw [wn_flip hi]
  obtain ⟨_, w1, w2⟩ := hw _ (wn_mem hi)
  have b1 := i64_of w1
  have b2 := i64_of w2
  have e : (wn (l.map flip) (i - 1)).f0 = (wn l (i - 1)).f0 := by rw [wn_flip (by omega)]; rfl
  rw [e]
  have key : (-10000 ≤ wrap64 (-(wn l i).f2) ∧ wrap64 (-(wn l i).f2) ≤ wrap64 (-(wn l i).f1) ∧ wrap64 (-(wn l i).f1) ≤ 10000) ↔ (-10000 ≤ (wn l i).f1 ∧ (wn l i).f1 ≤ (wn l i).f2 ∧ (wn l i).f2 ≤ 10000) := by
    generalize (wn l i).f1 = a at *
    generalize (wn l i).f2 = b at *
    unfold wrap64
    omega
  unfold flip
  dsimp only
  rw [key]
theorem okV_flip {l : List S72} (hw : wf64 l) : okV (l.map flip) ↔ okV l := by
  unfold okV
  rw [List.length_map]
  exact ⟨fun h => ⟨h.1, fun i hi => (good_flip hw hi).1 (h.2 i hi)⟩, fun h => ⟨h.1, fun i hi => (good_flip hw hi).2 (h.2 i hi)⟩⟩
theorem askE_flip {l : List S72} (hw : wf64 l) (r n : Int) : askE (l.map flip) r n = askE l r n := by
  unfold askE
  by_cases c : okV l
  · rw [if_pos c, if_pos ((okV_flip hw).2 c)]
  · rw [if_neg c, if_neg (fun z => c ((okV_flip hw).1 z))]
theorem over_loop {l : List S72} (hl : l.length ≤ 50) : ∀ (d i : Nat) (x : List S72), l.length - i = d → i ≤ l.length → x.length ≤ i → Ev (fun f => wire_over.l0 f x l l.length i) (x ++ (l.drop i).map flip) := by
  intro d
  induction d with
  | zero =>
    intro i x hd hi hx
    obtain rfl : i = l.length := by omega
    refine ev_some _ fun k => ?_
    rw [wire_over.l0, if_neg (by omega), List.drop_length]
    simp
  | succ d ih =>
    intro i x hd hi hx
    have e := ih (i + 1) (x ++ [flip (wn l i)]) (by omega) (by omega) (by rw [List.length_append]; simp; omega)
    rw [drop_wn l i (by omega), List.map_cons]
    rw [List.append_assoc] at e
    refine Ev.step (fun k => ?_) e
    rw [wire_over.l0, if_pos (by omega), if_pos (by omega), if_pos (by omega), if_pos (by omega), wsucc i (by omega)]
    rfl
theorem over_ev {l : List S72} (hl : l.length ≤ 50) : Ev (fun f => wire_over.f f l) (l.map flip) := over_loop hl l.length 0 [] (by omega) (by omega) (by simp)
theorem turned_loop {l : List S72} (hl : l.length ≤ 50) : ∀ (d i : Nat) (x : List S72), l.length - i = d → i ≤ l.length → x.length ≤ i → Ev (fun f => dropperref02_turned.l0 f l x i) (x ++ (l.drop i).map flip) := by
  intro d
  induction d with
  | zero =>
    intro i x hd hi hx
    obtain rfl : i = l.length := by omega
    refine ev_some _ fun k => ?_
    rw [dropperref02_turned.l0, if_neg (by omega), List.drop_length]
    simp
  | succ d ih =>
    intro i x hd hi hx
    have e := ih (i + 1) (x ++ [flip (wn l i)]) (by omega) (by omega) (by rw [List.length_append]; simp; omega)
    rw [drop_wn l i (by omega), List.map_cons]
    rw [List.append_assoc] at e
    refine Ev.step (fun k => ?_) e
    rw [dropperref02_turned.l0, if_pos (by omega), if_pos (by omega), if_pos (by omega), wsucc i (by omega)]
    rfl
theorem turned_ev {l : List S72} (hl : l.length ≤ 50) : Ev (fun f => dropperref02_turned.f f l) (l.map flip) := turned_loop hl l.length 0 [] (by omega) (by omega) (by simp)
/-- A list of numbers, each with the other sign. -/
def negL (x : List Int) : List Int := (List.range x.length).map fun i : Nat => -(rd x (i : Int))
theorem negL_len (x : List Int) : (negL x).length = x.length := by simp [negL]
theorem rd_negL {x : List Int} {i : Nat} (h : i < x.length) : rd (negL x) (i : Int) = -(rd x (i : Int)) := rd_map _ h
/-- Small numbers. -/
def sml (x : List Int) : Prop := x.length ≤ 30 ∧ ∀ i, i < x.length → -10000 ≤ rd x (i : Int) ∧ rd x (i : Int) ≤ 10000
theorem neg_loop {x0 : List Int} (hx0 : sml x0) (e : Int) : ∀ (d i : Nat) (x : List Int), x0.length - i = d → i ≤ x0.length → x.length = x0.length → (∀ j, j < i → rd x (j : Int) = -(rd x0 (j : Int))) → (∀ j, i ≤ j → j < x0.length → rd x (j : Int) = rd x0 (j : Int)) → Ev (fun f => wire_Highest.l0 f x e x0.length i) (negL x0, e) ∧ Ev (fun f => dropperref02_Highest.l0 f x e i) (negL x0, e) := by
  intro d
  have h30 := hx0.1
  induction d with
  | zero =>
    intro i x hd hi hx h1 h2
    obtain rfl : i = x0.length := by omega
    constructor
    · refine ev_some _ fun k => ?_
      rw [wire_Highest.l0, if_neg (by omega)]
      exact congrArg (fun z => some (z, e)) (rd_ext hx h1)
    · refine ev_some _ fun k => ?_
      rw [dropperref02_Highest.l0, if_neg (by omega)]
      exact congrArg (fun z => some (z, e)) (rd_ext hx h1)
  | succ d ih =>
    intro i x hd hi hx h1 h2
    have b := hx0.2 i (by omega)
    have hw : wrap64 (-(rd x (i : Int))) = -(rd x0 (i : Int)) := by rw [h2 i (by omega) (by omega), w64 (by omega) (by omega)]
    obtain ⟨e1, e2⟩ := ih (i + 1) (x.set i (-(rd x0 (i : Int)))) (by omega) (by omega) (by rw [List.length_set]; exact hx) (fun j hj => by
      rw [rd_set x _ (by omega) (by omega)]
      by_cases q : j = i
      · rw [if_pos q, q]
      · rw [if_neg q]; exact h1 j (by omega)) (fun j hj hj2 => by
      rw [rd_set x _ (by omega) (by omega), if_neg (by omega)]
      exact h2 j (by omega) hj2)
    constructor
    · refine Ev.step (fun k => ?_) e1
      rw [wire_Highest.l0, if_pos (by omega), if_pos (by omega), if_pos (by omega), hw, wsucc i (by omega)]
      rfl
    · refine Ev.step (fun k => ?_) e2
      rw [dropperref02_Highest.l0, if_pos (by omega), if_pos (by omega), hw, wsucc i (by omega)]
      rfl
theorem low_sml (l : List S72) (r n : Int) : sml (lowR l r n).1 := by
  obtain ⟨h1, h2, h3⟩ := lowR_len l r n
  refine ⟨h1, fun i hi => ?_⟩
  by_cases c : (lowR l r n).2 = 0
  · obtain ⟨a, b, h, hs, _⟩ := h2 c
    rw [b]
    rw [a] at hi
    unfold lowL
    rw [rd_gL _ l r n hi]
    exact gM_bd h hs (lo_bd h) hi
  · rw [h3 c] at hi
    simp at hi
/-- What Highest tells. -/
noncomputable def highR (l : List S72) (r n : Int) : List Int × Int := (negL (lowR (l.map flip) r n).1, (lowR (l.map flip) r n).2)
theorem wire_Highest_ev {l : List S72} (hl : l.length ≤ 50) (r n : Int) : Ev (fun f => wire_Highest.f f l r n) (highR l r n) := by
  refine Ev.bind (over_ev hl) ?_
  refine Ev.bind (wire_Lowest_ev (l.map flip) (by rw [List.length_map]; omega) r n) ?_
  exact (neg_loop (low_sml _ r n) _ _ 0 _ (Nat.sub_zero _) (by omega) rfl (by omega) (fun j _ _ => rfl)).1
theorem ref_Highest_ev {l : List S72} (hl : l.length ≤ 50) (hw : wf64 l) (r n : Int) : Ev (fun f => dropperref02_Highest.f f l r n) (highR l r n) := by
  refine Ev.bind (ref_asked_ev l (by omega) r n) ?_
  by_cases c : askE l r n = 0
  · simp only [if_pos c]
    refine Ev.bind (turned_ev hl) ?_
    refine Ev.bind (ref_Lowest_ev (l.map flip) (by rw [List.length_map]; omega) r n) ?_
    exact (neg_loop (low_sml _ r n) _ _ 0 _ (Nat.sub_zero _) (by omega) rfl (by omega) (fun j _ _ => rfl)).2
  · have e : highR l r n = ([], askE l r n) := by
      unfold highR lowR
      rw [askE_flip hw, if_neg c]
      rfl
    simp only [if_neg c, e]
    exact Ev.now _
theorem noC_flip {l : List S72} (h : okV l) (hw : wf64 l) (r n : Int) : noC (l.map flip) r n ↔ noC l r n := by
  have hp : ∀ i, i < l.length → pre (l.map flip) r n i = pre l r n i := by
    intro i
    induction i with
    | zero => intro _; rfl
    | succ i ih =>
      intro hi
      rw [pre, pre, ih (by omega)]
      unfold stp
      rw [wn_flip hi, wn_flip (by omega)]
      rfl
  have hd : ∀ i k, i < l.length → k < l.length → dst (l.map flip) r n i k = dst l r n i k := fun i k hi hk => by unfold dst; rw [hp i hi, hp k hk]
  have hc : ∀ i k, i < l.length → k < l.length → (clk (l.map flip) r n i k ↔ clk l r n k i) := by
    intro i k hi hk
    unfold clk
    rw [wn_flip hi, wn_flip hk, hd i k hi hk, dst_comm]
    have a := h.rng hi
    have b := h.rng hk
    unfold flip
    dsimp only
    rw [w64 (n := -(wn l i).f2) (by omega) (by omega), w64 (n := -(wn l k).f1) (by omega) (by omega)]
    omega
  unfold noC
  rw [List.length_map]
  exact ⟨fun z i hi k hk c => z k hk i hi ((hc k i hk hi).2 c), fun z i hi k hk c => z k hk i hi ((hc i k hi hk).1 c)⟩
theorem highR_err {l : List S72} (hw : wf64 l) (r n : Int) : (highR l r n).2 = (lowR l r n).2 ∧ (highR l r n).1.length = (lowR l r n).1.length := by
  unfold highR lowR
  rw [askE_flip hw]
  by_cases c : askE l r n = 0
  · obtain ⟨h, hs⟩ := askE_zero c
    rw [if_pos c, if_pos c]
    by_cases q : noC l r n
    · rw [if_pos q, if_pos ((noC_flip h hw r n).2 q)]
      refine ⟨rfl, ?_⟩
      rw [negL_len]
      show (gL _ _ r n).length = (gL _ l r n).length
      rw [gL_len, gL_len, List.length_map]
    · rw [if_neg q, if_neg (fun z => q ((noC_flip h hw r n).1 z))]
      exact ⟨rfl, rfl⟩
  · rw [if_neg c, if_neg c]
    exact ⟨rfl, rfl⟩
/-- One list less another one. -/
def subL (a b : List Int) : List Int := (List.range a.length).map fun i : Nat => rd a (i : Int) - rd b (i : Int)
theorem room_loop {a0 b : List Int} (ha : sml a0) (hb : sml b) (hab : a0.length = b.length) (e e' : Int) : ∀ (d i : Nat) (x : List Int), a0.length - i = d → i ≤ a0.length → x.length = a0.length → (∀ j, j < i → rd x (j : Int) = rd a0 (j : Int) - rd b (j : Int)) → (∀ j, i ≤ j → j < a0.length → rd x (j : Int) = rd a0 (j : Int)) → Ev (fun f => wire_Room.l0 f b e x a0.length i) (subL a0 b, e) := by
  intro d
  have h30 := ha.1
  induction d with
  | zero =>
    intro i x hd hi hx h1 h2
    obtain rfl : i = a0.length := by omega
    refine ev_some _ fun k => ?_
    rw [wire_Room.l0, if_neg (by omega)]
    exact congrArg (fun z => some (z, e)) (rd_ext hx h1)
  | succ d ih =>
    intro i x hd hi hx h1 h2
    have b1 := ha.2 i (by omega)
    have b2 := hb.2 i (by omega)
    have e1 := ih (i + 1) (x.set i (rd a0 (i : Int) - rd b (i : Int))) (by omega) (by omega) (by rw [List.length_set]; exact hx) (fun j hj => by
      rw [rd_set x _ (by omega) (by omega)]
      by_cases q : j = i
      · rw [if_pos q, q]
      · rw [if_neg q]; exact h1 j (by omega)) (fun j hj hj2 => by
      rw [rd_set x _ (by omega) (by omega), if_neg (by omega)]
      exact h2 j (by omega) hj2)
    refine Ev.step (fun k => ?_) e1
    rw [wire_Room.l0, if_pos (by omega), if_pos (by omega), if_pos (by omega), if_pos (by omega), h2 i (by omega) (by omega), w64 (n := rd a0 (i : Int) - rd b (i : Int)) (by omega) (by omega), wsucc i (by omega)]
    rfl
theorem ref_room_loop {a b : List Int} (ha : sml a) (hb : sml b) (hab : a.length = b.length) (e e' : Int) : ∀ (d i : Nat) (x : List Int), a.length - i = d → i ≤ a.length → x.length = i → (∀ j, j < i → rd x (j : Int) = rd a (j : Int) - rd b (j : Int)) → Ev (fun f => dropperref02_Room.l0 f b e a x i) (subL a b, e) := by
  intro d
  have h30 := ha.1
  induction d with
  | zero =>
    intro i x hd hi hx h1
    obtain rfl : i = a.length := by omega
    refine ev_some _ fun k => ?_
    rw [dropperref02_Room.l0, if_neg (by omega)]
    exact congrArg (fun z => some (z, e)) (rd_ext hx h1)
  | succ d ih =>
    intro i x hd hi hx h1
    have b1 := ha.2 i (by omega)
    have b2 := hb.2 i (by omega)
    have e1 := ih (i + 1) (x ++ [rd a (i : Int) - rd b (i : Int)]) (by omega) (by omega) (by simp [hx]) (fun j hj => by
      by_cases q : j = i
      · subst q
        simp [rd, List.getD_eq_getElem?_getD, ← hx]
      · rw [← h1 j (by omega)]
        simp only [rd, List.getD_eq_getElem?_getD, Int.toNat_natCast]
        rw [List.getElem?_append_left (by omega)])
    refine Ev.step (fun k => ?_) e1
    rw [dropperref02_Room.l0, if_pos (by omega), if_pos (by omega), if_pos (by omega), if_pos (by omega), w64 (n := rd a (i : Int) - rd b (i : Int)) (by omega) (by omega), wsucc i (by omega)]
theorem high_sml (l : List S72) (r n : Int) : sml (highR l r n).1 := by
  have h := low_sml (l.map flip) r n
  unfold highR
  refine ⟨by rw [negL_len]; exact h.1, fun i hi => ?_⟩
  rw [negL_len] at hi
  rw [rd_negL hi]
  have := h.2 i hi
  omega
/-- What Room tells. -/
noncomputable def roomR (l : List S72) (r n : Int) : List Int × Int := if (lowR l r n).2 = 0 then (subL (highR l r n).1 (lowR l r n).1, (highR l r n).2) else ([], (lowR l r n).2)
theorem wire_Room_ev {l : List S72} (hl : l.length ≤ 50) (hw : wf64 l) (r n : Int) : Ev (fun f => wire_Room.f f l r n) (roomR l r n) := by
  refine Ev.bind (wire_Lowest_ev l (by omega) r n) ?_
  unfold roomR
  by_cases c : (lowR l r n).2 = 0
  · simp only [if_pos c]
    refine Ev.bind (wire_Highest_ev hl r n) ?_
    exact room_loop (high_sml l r n) (low_sml l r n) (highR_err hw r n).2 _ 0 _ 0 _ (Nat.sub_zero _) (by omega) rfl (by omega) (fun j _ _ => rfl)
  · simp only [if_neg c]
    exact Ev.now _
theorem ref_Room_ev {l : List S72} (hl : l.length ≤ 50) (hw : wf64 l) (r n : Int) : Ev (fun f => dropperref02_Room.f f l r n) (roomR l r n) := by
  refine Ev.bind (ref_Lowest_ev l (by omega) r n) ?_
  unfold roomR
  by_cases c : (lowR l r n).2 = 0
  · simp only [if_pos c]
    refine Ev.bind (ref_Highest_ev hl hw r n) ?_
    exact ref_room_loop (high_sml l r n) (low_sml l r n) (highR_err hw r n).2 _ 0 _ 0 [] (Nat.sub_zero _) (by omega) rfl (by omega)
  · simp only [if_neg c]
    exact Ev.now _
theorem room_len (l : List S72) (r n : Int) : (roomR l r n).1.length ≤ 30 := by
  unfold roomR
  split
  · simp only [subL, List.length_map, List.length_range]
    exact (high_sml l r n).1
  · simp
theorem WireEnds_pure (l : List S72) (r n : Int) (hx : ∀ x ∈ l, (Lit.int .i64 x.f0).wf = true ∧ (Lit.int .i64 x.f1).wf = true ∧ (Lit.int .i64 x.f2).wf = true) (wr : (Lit.int .i64 r).wf = true) (wn_ : (Lit.int .i64 n).wf = true) : ∃ k_, dropperlaw02_WireEnds.f k_ l r n = some true := by
  obtain ⟨K0, s0⟩ := large0_ev l
  obtain ⟨K1, s1⟩ := awake_ev
  by_cases c0 : (l.length : Int) > 50
  · refine ⟨K0 + K1, ?_⟩
    have a0 := s0 (K0 + K1) (by omega)
    have a1 := s1 (K0 + K1) (by omega)
    dsimp only at a0 a1
    unfold dropperlaw02_WireEnds.f
    rw [a0, decide_eq_true c0]
    simp [a1]
  · have hl : l.length ≤ 50 := by omega
    obtain ⟨K2, s2⟩ := wire_Lowest_ev l (by omega) r n
    obtain ⟨K3, s3⟩ := ref_Lowest_ev l (by omega) r n
    obtain ⟨K4, s4⟩ := wire_Highest_ev hl r n
    obtain ⟨K5, s5⟩ := ref_Highest_ev hl hx r n
    obtain ⟨K6, s6⟩ := wire_Room_ev hl hx r n
    obtain ⟨K7, s7⟩ := ref_Room_ev hl hx r n
    obtain ⟨K8, s8⟩ := same_ev (lowR l r n).1 (by have := (low_sml l r n).1; omega)
    obtain ⟨K9, s9⟩ := same_ev (highR l r n).1 (by have := (high_sml l r n).1; omega)
    obtain ⟨Ka, sa⟩ := same_ev (roomR l r n).1 (by have := room_len l r n; omega)
    generalize hk : K0 + K1 + K2 + K3 + K4 + K5 + K6 + K7 + K8 + K9 + Ka = K
    have a0 := s0 (K + 2) (by omega)
    have a1 := s1 K (by omega)
    have a2 := s2 (K + 2) (by omega)
    have a3 := s3 (K + 2) (by omega)
    have a4 := s4 (K + 1) (by omega)
    have a5 := s5 (K + 1) (by omega)
    have a6 := s6 K (by omega)
    have a7 := s7 K (by omega)
    have a8 := s8 (K + 2) (by omega)
    have a9 := s9 (K + 1) (by omega)
    have aa := sa K (by omega)
    dsimp only at a0 a1 a2 a3 a4 a5 a6 a7 a8 a9 aa
    refine ⟨K + 2, ?_⟩
    unfold dropperlaw02_WireEnds.f
    rw [a0, decide_eq_false c0]
    generalize lowR l r n = x at *
    generalize highR l r n = y at *
    generalize roomR l r n = z at *
    simp only [Option.bind_some, Bool.false_eq_true, if_false, a2, a3, a8, if_true, Bool.not_true]
    show dropperlaw02_WireEnds.j0 (K + 1 + 1) l false r n = some true
    rw [dropperlaw02_WireEnds.j0]
    simp only [Option.bind_some, Bool.false_eq_true, if_false, a4, a5, a9, if_true, Bool.not_true]
    rw [dropperlaw02_WireEnds.j1]
    simp [a1, a6, a7, aa]
end Go.Proofs.Ytciepmpadcpkbaa.G
