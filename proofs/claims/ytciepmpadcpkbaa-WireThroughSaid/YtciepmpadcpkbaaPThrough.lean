/- The law WireThrough of the printed functions. Plain Lean. -/
import Derived.Test.YtciepmpadcpkbaaPLaw
import Derived.Test.YtciepmpadcpkbaaPLow
import Derived.Test.YtciepmpadcpkbaaGF5
namespace Go.Proofs.Ytciepmpadcpkbaa.G
set_option linter.unusedVariables false
open Go.RowKit Go.Proofs.YtciepmpadcpkbaaW.PrintWords Go.Proofs.YtciepmpadcpkbaaW.PrintLast
/-- The windows, the one at i with one height alone. -/
def oneW (l : List S72) (i : Nat) (x : Int) : List S72 := l.set i ⟨(wn l i).f0, x, x⟩
theorem oneW_len (l : List S72) (i : Nat) (x : Int) : (oneW l i x).length = l.length := by simp [oneW]
theorem wn_one {l : List S72} {i : Nat} (x : Int) {j : Nat} (hi : i < l.length) (hj : j < l.length) : wn (oneW l i x) j = if j = i then ⟨(wn l i).f0, x, x⟩ else wn l j := by
  unfold oneW wn rd_T72
  simp only [List.getD_eq_getElem?_getD, Int.toNat_natCast, List.getElem?_set]
  by_cases e : i = j
  · subst e; simp [hi]
  · rw [if_neg e, if_neg (fun h => e h.symm)]
theorem one_f0 {l : List S72} {i : Nat} (x : Int) {j : Nat} (hi : i < l.length) (hj : j < l.length) : (wn (oneW l i x) j).f0 = (wn l j).f0 := by
  rw [wn_one x hi hj]
  by_cases e : j = i
  · rw [if_pos e, e]
  · rw [if_neg e]
theorem okV_one {l : List S72} (h : okV l) {i : Nat} (hi : i < l.length) {x : Int} (h1 : (wn l i).f1 ≤ x) (h2 : x ≤ (wn l i).f2) : okV (oneW l i x) := by
  unfold okV
  rw [oneW_len]
  refine ⟨h.1, fun j hj => ?_⟩
  obtain ⟨g1, g2, g3⟩ := h.2 j hj
  unfold good
  rw [one_f0 x hi hj, one_f0 x hi (by omega)]
  refine ⟨g1, g2, ?_⟩
  rw [wn_one x hi hj]
  by_cases e : j = i
  · subst e
    rw [if_pos rfl]
    dsimp only
    omega
  · rw [if_neg e]; exact g3
theorem dst_one {l : List S72} {i : Nat} (hi : i < l.length) (x r n : Int) {a b : Nat} (ha : a < l.length) (hb : b < l.length) : dst (oneW l i x) r n a b = dst l r n a b := by
  have hp : ∀ j, j < l.length → pre (oneW l i x) r n j = pre l r n j := by
    intro j
    induction j with
    | zero => intro _; rfl
    | succ j ih =>
      intro hj
      rw [pre, pre, ih (by omega)]
      unfold stp
      rw [one_f0 x hi hj, one_f0 x hi (by omega)]
  unfold dst
  rw [hp a ha, hp b hb]
/-- The bounds: the lows, and a height at one window. -/
def bnd (l : List S72) (i : Nat) (x : Int) (j : Nat) : Int := if j = i then x else (wn l j).f1
theorem bnd_one {l : List S72} {i : Nat} (x : Int) {j : Nat} (hi : i < l.length) (hj : j < l.length) : (wn (oneW l i x) j).f1 = bnd l i x j := by
  rw [wn_one x hi hj]
  unfold bnd
  by_cases e : j = i
  · rw [if_pos e, if_pos e]
  · rw [if_neg e, if_neg e]
theorem gM_one {l : List S72} {i : Nat} (hi : i < l.length) (x r n : Int) {j : Nat} (hj : j < l.length) : ∀ m, m ≤ l.length → gM (fun k => (wn (oneW l i x) k).f1) (oneW l i x) r n j m = gM (bnd l i x) l r n j m
  | 0, _ => by
    rw [gM, gM]
    exact bnd_one x hi hj
  | m + 1, hm => by
    rw [gM, gM, gM_one hi x r n hj m (by omega), dst_one hi x r n hj (by omega), bnd_one x hi (by omega)]
theorem low_one {l : List S72} {i : Nat} (hi : i < l.length) (x r n : Int) : lowL (oneW l i x) r n = gL (bnd l i x) l r n := by
  unfold lowL gL
  rw [oneW_len]
  refine List.map_congr_left fun j hj => ?_
  have hj' : j < l.length := by simpa using hj
  exact gM_one hi x r n hj' _ (Nat.le_refl _)
theorem noC_one {l : List S72} (h : okV l) {r n : Int} {i : Nat} (hi : i < l.length) {x : Int} (h1 : (wn l i).f1 ≤ x) (h2 : x ≤ (wn l i).f2) : noC (oneW l i x) r n ↔ (gM (bnd l i x) l r n i l.length = x ∧ undr l (gL (bnd l i x) l r n)) := by
  rw [undr_iff]
  have hb : ∀ j, bnd l i x j = if j = i then x else (wn l j).f1 := fun j => rfl
  obtain ⟨g1, g2, g3⟩ := gM_char (bnd l i x) l r n i l.length
  have e0 : bnd l i x i = x := by rw [hb, if_pos rfl]
  have clkI : ∀ a b, a < l.length → b < l.length → (clk (oneW l i x) r n a b ↔ bnd l i x a > (if b = i then x else (wn l b).f2) + dst l r n a b) := by
    intro a b ha hb'
    unfold clk
    rw [bnd_one x hi ha, dst_one hi x r n ha hb', wn_one x hi hb']
    by_cases e : b = i
    · rw [if_pos e, if_pos e]
    · rw [if_neg e, if_neg e]
  unfold noC
  rw [oneW_len]
  constructor
  · intro z
    have zi : ∀ a, a < l.length → bnd l i x a ≤ x + dst l r n a i := fun a ha => by
      have := mt (clkI a i ha hi).2 (z a ha i hi)
      rw [if_pos rfl] at this
      omega
    refine ⟨?_, fun j hj => ⟨?_, fun a ha => ?_⟩⟩
    · rcases g3 with g | ⟨k, hk, g⟩
      · omega
      · have := zi k hk
        rw [dst_comm] at this
        omega
    · rw [hb]
      by_cases e : j = i
      · rw [if_pos e, e]; exact h2
      · rw [if_neg e]
        have := h.rng hj
        omega
    · by_cases e : j = i
      · have := zi a ha
        rw [e]
        omega
      · have := mt (clkI a j ha hj).2 (z a ha j hj)
        rw [if_neg e] at this
        omega
  · rintro ⟨z1, z2⟩ a ha b hb' c
    have c' := (clkI a b ha hb').1 c
    by_cases e : b = i
    · subst e
      rw [if_pos rfl] at c'
      have := g1 a ha
      rw [dst_comm] at this
      omega
    · rw [if_neg e] at c'
      have := (z2 b hb').2 a ha
      omega
open Classical in
/-- What Through tells. -/
noncomputable def thrR (l : List S72) (r n i x : Int) : List Int × Int :=
  if askE l r n = 0 then (if 0 ≤ i ∧ i < l.length then (if (wn l i.toNat).f1 ≤ x ∧ x ≤ (wn l i.toNat).f2 then lowR (oneW l i.toNat x) r n else ([], 5)) else ([], 2)) else ([], askE l r n)
theorem bnd_bd {l : List S72} (h : okV l) {i : Nat} (hi : i < l.length) {x : Int} (h1 : (wn l i).f1 ≤ x) (h2 : x ≤ (wn l i).f2) : ∀ k, k < l.length → -10000 ≤ bnd l i x k ∧ bnd l i x k ≤ 10000 := fun k hk => by
  unfold bnd
  have a := h.rng hk
  have b := h.rng hi
  by_cases e : k = i
  · rw [if_pos e]; omega
  · rw [if_neg e]; omega
open Classical in
theorem wire_Through_ev (l : List S72) (hl : l.length ≤ 9223372036854775807) (r n i x : Int) : Ev (fun f => wire_Through.f f l r n i x) (thrR l r n i x) := by
  refine Ev.bind (wire_asked_ev l hl r n) ?_
  unfold thrR
  by_cases c : askE l r n = 0
  · obtain ⟨h, hs⟩ := askE_zero c
    have hl1 := h.1
    simp only [if_pos c, within_some, Option.bind_some]
    rw [w64 (n := (l.length : Int) - 1) (by omega) (by omega)]
    by_cases c1 : 0 ≤ i ∧ i < l.length
    · rw [decide_eq_true (show 0 ≤ i ∧ i ≤ (l.length : Int) - 1 by omega), if_pos (show 0 ≤ i ∧ i < (l.length : Int) from c1)]
      obtain ⟨a, rfl⟩ := Int.eq_ofNat_of_zero_le c1.1
      have ha : a < l.length := by omega
      simp only [if_true, if_pos c1.1, if_pos c1.2, Int.toNat_natCast]
      by_cases c2 : (wn l a).f1 ≤ x ∧ x ≤ (wn l a).f2
      · rw [decide_eq_true c2, if_pos (show (wn l a).f1 ≤ x ∧ x ≤ (wn l a).f2 from c2)]
        simp only [if_true]
        refine Ev.bind (lows_ev (l := l) (by omega)) ?_
        simp only [loL_len, if_pos c1.2]
        have hb := bnd_bd h ha c2.1 c2.2
        refine Ev.bind (lowest_ev' h hs hb (x := (loL l).set a x) (by rw [List.length_set, loL_len]) (fun j hj => ?_)) ?_
        · rw [rd_set _ _ (by rw [loL_len]; omega) (by rw [loL_len]; omega), rd_loL l hj]
          rfl
        · simp only [gL_len, if_pos c1.2, rd_gL _ l r n ha]
          have key := noC_one (r := r) (n := n) h ha c2.1 c2.2
          have hask : askE (oneW l a x) r n = 0 := askE_ok (okV_one h ha c2.1 c2.2) hs
          unfold lowR
          rw [if_pos hask]
          by_cases q : gM (bnd l a x) l r n a l.length = x
          · simp only [if_pos q]
            refine Ev.bind (under_ev (l := l) (by omega) (gL_len _ l r n)) ?_
            by_cases u : undr l (gL (bnd l a x) l r n)
            · rw [if_pos (key.2 ⟨q, u⟩), decide_eq_true u, low_one ha]
              exact Ev.now _
            · rw [if_neg (fun z => u (key.1 z).2), decide_eq_false u]
              exact Ev.now _
          · simp only [if_neg q]
            rw [if_neg (fun z => q (key.1 z).1)]
            exact Ev.now _
      · rw [decide_eq_false c2, if_neg (show ¬ ((wn l a).f1 ≤ x ∧ x ≤ (wn l a).f2) from c2)]
        exact Ev.now _
    · rw [decide_eq_false (show ¬ (0 ≤ i ∧ i ≤ (l.length : Int) - 1) by omega), if_neg (show ¬ (0 ≤ i ∧ i < (l.length : Int)) from c1)]
      exact Ev.now _
  · simp only [if_neg c]
    exact Ev.now _
theorem ref_Through_ev (l : List S72) (hl : l.length ≤ 50) (r n i x : Int) : Ev (fun f => dropperref02_Through.f f l r n i x) (thrR l r n i x) := by
  refine Ev.bind (ref_asked_ev l (by omega) r n) ?_
  unfold thrR
  by_cases c : askE l r n = 0
  · obtain ⟨h, hs⟩ := askE_zero c
    have hl1 := h.1
    simp only [if_pos c, from_some, Option.bind_some]
    rw [w64 (n := (l.length : Int) - 1) (by omega) (by omega)]
    by_cases c1 : 0 ≤ i ∧ i < l.length
    · rw [decide_eq_true (show 0 ≤ i ∧ i ≤ (l.length : Int) - 1 by omega), if_pos (show 0 ≤ i ∧ i < (l.length : Int) from c1)]
      obtain ⟨a, rfl⟩ := Int.eq_ofNat_of_zero_le c1.1
      have ha : a < l.length := by omega
      simp only [if_true, if_pos c1.1, if_pos c1.2, Int.toNat_natCast]
      by_cases c2 : (wn l a).f1 ≤ x ∧ x ≤ (wn l a).f2
      · rw [decide_eq_true c2, if_pos (show (wn l a).f1 ≤ x ∧ x ≤ (wn l a).f2 from c2)]
        simp only [if_true, List.nil_append, List.length_nil, Nat.zero_add, if_pos (show l.length < 5864062014805 by omega), if_pos c1.2]
        have e : (List.set (List.set l a ⟨(rd_T72 l (a : Int)).f0, x, (rd_T72 l (a : Int)).f2⟩) a ⟨(rd_T72 (List.set l a ⟨(rd_T72 l (a : Int)).f0, x, (rd_T72 l (a : Int)).f2⟩) (a : Int)).f0, (rd_T72 (List.set l a ⟨(rd_T72 l (a : Int)).f0, x, (rd_T72 l (a : Int)).f2⟩) (a : Int)).f1, x⟩) = oneW l a x := by
          unfold oneW
          rw [List.set_set]
          have : rd_T72 (List.set l a ⟨(rd_T72 l (a : Int)).f0, x, (rd_T72 l (a : Int)).f2⟩) (a : Int) = ⟨(rd_T72 l (a : Int)).f0, x, (rd_T72 l (a : Int)).f2⟩ := by
            simp [rd_T72, List.getD_eq_getElem?_getD, ha]
          rw [this]
        rw [e]
        exact Ev.bind (ref_Lowest_ev (oneW l a x) (by rw [oneW_len]; omega) r n) (Ev.now _)
      · rw [decide_eq_false c2, if_neg (show ¬ ((wn l a).f1 ≤ x ∧ x ≤ (wn l a).f2) from c2)]
        exact Ev.now _
    · rw [decide_eq_false (show ¬ (0 ≤ i ∧ i ≤ (l.length : Int) - 1) by omega), if_neg (show ¬ (0 ≤ i ∧ i < (l.length : Int)) from c1)]
      exact Ev.now _
  · simp only [if_neg c]
    exact Ev.now _
theorem thr_len (l : List S72) (r n i x : Int) : (thrR l r n i x).1.length ≤ 30 := by
  unfold thrR
  split
  · split
    · split
      · exact (lowR_len _ r n).1
      · simp
    · simp
  · simp
theorem WireThrough_pure (l : List S72) (r n i x : Int) (hx : ∀ x ∈ l, (Lit.int .i64 x.f0).wf = true ∧ (Lit.int .i64 x.f1).wf = true ∧ (Lit.int .i64 x.f2).wf = true) (wr : (Lit.int .i64 r).wf = true) (wn_ : (Lit.int .i64 n).wf = true) (wi : (Lit.int .i64 i).wf = true) (wx : (Lit.int .i64 x).wf = true) : ∃ k_, dropperlaw02_WireThrough.f k_ l r n i x = some true := by
  obtain ⟨K0, s0⟩ := large0_ev l
  obtain ⟨K1, s1⟩ := awake_ev
  by_cases c0 : (l.length : Int) > 50
  · refine ⟨K0 + K1, ?_⟩
    have a0 := s0 (K0 + K1) (by omega)
    have a1 := s1 (K0 + K1) (by omega)
    dsimp only at a0 a1
    unfold dropperlaw02_WireThrough.f
    rw [a0, decide_eq_true c0]
    simp [a1]
  · obtain ⟨K2, s2⟩ := wire_Through_ev l (by omega) r n i x
    obtain ⟨K3, s3⟩ := ref_Through_ev l (by omega) r n i x
    obtain ⟨K4, s4⟩ := same_ev (thrR l r n i x).1 (by have := thr_len l r n i x; omega)
    generalize hk : K0 + K1 + K2 + K3 + K4 = K
    have a0 := s0 K (by omega)
    have a1 := s1 K (by omega)
    have a2 := s2 K (by omega)
    have a3 := s3 K (by omega)
    have a4 := s4 K (by omega)
    dsimp only at a0 a1 a2 a3 a4
    refine ⟨K, ?_⟩
    unfold dropperlaw02_WireThrough.f
    rw [a0, decide_eq_false c0]
    generalize thrR l r n i x = y at *
    simp [a1, a2, a3, a4]
end Go.Proofs.Ytciepmpadcpkbaa.G
