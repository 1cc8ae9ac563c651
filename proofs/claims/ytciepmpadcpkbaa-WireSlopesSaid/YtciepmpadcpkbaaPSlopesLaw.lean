/- The law WireSlopes of the printed functions. Plain Lean. -/
import Derived.Test.YtciepmpadcpkbaaPEnds
import Derived.Test.YtciepmpadcpkbaaPGent
import Derived.Test.YtciepmpadcpkbaaGF11
namespace Go.Proofs.Ytciepmpadcpkbaa.G
set_option linter.unusedVariables false
set_option linter.unusedSimpArgs false
open Go.RowKit Go.Proofs.YtciepmpadcpkbaaW.PrintWords Go.Proofs.YtciepmpadcpkbaaW.PrintLast
theorem gM_mono {l : List S72} (h : okV l) {r r' n : Int} (hs : slope r n) (hs' : slope r' n) (hr : r ≤ r') (b : Nat → Int) {i : Nat} (hi : i < l.length) : ∀ m, m ≤ l.length → gM b l r' n i m ≤ gM b l r n i m
  | 0, _ => by rw [gM, gM]; omega
  | m + 1, hm => by
    have := gM_mono h hs hs' hr b hi m (by omega)
    have := dst_mono h hs hs' hr hi (show m < l.length by omega)
    rw [gM, gM]
    omega
/-- What the law says of two lists, one by one. -/
theorem slopes_loop {l : List S72} {n : Int} {a b c d : List Int} (ha : a.length = l.length) (hb : b.length = l.length) (hc : c.length = l.length) (hd : d.length = l.length) (hl : l.length ≤ 30) (h1 : ∀ i, i < l.length → rd b (i : Int) ≤ rd a (i : Int)) (h2 : ∀ i, i < l.length → rd c (i : Int) ≤ rd d (i : Int)) (hj : Ev (fun k => dropperlaw02_WireSlopes.j2 k l n) true) : ∀ (e i : Nat), l.length - i = e → i ≤ l.length → Ev (fun k => dropperlaw02_WireSlopes.l0 k l n a b c d i) true := by
  intro e
  induction e with
  | zero =>
    intro i he hi
    refine Ev.step (fun k => ?_) hj
    rw [dropperlaw02_WireSlopes.l0, if_neg (by omega)]
  | succ e ih =>
    intro i he hi
    have a1 := h1 i (by omega)
    have a2 := h2 i (by omega)
    refine Ev.step (fun k => ?_) (ih (i + 1) (by omega) (by omega))
    rw [dropperlaw02_WireSlopes.l0, if_pos (by omega), if_neg (by omega), if_neg (by omega), if_neg (by omega), if_neg (by omega), if_pos (by omega), if_pos (by omega), if_pos (by omega), if_neg (by omega), if_pos (by omega), if_pos (by omega), if_neg (by omega), wsucc i (by omega)]
theorem lowR_noC {l : List S72} {r n : Int} (h : okV l) (hs : slope r n) : ((lowR l r n).2 = 0 ↔ noC l r n) ∧ ((lowR l r n).2 = 5 ↔ ¬ noC l r n) := by
  unfold lowR
  rw [if_pos (askE_ok h hs)]
  by_cases q : noC l r n
  · rw [if_pos q]; exact ⟨⟨fun _ => q, fun _ => rfl⟩, ⟨fun z => by simp at z, fun z => absurd q z⟩⟩
  · rw [if_neg q]; exact ⟨⟨fun z => by simp at z, fun z => absurd z q⟩, ⟨fun _ => q, fun _ => rfl⟩⟩
theorem slopes_j2 {l : List S72} (h : okV l) {n : Int} (hn : 1 ≤ n ∧ n ≤ 1000) : Ev (fun k => dropperlaw02_WireSlopes.j2 k l n) true := by
  have hl : l.length ≤ 9223372036854775807 := by have := h.1; omega
  have hs0 : slope 0 n := ⟨by omega, by omega, hn.1, hn.2⟩
  obtain ⟨R, e1, _, e2, _⟩ := gent_ex l hl n
  obtain ⟨t, g, rfl⟩ := e2 (askE_ok h hs0)
  by_cases c : t > 1000
  · have eR : gR t = (0, 5) := by unfold gR; rw [if_pos c]
    rw [eR] at e1
    have hs : slope 1000 n := ⟨by omega, by omega, hn.1, hn.2⟩
    have nc : ¬ noC l 1000 n := fun z => by
      have := (isG_feas h hn g (m := 1000) (by omega) (by omega)).1 z
      omega
    have ec : (clashR l 1000 n).2.2 = 0 := by
      unfold clashR
      rw [if_pos (askE_ok h hs)]
      exact ((allC_five (l := l) (r := 1000) (n := n) (d := l.length) (i := 0) (by omega)).2).resolve_left (fun z => nc (allC_noC.1 z))
    refine Ev.step (f := fun k => (wire_Gentlest.f k l n).bind fun bt124 => (if bt124.2 = 0 then ((wire_Lowest.f k l bt124.1 n).bind fun bt130 => (if bt130.2 = 0 then (if bt124.1 < 0 then (dropperlaw02_WireSlopes.j3 k l n bt124.1 true) else (dropperlaw02_WireSlopes.j3 k l n bt124.1 (decide (bt124.1 > 1000)))) else (dropperlaw02_WireSlopes.j3 k l n bt124.1 true))) else ((wire_Clash.f k l 1000 n).bind fun bt126 => (if bt124.2 = 5 then (if bt126.2.2 = 0 then ((dropperlaw02_Awake.f k).bind fun t129 => (some t129)) else (some false)) else (some false))))) (fun k => by rw [dropperlaw02_WireSlopes.j2]) (Ev.bind e1 ?_)
    simp only [if_neg (show ¬ ((5 : Int) = 0) by decide), if_true]
    refine Ev.bind (wire_Clash_ev l hl 1000 n) ?_
    simp only [if_pos ec]
    exact Ev.bind awake_ev (Ev.now _)
  · have eR : gR t = (t, 0) := by unfold gR; rw [if_neg c]
    rw [eR] at e1
    have t0 := g.1.1
    have hs : slope t n := ⟨t0, by omega, hn.1, hn.2⟩
    have el : (lowR l t n).2 = 0 := (lowR_noC h hs).1.2 (g.2.2 (by omega))
    refine Ev.step (f := fun k => (wire_Gentlest.f k l n).bind fun bt124 => (if bt124.2 = 0 then ((wire_Lowest.f k l bt124.1 n).bind fun bt130 => (if bt130.2 = 0 then (if bt124.1 < 0 then (dropperlaw02_WireSlopes.j3 k l n bt124.1 true) else (dropperlaw02_WireSlopes.j3 k l n bt124.1 (decide (bt124.1 > 1000)))) else (dropperlaw02_WireSlopes.j3 k l n bt124.1 true))) else ((wire_Clash.f k l 1000 n).bind fun bt126 => (if bt124.2 = 5 then (if bt126.2.2 = 0 then ((dropperlaw02_Awake.f k).bind fun t129 => (some t129)) else (some false)) else (some false))))) (fun k => by rw [dropperlaw02_WireSlopes.j2]) (Ev.bind e1 ?_)
    simp only [if_true]
    refine Ev.bind (wire_Lowest_ev l hl t n) ?_
    simp only [if_pos el, if_neg (show ¬ t < 0 by omega), decide_eq_false c]
    by_cases z : t = 0
    · refine Ev.step (f := fun k => (dropperlaw02_Awake.f k).bind fun t => some t) (fun k => ?_) (Ev.bind awake_ev (Ev.now _))
      rw [dropperlaw02_WireSlopes.j3, if_neg (by decide), if_pos z]
    · have hs1 : slope (t - 1) n := ⟨by omega, by omega, hn.1, hn.2⟩
      have e5 : (lowR l (t - 1) n).2 = 5 := (lowR_noC h hs1).2.2 (g.2.1 (t - 1) (by omega) (by omega))
      refine Ev.step (f := fun k => (wire_Lowest.f k l (t - 1) n).bind fun bt135 => (if bt135.2 = 5 then ((dropperlaw02_Awake.f k).bind fun t139 => (some t139)) else (some false))) (fun k => ?_) (Ev.bind (wire_Lowest_ev l hl (t - 1) n) ?_)
      · rw [dropperlaw02_WireSlopes.j3, if_neg (by decide), if_neg z, w64 (n := t - 1) (by omega) (by omega)]
      · simp only [if_pos e5]
        exact Ev.bind awake_ev (Ev.now _)
theorem slopes_core {l : List S72} (h : okV l) (hw : wf64 l) {r r' n : Int} (hs : slope r n) (hs' : slope r' n) (hr : r ≤ r') (b : Bool) (hb : b = false ∨ ((lowR l r n).2 = 0 ∧ b = ((lowR l r' n).2 != 0))) :
    Ev (fun k => dropperlaw02_WireSlopes.j0 k l n (lowR l r n).1 (lowR l r n).2 (lowR l r' n).1 (highR l r n).1 (highR l r' n).1 b) true := by
  have hj := slopes_j2 h (n := n) ⟨hs.2.2.1, hs.2.2.2⟩
  have hb' : b = false := by
    rcases hb with z | ⟨z, rfl⟩
    · exact z
    · have := (lowR_noC h hs').1.2 (noC_mono h hs hs' hr ((lowR_noC h hs).1.1 z))
      rw [this]; rfl
  subst hb'
  by_cases c : (lowR l r n).2 = 0
  · have c' : (lowR l r' n).2 = 0 := (lowR_noC h hs').1.2 (noC_mono h hs hs' hr ((lowR_noC h hs).1.1 c))
    obtain ⟨a1, a2, _⟩ := (lowR_len l r n).2.1 c
    obtain ⟨b1, b2, _⟩ := (lowR_len l r' n).2.1 c'
    have f1 := (highR_err hw r n)
    have f2 := (highR_err hw r' n)
    have hk := (okV_flip hw).2 h
    have len : (l.map flip).length = l.length := by simp
    have u1 : (lowR (l.map flip) r n).2 = 0 := by have := f1.1; unfold highR at this; dsimp only at this; omega
    have u2 : (lowR (l.map flip) r' n).2 = 0 := by have := f2.1; unfold highR at this; dsimp only at this; omega
    obtain ⟨v1, v2, _⟩ := (lowR_len (l.map flip) r n).2.1 u1
    obtain ⟨x1, x2, _⟩ := (lowR_len (l.map flip) r' n).2.1 u2
    refine Ev.step (fun k => ?_) (slopes_loop (l := l) (n := n) a1 b1 (f1.2.trans a1) (f2.2.trans b1) h.1.2 (fun i hi => ?_) (fun i hi => ?_) hj l.length 0 (by omega) (by omega))
    · rw [dropperlaw02_WireSlopes.j0, if_neg (by decide), if_pos c]
      rfl
    · rw [a2, b2]
      unfold lowL
      rw [rd_gL _ l r n hi, rd_gL _ l r' n hi]
      exact gM_mono h hs hs' hr _ hi _ (Nat.le_refl _)
    · unfold highR
      dsimp only
      rw [rd_negL (by omega), rd_negL (by omega), v2, x2]
      unfold lowL
      rw [rd_gL _ (l.map flip) r n (by omega), rd_gL _ (l.map flip) r' n (by omega)]
      have := gM_mono hk hs hs' hr (fun i => (wn (l.map flip) i).f1) (show i < (l.map flip).length by omega) _ (Nat.le_refl _)
      omega
  · refine Ev.step (fun k => ?_) hj
    rw [dropperlaw02_WireSlopes.j0, if_neg (by decide), if_neg c]
theorem u16_of' {a : Int} (w : (Lit.int .u16 a).wf = true) : 0 ≤ a ∧ a ≤ 65535 := by
  have w' : (decide ((0 : Int) ≤ a) && decide (a ≤ 65535)) = true := w
  simpa using w'
open Classical in
theorem WireSlopes_pure (l : List S72) (r0 r1 u : Int) (hx : ∀ x ∈ l, (Lit.int .i64 x.f0).wf = true ∧ (Lit.int .i64 x.f1).wf = true ∧ (Lit.int .i64 x.f2).wf = true) (w0 : (Lit.int .u16 r0).wf = true) (w1 : (Lit.int .u16 r1).wf = true) (w2 : (Lit.int .u16 u).wf = true) (hl : l.length ≤ 9223372036854775807) : ∃ k_, dropperlaw02_WireSlopes.f k_ l r0 r1 u = some true := by
  have b0 := u16_of' w0
  have b1 := u16_of' w1
  have b2 := u16_of' w2
  obtain ⟨K0, s0⟩ := ref_valid_ev l hl
  obtain ⟨K1, s1⟩ := awake_ev
  by_cases hv : okV l
  · have hl50 : l.length ≤ 50 := by have := hv.1; omega
    have n0 : 0 ≤ mn r0 r1 ∧ mn r0 r1 ≤ 65535 := by rw [mn_eq]; omega
    have n1 : 0 ≤ mx r0 r1 ∧ mx r0 r1 ≤ 65535 := by rw [mx_eq]; omega
    have e0 : Int.tmod (wrap64 (mn r0 r1)) 1001 = mn r0 r1 % 1001 := by rw [w64 (n := mn r0 r1) (by omega) (by omega), Int.tmod_eq_emod_of_nonneg n0.1]
    have e1 : Int.tmod (wrap64 (mx r0 r1)) 1001 = mx r0 r1 % 1001 := by rw [w64 (n := mx r0 r1) (by omega) (by omega), Int.tmod_eq_emod_of_nonneg n1.1]
    have e2 : wrap64 (1 + Int.tmod (wrap64 u) 1000) = 1 + u % 1000 := by rw [w64 (n := u) (by omega) (by omega), Int.tmod_eq_emod_of_nonneg b2.1, w64 (by omega) (by omega)]
    obtain ⟨n, hn⟩ : ∃ n, n = 1 + u % 1000 := ⟨_, rfl⟩
    obtain ⟨r, hr⟩ : ∃ r, r = mn (mn r0 r1 % 1001) (mx r0 r1 % 1001) := ⟨_, rfl⟩
    obtain ⟨r', hr'⟩ : ∃ r', r' = mx (mn r0 r1 % 1001) (mx r0 r1 % 1001) := ⟨_, rfl⟩
    have hrr : 0 ≤ r ∧ r ≤ r' ∧ r' ≤ 1000 := by rw [hr, hr']; simp only [mn_eq, mx_eq]; omega
    have hs : slope r n := ⟨by omega, by omega, by omega, by omega⟩
    have hs' : slope r' n := ⟨by omega, by omega, by omega, by omega⟩
    obtain ⟨K2, s2⟩ := wire_Lowest_ev l hl r n
    obtain ⟨K3, s3⟩ := wire_Lowest_ev l hl r' n
    obtain ⟨K4, s4⟩ := wire_Highest_ev hl50 r n
    obtain ⟨K5, s5⟩ := wire_Highest_ev hl50 r' n
    obtain ⟨K6, s6⟩ := slopes_core hv hx hs hs' hrr.2.1 (if (lowR l r n).2 = 0 then ((lowR l r' n).2 != 0) else false) (by
      by_cases c : (lowR l r n).2 = 0
      · rw [if_pos c]; exact .inr ⟨c, rfl⟩
      · rw [if_neg c]; exact .inl rfl)
    have f1 := (highR_err hx r n).1
    have f2 := (highR_err hx r' n).1
    generalize hk : K0 + K2 + K3 + K4 + K5 + K6 = K
    have a0 := s0 K (by omega)
    have a2 := s2 K (by omega)
    have a3 := s3 K (by omega)
    have a4 := s4 K (by omega)
    have a5 := s5 K (by omega)
    have a6 := s6 K (by omega)
    clear hrr n0 n1 b0 b1 b2
    dsimp only at a0 a2 a3 a4 a5 a6
    refine ⟨K, ?_⟩
    unfold dropperlaw02_WireSlopes.f
    rw [a0, decide_eq_true hv, e0, e1, e2, ← hn, ← hr, ← hr']
    simp only [Option.bind_some, if_true, a2, a3, a4, a5, f1, f2]
    by_cases c : (lowR l r n).2 = 0
    · rw [if_pos c]
      rw [if_pos c] at a6
      exact a6
    · rw [if_neg c]
      rw [if_neg c] at a6
      exact a6
  · refine ⟨K0 + K1, ?_⟩
    have a0 := s0 (K0 + K1) (by omega)
    have a1 := s1 (K0 + K1) (by omega)
    dsimp only at a0 a1
    unfold dropperlaw02_WireSlopes.f
    rw [a0, decide_eq_false hv]
    simp [a1]
end Go.Proofs.Ytciepmpadcpkbaa.G
