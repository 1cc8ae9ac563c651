/- The law WireGentlest of the printed functions: both programs look for the least rise by halves. Plain Lean. -/
import Derived.Test.YtciepmpadcpkbaaPLaw
import Derived.Test.YtciepmpadcpkbaaPLow
import Derived.Test.YtciepmpadcpkbaaGF6
namespace Go.Proofs.Ytciepmpadcpkbaa.G
set_option linter.unusedVariables false
set_option linter.unusedSimpArgs false
open Go.RowKit Go.Proofs.YtciepmpadcpkbaaW.PrintWords Go.Proofs.YtciepmpadcpkbaaW.PrintLast
theorem stp_le {l : List S72} (h : okV l) {r r' n : Int} (hs : slope r n) (hs' : slope r' n) (hr : r ≤ r') {i : Nat} (hi : i + 1 < l.length) : stp l r n i ≤ stp l r' n i := by
  obtain ⟨h1, h2, h3⟩ := h.at_lt hi
  unfold stp
  refine Int.ediv_le_ediv (by have := hs.2.2.1; omega) (Int.mul_le_mul_of_nonneg_right hr (by omega))
theorem pre_le {l : List S72} (h : okV l) {r r' n : Int} (hs : slope r n) (hs' : slope r' n) (hr : r ≤ r') {i : Nat} : ∀ {k : Nat}, i ≤ k → k < l.length → pre l r n k - pre l r n i ≤ pre l r' n k - pre l r' n i
  | 0, hik, _ => by
    obtain rfl : i = 0 := by omega
    omega
  | k + 1, hik, hk => by
    by_cases e : i = k + 1
    · subst e; omega
    · have := pre_le h hs hs' hr (i := i) (k := k) (by omega) (by omega)
      have := stp_le h hs hs' hr hk
      rw [pre, pre]
      omega
theorem dst_mono {l : List S72} (h : okV l) {r r' n : Int} (hs : slope r n) (hs' : slope r' n) (hr : r ≤ r') {i k : Nat} (hi : i < l.length) (hk : k < l.length) : dst l r n i k ≤ dst l r' n i k := by
  by_cases c : i ≤ k
  · rw [dst_le h hs c hk, dst_le h hs' c hk]
    exact pre_le h hs hs' hr c hk
  · rw [dst_comm l r, dst_comm l r', dst_le h hs (by omega) hi, dst_le h hs' (by omega) hi]
    exact pre_le h hs hs' hr (by omega) hi
theorem noC_mono {l : List S72} (h : okV l) {r r' n : Int} (hs : slope r n) (hs' : slope r' n) (hr : r ≤ r') (z : noC l r n) : noC l r' n := fun i hi k hk c => z i hi k hk (by
  have := dst_mono h hs hs' hr hi hk
  unfold clk at c ⊢
  omega)
/-- The least rise with which there is a wire; 1001: there is none. -/
def isG (l : List S72) (n t : Int) : Prop := (0 ≤ t ∧ t ≤ 1001) ∧ (∀ m, 0 ≤ m → m < t → ¬ noC l m n) ∧ (t ≤ 1000 → noC l t n)
theorem isG_ex (l : List S72) (n : Int) : ∃ t, isG l n t := by
  have key : ∀ b : Nat, b ≤ 1001 → (∃ t, isG l n t) ∨ ∀ m : Int, 0 ≤ m → m < b → ¬ noC l m n := by
    intro b
    induction b with
    | zero => intro _; exact .inr fun m h1 h2 => by omega
    | succ b ih =>
      intro hb
      rcases ih (by omega) with h | h
      · exact .inl h
      · by_cases c : noC l b n
        · exact .inl ⟨b, ⟨by omega, by omega⟩, h, fun _ => c⟩
        · refine .inr fun m h1 h2 => ?_
          by_cases e : m = b
          · subst e; exact c
          · exact h m h1 (by omega)
  rcases key 1001 (by omega) with h | h
  · exact h
  · exact ⟨1001, ⟨by omega, by omega⟩, fun m h1 h2 => h m h1 (by omega), fun z => by omega⟩
theorem isG_feas {l : List S72} (h : okV l) {n t : Int} (hn : 1 ≤ n ∧ n ≤ 1000) (g : isG l n t) {m : Int} (h0 : 0 ≤ m) (h1 : m ≤ 1000) : noC l m n ↔ t ≤ m := by
  constructor
  · intro z
    by_cases c : t ≤ m
    · exact c
    · exact absurd z (g.2.1 m h0 (by omega))
  · intro c
    exact noC_mono h (r := t) ⟨g.1.1, by omega, hn.1, hn.2⟩ ⟨h0, h1, hn.1, hn.2⟩ c (g.2.2 (by omega))
theorem isG_uniq {l : List S72} {n t t' : Int} (g : isG l n t) (g' : isG l n t') : t = t' := by
  rcases Int.lt_trichotomy t t' with c | c | c
  · exact absurd (g.2.2 (by have := g'.1.2; omega)) (g'.2.1 t g.1.1 c)
  · exact c
  · exact absurd (g'.2.2 (by have := g.1.2; omega)) (g.2.1 t' g'.1.1 c)
/-- What Gentlest tells of it. -/
def gR (t : Int) : Int × Int := if t > 1000 then (0, 5) else (t, 0)
theorem mid_eq {a b : Int} (h0 : 0 ≤ a + b) (h1 : a + b ≤ 3000) : wrap64 (Int.tdiv (wrap64 (a + b)) 2) = (a + b) / 2 := by
  rw [w64 (n := a + b) (by omega) (by omega), Int.tdiv_eq_ediv_of_nonneg h0, w64 (by omega) (by omega)]
open Classical in
theorem gent_loop {l : List S72} (h : okV l) {n t : Int} (hn : 1 ≤ n ∧ n ≤ 1000) (g : isG l n t) : ∀ (d : Nat) (lo hi : Int), (hi - lo).toNat ≤ d → 0 ≤ lo → lo ≤ t → t ≤ hi → hi ≤ 1001 → Ev (fun f => wire_Gentlest.l0 f l n lo hi) (gR t) := by
  intro d
  have hl1 := h.1
  induction d with
  | zero =>
    intro lo hi hd h0 h1 h2 h3
    obtain rfl : lo = t := by omega
    refine ev_some _ fun k => ?_
    rw [wire_Gentlest.l0, if_neg (by omega)]
    unfold gR
    split <;> rfl
  | succ d ih =>
    intro lo hi hd h0 h1 h2 h3
    by_cases c : lo < hi
    · have hm := mid_eq (a := lo) (b := hi) (by omega) (by omega)
      generalize hmm : (lo + hi) / 2 = m at hm
      have m1 : lo ≤ m := by omega
      have m2 : m < hi := by omega
      have hs : slope m n := ⟨by omega, by omega, hn.1, hn.2⟩
      refine Ev.step (f := fun k => (wire_placed.f k l m n).bind fun t105 => ((wire_lows.f k l).bind fun t108 => ((wire_places_lowest.f k t105 t108).bind fun t111 => ((wire_under.f k l t111).bind fun t114 => (if t114 = true then (wire_Gentlest.l0 k l n lo m) else (wire_Gentlest.l0 k l n (m + 1) hi)))))) (fun k => ?_) ?_
      · rw [wire_Gentlest.l0, if_pos c, hm, w64 (n := m + 1) (by omega) (by omega)]
      · refine Ev.bind (placed_ev h hs) ?_
        refine Ev.bind (lows_ev (l := l) (by omega)) ?_
        refine Ev.bind (lowest_ev' h hs (lo_bd h) (loL_len l) (fun j hj => rd_loL l hj)) ?_
        refine Ev.bind (under_ev (l := l) (by omega) (gL_len _ l m n)) ?_
        have key := isG_feas h hn g (m := m) (by omega) (by omega)
        by_cases q : t ≤ m
        · simp only [decide_eq_true (show undr l (gL _ l m n) from (undr_noC h).2 (key.2 q)), if_true]
          exact ih lo m (by omega) h0 h1 q (by omega)
        · simp only [decide_eq_false (show ¬ undr l (gL _ l m n) from fun z => q (key.1 ((undr_noC h).1 z))), if_false, Bool.false_eq_true]
          exact ih (m + 1) hi (by omega) (by omega) (by omega) h2 h3
    · obtain rfl : lo = t := by omega
      refine ev_some _ fun k => ?_
      rw [wire_Gentlest.l0, if_neg c]
      unfold gR
      split <;> rfl
theorem clashR_five {l : List S72} {r n : Int} (h : okV l) (hs : slope r n) : (clashR l r n).2.2 = 5 ↔ noC l r n := by
  unfold clashR
  rw [if_pos (askE_ok h hs)]
  exact allC_noC
theorem ref_gent_loop {l : List S72} (h : okV l) {n t : Int} (hn : 1 ≤ n ∧ n ≤ 1000) (g : isG l n t) : ∀ (d : Nat) (lo hi : Int), (hi - lo).toNat ≤ d → -1 ≤ lo → lo < t → t ≤ hi → hi ≤ 1001 → Ev (fun f => dropperref02_Gentlest.l0 f l n lo hi) (gR t) := by
  intro d
  have hl1 := h.1
  induction d with
  | zero => intro lo hi hd h0 h1 h2 h3; omega
  | succ d ih =>
    intro lo hi hd h0 h1 h2 h3
    by_cases c : hi - lo > 1
    · have hm := mid_eq (a := lo) (b := hi) (by omega) (by omega)
      generalize hmm : (lo + hi) / 2 = m at hm
      have m1 : lo < m := by omega
      have m2 : m < hi := by omega
      have hs : slope m n := ⟨by omega, by omega, hn.1, hn.2⟩
      refine Ev.step (f := fun k => (dropperref02_Clash.f k l m n).bind fun bt102 => (if bt102.2.2 = 5 then (dropperref02_Gentlest.l0 k l n lo m) else (dropperref02_Gentlest.l0 k l n m hi))) (fun k => ?_) ?_
      · rw [dropperref02_Gentlest.l0, w64 (n := hi - lo) (by omega) (by omega), if_pos c, hm]
      · refine Ev.bind (ref_Clash_ev l (by omega) m n) ?_
        have key := isG_feas h hn g (m := m) (by omega) (by omega)
        have k5 := clashR_five (l := l) (r := m) (n := n) h hs
        by_cases q : t ≤ m
        · simp only [if_pos (k5.2 (key.2 q))]
          exact ih lo m (by omega) h0 h1 q (by omega)
        · simp only [if_neg (fun z => q (key.1 (k5.1 z)))]
          exact ih m hi (by omega) (by omega) (by omega) h2 h3
    · obtain rfl : hi = t := by omega
      refine ev_some _ fun k => ?_
      rw [dropperref02_Gentlest.l0, w64 (n := hi - lo) (by omega) (by omega), if_neg c]
      unfold gR
      split <;> rfl
theorem gent_ex (l : List S72) (hl : l.length ≤ 9223372036854775807) (n : Int) : ∃ R : Int × Int, Ev (fun f => wire_Gentlest.f f l n) R ∧ Ev (fun f => dropperref02_Gentlest.f f l n) R ∧ (askE l 0 n = 0 → ∃ t, isG l n t ∧ R = gR t) ∧ (askE l 0 n ≠ 0 → R = (0, askE l 0 n)) := by
  by_cases c : askE l 0 n = 0
  · obtain ⟨h, hs⟩ := askE_zero c
    obtain ⟨t, g⟩ := isG_ex l n
    have hn : 1 ≤ n ∧ n ≤ 1000 := ⟨hs.2.2.1, hs.2.2.2⟩
    refine ⟨gR t, Ev.bind (wire_asked_ev l hl 0 n) ?_, Ev.bind (ref_asked_ev l hl 0 n) ?_, fun _ => ⟨t, g, rfl⟩, fun z => absurd c z⟩
    · simp only [if_pos c]
      exact gent_loop h hn g 1001 0 1001 (by omega) (by omega) g.1.1 g.1.2 (by omega)
    · simp only [if_pos c]
      exact ref_gent_loop h hn g 1002 (-1) 1001 (by omega) (by omega) (by have := g.1.1; omega) g.1.2 (by omega)
  · refine ⟨(0, askE l 0 n), Ev.bind (wire_asked_ev l hl 0 n) ?_, Ev.bind (ref_asked_ev l hl 0 n) ?_, fun z => absurd z c, fun _ => rfl⟩
    · simp only [if_neg c]
      exact Ev.now _
    · simp only [if_neg c]
      exact Ev.now _
theorem WireGentlest_pure (l : List S72) (n : Int) (hx : ∀ x ∈ l, (Lit.int .i64 x.f0).wf = true ∧ (Lit.int .i64 x.f1).wf = true ∧ (Lit.int .i64 x.f2).wf = true) (wn_ : (Lit.int .i64 n).wf = true) : ∃ k_, dropperlaw02_WireGentlest.f k_ l n = some true := by
  obtain ⟨K0, s0⟩ := large0_ev l
  obtain ⟨K1, s1⟩ := awake_ev
  by_cases c0 : (l.length : Int) > 50
  · refine ⟨K0 + K1, ?_⟩
    have a0 := s0 (K0 + K1) (by omega)
    have a1 := s1 (K0 + K1) (by omega)
    dsimp only at a0 a1
    unfold dropperlaw02_WireGentlest.f
    rw [a0, decide_eq_true c0]
    simp [a1]
  · obtain ⟨R, ⟨K2, s2⟩, ⟨K3, s3⟩, _⟩ := gent_ex l (by omega) n
    generalize hk : K0 + K1 + K2 + K3 = K
    have a0 := s0 K (by omega)
    have a1 := s1 K (by omega)
    have a2 := s2 K (by omega)
    have a3 := s3 K (by omega)
    dsimp only at a0 a1 a2 a3
    refine ⟨K, ?_⟩
    unfold dropperlaw02_WireGentlest.f
    rw [a0, decide_eq_false c0]
    simp [a1, a2, a3]
end Go.Proofs.Ytciepmpadcpkbaa.G
