/- The lowest and the highest wire, and the room between them: both programs tell the same. Plain Lean. -/
import Derived.Test.YtciepmpadcpkbaaPClash
import Derived.Test.YtciepmpadcpkbaaGF21
import Derived.Test.YtciepmpadcpkbaaGF41
namespace Go.Proofs.Ytciepmpadcpkbaa.G
set_option linter.unusedVariables false
set_option linter.unusedSimpArgs false
open Go.RowKit Go.Proofs.YtciepmpadcpkbaaW.PrintWords Go.Proofs.YtciepmpadcpkbaaW.PrintLast

/-- The lowest wire. -/
def lowL (l : List S72) (r n : Int) : List Int := gL (fun i => (wn l i).f1) l r n
theorem lo_bd {l : List S72} (h : okV l) : ∀ k, k < l.length → -10000 ≤ (fun i => (wn l i).f1) k ∧ (fun i => (wn l i).f1) k ≤ 10000 := fun k hk => by have := h.rng hk; dsimp only; omega
theorem undr_iff {l : List S72} {r n : Int} (b : Nat → Int) : undr l (gL b l r n) ↔ ∀ i, i < l.length → b i ≤ (wn l i).f2 ∧ ∀ k, k < l.length → b k ≤ (wn l i).f2 + dst l r n k i := by
  unfold undr
  constructor
  · intro h i hi
    have a := h i hi
    rw [rd_gL b l r n hi] at a
    obtain ⟨g1, g2, _⟩ := gM_char b l r n i l.length
    refine ⟨by omega, fun k hk => ?_⟩
    have := g1 k hk
    rw [dst_comm] at this
    omega
  · intro h i hi
    rw [rd_gL b l r n hi]
    obtain ⟨_, _, g3⟩ := gM_char b l r n i l.length
    obtain ⟨h1, h2⟩ := h i hi
    rcases g3 with g | ⟨k, hk, g⟩
    · omega
    · have := h2 k hk
      rw [dst_comm] at this
      omega
theorem undr_noC {l : List S72} (h : okV l) {r n : Int} : undr l (lowL l r n) ↔ noC l r n := by
  unfold lowL
  rw [undr_iff]
  unfold noC clk
  constructor
  · intro z i hi k hk c
    have := (z k hk).2 i hi
    omega
  · intro z i hi
    refine ⟨by have := h.rng hi; omega, fun k hk => ?_⟩
    have := z k hk i hi
    omega
open Classical in
/-- What Lowest tells. -/
noncomputable def lowR (l : List S72) (r n : Int) : List Int × Int := if askE l r n = 0 then (if noC l r n then (lowL l r n, 0) else ([], 5)) else ([], askE l r n)
open Classical in
theorem wire_Lowest_ev (l : List S72) (hl : l.length ≤ 9223372036854775807) (r n : Int) : Ev (fun f => wire_Lowest.f f l r n) (lowR l r n) := by
  refine Ev.bind (wire_asked_ev l hl r n) ?_
  unfold lowR
  by_cases c : askE l r n = 0
  · obtain ⟨h, hs⟩ := askE_zero c
    have hl1 := h.1
    simp only [if_pos c]
    refine Ev.bind (lows_ev (l := l) (by omega)) ?_
    refine Ev.bind (lowest_ev' h hs (lo_bd h) (loL_len l) (fun j hj => rd_loL l hj)) ?_
    refine Ev.bind (under_ev (l := l) (by omega) (gL_len _ l r n)) ?_
    by_cases q : noC l r n
    · rw [decide_eq_true (show undr l (gL _ l r n) from (undr_noC h).2 q), if_pos q]
      exact Ev.now _
    · rw [decide_eq_false (show ¬ undr l (gL _ l r n) from fun z => q ((undr_noC h).1 z)), if_neg q]
      exact Ev.now _
  · simp only [if_neg c]
    exact Ev.now _
theorem ref_low_loop {l : List S72} (h : okV l) {r n : Int} (hs : slope r n) : ∀ (d i : Nat) (x : List Int), l.length - i = d → i ≤ l.length → x.length = i → (∀ j, j < i → rd x (j : Int) = gM (fun i => (wn l i).f1) l r n j l.length) → Ev (fun f => dropperref02_Lowest.l0 f l r n x i) (lowL l r n, 0) := by
  intro d
  have hl30 := h.1.2
  induction d with
  | zero =>
    intro i x hd hi hx h1
    obtain rfl : i = l.length := by omega
    refine ev_some _ fun k => ?_
    rw [dropperref02_Lowest.l0, if_neg (by omega)]
    exact congrArg (fun z => some (z, (0 : Int))) (rd_ext hx h1)
  | succ d ih =>
    intro i x hd hi hx h1
    have hlt : i < l.length := by omega
    have e := ih (i + 1) (x ++ [gM (fun i => (wn l i).f1) l r n i l.length]) (by omega) (by omega) (by simp [hx]) (fun j hj => by
      by_cases q : j = i
      · subst q
        simp [rd, List.getD_eq_getElem?_getD, ← hx]
      · rw [← h1 j (by omega)]
        simp only [rd, List.getD_eq_getElem?_getD, Int.toNat_natCast]
        rw [List.getElem?_append_left (by omega)])
    have inner : ∀ (e k : Nat), k + e = l.length → Ev (fun f => dropperref02_Lowest.l1 f l r n x i (gM (fun i => (wn l i).f1) l r n i k) k) (lowL l r n, 0) := by
      intro d'
      induction d' with
      | zero =>
        intro k hk
        obtain rfl : k = l.length := by omega
        refine Ev.step (fun f => ?_) e
        rw [dropperref02_Lowest.l1, if_neg (by omega), if_pos (by omega), wsucc i (by omega)]
      | succ d' ihd =>
        intro k hk
        refine Ev.step (f := fun f => (dropperref02_steps.f f l r n i k).bind fun t => dropperref02_Lowest.l1 f l r n x i (mx (gM (fun i => (wn l i).f1) l r n i k) (wrap64 ((wn l k).f1 - t))) ((k + 1 : Nat) : Int)) (fun f => ?_) (Ev.bind (steps_ev h hs hlt (show k < l.length by omega)) ?_)
        · rw [dropperref02_Lowest.l1, if_pos (by omega), if_pos (by omega), wsucc k (by omega)]
        · have b1 := h.rng (show k < l.length by omega)
          have b2 := dst_bd h hs hlt (show k < l.length by omega)
          rw [w64 (n := (wn l k).f1 - dst l r n i k) (by omega) (by omega), mx_eq]
          exact ihd (k + 1) (by omega)
    refine Ev.step (fun f => ?_) (inner l.length 0 (by omega))
    rw [dropperref02_Lowest.l0, if_pos (by omega), if_pos (by omega)]
    rfl
theorem ref_Lowest_ev (l : List S72) (hl : l.length ≤ 9223372036854775807) (r n : Int) : Ev (fun f => dropperref02_Lowest.f f l r n) (lowR l r n) := by
  refine Ev.bind (ref_Clash_ev l hl r n) ?_
  unfold lowR clashR
  by_cases c : askE l r n = 0
  · obtain ⟨h, hs⟩ := askE_zero c
    have hl1 := h.1
    simp only [if_pos c]
    by_cases q : noC l r n
    · simp only [if_pos (allC_noC.2 q), if_pos q]
      exact ref_low_loop h hs l.length 0 [] (by omega) (by omega) rfl (by omega)
    · have q' : ¬ (allC l r n l.length 0).2.2 = 5 := fun z => q (allC_noC.1 z)
      have q0 : (allC l r n l.length 0).2.2 = 0 := ((allC_five (l := l) (r := r) (n := n) (d := l.length) (i := 0) (by omega)).2).resolve_left q'
      simp only [if_neg q', if_pos q0, if_neg q]
      exact Ev.now _
  · simp only [if_neg c]
    simp only [if_neg (show ¬ askE l r n = 5 by rcases askE_cases l r n with z | z | z <;> omega)]
    exact Ev.now _
theorem lowR_len (l : List S72) (r n : Int) : (lowR l r n).1.length ≤ 30 ∧ ((lowR l r n).2 = 0 → (lowR l r n).1.length = l.length ∧ (lowR l r n).1 = lowL l r n ∧ okV l ∧ slope r n ∧ noC l r n) ∧ ((lowR l r n).2 ≠ 0 → (lowR l r n).1 = []) := by
  unfold lowR
  by_cases c : askE l r n = 0
  · obtain ⟨h, hs⟩ := askE_zero c
    rw [if_pos c]
    by_cases q : noC l r n
    · rw [if_pos q]
      refine ⟨?_, fun _ => ⟨gL_len _ l r n, rfl, h, hs, q⟩, fun z => absurd rfl z⟩
      show (gL _ l r n).length ≤ 30
      rw [gL_len]; exact h.1.2
    · rw [if_neg q]
      exact ⟨by simp, fun z => by simp at z, fun _ => rfl⟩
  · rw [if_neg c]
    exact ⟨by simp, fun z => absurd z c, fun _ => rfl⟩
end Go.Proofs.Ytciepmpadcpkbaa.G
