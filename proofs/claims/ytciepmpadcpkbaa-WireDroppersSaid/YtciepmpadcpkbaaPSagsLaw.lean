/- The laws WireSags and WireDroppers of the printed functions. Plain Lean. -/
import Derived.Test.YtciepmpadcpkbaaPSags
import Derived.Test.YtciepmpadcpkbaaGF8
namespace Go.Proofs.Ytciepmpadcpkbaa.G
set_option linter.unusedVariables false
open Go.RowKit Go.Proofs.YtciepmpadcpkbaaW.PrintWords Go.Proofs.YtciepmpadcpkbaaW.PrintLast
open Rat (divInt)
/-- What a span in n + 1 parts counts. -/
def prt (p n : Int) : Int := 2 * p * (n + 1) * (n + 1)
/-- What hangs at part j. -/
def hng (w s n j : Int) : Int := w * s * s * j * (n + 1 - j)
theorem prt_bd {w s p n : Int} (h : okM w s p) (hn : 0 ≤ n ∧ n ≤ 20) : wrap64 (wrap64 (wrap64 (2 * p) * wrap64 (n + 1)) * wrap64 (n + 1)) = prt p n ∧ 1 ≤ prt p n ∧ prt p n ≤ 882000000 := by
  obtain ⟨h1, h2, h3, h4, h5, h6⟩ := h
  have m1 := mul_bd (a := 2 * p) (b := n + 1) (A := 2000000) (B := 21) (by omega) (by omega)
  have n1 : 0 < 2 * p * (n + 1) := Int.mul_pos (by omega) (by omega)
  have m2 := mul_bd (a := 2 * p * (n + 1)) (b := n + 1) (A := 42000000) (B := 21) (by omega) (by omega)
  have n2 : 0 < 2 * p * (n + 1) * (n + 1) := Int.mul_pos n1 (by omega)
  rw [w64 (n := 2 * p) (by omega) (by omega), w64 (n := n + 1) (by omega) (by omega), w64 (n := 2 * p * (n + 1)) (by omega) (by omega), w64 (n := 2 * p * (n + 1) * (n + 1)) (by omega) (by omega)]
  unfold prt
  omega
theorem hng_bd {w s p n j : Int} (h : okM w s p) (hn : 0 ≤ n ∧ n ≤ 20) (hj : 1 ≤ j ∧ j ≤ n) : wrap64 (wrap64 (wrap64 (wrap64 (w * s) * s) * j) * wrap64 (wrap64 (n + 1) - j)) = hng w s n j ∧ 0 ≤ hng w s n j ∧ hng w s n j ≤ 4000000000 := by
  obtain ⟨e1, e2, e3, _⟩ := sag_bd h
  rw [e1, w64 (n := n + 1) (by omega) (by omega), w64 (n := n + 1 - j) (by omega) (by omega)]
  have m1 := mul_bd (a := w * s * s) (b := j) (A := 10000000) (B := 20) (by omega) (by omega)
  have n1 : 0 ≤ w * s * s * j := Int.mul_nonneg e2 (by omega)
  have m2 := mul_bd (a := w * s * s * j) (b := n + 1 - j) (A := 200000000) (B := 20) (by omega) (by omega)
  have n2 : 0 ≤ w * s * s * j * (n + 1 - j) := Int.mul_nonneg n1 (by omega)
  rw [w64 (n := w * s * s * j) (by omega) (by omega), w64 (by omega) (by omega)]
  unfold hng
  omega
theorem hd_bd {w s p n x : Int} (h : okM w s p) (hn : 0 ≤ n ∧ n ≤ 20) (hx : 0 ≤ x ∧ x ≤ 10000) : wrap64 (x * prt p n) = x * prt p n ∧ 0 ≤ x * prt p n ∧ x * prt p n ≤ 8820000000000 := by
  obtain ⟨_, b1, b2⟩ := prt_bd h hn
  have m1 := mul_bd (a := x) (b := prt p n) (A := 10000) (B := 882000000) (by omega) (by omega)
  have n1 : 0 ≤ x * prt p n := Int.mul_nonneg hx.1 (by omega)
  rw [w64 (by omega) (by omega)]
  omega
/-- A dropper. -/
def drp (w s p x n j : Int) : S55 := ⟨(divInt (x * prt p n - hng w s n j) (prt p n)).num, ((divInt (x * prt p n - hng w s n j) (prt p n)).den : Int)⟩
/-- The droppers from j on. -/
def drpL (w s p x n : Int) : Nat → Int → List S55 → List S55 × Int
  | 0, _, l => (l, 0)
  | d + 1, j, l => if x * prt p n - hng w s n j ≤ 0 then ([], 5) else drpL w s p x n d (j + 1) (l ++ [drp w s p x n j])
theorem drp_loop {w s p x n : Int} (h : okM w s p) (hx : 0 ≤ x ∧ x ≤ 10000) (hn : 0 ≤ n ∧ n ≤ 20) : ∀ (d : Nat) (j : Int) (l : List S55), n + 1 - j = d → 1 ≤ j → l.length ≤ j → Ev (fun k => wire_Droppers.l0 k w s p x n l j) (drpL w s p x n d j l) ∧ Ev (fun k => dropperref02_Droppers.l0 k w s p x n (n + 1) l j) (drpL w s p x n d j l) := by
  intro d
  induction d with
  | zero =>
    intro j l hd hj hl
    constructor
    · refine ev_some _ fun k => ?_
      rw [wire_Droppers.l0, if_neg (by omega)]
      rfl
    · refine ev_some _ fun k => ?_
      rw [dropperref02_Droppers.l0, if_neg (by omega)]
      rfl
  | succ d ih =>
    intro j l hd hj hl
    have hw : wrap64 (n + 1) = n + 1 := w64 (by omega) (by omega)
    obtain ⟨a1, a2, a3⟩ := prt_bd h hn
    obtain ⟨b1, b2, b3⟩ := hng_bd (j := j) h hn (by omega)
    obtain ⟨c1, c2, c3⟩ := hd_bd h hn hx
    have d1 : wrap64 (x * prt p n - hng w s n j) = x * prt p n - hng w s n j := w64 (by omega) (by omega)
    have a1' := a1
    have b1' := b1
    rw [hw] at a1' b1'
    have e1 : ∀ k, wire_Droppers.l0 (k + 1) w s p x n l j = if x * prt p n - hng w s n j ≤ 0 then some ([], 5) else (wire_lowestTerms.f k (x * prt p n - hng w s n j) (prt p n)).bind fun t => wire_Droppers.l0 k w s p x n (l ++ [⟨t.1, t.2⟩]) (j + 1) := by
      intro k
      rw [wire_Droppers.l0, if_pos (by omega), a1, b1, c1, d1, w64 (n := j + 1) (by omega) (by omega)]
      simp only [if_pos (show l.length < 8796093022208 by omega)]
    have e2 : ∀ k, dropperref02_Droppers.l0 (k + 1) w s p x n (n + 1) l j = if x * prt p n ≤ hng w s n j then some ([], 5) else (dropperref02_ratio.f k (x * prt p n - hng w s n j) (prt p n)).bind fun t => dropperref02_Droppers.l0 k w s p x n (n + 1) (l ++ [⟨t.1, t.2⟩]) (j + 1) := by
      intro k
      rw [dropperref02_Droppers.l0, if_pos (by omega), a1', b1', c1, d1, w64 (n := j + 1) (by omega) (by omega)]
      simp only [if_pos (show l.length < 8796093022208 by omega)]
    rw [drpL]
    by_cases q : x * prt p n - hng w s n j ≤ 0
    · rw [if_pos q]
      constructor
      · refine ev_some _ fun k => ?_
        rw [e1 k, if_pos q]
      · refine ev_some _ fun k => ?_
        rw [e2 k, if_pos (by omega)]
    · rw [if_neg q]
      have f := lowest_ev (x * prt p n - hng w s n j) (prt p n) (by omega) (by omega) (by omega) (by omega)
      have f' : Ev (fun k => dropperref02_ratio.f k (x * prt p n - hng w s n j) (prt p n)) _ := Ev.congr (fun k => ratio_same k _ _) f
      obtain ⟨i1, i2⟩ := ih (j + 1) (l ++ [drp w s p x n j]) (by omega) (by omega) (by rw [List.length_append]; simp; omega)
      constructor
      · refine Ev.step (f := fun k => (wire_lowestTerms.f k (x * prt p n - hng w s n j) (prt p n)).bind fun t => wire_Droppers.l0 k w s p x n (l ++ [⟨t.1, t.2⟩]) (j + 1)) (fun k => ?_) (Ev.bind f i1)
        rw [e1 k, if_neg q]
      · refine Ev.step (f := fun k => (dropperref02_ratio.f k (x * prt p n - hng w s n j) (prt p n)).bind fun t => dropperref02_Droppers.l0 k w s p x n (n + 1) (l ++ [⟨t.1, t.2⟩]) (j + 1)) (fun k => ?_) (Ev.bind f' i2)
        rw [e2 k, if_neg (by omega)]
def drpR (w s p x n : Int) : List S55 × Int := if okM w s p ∧ (0 ≤ x ∧ x ≤ 10000) ∧ 0 ≤ n ∧ n ≤ 20 then drpL w s p x n n.toNat 1 [] else ([], 2)
theorem drp_ev (w s p x n : Int) : Ev (fun k => wire_Droppers.f k w s p x n) (drpR w s p x n) ∧ Ev (fun k => dropperref02_Droppers.f k w s p x n) (drpR w s p x n) := by
  have no1 : ∀ {r : List S55 × Int}, r = ([], 2) → Ev (fun f => wire_Droppers.j0 f w s p x n true) r := by
    rintro _ rfl
    exact ev_some _ fun k => by rw [wire_Droppers.j0, if_pos rfl]
  have no2 : ∀ {r : List S55 × Int}, r = ([], 2) → Ev (fun f => dropperref02_Droppers.j0 f w s p x n true) r := by
    rintro _ rfl
    exact ev_some _ fun k => by rw [dropperref02_Droppers.j0, if_pos rfl]
  unfold drpR
  by_cases h : okM w s p
  · by_cases hx : 0 ≤ x ∧ x ≤ 10000
    · by_cases hn : 0 ≤ n ∧ n ≤ 20
      · rw [if_pos ⟨h, hx, hn⟩]
        obtain ⟨i1, i2⟩ := drp_loop h hx hn n.toNat 1 [] (by omega) (by omega) (by simp)
        constructor
        · refine Ev.congr (f := fun k => wire_Droppers.j0 k w s p x n false) (fun k => ?_) (Ev.step (fun k => ?_) i1)
          · unfold wire_Droppers.f
            rw [messenger_some, decide_eq_true h, within_some, decide_eq_true hx, within_some, decide_eq_true hn]
            rfl
          · rw [wire_Droppers.j0, if_neg (by decide)]
        · refine Ev.congr (f := fun k => dropperref02_Droppers.j0 k w s p x n false) (fun k => ?_) (Ev.step (fun k => ?_) i2)
          · unfold dropperref02_Droppers.f
            rw [loaded_same, messenger_some, decide_eq_true h, from_some, decide_eq_true hx, from_some, decide_eq_true hn]
            rfl
          · rw [dropperref02_Droppers.j0, if_neg (by decide), w64 (n := n + 1) (by omega) (by omega)]
      · constructor
        · refine Ev.congr (fun k => ?_) (no1 (if_neg (fun z => hn z.2.2)))
          unfold wire_Droppers.f
          rw [messenger_some, decide_eq_true h, within_some, decide_eq_true hx, within_some, decide_eq_false hn]
          rfl
        · refine Ev.congr (fun k => ?_) (no2 (if_neg (fun z => hn z.2.2)))
          unfold dropperref02_Droppers.f
          rw [loaded_same, messenger_some, decide_eq_true h, from_some, decide_eq_true hx, from_some, decide_eq_false hn]
          rfl
    · constructor
      · refine Ev.congr (fun k => ?_) (no1 (if_neg (fun z => hx z.2.1)))
        unfold wire_Droppers.f
        rw [messenger_some, decide_eq_true h, within_some, decide_eq_false hx]
        rfl
      · refine Ev.congr (fun k => ?_) (no2 (if_neg (fun z => hx z.2.1)))
        unfold dropperref02_Droppers.f
        rw [loaded_same, messenger_some, decide_eq_true h, from_some, decide_eq_false hx]
        rfl
  · constructor
    · refine Ev.congr (fun k => ?_) (no1 (if_neg (fun z => h z.1)))
      unfold wire_Droppers.f
      rw [messenger_some, decide_eq_false h]
      rfl
    · refine Ev.congr (fun k => ?_) (no2 (if_neg (fun z => h z.1)))
      unfold dropperref02_Droppers.f
      rw [loaded_same, messenger_some, decide_eq_false h]
      rfl
theorem drpL_char {w s p x n : Int} : ∀ (d : Nat) (j : Int) (l : List S55), drpL w s p x n d j l = ([], 5) ∧ 0 < d ∨ (drpL w s p x n d j l = (l ++ (List.range d).map (fun i : Nat => drp w s p x n (j + i)), 0) ∧ ∀ i : Nat, i < d → 0 < x * prt p n - hng w s n (j + i))
  | 0, j, l => .inr ⟨by simp [drpL], fun i hi => by omega⟩
  | d + 1, j, l => by
    rw [drpL]
    by_cases q : x * prt p n - hng w s n j ≤ 0
    · rw [if_pos q]; exact .inl ⟨rfl, by omega⟩
    · rw [if_neg q]
      rcases drpL_char (w := w) (s := s) (p := p) (x := x) (n := n) d (j + 1) (l ++ [drp w s p x n j]) with ⟨h, _⟩ | ⟨h1, h2⟩
      · exact .inl ⟨h, by omega⟩
      · refine .inr ⟨?_, fun i hi => ?_⟩
        · rw [h1, List.range_succ_eq_map, List.map_cons, List.map_map, List.append_assoc]
          refine Prod.ext ?_ rfl
          dsimp only
          congr 1
          rw [List.singleton_append]
          congr 1
          · simp
          · refine List.map_congr_left fun i _ => ?_
            simp only [Function.comp]
            congr 1
            omega
        · cases i with
          | zero => simpa using (show 0 < x * prt p n - hng w s n j by omega)
          | succ i =>
            have := h2 i (by omega)
            rwa [show j + ((i + 1 : Nat) : Int) = j + 1 + (i : Int) by omega]
theorem drpR_len (w s p x n : Int) : (drpR w s p x n).1.length ≤ 20 := by
  unfold drpR
  split
  · rename_i h
    rcases drpL_char (w := w) (s := s) (p := p) (x := x) (n := n) n.toNat 1 [] with ⟨e, _⟩ | ⟨e, _⟩
    · rw [e]; simp
    · rw [e]; simp; omega
  · simp
theorem ratios_loop (l : List S55) (hl : l.length ≤ 4611686018427387904) : ∀ (d i : Nat), l.length - i = d → i ≤ l.length → Ev (fun k => dropperlaw02_sameRatios.l0 k l l i) true := by
  intro d
  induction d with
  | zero =>
    intro i hd hi
    refine ev_some _ fun k => ?_
    rw [dropperlaw02_sameRatios.l0, if_neg (by omega)]
  | succ d ih =>
    intro i hd hi
    refine Ev.step (fun k => ?_) (ih (i + 1) (by omega) (by omega))
    have hw : wrap64 ((i : Int) + 1) = ((i + 1 : Nat) : Int) := by rw [w64 (by omega) (by omega)]; rfl
    rw [dropperlaw02_sameRatios.l0, if_pos (by omega), if_pos (by omega), if_pos (by omega), hw]
    simp
theorem ratios_ev (l : List S55) (hl : l.length ≤ 4611686018427387904) : Ev (fun k => dropperlaw02_sameRatios.f k l l) true := by
  refine Ev.congr (fun k => ?_) (ratios_loop l hl l.length 0 (by omega) (by omega))
  unfold dropperlaw02_sameRatios.f
  rw [if_pos rfl]; rfl
theorem WireSags_pure (w s p x h n : Int) (w0 : (Lit.int .i64 w).wf = true) (w1 : (Lit.int .i64 s).wf = true) (w2 : (Lit.int .i64 p).wf = true) (w3 : (Lit.int .i64 x).wf = true) (w4 : (Lit.int .i64 h).wf = true) (w5 : (Lit.int .i64 n).wf = true) : ∃ k_, dropperlaw02_WireSags.f k_ w s p x h n = some true := by
  obtain ⟨K0, s0⟩ := awake_ev
  obtain ⟨K1, s1⟩ := sag_ev w s p
  obtain ⟨K2, s2⟩ := drop_ev w s p x
  obtain ⟨⟨K3, s3⟩, ⟨K4, s4⟩⟩ := drp_ev w s p h n
  obtain ⟨K5, s5⟩ := ratios_ev (drpR w s p h n).1 (by have := drpR_len w s p h n; omega)
  generalize hk : K0 + K1 + K2 + K3 + K4 + K5 = K
  have a0 := s0 K (by omega)
  have a1 := s1 (K + 2) (by omega)
  have a2 := s2 (K + 1) (by omega)
  have a3 := s3 K (by omega)
  have a4 := s4 K (by omega)
  have a5 := s5 K (by omega)
  dsimp only at a0 a1 a2 a3 a4 a5
  refine ⟨K + 2, ?_⟩
  unfold dropperlaw02_WireSags.f
  rw [sag_same, a1]
  generalize sagR w s p = y at *
  generalize drpR w s p h n = z at *
  simp only [Option.bind_some, beq_self_eq_true, Bool.not_true, Bool.or_self, Bool.false_eq_true, if_false, bne_self_eq_false]
  show dropperlaw02_WireSags.j0 (K + 1 + 1) x false w s p h n = some true
  rw [dropperlaw02_WireSags.j0, drop_same, a2]
  generalize dropR w s p x = v at *
  simp only [Option.bind_some, beq_self_eq_true, Bool.not_true, Bool.or_self, Bool.false_eq_true, if_false, bne_self_eq_false]
  rw [dropperlaw02_WireSags.j1]
  simp [a0, a3, a4, a5]

/-- A fraction in lowest terms, times what was taken out. -/
theorem frac_ex (n : Int) {d : Int} (hd : 0 < d) : ∃ g : Int, 0 < g ∧ n = (divInt n d).num * g ∧ d = ((divInt n d).den : Int) * g ∧ (0 : Int) < ((divInt n d).den : Int) := by
  have hg0 : 0 < Int.gcd d n := Int.gcd_pos_of_ne_zero_left _ (by omega)
  have d1 : ((Int.gcd d n : Nat) : Int) ∣ n := Int.gcd_dvd_right ..
  have d2 : ((Int.gcd d n : Nat) : Int) ∣ d := Int.gcd_dvd_left ..
  refine ⟨(Int.gcd d n : Int), by omega, ?_, ?_, ?_⟩
  · rw [Rat.num_divInt, Int.sign_eq_one_of_pos hd, Int.one_mul, Int.ediv_mul_cancel d1]
  · rw [Rat.den_divInt, if_neg (by omega), Int.natCast_ediv, Int.natAbs_of_nonneg (by omega), Int.ediv_mul_cancel d2]
  · have := (divInt n d).den_pos
    omega
theorem frac_le {n1 d1 n2 d2 : Int} (h1 : 0 < d1) (h2 : 0 < d2) (h : n1 * d2 ≤ n2 * d1) : (divInt n1 d1).num * ((divInt n2 d2).den : Int) ≤ (divInt n2 d2).num * ((divInt n1 d1).den : Int) := by
  obtain ⟨g1, p1, a1, b1, _⟩ := frac_ex n1 h1
  obtain ⟨g2, p2, a2, b2, _⟩ := frac_ex n2 h2
  generalize (divInt n1 d1).num = N1 at *
  generalize ((divInt n1 d1).den : Int) = D1 at *
  generalize (divInt n2 d2).num = N2 at *
  generalize ((divInt n2 d2).den : Int) = D2 at *
  have hp : 0 < g1 * g2 := Int.mul_pos p1 p2
  refine Int.le_of_mul_le_mul_right (a := g1 * g2) ?_ hp
  have e1 : N1 * D2 * (g1 * g2) = n1 * d2 := by rw [a1, b2]; grind
  have e2 : N2 * D1 * (g1 * g2) = n2 * d1 := by rw [a2, b1]; grind
  rw [e1, e2]; exact h
theorem u16_of {a : Int} (w : (Lit.int .u16 a).wf = true) : 0 ≤ a ∧ a ≤ 65535 := by
  have w' : (decide ((0 : Int) ≤ a) && decide (a ≤ 65535)) = true := w
  simpa using w'
theorem u8_of {a : Int} (w : (Lit.int .u8 a).wf = true) : 0 ≤ a ∧ a ≤ 255 := by
  have w' : (decide ((0 : Int) ≤ a) && decide (a ≤ 255)) = true := w
  simpa using w'
theorem hng_sym (w s n j : Int) : hng w s n (n + 1 - j) = hng w s n j := by
  unfold hng
  have e : n + 1 - (n + 1 - j) = j := by omega
  rw [e, Int.mul_assoc, Int.mul_assoc (w * s * s), Int.mul_comm (n + 1 - j)]
theorem last_step (k : Nat) {x n : Int} {l : List S55} {i m : Nat} (hi : i < l.length) (hm : m < l.length) (em : wrap64 (wrap64 ((l.length : Int) - 1) - i) = (m : Int)) (hw : wrap64 ((i : Int) + 1) = ((i + 1 : Nat) : Int)) (es : rd_T55 l (m : Int) = rd_T55 l (i : Int)) (n1 : ¬ (rd_T55 l (i : Int)).f0 < 1) (n4 : ¬ (rd_T55 l (i : Int)).f0 > wrap64 (x * (rd_T55 l (i : Int)).f1)) :
    dropperlaw02_WireDroppers.l0 (k + 1) x n l i = dropperlaw02_WireDroppers.l0 k x n l ((i + 1 : Nat) : Int) := by
  rw [dropperlaw02_WireDroppers.l0, if_pos (Int.ofNat_lt.2 hi), if_pos (Int.natCast_nonneg i), em, if_pos (Int.natCast_nonneg m), if_pos (Int.ofNat_lt.2 hm), es, if_neg (by simp), if_neg n1, if_neg n4, hw]
theorem last_em {L i m : Nat} (hL : L ≤ 20) (hi : i < L) (hm : L - 1 - i = m) : wrap64 (wrap64 ((L : Int) - 1) - i) = (m : Int) := by
  rw [w64 (n := (L : Int) - 1) (by omega) (by omega), w64 (by omega) (by omega)]; omega
theorem last_hw {i : Nat} (hi : i < 20) : wrap64 ((i : Int) + 1) = ((i + 1 : Nat) : Int) := by rw [w64 (by omega) (by omega)]; rfl
theorem last_loop {w s p x n : Int} (h : okM w s p) (hx : 0 ≤ x ∧ x ≤ 10000) (hn : 0 ≤ n ∧ n ≤ 20) {l : List S55} (hl : l = (List.range n.toNat).map (fun i : Nat => drp w s p x n (1 + i))) (hp : ∀ i : Nat, i < n.toNat → 0 < x * prt p n - hng w s n (1 + i)) : ∀ (d i : Nat), l.length - i = d → i ≤ l.length → Ev (fun k => dropperlaw02_WireDroppers.l0 k x n l i) true := by
  have hlen : l.length = n.toNat := by rw [hl]; simp
  have hget : ∀ i : Nat, i < l.length → rd_T55 l (i : Int) = drp w s p x n (1 + i) := by
    intro i hi
    rw [hlen] at hi
    subst hl
    simp [rd_T55, List.getD_eq_getElem?_getD, hi]
  intro d
  induction d with
  | zero =>
    intro i hd hi
    obtain rfl : i = l.length := by omega
    obtain ⟨K, e⟩ := awake_ev
    refine Ev.step (f := fun k => (dropperlaw02_Awake.f k).bind fun t => some t) (fun k => ?_) (Ev.bind ⟨K, e⟩ (Ev.now _))
    rw [dropperlaw02_WireDroppers.l0, if_neg (by omega), if_pos (by omega)]
  | succ d ih =>
    intro i hd hi
    have hlt : i < l.length := by omega
    have a2 := (prt_bd h hn).2.1
    have a3 := (prt_bd h hn).2.2
    have b2 := (hng_bd (j := 1 + i) h hn (by omega)).2.1
    have b3 := (hng_bd (j := 1 + i) h hn (by omega)).2.2
    have c2 := (hd_bd h hn hx).2.1
    have c3 := (hd_bd h hn hx).2.2
    have q0 := hp i (by omega)
    obtain ⟨m, hm⟩ : ∃ m : Nat, l.length - 1 - i = m := ⟨_, rfl⟩
    have es : drp w s p x n (1 + m) = drp w s p x n (1 + i) := by
      unfold drp
      rw [show (1 : Int) + (m : Int) = n + 1 - (1 + i) by omega, hng_sym]
    obtain ⟨g, g0, gn, gd, gp⟩ := frac_ex (x * prt p n - hng w s n (1 + i)) (show 0 < prt p n by omega)
    have n1 : ¬ (drp w s p x n (1 + i)).f0 < 1 := by
      show ¬ (divInt (x * prt p n - hng w s n (1 + i)) (prt p n)).num < 1
      intro z
      have : (divInt (x * prt p n - hng w s n (1 + i)) (prt p n)).num * g ≤ 0 := Int.mul_nonpos_of_nonpos_of_nonneg (by omega) (by omega)
      omega
    have n2 : (divInt (x * prt p n - hng w s n (1 + i)) (prt p n)).num ≤ x * ((divInt (x * prt p n - hng w s n (1 + i)) (prt p n)).den : Int) := by
      refine Int.le_of_mul_le_mul_right (a := g) ?_ g0
      rw [← gn, Int.mul_assoc, ← gd]
      omega
    have n3 := (ratio_num_le (n := x * prt p n - hng w s n (1 + i)) (show 0 < prt p n by omega)).2
    have m1 := mul_bd (a := x) (b := ((divInt (x * prt p n - hng w s n (1 + i)) (prt p n)).den : Int)) (A := 10000) (B := 882000000) (by omega) (by omega)
    have n4 : ¬ (drp w s p x n (1 + i)).f0 > wrap64 (x * (drp w s p x n (1 + i)).f1) := by
      show ¬ (divInt (x * prt p n - hng w s n (1 + i)) (prt p n)).num > wrap64 (x * ((divInt (x * prt p n - hng w s n (1 + i)) (prt p n)).den : Int))
      rw [w64 (by omega) (by omega)]
      omega
    have ei := hget i hlt
    have em' := hget m (by omega)
    refine Ev.step (fun k => last_step k hlt (by omega) (last_em (by omega) hlt hm) (last_hw (by omega)) (by rw [em', ei, es]) (by rw [ei]; exact n1) (by rw [ei]; exact n4)) (ih (i + 1) (by omega) (by omega))
theorem droppers_core {w s p x h n d0 d1 : Int} (hok : okM w s p) (hx0 : 0 ≤ x) (hx1 : x ≤ s) (hh : 0 ≤ h ∧ h ≤ 10000) (hn : 0 ≤ n ∧ n ≤ 20) (E6 : Aside0 (Int.tmod (wrap64 d0) 10001 = h)) (E7 : Aside0 (Int.tmod (wrap64 d1) 21 = n)) :
    dropR w s p (s - x) = dropR w s p x ∧ dropR w s p 0 = (0, 1, 0) ∧ (dropR w s p x).2.2 = 0 ∧ Ev (fun k => dropperlaw02_WireDroppers.j0 k w s p false d0 d1 (dropR w s p x).1 (dropR w s p x).2.1) true := by
  have hok' := hok
  obtain ⟨k1, k2, k3, k4, k5, k6⟩ := hok'
  have Q := Aside0.mk (sag_bd hok)
  have q2 := Q.out.2.1
  have q3 := Q.out.2.2.1
  have R := Aside0.mk (drop_bd hok hx0 hx1)
  have r2 := R.out.2.1
  have r3 := R.out.2.2
  obtain ⟨K0, s0⟩ := awake_ev
  obtain ⟨K4, s4⟩ := sag_ev w s p
  obtain ⟨K5, s5⟩ := drop_ev w s p (s / 2)
  obtain ⟨⟨K6, s6⟩, _⟩ := drp_ev w s p h n
  have eD : dropR w s p x = ((divInt (w * x * (s - x)) (2 * p)).num, ((divInt (w * x * (s - x)) (2 * p)).den : Int), 0) := by unfold dropR; rw [if_pos ⟨hok, hx0, hx1⟩]
  have eD2 : dropR w s p (s - x) = dropR w s p x := by
    rw [eD]
    unfold dropR
    rw [if_pos ⟨hok, by omega, by omega⟩]
    have : w * (s - x) * (s - (s - x)) = w * x * (s - x) := by
      rw [show s - (s - x) = x by omega, Int.mul_assoc, Int.mul_comm (s - x), ← Int.mul_assoc]
    rw [this]
  have eD0 : dropR w s p 0 = (0, 1, 0) := by
    unfold dropR
    rw [if_pos ⟨hok, by omega, by omega⟩, show w * 0 * (s - 0) = 0 by simp]
    simp [Rat.zero_divInt]
  have eS : sagR w s p = ((divInt (w * s * s) (8 * p)).num, ((divInt (w * s * s) (8 * p)).den : Int), 0) := by unfold sagR; rw [if_pos hok]
  have hp0 : 0 < p := by omega
  have cross : w * x * (s - x) * (8 * p) ≤ w * s * s * (2 * p) := by
    have c1 : 4 * (x * (s - x)) ≤ s * s := by
      have : 0 ≤ (s - 2 * x) * (s - 2 * x) := by
        rcases Int.le_total 0 (s - 2 * x) with z | z
        · exact Int.mul_nonneg z z
        · exact Int.mul_nonneg_of_nonpos_of_nonpos z z
      grind
    have c2 : 0 ≤ w * (2 * p) := Int.mul_nonneg (by omega) (by omega)
    have c3 := Int.mul_le_mul_of_nonneg_left c1 c2
    have t1 : w * (2 * p) * (4 * (x * (s - x))) = w * x * (s - x) * (8 * p) := by grind
    have t2 : w * (2 * p) * (s * s) = w * s * s * (2 * p) := by grind
    rw [t1, t2] at c3
    exact c3
  have hle := frac_le (show 0 < 2 * p by omega) (show 0 < 8 * p by omega) cross
  have n1 := ratio_num_le (n := w * x * (s - x)) (show 0 < 2 * p by omega)
  have n2 := ratio_num_le (n := w * s * s) (show 0 < 8 * p by omega)
  have nm1 := mul_bd (a := (divInt (w * x * (s - x)) (2 * p)).num) (b := ((divInt (w * s * s) (8 * p)).den : Int)) (A := 10000000) (B := 8000000) (by omega) (by omega)
  have nm2 := mul_bd (a := (divInt (w * s * s) (8 * p)).num) (b := ((divInt (w * x * (s - x)) (2 * p)).den : Int)) (A := 10000000) (B := 2000000) (by omega) (by omega)
  have eH : s % 2 = 0 → dropR w s p (s / 2) = sagR w s p := by
    intro hz
    rw [eS]
    unfold dropR
    rw [if_pos ⟨hok, by omega, by omega⟩]
    have : divInt (w * (s / 2) * (s - s / 2)) (2 * p) = divInt (w * s * s) (8 * p) := by
      rw [Rat.divInt_eq_divInt_iff (by omega) (by omega)]
      obtain ⟨t, rfl⟩ : ∃ t, s = 2 * t := ⟨s / 2, by omega⟩
      rw [show 2 * t / 2 = t by omega, show 2 * t - t = t by omega]
      grind
    rw [this]
  have hR := drpL_char (w := w) (s := s) (p := p) (x := h) (n := n) n.toNat 1 []
  have eR : drpR w s p h n = drpL w s p h n n.toNat 1 [] := by
    unfold drpR
    rw [if_pos ⟨hok, hh, hn⟩]
  have j2 : Ev (fun k => dropperlaw02_WireDroppers.j2 k w s p d0 d1) true := by
    refine Ev.step (f := fun k => (wire_Droppers.f k w s p h n).bind fun bt123 => (if bt123.2 = 0 then (dropperlaw02_WireDroppers.l0 k h n bt123.1 0) else (if bt123.2 = 5 then (if n > 0 then (if (bt123.1.length : Int) = 0 then ((dropperlaw02_Awake.f k).bind fun t127 => (some t127)) else (some false)) else (some false)) else (some false)))) (fun k => ?_) (Ev.bind ⟨K6, s6⟩ ?_)
    · rw [dropperlaw02_WireDroppers.j2, E6.out, E7.out]
    · rw [eR]
      rcases hR with ⟨h1, h2⟩ | ⟨h1, h2⟩
      · rw [h1]
        simp only [if_neg (show ¬ ((5 : Int) = 0) by decide), if_true, if_pos (show n > 0 by omega), List.length_nil, Int.natCast_zero]
        exact Ev.bind ⟨K0, s0⟩ (Ev.now _)
      · rw [h1]
        simp only [if_true]
        exact last_loop hok hh hn (by simp) h2 _ 0 rfl (by omega)
  have j1 : ∀ (N D : Int), (s % 2 = 0 → dropR w s p (s / 2) = (N, D, 0)) → Ev (fun k => dropperlaw02_WireDroppers.j1 k w s p false d0 d1 N D) true := by
    intro N D hN
    have hdiv : wrap64 (Int.tdiv s 2) = s / 2 := by rw [Int.tdiv_eq_ediv_of_nonneg (by omega), w64 (by omega) (by omega)]
    have hmod : Int.tmod s 2 = s % 2 := Int.tmod_eq_emod_of_nonneg (by omega)
    by_cases z : s % 2 = 0
    · have e5 : Ev (fun k => wire_Drop.f k w s p (s / 2)) (N, D, 0) := by rw [← hN z]; exact ⟨K5, s5⟩
      refine Ev.step (f := fun k => (wire_Drop.f k w s p (s / 2)).bind fun bt119 => (if bt119.2.2 = 0 then (if (!(bt119.1 == N) || (!(bt119.2.1 == D))) = true then (some false) else (dropperlaw02_WireDroppers.j2 k w s p d0 d1)) else (some false))) (fun k => ?_) (Ev.bind e5 ?_)
      · rw [dropperlaw02_WireDroppers.j1, if_neg (by decide), hmod, if_pos z, hdiv]
      · simp only [if_true, beq_self_eq_true, Bool.not_true, Bool.or_self, Bool.false_eq_true, if_false]
        exact j2
    · refine Ev.step (fun k => ?_) j2
      rw [dropperlaw02_WireDroppers.j1, if_neg (by decide), hmod, if_neg z]
  have j0 : Ev (fun k => dropperlaw02_WireDroppers.j0 k w s p false d0 d1 (dropR w s p x).1 (dropR w s p x).2.1) true := by
    refine Ev.step (f := fun k => (wire_Sag.f k w s p).bind fun bt115 => (if bt115.2.2 = 0 then (dropperlaw02_WireDroppers.j1 k w s p (decide ((wrap64 ((dropR w s p x).1 * bt115.2.1)) > (wrap64 (bt115.1 * (dropR w s p x).2.1)))) d0 d1 bt115.1 bt115.2.1) else (dropperlaw02_WireDroppers.j1 k w s p true d0 d1 bt115.1 bt115.2.1))) (fun k => ?_) (Ev.bind ⟨K4, s4⟩ ?_)
    · rw [dropperlaw02_WireDroppers.j0, if_neg (by decide)]
    · have hj := j1 (sagR w s p).1 (sagR w s p).2.1 (fun z => by rw [eH z, eS])
      rw [eS] at hj ⊢
      rw [eD]
      simp only [if_true]
      rw [w64 (n := (divInt (w * x * (s - x)) (2 * p)).num * ((divInt (w * s * s) (8 * p)).den : Int)) (by omega) (by omega), w64 (n := (divInt (w * s * s) (8 * p)).num * ((divInt (w * x * (s - x)) (2 * p)).den : Int)) (by omega) (by omega), decide_eq_false (by omega)]
      exact hj
  exact ⟨eD2, eD0, by rw [eD], j0⟩
theorem WireDroppers_pure (v0 v1 v2 at_ d0 d1 : Int) (w0 : (Lit.int .u16 v0).wf = true) (w1 : (Lit.int .u16 v1).wf = true) (w2 : (Lit.int .u16 v2).wf = true) (w3 : (Lit.int .u8 at_).wf = true) (w4 : (Lit.int .u16 d0).wf = true) (w5 : (Lit.int .u16 d1).wf = true) : ∃ k_, dropperlaw02_WireDroppers.f k_ v0 v1 v2 at_ d0 d1 = some true := by
  have b0 := u16_of w0
  have b1 := u16_of w1
  have b2 := u16_of w2
  have b3 := u8_of w3
  have b4 := u16_of w4
  have b5 := u16_of w5
  have e0 : wrap64 (1 + Int.tmod (wrap64 v0) 1000) = 1 + v0 % 1000 := by rw [w64 (n := v0) (by omega) (by omega), Int.tmod_eq_emod_of_nonneg b0.1, w64 (by omega) (by omega)]
  have e1 : wrap64 (1 + Int.tmod (wrap64 v1) 100) = 1 + v1 % 100 := by rw [w64 (n := v1) (by omega) (by omega), Int.tmod_eq_emod_of_nonneg b1.1, w64 (by omega) (by omega)]
  have e2 : wrap64 (1 + wrap64 v2) = 1 + v2 := by rw [w64 (n := v2) (by omega) (by omega), w64 (by omega) (by omega)]
  obtain ⟨w, hw⟩ : ∃ w, w = 1 + v0 % 1000 := ⟨_, rfl⟩
  obtain ⟨s, hs⟩ : ∃ s, s = 1 + v1 % 100 := ⟨_, rfl⟩
  obtain ⟨p, hp⟩ : ∃ p, p = 1 + v2 := ⟨_, rfl⟩
  have hok : okM w s p := ⟨by omega, by omega, by omega, by omega, by omega, by omega⟩
  have e3 : wrap64 (wrap64 (1 + Int.tmod (wrap64 v1) 100) + 1) = s + 1 := by rw [e1, ← hs, w64 (by omega) (by omega)]
  have e4 : Int.tmod (wrap64 at_) (s + 1) = at_ % (s + 1) := by rw [w64 (n := at_) (by omega) (by omega), Int.tmod_eq_emod_of_nonneg b3.1]
  obtain ⟨x, hx⟩ : ∃ x, x = at_ % (s + 1) := ⟨_, rfl⟩
  have hx0 : 0 ≤ x := by rw [hx]; exact Int.emod_nonneg _ (by omega)
  have hx1 : x ≤ s := by rw [hx]; have := Int.emod_lt_of_pos at_ (show 0 < s + 1 by omega); omega
  have e5 : wrap64 (s - x) = s - x := w64 (by omega) (by omega)
  have e6 : Int.tmod (wrap64 d0) 10001 = d0 % 10001 := by rw [w64 (n := d0) (by omega) (by omega), Int.tmod_eq_emod_of_nonneg b4.1]
  have e7 : Int.tmod (wrap64 d1) 21 = d1 % 21 := by rw [w64 (n := d1) (by omega) (by omega), Int.tmod_eq_emod_of_nonneg b5.1]
  obtain ⟨K1, s1⟩ := drop_ev w s p x
  obtain ⟨K2, s2⟩ := drop_ev w s p (s - x)
  obtain ⟨K3, s3⟩ := drop_ev w s p 0
  obtain ⟨eD2, eD0, eX, ⟨K7, s7⟩⟩ := droppers_core (d0 := d0) (d1 := d1) hok hx0 hx1 (h := d0 % 10001) (n := d1 % 21) ⟨by omega, by omega⟩ ⟨by omega, by omega⟩ ⟨e6⟩ ⟨e7⟩
  generalize hk : K1 + K2 + K3 + K7 = K
  have a1 := s1 K (by omega)
  have a2 := s2 K (by omega)
  have a3 := s3 K (by omega)
  have a7 := s7 K (by omega)
  dsimp only at a1 a2 a3 a7
  rw [eD2] at a2
  rw [eD0] at a3
  refine ⟨K, ?_⟩
  unfold dropperlaw02_WireDroppers.f
  rw [e3, if_neg (by omega), e0, e1, e2, ← hw, ← hs, ← hp, e4, ← hx, e5, a1, a2, a3]
  generalize dropR w s p x = X at *
  simp only [Option.bind_some, eX, if_true, beq_self_eq_true, Bool.not_true, Bool.or_self, Bool.false_eq_true, if_false]
  exact a7
end Go.Proofs.Ytciepmpadcpkbaa.G
