/- The program's numbers of states, what is behind a night, and its sets of states that can go on. Plain Lean. -/
import Derived.Test.YthbpibdfookbmaaPBase
import Derived.Test.YthbpibdfookbmaaGF53
import Derived.Test.YthbpibdfookbmaaGF54
import Derived.Test.YthbpibdfookbmaaGF60
import Derived.Test.YthbpibdfookbmaaGF74
import Derived.Test.YthbpibdfookbmaaGF87
namespace Go.Proofs.Ythbpibdfookbmaa.G
set_option linter.unusedVariables false
set_option linter.unusedSimpArgs false
open Go.RowKit Go.Proofs.YthbpibdfookbmaaW.PrintWords Go.Proofs.YthbpibdfookbmaaW.PrintLast
/-- What a digit of each section counts. -/
def bysU (w : List Int) (n : Nat) : List Int := (List.range n).map fun i => prodI (w.take i)
def bys (w : List Int) : List Int := bysU w w.length
theorem rd_bys {w : List Int} {i : Nat} (h : i < w.length) : rd (bys w) (i : Int) = prodI (w.take i) := by
  simp [bys, bysU, rd, List.getD_eq_getElem?_getD, h]
theorem bys_len (w : List Int) : (bys w).length = w.length := by simp [bys, bysU]
theorem by_bd {w : List Int} (h : okW w) (i : Nat) : 1 ≤ prodI (w.take i) ∧ prodI (w.take i) ≤ prodI w := by
  have h1 := prodI_pos (pos_take (okW_pos h) i)
  have h2 := prodI_pos (pos_drop (okW_pos h) i)
  have h3 := prodI_split w i
  refine ⟨h1, ?_⟩
  have : prodI (w.take i) * 1 ≤ prodI (w.take i) * prodI (w.drop i) := Int.mul_le_mul_of_nonneg_left h2 (by omega)
  omega
theorem gameOf_loop {w : List Int} (h : okW w) : ∀ (d i : Nat), w.length - i = d → i ≤ w.length → Ev (fun k => ice_gameOf.l0 k w w.length i w (bysU w i) (prodI (w.take i))) (w, bys w, prodI w) := by
  have hlen := h.1.2
  obtain ⟨b1, b2⟩ := prodI_le h
  intro d
  induction d with
  | zero =>
    intro i hd hi
    obtain rfl : i = w.length := by omega
    refine ev_some _ fun k => ?_
    rw [ice_gameOf.l0, if_neg (by omega), List.take_length]
    rfl
  | succ d ih =>
    intro i hd hi
    have e := ih (i + 1) (by omega) (by omega)
    have p := prodI_take_succ w i (by omega)
    have q := by_bd h (i + 1)
    have u : bysU w (i + 1) = bysU w i ++ [prodI (w.take i)] := by simp [bysU, List.range_succ]
    rw [u] at e
    refine Ev.step (fun k => ?_) e
    rw [ice_gameOf.l0, if_pos (by omega), if_pos (by omega), if_pos (by omega), if_pos (by simp [bysU]; omega), wsucc i (by omega), ← p, w64 (by omega) (by omega)]
theorem gameOf_ev {w : List Int} (h : okW w) : Ev (fun k => ice_gameOf.f k w) (w, bys w, prodI w) := gameOf_loop h w.length 0 (by omega) (by omega)
theorem num_div : ∀ {w s : List Int} (i : Nat), okSt w s → numL w s / prodI (w.take i) = numL (w.drop i) (s.drop i)
  | w, s, 0, h => by simp [prodI]
  | [], [], i + 1, h => by simp [numL, prodI]
  | a :: w, x :: s, i + 1, h => by
    have e := num_div (w := w) (s := s) i h.2
    have h1 := numL_bd h
    obtain ⟨⟨h3, h4⟩, h5⟩ := h
    simp only [List.take_succ_cons, List.drop_succ_cons, prodI]
    rw [← e, ← Int.ediv_ediv_of_nonneg (by omega)]
    congr 1
    simp only [numL]
    rw [Int.add_mul_ediv_left _ _ (by omega), Int.ediv_eq_zero_of_lt (by omega) (by omega)]
    omega
  | [], _ :: _, _, h => h.elim
  | _ :: _, [], _, h => h.elim
theorem num_digit {w s : List Int} (h : okSt w s) {i : Nat} (hi : i < w.length) : (numL w s / prodI (w.take i)) % rd w (i : Int) + 1 = rd s (i : Int) := by
  have hs := okSt_len h
  obtain ⟨h1, h2⟩ := (okSt_iff.1 h).2 i hi
  rw [num_div i h, rd_drop w i hi, rd_drop s i (by omega)]
  simp only [numL]
  rw [Int.add_mul_emod_self_left, Int.emod_eq_of_lt (by omega) (by omega)]
  omega
theorem digit_some {w s : List Int} (o : okW w) (h : okSt w s) (N : Int) {i : Nat} (hi : i < w.length) : ice_game_digit.f w (bys w) N (numL w s) i = some (rd s (i : Int), N) := by
  obtain ⟨b1, b2⟩ := prodI_le o
  obtain ⟨n1, n2⟩ := numL_bd h
  have q := by_bd o i
  have r := o.2 i hi
  have hx := (okSt_iff.1 h).2 i hi
  have e := num_digit h hi
  have z1 : 0 ≤ numL w s / prodI (w.take i) := Int.ediv_nonneg n1 (by omega)
  have z2 : numL w s / prodI (w.take i) ≤ numL w s := Int.ediv_le_self _ n1
  unfold ice_game_digit.f
  rw [if_pos (by omega), if_pos (by rw [bys_len]; omega), rd_bys hi, if_neg (by omega), if_pos (by omega), if_neg (by omega), Int.tdiv_eq_ediv_of_nonneg n1, w64 (n := numL w s / prodI (w.take i)) (by omega) (by omega), Int.tmod_eq_emod_of_nonneg z1, w64 (by omega) (by omega), e]
/-- The number of the state behind a night; -1: it is lost. -/
def tn (w s : List Int) (c : Int) : Int := match nx w s c with
  | some t => numL w t
  | none => -1
theorem tonight_loop {w s : List Int} (o : okW w) (h : okSt w s) (N c : Int) : ∀ (d i : Nat) (acc : Int), w.length - i = d → i ≤ w.length → 0 ≤ acc → acc < prodI (w.take i) →
    Ev (fun k => ice_game_tonight.l0 k (numL w s) c acc w w.length i w (bys w) N) (match nx (w.drop i) (s.drop i) (c - i) with | some t => acc + prodI (w.take i) * numL (w.drop i) t | none => -1, N) := by
  have hlen := o.1.2
  have hs := okSt_len h
  obtain ⟨b1, b2⟩ := prodI_le o
  intro d
  induction d with
  | zero =>
    intro i acc hd hi ha hb
    obtain rfl : i = w.length := by omega
    refine ev_some _ fun k => ?_
    rw [ice_game_tonight.l0, if_neg (by omega), List.drop_length]
    simp [nx, numL]
  | succ d ih =>
    intro i acc hd hi ha hb
    have hx := (okSt_iff.1 h).2 i (by omega)
    have hw8 := o.2 i (by omega)
    have p := prodI_take_succ w i (by omega)
    have q0 := by_bd o i
    have q := by_bd o (i + 1)
    have dg := digit_some o h N (i := i) (by omega)
    have go : ∀ m : Int, 1 ≤ m → m ≤ rd w (i : Int) → Ev (fun k => ice_game_tonight.l0 k (numL w s) c (acc + (m - 1) * prodI (w.take i)) w w.length ((i + 1 : Nat) : Int) w (bys w) N)
        (match (nx (w.drop (i + 1)) (s.drop (i + 1)) (c - i - 1)).map (fun t => m :: t) with | some t => acc + prodI (w.take i) * numL (w.drop i) t | none => -1, N) := by
      intro m h1 h2
      have m1 : 0 ≤ (m - 1) * prodI (w.take i) := Int.mul_nonneg (by omega) (by omega)
      have m2 : (m - 1) * prodI (w.take i) ≤ (rd w (i : Int) - 1) * prodI (w.take i) := Int.mul_le_mul_of_nonneg_right (by omega) (by omega)
      have m3 : (rd w (i : Int) - 1) * prodI (w.take i) = prodI (w.take (i + 1)) - prodI (w.take i) := by rw [p, Int.sub_mul, Int.mul_comm]; omega
      have e := ih (i + 1) (acc + (m - 1) * prodI (w.take i)) (by omega) (by omega) (by omega) (by omega)
      rw [show c - ((i + 1 : Nat) : Int) = c - i - 1 by omega] at e
      rw [rd_drop w i (by omega)]
      cases z : nx (w.drop (i + 1)) (s.drop (i + 1)) (c - i - 1) with
      | none => rw [z] at e; exact e
      | some t =>
        rw [z] at e
        have e2 : acc + (m - 1) * prodI (w.take i) + prodI (w.take (i + 1)) * numL (w.drop (i + 1)) t = acc + prodI (w.take i) * numL (rd w (i : Int) :: w.drop (i + 1)) (m :: t) := by
          simp only [numL]
          rw [p, Int.mul_add, Int.mul_comm (m - 1), Int.mul_assoc]
          omega
        simp only [Option.map_some]
        rw [← e2]
        exact e
    rw [show nx (w.drop i) (s.drop i) (c - i) = if (if c - i = 0 then rd w (i : Int) else rd s (i : Int) - 1) = 0 then none else (nx (w.drop (i + 1)) (s.drop (i + 1)) (c - i - 1)).map fun t => (if c - i = 0 then rd w (i : Int) else rd s (i : Int) - 1) :: t by rw [rd_drop w i (by omega), rd_drop s i (by omega)]; rfl]
    by_cases cc : (i : Int) = c
    · have g := go (rd w (i : Int)) (by omega) (by omega)
      rw [if_pos (show c - (i : Int) = 0 by omega), if_neg (by omega)]
      have m1 : 0 ≤ (rd w (i : Int) - 1) * prodI (w.take i) := Int.mul_nonneg (by omega) (by omega)
      have m3 : (rd w (i : Int) - 1) * prodI (w.take i) = prodI (w.take (i + 1)) - prodI (w.take i) := by rw [p, Int.sub_mul, Int.mul_comm]; omega
      refine Ev.step (fun k => ?_) g
      rw [ice_game_tonight.l0, if_pos (by omega), if_pos (by omega), if_pos (by omega), dg]
      simp only [Option.bind_some]
      rw [if_pos cc, if_pos (by rw [bys_len]; omega), rd_bys (by omega), wsucc i (by omega), w64 (n := rd w (i : Int) - 1) (by omega) (by omega), w64 (n := (rd w (i : Int) - 1) * prodI (w.take i)) (by omega) (by omega), w64 (by omega) (by omega)]
    · rw [if_neg (show ¬ c - (i : Int) = 0 by omega)]
      by_cases c1 : rd s (i : Int) - 1 = 0
      · rw [if_pos c1]
        refine ev_some _ fun k => ?_
        rw [ice_game_tonight.l0, if_pos (by omega), if_pos (by omega), if_pos (by omega), dg]
        simp only [Option.bind_some]
        rw [if_neg cc, w64 (n := rd s (i : Int) - 1) (by omega) (by omega), if_pos c1]
      · rw [if_neg c1]
        have g := go (rd s (i : Int) - 1) (by omega) (by omega)
        have m1 : 0 ≤ (rd s (i : Int) - 1 - 1) * prodI (w.take i) := Int.mul_nonneg (by omega) (by omega)
        have m2 : (rd s (i : Int) - 1 - 1) * prodI (w.take i) ≤ (rd w (i : Int) - 1) * prodI (w.take i) := Int.mul_le_mul_of_nonneg_right (by omega) (by omega)
        have m3 : (rd w (i : Int) - 1) * prodI (w.take i) = prodI (w.take (i + 1)) - prodI (w.take i) := by rw [p, Int.sub_mul, Int.mul_comm]; omega
        refine Ev.step (fun k => ?_) g
        rw [ice_game_tonight.l0, if_pos (by omega), if_pos (by omega), if_pos (by omega), dg]
        simp only [Option.bind_some]
        rw [if_neg cc, w64 (n := rd s (i : Int) - 1) (by omega) (by omega), if_neg c1, if_pos (by rw [bys_len]; omega), rd_bys (by omega), wsucc i (by omega), w64 (n := rd s (i : Int) - 1 - 1) (by omega) (by omega), w64 (n := (rd s (i : Int) - 1 - 1) * prodI (w.take i)) (by omega) (by omega), w64 (by omega) (by omega)]
theorem tonight_ev {w s : List Int} (o : okW w) (h : okSt w s) (N c : Int) : Ev (fun k => ice_game_tonight.f k w (bys w) N (numL w s) c) (tn w s c, N) := by
  have e := tonight_loop o h N c w.length 0 0 (by omega) (by omega) (by omega) (by simp [prodI])
  simp only [List.drop_zero, List.take_zero, prodI, Int.one_mul, Int.zero_add, Int.natCast_zero, Int.sub_zero] at e
  exact e
theorem tn_bd {w s : List Int} (h : okSt w s) {c : Int} {t : List Int} (e : nx w s c = some t) : tn w s c = numL w t ∧ okSt w t ∧ 0 ≤ numL w t ∧ numL w t < prodI w := by
  have ot := nx_ok h e
  refine ⟨?_, ot, numL_bd ot⟩
  unfold tn
  rw [e]
/-- The program's set of the states that can go on for k nights. -/
def setL (w : List Int) (k : Nat) : List Bool := (List.range (prodI w).toNat).map fun i : Nat => K w k (digL w (i : Int))
theorem setL_len (w : List Int) (k : Nat) : (setL w k).length = (prodI w).toNat := by simp [setL]
theorem setL_rd {w s : List Int} (h : okSt w s) (k : Nat) : rdOf false (setL w k) (numL w s) = K w k s := by
  obtain ⟨h1, h2⟩ := num_lt h
  have : (digL w ((numL w s).toNat : Int)) = s := by rw [h2]; exact dig_num h
  unfold setL rdOf
  rw [List.getD_eq_getElem?_getD, List.getElem?_map, List.getElem?_range h1]
  simp only [Option.map_some, Option.getD_some, this]
theorem setL_eq {w : List Int} (hp : pos w) {k m : Nat} : setL w k = setL w m ↔ ∀ s, okSt w s → K w k s = K w m s := by
  constructor
  · intro e s hs
    rw [← setL_rd hs, ← setL_rd hs, e]
  · intro h
    unfold setL
    refine List.map_congr_left fun i hi => ?_
    exact h _ (dig_ok hp (List.mem_range.1 hi)).2
theorem setL_stable {w : List Int} (hp : pos w) {k : Nat} : setL w (k + 1) = setL w k ↔ stable w k := setL_eq hp
theorem all_some {w : List Int} (o : okW w) : ice_game_all.f w (bys w) (prodI w) = some (setL w 0, prodI w) := by
  obtain ⟨b1, b2⟩ := prodI_le o
  unfold ice_game_all.f slices_Repeat_bool_bool.f
  rw [if_pos (by simp), if_pos (by omega), if_pos (by omega)]
  simp only [Option.bind_some]
  congr 2
  unfold setL
  refine List.ext_getElem (by simp) fun i h1 h2 => ?_
  simp [K, rdOf]
/-- Whether a choice leads on. -/
def good (w : List Int) (k : Nat) (s : List Int) (c : Int) : Bool := match nx w s c with
  | some t => K w k t
  | none => false
def gF (w : List Int) (k : Nat) (s : List Int) : Nat → Bool
  | 0 => false
  | m + 1 => good w k s ((w.length : Int) - (m + 1)) || gF w k s m
theorem gF_iff {w : List Int} {k : Nat} {s : List Int} : ∀ {m : Nat}, gF w k s m = true ↔ ∃ c : Int, (w.length : Int) - m ≤ c ∧ c < w.length ∧ good w k s c = true
  | 0 => by
    simp only [gF, Bool.false_eq_true, false_iff]
    rintro ⟨c, h1, h2, _⟩; omega
  | m + 1 => by
    simp only [gF, Bool.or_eq_true]
    rw [gF_iff (m := m)]
    constructor
    · rintro (h | ⟨c, h1, h2, h3⟩)
      · exact ⟨_, by omega, by omega, h⟩
      · exact ⟨c, by omega, h2, h3⟩
    · rintro ⟨c, h1, h2, h3⟩
      by_cases q : c = (w.length : Int) - (m + 1)
      · left; rw [← q]; exact h3
      · right; exact ⟨c, by omega, h2, h3⟩
theorem good_iff {w : List Int} {k : Nat} {s : List Int} {c : Int} : good w k s c = true ↔ ∃ t, nx w s c = some t ∧ K w k t = true := by
  unfold good
  cases nx w s c with
  | none => simp
  | some t => simp
theorem K_gF {w : List Int} {k : Nat} {s : List Int} : K w (k + 1) s = gF w k s (w.length + 1) := by
  rw [Bool.eq_iff_iff, K_succ, gF_iff]
  constructor
  · rintro ⟨c, t, h1, h2, h3, h4⟩
    exact ⟨c, by omega, h2, good_iff.2 ⟨t, h3, h4⟩⟩
  · rintro ⟨c, h1, h2, h3⟩
    obtain ⟨t, h4, h5⟩ := good_iff.1 h3
    exact ⟨c, t, by omega, h2, h4, h5⟩
/-- The set under way: the first j numbers are told, number j is b, the others false. -/
def mid (f : Nat → Bool) (N j : Nat) (b : Bool) : List Bool := (List.range j).map f ++ b :: List.replicate (N - j - 1) false
theorem mid_len {f : Nat → Bool} {N j : Nat} {b : Bool} (h : j < N) : (mid f N j b).length = N := by simp [mid]; omega
theorem mid_rd {f : Nat → Bool} {N j : Nat} {b : Bool} (h : j < N) : rdOf false (mid f N j b) (j : Int) = b := by
  simp [mid, rdOf, List.getD_eq_getElem?_getD, List.getElem?_append]
theorem mid_set {f : Nat → Bool} {N j : Nat} {b v : Bool} (h : j < N) : (mid f N j b).set j v = mid f N j v := by
  simp [mid, List.set_append]
theorem mid_next {f : Nat → Bool} {N j : Nat} (h : j + 1 < N) : mid f N j (f j) = mid f N (j + 1) false := by
  unfold mid
  rw [List.range_succ, List.map_append, List.append_assoc]
  congr 1
  have : N - j - 1 = N - (j + 1) - 1 + 1 := by omega
  rw [this, List.replicate_succ]
  rfl
theorem mid_last {f : Nat → Bool} {N j : Nat} (h : j + 1 = N) : mid f N j (f j) = (List.range N).map f := by
  unfold mid
  rw [← h, List.range_succ, List.map_append, show j + 1 - j - 1 = 0 by omega]
  rfl
theorem mid_first {f : Nat → Bool} {N : Nat} (h : 0 < N) : mid f N 0 false = List.replicate N false := by
  unfold mid
  obtain ⟨m, rfl⟩ : ∃ m, N = m + 1 := ⟨N - 1, by omega⟩
  simp [List.replicate_succ]
theorem before_in {w : List Int} (o : okW w) (k0 : Nat) {j : Nat} (hj : j < (prodI w).toNat) {f : Nat → Bool} {r : List Bool × Int} : ∀ (m : Nat) (b : Bool), m ≤ w.length + 1 →
    Ev (fun k => ice_game_before.l0 k (setL w k0) (mid f (prodI w).toNat j (b || gF w k0 (digL w j) m)) (prodI w) ((j + 1 : Nat) : Int) w (bys w) (prodI w)) r →
    Ev (fun k => ice_game_before.l1 k (setL w k0) (mid f (prodI w).toNat j b) j ((w.length : Int) - m) (prodI w) j w (bys w) (prodI w)) r := by
  obtain ⟨b1, b2⟩ := prodI_le o
  have hlen := o.1.2
  obtain ⟨nd, od⟩ := dig_ok (okW_pos o) hj
  intro m
  induction m with
  | zero =>
    intro b hm e
    simp only [gF, Bool.or_false] at e
    refine Ev.step (fun k => ?_) e
    rw [ice_game_before.l1, if_neg (by omega), wsucc j (by omega)]
  | succ m ih =>
    intro b hm e
    cases b with
    | true =>
      simp only [Bool.true_or] at e
      refine Ev.step (fun k => ?_) e
      rw [ice_game_before.l1, if_pos (by omega), if_pos (by omega), if_pos (by rw [mid_len hj]; omega), if_pos (mid_rd hj), wsucc j (by omega)]
    | false =>
      have ht := tonight_ev o od (prodI w) ((w.length : Int) - ((m + 1 : Nat) : Int))
      rw [nd] at ht
      refine Ev.step (f := fun k => (ice_game_tonight.f k w (bys w) (prodI w) j ((w.length : Int) - ((m + 1 : Nat) : Int))).bind fun bt105 => (if bt105.1 = (-1) then (ice_game_before.l1 k (setL w k0) ((mid f (prodI w).toNat j false).set ((j : Int)).toNat false) j (wrap64 ((w.length : Int) - ((m + 1 : Nat) : Int) + 1)) (prodI w) j w (bys w) bt105.2) else (if 0 ≤ bt105.1 then (if bt105.1 < ((setL w k0).length : Int) then (ice_game_before.l1 k (setL w k0) ((mid f (prodI w).toNat j false).set ((j : Int)).toNat (rdOf false (setL w k0) bt105.1)) j (wrap64 ((w.length : Int) - ((m + 1 : Nat) : Int) + 1)) (prodI w) j w (bys w) bt105.2) else (none)) else (none)))) (fun k => ?_) (Ev.bind ht ?_)
      · rw [ice_game_before.l1, if_pos (by omega), if_pos (by omega), if_pos (by rw [mid_len hj]; omega), if_neg (by rw [mid_rd hj]; decide)]
      · have wz : wrap64 ((w.length : Int) - ((m + 1 : Nat) : Int) + 1) = (w.length : Int) - m := by rw [w64 (by omega) (by omega)]; omega
        simp only [Bool.false_or, gF] at e
        have gd : good w k0 (digL w j) ((w.length : Int) - ((m : Int) + 1)) = good w k0 (digL w j) ((w.length : Int) - ((m + 1 : Nat) : Int)) := rfl
        rw [gd] at e
        cases z : nx w (digL w j) ((w.length : Int) - ((m + 1 : Nat) : Int)) with
        | none =>
          have e0 : good w k0 (digL w j) ((w.length : Int) - ((m + 1 : Nat) : Int)) = false := by unfold good; rw [z]
          rw [e0] at e
          have e1 : tn w (digL w j) ((w.length : Int) - ((m + 1 : Nat) : Int)) = -1 := by unfold tn; rw [z]
          rw [e1]
          refine Ev.congr (fun k => ?_) (ih false (by omega) e)
          rw [if_pos rfl, wz, Int.toNat_natCast, mid_set hj]
        | some t =>
          obtain ⟨e1, ot, t1, t2⟩ := tn_bd od z
          have e0 : good w k0 (digL w j) ((w.length : Int) - ((m + 1 : Nat) : Int)) = K w k0 t := by unfold good; rw [z]
          rw [e0] at e
          rw [e1]
          refine Ev.congr (fun k => ?_) (ih (K w k0 t) (by omega) e)
          rw [if_neg (by omega), if_pos t1, if_pos (by rw [setL_len]; omega), wz, Int.toNat_natCast, mid_set hj, setL_rd ot]
theorem before_loop {w : List Int} (o : okW w) (k0 : Nat) : ∀ (d j : Nat), (prodI w).toNat - j = d → 0 < d →
    Ev (fun k => ice_game_before.l0 k (setL w k0) (mid (fun i => K w (k0 + 1) (digL w (i : Int))) (prodI w).toNat j false) (prodI w) j w (bys w) (prodI w)) (setL w (k0 + 1), prodI w) := by
  obtain ⟨b1, b2⟩ := prodI_le o
  have hlen := o.1.2
  intro d
  induction d with
  | zero => intro j _ h; omega
  | succ d ih =>
    intro j hd _
    refine Ev.step (f := fun k => ice_game_before.l1 k (setL w k0) (mid (fun i => K w (k0 + 1) (digL w (i : Int))) (prodI w).toNat j false) j (-1) (prodI w) j w (bys w) (prodI w)) (fun k => ?_) ?_
    · rw [ice_game_before.l0, if_pos (by omega)]
    · have e := before_in o k0 (j := j) (by omega) (f := fun i => K w (k0 + 1) (digL w (i : Int))) (r := (setL w (k0 + 1), prodI w)) (w.length + 1) false (by omega)
      rw [show (w.length : Int) - ((w.length + 1 : Nat) : Int) = -1 by omega] at e
      refine e ?_
      rw [Bool.false_or, ← K_gF]
      by_cases q : d = 0
      · refine ev_some _ fun k => ?_
        rw [ice_game_before.l0, if_neg (by omega)]
        rw [mid_last (f := fun i => K w (k0 + 1) (digL w (i : Int))) (by omega)]
        rfl
      · have e2 := ih (j + 1) (by omega) (by omega)
        rw [← mid_next (f := fun i => K w (k0 + 1) (digL w (i : Int))) (by omega)] at e2
        exact e2
theorem before_ev {w : List Int} (o : okW w) (k0 : Nat) : Ev (fun k => ice_game_before.f k w (bys w) (prodI w) (setL w k0)) (setL w (k0 + 1), prodI w) := by
  obtain ⟨b1, b2⟩ := prodI_le o
  have e := before_loop o k0 (prodI w).toNat 0 (by omega) (by omega)
  rw [mid_first (by omega)] at e
  refine Ev.congr (fun k => ?_) e
  unfold ice_game_before.f
  rw [if_pos (by omega), if_pos (by omega)]
  simp only [Option.bind_some, List.length_replicate]
  rw [show (((prodI w).toNat : Nat) : Int) = prodI w by omega]
  rfl
theorem equal_loop {a b : List Bool} (hab : a.length = b.length) (hl : a.length ≤ 4611686018427387904) : ∀ (d i : Nat), a.length - i = d → i ≤ a.length → (∀ j, j < i → rdOf false a (j : Int) = rdOf false b (j : Int)) → Ev (fun k => slices_Equal_bool_bool.l0 k a b a.length i) (decide (a = b)) := by
  intro d
  induction d with
  | zero =>
    intro i hd hi h1
    obtain rfl : i = a.length := by omega
    refine ev_some _ fun k => ?_
    rw [slices_Equal_bool_bool.l0, if_neg (by omega), decide_eq_true]
    refine List.ext_getElem hab fun j h2 h3 => ?_
    have := h1 j h2
    simpa [rdOf, List.getD_eq_getElem?_getD, h2, h3] using this
  | succ d ih =>
    intro i hd hi h1
    by_cases c : rdOf false a (i : Int) = rdOf false b (i : Int)
    · refine Ev.step (fun k => ?_) (ih (i + 1) (by omega) (by omega) (fun j hj => if q : j = i then q ▸ c else h1 j (by omega)))
      rw [slices_Equal_bool_bool.l0, if_pos (by omega), if_pos (by omega), if_pos (by omega), if_pos (by omega), c, if_neg (by simp), wsucc i (by omega)]
    · refine ev_some _ fun k => ?_
      rw [slices_Equal_bool_bool.l0, if_pos (by omega), if_pos (by omega), if_pos (by omega), if_pos (by omega), if_pos (by simpa using c), decide_eq_false]
      rintro rfl
      exact c rfl
theorem equal_ev {a b : List Bool} (hab : a.length = b.length) (hl : a.length ≤ 4611686018427387904) : Ev (fun k => slices_Equal_bool_bool.f k a b) (decide (a = b)) := by
  refine Ev.congr (fun k => ?_) (equal_loop hab hl a.length 0 (by omega) (by omega) (by omega))
  unfold slices_Equal_bool_bool.f
  rw [if_pos (by omega)]
  rfl
theorem setEq_ev {w : List Int} (o : okW w) (k0 m : Nat) : Ev (fun k => slices_Equal_bool_bool.f k (setL w k0) (setL w m)) (decide (setL w k0 = setL w m)) := by
  obtain ⟨b1, b2⟩ := prodI_le o
  exact equal_ev (by rw [setL_len, setL_len]) (by rw [setL_len]; omega)
theorem going_loop {w : List Int} (o : okW w) {n : Nat} (hn : n ≤ 1000000) : ∀ (d i : Nat), n - i = d → i ≤ n → Ev (fun k => ice_game_going.l0 k (setL w i) n i w (bys w) (prodI w)) (setL w n, prodI w) := by
  intro d
  induction d with
  | zero =>
    intro i hd hi
    obtain rfl : i = n := by omega
    refine ev_some _ fun k => ?_
    rw [ice_game_going.l0, if_neg (by omega)]
  | succ d ih =>
    intro i hd hi
    refine Ev.step (f := fun k => (ice_game_before.f k w (bys w) (prodI w) (setL w i)).bind fun bt105 => ((slices_Equal_bool_bool.f k bt105.1 (setL w i)).bind fun t109 => (if t109 = true then (some (setL w i, bt105.2)) else (ice_game_going.l0 k bt105.1 n (wrap64 ((i : Int) + 1)) w (bys w) bt105.2)))) (fun k => ?_) (Ev.bind (before_ev o i) (Ev.bind (setEq_ev o (i + 1) i) ?_))
    · rw [ice_game_going.l0, if_pos (by omega)]
    · by_cases c : setL w (i + 1) = setL w i
      · simp only [decide_eq_true c, if_true]
        have st := (setL_stable (okW_pos o)).1 c
        have : setL w i = setL w n := (setL_eq (okW_pos o)).2 fun s hs => (stable_eq st hi hs).symm
        rw [this]
        exact Ev.now _
      · simp only [decide_eq_false c, Bool.false_eq_true, if_false]
        rw [wsucc i (by omega)]
        exact ih (i + 1) (by omega) (by omega)
theorem going_ev {w : List Int} (o : okW w) {n : Int} (h0 : 0 ≤ n) (hn : n ≤ 1000000) : Ev (fun k => ice_game_going.f k w (bys w) (prodI w) n) (setL w n.toNat, prodI w) := by
  have e := going_loop o (n := n.toNat) (by omega) n.toNat 0 (by omega) (by omega)
  refine Ev.congr (fun k => ?_) e
  unfold ice_game_going.f
  rw [all_some o]
  simp only [Option.bind_some]
  rw [show ((n.toNat : Nat) : Int) = n by omega]
  rfl
/-- For ever: so many nights as there are states. -/
def inf (w : List Int) : Nat := (prodI w).toNat
theorem inf_eq {w : List Int} (o : okW w) {k : Nat} (hk : inf w ≤ k) {s : List Int} (hs : okSt w s) : K w k s = K w (inf w) s := stable_eq (stable_all (okW_pos o) (Nat.le_refl _)) hk hs
theorem ever_ev {w : List Int} (o : okW w) : Ev (fun k => ice_game_ever.f k w (bys w) (prodI w)) (setL w (inf w), prodI w) := by
  obtain ⟨b1, b2⟩ := prodI_le o
  exact Ev.bind (going_ev o (n := prodI w) (by omega) (by omega)) (Ev.now _)
/-- The choices that lead from a state into a set. -/
def chsOf (w : List Int) (k : Nat) (s : List Int) : List Int := (chs w.length).filter fun c => good w k s c
theorem chs_split (n m : Nat) (h : m ≤ n) : chs n = ((List.range (n - m)).map fun i : Nat => (i : Int) - 1) ++ ((List.range (m + 1)).map fun i : Nat => ((n - m + i : Nat) : Int) - 1) := by
  unfold chs
  refine List.ext_getElem (by simp; omega) fun i h1 h2 => ?_
  simp only [List.getElem_map, List.getElem_range]
  rw [List.getElem_append]
  split
  · simp
  · rename_i h3
    simp at h3 ⊢
    omega
def chsFrom (w : List Int) (k : Nat) (s : List Int) : Nat → List Int
  | 0 => []
  | m + 1 => (if good w k s ((w.length : Int) - ((m + 1 : Nat) : Int)) = true then [(w.length : Int) - ((m + 1 : Nat) : Int)] else []) ++ chsFrom w k s m
theorem chsFrom_eq (w : List Int) (k : Nat) (s : List Int) : ∀ m, m ≤ w.length + 1 → chsFrom w k s m = ((List.range m).map fun i : Nat => (w.length : Int) - m + i).filter fun c => good w k s c
  | 0, _ => rfl
  | m + 1, h => by
    rw [chsFrom, chsFrom_eq w k s m (by omega), List.range_succ_eq_map, List.map_cons, List.filter_cons]
    have e : (w.length : Int) - ((m + 1 : Nat) : Int) + ((0 : Nat) : Int) = (w.length : Int) - ((m + 1 : Nat) : Int) := by omega
    rw [e, List.map_map]
    have e2 : ((fun i : Nat => (w.length : Int) - ((m + 1 : Nat) : Int) + (i : Int)) ∘ Nat.succ) = fun i : Nat => (w.length : Int) - m + i := by
      funext i
      simp only [Function.comp]
      omega
    rw [e2]
    split <;> rfl
theorem chsOf_from (w : List Int) (k : Nat) (s : List Int) : chsFrom w k s (w.length + 1) = chsOf w k s := by
  rw [chsFrom_eq w k s _ (Nat.le_refl _)]
  unfold chsOf chs
  congr 1
  refine List.map_congr_left fun i _ => ?_
  omega
theorem chsFrom_len (w : List Int) (k : Nat) (s : List Int) : ∀ m, (chsFrom w k s m).length ≤ m
  | 0 => Nat.le_refl _
  | m + 1 => by
    have := chsFrom_len w k s m
    rw [chsFrom, List.length_append]
    split <;> simp <;> omega
theorem choices_loop {w s : List Int} (o : okW w) (h : okSt w s) (k0 : Nat) : ∀ (m : Nat) (x : List Int), m ≤ w.length + 1 → x.length ≤ 6 - m →
    Ev (fun k => ice_game_choices.l0 k (numL w s) (setL w k0) x ((w.length : Int) - m) w (bys w) (prodI w)) (x ++ chsFrom w k0 s m, prodI w) := by
  have hlen := o.1.2
  obtain ⟨b1, b2⟩ := prodI_le o
  intro m
  induction m with
  | zero =>
    intro x _ _
    refine ev_some _ fun k => ?_
    rw [ice_game_choices.l0, if_neg (by omega)]
    simp [chsFrom]
  | succ m ih =>
    intro x hm hx
    have wz : wrap64 ((w.length : Int) - ((m + 1 : Nat) : Int) + 1) = (w.length : Int) - m := by rw [w64 (by omega) (by omega)]; omega
    refine Ev.step (f := fun k => (ice_game_tonight.f k w (bys w) (prodI w) (numL w s) ((w.length : Int) - ((m + 1 : Nat) : Int))).bind fun bt101 => (if bt101.1 = (-1) then (ice_game_choices.l0 k (numL w s) (setL w k0) x (wrap64 ((w.length : Int) - ((m + 1 : Nat) : Int) + 1)) w (bys w) bt101.2) else (if 0 ≤ bt101.1 then (if bt101.1 < ((setL w k0).length : Int) then (if rdOf false (setL w k0) bt101.1 = true then (if x.length < 17592186044416 then (ice_game_choices.l0 k (numL w s) (setL w k0) (x ++ [(w.length : Int) - ((m + 1 : Nat) : Int)]) (wrap64 ((w.length : Int) - ((m + 1 : Nat) : Int) + 1)) w (bys w) bt101.2) else (none)) else (ice_game_choices.l0 k (numL w s) (setL w k0) x (wrap64 ((w.length : Int) - ((m + 1 : Nat) : Int) + 1)) w (bys w) bt101.2)) else (none)) else (none)))) (fun k => ?_) (Ev.bind (tonight_ev o h (prodI w) _) ?_)
    · rw [ice_game_choices.l0, if_pos (by omega)]
    · rw [chsFrom]
      cases z : nx w s ((w.length : Int) - ((m + 1 : Nat) : Int)) with
      | none =>
        have e0 : good w k0 s ((w.length : Int) - ((m + 1 : Nat) : Int)) = false := by unfold good; rw [z]
        have e1 : tn w s ((w.length : Int) - ((m + 1 : Nat) : Int)) = -1 := by unfold tn; rw [z]
        rw [e0, e1, if_neg (by decide), List.nil_append]
        refine Ev.congr (fun k => ?_) (ih x (by omega) (by omega))
        rw [if_pos rfl, wz]
      | some t =>
        obtain ⟨e1, ot, t1, t2⟩ := tn_bd h z
        have e0 : good w k0 s ((w.length : Int) - ((m + 1 : Nat) : Int)) = K w k0 t := by unfold good; rw [z]
        rw [e0, e1]
        cases q : K w k0 t with
        | true =>
          rw [if_pos rfl, ← List.append_assoc]
          refine Ev.congr (fun k => ?_) (ih (x ++ [(w.length : Int) - ((m + 1 : Nat) : Int)]) (by omega) (by rw [List.length_append]; simp; omega))
          rw [if_neg (by omega), if_pos t1, if_pos (by rw [setL_len]; omega), setL_rd ot, q, if_pos rfl, if_pos (by omega), wz]
        | false =>
          rw [if_neg (by decide), List.nil_append]
          refine Ev.congr (fun k => ?_) (ih x (by omega) (by omega))
          rw [if_neg (by omega), if_pos t1, if_pos (by rw [setL_len]; omega), setL_rd ot, q, if_neg (by decide), wz]
theorem choices_ev {w s : List Int} (o : okW w) (h : okSt w s) (k0 : Nat) : Ev (fun k => ice_game_choices.f k w (bys w) (prodI w) (numL w s) (setL w k0)) (chsOf w k0 s, prodI w) := by
  have e := choices_loop o h k0 (w.length + 1) [] (Nat.le_refl _) (by simp)
  rw [show (w.length : Int) - ((w.length + 1 : Nat) : Int) = -1 by omega, List.nil_append, chsOf_from] at e
  exact e
theorem list_loop {w s : List Int} (o : okW w) (h : okSt w s) : ∀ (d i : Nat), w.length - i = d → i ≤ w.length → Ev (fun k => ice_game_list.l0 k (numL w s) (s.take i) w.length i w (bys w) (prodI w)) (s, prodI w) := by
  have hlen := o.1.2
  have hs := okSt_len h
  intro d
  induction d with
  | zero =>
    intro i hd hi
    obtain rfl : i = w.length := by omega
    refine ev_some _ fun k => ?_
    rw [ice_game_list.l0, if_neg (by omega), ← hs, List.take_length]
  | succ d ih =>
    intro i hd hi
    have e := ih (i + 1) (by omega) (by omega)
    rw [List.take_succ_eq_append_getElem (by omega), ← rd_get (by omega)] at e
    refine Ev.step (fun k => ?_) e
    rw [ice_game_list.l0, if_pos (by omega), digit_some o h (prodI w) (by omega)]
    simp only [Option.bind_some]
    rw [if_pos (by rw [List.length_take]; omega), wsucc i (by omega)]
theorem list_ev {w s : List Int} (o : okW w) (h : okSt w s) : Ev (fun k => ice_game_list.f k w (bys w) (prodI w) (numL w s)) (s, prodI w) := list_loop o h w.length 0 (by omega) (by omega)
theorem number_loop {w s : List Int} (o : okW w) (h : okSt w s) : ∀ (d i : Nat) (acc : Int), w.length - i = d → i ≤ w.length → 0 ≤ acc → acc < prodI (w.take i) → acc + prodI (w.take i) * numL (w.drop i) (s.drop i) = numL w s → Ev (fun k => ice_game_number.l0 k acc s s.length i w (bys w) (prodI w)) (numL w s, prodI w) := by
  have hlen := o.1.2
  have hs := okSt_len h
  obtain ⟨b1, b2⟩ := prodI_le o
  intro d
  induction d with
  | zero =>
    intro i acc hd hi ha hb e
    obtain rfl : i = w.length := by omega
    rw [List.drop_length] at e
    refine ev_some _ fun k => ?_
    rw [ice_game_number.l0, if_neg (by omega)]
    have : acc = numL w s := by simpa [numL] using e
    rw [this]
  | succ d ih =>
    intro i acc hd hi ha hb e
    have hx := (okSt_iff.1 h).2 i (by omega)
    have hw8 := o.2 i (by omega)
    have p := prodI_take_succ w i (by omega)
    have q0 := by_bd o i
    have q := by_bd o (i + 1)
    have m1 : 0 ≤ (rd s (i : Int) - 1) * prodI (w.take i) := Int.mul_nonneg (by omega) (by omega)
    have m2 : (rd s (i : Int) - 1) * prodI (w.take i) ≤ (rd w (i : Int) - 1) * prodI (w.take i) := Int.mul_le_mul_of_nonneg_right (by omega) (by omega)
    have m3 : (rd w (i : Int) - 1) * prodI (w.take i) = prodI (w.take (i + 1)) - prodI (w.take i) := by rw [p, Int.sub_mul, Int.mul_comm]; omega
    rw [rd_drop w i (by omega), rd_drop s i (by omega)] at e
    simp only [numL] at e
    rw [Int.mul_add, ← Int.mul_assoc, ← p, Int.mul_comm _ (rd s (i : Int) - 1)] at e
    refine Ev.step (fun k => ?_) (ih (i + 1) (acc + (rd s (i : Int) - 1) * prodI (w.take i)) (by omega) (by omega) (by omega) (by omega) (by omega))
    rw [ice_game_number.l0, if_pos (by omega), if_pos (by omega), if_pos (by omega), if_pos (by rw [bys_len]; omega), rd_bys (by omega), wsucc i (by omega), w64 (n := rd s (i : Int) - 1) (by omega) (by omega), w64 (n := (rd s (i : Int) - 1) * prodI (w.take i)) (by omega) (by omega), w64 (by omega) (by omega)]
theorem number_ev {w s : List Int} (o : okW w) (h : okSt w s) : Ev (fun k => ice_game_number.f k w (bys w) (prodI w) s) (numL w s, prodI w) := number_loop o h w.length 0 0 (by omega) (by omega) (by omega) (by simp [prodI]) (by simp [prodI])
theorem num_first : ∀ {w : List Int}, pos w → okSt w w ∧ numL w w = prodI w - 1
  | [], _ => ⟨trivial, by simp [numL, prodI]⟩
  | a :: w, h => by
    obtain ⟨h1, h2⟩ := num_first (w := w) (fun b hb => h b (by simp [hb]))
    have := h a (by simp)
    refine ⟨⟨⟨this, Int.le_refl _⟩, h1⟩, ?_⟩
    simp only [numL, prodI, h2]
    rw [Int.mul_sub]; omega
end Go.Proofs.Ythbpibdfookbmaa.G
