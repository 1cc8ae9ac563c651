-- Written by this session's driver (wip/tools/printmore.py) over the kit's print, with hand-written parts.
import Derived.Test.YtciepmpadcpkbaaGBase
import Derived.Test.YtciepmpadcpkbaaGF53
import Derived.Test.YtciepmpadcpkbaaGF75
namespace Go.Proofs.Ytciepmpadcpkbaa.G
open Go.RowKit Go.Proofs.YtciepmpadcpkbaaW.PrintWords Go.Proofs.YtciepmpadcpkbaaW.PrintLast Go.Proofs.YtciepmpadcpkbaaW.PrintMore
attribute [local go_sem] max2_int min2_int max_two min_two max_three min_three max_four min_four   -- for this text's walks alone
set_option linter.unusedVariables false
set_option linter.unusedSimpArgs false

/-! ### wire_places_lowest: function 58 -/
mutual
def wire_places_lowest.l0 : Nat → List Int → List Int → Int → Option (List Int)
 | 0, _, _, _ => none
 | k + 1, x0, x5, x6 => if x6 < (x5.length : Int) then (if 0 ≤ x6 then (if 0 ≤ (wrap64 (x6 - 1)) then (if (wrap64 (x6 - 1)) < (x5.length : Int) then ((wire_places_to.f x0 x6 (wrap64 (x6 - 1))).bind fun t106 => (wire_places_lowest.l0 k x0 (x5.set (x6 : Int).toNat (mx (rd x5 x6) (wrap64 ((rd x5 (wrap64 (x6 - 1))) - t106)))) (wrap64 (x6 + 1)))) else (none)) else (none)) else (none)) else (wire_places_lowest.l1 k x0 x5 (wrap64 ((x5.length : Int) - 2)))
def wire_places_lowest.l1 : Nat → List Int → List Int → Int → Option (List Int)
 | 0, _, _, _ => none
 | k + 1, x0, x5, x7 => if x7 ≥ 0 then (if 0 ≤ x7 then (if x7 < (x5.length : Int) then (if 0 ≤ (wrap64 (x7 + 1)) then (if (wrap64 (x7 + 1)) < (x5.length : Int) then ((wire_places_to.f x0 x7 (wrap64 (x7 + 1))).bind fun t110 => (wire_places_lowest.l1 k x0 (x5.set (x7 : Int).toNat (mx (rd x5 x7) (wrap64 ((rd x5 (wrap64 (x7 + 1))) - t110)))) (wrap64 (x7 - 1)))) else (none)) else (none)) else (none)) else (none)) else (some x5)
end
def wire_places_lowest.f (k : Nat) (l0 : List Int) (l1 : List Int) : Option (List Int) := (slices_Clone_int_int.f l1).bind fun t101 => (wire_places_lowest.l0 k l0 t101 1)
theorem wire_places_lowest.mono_l : ∀ k, (∀ y0 y1 y2, LeO (wire_places_lowest.l0 k y0 y1 y2) (wire_places_lowest.l0 (k + 1) y0 y1 y2)) ∧ (∀ y0 y1 y2, LeO (wire_places_lowest.l1 k y0 y1 y2) (wire_places_lowest.l1 (k + 1) y0 y1 y2))
 | 0 => ⟨fun _ _ _ r h => by simp [wire_places_lowest.l0] at h, fun _ _ _ r h => by simp [wire_places_lowest.l1] at h⟩
 | k + 1 => by
  obtain ⟨ih0, ih1⟩ := wire_places_lowest.mono_l k
  refine ⟨?_, ?_⟩
  ·intro y0 y1 y2
   unfold wire_places_lowest.l0
   repeat' first
   | (with_reducible exact ih0 _ _ _)
   | (with_reducible exact ih1 _ _ _)
   | (with_reducible exact LeO.refl _)
   | (with_reducible exact LeO.none _)
   | (with_reducible refine LeO.ite ?_ ?_)
   | (with_reducible refine LeO.bind ?_ (fun _ => ?_))
   | exact ih0 _ _ _
   | exact ih1 _ _ _
   | exact LeO.none _
   | refine LeO.ite ?_ ?_
   | refine LeO.bind ?_ (fun _ => ?_)
  ·intro y0 y1 y2
   unfold wire_places_lowest.l1
   repeat' first
   | (with_reducible exact ih0 _ _ _)
   | (with_reducible exact ih1 _ _ _)
   | (with_reducible exact LeO.refl _)
   | (with_reducible exact LeO.none _)
   | (with_reducible refine LeO.ite ?_ ?_)
   | (with_reducible refine LeO.bind ?_ (fun _ => ?_))
   | exact ih0 _ _ _
   | exact ih1 _ _ _
   | exact LeO.none _
   | refine LeO.ite ?_ ?_
   | refine LeO.bind ?_ (fun _ => ?_)
theorem wire_places_lowest.mono : ∀ a0 a1 k, LeO (wire_places_lowest.f k a0 a1) (wire_places_lowest.f (k + 1) a0 a1) := by
 intro a0 a1 k
 obtain ⟨ih0, ih1⟩ := wire_places_lowest.mono_l k
 unfold wire_places_lowest.f
 repeat' first
   | (with_reducible exact ih0 _ _ _)
   | (with_reducible exact ih1 _ _ _)
   | (with_reducible exact LeO.refl _)
   | (with_reducible exact LeO.none _)
   | (with_reducible refine LeO.ite ?_ ?_)
   | (with_reducible refine LeO.bind ?_ (fun _ => ?_))
   | exact ih0 _ _ _
   | exact ih1 _ _ _
   | exact LeO.none _
   | refine LeO.ite ?_ ?_
   | refine LeO.bind ?_ (fun _ => ?_)
def wire_places_lowest.T5 : Bool × List (List Nat × List Nat) := (true, [([], []), ([], []), ([], []), ([], []), ([2, 3], [2, 3]), ([4], [4]), ([], []), ([], []), ([7], [7]), ([6, 8], [6, 8]), ([9], [9]), ([], []), ([], []), ([], []), ([13], [13]), ([11, 12, 14], [11, 12, 14]), ([10, 15], [10, 15]), ([5, 16], [5, 16]), ([0, 1, 0, 1, 2, 3, 4, 5, 6, 7, 8, 9, 10, 11, 12, 13, 14, 15, 16, 17], [0, 1]), ([18, 17, 15, 0, 1, 2, 3, 4, 5, 6, 7, 8, 9, 10, 11, 12, 13, 14, 15, 16, 17], [17, 18])])
def wire_places_lowest.B5 : List Nat := [0, 0, 0, 0, 12, 28, 0, 0, 128, 448, 960, 0, 0, 0, 8192, 30720, 65472, 131068, 262143, 524287]
theorem wire_places_lowest.tab5 : rtab .any (opsOf Try.f58 5) = wire_places_lowest.T5 := by kernel_rfl
theorem wire_places_lowest.bits5 : waitsOk wire_places_lowest.T5.2 wire_places_lowest.B5 = true := by kernel_rfl
def wire_places_lowest.T9 : Bool × List (List Nat × List Nat) := (true, [([], []), ([], []), ([], []), ([], []), ([2, 3], [2, 3]), ([4], [4]), ([], []), ([], []), ([7], [7]), ([6, 8], [6, 8]), ([9], [9]), ([], []), ([], []), ([], []), ([13], [13]), ([11, 12, 14], [11, 12, 14]), ([10, 15], [10, 15]), ([5, 16], [5, 16]), ([0, 1, 0, 1, 2, 3, 4, 5, 6, 7, 8, 9, 10, 11, 12, 13, 14, 15, 16, 17], [0, 1]), ([18, 17, 15, 0, 1, 2, 3, 4, 5, 6, 7, 8, 9, 10, 11, 12, 13, 14, 15, 16, 17], [17, 18])])
def wire_places_lowest.B9 : List Nat := [0, 0, 0, 0, 12, 28, 0, 0, 128, 448, 960, 0, 0, 0, 8192, 30720, 65472, 131068, 262143, 524287]
theorem wire_places_lowest.tab9 : rtab .any (opsOf Try.f58 9) = wire_places_lowest.T9 := by kernel_rfl
theorem wire_places_lowest.bits9 : waitsOk wire_places_lowest.T9.2 wire_places_lowest.B9 = true := by kernel_rfl
set_option maxHeartbeats 8000000 in
set_option maxRecDepth 100000 in
theorem wire_places_lowest.calls (k : Nat) (A0 : Option Addr) (c0 : Nat) (l0 : List Int) (A1 : Option Addr) (c1 : Nat) (l1 : List Int) (r : List Int) (w : World) (hr0 : Kd.C (Kd.int .i64) w A0 l0.length l0) (hc0 : l0.length ≤ c0) (hr1 : Kd.C (Kd.int .i64) w A1 l1.length l1) (hc1 : l1.length ≤ c1) (h : wire_places_lowest.f k l0 l1 = some r) :
  Calls Try.prog 58 #[.slice A0 l0.length c0, .slice A1 l1.length c1] w fun e w' => ∃ v0_ : Value, e = .returned (v0_) ∧ Kd.R (Kd.int .i64) 3 w' w.heap.size (fun _ => True) v0_ r ∧ Below w.heap.size w w' := by
 have HR0 := A_ hr0
 have HC0 := A_ hc0
 clear hr0 hc0
 have HR1 := A_ hr1
 have HC1 := A_ hc1
 clear hr1 hc1
 have HB := A_ (Below.refl w.heap.size w)
 have H : ((slices_Clone_int_int.f l1).bind fun t101 => (wire_places_lowest.l0 k l0 t101 1)) = some r := h
 clear h
 replace H := Option.bind_eq_some_iff.mp H
 obtain ⟨t101, A30, H⟩ := H
 replace H : (wire_places_lowest.l0 k l0 t101 1) = some r := H
 have A3 := A_ A30
 clear A30
 have H' := A_ H
 clear H
 go_enter Try.func58, Try.ntmps58
 go_wp2_with (first | ((with_reducible refine gate_callee (f := 75) rfl ?_); refine goesL_ (some 9) rfl rfl Try.func75 (by kernel_rfl) rfl #[.slice A1 l1.length c1] rfl (by (try simp only [List.map_toArray, List.map_cons, List.map_nil]); first | done | rfl | (simp only [List.length_drop, List.length_take]; rfl)) ?_; (with_reducible refine (slices_Clone_int_int.calls _ _ l1 t101 _ ?side1 ?side2 A3.out).mono ?_); (case side1 => exact cU HR1.out); (case side2 => exact HC1.out); rintro e w4 ⟨v102, rfl, ho0, hb⟩; refine ⟨_, rfl, ?_⟩; have n0_ := A_ (Kd.R_lower ho0 (below_size (bW0 HB.out))); have n1_ := A_ (below_step (bW0 HB.out) hb); clear HB; have HO103 := n0_; have HB := n1_; clear n0_ n1_; (try clear hb); (try clear hb2); (try clear hk); (try clear hi); (try clear ho0)))
 go_loopg [6] k (fun kq v6 w' => ∃ (x5_1 : List Int) (x6_1 : Int), v6 = .int .i64 x6_1 ∧ Aside0 (wire_places_lowest.l0 kq l0 x5_1 x6_1 = some r) ∧ Aside0 (kq ≤ k) ∧ Aside0 (Kd.R (Kd.int .i64) 3 w' w.heap.size (fun _ => True) v102 x5_1) ∧ Aside0 (Below w.heap.size w w'))
 case atStart => exact ⟨(t101), (1), (by first | rfl | (simp; done) | (simp [*]; done)), H', ⟨Nat.le_refl _⟩, ⟨rU HO103.out⟩, ⟨by repeat (first | (with_reducible first | exact HB.out | apply below_alloc | apply pw_below_drewN | apply below_drew1) | exact HB.out)⟩⟩
 case round =>
  clear H'
  try clear c1
  try clear p2
  obtain ⟨x5_1, x6_1, rfl, HA, HK1, HO_5, HB⟩ := hrel
  cases gk with
  | zero => exact absurd HA.out (by simp [wire_places_lowest.l0])
  | succ k1 =>
   have H := HA.out
   clear HA
   simp only [wire_places_lowest.l0] at H
   by_cases c5 : x6_1 < (x5_1.length : Int)
   ·rw [if_pos c5] at H
    have c5b0 : decide (x6_1 < (x5_1.length : Int)) = true := decide_eq_true c5
    clear c5
    by_cases c6 : 0 ≤ x6_1
    rotate_left
    ·rw [if_neg c6] at H
     exact absurd H (by simp)
    rw [if_pos c6] at H
    have c6b0 : decide (0 ≤ x6_1) = true := decide_eq_true c6
    clear c6
    obtain ⟨ji7, hji7⟩ : ∃ j_ : Int, (wrap64 (x6_1 - 1)) = j_ := ⟨_, rfl⟩
    replace H : (if 0 ≤ (ji7) then (if (ji7) < (x5_1.length : Int) then ((wire_places_to.f l0 x6_1 (ji7)).bind fun t106 => (wire_places_lowest.l0 k1 l0 (x5_1.set (x6_1 : Int).toNat (mx (rd x5_1 x6_1) (wrap64 ((rd x5_1 (ji7)) - t106)))) (wrap64 (x6_1 + 1)))) else (none)) else (none)) = some r := by first | (rw [hji7] at H; exact H) | (simp only [hji7] at H ⊢; exact H)
    have hji7w : (IntKind.i64.wrap (x6_1 - 1)) = ji7 := (i64_w _).trans hji7
    by_cases c8 : 0 ≤ (ji7)
    rotate_left
    ·rw [if_neg c8] at H
     exact absurd H (by simp)
    rw [if_pos c8] at H
    have c8b0 : decide (0 ≤ (ji7)) = true := decide_eq_true c8
    clear c8
    by_cases c9 : (ji7) < (x5_1.length : Int)
    rotate_left
    ·rw [if_neg c9] at H
     exact absurd H (by simp)
    rw [if_pos c9] at H
    have c9b0 : decide ((ji7) < (x5_1.length : Int)) = true := decide_eq_true c9
    clear c9
    replace H := Option.bind_eq_some_iff.mp H
    obtain ⟨t106, A100, H⟩ := H
    replace H : (wire_places_lowest.l0 k1 l0 (x5_1.set (x6_1 : Int).toNat (mx (rd x5_1 x6_1) (wrap64 ((rd x5_1 (ji7)) - t106)))) (wrap64 (x6_1 + 1))) = some r := H
    have A10 := A_ A100
    clear A100
    obtain ⟨ji11, hji11⟩ : ∃ j_ : Int, (mx (rd x5_1 x6_1) (wrap64 ((rd x5_1 (ji7)) - t106))) = j_ := ⟨_, rfl⟩
    replace H : (wire_places_lowest.l0 k1 l0 (x5_1.set (x6_1 : Int).toNat (ji11)) (wrap64 (x6_1 + 1))) = some r := by first | (rw [hji11] at H; exact H) | (simp only [hji11] at H ⊢; exact H)
    (try rw [hji11] at A10)
    have hji11_ : (if (rd x5_1 x6_1) < (wrap64 ((rd x5_1 (ji7)) - t106)) then (wrap64 ((rd x5_1 (ji7)) - t106)) else (rd x5_1 x6_1)) = ji11 := hji11
    obtain ⟨y107, hy107⟩ : ∃ y_ : List Int, y_ = (x5_1.set (x6_1 : Int).toNat (ji11)) := ⟨_, rfl⟩
    replace H : (wire_places_lowest.l0 k1 l0 y107 (wrap64 (x6_1 + 1))) = some r := by first | (rw [hy107]; with_reducible exact H) | (have H2_ := (Option.bind_some _ _).symm.trans H; rw [hy107]; with_reducible exact H2_) | (have H2_ := (Option.bind_some _ _).symm.trans H; with_reducible exact H2_) | with_reducible exact H | (rw [hy107]; exact H) | exact H
    have Ny107 := A_ hy107
    clear hy107
    have H' := A_ H
    clear H
    obtain ⟨Ao13, co13, eo13⟩ := Kd.R_slice HO_5.out
    subst eo13
    try go_wp2
    have n0_ := A_ (Kd.R_drew HO_5.out)
    have n1_ := A_ (below_drew1 HB.out)
    clear HO_5
    clear HB
    have HO_5 := n0_
    have HB := n1_
    clear n0_ n1_
    have p104 : 0 ≤ (x6_1 : Int) := of_decide_eq_true (by first | (with_reducible assumption) | assumption)
    have q104 : x6_1 < (x5_1.length : Int) := of_decide_eq_true (by first | (with_reducible assumption) | assumption)
    obtain ⟨ad104, e104, hx104_0⟩ := Kd.at_int (Kd.R_reads' HO_5.out).2.2 x6_1 p104 q104
    cases e104
    replace p104 := eq_true p104
    replace q104 := eq_true q104
    have p105 : 0 ≤ ((ji7) : Int) := of_decide_eq_true (by first | (with_reducible assumption) | assumption)
    have q105 : (ji7) < (x5_1.length : Int) := of_decide_eq_true (by first | (with_reducible assumption) | assumption)
    obtain ⟨ad105, e105, hx105_0⟩ := Kd.at_int (Kd.R_reads' HO_5.out).2.2 (ji7) p105 q105
    obtain rfl : ad104 = ad105 := (by injection e105)
    replace p105 := eq_true p105
    replace q105 := eq_true q105
    refine start_ (n := 20) (S := fun w' => w'.cell? (ad104.add (x6_1).toNat) = some (.int .i64 (rd x5_1 x6_1)) ∧ w'.cell? (ad104.add ((ji7)).toNat) = some (.int .i64 (rd x5_1 (ji7)))) (ds := [19]) (mkB 20 0) (by kernel_rfl) rfl rfl ⟨hx104_0, hx105_0⟩ (fun hHeld => ?_); refine with_tabW wire_places_lowest.tab5 wire_places_lowest.bits5 (fun HT_ HW_ => ?_)
    generalize wr.drew = w14 at HO_5 HB hx104_0 hx105_0 hHeld ⊢
    refine pr_ 0 (some 16) (mkB 20 1) HT_ ?_
    refine pr_ 1 (some 17) (mkB 20 3) HT_ ?_
    refine pr_ 2 (some 18) (mkB 20 7) HT_ ?_
    refine pr_ 3 (some 19) (mkB 20 15) HT_ ?_
    refine pr_ 4 (some 20) (mkB 20 31) HT_ ?_
    refine pr_ 6 (some 22) (mkB 20 95) HT_ ?_
    refine pr_ 7 (some 23) (mkB 20 223) HT_ ?_
    refine pr_ 8 (some 24) (mkB 20 479) HT_ ?_
    refine pr_ 9 (some 25) (mkB 20 991) HT_ ?_
    refine pr_ 11 (some 27) (mkB 20 3039) HT_ ?_
    refine pr_ 12 (some 28) (mkB 20 7135) HT_ ?_
    refine pr_ 13 (some 29) (mkB 20 15327) HT_ ?_
    refine pr_ 14 (some 30) (mkB 20 31711) HT_ ?_
    refine take_ (i := 5) (N := some 21) (v := ?_) (a' := ?_) (mkB 20 31743) rfl rfl (take_ofW HT_.out HW_.out (by kernel_rfl)) (fun _ _ _ h => h) (Or.inl ⟨by rfl, ?_⟩) hHeld ?_ ?_
    rotate_left
    ·rintro w' ⟨s0, s1⟩
     go_simp
     with_reducible rfl
    rotate_left
    ·simp only [Act.put, List.setIfInBounds_toArray, List.set_cons_zero, List.set_cons_succ, i64_w, i32_w]
     rfl
    refine take_ (i := 10) (N := some 26) (v := ?_) (a' := ?_) (mkB 20 32767) rfl rfl (take_ofW HT_.out HW_.out (by kernel_rfl)) (fun _ _ _ h => h) (Or.inl ⟨by rfl, ?_⟩) hHeld ?_ ?_
    rotate_left
    ·rintro w' ⟨s0, s1⟩
     go_simp
     with_reducible rfl
    rotate_left
    ·simp only [Act.put, List.setIfInBounds_toArray, List.set_cons_zero, List.set_cons_succ, i64_w, i32_w]
     rfl
    refine one_ (i := 15) (N := some 31) (mkB 20 65535) rfl rfl (one_of HT_.out (by kernel_rfl)) (by decide) (fun K hK => ?_)
    refine goes_ Try.func53 (by kernel_rfl) rfl #[.slice A0 l0.length c0, .int .i64 x6_1, .int .i64 ji7] (by rfl) rfl rfl (by (try simp only [List.map_toArray, List.map_cons, List.map_nil]); first | done | (simp only [hji7]; rfl) | rfl | (simp only [List.length_drop, List.length_take]; rfl)) ?_
    with_reducible refine (wire_places_to.calls _ _ l0 x6_1 ji7 t106 _ ?side1 ?side2 A10.out).mono ?_
    (case side1 => exact cU (Kd.C_below HR0.out HB.out))
    (case side2 => exact HC0.out)
    rintro e w15 ⟨rfl, hb⟩
    have HS0_ := (hb.cell (World.block_lt_of_cell? _ _ (hHeld.1))).trans (hHeld.1)
    have HS1_ := (hb.cell (World.block_lt_of_cell? _ _ (hHeld.2))).trans (hHeld.2)
    refine ⟨_, rfl, ?_⟩
    have n0_ := A_ (Kd.R_below (rU HO_5.out) hb)
    have n1_ := A_ (below_step (bW0 HB.out) hb)
    clear HO_5
    clear HB
    have HO_5 := n0_
    have HB := n1_
    clear n0_ n1_
    (try clear hb)
    (try clear hb2)
    (try clear hk)
    (try clear hi)
    have p12 : 0 ≤ (x6_1 : Int) := of_decide_eq_true (by first | (with_reducible assumption) | assumption)
    have q12 : (x6_1 : Int) < ((x5_1.length : Int) : Int) := of_decide_eq_true (by first | (with_reducible assumption) | assumption)
    obtain ⟨go12, co12, eo12, gb12, gl12, cl12, HG12⟩ := Kd.R_form HO_5.out (by omega)
    (first | cases eo12 | (injection eo12 with ea_ en_ ec_; (first | subst ea_ | (injection ea_ with ea_; subst ea_)); subst ec_; clear en_))
    have GB12 := A_ gb12
    have GG12 := A_ HG12
    clear gb12 gl12 HG12
    (first | simp only [add_plain] at hx104_0 | skip)
    (first | simp only [add_plain] at hx105_0 | skip)
    obtain ⟨hx12_0, hf12_0⟩ := Kd.R_celln 0 HO_5.out (x6_1 : Int) p12 q12
    replace p12 := eq_true p12
    replace q12 := eq_true q12
    have HP16 := Kd.R_putn HO_5.out (x6_1 : Int) ji11
    rw [← Ny107.out] at HP16
    have HQ16 := A_ HP16
    clear HP16
    refine hK.out _ _ ⟨HS0_, HS1_⟩ (fun hHeld => ?_)
    clear hK K
    refine norm_ (a' := ?_) ?_ ?_
    rotate_left
    ·show Act.put _ (some 31) _ = _
     simp only [Act.put, List.setIfInBounds_toArray, List.set_cons_zero, List.set_cons_succ, i64_w, i32_w]
     rfl
    refine pr_ 16 (some 32) (mkB 20 131071) HT_ ?_
    refine pr_ 17 (some 33) (mkB 20 262143) HT_ ?_
    refine pr_ 18 (some 34) (mkB 20 524287) HT_ ?_
    refine last_ (i := 19) (N := none) (mkB 20 1048575) rfl rfl (one_of HT_.out (by kernel_rfl)) (by decide) (fun K hK => ?_)
    refine skip_ (w1 := ?_) (by rfl) rfl ?_ ?_
    rotate_left
    ·go_simp
     rfl
    refine hK.out _ _ ?_
    clear hK K
    refine done_ (done_of HT_.out (by kernel_rfl)) ?_
    try go_wp2
    go_roundg k1
    case measure => have := HK1.out; omega
    case rel => exact ⟨(y107), (wrap64 (x6_1 + 1)), (by first | rfl | (simp; done) | (simp [*]; done)), H', ⟨by have := HK1.out; omega⟩, ⟨rU HQ16.out⟩, ⟨by repeat (first | (with_reducible first | exact HB.out | apply below_alloc | apply pw_below_drewN | apply below_drew1 | refine below_set ?_ GB12.out) | exact HB.out)⟩⟩
   rw [if_neg c5] at H
   have c5b0 : decide (x6_1 < (x5_1.length : Int)) = false := decide_eq_false c5
   clear c5
   have H' := A_ H
   clear H
   obtain ⟨Ao17, co17, eo17⟩ := Kd.R_slice HO_5.out
   subst eo17
   go_wp2
   go_loopg [7] k1 (fun kq v7 w' => ∃ (x5_2 : List Int) (x7_2 : Int), v7 = .int .i64 x7_2 ∧ Aside0 (wire_places_lowest.l1 kq l0 x5_2 x7_2 = some r) ∧ Aside0 (kq ≤ k1) ∧ Aside0 (Kd.R (Kd.int .i64) 3 w' w.heap.size (fun _ => True) (.slice Ao17 x5_1.length co17) x5_2) ∧ Aside0 (Below w.heap.size w w'))
   case atStart => exact ⟨(x5_1), (wrap64 ((x5_1.length : Int) - 2)), (by first | rfl | (simp; done) | (simp [*]; done)), H', ⟨Nat.le_refl _⟩, ⟨rU HO_5.out⟩, ⟨by repeat (first | (with_reducible first | exact HB.out | apply below_alloc | apply pw_below_drewN | apply below_drew1) | exact HB.out)⟩⟩
   case round =>
    clear H'
    try clear c1
    try clear p1
    try clear q1
    try clear hx1
    try clear p2
    try clear c5
    try clear c5b0
    try clear c6
    try clear c6b0
    try clear p6
    try clear c7
    try clear c8
    try clear c8b0
    try clear c9
    try clear c9b0
    try clear p10
    try clear q10
    try clear hx10
    try clear p12
    try clear q12
    try clear hx12
    try clear hf12
    try clear hx104_0
    try clear hx105_0
    try clear hx12_0
    try clear p104
    try clear p105
    try clear p12
    try clear p2
    try clear q104
    try clear q105
    try clear q12
    obtain ⟨x5_2, x7_2, rfl, HA, HK2, HO_5, HB⟩ := hrel
    have hl5_2 := (Kd.R_reads' HO_5.out).1
    rw [hl5_2] at HO_5
    (try simp only [hl5_2])
    cases gk with
    | zero => exact absurd HA.out (by simp [wire_places_lowest.l1])
    | succ k2 =>
     have H := HA.out
     clear HA
     simp only [wire_places_lowest.l1] at H
     by_cases c18 : x7_2 ≥ 0
     rotate_left
     ·rw [if_neg c18] at H
      have c18b0 : decide (0 ≤ x7_2) = false := decide_eq_false c18
      clear c18
      obtain rfl := Option.some.inj H
      go_wp2
      go_ret
      exact ⟨_, by first | rfl | (simp [errW_none, errW_some] <;> rfl) | (simp [*, errW_none, errW_some] <;> rfl), by (with_reducible repeat (first | apply Kd.R_alloc | apply Kd.R_drewN | apply Kd.R_drew)); exact HO_5.out, by repeat (first | (with_reducible first | exact HB.out | apply below_alloc | apply pw_below_drewN | apply below_drew1) | exact HB.out)⟩

     rw [if_pos c18] at H
     have c18b0 : decide (0 ≤ x7_2) = true := decide_eq_true c18
     clear c18
     by_cases c19 : 0 ≤ x7_2
     rotate_left
     ·rw [if_neg c19] at H
      exact absurd H (by simp)
     rw [if_pos c19] at H
     have c19b0 : decide (0 ≤ x7_2) = true := decide_eq_true c19
     clear c19
     by_cases c20 : x7_2 < (x5_2.length : Int)
     rotate_left
     ·rw [if_neg c20] at H
      exact absurd H (by simp)
     rw [if_pos c20] at H
     have c20b0 : decide (x7_2 < (x5_2.length : Int)) = true := decide_eq_true c20
     (try (have c20b0h := c20b0; simp only [hl5_2] at c20b0h))
     clear c20
     obtain ⟨ji21, hji21⟩ : ∃ j_ : Int, (wrap64 (x7_2 + 1)) = j_ := ⟨_, rfl⟩
     replace H : (if 0 ≤ (ji21) then (if (ji21) < (x5_2.length : Int) then ((wire_places_to.f l0 x7_2 (ji21)).bind fun t110 => (wire_places_lowest.l1 k2 l0 (x5_2.set (x7_2 : Int).toNat (mx (rd x5_2 x7_2) (wrap64 ((rd x5_2 (ji21)) - t110)))) (wrap64 (x7_2 - 1)))) else (none)) else (none)) = some r := by first | (rw [hji21] at H; exact H) | (simp only [hji21] at H ⊢; exact H)
     have hji21w : (IntKind.i64.wrap (x7_2 + 1)) = ji21 := (i64_w _).trans hji21
     by_cases c22 : 0 ≤ (ji21)
     rotate_left
     ·rw [if_neg c22] at H
      exact absurd H (by simp)
     rw [if_pos c22] at H
     have c22b0 : decide (0 ≤ (ji21)) = true := decide_eq_true c22
     clear c22
     by_cases c23 : (ji21) < (x5_2.length : Int)
     rotate_left
     ·rw [if_neg c23] at H
      exact absurd H (by simp)
     rw [if_pos c23] at H
     have c23b0 : decide ((ji21) < (x5_2.length : Int)) = true := decide_eq_true c23
     (try (have c23b0h := c23b0; simp only [hl5_2] at c23b0h))
     clear c23
     replace H := Option.bind_eq_some_iff.mp H
     obtain ⟨t110, A240, H⟩ := H
     replace H : (wire_places_lowest.l1 k2 l0 (x5_2.set (x7_2 : Int).toNat (mx (rd x5_2 x7_2) (wrap64 ((rd x5_2 (ji21)) - t110)))) (wrap64 (x7_2 - 1))) = some r := H
     have A24 := A_ A240
     clear A240
     obtain ⟨ji25, hji25⟩ : ∃ j_ : Int, (mx (rd x5_2 x7_2) (wrap64 ((rd x5_2 (ji21)) - t110))) = j_ := ⟨_, rfl⟩
     replace H : (wire_places_lowest.l1 k2 l0 (x5_2.set (x7_2 : Int).toNat (ji25)) (wrap64 (x7_2 - 1))) = some r := by first | (rw [hji25] at H; exact H) | (simp only [hji25] at H ⊢; exact H)
     (try rw [hji25] at A24)
     have hji25_ : (if (rd x5_2 x7_2) < (wrap64 ((rd x5_2 (ji21)) - t110)) then (wrap64 ((rd x5_2 (ji21)) - t110)) else (rd x5_2 x7_2)) = ji25 := hji25
     obtain ⟨y111, hy111⟩ : ∃ y_ : List Int, y_ = (x5_2.set (x7_2 : Int).toNat (ji25)) := ⟨_, rfl⟩
     replace H : (wire_places_lowest.l1 k2 l0 y111 (wrap64 (x7_2 - 1))) = some r := by first | (rw [hy111]; with_reducible exact H) | (have H2_ := (Option.bind_some _ _).symm.trans H; rw [hy111]; with_reducible exact H2_) | (have H2_ := (Option.bind_some _ _).symm.trans H; with_reducible exact H2_) | with_reducible exact H | (rw [hy111]; exact H) | exact H
     have Ny111 := A_ hy111
     clear hy111
     have H' := A_ H
     clear H
     try go_wp2
     have n0_ := A_ (Kd.R_drew HO_5.out)
     have n1_ := A_ (below_drew1 HB.out)
     clear HO_5
     clear HB
     have HO_5 := n0_
     have HB := n1_
     clear n0_ n1_
     have p108 : 0 ≤ (x7_2 : Int) := of_decide_eq_true (by first | (with_reducible assumption) | assumption)
     have q108 : x7_2 < (x5_2.length : Int) := of_decide_eq_true (by first | (with_reducible assumption) | assumption)
     obtain ⟨ad108, e108, hx108_0⟩ := Kd.at_int (Kd.R_reads' HO_5.out).2.2 x7_2 p108 q108
     cases e108
     replace p108 := eq_true p108
     replace q108 := eq_true q108
     have p109 : 0 ≤ ((ji21) : Int) := of_decide_eq_true (by first | (with_reducible assumption) | assumption)
     have q109 : (ji21) < (x5_2.length : Int) := of_decide_eq_true (by first | (with_reducible assumption) | assumption)
     obtain ⟨ad109, e109, hx109_0⟩ := Kd.at_int (Kd.R_reads' HO_5.out).2.2 (ji21) p109 q109
     obtain rfl : ad108 = ad109 := (by injection e109)
     replace p109 := eq_true p109
     replace q109 := eq_true q109
     refine start_ (n := 20) (S := fun w' => w'.cell? (ad108.add (x7_2).toNat) = some (.int .i64 (rd x5_2 x7_2)) ∧ w'.cell? (ad108.add ((ji21)).toNat) = some (.int .i64 (rd x5_2 (ji21)))) (ds := [19]) (mkB 20 0) (by kernel_rfl) rfl rfl ⟨hx108_0, hx109_0⟩ (fun hHeld => ?_); refine with_tabW wire_places_lowest.tab9 wire_places_lowest.bits9 (fun HT_ HW_ => ?_)
     generalize wr.drew = w27 at HO_5 HB hx108_0 hx109_0 hHeld ⊢
     refine pr_ 0 (some 42) (mkB 20 1) HT_ ?_
     refine pr_ 1 (some 43) (mkB 20 3) HT_ ?_
     refine pr_ 2 (some 44) (mkB 20 7) HT_ ?_
     refine pr_ 3 (some 45) (mkB 20 15) HT_ ?_
     refine pr_ 4 (some 46) (mkB 20 31) HT_ ?_
     refine pr_ 6 (some 48) (mkB 20 95) HT_ ?_
     refine pr_ 7 (some 49) (mkB 20 223) HT_ ?_
     refine pr_ 8 (some 50) (mkB 20 479) HT_ ?_
     refine pr_ 9 (some 51) (mkB 20 991) HT_ ?_
     refine pr_ 11 (some 53) (mkB 20 3039) HT_ ?_
     refine pr_ 12 (some 54) (mkB 20 7135) HT_ ?_
     refine pr_ 13 (some 55) (mkB 20 15327) HT_ ?_
     refine pr_ 14 (some 56) (mkB 20 31711) HT_ ?_
     refine take_ (i := 5) (N := some 47) (v := ?_) (a' := ?_) (mkB 20 31743) rfl rfl (take_ofW HT_.out HW_.out (by kernel_rfl)) (fun _ _ _ h => h) (Or.inl ⟨by rfl, ?_⟩) hHeld ?_ ?_
     rotate_left
     ·rintro w' ⟨s0, s1⟩
      go_simp
      with_reducible rfl
     rotate_left
     ·simp only [Act.put, List.setIfInBounds_toArray, List.set_cons_zero, List.set_cons_succ, i64_w, i32_w]
      rfl
     refine take_ (i := 10) (N := some 52) (v := ?_) (a' := ?_) (mkB 20 32767) rfl rfl (take_ofW HT_.out HW_.out (by kernel_rfl)) (fun _ _ _ h => h) (Or.inl ⟨by rfl, ?_⟩) hHeld ?_ ?_
     rotate_left
     ·rintro w' ⟨s0, s1⟩
      go_simp
      with_reducible rfl
     rotate_left
     ·simp only [Act.put, List.setIfInBounds_toArray, List.set_cons_zero, List.set_cons_succ, i64_w, i32_w]
      rfl
     refine one_ (i := 15) (N := some 57) (mkB 20 65535) rfl rfl (one_of HT_.out (by kernel_rfl)) (by decide) (fun K hK => ?_)
     refine goes_ Try.func53 (by kernel_rfl) rfl #[.slice A0 l0.length c0, .int .i64 x7_2, .int .i64 ji21] (by rfl) rfl rfl (by (try simp only [List.map_toArray, List.map_cons, List.map_nil]); first | done | (simp only [hji21]; rfl) | rfl | (simp only [List.length_drop, List.length_take]; rfl)) ?_
     with_reducible refine (wire_places_to.calls _ _ l0 x7_2 ji21 t110 _ ?side1 ?side2 A24.out).mono ?_
     (case side1 => exact cU (Kd.C_below HR0.out HB.out))
     (case side2 => exact HC0.out)
     rintro e w28 ⟨rfl, hb⟩
     have HS0_ := (hb.cell (World.block_lt_of_cell? _ _ (hHeld.1))).trans (hHeld.1)
     have HS1_ := (hb.cell (World.block_lt_of_cell? _ _ (hHeld.2))).trans (hHeld.2)
     refine ⟨_, rfl, ?_⟩
     have n0_ := A_ (Kd.R_below (rU HO_5.out) hb)
     have n1_ := A_ (below_step (bW0 HB.out) hb)
     clear HO_5
     clear HB
     have HO_5 := n0_
     have HB := n1_
     clear n0_ n1_
     (try clear hb)
     (try clear hb2)
     (try clear hk)
     (try clear hi)
     have p26 : 0 ≤ (x7_2 : Int) := of_decide_eq_true (by first | (with_reducible assumption) | assumption)
     have q26 : (x7_2 : Int) < ((x5_2.length : Int) : Int) := of_decide_eq_true (by first | (with_reducible assumption) | assumption)
     obtain ⟨go26, co26, eo26, gb26, gl26, cl26, HG26⟩ := Kd.R_form HO_5.out (by omega)
     (first | cases eo26 | (injection eo26 with ea_ en_ ec_; (first | subst ea_ | (injection ea_ with ea_; subst ea_)); subst ec_; clear en_))
     have GB26 := A_ gb26
     have GG26 := A_ HG26
     clear gb26 gl26 HG26
     (first | simp only [add_plain] at hx108_0 | skip)
     (first | simp only [add_plain] at hx109_0 | skip)
     obtain ⟨hx26_0, hf26_0⟩ := Kd.R_celln 0 HO_5.out (x7_2 : Int) p26 q26
     replace p26 := eq_true p26
     replace q26 := eq_true q26
     have HP29 := Kd.R_putn HO_5.out (x7_2 : Int) ji25
     rw [← Ny111.out] at HP29
     have HQ29 := A_ HP29
     clear HP29
     refine hK.out _ _ ⟨HS0_, HS1_⟩ (fun hHeld => ?_)
     clear hK K
     refine norm_ (a' := ?_) ?_ ?_
     rotate_left
     ·show Act.put _ (some 57) _ = _
      simp only [Act.put, List.setIfInBounds_toArray, List.set_cons_zero, List.set_cons_succ, i64_w, i32_w]
      rfl
     refine pr_ 16 (some 58) (mkB 20 131071) HT_ ?_
     refine pr_ 17 (some 59) (mkB 20 262143) HT_ ?_
     refine pr_ 18 (some 60) (mkB 20 524287) HT_ ?_
     refine last_ (i := 19) (N := none) (mkB 20 1048575) rfl rfl (one_of HT_.out (by kernel_rfl)) (by decide) (fun K hK => ?_)
     refine skip_ (w1 := ?_) (by rfl) rfl ?_ ?_
     rotate_left
     ·go_simp
      rfl
     refine hK.out _ _ ?_
     clear hK K
     refine done_ (done_of HT_.out (by kernel_rfl)) ?_
     try go_wp2
     (try simp only [← hl5_2])
     go_roundg k2
     case measure => have := HK1.out; have := HK2.out; omega
     case rel => exact ⟨(y111), (wrap64 (x7_2 - 1)), (by first | rfl | (simp; done) | (simp [*]; done)), H', ⟨by have := HK1.out; have := HK2.out; omega⟩, ⟨by (try simp only [hl5_2]); (with_reducible repeat (first | apply Kd.R_alloc | apply Kd.R_drewN | apply Kd.R_drew)); exact HQ29.out⟩, ⟨by repeat (first | (with_reducible first | exact HB.out | apply below_alloc | apply pw_below_drewN | apply below_drew1 | refine below_set ?_ GB26.out) | exact HB.out)⟩⟩
end Go.Proofs.Ytciepmpadcpkbaa.G
