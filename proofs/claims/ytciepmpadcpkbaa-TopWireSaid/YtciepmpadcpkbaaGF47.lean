-- Written by this session's driver (wip/tools/printmore.py) over the kit's print, with hand-written parts.
import Derived.Test.YtciepmpadcpkbaaGBase
import Derived.Test.YtciepmpadcpkbaaGF56
import Derived.Test.YtciepmpadcpkbaaGF50
import Derived.Test.YtciepmpadcpkbaaGF53
import Derived.Test.YtciepmpadcpkbaaGF73
namespace Go.Proofs.Ytciepmpadcpkbaa.G
open Go.RowKit Go.Proofs.YtciepmpadcpkbaaW.PrintWords Go.Proofs.YtciepmpadcpkbaaW.PrintLast Go.Proofs.YtciepmpadcpkbaaW.PrintMore
attribute [local go_sem] max2_int min2_int max_two min_two max_three min_three max_four min_four   -- for this text's walks alone
set_option linter.unusedVariables false
set_option linter.unusedSimpArgs false

/-! ### wire_Fits: function 47 -/
def wire_Fits.l0 : Nat → List (S72) → List Int → List Int → List Int → Int → Int → Option (Bool × Int)
 | 0, _, _, _, _, _, _ => none
 | k + 1, x0, x3, x10, x36, x37, x38 => if x38 < x37 then (if 0 ≤ x38 then (if x38 < (x36.length : Int) then (if x38 < (x0.length : Int) then ((wire_within.f ((rd_T72 x0 x38).f1) (rd x36 x38) ((rd_T72 x0 x38).f2)).bind fun t109 => (if t109 = true then (if x38 > 0 then ((wire_places_to.f x10 x38 (wrap64 (x38 - 1))).bind fun t110 => (if 0 ≤ (wrap64 (x38 - 1)) then (if (wrap64 (x38 - 1)) < (x3.length : Int) then ((wire_places_to.f x10 x38 (wrap64 (x38 - 1))).bind fun t112 => ((wire_within.f (wrap64 (-t110)) (wrap64 ((rd x36 x38) - (rd x3 (wrap64 (x38 - 1))))) t112).bind fun t113 => (if t113 = true then (wire_Fits.l0 k x0 x3 x10 x36 x37 (wrap64 (x38 + 1))) else (some (false, 0))))) else (none)) else (none))) else (wire_Fits.l0 k x0 x3 x10 x36 x37 (wrap64 (x38 + 1)))) else (some (false, 0)))) else (none)) else (none)) else (none)) else (some (true, 0))
def wire_Fits.f (k : Nat) (l0 : List (S72)) (a1 : Int) (a2 : Int) (l3 : List Int) : Option (Bool × Int) := (wire_asked.f k l0 a1 a2).bind fun bt101 => (if bt101.2 = 0 then (if (l3.length : Int) = (l0.length : Int) then ((wire_are.f k l3).bind fun t105 => (if t105 = true then (wire_Fits.l0 k l0 l3 bt101.1 l3 (l3.length : Int) 0) else (some (false, 2)))) else (some (false, 2))) else (some (false, bt101.2)))
theorem wire_Fits.mono_l : ∀ k, (∀ y0 y1 y2 y3 y4 y5, LeO (wire_Fits.l0 k y0 y1 y2 y3 y4 y5) (wire_Fits.l0 (k + 1) y0 y1 y2 y3 y4 y5))
 | 0 => fun _ _ _ _ _ _ r h => by simp [wire_Fits.l0] at h
 | k + 1 => by
  have ih0 := wire_Fits.mono_l k
  ·intro y0 y1 y2 y3 y4 y5
   unfold wire_Fits.l0
   repeat' first
   | (with_reducible exact ih0 _ _ _ _ _ _)
   | (with_reducible exact wire_are.mono _ _)
   | (with_reducible exact wire_asked.mono _ _ _ _)
   | (with_reducible exact LeO.refl _)
   | (with_reducible exact LeO.none _)
   | (with_reducible refine LeO.ite ?_ ?_)
   | (with_reducible refine LeO.bind ?_ (fun _ => ?_))
   | exact ih0 _ _ _ _ _ _
   | exact wire_are.mono _ _
   | exact wire_asked.mono _ _ _ _
   | exact LeO.none _
   | refine LeO.ite ?_ ?_
   | refine LeO.bind ?_ (fun _ => ?_)
theorem wire_Fits.mono : ∀ a0 a1 a2 a3 k, LeO (wire_Fits.f k a0 a1 a2 a3) (wire_Fits.f (k + 1) a0 a1 a2 a3) := by
 intro a0 a1 a2 a3 k
 have ih0 := wire_Fits.mono_l k
 unfold wire_Fits.f
 repeat' first
   | (with_reducible exact ih0 _ _ _ _ _ _)
   | (with_reducible exact wire_are.mono _ _)
   | (with_reducible exact wire_asked.mono _ _ _ _)
   | (with_reducible exact LeO.refl _)
   | (with_reducible exact LeO.none _)
   | (with_reducible refine LeO.ite ?_ ?_)
   | (with_reducible refine LeO.bind ?_ (fun _ => ?_))
   | exact ih0 _ _ _ _ _ _
   | exact wire_are.mono _ _
   | exact wire_asked.mono _ _ _ _
   | exact LeO.none _
   | refine LeO.ite ?_ ?_
   | refine LeO.bind ?_ (fun _ => ?_)
def wire_Fits.T9 : Bool × List (List Nat × List Nat) := (true, [([], []), ([], []), ([0, 1], [0, 1]), ([2], [2]), ([3], [3]), ([], []), ([], []), ([], []), ([6, 7], [6, 7]), ([8], [8]), ([9], [9]), ([4, 5, 10], [4, 5, 10]), ([11], [11]), ([12, 11], [12]), ([13], [13]), ([14, 13], [13, 14]), ([15, 13, 13], [13, 15]), ([16], [16]), ([16], [16]), ([16], [16]), ([19, 16], [16, 19]), ([17, 18, 20, 16, 16], [16, 17, 18, 20]), ([21, 16], [16, 21]), ([16], [16]), ([16], [16]), ([16], [16]), ([25, 16], [16, 25]), ([24, 26, 16], [16, 24, 26]), ([27, 16], [16, 27]), ([23, 28, 16], [16, 23, 28]), ([16], [16]), ([16], [16]), ([16], [16]), ([32, 16], [16, 32]), ([30, 31, 33, 21, 16], [16, 30, 31, 33]), ([22, 29, 34, 34, 16], [16, 22, 29, 34]), ([35, 16], [16, 35]), ([16, 36, 13], [13, 16, 36]), ([13, 37], [13, 37])])
def wire_Fits.B9 : List Nat := [0, 0, 3, 7, 15, 0, 0, 0, 192, 448, 960, 2047, 4095, 8191, 16383, 32767, 65535, 131071, 131071, 131071, 655359, 2097151, 4194303, 131071, 131071, 131071, 33685503, 117571583, 251789311, 528613375, 131071, 131071, 131071, 4295098367, 16110321663, 34359738367, 68719476735, 137438953471, 274877906943]
theorem wire_Fits.tab9 : rtab .any (opsOf Try.f47 9) = wire_Fits.T9 := by kernel_rfl
theorem wire_Fits.bits9 : waitsOk wire_Fits.T9.2 wire_Fits.B9 = true := by kernel_rfl
set_option maxHeartbeats 8000000 in
set_option maxRecDepth 100000 in
theorem wire_Fits.calls (k : Nat) (A0 : Option Addr) (c0 : Nat) (l0 : List (S72)) (a1 : Int) (a2 : Int) (A3 : Option Addr) (c3 : Nat) (l3 : List Int) (r1 : Bool) (r2 : Int) (w : World) (hr0 : Kd.C k72 w A0 l0.length l0) (hc0 : l0.length ≤ c0) (hr3 : Kd.C (Kd.int .i64) w A3 l3.length l3) (hc3 : l3.length ≤ c3) (h : wire_Fits.f k l0 a1 a2 l3 = some (r1, r2)) :
  Calls Try.prog 47 #[.slice A0 l0.length c0, .int .i64 a1, .int .i64 a2, .slice A3 l3.length c3] w fun e w' => e = .returned (.tuple #[.bool r1, .int .i64 r2]) ∧ Below w.heap.size w w' := by
 have HR0 := A_ hr0
 have HC0 := A_ hc0
 clear hr0 hc0
 have HR3 := A_ hr3
 have HC3 := A_ hc3
 clear hr3 hc3
 have HB := A_ (Below.refl w.heap.size w)
 have H : ((wire_asked.f k l0 a1 a2).bind fun bt101 => (if bt101.2 = 0 then (if (l3.length : Int) = (l0.length : Int) then ((wire_are.f k l3).bind fun t105 => (if t105 = true then (wire_Fits.l0 k l0 l3 bt101.1 l3 (l3.length : Int) 0) else (some (false, 2)))) else (some (false, 2))) else (some (false, bt101.2)))) = some (r1, r2) := h
 clear h
 replace H := Option.bind_eq_some_iff.mp H
 obtain ⟨⟨t101, t102⟩, A50, H⟩ := H
 replace H : (if t102 = 0 then (if (l3.length : Int) = (l0.length : Int) then ((wire_are.f k l3).bind fun t105 => (if t105 = true then (wire_Fits.l0 k l0 l3 t101 l3 (l3.length : Int) 0) else (some (false, 2)))) else (some (false, 2))) else (some (false, t102))) = some (r1, r2) := H
 have A5 := A_ A50
 clear A50
 by_cases c6 : t102 = 0
 rotate_left
 ·rw [if_neg c6] at H
  have c6b0 : (t102 == 0) = false := beq_eq_false_iff_ne.mpr c6
  have c6b1 : (t102 != 0) = true := bne_iff_ne.mpr c6
  simp only [Option.some.injEq, Prod.mk.injEq] at H
  obtain ⟨rfl, rfl⟩ := H
  go_enter Try.func47, Try.ntmps47
  go_wp2_with (first | ((with_reducible refine gate_callee (f := 50) rfl ?_); refine goesL_ (some 18) rfl rfl Try.func50 (by kernel_rfl) rfl #[.slice A0 l0.length c0, .int .i64 a1, .int .i64 a2] rfl (by (try simp only [List.map_toArray, List.map_cons, List.map_nil]); first | done | rfl | (simp only [List.length_drop, List.length_take]; rfl)) ?_; (with_reducible refine (wire_asked.calls k _ _ l0 a1 a2 t101 t102 _ ?side1 ?side2 A5.out).mono ?_); (case side1 => exact cU HR0.out); (case side2 => exact HC0.out); rintro e w39 ⟨v103, rfl, ho0, hb⟩; refine ⟨_, rfl, ?_⟩; have n0_ := A_ (Kd.R_lower ho0 (below_size (bW0 HB.out))); have n1_ := A_ (below_step (bW0 HB.out) hb); clear HB; have HO104 := n0_; have HB := n1_; clear n0_ n1_; (try clear hb); (try clear hb2); (try clear hk); (try clear hi); (try clear ho0)))
  go_ret2
  exact ⟨by first | rfl | (simp [errW_none, errW_some] <;> rfl) | (simp [*, errW_none, errW_some] <;> rfl), by repeat (first | (with_reducible first | exact HB.out | apply below_alloc | apply pw_below_drewN | apply below_drew1) | exact HB.out)⟩

 rw [if_pos c6] at H
 have c6b0 : (t102 == 0) = true := beq_iff_eq.mpr c6
 have c6b1 : (t102 != 0) = false := bne_eq_false_iff_eq.mpr c6
 clear c6
 by_cases c7 : (l3.length : Int) = (l0.length : Int)
 rotate_left
 ·rw [if_neg c7] at H
  have c7b0 : ((l3.length : Int) == (l0.length : Int)) = false := beq_eq_false_iff_ne.mpr c7
  have c7b1 : ((l3.length : Int) != (l0.length : Int)) = true := bne_iff_ne.mpr c7
  have c7b2 : (l3.length == l0.length) = false := by first | simpa using c7 | (simp at c7 ⊢; omega)
  simp only [Option.some.injEq, Prod.mk.injEq] at H
  obtain ⟨rfl, rfl⟩ := H
  go_enter Try.func47, Try.ntmps47
  go_wp2_with (first | ((with_reducible refine gate_callee (f := 50) rfl ?_); refine goesL_ (some 18) rfl rfl Try.func50 (by kernel_rfl) rfl #[.slice A0 l0.length c0, .int .i64 a1, .int .i64 a2] rfl (by (try simp only [List.map_toArray, List.map_cons, List.map_nil]); first | done | rfl | (simp only [List.length_drop, List.length_take]; rfl)) ?_; (with_reducible refine (wire_asked.calls k _ _ l0 a1 a2 t101 t102 _ ?side1 ?side2 A5.out).mono ?_); (case side1 => exact cU HR0.out); (case side2 => exact HC0.out); rintro e w38 ⟨v103, rfl, ho0, hb⟩; refine ⟨_, rfl, ?_⟩; have n0_ := A_ (Kd.R_lower ho0 (below_size (bW0 HB.out))); have n1_ := A_ (below_step (bW0 HB.out) hb); clear HB; have HO104 := n0_; have HB := n1_; clear n0_ n1_; (try clear hb); (try clear hb2); (try clear hk); (try clear hi); (try clear ho0)))
  go_ret2
  exact ⟨by first | rfl | (simp [errW_none, errW_some] <;> rfl) | (simp [*, errW_none, errW_some] <;> rfl), by repeat (first | (with_reducible first | exact HB.out | apply below_alloc | apply pw_below_drewN | apply below_drew1) | exact HB.out)⟩
 rw [if_pos c7] at H
 have c7b0 : ((l3.length : Int) == (l0.length : Int)) = true := beq_iff_eq.mpr c7
 have c7b1 : ((l3.length : Int) != (l0.length : Int)) = false := bne_eq_false_iff_eq.mpr c7
 have c7b2 : (l3.length == l0.length) = true := by first | simpa using c7 | (simp at c7 ⊢; omega)
 clear c7
 replace H := Option.bind_eq_some_iff.mp H
 obtain ⟨t105, A80, H⟩ := H
 replace H : (if t105 = true then (wire_Fits.l0 k l0 l3 t101 l3 (l3.length : Int) 0) else (some (false, 2))) = some (r1, r2) := H
 have A8 := A_ A80
 clear A80
 by_cases c9 : t105 = true
 rotate_left
 ·replace c9 := Bool.eq_false_iff.mpr c9
  subst c9
  have H1 : (some (false, 2)) = some (r1, r2) := by rw [if_neg (show ¬ (false = true) by decide)] at H; exact H
  clear H
  have H := H1
  clear H1
  simp only [Option.some.injEq, Prod.mk.injEq] at H
  obtain ⟨rfl, rfl⟩ := H
  go_enter Try.func47, Try.ntmps47
  go_wp2_with (first | ((with_reducible refine gate_callee (f := 50) rfl ?_); refine goesL_ (some 18) rfl rfl Try.func50 (by kernel_rfl) rfl #[.slice A0 l0.length c0, .int .i64 a1, .int .i64 a2] rfl (by (try simp only [List.map_toArray, List.map_cons, List.map_nil]); first | done | rfl | (simp only [List.length_drop, List.length_take]; rfl)) ?_; (with_reducible refine (wire_asked.calls k _ _ l0 a1 a2 t101 t102 _ ?side1 ?side2 A5.out).mono ?_); (case side1 => exact cU HR0.out); (case side2 => exact HC0.out); rintro e w36 ⟨v103, rfl, ho0, hb⟩; refine ⟨_, rfl, ?_⟩; have n0_ := A_ (Kd.R_lower ho0 (below_size (bW0 HB.out))); have n1_ := A_ (below_step (bW0 HB.out) hb); clear HB; have HO104 := n0_; have HB := n1_; clear n0_ n1_; (try clear hb); (try clear hb2); (try clear hk); (try clear hi); (try clear ho0)) | (go_at_call 73; (with_reducible refine (wire_are.calls k _ _ l3 false _ ?side1 ?side2 A8.out).mono ?_); (case side1 => exact cU (Kd.C_below HR3.out HB.out)); (case side2 => exact HC3.out); rintro e w37 ⟨rfl, hb⟩; have n0_ := A_ (Kd.R_below (rU HO104.out) hb); have n1_ := A_ (below_step (bW0 HB.out) hb); clear HO104; clear HB; have HO104 := n0_; have HB := n1_; clear n0_ n1_; (try clear hb); (try clear hb2); (try clear hk); (try clear hi)))
  go_ret2
  exact ⟨by first | rfl | (simp [errW_none, errW_some] <;> rfl) | (simp [*, errW_none, errW_some] <;> rfl), by repeat (first | (with_reducible first | exact HB.out | apply below_alloc | apply pw_below_drewN | apply below_drew1) | exact HB.out)⟩
 subst c9
 have H1 : (wire_Fits.l0 k l0 l3 t101 l3 (l3.length : Int) 0) = some (r1, r2) := by rw [if_pos rfl] at H; exact H
 clear H
 have H := H1
 clear H1
 have H' := A_ H
 clear H
 go_enter Try.func47, Try.ntmps47
 go_wp2_with (first | ((with_reducible refine gate_callee (f := 50) rfl ?_); refine goesL_ (some 18) rfl rfl Try.func50 (by kernel_rfl) rfl #[.slice A0 l0.length c0, .int .i64 a1, .int .i64 a2] rfl (by (try simp only [List.map_toArray, List.map_cons, List.map_nil]); first | done | rfl | (simp only [List.length_drop, List.length_take]; rfl)) ?_; (with_reducible refine (wire_asked.calls k _ _ l0 a1 a2 t101 t102 _ ?side1 ?side2 A5.out).mono ?_); (case side1 => exact cU HR0.out); (case side2 => exact HC0.out); rintro e w10 ⟨v103, rfl, ho0, hb⟩; refine ⟨_, rfl, ?_⟩; have n0_ := A_ (Kd.R_lower ho0 (below_size (bW0 HB.out))); have n1_ := A_ (below_step (bW0 HB.out) hb); clear HB; have HO104 := n0_; have HB := n1_; clear n0_ n1_; (try clear hb); (try clear hb2); (try clear hk); (try clear hi); (try clear ho0)) | (go_at_call 73; (with_reducible refine (wire_are.calls k _ _ l3 true _ ?side1 ?side2 A8.out).mono ?_); (case side1 => exact cU (Kd.C_below HR3.out HB.out)); (case side2 => exact HC3.out); rintro e w11 ⟨rfl, hb⟩; have n0_ := A_ (Kd.R_below (rU HO104.out) hb); have n1_ := A_ (below_step (bW0 HB.out) hb); clear HO104; clear HB; have HO104 := n0_; have HB := n1_; clear n0_ n1_; (try clear hb); (try clear hb2); (try clear hk); (try clear hi)))
 go_loopg [38] k (fun kq v38 w' => ∃ (x38_1 : Int), v38 = .int .i64 x38_1 ∧ Aside0 (wire_Fits.l0 kq l0 l3 t101 l3 (l3.length : Int) x38_1 = some (r1, r2)) ∧ Aside0 (kq ≤ k) ∧ Aside0 (Kd.R (Kd.int .i64) 3 w' w.heap.size (fun _ => True) v103 t101) ∧ Aside0 (Below w.heap.size w w'))
 case atStart => exact ⟨(0), (by first | rfl | (simp; done) | (simp [*]; done)), H', ⟨Nat.le_refl _⟩, ⟨rU HO104.out⟩, ⟨by repeat (first | (with_reducible first | exact HB.out | apply below_alloc | apply pw_below_drewN | apply below_drew1) | exact HB.out)⟩⟩
 case round =>
  clear H'
  try clear p2
  try clear c3
  try clear c4
  try clear c5
  try clear c6
  try clear c6b0
  try clear c6b1
  try clear c7
  try clear c7b0
  try clear c7b1
  try clear c7b2
  try clear c9
  obtain ⟨x38_1, rfl, HA, HK1, HO_10, HB⟩ := hrel
  cases gk with
  | zero => exact absurd HA.out (by simp [wire_Fits.l0])
  | succ k1 =>
   have H := HA.out
   clear HA
   simp only [wire_Fits.l0] at H
   by_cases c12 : x38_1 < (l3.length : Int)
   rotate_left
   ·rw [if_neg c12] at H
    have c12b0 : decide (x38_1 < (l3.length : Int)) = false := decide_eq_false c12
    clear c12
    simp only [Option.some.injEq, Prod.mk.injEq] at H
    obtain ⟨rfl, rfl⟩ := H
    go_wp2
    go_ret2
    exact ⟨by first | rfl | (simp [errW_none, errW_some] <;> rfl) | (simp [*, errW_none, errW_some] <;> rfl), by repeat (first | (with_reducible first | exact HB.out | apply below_alloc | apply pw_below_drewN | apply below_drew1) | exact HB.out)⟩
   rw [if_pos c12] at H
   have c12b0 : decide (x38_1 < (l3.length : Int)) = true := decide_eq_true c12
   clear c12
   by_cases c13 : 0 ≤ x38_1
   rotate_left
   ·rw [if_neg c13] at H
    exact absurd H (by simp)
   rw [if_pos c13] at H
   have c13b0 : decide (0 ≤ x38_1) = true := decide_eq_true c13
   clear c13
   by_cases c14 : x38_1 < (l3.length : Int)
   rotate_left
   ·rw [if_neg c14] at H
    exact absurd H (by simp)
   rw [if_pos c14] at H
   have c14b0 : decide (x38_1 < (l3.length : Int)) = true := decide_eq_true c14
   clear c14
   by_cases c15 : x38_1 < (l0.length : Int)
   rotate_left
   ·rw [if_neg c15] at H
    exact absurd H (by simp)
   rw [if_pos c15] at H
   have c15b0 : decide (x38_1 < (l0.length : Int)) = true := decide_eq_true c15
   clear c15
   replace H := Option.bind_eq_some_iff.mp H
   obtain ⟨t109, A160, H⟩ := H
   replace H : (if t109 = true then (if x38_1 > 0 then ((wire_places_to.f t101 x38_1 (wrap64 (x38_1 - 1))).bind fun t110 => (if 0 ≤ (wrap64 (x38_1 - 1)) then (if (wrap64 (x38_1 - 1)) < (l3.length : Int) then ((wire_places_to.f t101 x38_1 (wrap64 (x38_1 - 1))).bind fun t112 => ((wire_within.f (wrap64 (-t110)) (wrap64 ((rd l3 x38_1) - (rd l3 (wrap64 (x38_1 - 1))))) t112).bind fun t113 => (if t113 = true then (wire_Fits.l0 k1 l0 l3 t101 l3 (l3.length : Int) (wrap64 (x38_1 + 1))) else (some (false, 0))))) else (none)) else (none))) else (wire_Fits.l0 k1 l0 l3 t101 l3 (l3.length : Int) (wrap64 (x38_1 + 1)))) else (some (false, 0))) = some (r1, r2) := H
   have A16 := A_ A160
   clear A160
   by_cases c17 : t109 = true
   rotate_left
   ·replace c17 := Bool.eq_false_iff.mpr c17
    subst c17
    have H1 : (some (false, 0)) = some (r1, r2) := by rw [if_neg (show ¬ (false = true) by decide)] at H; exact H
    clear H
    have H := H1
    clear H1
    simp only [Option.some.injEq, Prod.mk.injEq] at H
    obtain ⟨rfl, rfl⟩ := H
    have p106 : 0 ≤ (x38_1 : Int) := of_decide_eq_true (by first | (with_reducible assumption) | assumption)
    have q106 : x38_1 < (l3.length : Int) := of_decide_eq_true (by first | (with_reducible assumption) | assumption)
    obtain ⟨ad106, e106, hx106_0⟩ := Kd.at_int HR3.out x38_1 p106 q106
    cases e106
    replace hx106_0 := (HB.out.cell (World.block_lt_of_cell? w _ hx106_0)).trans hx106_0
    replace p106 := eq_true p106
    replace q106 := eq_true q106
    try go_wp2
    have n0_ := A_ (Kd.R_drew HO_10.out)
    have n1_ := A_ (below_drew1 HB.out)
    clear HO_10
    clear HB
    have HO_10 := n0_
    have HB := n1_
    clear n0_ n1_
    have p107 : 0 ≤ (x38_1 : Int) := of_decide_eq_true (by first | (with_reducible assumption) | assumption)
    have q107 : x38_1 < (l0.length : Int) := of_decide_eq_true (by first | (with_reducible assumption) | assumption)
    obtain ⟨ad107, e107, hx107_0, hx107_1, hx107_2⟩ := at_T72 HR0.out x38_1 p107 q107
    have hw107_2 := hx107_2
    have hw107_1 := hx107_1
    have hw107_0 := hx107_0
    cases e107
    replace hx107_0 := (HB.out.cell (World.block_lt_of_cell? w _ hx107_0)).trans hx107_0
    replace hx107_1 := (HB.out.cell (World.block_lt_of_cell? w _ hx107_1)).trans hx107_1
    replace hx107_2 := (HB.out.cell (World.block_lt_of_cell? w _ hx107_2)).trans hx107_2
    replace p107 := eq_true p107
    replace q107 := eq_true q107
    have p108 : 0 ≤ (x38_1 : Int) := of_decide_eq_true (by first | (with_reducible assumption) | assumption)
    have q108 : x38_1 < (l0.length : Int) := of_decide_eq_true (by first | (with_reducible assumption) | assumption)
    obtain ⟨ad108, e108, hx108_0, hx108_1, hx108_2⟩ := at_T72 HR0.out x38_1 p108 q108
    have hw108_2 := hx108_2
    have hw108_1 := hx108_1
    have hw108_0 := hx108_0
    obtain rfl : ad107 = ad108 := (by injection e108)
    replace hx108_0 := (HB.out.cell (World.block_lt_of_cell? w _ hx108_0)).trans hx108_0
    replace hx108_1 := (HB.out.cell (World.block_lt_of_cell? w _ hx108_1)).trans hx108_1
    replace hx108_2 := (HB.out.cell (World.block_lt_of_cell? w _ hx108_2)).trans hx108_2
    replace p108 := eq_true p108
    replace q108 := eq_true q108
    refine start_ (n := 39) (S := fun w' => w'.cell? (ad107.add ((x38_1).toNat * 3)) = some (.int .i64 ((rd_T72 l0 x38_1).f0)) ∧ w'.cell? ⟨(ad107.add ((x38_1).toNat * 3)).block, (ad107.add ((x38_1).toNat * 3)).off + 1, none⟩ = some (.int .i64 ((rd_T72 l0 x38_1).f1)) ∧ w'.cell? ⟨(ad107.add ((x38_1).toNat * 3)).block, (ad107.add ((x38_1).toNat * 3)).off + 2, none⟩ = some (.int .i64 ((rd_T72 l0 x38_1).f2)) ∧ w'.cell? (ad107.add ((x38_1).toNat * 3)) = some (.int .i64 ((rd_T72 l0 x38_1).f0)) ∧ w'.cell? ⟨(ad107.add ((x38_1).toNat * 3)).block, (ad107.add ((x38_1).toNat * 3)).off + 1, none⟩ = some (.int .i64 ((rd_T72 l0 x38_1).f1)) ∧ w'.cell? ⟨(ad107.add ((x38_1).toNat * 3)).block, (ad107.add ((x38_1).toNat * 3)).off + 2, none⟩ = some (.int .i64 ((rd_T72 l0 x38_1).f2))) (ds := []) (mkB 39 0) (by kernel_rfl) rfl rfl ⟨(pw_cell_below HB.out hw107_0), (pw_cell_below HB.out hw107_1), (pw_cell_below HB.out hw107_2), (pw_cell_below HB.out hw108_0), (pw_cell_below HB.out hw108_1), (pw_cell_below HB.out hw108_2)⟩ (fun hHeld => ?_); refine with_tabW wire_Fits.tab9 wire_Fits.bits9 (fun HT_ HW_ => ?_)
    generalize wr.drew = w35 at HO_10 HB hx107_0 hx107_1 hx107_2 hx108_0 hx108_1 hx108_2 hHeld ⊢
    refine pr_ 0 (some 43) (mkB 39 1) HT_ ?_
    refine pr_ 1 (some 44) (mkB 39 3) HT_ ?_
    refine pr_ 2 (some 45) (mkB 39 7) HT_ ?_
    refine pr_ 3 (some 46) (mkB 39 15) HT_ ?_
    refine pr_ 5 (some 48) (mkB 39 47) HT_ ?_
    refine pr_ 6 (some 49) (mkB 39 111) HT_ ?_
    refine pr_ 7 (some 50) (mkB 39 239) HT_ ?_
    refine pr_ 8 (some 51) (mkB 39 495) HT_ ?_
    refine pr_ 9 (some 52) (mkB 39 1007) HT_ ?_
    refine take_ (i := 4) (N := some 47) (v := ?_) (a' := ?_) (mkB 39 1023) rfl rfl (take_ofW HT_.out HW_.out (by kernel_rfl)) (fun _ _ _ h => h) (Or.inl ⟨by rfl, ?_⟩) hHeld ?_ ?_
    rotate_left
    ·rintro w' ⟨s0, s1, s2, s3, s4, s5⟩
     go_simp
     with_reducible rfl
    rotate_left
    ·simp only [Act.put, List.setIfInBounds_toArray, List.set_cons_zero, List.set_cons_succ, i64_w, i32_w]
     rfl
    refine take_ (i := 10) (N := some 53) (v := ?_) (a' := ?_) (mkB 39 2047) rfl rfl (take_ofW HT_.out HW_.out (by kernel_rfl)) (fun _ _ _ h => h) (Or.inl ⟨by rfl, ?_⟩) hHeld ?_ ?_
    rotate_left
    ·rintro w' ⟨s0, s1, s2, s3, s4, s5⟩
     go_simp
     with_reducible rfl
    rotate_left
    ·simp only [Act.put, List.setIfInBounds_toArray, List.set_cons_zero, List.set_cons_succ, i64_w, i32_w]
     rfl
    refine one_ (i := 11) (N := some 54) (mkB 39 4095) rfl rfl (one_of HT_.out (by kernel_rfl)) (by decide) (fun K hK => ?_)
    refine goes_ Try.func56 (by kernel_rfl) rfl #[.int .i64 ((rd_T72 l0 x38_1).f1), .int .i64 (rd l3 x38_1), .int .i64 ((rd_T72 l0 x38_1).f2)] (by rfl) rfl rfl (by (try simp only [List.map_toArray, List.map_cons, List.map_nil]); first | done | rfl | (simp only [List.length_drop, List.length_take]; rfl)) ?_
    with_reducible refine (wire_within.calls ((rd_T72 l0 x38_1).f1) (rd l3 x38_1) ((rd_T72 l0 x38_1).f2) false _ A16.out).mono ?_
    rintro e w' ⟨rfl, ⟨nd, rfl⟩⟩
    refine ⟨_, rfl, ?_⟩
    refine hK.out _ _ ⟨(pw_cell_below HB.out hw107_0), (pw_cell_below HB.out hw107_1), (pw_cell_below HB.out hw107_2), (pw_cell_below HB.out hw108_0), (pw_cell_below HB.out hw108_1), (pw_cell_below HB.out hw108_2)⟩ (fun hHeld => ?_)
    clear hK K
    refine norm_ (a' := ?_) ?_ ?_
    rotate_left
    ·show Act.put _ (some 54) _ = _
     simp only [Act.put, List.setIfInBounds_toArray, List.set_cons_zero, List.set_cons_succ, i64_w, i32_w]
     rfl
    refine pr_ 12 (some 55) (mkB 39 8191) HT_ ?_
    refine pr_ 13 (some 56) (mkB 39 16383) HT_ ?_
    refine pu_ 14 (some 57) (mkB 39 32767) HT_ ?_
    refine pu_ 15 (some 58) (mkB 39 65535) HT_ ?_
    refine pu_ 16 (some 59) (mkB 39 131071) HT_ ?_
    refine pu_ 17 (some 60) (mkB 39 262143) HT_ ?_
    refine pu_ 18 (some 61) (mkB 39 524287) HT_ ?_
    refine pu_ 19 (some 62) (mkB 39 1048575) HT_ ?_
    refine pu_ 20 (some 63) (mkB 39 2097151) HT_ ?_
    refine pu_ 21 (some 64) (mkB 39 4194303) HT_ ?_
    refine pu_ 22 (some 65) (mkB 39 8388607) HT_ ?_
    refine pu_ 23 (some 66) (mkB 39 16777215) HT_ ?_
    refine pu_ 24 (some 67) (mkB 39 33554431) HT_ ?_
    refine pu_ 25 (some 68) (mkB 39 67108863) HT_ ?_
    refine pu_ 26 (some 69) (mkB 39 134217727) HT_ ?_
    refine pu_ 27 (some 70) (mkB 39 268435455) HT_ ?_
    refine pu_ 28 (some 71) (mkB 39 536870911) HT_ ?_
    refine pu_ 29 (some 72) (mkB 39 1073741823) HT_ ?_
    refine pu_ 30 (some 73) (mkB 39 2147483647) HT_ ?_
    refine pu_ 31 (some 74) (mkB 39 4294967295) HT_ ?_
    refine pu_ 32 (some 75) (mkB 39 8589934591) HT_ ?_
    refine pu_ 33 (some 76) (mkB 39 17179869183) HT_ ?_
    refine pu_ 34 (some 77) (mkB 39 34359738367) HT_ ?_
    refine pu_ 35 (some 78) (mkB 39 68719476735) HT_ ?_
    refine pu_ 36 (some 79) (mkB 39 137438953471) HT_ ?_
    refine pu_ 37 (some 80) (mkB 39 274877906943) HT_ ?_
    refine pr_ 38 (some 81) (mkB 39 549755813887) HT_ ?_
    refine done_ (done_of HT_.out (by kernel_rfl)) ?_
    try go_wp2
    go_ret2
    exact ⟨by first | rfl | (simp [errW_none, errW_some] <;> rfl) | (simp [*, errW_none, errW_some] <;> rfl), by repeat (first | (with_reducible first | exact HB.out | apply below_alloc | apply pw_below_drewN | apply below_drew1) | exact HB.out)⟩
   subst c17
   have H1 : (if x38_1 > 0 then ((wire_places_to.f t101 x38_1 (wrap64 (x38_1 - 1))).bind fun t110 => (if 0 ≤ (wrap64 (x38_1 - 1)) then (if (wrap64 (x38_1 - 1)) < (l3.length : Int) then ((wire_places_to.f t101 x38_1 (wrap64 (x38_1 - 1))).bind fun t112 => ((wire_within.f (wrap64 (-t110)) (wrap64 ((rd l3 x38_1) - (rd l3 (wrap64 (x38_1 - 1))))) t112).bind fun t113 => (if t113 = true then (wire_Fits.l0 k1 l0 l3 t101 l3 (l3.length : Int) (wrap64 (x38_1 + 1))) else (some (false, 0))))) else (none)) else (none))) else (wire_Fits.l0 k1 l0 l3 t101 l3 (l3.length : Int) (wrap64 (x38_1 + 1)))) = some (r1, r2) := by rw [if_pos rfl] at H; exact H
   clear H
   have H := H1
   clear H1
   by_cases c18 : x38_1 > 0
   rotate_left
   ·rw [if_neg c18] at H
    have c18b0 : decide (0 < x38_1) = false := decide_eq_false c18
    clear c18
    have H' := A_ H
    clear H
    have p106 : 0 ≤ (x38_1 : Int) := of_decide_eq_true (by first | (with_reducible assumption) | assumption)
    have q106 : x38_1 < (l3.length : Int) := of_decide_eq_true (by first | (with_reducible assumption) | assumption)
    obtain ⟨ad106, e106, hx106_0⟩ := Kd.at_int HR3.out x38_1 p106 q106
    cases e106
    replace hx106_0 := (HB.out.cell (World.block_lt_of_cell? w _ hx106_0)).trans hx106_0
    replace p106 := eq_true p106
    replace q106 := eq_true q106
    try go_wp2
    have n0_ := A_ (Kd.R_drew HO_10.out)
    have n1_ := A_ (below_drew1 HB.out)
    clear HO_10
    clear HB
    have HO_10 := n0_
    have HB := n1_
    clear n0_ n1_
    have p107 : 0 ≤ (x38_1 : Int) := of_decide_eq_true (by first | (with_reducible assumption) | assumption)
    have q107 : x38_1 < (l0.length : Int) := of_decide_eq_true (by first | (with_reducible assumption) | assumption)
    obtain ⟨ad107, e107, hx107_0, hx107_1, hx107_2⟩ := at_T72 HR0.out x38_1 p107 q107
    have hw107_2 := hx107_2
    have hw107_1 := hx107_1
    have hw107_0 := hx107_0
    cases e107
    replace hx107_0 := (HB.out.cell (World.block_lt_of_cell? w _ hx107_0)).trans hx107_0
    replace hx107_1 := (HB.out.cell (World.block_lt_of_cell? w _ hx107_1)).trans hx107_1
    replace hx107_2 := (HB.out.cell (World.block_lt_of_cell? w _ hx107_2)).trans hx107_2
    replace p107 := eq_true p107
    replace q107 := eq_true q107
    have p108 : 0 ≤ (x38_1 : Int) := of_decide_eq_true (by first | (with_reducible assumption) | assumption)
    have q108 : x38_1 < (l0.length : Int) := of_decide_eq_true (by first | (with_reducible assumption) | assumption)
    obtain ⟨ad108, e108, hx108_0, hx108_1, hx108_2⟩ := at_T72 HR0.out x38_1 p108 q108
    have hw108_2 := hx108_2
    have hw108_1 := hx108_1
    have hw108_0 := hx108_0
    obtain rfl : ad107 = ad108 := (by injection e108)
    replace hx108_0 := (HB.out.cell (World.block_lt_of_cell? w _ hx108_0)).trans hx108_0
    replace hx108_1 := (HB.out.cell (World.block_lt_of_cell? w _ hx108_1)).trans hx108_1
    replace hx108_2 := (HB.out.cell (World.block_lt_of_cell? w _ hx108_2)).trans hx108_2
    replace p108 := eq_true p108
    replace q108 := eq_true q108
    refine start_ (n := 39) (S := fun w' => w'.cell? (ad107.add ((x38_1).toNat * 3)) = some (.int .i64 ((rd_T72 l0 x38_1).f0)) ∧ w'.cell? ⟨(ad107.add ((x38_1).toNat * 3)).block, (ad107.add ((x38_1).toNat * 3)).off + 1, none⟩ = some (.int .i64 ((rd_T72 l0 x38_1).f1)) ∧ w'.cell? ⟨(ad107.add ((x38_1).toNat * 3)).block, (ad107.add ((x38_1).toNat * 3)).off + 2, none⟩ = some (.int .i64 ((rd_T72 l0 x38_1).f2)) ∧ w'.cell? (ad107.add ((x38_1).toNat * 3)) = some (.int .i64 ((rd_T72 l0 x38_1).f0)) ∧ w'.cell? ⟨(ad107.add ((x38_1).toNat * 3)).block, (ad107.add ((x38_1).toNat * 3)).off + 1, none⟩ = some (.int .i64 ((rd_T72 l0 x38_1).f1)) ∧ w'.cell? ⟨(ad107.add ((x38_1).toNat * 3)).block, (ad107.add ((x38_1).toNat * 3)).off + 2, none⟩ = some (.int .i64 ((rd_T72 l0 x38_1).f2))) (ds := []) (mkB 39 0) (by kernel_rfl) rfl rfl ⟨(pw_cell_below HB.out hw107_0), (pw_cell_below HB.out hw107_1), (pw_cell_below HB.out hw107_2), (pw_cell_below HB.out hw108_0), (pw_cell_below HB.out hw108_1), (pw_cell_below HB.out hw108_2)⟩ (fun hHeld => ?_); refine with_tabW wire_Fits.tab9 wire_Fits.bits9 (fun HT_ HW_ => ?_)
    generalize wr.drew = w34 at HO_10 HB hx107_0 hx107_1 hx107_2 hx108_0 hx108_1 hx108_2 hHeld ⊢
    refine pr_ 0 (some 43) (mkB 39 1) HT_ ?_
    refine pr_ 1 (some 44) (mkB 39 3) HT_ ?_
    refine pr_ 2 (some 45) (mkB 39 7) HT_ ?_
    refine pr_ 3 (some 46) (mkB 39 15) HT_ ?_
    refine pr_ 5 (some 48) (mkB 39 47) HT_ ?_
    refine pr_ 6 (some 49) (mkB 39 111) HT_ ?_
    refine pr_ 7 (some 50) (mkB 39 239) HT_ ?_
    refine pr_ 8 (some 51) (mkB 39 495) HT_ ?_
    refine pr_ 9 (some 52) (mkB 39 1007) HT_ ?_
    refine take_ (i := 4) (N := some 47) (v := ?_) (a' := ?_) (mkB 39 1023) rfl rfl (take_ofW HT_.out HW_.out (by kernel_rfl)) (fun _ _ _ h => h) (Or.inl ⟨by rfl, ?_⟩) hHeld ?_ ?_
    rotate_left
    ·rintro w' ⟨s0, s1, s2, s3, s4, s5⟩
     go_simp
     with_reducible rfl
    rotate_left
    ·simp only [Act.put, List.setIfInBounds_toArray, List.set_cons_zero, List.set_cons_succ, i64_w, i32_w]
     rfl
    refine take_ (i := 10) (N := some 53) (v := ?_) (a' := ?_) (mkB 39 2047) rfl rfl (take_ofW HT_.out HW_.out (by kernel_rfl)) (fun _ _ _ h => h) (Or.inl ⟨by rfl, ?_⟩) hHeld ?_ ?_
    rotate_left
    ·rintro w' ⟨s0, s1, s2, s3, s4, s5⟩
     go_simp
     with_reducible rfl
    rotate_left
    ·simp only [Act.put, List.setIfInBounds_toArray, List.set_cons_zero, List.set_cons_succ, i64_w, i32_w]
     rfl
    refine one_ (i := 11) (N := some 54) (mkB 39 4095) rfl rfl (one_of HT_.out (by kernel_rfl)) (by decide) (fun K hK => ?_)
    refine goes_ Try.func56 (by kernel_rfl) rfl #[.int .i64 ((rd_T72 l0 x38_1).f1), .int .i64 (rd l3 x38_1), .int .i64 ((rd_T72 l0 x38_1).f2)] (by rfl) rfl rfl (by (try simp only [List.map_toArray, List.map_cons, List.map_nil]); first | done | rfl | (simp only [List.length_drop, List.length_take]; rfl)) ?_
    with_reducible refine (wire_within.calls ((rd_T72 l0 x38_1).f1) (rd l3 x38_1) ((rd_T72 l0 x38_1).f2) true _ A16.out).mono ?_
    rintro e w' ⟨rfl, ⟨nd, rfl⟩⟩
    refine ⟨_, rfl, ?_⟩
    refine hK.out _ _ ⟨(pw_cell_below HB.out hw107_0), (pw_cell_below HB.out hw107_1), (pw_cell_below HB.out hw107_2), (pw_cell_below HB.out hw108_0), (pw_cell_below HB.out hw108_1), (pw_cell_below HB.out hw108_2)⟩ (fun hHeld => ?_)
    clear hK K
    refine norm_ (a' := ?_) ?_ ?_
    rotate_left
    ·show Act.put _ (some 54) _ = _
     simp only [Act.put, List.setIfInBounds_toArray, List.set_cons_zero, List.set_cons_succ, i64_w, i32_w]
     rfl
    refine pr_ 12 (some 55) (mkB 39 8191) HT_ ?_
    refine pr_ 13 (some 56) (mkB 39 16383) HT_ ?_
    refine pr_ 14 (some 57) (mkB 39 32767) HT_ ?_
    refine pr_ 15 (some 58) (mkB 39 65535) HT_ ?_
    refine pr_ 16 (some 59) (mkB 39 131071) HT_ ?_
    refine pu_ 17 (some 60) (mkB 39 262143) HT_ ?_
    refine pu_ 18 (some 61) (mkB 39 524287) HT_ ?_
    refine pu_ 19 (some 62) (mkB 39 1048575) HT_ ?_
    refine pu_ 20 (some 63) (mkB 39 2097151) HT_ ?_
    refine pu_ 21 (some 64) (mkB 39 4194303) HT_ ?_
    refine pu_ 22 (some 65) (mkB 39 8388607) HT_ ?_
    refine pu_ 23 (some 66) (mkB 39 16777215) HT_ ?_
    refine pu_ 24 (some 67) (mkB 39 33554431) HT_ ?_
    refine pu_ 25 (some 68) (mkB 39 67108863) HT_ ?_
    refine pu_ 26 (some 69) (mkB 39 134217727) HT_ ?_
    refine pu_ 27 (some 70) (mkB 39 268435455) HT_ ?_
    refine pu_ 28 (some 71) (mkB 39 536870911) HT_ ?_
    refine pu_ 29 (some 72) (mkB 39 1073741823) HT_ ?_
    refine pu_ 30 (some 73) (mkB 39 2147483647) HT_ ?_
    refine pu_ 31 (some 74) (mkB 39 4294967295) HT_ ?_
    refine pu_ 32 (some 75) (mkB 39 8589934591) HT_ ?_
    refine pu_ 33 (some 76) (mkB 39 17179869183) HT_ ?_
    refine pu_ 34 (some 77) (mkB 39 34359738367) HT_ ?_
    refine pu_ 35 (some 78) (mkB 39 68719476735) HT_ ?_
    refine pu_ 36 (some 79) (mkB 39 137438953471) HT_ ?_
    refine pr_ 37 (some 80) (mkB 39 274877906943) HT_ ?_
    refine pr_ 38 (some 81) (mkB 39 549755813887) HT_ ?_
    refine done_ (done_of HT_.out (by kernel_rfl)) ?_
    try go_wp2
    go_roundg k1
    case measure => have := HK1.out; omega
    case rel => exact ⟨(wrap64 (x38_1 + 1)), (by first | rfl | (simp; done) | (simp [*]; done)), H', ⟨by have := HK1.out; omega⟩, ⟨rU HO_10.out⟩, ⟨by repeat (first | (with_reducible first | exact HB.out | apply below_alloc | apply pw_below_drewN | apply below_drew1) | exact HB.out)⟩⟩
   rw [if_pos c18] at H
   have c18b0 : decide (0 < x38_1) = true := decide_eq_true c18
   clear c18
   replace H := Option.bind_eq_some_iff.mp H
   obtain ⟨t110, A190, H⟩ := H
   replace H : (if 0 ≤ (wrap64 (x38_1 - 1)) then (if (wrap64 (x38_1 - 1)) < (l3.length : Int) then ((wire_places_to.f t101 x38_1 (wrap64 (x38_1 - 1))).bind fun t112 => ((wire_within.f (wrap64 (-t110)) (wrap64 ((rd l3 x38_1) - (rd l3 (wrap64 (x38_1 - 1))))) t112).bind fun t113 => (if t113 = true then (wire_Fits.l0 k1 l0 l3 t101 l3 (l3.length : Int) (wrap64 (x38_1 + 1))) else (some (false, 0))))) else (none)) else (none)) = some (r1, r2) := H
   have A19 := A_ A190
   clear A190
   obtain ⟨ji20, hji20⟩ : ∃ j_ : Int, (wrap64 (x38_1 - 1)) = j_ := ⟨_, rfl⟩
   replace H : (if 0 ≤ (ji20) then (if (ji20) < (l3.length : Int) then ((wire_places_to.f t101 x38_1 (ji20)).bind fun t112 => ((wire_within.f (wrap64 (-t110)) (wrap64 ((rd l3 x38_1) - (rd l3 (ji20)))) t112).bind fun t113 => (if t113 = true then (wire_Fits.l0 k1 l0 l3 t101 l3 (l3.length : Int) (wrap64 (x38_1 + 1))) else (some (false, 0))))) else (none)) else (none)) = some (r1, r2) := by first | (rw [hji20] at H; exact H) | (simp only [hji20] at H ⊢; exact H)
   (try rw [hji20] at A16)
   (try rw [hji20] at A19)
   have hji20w : (IntKind.i64.wrap (x38_1 - 1)) = ji20 := (i64_w _).trans hji20
   by_cases c21 : 0 ≤ (ji20)
   rotate_left
   ·rw [if_neg c21] at H
    exact absurd H (by simp)
   rw [if_pos c21] at H
   have c21b0 : decide (0 ≤ (ji20)) = true := decide_eq_true c21
   clear c21
   by_cases c22 : (ji20) < (l3.length : Int)
   rotate_left
   ·rw [if_neg c22] at H
    exact absurd H (by simp)
   rw [if_pos c22] at H
   have c22b0 : decide ((ji20) < (l3.length : Int)) = true := decide_eq_true c22
   clear c22
   replace H := Option.bind_eq_some_iff.mp H
   obtain ⟨t112, A230, H⟩ := H
   replace H : ((wire_within.f (wrap64 (-t110)) (wrap64 ((rd l3 x38_1) - (rd l3 (ji20)))) t112).bind fun t113 => (if t113 = true then (wire_Fits.l0 k1 l0 l3 t101 l3 (l3.length : Int) (wrap64 (x38_1 + 1))) else (some (false, 0)))) = some (r1, r2) := H
   have A23 := A_ A230
   clear A230
   replace H := Option.bind_eq_some_iff.mp H
   obtain ⟨t113, A240, H⟩ := H
   replace H : (if t113 = true then (wire_Fits.l0 k1 l0 l3 t101 l3 (l3.length : Int) (wrap64 (x38_1 + 1))) else (some (false, 0))) = some (r1, r2) := H
   have A24 := A_ A240
   clear A240
   by_cases c25 : t113 = true
   rotate_left
   ·replace c25 := Bool.eq_false_iff.mpr c25
    subst c25
    have H1 : (some (false, 0)) = some (r1, r2) := by rw [if_neg (show ¬ (false = true) by decide)] at H; exact H
    clear H
    have H := H1
    clear H1
    simp only [Option.some.injEq, Prod.mk.injEq] at H
    obtain ⟨rfl, rfl⟩ := H
    have p106 : 0 ≤ (x38_1 : Int) := of_decide_eq_true (by first | (with_reducible assumption) | assumption)
    have q106 : x38_1 < (l3.length : Int) := of_decide_eq_true (by first | (with_reducible assumption) | assumption)
    obtain ⟨ad106, e106, hx106_0⟩ := Kd.at_int HR3.out x38_1 p106 q106
    cases e106
    replace hx106_0 := (HB.out.cell (World.block_lt_of_cell? w _ hx106_0)).trans hx106_0
    replace p106 := eq_true p106
    replace q106 := eq_true q106
    try go_wp2
    have n0_ := A_ (Kd.R_drew HO_10.out)
    have n1_ := A_ (below_drew1 HB.out)
    clear HO_10
    clear HB
    have HO_10 := n0_
    have HB := n1_
    clear n0_ n1_
    have p107 : 0 ≤ (x38_1 : Int) := of_decide_eq_true (by first | (with_reducible assumption) | assumption)
    have q107 : x38_1 < (l0.length : Int) := of_decide_eq_true (by first | (with_reducible assumption) | assumption)
    obtain ⟨ad107, e107, hx107_0, hx107_1, hx107_2⟩ := at_T72 HR0.out x38_1 p107 q107
    have hw107_2 := hx107_2
    have hw107_1 := hx107_1
    have hw107_0 := hx107_0
    cases e107
    replace hx107_0 := (HB.out.cell (World.block_lt_of_cell? w _ hx107_0)).trans hx107_0
    replace hx107_1 := (HB.out.cell (World.block_lt_of_cell? w _ hx107_1)).trans hx107_1
    replace hx107_2 := (HB.out.cell (World.block_lt_of_cell? w _ hx107_2)).trans hx107_2
    replace p107 := eq_true p107
    replace q107 := eq_true q107
    have p108 : 0 ≤ (x38_1 : Int) := of_decide_eq_true (by first | (with_reducible assumption) | assumption)
    have q108 : x38_1 < (l0.length : Int) := of_decide_eq_true (by first | (with_reducible assumption) | assumption)
    obtain ⟨ad108, e108, hx108_0, hx108_1, hx108_2⟩ := at_T72 HR0.out x38_1 p108 q108
    have hw108_2 := hx108_2
    have hw108_1 := hx108_1
    have hw108_0 := hx108_0
    obtain rfl : ad107 = ad108 := (by injection e108)
    replace hx108_0 := (HB.out.cell (World.block_lt_of_cell? w _ hx108_0)).trans hx108_0
    replace hx108_1 := (HB.out.cell (World.block_lt_of_cell? w _ hx108_1)).trans hx108_1
    replace hx108_2 := (HB.out.cell (World.block_lt_of_cell? w _ hx108_2)).trans hx108_2
    replace p108 := eq_true p108
    replace q108 := eq_true q108
    have p111 : 0 ≤ ((ji20) : Int) := of_decide_eq_true (by first | (with_reducible assumption) | assumption)
    have q111 : (ji20) < (l3.length : Int) := of_decide_eq_true (by first | (with_reducible assumption) | assumption)
    obtain ⟨ad111, e111, hx111_0⟩ := Kd.at_int HR3.out (ji20) p111 q111
    have hw111_0 := hx111_0
    obtain rfl : ad106 = ad111 := (by injection e111)
    replace hx111_0 := (HB.out.cell (World.block_lt_of_cell? w _ hx111_0)).trans hx111_0
    replace p111 := eq_true p111
    replace q111 := eq_true q111
    refine start_ (n := 39) (S := fun w' => w'.cell? (ad107.add ((x38_1).toNat * 3)) = some (.int .i64 ((rd_T72 l0 x38_1).f0)) ∧ w'.cell? ⟨(ad107.add ((x38_1).toNat * 3)).block, (ad107.add ((x38_1).toNat * 3)).off + 1, none⟩ = some (.int .i64 ((rd_T72 l0 x38_1).f1)) ∧ w'.cell? ⟨(ad107.add ((x38_1).toNat * 3)).block, (ad107.add ((x38_1).toNat * 3)).off + 2, none⟩ = some (.int .i64 ((rd_T72 l0 x38_1).f2)) ∧ w'.cell? (ad107.add ((x38_1).toNat * 3)) = some (.int .i64 ((rd_T72 l0 x38_1).f0)) ∧ w'.cell? ⟨(ad107.add ((x38_1).toNat * 3)).block, (ad107.add ((x38_1).toNat * 3)).off + 1, none⟩ = some (.int .i64 ((rd_T72 l0 x38_1).f1)) ∧ w'.cell? ⟨(ad107.add ((x38_1).toNat * 3)).block, (ad107.add ((x38_1).toNat * 3)).off + 2, none⟩ = some (.int .i64 ((rd_T72 l0 x38_1).f2)) ∧ w'.cell? (ad106.add ((ji20)).toNat) = some (.int .i64 (rd l3 (ji20)))) (ds := []) (mkB 39 0) (by kernel_rfl) rfl rfl ⟨(pw_cell_below HB.out hw107_0), (pw_cell_below HB.out hw107_1), (pw_cell_below HB.out hw107_2), (pw_cell_below HB.out hw108_0), (pw_cell_below HB.out hw108_1), (pw_cell_below HB.out hw108_2), (pw_cell_below HB.out hw111_0)⟩ (fun hHeld => ?_); refine with_tabW wire_Fits.tab9 wire_Fits.bits9 (fun HT_ HW_ => ?_)
    generalize wr.drew = w30 at HO_10 HB hx107_0 hx107_1 hx107_2 hx108_0 hx108_1 hx108_2 hx111_0 hHeld ⊢
    refine pr_ 0 (some 43) (mkB 39 1) HT_ ?_
    refine pr_ 1 (some 44) (mkB 39 3) HT_ ?_
    refine pr_ 2 (some 45) (mkB 39 7) HT_ ?_
    refine pr_ 3 (some 46) (mkB 39 15) HT_ ?_
    refine pr_ 5 (some 48) (mkB 39 47) HT_ ?_
    refine pr_ 6 (some 49) (mkB 39 111) HT_ ?_
    refine pr_ 7 (some 50) (mkB 39 239) HT_ ?_
    refine pr_ 8 (some 51) (mkB 39 495) HT_ ?_
    refine pr_ 9 (some 52) (mkB 39 1007) HT_ ?_
    refine take_ (i := 4) (N := some 47) (v := ?_) (a' := ?_) (mkB 39 1023) rfl rfl (take_ofW HT_.out HW_.out (by kernel_rfl)) (fun _ _ _ h => h) (Or.inl ⟨by rfl, ?_⟩) hHeld ?_ ?_
    rotate_left
    ·rintro w' ⟨s0, s1, s2, s3, s4, s5, s6⟩
     go_simp
     with_reducible rfl
    rotate_left
    ·simp only [Act.put, List.setIfInBounds_toArray, List.set_cons_zero, List.set_cons_succ, i64_w, i32_w]
     rfl
    refine take_ (i := 10) (N := some 53) (v := ?_) (a' := ?_) (mkB 39 2047) rfl rfl (take_ofW HT_.out HW_.out (by kernel_rfl)) (fun _ _ _ h => h) (Or.inl ⟨by rfl, ?_⟩) hHeld ?_ ?_
    rotate_left
    ·rintro w' ⟨s0, s1, s2, s3, s4, s5, s6⟩
     go_simp
     with_reducible rfl
    rotate_left
    ·simp only [Act.put, List.setIfInBounds_toArray, List.set_cons_zero, List.set_cons_succ, i64_w, i32_w]
     rfl
    refine one_ (i := 11) (N := some 54) (mkB 39 4095) rfl rfl (one_of HT_.out (by kernel_rfl)) (by decide) (fun K hK => ?_)
    refine goes_ Try.func56 (by kernel_rfl) rfl #[.int .i64 ((rd_T72 l0 x38_1).f1), .int .i64 (rd l3 x38_1), .int .i64 ((rd_T72 l0 x38_1).f2)] (by rfl) rfl rfl (by (try simp only [List.map_toArray, List.map_cons, List.map_nil]); first | done | rfl | (simp only [List.length_drop, List.length_take]; rfl)) ?_
    with_reducible refine (wire_within.calls ((rd_T72 l0 x38_1).f1) (rd l3 x38_1) ((rd_T72 l0 x38_1).f2) true _ A16.out).mono ?_
    rintro e w' ⟨rfl, ⟨nd, rfl⟩⟩
    refine ⟨_, rfl, ?_⟩
    obtain ⟨Ao31, co31, eo31⟩ := Kd.R_slice HO_10.out
    (first | subst eo31 | (injection eo31 with f1_ f2_ f3_; have f4_ := f1_.symm; have f5_ := f3_.symm; clear f1_ f2_ f3_; subst f4_; subst f5_))
    refine hK.out _ _ ⟨(pw_cell_below HB.out hw107_0), (pw_cell_below HB.out hw107_1), (pw_cell_below HB.out hw107_2), (pw_cell_below HB.out hw108_0), (pw_cell_below HB.out hw108_1), (pw_cell_below HB.out hw108_2), (pw_cell_below HB.out hw111_0)⟩ (fun hHeld => ?_)
    clear hK K
    refine norm_ (a' := ?_) ?_ ?_
    rotate_left
    ·show Act.put _ (some 54) _ = _
     simp only [Act.put, List.setIfInBounds_toArray, List.set_cons_zero, List.set_cons_succ, i64_w, i32_w]
     rfl
    refine pr_ 12 (some 55) (mkB 39 8191) HT_ ?_
    refine pr_ 13 (some 56) (mkB 39 16383) HT_ ?_
    refine pr_ 14 (some 57) (mkB 39 32767) HT_ ?_
    refine pr_ 15 (some 58) (mkB 39 65535) HT_ ?_
    refine pr_ 16 (some 59) (mkB 39 131071) HT_ ?_
    refine pr_ 17 (some 60) (mkB 39 262143) HT_ ?_
    refine pr_ 18 (some 61) (mkB 39 524287) HT_ ?_
    refine pr_ 19 (some 62) (mkB 39 1048575) HT_ ?_
    refine pr_ 20 (some 63) (mkB 39 2097151) HT_ ?_
    refine pr_ 23 (some 66) (mkB 39 10485759) HT_ ?_
    refine pr_ 24 (some 67) (mkB 39 27262975) HT_ ?_
    refine pr_ 25 (some 68) (mkB 39 60817407) HT_ ?_
    refine pr_ 26 (some 69) (mkB 39 127926271) HT_ ?_
    refine pr_ 27 (some 70) (mkB 39 262143999) HT_ ?_
    refine pr_ 30 (some 73) (mkB 39 1335885823) HT_ ?_
    refine pr_ 31 (some 74) (mkB 39 3483369471) HT_ ?_
    refine pr_ 32 (some 75) (mkB 39 7778336767) HT_ ?_
    refine pr_ 33 (some 76) (mkB 39 16368271359) HT_ ?_
    refine take_ (i := 28) (N := some 71) (v := ?_) (a' := ?_) (mkB 39 16636706815) rfl rfl (take_ofW HT_.out HW_.out (by kernel_rfl)) (fun _ _ _ h => h) (Or.inl ⟨by rfl, ?_⟩) hHeld ?_ ?_
    rotate_left
    ·rintro w' ⟨s0, s1, s2, s3, s4, s5, s6⟩
     go_simp
     with_reducible rfl
    rotate_left
    ·simp only [Act.put, List.setIfInBounds_toArray, List.set_cons_zero, List.set_cons_succ, i64_w, i32_w]
     rfl
    refine pr_ 29 (some 72) (mkB 39 17173577727) HT_ ?_
    refine one_ (i := 21) (N := some 64) (mkB 39 17175674879) rfl rfl (one_of HT_.out (by kernel_rfl)) (by decide) (fun K hK => ?_)
    refine goes_ Try.func53 (by kernel_rfl) rfl #[.slice Ao31 t101.length co31, .int .i64 x38_1, .int .i64 ji20] (by rfl) rfl rfl (by (try simp only [List.map_toArray, List.map_cons, List.map_nil]); first | done | (simp only [hji20]; rfl) | rfl | (simp only [List.length_drop, List.length_take]; rfl)) ?_
    with_reducible refine (wire_places_to.calls _ _ t101 x38_1 ji20 t110 _ ?side1 ?side2 A19.out).mono ?_
    (case side1 => exact cU (Kd.R_reads' HO_10.out).2.2)
    (case side2 => exact (Kd.R_reads' HO_10.out).2.1)
    rintro e w32 ⟨rfl, hb⟩
    refine ⟨_, rfl, ?_⟩
    have n0_ := A_ (Kd.R_below (rU HO_10.out) hb)
    have n1_ := A_ (below_step (bW0 HB.out) hb)
    clear HO_10
    clear HB
    have HO_10 := n0_
    have HB := n1_
    clear n0_ n1_
    (try clear hb)
    (try clear hb2)
    (try clear hk)
    (try clear hi)
    refine hK.out _ _ ⟨(pw_cell_below HB.out hw107_0), (pw_cell_below HB.out hw107_1), (pw_cell_below HB.out hw107_2), (pw_cell_below HB.out hw108_0), (pw_cell_below HB.out hw108_1), (pw_cell_below HB.out hw108_2), (pw_cell_below HB.out hw111_0)⟩ (fun hHeld => ?_)
    clear hK K
    refine norm_ (a' := ?_) ?_ ?_
    rotate_left
    ·show Act.put _ (some 64) _ = _
     simp only [Act.put, List.setIfInBounds_toArray, List.set_cons_zero, List.set_cons_succ, i64_w, i32_w]
     rfl
    refine pr_ 22 (some 65) (mkB 39 17179869183) HT_ ?_
    refine one_ (i := 34) (N := some 77) (mkB 39 34359738367) rfl rfl (one_of HT_.out (by kernel_rfl)) (by decide) (fun K hK => ?_)
    refine goes_ Try.func53 (by kernel_rfl) rfl #[.slice Ao31 t101.length co31, .int .i64 x38_1, .int .i64 ji20] (by rfl) rfl rfl (by (try simp only [List.map_toArray, List.map_cons, List.map_nil]); first | done | (simp only [hji20]; rfl) | rfl | (simp only [List.length_drop, List.length_take]; rfl)) ?_
    with_reducible refine (wire_places_to.calls _ _ t101 x38_1 ji20 t112 _ ?side1 ?side2 A23.out).mono ?_
    (case side1 => exact cU (Kd.R_reads' HO_10.out).2.2)
    (case side2 => exact (Kd.R_reads' HO_10.out).2.1)
    rintro e w33 ⟨rfl, hb⟩
    refine ⟨_, rfl, ?_⟩
    have n0_ := A_ (Kd.R_below (rU HO_10.out) hb)
    have n1_ := A_ (below_step (bW0 HB.out) hb)
    clear HO_10
    clear HB
    have HO_10 := n0_
    have HB := n1_
    clear n0_ n1_
    (try clear hb)
    (try clear hb2)
    (try clear hk)
    (try clear hi)
    refine hK.out _ _ ⟨(pw_cell_below HB.out hw107_0), (pw_cell_below HB.out hw107_1), (pw_cell_below HB.out hw107_2), (pw_cell_below HB.out hw108_0), (pw_cell_below HB.out hw108_1), (pw_cell_below HB.out hw108_2), (pw_cell_below HB.out hw111_0)⟩ (fun hHeld => ?_)
    clear hK K
    refine norm_ (a' := ?_) ?_ ?_
    rotate_left
    ·show Act.put _ (some 77) _ = _
     simp only [Act.put, List.setIfInBounds_toArray, List.set_cons_zero, List.set_cons_succ, i64_w, i32_w]
     rfl
    refine one_ (i := 35) (N := some 78) (mkB 39 68719476735) rfl rfl (one_of HT_.out (by kernel_rfl)) (by decide) (fun K hK => ?_)
    refine goes_ Try.func56 (by kernel_rfl) rfl #[.int .i64 (wrap64 (-t110)), .int .i64 (wrap64 ((rd l3 x38_1) - (rd l3 (ji20)))), .int .i64 t112] (by rfl) rfl rfl (by (try simp only [List.map_toArray, List.map_cons, List.map_nil]); first | done | (simp only [hji20]; rfl) | rfl | (simp only [List.length_drop, List.length_take]; rfl)) ?_
    with_reducible refine (wire_within.calls (wrap64 (-t110)) (wrap64 ((rd l3 x38_1) - (rd l3 (ji20)))) t112 false _ A24.out).mono ?_
    rintro e w' ⟨rfl, ⟨nd, rfl⟩⟩
    refine ⟨_, rfl, ?_⟩
    refine hK.out _ _ ⟨(pw_cell_below HB.out hw107_0), (pw_cell_below HB.out hw107_1), (pw_cell_below HB.out hw107_2), (pw_cell_below HB.out hw108_0), (pw_cell_below HB.out hw108_1), (pw_cell_below HB.out hw108_2), (pw_cell_below HB.out hw111_0)⟩ (fun hHeld => ?_)
    clear hK K
    refine norm_ (a' := ?_) ?_ ?_
    rotate_left
    ·show Act.put _ (some 78) _ = _
     simp only [Act.put, List.setIfInBounds_toArray, List.set_cons_zero, List.set_cons_succ, i64_w, i32_w]
     rfl
    refine pr_ 36 (some 79) (mkB 39 137438953471) HT_ ?_
    refine pr_ 37 (some 80) (mkB 39 274877906943) HT_ ?_
    refine pr_ 38 (some 81) (mkB 39 549755813887) HT_ ?_
    refine done_ (done_of HT_.out (by kernel_rfl)) ?_
    try go_wp2
    go_ret2
    exact ⟨by first | rfl | (simp [errW_none, errW_some] <;> rfl) | (simp only [← hji20]; first | rfl | (simp [errW_none, errW_some] <;> rfl)) | (simp [*, errW_none, errW_some] <;> rfl), by repeat (first | (with_reducible first | exact HB.out | apply below_alloc | apply pw_below_drewN | apply below_drew1) | exact HB.out)⟩
   subst c25
   have H1 : (wire_Fits.l0 k1 l0 l3 t101 l3 (l3.length : Int) (wrap64 (x38_1 + 1))) = some (r1, r2) := by rw [if_pos rfl] at H; exact H
   clear H
   have H := H1
   clear H1
   have H' := A_ H
   clear H
   have p106 : 0 ≤ (x38_1 : Int) := of_decide_eq_true (by first | (with_reducible assumption) | assumption)
   have q106 : x38_1 < (l3.length : Int) := of_decide_eq_true (by first | (with_reducible assumption) | assumption)
   obtain ⟨ad106, e106, hx106_0⟩ := Kd.at_int HR3.out x38_1 p106 q106
   cases e106
   replace hx106_0 := (HB.out.cell (World.block_lt_of_cell? w _ hx106_0)).trans hx106_0
   replace p106 := eq_true p106
   replace q106 := eq_true q106
   try go_wp2
   have n0_ := A_ (Kd.R_drew HO_10.out)
   have n1_ := A_ (below_drew1 HB.out)
   clear HO_10
   clear HB
   have HO_10 := n0_
   have HB := n1_
   clear n0_ n1_
   have p107 : 0 ≤ (x38_1 : Int) := of_decide_eq_true (by first | (with_reducible assumption) | assumption)
   have q107 : x38_1 < (l0.length : Int) := of_decide_eq_true (by first | (with_reducible assumption) | assumption)
   obtain ⟨ad107, e107, hx107_0, hx107_1, hx107_2⟩ := at_T72 HR0.out x38_1 p107 q107
   have hw107_2 := hx107_2
   have hw107_1 := hx107_1
   have hw107_0 := hx107_0
   cases e107
   replace hx107_0 := (HB.out.cell (World.block_lt_of_cell? w _ hx107_0)).trans hx107_0
   replace hx107_1 := (HB.out.cell (World.block_lt_of_cell? w _ hx107_1)).trans hx107_1
   replace hx107_2 := (HB.out.cell (World.block_lt_of_cell? w _ hx107_2)).trans hx107_2
   replace p107 := eq_true p107
   replace q107 := eq_true q107
   have p108 : 0 ≤ (x38_1 : Int) := of_decide_eq_true (by first | (with_reducible assumption) | assumption)
   have q108 : x38_1 < (l0.length : Int) := of_decide_eq_true (by first | (with_reducible assumption) | assumption)
   obtain ⟨ad108, e108, hx108_0, hx108_1, hx108_2⟩ := at_T72 HR0.out x38_1 p108 q108
   have hw108_2 := hx108_2
   have hw108_1 := hx108_1
   have hw108_0 := hx108_0
   obtain rfl : ad107 = ad108 := (by injection e108)
   replace hx108_0 := (HB.out.cell (World.block_lt_of_cell? w _ hx108_0)).trans hx108_0
   replace hx108_1 := (HB.out.cell (World.block_lt_of_cell? w _ hx108_1)).trans hx108_1
   replace hx108_2 := (HB.out.cell (World.block_lt_of_cell? w _ hx108_2)).trans hx108_2
   replace p108 := eq_true p108
   replace q108 := eq_true q108
   have p111 : 0 ≤ ((ji20) : Int) := of_decide_eq_true (by first | (with_reducible assumption) | assumption)
   have q111 : (ji20) < (l3.length : Int) := of_decide_eq_true (by first | (with_reducible assumption) | assumption)
   obtain ⟨ad111, e111, hx111_0⟩ := Kd.at_int HR3.out (ji20) p111 q111
   have hw111_0 := hx111_0
   obtain rfl : ad106 = ad111 := (by injection e111)
   replace hx111_0 := (HB.out.cell (World.block_lt_of_cell? w _ hx111_0)).trans hx111_0
   replace p111 := eq_true p111
   replace q111 := eq_true q111
   refine start_ (n := 39) (S := fun w' => w'.cell? (ad107.add ((x38_1).toNat * 3)) = some (.int .i64 ((rd_T72 l0 x38_1).f0)) ∧ w'.cell? ⟨(ad107.add ((x38_1).toNat * 3)).block, (ad107.add ((x38_1).toNat * 3)).off + 1, none⟩ = some (.int .i64 ((rd_T72 l0 x38_1).f1)) ∧ w'.cell? ⟨(ad107.add ((x38_1).toNat * 3)).block, (ad107.add ((x38_1).toNat * 3)).off + 2, none⟩ = some (.int .i64 ((rd_T72 l0 x38_1).f2)) ∧ w'.cell? (ad107.add ((x38_1).toNat * 3)) = some (.int .i64 ((rd_T72 l0 x38_1).f0)) ∧ w'.cell? ⟨(ad107.add ((x38_1).toNat * 3)).block, (ad107.add ((x38_1).toNat * 3)).off + 1, none⟩ = some (.int .i64 ((rd_T72 l0 x38_1).f1)) ∧ w'.cell? ⟨(ad107.add ((x38_1).toNat * 3)).block, (ad107.add ((x38_1).toNat * 3)).off + 2, none⟩ = some (.int .i64 ((rd_T72 l0 x38_1).f2)) ∧ w'.cell? (ad106.add ((ji20)).toNat) = some (.int .i64 (rd l3 (ji20)))) (ds := []) (mkB 39 0) (by kernel_rfl) rfl rfl ⟨(pw_cell_below HB.out hw107_0), (pw_cell_below HB.out hw107_1), (pw_cell_below HB.out hw107_2), (pw_cell_below HB.out hw108_0), (pw_cell_below HB.out hw108_1), (pw_cell_below HB.out hw108_2), (pw_cell_below HB.out hw111_0)⟩ (fun hHeld => ?_); refine with_tabW wire_Fits.tab9 wire_Fits.bits9 (fun HT_ HW_ => ?_)
   generalize wr.drew = w26 at HO_10 HB hx107_0 hx107_1 hx107_2 hx108_0 hx108_1 hx108_2 hx111_0 hHeld ⊢
   refine pr_ 0 (some 43) (mkB 39 1) HT_ ?_
   refine pr_ 1 (some 44) (mkB 39 3) HT_ ?_
   refine pr_ 2 (some 45) (mkB 39 7) HT_ ?_
   refine pr_ 3 (some 46) (mkB 39 15) HT_ ?_
   refine pr_ 5 (some 48) (mkB 39 47) HT_ ?_
   refine pr_ 6 (some 49) (mkB 39 111) HT_ ?_
   refine pr_ 7 (some 50) (mkB 39 239) HT_ ?_
   refine pr_ 8 (some 51) (mkB 39 495) HT_ ?_
   refine pr_ 9 (some 52) (mkB 39 1007) HT_ ?_
   refine take_ (i := 4) (N := some 47) (v := ?_) (a' := ?_) (mkB 39 1023) rfl rfl (take_ofW HT_.out HW_.out (by kernel_rfl)) (fun _ _ _ h => h) (Or.inl ⟨by rfl, ?_⟩) hHeld ?_ ?_
   rotate_left
   ·rintro w' ⟨s0, s1, s2, s3, s4, s5, s6⟩
    go_simp
    with_reducible rfl
   rotate_left
   ·simp only [Act.put, List.setIfInBounds_toArray, List.set_cons_zero, List.set_cons_succ, i64_w, i32_w]
    rfl
   refine take_ (i := 10) (N := some 53) (v := ?_) (a' := ?_) (mkB 39 2047) rfl rfl (take_ofW HT_.out HW_.out (by kernel_rfl)) (fun _ _ _ h => h) (Or.inl ⟨by rfl, ?_⟩) hHeld ?_ ?_
   rotate_left
   ·rintro w' ⟨s0, s1, s2, s3, s4, s5, s6⟩
    go_simp
    with_reducible rfl
   rotate_left
   ·simp only [Act.put, List.setIfInBounds_toArray, List.set_cons_zero, List.set_cons_succ, i64_w, i32_w]
    rfl
   refine one_ (i := 11) (N := some 54) (mkB 39 4095) rfl rfl (one_of HT_.out (by kernel_rfl)) (by decide) (fun K hK => ?_)
   refine goes_ Try.func56 (by kernel_rfl) rfl #[.int .i64 ((rd_T72 l0 x38_1).f1), .int .i64 (rd l3 x38_1), .int .i64 ((rd_T72 l0 x38_1).f2)] (by rfl) rfl rfl (by (try simp only [List.map_toArray, List.map_cons, List.map_nil]); first | done | rfl | (simp only [List.length_drop, List.length_take]; rfl)) ?_
   with_reducible refine (wire_within.calls ((rd_T72 l0 x38_1).f1) (rd l3 x38_1) ((rd_T72 l0 x38_1).f2) true _ A16.out).mono ?_
   rintro e w' ⟨rfl, ⟨nd, rfl⟩⟩
   refine ⟨_, rfl, ?_⟩
   obtain ⟨Ao27, co27, eo27⟩ := Kd.R_slice HO_10.out
   (first | subst eo27 | (injection eo27 with f1_ f2_ f3_; have f4_ := f1_.symm; have f5_ := f3_.symm; clear f1_ f2_ f3_; subst f4_; subst f5_))
   refine hK.out _ _ ⟨(pw_cell_below HB.out hw107_0), (pw_cell_below HB.out hw107_1), (pw_cell_below HB.out hw107_2), (pw_cell_below HB.out hw108_0), (pw_cell_below HB.out hw108_1), (pw_cell_below HB.out hw108_2), (pw_cell_below HB.out hw111_0)⟩ (fun hHeld => ?_)
   clear hK K
   refine norm_ (a' := ?_) ?_ ?_
   rotate_left
   ·show Act.put _ (some 54) _ = _
    simp only [Act.put, List.setIfInBounds_toArray, List.set_cons_zero, List.set_cons_succ, i64_w, i32_w]
    rfl
   refine pr_ 12 (some 55) (mkB 39 8191) HT_ ?_
   refine pr_ 13 (some 56) (mkB 39 16383) HT_ ?_
   refine pr_ 14 (some 57) (mkB 39 32767) HT_ ?_
   refine pr_ 15 (some 58) (mkB 39 65535) HT_ ?_
   refine pr_ 16 (some 59) (mkB 39 131071) HT_ ?_
   refine pr_ 17 (some 60) (mkB 39 262143) HT_ ?_
   refine pr_ 18 (some 61) (mkB 39 524287) HT_ ?_
   refine pr_ 19 (some 62) (mkB 39 1048575) HT_ ?_
   refine pr_ 20 (some 63) (mkB 39 2097151) HT_ ?_
   refine pr_ 23 (some 66) (mkB 39 10485759) HT_ ?_
   refine pr_ 24 (some 67) (mkB 39 27262975) HT_ ?_
   refine pr_ 25 (some 68) (mkB 39 60817407) HT_ ?_
   refine pr_ 26 (some 69) (mkB 39 127926271) HT_ ?_
   refine pr_ 27 (some 70) (mkB 39 262143999) HT_ ?_
   refine pr_ 30 (some 73) (mkB 39 1335885823) HT_ ?_
   refine pr_ 31 (some 74) (mkB 39 3483369471) HT_ ?_
   refine pr_ 32 (some 75) (mkB 39 7778336767) HT_ ?_
   refine pr_ 33 (some 76) (mkB 39 16368271359) HT_ ?_
   refine take_ (i := 28) (N := some 71) (v := ?_) (a' := ?_) (mkB 39 16636706815) rfl rfl (take_ofW HT_.out HW_.out (by kernel_rfl)) (fun _ _ _ h => h) (Or.inl ⟨by rfl, ?_⟩) hHeld ?_ ?_
   rotate_left
   ·rintro w' ⟨s0, s1, s2, s3, s4, s5, s6⟩
    go_simp
    with_reducible rfl
   rotate_left
   ·simp only [Act.put, List.setIfInBounds_toArray, List.set_cons_zero, List.set_cons_succ, i64_w, i32_w]
    rfl
   refine pr_ 29 (some 72) (mkB 39 17173577727) HT_ ?_
   refine one_ (i := 21) (N := some 64) (mkB 39 17175674879) rfl rfl (one_of HT_.out (by kernel_rfl)) (by decide) (fun K hK => ?_)
   refine goes_ Try.func53 (by kernel_rfl) rfl #[.slice Ao27 t101.length co27, .int .i64 x38_1, .int .i64 ji20] (by rfl) rfl rfl (by (try simp only [List.map_toArray, List.map_cons, List.map_nil]); first | done | (simp only [hji20]; rfl) | rfl | (simp only [List.length_drop, List.length_take]; rfl)) ?_
   with_reducible refine (wire_places_to.calls _ _ t101 x38_1 ji20 t110 _ ?side1 ?side2 A19.out).mono ?_
   (case side1 => exact cU (Kd.R_reads' HO_10.out).2.2)
   (case side2 => exact (Kd.R_reads' HO_10.out).2.1)
   rintro e w28 ⟨rfl, hb⟩
   refine ⟨_, rfl, ?_⟩
   have n0_ := A_ (Kd.R_below (rU HO_10.out) hb)
   have n1_ := A_ (below_step (bW0 HB.out) hb)
   clear HO_10
   clear HB
   have HO_10 := n0_
   have HB := n1_
   clear n0_ n1_
   (try clear hb)
   (try clear hb2)
   (try clear hk)
   (try clear hi)
   refine hK.out _ _ ⟨(pw_cell_below HB.out hw107_0), (pw_cell_below HB.out hw107_1), (pw_cell_below HB.out hw107_2), (pw_cell_below HB.out hw108_0), (pw_cell_below HB.out hw108_1), (pw_cell_below HB.out hw108_2), (pw_cell_below HB.out hw111_0)⟩ (fun hHeld => ?_)
   clear hK K
   refine norm_ (a' := ?_) ?_ ?_
   rotate_left
   ·show Act.put _ (some 64) _ = _
    simp only [Act.put, List.setIfInBounds_toArray, List.set_cons_zero, List.set_cons_succ, i64_w, i32_w]
    rfl
   refine pr_ 22 (some 65) (mkB 39 17179869183) HT_ ?_
   refine one_ (i := 34) (N := some 77) (mkB 39 34359738367) rfl rfl (one_of HT_.out (by kernel_rfl)) (by decide) (fun K hK => ?_)
   refine goes_ Try.func53 (by kernel_rfl) rfl #[.slice Ao27 t101.length co27, .int .i64 x38_1, .int .i64 ji20] (by rfl) rfl rfl (by (try simp only [List.map_toArray, List.map_cons, List.map_nil]); first | done | (simp only [hji20]; rfl) | rfl | (simp only [List.length_drop, List.length_take]; rfl)) ?_
   with_reducible refine (wire_places_to.calls _ _ t101 x38_1 ji20 t112 _ ?side1 ?side2 A23.out).mono ?_
   (case side1 => exact cU (Kd.R_reads' HO_10.out).2.2)
   (case side2 => exact (Kd.R_reads' HO_10.out).2.1)
   rintro e w29 ⟨rfl, hb⟩
   refine ⟨_, rfl, ?_⟩
   have n0_ := A_ (Kd.R_below (rU HO_10.out) hb)
   have n1_ := A_ (below_step (bW0 HB.out) hb)
   clear HO_10
   clear HB
   have HO_10 := n0_
   have HB := n1_
   clear n0_ n1_
   (try clear hb)
   (try clear hb2)
   (try clear hk)
   (try clear hi)
   refine hK.out _ _ ⟨(pw_cell_below HB.out hw107_0), (pw_cell_below HB.out hw107_1), (pw_cell_below HB.out hw107_2), (pw_cell_below HB.out hw108_0), (pw_cell_below HB.out hw108_1), (pw_cell_below HB.out hw108_2), (pw_cell_below HB.out hw111_0)⟩ (fun hHeld => ?_)
   clear hK K
   refine norm_ (a' := ?_) ?_ ?_
   rotate_left
   ·show Act.put _ (some 77) _ = _
    simp only [Act.put, List.setIfInBounds_toArray, List.set_cons_zero, List.set_cons_succ, i64_w, i32_w]
    rfl
   refine one_ (i := 35) (N := some 78) (mkB 39 68719476735) rfl rfl (one_of HT_.out (by kernel_rfl)) (by decide) (fun K hK => ?_)
   refine goes_ Try.func56 (by kernel_rfl) rfl #[.int .i64 (wrap64 (-t110)), .int .i64 (wrap64 ((rd l3 x38_1) - (rd l3 (ji20)))), .int .i64 t112] (by rfl) rfl rfl (by (try simp only [List.map_toArray, List.map_cons, List.map_nil]); first | done | (simp only [hji20]; rfl) | rfl | (simp only [List.length_drop, List.length_take]; rfl)) ?_
   with_reducible refine (wire_within.calls (wrap64 (-t110)) (wrap64 ((rd l3 x38_1) - (rd l3 (ji20)))) t112 true _ A24.out).mono ?_
   rintro e w' ⟨rfl, ⟨nd, rfl⟩⟩
   refine ⟨_, rfl, ?_⟩
   refine hK.out _ _ ⟨(pw_cell_below HB.out hw107_0), (pw_cell_below HB.out hw107_1), (pw_cell_below HB.out hw107_2), (pw_cell_below HB.out hw108_0), (pw_cell_below HB.out hw108_1), (pw_cell_below HB.out hw108_2), (pw_cell_below HB.out hw111_0)⟩ (fun hHeld => ?_)
   clear hK K
   refine norm_ (a' := ?_) ?_ ?_
   rotate_left
   ·show Act.put _ (some 78) _ = _
    simp only [Act.put, List.setIfInBounds_toArray, List.set_cons_zero, List.set_cons_succ, i64_w, i32_w]
    rfl
   refine pr_ 36 (some 79) (mkB 39 137438953471) HT_ ?_
   refine pr_ 37 (some 80) (mkB 39 274877906943) HT_ ?_
   refine pr_ 38 (some 81) (mkB 39 549755813887) HT_ ?_
   refine done_ (done_of HT_.out (by kernel_rfl)) ?_
   try go_wp2
   go_roundg k1
   case measure => have := HK1.out; omega
   case rel => exact ⟨(wrap64 (x38_1 + 1)), (by first | rfl | (simp; done) | (simp [*]; done)), H', ⟨by have := HK1.out; omega⟩, ⟨rU HO_10.out⟩, ⟨by repeat (first | (with_reducible first | exact HB.out | apply below_alloc | apply pw_below_drewN | apply below_drew1) | exact HB.out)⟩⟩
end Go.Proofs.Ytciepmpadcpkbaa.G
