-- Written by this session's driver (wip/tools/printmore.py) over the kit's print, with hand-written parts.
import Derived.Test.YtciepmpadcpkbaaGBase
import Derived.Test.YtciepmpadcpkbaaGF50
import Derived.Test.YtciepmpadcpkbaaGF58
import Derived.Test.YtciepmpadcpkbaaGF59
import Derived.Test.YtciepmpadcpkbaaGF60
namespace Go.Proofs.Ytciepmpadcpkbaa.G
open Go.RowKit Go.Proofs.YtciepmpadcpkbaaW.PrintWords Go.Proofs.YtciepmpadcpkbaaW.PrintLast Go.Proofs.YtciepmpadcpkbaaW.PrintMore
attribute [local go_sem] max2_int min2_int max_two min_two max_three min_three max_four min_four   -- for this text's walks alone
set_option linter.unusedVariables false
set_option linter.unusedSimpArgs false

/-! ### wire_Lowest: function 21 -/
def wire_Lowest.f (k : Nat) (l0 : List (S72)) (a1 : Int) (a2 : Int) : Option (List Int × Int) := (wire_asked.f k l0 a1 a2).bind fun bt101 => (if bt101.2 = 0 then ((wire_lows.f k l0).bind fun t105 => ((wire_places_lowest.f k bt101.1 t105).bind fun t108 => ((wire_under.f k l0 t108).bind fun t111 => (if t111 = true then (some (t108, 0)) else (some (([] : List Int), 5)))))) else (some (([] : List Int), bt101.2)))
theorem wire_Lowest.mono : ∀ a0 a1 a2 k, LeO (wire_Lowest.f k a0 a1 a2) (wire_Lowest.f (k + 1) a0 a1 a2) := by
 intro a0 a1 a2 k
 unfold wire_Lowest.f
 repeat' first
   | (with_reducible exact wire_asked.mono _ _ _ _)
   | (with_reducible exact wire_lows.mono _ _)
   | (with_reducible exact wire_places_lowest.mono _ _ _)
   | (with_reducible exact wire_under.mono _ _ _)
   | (with_reducible exact LeO.refl _)
   | (with_reducible exact LeO.none _)
   | (with_reducible refine LeO.ite ?_ ?_)
   | (with_reducible refine LeO.bind ?_ (fun _ => ?_))
   | exact wire_asked.mono _ _ _ _
   | exact wire_lows.mono _ _
   | exact wire_places_lowest.mono _ _ _
   | exact wire_under.mono _ _ _
   | exact LeO.none _
   | refine LeO.ite ?_ ?_
   | refine LeO.bind ?_ (fun _ => ?_)
set_option maxHeartbeats 8000000 in
set_option maxRecDepth 100000 in
theorem wire_Lowest.calls (k : Nat) (A0 : Option Addr) (c0 : Nat) (l0 : List (S72)) (a1 : Int) (a2 : Int) (r1 : List Int) (r2 : Int) (w : World) (hr0 : Kd.C k72 w A0 l0.length l0) (hc0 : l0.length ≤ c0) (h : wire_Lowest.f k l0 a1 a2 = some (r1, r2)) :
  Calls Try.prog 21 #[.slice A0 l0.length c0, .int .i64 a1, .int .i64 a2] w fun e w' => ∃ v0_ : Value, e = .returned (.tuple #[v0_, .int .i64 r2]) ∧ Kd.R (Kd.int .i64) 3 w' w.heap.size (fun _ => True) v0_ r1 ∧ Below w.heap.size w w' := by
 have HR0 := A_ hr0
 have HC0 := A_ hc0
 clear hr0 hc0
 have HB := A_ (Below.refl w.heap.size w)
 have H : ((wire_asked.f k l0 a1 a2).bind fun bt101 => (if bt101.2 = 0 then ((wire_lows.f k l0).bind fun t105 => ((wire_places_lowest.f k bt101.1 t105).bind fun t108 => ((wire_under.f k l0 t108).bind fun t111 => (if t111 = true then (some (t108, 0)) else (some (([] : List Int), 5)))))) else (some (([] : List Int), bt101.2)))) = some (r1, r2) := h
 clear h
 replace H := Option.bind_eq_some_iff.mp H
 obtain ⟨⟨t101, t102⟩, A40, H⟩ := H
 replace H : (if t102 = 0 then ((wire_lows.f k l0).bind fun t105 => ((wire_places_lowest.f k t101 t105).bind fun t108 => ((wire_under.f k l0 t108).bind fun t111 => (if t111 = true then (some (t108, 0)) else (some (([] : List Int), 5)))))) else (some (([] : List Int), t102))) = some (r1, r2) := H
 have A4 := A_ A40
 clear A40
 by_cases c5 : t102 = 0
 rotate_left
 ·rw [if_neg c5] at H
  have c5b0 : (t102 == 0) = false := beq_eq_false_iff_ne.mpr c5
  have c5b1 : (t102 != 0) = true := bne_iff_ne.mpr c5
  simp only [Option.some.injEq, Prod.mk.injEq] at H
  obtain ⟨rfl, rfl⟩ := H
  go_enter Try.func21, Try.ntmps21
  go_wp2_with (first | ((with_reducible refine gate_callee (f := 50) rfl ?_); refine goesL_ (some 15) rfl rfl Try.func50 (by kernel_rfl) rfl #[.slice A0 l0.length c0, .int .i64 a1, .int .i64 a2] rfl (by (try simp only [List.map_toArray, List.map_cons, List.map_nil]); first | done | rfl | (simp only [List.length_drop, List.length_take]; rfl)) ?_; (with_reducible refine (wire_asked.calls k _ _ l0 a1 a2 t101 t102 _ ?side1 ?side2 A4.out).mono ?_); (case side1 => exact cU HR0.out); (case side2 => exact HC0.out); rintro e w22 ⟨v103, rfl, ho0, hb⟩; refine ⟨_, rfl, ?_⟩; have n0_ := A_ (Kd.R_lower ho0 (below_size (bW0 HB.out))); have n1_ := A_ (below_step (bW0 HB.out) hb); clear HB; have HO104 := n0_; have HB := n1_; clear n0_ n1_; (try clear hb); (try clear hb2); (try clear hk); (try clear hi); (try clear ho0)))
  go_ret2
  exact ⟨_, by first | rfl | (simp [errW_none, errW_some] <;> rfl) | (simp [*, errW_none, errW_some] <;> rfl), by first | exact Kd.R_nil _ _ _ _ _ | exact Kd.N_nil _ _ _ _ _ | exact Kd.V_nil _ _ _ _ _ | exact Kd.Q_nil _ _ _ _ _ | exact Kd.S_nil _ _ _ _ _, by repeat (first | (with_reducible first | exact HB.out | apply below_alloc | apply pw_below_drewN | apply below_drew1) | exact HB.out)⟩

 rw [if_pos c5] at H
 have c5b0 : (t102 == 0) = true := beq_iff_eq.mpr c5
 have c5b1 : (t102 != 0) = false := bne_eq_false_iff_eq.mpr c5
 clear c5
 replace H := Option.bind_eq_some_iff.mp H
 obtain ⟨t105, A60, H⟩ := H
 replace H : ((wire_places_lowest.f k t101 t105).bind fun t108 => ((wire_under.f k l0 t108).bind fun t111 => (if t111 = true then (some (t108, 0)) else (some (([] : List Int), 5))))) = some (r1, r2) := H
 have A6 := A_ A60
 clear A60
 replace H := Option.bind_eq_some_iff.mp H
 obtain ⟨t108, A70, H⟩ := H
 replace H : ((wire_under.f k l0 t108).bind fun t111 => (if t111 = true then (some (t108, 0)) else (some (([] : List Int), 5)))) = some (r1, r2) := H
 have A7 := A_ A70
 clear A70
 replace H := Option.bind_eq_some_iff.mp H
 obtain ⟨t111, A80, H⟩ := H
 replace H : (if t111 = true then (some (t108, 0)) else (some (([] : List Int), 5))) = some (r1, r2) := H
 have A8 := A_ A80
 clear A80
 by_cases c9 : t111 = true
 ·subst c9
  have H1 : (some (t108, 0)) = some (r1, r2) := by rw [if_pos rfl] at H; exact H
  clear H
  have H := H1
  clear H1
  simp only [Option.some.injEq, Prod.mk.injEq] at H
  obtain ⟨rfl, rfl⟩ := H
  go_enter Try.func21, Try.ntmps21
  go_wp2_with (first | ((with_reducible refine gate_callee (f := 50) rfl ?_); refine goesL_ (some 15) rfl rfl Try.func50 (by kernel_rfl) rfl #[.slice A0 l0.length c0, .int .i64 a1, .int .i64 a2] rfl (by (try simp only [List.map_toArray, List.map_cons, List.map_nil]); first | done | rfl | (simp only [List.length_drop, List.length_take]; rfl)) ?_; (with_reducible refine (wire_asked.calls k _ _ l0 a1 a2 t101 t102 _ ?side1 ?side2 A4.out).mono ?_); (case side1 => exact cU HR0.out); (case side2 => exact HC0.out); rintro e w10 ⟨v103, rfl, ho0, hb⟩; refine ⟨_, rfl, ?_⟩; have n0_ := A_ (Kd.R_lower ho0 (below_size (bW0 HB.out))); have n1_ := A_ (below_step (bW0 HB.out) hb); clear HB; have HO104 := n0_; have HB := n1_; clear n0_ n1_; (try clear hb); (try clear hb2); (try clear hk); (try clear hi); (try clear ho0)) | ((with_reducible refine gate_callee (f := 59) rfl ?_); refine goesL_ (some 23) rfl rfl Try.func59 (by kernel_rfl) rfl #[.slice A0 l0.length c0] rfl (by (try simp only [List.map_toArray, List.map_cons, List.map_nil]); first | done | rfl | (simp only [List.length_drop, List.length_take]; rfl)) ?_; (with_reducible refine (wire_lows.calls k _ _ l0 t105 _ ?side1 ?side2 A6.out).mono ?_); (case side1 => exact cU (Kd.C_below HR0.out HB.out)); (case side2 => exact HC0.out); rintro e w11 ⟨v106, rfl, ho0, hb⟩; refine ⟨_, rfl, ?_⟩; have n0_ := A_ (Kd.R_elder' (rU HO104.out) (Kd.R_base ho0) hb); have n1_ := A_ (Kd.R_lower (Kd.R_new' ho0 (Kd.R_lt (rU HO104.out))) (below_size (bW0 HB.out))); have n2_ := A_ (below_step (bW0 HB.out) hb); clear HO104; clear HB; have HO104 := n0_; have HO107 := n1_; have HB := n2_; clear n0_ n1_ n2_; (try clear hb); (try clear hb2); (try clear hk); (try clear hi); (try clear ho0); obtain ⟨Ao12, co12, eo12⟩ := Kd.R_slice HO104.out; subst eo12; obtain ⟨Ao13, co13, eo13⟩ := Kd.R_slice HO107.out; subst eo13) | ((with_reducible refine gate_callee (f := 58) rfl ?_); refine goesL_ (some 24) rfl rfl Try.func58 (by kernel_rfl) rfl #[.slice Ao12 t101.length co12, .slice Ao13 t105.length co13] rfl (by (try simp only [List.map_toArray, List.map_cons, List.map_nil]); first | done | rfl | (simp only [List.length_drop, List.length_take]; rfl)) ?_; (with_reducible refine (wire_places_lowest.calls k _ _ t101 _ _ t105 t108 _ ?side1 ?side2 ?side3 ?side4 A7.out).mono ?_); (case side1 => exact cU (Kd.R_reads' HO104.out).2.2); (case side2 => exact (Kd.R_reads' HO104.out).2.1); (case side3 => exact cU (Kd.R_reads' HO107.out).2.2); (case side4 => exact (Kd.R_reads' HO107.out).2.1); rintro e w14 ⟨v109, rfl, ho0, hb⟩; refine ⟨_, rfl, ?_⟩; have n0_ := A_ (Kd.R_elder' (rU HO104.out) (Kd.R_base ho0) hb); have n1_ := A_ (Kd.R_elder' (rU HO107.out) (Kd.R_base ho0) hb); have n2_ := A_ (Kd.R_lower (Kd.R_new' (Kd.R_new' ho0 (Kd.R_lt (rU HO104.out))) (Kd.R_lt (rU HO107.out))) (below_size (bW0 HB.out))); have n3_ := A_ (below_step (bW0 HB.out) hb); clear HO104; clear HO107; clear HB; have HO104 := n0_; have HO107 := n1_; have HO110 := n2_; have HB := n3_; clear n0_ n1_ n2_ n3_; (try clear hb); (try clear hb2); (try clear hk); (try clear hi); (try clear ho0); obtain ⟨Ao15, co15, eo15⟩ := Kd.R_slice HO110.out; subst eo15) | ((with_reducible refine gate_callee (f := 60) rfl ?_); refine goesL_ (some 27) rfl rfl Try.func60 (by kernel_rfl) rfl #[.slice A0 l0.length c0, .slice Ao15 t108.length co15] rfl (by (try simp only [List.map_toArray, List.map_cons, List.map_nil]); first | done | rfl | (simp only [List.length_drop, List.length_take]; rfl)) ?_; (with_reducible refine (wire_under.calls k _ _ l0 _ _ t108 true _ ?side1 ?side2 ?side3 ?side4 A8.out).mono ?_); (case side1 => exact cU (Kd.C_below HR0.out HB.out)); (case side2 => exact HC0.out); (case side3 => exact cU (Kd.R_reads' HO110.out).2.2); (case side4 => exact (Kd.R_reads' HO110.out).2.1); rintro e w' ⟨rfl, ⟨nd, rfl⟩⟩; refine ⟨_, rfl, ?_⟩))
  go_ret2
  exact ⟨_, by first | rfl | (simp [errW_none, errW_some] <;> rfl) | (simp [*, errW_none, errW_some] <;> rfl), by (with_reducible repeat (first | apply Kd.R_alloc | apply Kd.R_drewN | apply Kd.R_drew)); exact Kd.R_mono HO110.out (fun _ hk => trivial), by repeat (first | (with_reducible first | exact HB.out | apply below_alloc | apply pw_below_drewN | apply below_drew1) | exact HB.out)⟩
 replace c9 := Bool.eq_false_iff.mpr c9
 subst c9
 have H1 : (some (([] : List Int), 5)) = some (r1, r2) := by rw [if_neg (show ¬ (false = true) by decide)] at H; exact H
 clear H
 have H := H1
 clear H1
 simp only [Option.some.injEq, Prod.mk.injEq] at H
 obtain ⟨rfl, rfl⟩ := H
 go_enter Try.func21, Try.ntmps21
 go_wp2_with (first | ((with_reducible refine gate_callee (f := 50) rfl ?_); refine goesL_ (some 15) rfl rfl Try.func50 (by kernel_rfl) rfl #[.slice A0 l0.length c0, .int .i64 a1, .int .i64 a2] rfl (by (try simp only [List.map_toArray, List.map_cons, List.map_nil]); first | done | rfl | (simp only [List.length_drop, List.length_take]; rfl)) ?_; (with_reducible refine (wire_asked.calls k _ _ l0 a1 a2 t101 t102 _ ?side1 ?side2 A4.out).mono ?_); (case side1 => exact cU HR0.out); (case side2 => exact HC0.out); rintro e w16 ⟨v103, rfl, ho0, hb⟩; refine ⟨_, rfl, ?_⟩; have n0_ := A_ (Kd.R_lower ho0 (below_size (bW0 HB.out))); have n1_ := A_ (below_step (bW0 HB.out) hb); clear HB; have HO104 := n0_; have HB := n1_; clear n0_ n1_; (try clear hb); (try clear hb2); (try clear hk); (try clear hi); (try clear ho0)) | ((with_reducible refine gate_callee (f := 59) rfl ?_); refine goesL_ (some 23) rfl rfl Try.func59 (by kernel_rfl) rfl #[.slice A0 l0.length c0] rfl (by (try simp only [List.map_toArray, List.map_cons, List.map_nil]); first | done | rfl | (simp only [List.length_drop, List.length_take]; rfl)) ?_; (with_reducible refine (wire_lows.calls k _ _ l0 t105 _ ?side1 ?side2 A6.out).mono ?_); (case side1 => exact cU (Kd.C_below HR0.out HB.out)); (case side2 => exact HC0.out); rintro e w17 ⟨v106, rfl, ho0, hb⟩; refine ⟨_, rfl, ?_⟩; have n0_ := A_ (Kd.R_elder' (rU HO104.out) (Kd.R_base ho0) hb); have n1_ := A_ (Kd.R_lower (Kd.R_new' ho0 (Kd.R_lt (rU HO104.out))) (below_size (bW0 HB.out))); have n2_ := A_ (below_step (bW0 HB.out) hb); clear HO104; clear HB; have HO104 := n0_; have HO107 := n1_; have HB := n2_; clear n0_ n1_ n2_; (try clear hb); (try clear hb2); (try clear hk); (try clear hi); (try clear ho0); obtain ⟨Ao18, co18, eo18⟩ := Kd.R_slice HO104.out; subst eo18; obtain ⟨Ao19, co19, eo19⟩ := Kd.R_slice HO107.out; subst eo19) | ((with_reducible refine gate_callee (f := 58) rfl ?_); refine goesL_ (some 24) rfl rfl Try.func58 (by kernel_rfl) rfl #[.slice Ao18 t101.length co18, .slice Ao19 t105.length co19] rfl (by (try simp only [List.map_toArray, List.map_cons, List.map_nil]); first | done | rfl | (simp only [List.length_drop, List.length_take]; rfl)) ?_; (with_reducible refine (wire_places_lowest.calls k _ _ t101 _ _ t105 t108 _ ?side1 ?side2 ?side3 ?side4 A7.out).mono ?_); (case side1 => exact cU (Kd.R_reads' HO104.out).2.2); (case side2 => exact (Kd.R_reads' HO104.out).2.1); (case side3 => exact cU (Kd.R_reads' HO107.out).2.2); (case side4 => exact (Kd.R_reads' HO107.out).2.1); rintro e w20 ⟨v109, rfl, ho0, hb⟩; refine ⟨_, rfl, ?_⟩; have n0_ := A_ (Kd.R_elder' (rU HO104.out) (Kd.R_base ho0) hb); have n1_ := A_ (Kd.R_elder' (rU HO107.out) (Kd.R_base ho0) hb); have n2_ := A_ (Kd.R_lower (Kd.R_new' (Kd.R_new' ho0 (Kd.R_lt (rU HO104.out))) (Kd.R_lt (rU HO107.out))) (below_size (bW0 HB.out))); have n3_ := A_ (below_step (bW0 HB.out) hb); clear HO104; clear HO107; clear HB; have HO104 := n0_; have HO107 := n1_; have HO110 := n2_; have HB := n3_; clear n0_ n1_ n2_ n3_; (try clear hb); (try clear hb2); (try clear hk); (try clear hi); (try clear ho0); obtain ⟨Ao21, co21, eo21⟩ := Kd.R_slice HO110.out; subst eo21) | ((with_reducible refine gate_callee (f := 60) rfl ?_); refine goesL_ (some 27) rfl rfl Try.func60 (by kernel_rfl) rfl #[.slice A0 l0.length c0, .slice Ao21 t108.length co21] rfl (by (try simp only [List.map_toArray, List.map_cons, List.map_nil]); first | done | rfl | (simp only [List.length_drop, List.length_take]; rfl)) ?_; (with_reducible refine (wire_under.calls k _ _ l0 _ _ t108 false _ ?side1 ?side2 ?side3 ?side4 A8.out).mono ?_); (case side1 => exact cU (Kd.C_below HR0.out HB.out)); (case side2 => exact HC0.out); (case side3 => exact cU (Kd.R_reads' HO110.out).2.2); (case side4 => exact (Kd.R_reads' HO110.out).2.1); rintro e w' ⟨rfl, ⟨nd, rfl⟩⟩; refine ⟨_, rfl, ?_⟩))
 go_ret2
 exact ⟨_, by first | rfl | (simp [errW_none, errW_some] <;> rfl) | (simp [*, errW_none, errW_some] <;> rfl), by first | exact Kd.R_nil _ _ _ _ _ | exact Kd.N_nil _ _ _ _ _ | exact Kd.V_nil _ _ _ _ _ | exact Kd.Q_nil _ _ _ _ _ | exact Kd.S_nil _ _ _ _ _, by repeat (first | (with_reducible first | exact HB.out | apply below_alloc | apply pw_below_drewN | apply below_drew1) | exact HB.out)⟩
end Go.Proofs.Ytciepmpadcpkbaa.G
