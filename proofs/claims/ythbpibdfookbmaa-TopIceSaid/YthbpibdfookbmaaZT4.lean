/- Functions of the seat and plain laws about them: GF43, GQ35, GF15, GF52, GF30, GF42, GF20. -/
import Derived.Test.YthbpibdfookbmaaGBase
import Derived.Test.YthbpibdfookbmaaZT0
import Derived.Test.YthbpibdfookbmaaZT2
import Derived.Test.YthbpibdfookbmaaZT3
section
namespace Go.Proofs.Ythbpibdfookbmaa.G
open Go.RowKit Go.Proofs.YthbpibdfookbmaaW.PrintWords Go.Proofs.YthbpibdfookbmaaW.PrintLast Go.Proofs.YthbpibdfookbmaaW.PrintMore
attribute [local go_sem] max2_int min2_int max_two min_two max_three min_three max_four min_four
set_option linter.unusedVariables false
set_option linter.unusedSimpArgs false
def ice_Lasts.l0 : Nat → List Bool → Int → List Int → List Int → Int → Option (Int × Int)
 | 0, _, _, _, _, _ => none
 | k + 1, x5, x6, x106000, x106001, x106002 => (ice_game_before.f k x106000 x106001 x106002 x5).bind fun bt110 => ((ice_game_first.f x106000 x106001 bt110.2).bind fun bt114 => (if 0 ≤ bt114.1 then (if bt114.1 < (bt110.1.length : Int) then (if rdOf false bt110.1 bt114.1 = true then ((slices_Equal_bool_bool.f k bt110.1 x5).bind fun t117 => (if t117 = true then (some (0, 5)) else (ice_Lasts.l0 k bt110.1 (wrap64 (x6 + 1)) x106000 x106001 bt114.2))) else (some (x6, 0))) else (none)) else (none)))
def ice_Lasts.f (k : Nat) (l0 : List Int) : Option (Int × Int) := (ice_Valid.f k l0).bind fun t101 => (if t101 = true then ((ice_gameOf.f k l0).bind fun bt102 => ((ice_game_all.f bt102.1 bt102.2.1 bt102.2.2).bind fun bt106 => (ice_Lasts.l0 k bt106.1 0 bt102.1 bt102.2.1 bt106.2))) else (some (0, 80)))
theorem ice_Lasts.mono_l : ∀ k, (∀ y0 y1 y2 y3 y4, LeO (ice_Lasts.l0 k y0 y1 y2 y3 y4) (ice_Lasts.l0 (k + 1) y0 y1 y2 y3 y4))
 | 0 => fun _ _ _ _ _ r h => by simp [ice_Lasts.l0] at h
 | k + 1 => by
  have ih0 := ice_Lasts.mono_l k
  ·intro y0 y1 y2 y3 y4
   unfold ice_Lasts.l0
   repeat' first
   | (with_reducible exact ih0 _ _ _ _ _)
   | (with_reducible exact ice_Valid.mono _ _)
   | (with_reducible exact ice_gameOf.mono _ _)
   | (with_reducible exact ice_game_before.mono _ _ _ _ _)
   | (with_reducible exact slices_Equal_bool_bool.mono _ _ _)
   | (with_reducible exact LeO.refl _)
   | (with_reducible exact LeO.none _)
   | (with_reducible refine LeO.ite ?_ ?_)
   | (with_reducible refine LeO.bind ?_ (fun _ => ?_))
   | exact ih0 _ _ _ _ _
   | exact ice_Valid.mono _ _
   | exact ice_gameOf.mono _ _
   | exact ice_game_before.mono _ _ _ _ _
   | exact slices_Equal_bool_bool.mono _ _ _
   | exact LeO.none _
   | refine LeO.ite ?_ ?_
   | refine LeO.bind ?_ (fun _ => ?_)
theorem ice_Lasts.mono : ∀ a0 k, LeO (ice_Lasts.f k a0) (ice_Lasts.f (k + 1) a0) := by
 intro a0 k
 have ih0 := ice_Lasts.mono_l k
 unfold ice_Lasts.f
 repeat' first
   | (with_reducible exact ih0 _ _ _ _ _)
   | (with_reducible exact ice_Valid.mono _ _)
   | (with_reducible exact ice_gameOf.mono _ _)
   | (with_reducible exact ice_game_before.mono _ _ _ _ _)
   | (with_reducible exact slices_Equal_bool_bool.mono _ _ _)
   | (with_reducible exact LeO.refl _)
   | (with_reducible exact LeO.none _)
   | (with_reducible refine LeO.ite ?_ ?_)
   | (with_reducible refine LeO.bind ?_ (fun _ => ?_))
   | exact ih0 _ _ _ _ _
   | exact ice_Valid.mono _ _
   | exact ice_gameOf.mono _ _
   | exact ice_game_before.mono _ _ _ _ _
   | exact slices_Equal_bool_bool.mono _ _ _
   | exact LeO.none _
   | refine LeO.ite ?_ ?_
   | refine LeO.bind ?_ (fun _ => ?_)
set_option maxHeartbeats 8000000 in
set_option maxRecDepth 100000 in
theorem ice_Lasts.calls (k : Nat) (A0 : Option Addr) (c0 : Nat) (l0 : List Int) (r1 : Int) (r2 : Int) (w : World) (hr0 : Kd.C (Kd.int .i64) w A0 l0.length l0) (hc0 : l0.length ≤ c0) (h : ice_Lasts.f k l0 = some (r1, r2)) :
  Calls Try.prog 43 #[.slice A0 l0.length c0] w fun e w' => e = .returned (.tuple #[.int .i64 r1, .int .i64 r2]) ∧ Below w.heap.size w w' := by
 have HR0 := A_ hr0; have HC0 := A_ hc0; clear hr0 hc0; have HB := A_ (Below.refl w.heap.size w); have HB00 := A_ (Below.refl w.heap.size w)
 have H : ((ice_Valid.f k l0).bind fun t101 => (if t101 = true then ((ice_gameOf.f k l0).bind fun bt102 => ((ice_game_all.f bt102.1 bt102.2.1 bt102.2.2).bind fun bt106 => (ice_Lasts.l0 k bt106.1 0 bt102.1 bt102.2.1 bt106.2))) else (some (0, 80)))) = some (r1, r2) := h
 clear h; replace H := Option.bind_eq_some_iff.mp H; obtain ⟨t101, A20, H⟩ := H; (try dsimp only at H); have A2 := A_ A20; clear A20; by_cases c3 : t101 = true; rotate_left
 ·replace c3 := Bool.eq_false_iff.mpr c3
  subst c3; rw [if_neg (show ¬ (false = true) by decide)] at H; simp only [Option.some.injEq, Prod.mk.injEq] at H; obtain ⟨rfl, rfl⟩ := H
  go_enter Try.func43, Try.ntmps43
  go_wp2_with (first | ((with_reducible refine gate_callee (f := 29) rfl ?_); refine goesW_ (some 9) Try.func29 #[.slice A0 l0.length c0] ?_; (with_reducible refine (ice_Valid.calls k _ _ l0 false _ ?side1 ?side2 A2.out).mono ?_); (case side1 => exact cU HR0.out); (case side2 => exact HC0.out); rintro e w29 ⟨rfl, hb⟩; refine ⟨_, rfl, ?_⟩; have n0_ := A_ (below_step (bW0 HB.out) hb); clear HB; have HB := n0_; clear n0_; (try clear hb)))
  go_ret2
  exact ⟨eQ, below_step HB00.out (bW0 HB.out)⟩
 subst c3; rw [if_pos rfl] at H; replace H := Option.bind_eq_some_iff.mp H; obtain ⟨⟨t102, t103, t104⟩, A40, H⟩ := H; (try dsimp only at H); have A4 := A_ A40; clear A40; replace H := Option.bind_eq_some_iff.mp H; obtain ⟨⟨t106, t109⟩, A50, H⟩ := H; (try dsimp only at H); have A5 := A_ A50; clear A50; have H' := A_ H; clear H
 go_enter Try.func43, Try.ntmps43
 go_wp2_with (first | ((with_reducible refine gate_callee (f := 29) rfl ?_); refine goesW_ (some 9) Try.func29 #[.slice A0 l0.length c0] ?_; (with_reducible refine (ice_Valid.calls k _ _ l0 true _ ?side1 ?side2 A2.out).mono ?_); (case side1 => exact cU HR0.out); (case side2 => exact HC0.out); rintro e w6 ⟨rfl, hb⟩; refine ⟨_, rfl, ?_⟩; have n0_ := A_ (below_step (bW0 HB.out) hb); clear HB; have HB := n0_; clear n0_; (try clear hb)) | ((with_reducible refine gate_callee (f := 53) rfl ?_); refine goesW_ (some 12) Try.func53 #[.slice A0 l0.length c0] ?_; (with_reducible refine (ice_gameOf.calls k _ _ l0 t102 t103 t104 w _ ?side1 ?side2 ?side3 A4.out).mono ?_); (case side1 => repeat (first | (with_reducible first | exact HB.out | apply below_alloc | apply pw_below_drewN | apply below_drew1) | exact HB.out)); (case side2 => exact HR0.out); (case side3 => exact HC0.out); rintro e w ⟨g105, rfl, hi, hb, hb2⟩; refine ⟨_, rfl, ?_⟩; have n0_ := A_ (hb); have n1_ := A_ (hi); clear HB; have HB := n0_; have HI105 := n1_; clear n0_ n1_; have HB00_ := A_ (below_step HB00.out HB.out); have n_ := A_ (Kd.C_below HR0.out HB.out); clear HR0; have HR0 := n_; clear n_; clear HB00 HB; have HB00 := HB00_; clear HB00_; have HB := A_ (Below.refl w.heap.size w); (try clear hb); (try clear hb2); (try clear hk); (try clear hi)) | ((with_reducible refine gate_callee (f := 56) rfl ?_); refine goesW_ (some 14) Try.func56 #[.pointer (some ⟨g105, 0, none⟩)] ?_; (with_reducible refine (ice_game_all.calls g105 t102 t103 t104 t106 t109 w _ ?side1 ?side2 A5.out).mono ?_); (case side1 => repeat (first | (with_reducible first | exact HI105.out | apply IsS87.alloc | apply IsS87.drewN | apply IsS87.drew | apply IsS87.set_2) | exact HI105.out)); (case side2 => repeat (first | (with_reducible first | exact HB.out | apply below_alloc | apply pw_below_drewN | apply below_drew1 | refine below_set ?_ (IsS87.ge HI105.out)) | exact HB.out)); rintro e w8 ⟨v107, rfl, ho0, hi, hb, hk⟩; refine ⟨_, rfl, ?_⟩; have n0_ := A_ (Kd.R_lower ho0 (below_size (by repeat (first | (with_reducible first | exact HB.out | apply below_alloc | apply pw_below_drewN | apply below_drew1 | refine below_set ?_ (IsS87.ge HI105.out)) | exact HB.out)))); have n1_ := A_ (hb); have n2_ := A_ (hi); clear HB; clear HI105; have HO108 := n0_; have HB := n1_; have HI105 := n2_; clear n0_ n1_ n2_; (try clear hb); (try clear hk); (try clear hi); (try clear ho0)))
 go_loopg [5, 6] k (fun kq v5 v6 w' => ∃ (x5_1 : List Bool) (x6_1 : Int) (x106002_1 : Int), v6 = .int .i64 x6_1 ∧ Aside0 (ice_Lasts.l0 kq x5_1 x6_1 t102 t103 x106002_1 = some (r1, r2)) ∧ Aside0 (kq ≤ k) ∧ Aside0 (Kd.R Kd.bool 4 w' w.heap.size (fun _ => True) v5 x5_1) ∧ Aside0 (IsS87 w w' g105 t102 t103 x106002_1) ∧ Aside0 (Below w.heap.size w w'))
 case atStart => exact ⟨(t106), (0), (t109), eS, H', ⟨Nat.le_refl _⟩, ⟨rU HO108.out⟩, ⟨by repeat (first | (with_reducible first | exact HI105.out | apply IsS87.alloc | apply IsS87.drewN | apply IsS87.drew | apply IsS87.set_2) | exact HI105.out)⟩, ⟨by repeat (first | (with_reducible first | exact HB.out | apply below_alloc | apply pw_below_drewN | apply below_drew1 | refine below_set ?_ (IsS87.ge HI105.out)) | exact HB.out)⟩⟩
 case round =>
  clear H'
  try clear c2; try clear p2; try clear c3; try clear c4; try clear c5
  obtain ⟨x5_1, x6_1, x106002_1, rfl, HA, HK1, HO_5, HI105, HB⟩ := hrel
  cases gk with
  | zero => exact absurd HA.out (by simp [ice_Lasts.l0])
  | succ k1 =>
   have H := HA.out; clear HA; simp only [ice_Lasts.l0] at H; replace H := Option.bind_eq_some_iff.mp H; obtain ⟨⟨t110, t113⟩, A90, H⟩ := H; (try dsimp only at H); have A9 := A_ A90; clear A90; replace H := Option.bind_eq_some_iff.mp H; obtain ⟨⟨t114, t115⟩, A100, H⟩ := H; (try dsimp only at H); have A10 := A_ A100; clear A100; by_cases c11 : 0 ≤ t114; rotate_left
   ·rw [if_neg c11] at H
    exact absurd H (by simp)
   rw [if_pos c11] at H; have c11b0 : decide (0 ≤ t114) = true := decide_eq_true c11; clear c11; by_cases c12 : t114 < (t110.length : Int); rotate_left
   ·rw [if_neg c12] at H
    exact absurd H (by simp)
   rw [if_pos c12] at H; have c12b0 : decide (t114 < (t110.length : Int)) = true := decide_eq_true c12; clear c12; obtain ⟨bq13, hbq13⟩ : ∃ b_ : Bool, b_ = (rdOf false t110 t114) := ⟨_, rfl⟩
   replace H : (if bq13 = true then ((slices_Equal_bool_bool.f k1 t110 x5_1).bind fun t117 => (if t117 = true then (some (0, 5)) else (ice_Lasts.l0 k1 t110 (wrap64 (x6_1 + 1)) t102 t103 t115))) else (some (x6_1, 0))) = some (r1, r2) := by rw [← hbq13] at H; exact H
   have Nbq13 := A_ hbq13; clear hbq13; by_cases c14 : bq13 = true; rotate_left
   ·replace c14 := Bool.eq_false_iff.mpr c14
    subst c14; rw [if_neg (show ¬ (false = true) by decide)] at H; simp only [Option.some.injEq, Prod.mk.injEq] at H; obtain ⟨rfl, rfl⟩ := H; obtain ⟨Ao25, co25, eo25⟩ := Kd.R_slice HO_5.out; subst eo25
    go_wp2_with (first | ((with_reducible refine gate_callee (f := 57) rfl ?_); refine goesW_ (some 19) Try.func57 #[.pointer (some ⟨g105, 0, none⟩), .slice Ao25 x5_1.length co25] ?_; (with_reducible refine (ice_game_before.calls k1 g105 t102 t103 x106002_1 _ _ x5_1 t110 t113 w _ ?side1 ?side2 ?side3 ?side4 ?side5 A9.out).mono ?_); (case side1 => repeat (first | (with_reducible first | exact HI105.out | apply IsS87.alloc | apply IsS87.drewN | apply IsS87.drew | apply IsS87.set_2) | exact HI105.out)); (case side2 => repeat (first | (with_reducible first | exact HB.out | apply below_alloc | apply pw_below_drewN | apply below_drew1 | refine below_set ?_ (IsS87.ge HI105.out)) | exact HB.out)); (case side3 => exact cU (Kd.R_reads' HO_5.out).2.2); (case side4 => exact (Kd.R_reads' HO_5.out).2.1); (case side5 => exact far_slice (IsS87.own_ne HI105.out HO_5.out (by decide))); rintro e w26 ⟨v111, rfl, ho0, hi, hb, hk⟩; refine ⟨_, rfl, ?_⟩; have n0_ := A_ (Kd.R_mono (Kd.R_told (Kd.R_oldK (IsS87.apart (show IsS87 w _ g105 t102 t103 x106002_1 from by repeat (first | (with_reducible first | exact HI105.out | apply IsS87.alloc | apply IsS87.drewN | apply IsS87.drew | apply IsS87.set_2) | exact HI105.out)) (rU HO_5.out) (by decide)) hk) (Kd.R_base ho0)) (fun _ h_ => h_.1)); have n1_ := A_ (Kd.R_lower (Kd.R_new' ho0 (Kd.R_lt (rU HO_5.out))) (below_size (by repeat (first | (with_reducible first | exact HB.out | apply below_alloc | apply pw_below_drewN | apply below_drew1 | refine below_set ?_ (IsS87.ge HI105.out)) | exact HB.out)))); have n2_ := A_ (hb); have n3_ := A_ (hi); clear HO_5; clear HB; clear HI105; have HO_5 := n0_; have HO112 := n1_; have HB := n2_; have HI105 := n3_; clear n0_ n1_ n2_ n3_; (try clear hb); (try clear hk); (try clear hi); (try clear ho0)) | ((with_reducible refine gate_callee (f := 59) rfl ?_); refine goesW_ (some 23) Try.func59 #[.pointer (some ⟨g105, 0, none⟩)] ?_; (with_reducible refine (ice_game_first.calls g105 t102 t103 t113 t114 t115 w _ ?side1 ?side2 A10.out).mono ?_); (case side1 => repeat (first | (with_reducible first | exact HI105.out | apply IsS87.alloc | apply IsS87.drewN | apply IsS87.drew | apply IsS87.set_2) | exact HI105.out)); (case side2 => repeat (first | (with_reducible first | exact HB.out | apply below_alloc | apply pw_below_drewN | apply below_drew1 | refine below_set ?_ (IsS87.ge HI105.out)) | exact HB.out)); rintro e w27 ⟨rfl, hi, hb, hk⟩; refine ⟨_, rfl, ?_⟩; have n0_ := A_ (Kd.R_mono (Kd.R_keep (IsS87.apart (show IsS87 w _ g105 t102 t103 t113 from by repeat (first | (with_reducible first | exact HI105.out | apply IsS87.alloc | apply IsS87.drewN | apply IsS87.drew | apply IsS87.set_2) | exact HI105.out)) (rU HO_5.out) (by decide)) hk (fun _ h => h.2)) (fun _ h => h.1)); have n1_ := A_ (Kd.R_mono (Kd.R_keep (IsS87.apart (show IsS87 w _ g105 t102 t103 t113 from by repeat (first | (with_reducible first | exact HI105.out | apply IsS87.alloc | apply IsS87.drewN | apply IsS87.drew | apply IsS87.set_2) | exact HI105.out)) (rU HO112.out) (by decide)) hk (fun _ h => h.2)) (fun _ h => h.1)); have n2_ := A_ (hb); have n3_ := A_ (hi); clear HO_5; clear HO112; clear HB; clear HI105; have HO_5 := n0_; have HO112 := n1_; have HB := n2_; have HI105 := n3_; clear n0_ n1_ n2_ n3_; (try clear hb); (try clear hk); (try clear hi); obtain ⟨Ao28, co28, eo28⟩ := Kd.R_slice HO112.out; subst eo28; have p116 : 0 ≤ (t114 : Int) := oD; have q116 : t114 < (t110.length : Int) := oD; obtain ⟨ad116, e116, hx116_0⟩ := Kd.at_bool (Kd.R_reads' HO112.out).2.2 t114 p116 q116; (try rw [← Nbq13.out] at hx116_0); cases e116; replace p116 := eq_true p116; replace q116 := eq_true q116))
    go_ret2
    exact ⟨eQ, below_step HB00.out (by repeat (first | (with_reducible first | exact HB.out | apply below_alloc | apply pw_below_drewN | apply below_drew1 | refine below_set ?_ (IsS87.ge HI105.out)) | exact HB.out))⟩
   subst c14; rw [if_pos rfl] at H; replace H := Option.bind_eq_some_iff.mp H; obtain ⟨t117, A150, H⟩ := H; (try dsimp only at H); have A15 := A_ A150; clear A150; by_cases c16 : t117 = true
   ·subst c16
    rw [if_pos rfl] at H; simp only [Option.some.injEq, Prod.mk.injEq] at H; obtain ⟨rfl, rfl⟩ := H; obtain ⟨Ao17, co17, eo17⟩ := Kd.R_slice HO_5.out; subst eo17
    go_wp2_with (first | ((with_reducible refine gate_callee (f := 57) rfl ?_); refine goesW_ (some 19) Try.func57 #[.pointer (some ⟨g105, 0, none⟩), .slice Ao17 x5_1.length co17] ?_; (with_reducible refine (ice_game_before.calls k1 g105 t102 t103 x106002_1 _ _ x5_1 t110 t113 w _ ?side1 ?side2 ?side3 ?side4 ?side5 A9.out).mono ?_); (case side1 => repeat (first | (with_reducible first | exact HI105.out | apply IsS87.alloc | apply IsS87.drewN | apply IsS87.drew | apply IsS87.set_2) | exact HI105.out)); (case side2 => repeat (first | (with_reducible first | exact HB.out | apply below_alloc | apply pw_below_drewN | apply below_drew1 | refine below_set ?_ (IsS87.ge HI105.out)) | exact HB.out)); (case side3 => exact cU (Kd.R_reads' HO_5.out).2.2); (case side4 => exact (Kd.R_reads' HO_5.out).2.1); (case side5 => exact far_slice (IsS87.own_ne HI105.out HO_5.out (by decide))); rintro e w18 ⟨v111, rfl, ho0, hi, hb, hk⟩; refine ⟨_, rfl, ?_⟩; have n0_ := A_ (Kd.R_mono (Kd.R_told (Kd.R_oldK (IsS87.apart (show IsS87 w _ g105 t102 t103 x106002_1 from by repeat (first | (with_reducible first | exact HI105.out | apply IsS87.alloc | apply IsS87.drewN | apply IsS87.drew | apply IsS87.set_2) | exact HI105.out)) (rU HO_5.out) (by decide)) hk) (Kd.R_base ho0)) (fun _ h_ => h_.1)); have n1_ := A_ (Kd.R_lower (Kd.R_new' ho0 (Kd.R_lt (rU HO_5.out))) (below_size (by repeat (first | (with_reducible first | exact HB.out | apply below_alloc | apply pw_below_drewN | apply below_drew1 | refine below_set ?_ (IsS87.ge HI105.out)) | exact HB.out)))); have n2_ := A_ (hb); have n3_ := A_ (hi); clear HO_5; clear HB; clear HI105; have HO_5 := n0_; have HO112 := n1_; have HB := n2_; have HI105 := n3_; clear n0_ n1_ n2_ n3_; (try clear hb); (try clear hk); (try clear hi); (try clear ho0)) | ((with_reducible refine gate_callee (f := 59) rfl ?_); refine goesW_ (some 23) Try.func59 #[.pointer (some ⟨g105, 0, none⟩)] ?_; (with_reducible refine (ice_game_first.calls g105 t102 t103 t113 t114 t115 w _ ?side1 ?side2 A10.out).mono ?_); (case side1 => repeat (first | (with_reducible first | exact HI105.out | apply IsS87.alloc | apply IsS87.drewN | apply IsS87.drew | apply IsS87.set_2) | exact HI105.out)); (case side2 => repeat (first | (with_reducible first | exact HB.out | apply below_alloc | apply pw_below_drewN | apply below_drew1 | refine below_set ?_ (IsS87.ge HI105.out)) | exact HB.out)); rintro e w19 ⟨rfl, hi, hb, hk⟩; refine ⟨_, rfl, ?_⟩; have n0_ := A_ (Kd.R_mono (Kd.R_keep (IsS87.apart (show IsS87 w _ g105 t102 t103 t113 from by repeat (first | (with_reducible first | exact HI105.out | apply IsS87.alloc | apply IsS87.drewN | apply IsS87.drew | apply IsS87.set_2) | exact HI105.out)) (rU HO_5.out) (by decide)) hk (fun _ h => h.2)) (fun _ h => h.1)); have n1_ := A_ (Kd.R_mono (Kd.R_keep (IsS87.apart (show IsS87 w _ g105 t102 t103 t113 from by repeat (first | (with_reducible first | exact HI105.out | apply IsS87.alloc | apply IsS87.drewN | apply IsS87.drew | apply IsS87.set_2) | exact HI105.out)) (rU HO112.out) (by decide)) hk (fun _ h => h.2)) (fun _ h => h.1)); have n2_ := A_ (hb); have n3_ := A_ (hi); clear HO_5; clear HO112; clear HB; clear HI105; have HO_5 := n0_; have HO112 := n1_; have HB := n2_; have HI105 := n3_; clear n0_ n1_ n2_ n3_; (try clear hb); (try clear hk); (try clear hi); obtain ⟨Ao20, co20, eo20⟩ := Kd.R_slice HO112.out; subst eo20; have p116 : 0 ≤ (t114 : Int) := oD; have q116 : t114 < (t110.length : Int) := oD; obtain ⟨ad116, e116, hx116_0⟩ := Kd.at_bool (Kd.R_reads' HO112.out).2.2 t114 p116 q116; (try rw [← Nbq13.out] at hx116_0); cases e116; replace p116 := eq_true p116; replace q116 := eq_true q116) | ((with_reducible refine gate_callee (f := 58) rfl ?_); refine goesW_ (some 31) Try.func58 #[.slice (some ad116) t110.length co20, .slice Ao17 x5_1.length co17] ?_; (with_reducible refine (slices_Equal_bool_bool.calls k1 _ _ t110 _ _ x5_1 true _ ?side1 ?side2 ?side3 ?side4 A15.out).mono ?_); (case side1 => exact cU (Kd.R_reads' HO112.out).2.2); (case side2 => exact (Kd.R_reads' HO112.out).2.1); (case side3 => exact cU (Kd.R_reads' HO_5.out).2.2); (case side4 => exact (Kd.R_reads' HO_5.out).2.1); rintro e w' ⟨rfl, ⟨nd, rfl⟩⟩; refine ⟨_, rfl, ?_⟩))
    go_ret2
    exact ⟨eQ, below_step HB00.out (by repeat (first | (with_reducible first | exact HB.out | apply below_alloc | apply pw_below_drewN | apply below_drew1 | refine below_set ?_ (IsS87.ge HI105.out)) | exact HB.out))⟩
   replace c16 := Bool.eq_false_iff.mpr c16; subst c16; rw [if_neg (show ¬ (false = true) by decide)] at H; have H' := A_ H; clear H; obtain ⟨Ao21, co21, eo21⟩ := Kd.R_slice HO_5.out; subst eo21
   go_wp2_with (first | ((with_reducible refine gate_callee (f := 57) rfl ?_); refine goesW_ (some 19) Try.func57 #[.pointer (some ⟨g105, 0, none⟩), .slice Ao21 x5_1.length co21] ?_; (with_reducible refine (ice_game_before.calls k1 g105 t102 t103 x106002_1 _ _ x5_1 t110 t113 w _ ?side1 ?side2 ?side3 ?side4 ?side5 A9.out).mono ?_); (case side1 => repeat (first | (with_reducible first | exact HI105.out | apply IsS87.alloc | apply IsS87.drewN | apply IsS87.drew | apply IsS87.set_2) | exact HI105.out)); (case side2 => repeat (first | (with_reducible first | exact HB.out | apply below_alloc | apply pw_below_drewN | apply below_drew1 | refine below_set ?_ (IsS87.ge HI105.out)) | exact HB.out)); (case side3 => exact cU (Kd.R_reads' HO_5.out).2.2); (case side4 => exact (Kd.R_reads' HO_5.out).2.1); (case side5 => exact far_slice (IsS87.own_ne HI105.out HO_5.out (by decide))); rintro e w22 ⟨v111, rfl, ho0, hi, hb, hk⟩; refine ⟨_, rfl, ?_⟩; have n0_ := A_ (Kd.R_mono (Kd.R_told (Kd.R_oldK (IsS87.apart (show IsS87 w _ g105 t102 t103 x106002_1 from by repeat (first | (with_reducible first | exact HI105.out | apply IsS87.alloc | apply IsS87.drewN | apply IsS87.drew | apply IsS87.set_2) | exact HI105.out)) (rU HO_5.out) (by decide)) hk) (Kd.R_base ho0)) (fun _ h_ => h_.1)); have n1_ := A_ (Kd.R_lower (Kd.R_new' ho0 (Kd.R_lt (rU HO_5.out))) (below_size (by repeat (first | (with_reducible first | exact HB.out | apply below_alloc | apply pw_below_drewN | apply below_drew1 | refine below_set ?_ (IsS87.ge HI105.out)) | exact HB.out)))); have n2_ := A_ (hb); have n3_ := A_ (hi); clear HO_5; clear HB; clear HI105; have HO_5 := n0_; have HO112 := n1_; have HB := n2_; have HI105 := n3_; clear n0_ n1_ n2_ n3_; (try clear hb); (try clear hk); (try clear hi); (try clear ho0)) | ((with_reducible refine gate_callee (f := 59) rfl ?_); refine goesW_ (some 23) Try.func59 #[.pointer (some ⟨g105, 0, none⟩)] ?_; (with_reducible refine (ice_game_first.calls g105 t102 t103 t113 t114 t115 w _ ?side1 ?side2 A10.out).mono ?_); (case side1 => repeat (first | (with_reducible first | exact HI105.out | apply IsS87.alloc | apply IsS87.drewN | apply IsS87.drew | apply IsS87.set_2) | exact HI105.out)); (case side2 => repeat (first | (with_reducible first | exact HB.out | apply below_alloc | apply pw_below_drewN | apply below_drew1 | refine below_set ?_ (IsS87.ge HI105.out)) | exact HB.out)); rintro e w23 ⟨rfl, hi, hb, hk⟩; refine ⟨_, rfl, ?_⟩; have n0_ := A_ (Kd.R_mono (Kd.R_keep (IsS87.apart (show IsS87 w _ g105 t102 t103 t113 from by repeat (first | (with_reducible first | exact HI105.out | apply IsS87.alloc | apply IsS87.drewN | apply IsS87.drew | apply IsS87.set_2) | exact HI105.out)) (rU HO_5.out) (by decide)) hk (fun _ h => h.2)) (fun _ h => h.1)); have n1_ := A_ (Kd.R_mono (Kd.R_keep (IsS87.apart (show IsS87 w _ g105 t102 t103 t113 from by repeat (first | (with_reducible first | exact HI105.out | apply IsS87.alloc | apply IsS87.drewN | apply IsS87.drew | apply IsS87.set_2) | exact HI105.out)) (rU HO112.out) (by decide)) hk (fun _ h => h.2)) (fun _ h => h.1)); have n2_ := A_ (hb); have n3_ := A_ (hi); clear HO_5; clear HO112; clear HB; clear HI105; have HO_5 := n0_; have HO112 := n1_; have HB := n2_; have HI105 := n3_; clear n0_ n1_ n2_ n3_; (try clear hb); (try clear hk); (try clear hi); obtain ⟨Ao24, co24, eo24⟩ := Kd.R_slice HO112.out; subst eo24; have p116 : 0 ≤ (t114 : Int) := oD; have q116 : t114 < (t110.length : Int) := oD; obtain ⟨ad116, e116, hx116_0⟩ := Kd.at_bool (Kd.R_reads' HO112.out).2.2 t114 p116 q116; (try rw [← Nbq13.out] at hx116_0); cases e116; replace p116 := eq_true p116; replace q116 := eq_true q116) | ((with_reducible refine gate_callee (f := 58) rfl ?_); refine goesW_ (some 31) Try.func58 #[.slice (some ad116) t110.length co24, .slice Ao21 x5_1.length co21] ?_; (with_reducible refine (slices_Equal_bool_bool.calls k1 _ _ t110 _ _ x5_1 false _ ?side1 ?side2 ?side3 ?side4 A15.out).mono ?_); (case side1 => exact cU (Kd.R_reads' HO112.out).2.2); (case side2 => exact (Kd.R_reads' HO112.out).2.1); (case side3 => exact cU (Kd.R_reads' HO_5.out).2.2); (case side4 => exact (Kd.R_reads' HO_5.out).2.1); rintro e w' ⟨rfl, ⟨nd, rfl⟩⟩; refine ⟨_, rfl, ?_⟩))
   go_roundg k1
   case measure => have := HK1.out; omega
   case rel => exact ⟨(t110), (wrap64 (x6_1 + 1)), (t115), eS, H', ⟨by have := HK1.out; omega⟩, ⟨by (with_reducible repeat (first | apply Kd.R_alloc | apply Kd.R_drewN | apply Kd.R_drew)); exact Kd.R_mono HO112.out (fun _ hk => trivial)⟩, ⟨by repeat (first | (with_reducible first | exact HI105.out | apply IsS87.alloc | apply IsS87.drewN | apply IsS87.drew | apply IsS87.set_2) | exact HI105.out)⟩, ⟨by repeat (first | (with_reducible first | exact HB.out | apply below_alloc | apply pw_below_drewN | apply below_drew1 | refine below_set ?_ (IsS87.ge HI105.out)) | exact HB.out)⟩⟩
theorem eqA35 (d : Nat) (w : World) (x0 y0 : Int) (x1 y1 : Int) :
    (Op.equalIn (d + 2) 35 (.agg #[.int .i64 x0, .int .i64 x1]) (.agg #[.int .i64 y0, .int .i64 y1])).run Try.prog w = .ok (x0 == y0 && (x1 == y1)) w := by
  refine eqA_of Try.underlying35 (by kernel_rfl) ?_
  refine eqf_cons (by rfl) (by go_simp; rfl) (by go_simp; rfl) (by go_simp) ?_
  exact eqf_last (by rfl) (by go_simp; rfl) (by go_simp; rfl) (by go_simp)
def dropperlaw08_SameInts.l0 : Nat → List Int → List Int → Int → Option (Bool)
 | 0, _, _, _ => none
 | k + 1, x0, x1, x5 => if x5 < (x0.length : Int) then (if 0 ≤ x5 then (if x5 < (x1.length : Int) then (if (rd x0 x5) = (rd x1 x5) then (dropperlaw08_SameInts.l0 k x0 x1 (wrap64 (x5 + 1))) else (some false)) else (none)) else (none)) else (some true)
def dropperlaw08_SameInts.f (k : Nat) (l0 : List Int) (l1 : List Int) : Option (Bool) := if (l0.length : Int) = (l1.length : Int) then (dropperlaw08_SameInts.l0 k l0 l1 0) else (some false)
theorem dropperlaw08_SameInts.mono_l : ∀ k, (∀ y0 y1 y2, LeO (dropperlaw08_SameInts.l0 k y0 y1 y2) (dropperlaw08_SameInts.l0 (k + 1) y0 y1 y2))
 | 0 => fun _ _ _ r h => by simp [dropperlaw08_SameInts.l0] at h
 | k + 1 => by
  have ih0 := dropperlaw08_SameInts.mono_l k
  ·intro y0 y1 y2
   unfold dropperlaw08_SameInts.l0
   repeat' first
   | (with_reducible exact ih0 _ _ _)
   | (with_reducible exact LeO.refl _)
   | (with_reducible exact LeO.none _)
   | (with_reducible refine LeO.ite ?_ ?_)
   | (with_reducible refine LeO.bind ?_ (fun _ => ?_))
   | exact ih0 _ _ _
   | exact LeO.none _
   | refine LeO.ite ?_ ?_
   | refine LeO.bind ?_ (fun _ => ?_)
theorem dropperlaw08_SameInts.mono : ∀ a0 a1 k, LeO (dropperlaw08_SameInts.f k a0 a1) (dropperlaw08_SameInts.f (k + 1) a0 a1) := by
 intro a0 a1 k
 have ih0 := dropperlaw08_SameInts.mono_l k
 unfold dropperlaw08_SameInts.f
 repeat' first
   | (with_reducible exact ih0 _ _ _)
   | (with_reducible exact LeO.refl _)
   | (with_reducible exact LeO.none _)
   | (with_reducible refine LeO.ite ?_ ?_)
   | (with_reducible refine LeO.bind ?_ (fun _ => ?_))
   | exact ih0 _ _ _
   | exact LeO.none _
   | refine LeO.ite ?_ ?_
   | refine LeO.bind ?_ (fun _ => ?_)
set_option maxHeartbeats 8000000 in
set_option maxRecDepth 100000 in
theorem dropperlaw08_SameInts.calls (k : Nat) (A0 : Option Addr) (c0 : Nat) (l0 : List Int) (A1 : Option Addr) (c1 : Nat) (l1 : List Int) (r : Bool) (w : World) (hr0 : Kd.C (Kd.int .i64) w A0 l0.length l0) (hc0 : l0.length ≤ c0) (hr1 : Kd.C (Kd.int .i64) w A1 l1.length l1) (hc1 : l1.length ≤ c1) (h : dropperlaw08_SameInts.f k l0 l1 = some r) :
  Calls Try.prog 15 #[.slice A0 l0.length c0, .slice A1 l1.length c1] w fun e w' => e = .returned (.bool r) ∧ Drawn0 w w' := by
 have HR0 := A_ hr0
 have HC0 := A_ hc0
 clear hr0 hc0
 have HR1 := A_ hr1
 have HC1 := A_ hc1
 clear hr1 hc1
 have H : (if (l0.length : Int) = (l1.length : Int) then (dropperlaw08_SameInts.l0 k l0 l1 0) else (some false)) = some r := h
 clear h
 by_cases c3 : (l0.length : Int) = (l1.length : Int)
 rotate_left
 ·rw [if_neg c3] at H
  have c3b0 : ((l0.length : Int) == (l1.length : Int)) = false := beq_eq_false_iff_ne.mpr c3
  have c3b1 : ((l0.length : Int) != (l1.length : Int)) = true := bne_iff_ne.mpr c3
  have c3b2 : (l0.length == l1.length) = false := by first | simpa using c3 | (simp at c3 ⊢; omega)
  obtain rfl := Option.some.inj H
  go_enter Try.func15, Try.ntmps15
  go_wp2
  repeat (go_quiet (fail); try go_wp2)
  go_ret
  exact ⟨by first | rfl | (simp; done) | (simp [*]; done), by repeat (first | exact Drawn0.refl _ | apply Drawn0.step)⟩
 rw [if_pos c3] at H
 have c3b0 : ((l0.length : Int) == (l1.length : Int)) = true := beq_iff_eq.mpr c3
 have c3b1 : ((l0.length : Int) != (l1.length : Int)) = false := bne_eq_false_iff_eq.mpr c3
 have c3b2 : (l0.length == l1.length) = true := by first | simpa using c3 | (simp at c3 ⊢; omega)
 clear c3
 have H' := A_ H
 clear H
 go_enter Try.func15, Try.ntmps15
 go_wp2
 repeat (go_quiet (fail); try go_wp2)
 go_loopg [5] k (fun kq v5 w' => ∃ (x5_1 : Int), v5 = .int .i64 x5_1 ∧ Aside0 (dropperlaw08_SameInts.l0 kq l0 l1 x5_1 = some r) ∧ Aside0 (kq ≤ k) ∧ Drawn0 w w')
 case atStart => exact ⟨(0), eS, H', ⟨Nat.le_refl _⟩, by repeat (first | exact Drawn0.refl _ | apply Drawn0.step)⟩
 case round =>
  clear H'
  try clear c1; try clear p2; try clear c3; try clear c3b0; try clear c3b1; try clear c3b2
  obtain ⟨x5_1, rfl, HA, HK1, ⟨m1, rfl⟩⟩ := hrel
  cases gk with
  | zero => exact absurd HA.out (by simp [dropperlaw08_SameInts.l0])
  | succ k1 =>
   have H := HA.out
   clear HA
   simp only [dropperlaw08_SameInts.l0] at H
   by_cases c4 : x5_1 < (l0.length : Int)
   rotate_left
   ·rw [if_neg c4] at H
    have c4b0 : decide (x5_1 < (l0.length : Int)) = false := decide_eq_false c4
    clear c4
    obtain rfl := Option.some.inj H
    go_wp2
    repeat (go_quiet (fail); try go_wp2)
    go_ret
    exact ⟨by first | rfl | (simp; done) | (simp [*]; done), by repeat (first | exact Drawn0.refl _ | apply Drawn0.step)⟩
   rw [if_pos c4] at H
   have c4b0 : decide (x5_1 < (l0.length : Int)) = true := decide_eq_true c4
   clear c4
   by_cases c5 : 0 ≤ x5_1
   rotate_left
   ·rw [if_neg c5] at H
    exact absurd H (by simp)
   rw [if_pos c5] at H
   have c5b0 : decide (0 ≤ x5_1) = true := decide_eq_true c5
   clear c5
   by_cases c6 : x5_1 < (l1.length : Int)
   rotate_left
   ·rw [if_neg c6] at H
    exact absurd H (by simp)
   rw [if_pos c6] at H
   have c6b0 : decide (x5_1 < (l1.length : Int)) = true := decide_eq_true c6
   clear c6
   by_cases c7 : (rd l0 x5_1) = (rd l1 x5_1)
   rotate_left
   ·rw [if_neg c7] at H
    have c7b0 : ((rd l0 x5_1) == (rd l1 x5_1)) = false := beq_eq_false_iff_ne.mpr c7
    have c7b1 : ((rd l0 x5_1) != (rd l1 x5_1)) = true := bne_iff_ne.mpr c7
    obtain rfl := Option.some.inj H
    have p101 : 0 ≤ (x5_1 : Int) := oD
    have q101 : x5_1 < (l0.length : Int) := oD
    obtain ⟨ad101, e101, hx101_0⟩ := Kd.at_int HR0.out x5_1 p101 q101
    cases e101
    replace p101 := eq_true p101
    replace q101 := eq_true q101
    have p102 : 0 ≤ (x5_1 : Int) := oD
    have q102 : x5_1 < (l1.length : Int) := oD
    obtain ⟨ad102, e102, hx102_0⟩ := Kd.at_int HR1.out x5_1 p102 q102
    cases e102
    replace p102 := eq_true p102
    replace q102 := eq_true q102
    go_wp2
    repeat (go_quiet (fail); try go_wp2)
    go_ret
    exact ⟨by first | rfl | (simp; done) | (simp [*]; done), by repeat (first | exact Drawn0.refl _ | apply Drawn0.step)⟩
   rw [if_pos c7] at H
   have c7b0 : ((rd l0 x5_1) == (rd l1 x5_1)) = true := beq_iff_eq.mpr c7
   have c7b1 : ((rd l0 x5_1) != (rd l1 x5_1)) = false := bne_eq_false_iff_eq.mpr c7
   clear c7
   have H' := A_ H
   clear H
   have p101 : 0 ≤ (x5_1 : Int) := oD
   have q101 : x5_1 < (l0.length : Int) := oD
   obtain ⟨ad101, e101, hx101_0⟩ := Kd.at_int HR0.out x5_1 p101 q101
   cases e101
   replace p101 := eq_true p101
   replace q101 := eq_true q101
   have p102 : 0 ≤ (x5_1 : Int) := oD
   have q102 : x5_1 < (l1.length : Int) := oD
   obtain ⟨ad102, e102, hx102_0⟩ := Kd.at_int HR1.out x5_1 p102 q102
   cases e102
   replace p102 := eq_true p102
   replace q102 := eq_true q102
   go_wp2
   repeat (go_quiet (fail); try go_wp2)
   go_roundg k1
   case measure => have := HK1.out; omega
   case rel => exact ⟨(wrap64 (x5_1 + 1)), eS, H', ⟨by have := HK1.out; omega⟩, by repeat (first | exact Drawn0.refl _ | apply Drawn0.step)⟩
def dropperref08_from.f (a0 : Int) (a1 : Int) (a2 : Int) : Option (Bool) := if a0 ≤ a1 then (some (decide (a1 ≤ a2))) else (some false)
set_option maxHeartbeats 8000000 in
set_option maxRecDepth 100000 in
theorem dropperref08_from.calls (a0 : Int) (a1 : Int) (a2 : Int) (r : Bool) (w : World) (h : dropperref08_from.f a0 a1 a2 = some r) :
  Calls Try.prog 52 #[.int .i64 a0, .int .i64 a1, .int .i64 a2] w fun e w' => e = .returned (.bool r) ∧ Drawn0 w w' := by
 have H : (if a0 ≤ a1 then (some (decide (a1 ≤ a2))) else (some false)) = some r := h
 clear h
 by_cases c4 : a0 ≤ a1
 ·rw [if_pos c4] at H
  have c4b0 : decide (a0 ≤ a1) = true := decide_eq_true c4
  clear c4
  obtain rfl := Option.some.inj H
  go_enter Try.func52, Try.ntmps52
  go_wp2
  go_ret
  exact ⟨by first | rfl | (simp; done) | (simp [*]; done), by repeat (first | exact Drawn0.refl _ | apply Drawn0.step)⟩
 rw [if_neg c4] at H
 have c4b0 : decide (a0 ≤ a1) = false := decide_eq_false c4
 clear c4
 obtain rfl := Option.some.inj H
 go_enter Try.func52, Try.ntmps52
 go_wp2
 go_ret
 exact ⟨by first | rfl | (simp; done) | (simp [*]; done), by repeat (first | exact Drawn0.refl _ | apply Drawn0.step)⟩
def dropperref08_Valid.l0 : Nat → List Int → Int → Option (Bool)
 | 0, _, _ => none
 | k + 1, x0, x3 => if x3 < (x0.length : Int) then (if 0 ≤ x3 then ((dropperref08_from.f 1 (rd x0 x3) 8).bind fun t102 => (if t102 = true then (dropperref08_Valid.l0 k x0 (wrap64 (x3 + 1))) else (some false))) else (none)) else ((dropperref08_from.f 1 (x0.length : Int) 5).bind fun t103 => (some t103))
def dropperref08_Valid.f (k : Nat) (l0 : List Int) : Option (Bool) := dropperref08_Valid.l0 k l0 0
theorem dropperref08_Valid.mono_l : ∀ k, (∀ y0 y1, LeO (dropperref08_Valid.l0 k y0 y1) (dropperref08_Valid.l0 (k + 1) y0 y1))
 | 0 => fun _ _ r h => by simp [dropperref08_Valid.l0] at h
 | k + 1 => by
  have ih0 := dropperref08_Valid.mono_l k
  ·intro y0 y1
   unfold dropperref08_Valid.l0
   repeat' first
   | (with_reducible exact ih0 _ _)
   | (with_reducible exact LeO.refl _)
   | (with_reducible exact LeO.none _)
   | (with_reducible refine LeO.ite ?_ ?_)
   | (with_reducible refine LeO.bind ?_ (fun _ => ?_))
   | exact ih0 _ _
   | exact LeO.none _
   | refine LeO.ite ?_ ?_
   | refine LeO.bind ?_ (fun _ => ?_)
theorem dropperref08_Valid.mono : ∀ a0 k, LeO (dropperref08_Valid.f k a0) (dropperref08_Valid.f (k + 1) a0) := by
 intro a0 k
 have ih0 := dropperref08_Valid.mono_l k
 unfold dropperref08_Valid.f
 repeat' first
   | (with_reducible exact ih0 _ _)
   | (with_reducible exact LeO.refl _)
   | (with_reducible exact LeO.none _)
   | (with_reducible refine LeO.ite ?_ ?_)
   | (with_reducible refine LeO.bind ?_ (fun _ => ?_))
   | exact ih0 _ _
   | exact LeO.none _
   | refine LeO.ite ?_ ?_
   | refine LeO.bind ?_ (fun _ => ?_)
set_option maxHeartbeats 8000000 in
set_option maxRecDepth 100000 in
theorem dropperref08_Valid.calls (k : Nat) (A0 : Option Addr) (c0 : Nat) (l0 : List Int) (r : Bool) (w : World) (hr0 : Kd.C (Kd.int .i64) w A0 l0.length l0) (hc0 : l0.length ≤ c0) (h : dropperref08_Valid.f k l0 = some r) :
  Calls Try.prog 30 #[.slice A0 l0.length c0] w fun e w' => e = .returned (.bool r) ∧ Drawn0 w w' := by
 have HR0 := A_ hr0
 have HC0 := A_ hc0
 clear hr0 hc0
 have H : (dropperref08_Valid.l0 k l0 0) = some r := h
 clear h
 have H' := A_ H
 clear H
 go_enter Try.func30, Try.ntmps30
 go_wp2
 go_loopg [3] k (fun kq v3 w' => ∃ (x3_1 : Int), v3 = .int .i64 x3_1 ∧ Aside0 (dropperref08_Valid.l0 kq l0 x3_1 = some r) ∧ Aside0 (kq ≤ k) ∧ Drawn0 w w')
 case atStart => exact ⟨(0), eS, H', ⟨Nat.le_refl _⟩, by repeat (first | exact Drawn0.refl _ | apply Drawn0.step)⟩
 case round =>
  clear H'
  obtain ⟨x3_1, rfl, HA, HK1, ⟨m1, rfl⟩⟩ := hrel
  cases gk with
  | zero => exact absurd HA.out (by simp [dropperref08_Valid.l0])
  | succ k1 =>
   have H := HA.out
   clear HA
   simp only [dropperref08_Valid.l0] at H
   by_cases c2 : x3_1 < (l0.length : Int)
   rotate_left
   ·rw [if_neg c2] at H
    have c2b0 : decide (x3_1 < (l0.length : Int)) = false := decide_eq_false c2
    clear c2
    replace H := Option.bind_eq_some_iff.mp H
    obtain ⟨t103, A60, H⟩ := H
    replace H : (some t103) = some r := H
    have A6 := A_ A60
    clear A60
    obtain rfl := Option.some.inj H
    go_wp2_with (first | ((with_reducible refine gate_callee (f := 52) rfl ?_); refine goesW_ (some 18) Try.func52 #[.int .i64 1, .int .i64 (l0.length : Int), .int .i64 5] ?_; (with_reducible refine (dropperref08_from.calls 1 (l0.length : Int) 5 t103 _ A6.out).mono ?_); rintro e w' ⟨rfl, ⟨nd, rfl⟩⟩; refine ⟨_, rfl, ?_⟩))
    go_ret
    exact ⟨by first | rfl | (simp; done) | (simp [*]; done), by repeat (first | exact Drawn0.refl _ | apply Drawn0.step)⟩
   rw [if_pos c2] at H
   have c2b0 : decide (x3_1 < (l0.length : Int)) = true := decide_eq_true c2
   clear c2
   by_cases c3 : 0 ≤ x3_1
   rotate_left
   ·rw [if_neg c3] at H
    exact absurd H (by simp)
   rw [if_pos c3] at H
   have c3b0 : decide (0 ≤ x3_1) = true := decide_eq_true c3
   clear c3
   replace H := Option.bind_eq_some_iff.mp H
   obtain ⟨t102, A40, H⟩ := H
   replace H : (if t102 = true then (dropperref08_Valid.l0 k1 l0 (wrap64 (x3_1 + 1))) else (some false)) = some r := H
   have A4 := A_ A40
   clear A40
   by_cases c5 : t102 = true
   rotate_left
   ·replace c5 := Bool.eq_false_iff.mpr c5
    subst c5
    have H1 : (some false) = some r := by rw [if_neg (show ¬ (false = true) by decide)] at H; exact H
    clear H
    have H := H1
    clear H1
    obtain rfl := Option.some.inj H
    have p101 : 0 ≤ (x3_1 : Int) := oD
    have q101 : x3_1 < (l0.length : Int) := oD
    obtain ⟨ad101, e101, hx101_0⟩ := Kd.at_int HR0.out x3_1 p101 q101
    cases e101
    replace p101 := eq_true p101
    replace q101 := eq_true q101
    go_wp2_with (first | ((with_reducible refine gate_callee (f := 52) rfl ?_); refine goesW_ (some 14) Try.func52 #[.int .i64 1, .int .i64 (rd l0 x3_1), .int .i64 8] ?_; (with_reducible refine (dropperref08_from.calls 1 (rd l0 x3_1) 8 false _ A4.out).mono ?_); rintro e w' ⟨rfl, ⟨nd, rfl⟩⟩; refine ⟨_, rfl, ?_⟩))
    go_ret
    exact ⟨by first | rfl | (simp; done) | (simp [*]; done), by repeat (first | exact Drawn0.refl _ | apply Drawn0.step)⟩
   subst c5
   have H1 : (dropperref08_Valid.l0 k1 l0 (wrap64 (x3_1 + 1))) = some r := by rw [if_pos rfl] at H; exact H
   clear H
   have H := H1
   clear H1
   have H' := A_ H
   clear H
   have p101 : 0 ≤ (x3_1 : Int) := oD
   have q101 : x3_1 < (l0.length : Int) := oD
   obtain ⟨ad101, e101, hx101_0⟩ := Kd.at_int HR0.out x3_1 p101 q101
   cases e101
   replace p101 := eq_true p101
   replace q101 := eq_true q101
   go_wp2_with (first | ((with_reducible refine gate_callee (f := 52) rfl ?_); refine goesW_ (some 14) Try.func52 #[.int .i64 1, .int .i64 (rd l0 x3_1), .int .i64 8] ?_; (with_reducible refine (dropperref08_from.calls 1 (rd l0 x3_1) 8 true _ A4.out).mono ?_); rintro e w' ⟨rfl, ⟨nd, rfl⟩⟩; refine ⟨_, rfl, ?_⟩))
   go_roundg k1
   case measure => have := HK1.out; omega
   case rel => exact ⟨(wrap64 (x3_1 + 1)), eS, H', ⟨by have := HK1.out; omega⟩, by repeat (first | exact Drawn0.refl _ | apply Drawn0.step)⟩
def dropperref08_Count.l0 : Nat → List Int → Int → Int → Option (Int)
 | 0, _, _, _ => none
 | k + 1, x0, x3, x4 => if x4 < (x0.length : Int) then (if 0 ≤ x4 then (dropperref08_Count.l0 k x0 (wrap64 (x3 * (rd x0 x4))) (wrap64 (x4 + 1))) else (none)) else (some x3)
def dropperref08_Count.f (k : Nat) (l0 : List Int) : Option (Int) := dropperref08_Count.l0 k l0 1 0
theorem dropperref08_Count.mono_l : ∀ k, (∀ y0 y1 y2, LeO (dropperref08_Count.l0 k y0 y1 y2) (dropperref08_Count.l0 (k + 1) y0 y1 y2))
 | 0 => fun _ _ _ r h => by simp [dropperref08_Count.l0] at h
 | k + 1 => by
  have ih0 := dropperref08_Count.mono_l k
  ·intro y0 y1 y2
   unfold dropperref08_Count.l0
   repeat' first
   | (with_reducible exact ih0 _ _ _)
   | (with_reducible exact LeO.refl _)
   | (with_reducible exact LeO.none _)
   | (with_reducible refine LeO.ite ?_ ?_)
   | (with_reducible refine LeO.bind ?_ (fun _ => ?_))
   | exact ih0 _ _ _
   | exact LeO.none _
   | refine LeO.ite ?_ ?_
   | refine LeO.bind ?_ (fun _ => ?_)
theorem dropperref08_Count.mono : ∀ a0 k, LeO (dropperref08_Count.f k a0) (dropperref08_Count.f (k + 1) a0) := by
 intro a0 k
 have ih0 := dropperref08_Count.mono_l k
 unfold dropperref08_Count.f
 repeat' first
   | (with_reducible exact ih0 _ _ _)
   | (with_reducible exact LeO.refl _)
   | (with_reducible exact LeO.none _)
   | (with_reducible refine LeO.ite ?_ ?_)
   | (with_reducible refine LeO.bind ?_ (fun _ => ?_))
   | exact ih0 _ _ _
   | exact LeO.none _
   | refine LeO.ite ?_ ?_
   | refine LeO.bind ?_ (fun _ => ?_)
set_option maxHeartbeats 8000000 in
set_option maxRecDepth 100000 in
theorem dropperref08_Count.calls (k : Nat) (A0 : Option Addr) (c0 : Nat) (l0 : List Int) (r : Int) (w : World) (hr0 : Kd.C (Kd.int .i64) w A0 l0.length l0) (hc0 : l0.length ≤ c0) (h : dropperref08_Count.f k l0 = some r) :
  Calls Try.prog 42 #[.slice A0 l0.length c0] w fun e w' => e = .returned (.int .i64 r) ∧ Drawn0 w w' := by
 have HR0 := A_ hr0
 have HC0 := A_ hc0
 clear hr0 hc0
 have H : (dropperref08_Count.l0 k l0 1 0) = some r := h
 clear h
 have H' := A_ H
 clear H
 go_enter Try.func42, Try.ntmps42
 go_wp2
 go_loopg [3, 4] k (fun kq v3 v4 w' => ∃ (x3_1 : Int) (x4_1 : Int), v3 = .int .i64 x3_1 ∧ v4 = .int .i64 x4_1 ∧ Aside0 (dropperref08_Count.l0 kq l0 x3_1 x4_1 = some r) ∧ Aside0 (kq ≤ k) ∧ Drawn0 w w')
 case atStart => exact ⟨(1), (0), eS, eS, H', ⟨Nat.le_refl _⟩, by repeat (first | exact Drawn0.refl _ | apply Drawn0.step)⟩
 case round =>
  clear H'
  obtain ⟨x3_1, x4_1, rfl, rfl, HA, HK1, ⟨m1, rfl⟩⟩ := hrel
  cases gk with
  | zero => exact absurd HA.out (by simp [dropperref08_Count.l0])
  | succ k1 =>
   have H := HA.out
   clear HA
   simp only [dropperref08_Count.l0] at H
   by_cases c2 : x4_1 < (l0.length : Int)
   rotate_left
   ·rw [if_neg c2] at H
    have c2b0 : decide (x4_1 < (l0.length : Int)) = false := decide_eq_false c2
    clear c2
    obtain rfl := Option.some.inj H
    go_wp2
    go_ret
    exact ⟨by first | rfl | (simp; done) | (simp [*]; done), by repeat (first | exact Drawn0.refl _ | apply Drawn0.step)⟩
   rw [if_pos c2] at H
   have c2b0 : decide (x4_1 < (l0.length : Int)) = true := decide_eq_true c2
   clear c2
   by_cases c3 : 0 ≤ x4_1
   rotate_left
   ·rw [if_neg c3] at H
    exact absurd H (by simp)
   rw [if_pos c3] at H
   have c3b0 : decide (0 ≤ x4_1) = true := decide_eq_true c3
   clear c3
   have H' := A_ H
   clear H
   have p101 : 0 ≤ (x4_1 : Int) := oD
   have q101 : x4_1 < (l0.length : Int) := oD
   obtain ⟨ad101, e101, hx101_0⟩ := Kd.at_int HR0.out x4_1 p101 q101
   cases e101
   replace p101 := eq_true p101
   replace q101 := eq_true q101
   go_wp2
   go_roundg k1
   case measure => have := HK1.out; omega
   case rel => exact ⟨(wrap64 (x3_1 * (rd l0 x4_1))), (wrap64 (x4_1 + 1)), eS, eS, H', ⟨by have := HK1.out; omega⟩, by repeat (first | exact Drawn0.refl _ | apply Drawn0.step)⟩
def dropperlaw08_Many.l0 : Nat → List Int → List (List Int) → Int → Option (Bool)
 | 0, _, _, _ => none
 | k + 1, x0, x1, x5 => if x5 < (x1.length : Int) then (if 0 ≤ x5 then (if ((rd_L1 x1 x5).length : Int) > 300 then (some true) else (dropperlaw08_Many.l0 k x0 x1 (wrap64 (x5 + 1)))) else (none)) else (if (x0.length : Int) > 20 then (some true) else ((dropperref08_Valid.f k x0).bind fun t102 => (if t102 = true then ((dropperref08_Count.f k x0).bind fun t103 => (some (decide (t103 > 3000)))) else (some false))))
def dropperlaw08_Many.f (k : Nat) (l0 : List Int) (l1 : List (List Int)) : Option (Bool) := dropperlaw08_Many.l0 k l0 l1 0
theorem dropperlaw08_Many.mono_l : ∀ k, (∀ y0 y1 y2, LeO (dropperlaw08_Many.l0 k y0 y1 y2) (dropperlaw08_Many.l0 (k + 1) y0 y1 y2))
 | 0 => fun _ _ _ r h => by simp [dropperlaw08_Many.l0] at h
 | k + 1 => by
  have ih0 := dropperlaw08_Many.mono_l k
  ·intro y0 y1 y2
   unfold dropperlaw08_Many.l0
   repeat' first
   | (with_reducible exact ih0 _ _ _)
   | (with_reducible exact dropperref08_Count.mono _ _)
   | (with_reducible exact dropperref08_Valid.mono _ _)
   | (with_reducible exact LeO.refl _)
   | (with_reducible exact LeO.none _)
   | (with_reducible refine LeO.ite ?_ ?_)
   | (with_reducible refine LeO.bind ?_ (fun _ => ?_))
   | exact ih0 _ _ _
   | exact dropperref08_Count.mono _ _
   | exact dropperref08_Valid.mono _ _
   | exact LeO.none _
   | refine LeO.ite ?_ ?_
   | refine LeO.bind ?_ (fun _ => ?_)
theorem dropperlaw08_Many.mono : ∀ a0 a1 k, LeO (dropperlaw08_Many.f k a0 a1) (dropperlaw08_Many.f (k + 1) a0 a1) := by
 intro a0 a1 k
 have ih0 := dropperlaw08_Many.mono_l k
 unfold dropperlaw08_Many.f
 repeat' first
   | (with_reducible exact ih0 _ _ _)
   | (with_reducible exact dropperref08_Count.mono _ _)
   | (with_reducible exact dropperref08_Valid.mono _ _)
   | (with_reducible exact LeO.refl _)
   | (with_reducible exact LeO.none _)
   | (with_reducible refine LeO.ite ?_ ?_)
   | (with_reducible refine LeO.bind ?_ (fun _ => ?_))
   | exact ih0 _ _ _
   | exact dropperref08_Count.mono _ _
   | exact dropperref08_Valid.mono _ _
   | exact LeO.none _
   | refine LeO.ite ?_ ?_
   | refine LeO.bind ?_ (fun _ => ?_)
set_option maxHeartbeats 8000000 in
set_option maxRecDepth 100000 in
theorem dropperlaw08_Many.calls (k : Nat) (A0 : Option Addr) (c0 : Nat) (l0 : List Int) (A1 : Option Addr) (c1 : Nat) (l1 : List (List Int)) (r : Bool) (w : World) (hr0 : Kd.C (Kd.int .i64) w A0 l0.length l0) (hc0 : l0.length ≤ c0) (hr1 : Kd.C (Kd.slice 3 (Kd.int .i64)) w A1 l1.length l1) (hc1 : l1.length ≤ c1) (h : dropperlaw08_Many.f k l0 l1 = some r) :
  Calls Try.prog 20 #[.slice A0 l0.length c0, .slice A1 l1.length c1] w fun e w' => e = .returned (.bool r) ∧ Drawn0 w w' := by
 have HR0 := A_ hr0
 have HC0 := A_ hc0
 clear hr0 hc0
 have HR1 := A_ hr1
 have HC1 := A_ hc1
 clear hr1 hc1
 have H : (dropperlaw08_Many.l0 k l0 l1 0) = some r := h
 clear h
 have H' := A_ H
 clear H
 go_enter Try.func20, Try.ntmps20
 go_wp2
 go_loopg [5] k (fun kq v5 w' => ∃ (x5_1 : Int), v5 = .int .i64 x5_1 ∧ Aside0 (dropperlaw08_Many.l0 kq l0 l1 x5_1 = some r) ∧ Aside0 (kq ≤ k) ∧ Drawn0 w w')
 case atStart => exact ⟨(0), eS, H', ⟨Nat.le_refl _⟩, by repeat (first | exact Drawn0.refl _ | apply Drawn0.step)⟩
 case round =>
  clear H'
  try clear c1; try clear c2; try clear p2
  obtain ⟨x5_1, rfl, HA, HK1, ⟨m1, rfl⟩⟩ := hrel
  cases gk with
  | zero => exact absurd HA.out (by simp [dropperlaw08_Many.l0])
  | succ k1 =>
   have H := HA.out
   clear HA
   simp only [dropperlaw08_Many.l0] at H
   by_cases c3 : x5_1 < (l1.length : Int)
   ·rw [if_pos c3] at H
    have c3b0 : decide (x5_1 < (l1.length : Int)) = true := decide_eq_true c3
    clear c3
    by_cases c4 : 0 ≤ x5_1
    rotate_left
    ·rw [if_neg c4] at H
     exact absurd H (by simp)
    rw [if_pos c4] at H
    have c4b0 : decide (0 ≤ x5_1) = true := decide_eq_true c4
    clear c4
    by_cases c5 : ((rd_L1 l1 x5_1).length : Int) > 300
    ·rw [if_pos c5] at H
     have c5b0 : decide (300 < ((rd_L1 l1 x5_1).length : Int)) = true := decide_eq_true c5
     have c5b1 : decide (300 < (rd_L1 l1 x5_1).length) = true := decide_eq_true (by omega)
     clear c5
     obtain rfl := Option.some.inj H
     have p101 : 0 ≤ (x5_1 : Int) := oD
     have q101 : x5_1 < (l1.length : Int) := oD
     obtain ⟨ad101, A101_0, c101_0, e101, hx101_0, hl101_0, hi101_0⟩ := at_L1 HR1.out x5_1 p101 q101
     cases e101
     have HR101_0 := A_ hi101_0
     have HC101_0 := A_ hl101_0
     clear hi101_0 hl101_0
     replace p101 := eq_true p101
     replace q101 := eq_true q101
     go_wp2
     go_ret
     exact ⟨by first | rfl | (simp; done) | (simp [*]; done), by repeat (first | exact Drawn0.refl _ | apply Drawn0.step)⟩
    rw [if_neg c5] at H
    have c5b0 : decide (300 < ((rd_L1 l1 x5_1).length : Int)) = false := decide_eq_false c5
    have c5b1 : decide (300 < (rd_L1 l1 x5_1).length) = false := decide_eq_false (by omega)
    clear c5
    have H' := A_ H
    clear H
    have p101 : 0 ≤ (x5_1 : Int) := oD
    have q101 : x5_1 < (l1.length : Int) := oD
    obtain ⟨ad101, A101_0, c101_0, e101, hx101_0, hl101_0, hi101_0⟩ := at_L1 HR1.out x5_1 p101 q101
    cases e101
    have HR101_0 := A_ hi101_0
    have HC101_0 := A_ hl101_0
    clear hi101_0 hl101_0
    replace p101 := eq_true p101
    replace q101 := eq_true q101
    go_wp2
    go_roundg k1
    case measure => have := HK1.out; omega
    case rel => exact ⟨(wrap64 (x5_1 + 1)), eS, H', ⟨by have := HK1.out; omega⟩, by repeat (first | exact Drawn0.refl _ | apply Drawn0.step)⟩
   rw [if_neg c3] at H
   have c3b0 : decide (x5_1 < (l1.length : Int)) = false := decide_eq_false c3
   clear c3
   by_cases c6 : (l0.length : Int) > 20
   ·rw [if_pos c6] at H
    have c6b0 : decide (20 < (l0.length : Int)) = true := decide_eq_true c6
    have c6b1 : decide (20 < l0.length) = true := decide_eq_true (by omega)
    clear c6
    obtain rfl := Option.some.inj H
    go_wp2
    go_ret
    exact ⟨by first | rfl | (simp; done) | (simp [*]; done), by repeat (first | exact Drawn0.refl _ | apply Drawn0.step)⟩
   rw [if_neg c6] at H
   have c6b0 : decide (20 < (l0.length : Int)) = false := decide_eq_false c6
   have c6b1 : decide (20 < l0.length) = false := decide_eq_false (by omega)
   clear c6
   replace H := Option.bind_eq_some_iff.mp H
   obtain ⟨t102, A70, H⟩ := H
   replace H : (if t102 = true then ((dropperref08_Count.f k1 l0).bind fun t103 => (some (decide (t103 > 3000)))) else (some false)) = some r := H
   have A7 := A_ A70
   clear A70
   by_cases c8 : t102 = true
   rotate_left
   ·replace c8 := Bool.eq_false_iff.mpr c8
    subst c8
    have H1 : (some false) = some r := by rw [if_neg (show ¬ (false = true) by decide)] at H; exact H
    clear H
    have H := H1
    clear H1
    obtain rfl := Option.some.inj H
    go_wp2_with (first | (go_at_call 30; (with_reducible refine (dropperref08_Valid.calls k1 _ _ l0 false _ ?side1 ?side2 A7.out).mono ?_); (case side1 => exact cU HR0.out); (case side2 => exact HC0.out); rintro e w' ⟨rfl, ⟨nd, rfl⟩⟩))
    go_ret
    exact ⟨by first | rfl | (simp; done) | (simp [*]; done), by repeat (first | exact Drawn0.refl _ | apply Drawn0.step)⟩
   subst c8
   have H1 : ((dropperref08_Count.f k1 l0).bind fun t103 => (some (decide (t103 > 3000)))) = some r := by rw [if_pos rfl] at H; exact H
   clear H
   have H := H1
   clear H1
   replace H := Option.bind_eq_some_iff.mp H
   obtain ⟨t103, A90, H⟩ := H
   replace H : (some (decide (t103 > 3000))) = some r := H
   have A9 := A_ A90
   clear A90
   obtain rfl := Option.some.inj H
   go_wp2_with (first | (go_at_call 30; (with_reducible refine (dropperref08_Valid.calls k1 _ _ l0 true _ ?side1 ?side2 A7.out).mono ?_); (case side1 => exact cU HR0.out); (case side2 => exact HC0.out); rintro e w' ⟨rfl, ⟨nd, rfl⟩⟩) | (go_at_call 42; (with_reducible refine (dropperref08_Count.calls k1 _ _ l0 t103 _ ?side1 ?side2 A9.out).mono ?_); (case side1 => exact cU HR0.out); (case side2 => exact HC0.out); rintro e w' ⟨rfl, ⟨nd, rfl⟩⟩))
   go_ret
   exact ⟨by first | rfl | (simp; done) | (simp [*]; done), by repeat (first | exact Drawn0.refl _ | apply Drawn0.step)⟩
end Go.Proofs.Ythbpibdfookbmaa.G
end
