-- Written by this session's driver (wip/tools/printmore.py) over the kit's print, with hand-written parts.
import Derived.Test.YtciepmpadcpkbaaGBase
import Derived.Test.YtciepmpadcpkbaaGQ55
import Derived.Test.YtciepmpadcpkbaaGF15
import Derived.Test.YtciepmpadcpkbaaGF21
import Derived.Test.YtciepmpadcpkbaaGF29
import Derived.Test.YtciepmpadcpkbaaGF32
namespace Go.Proofs.Ytciepmpadcpkbaa.G
open Go.RowKit Go.Proofs.YtciepmpadcpkbaaW.PrintWords Go.Proofs.YtciepmpadcpkbaaW.PrintLast Go.Proofs.YtciepmpadcpkbaaW.PrintMore
attribute [local go_sem] max2_int min2_int max_two min_two max_three min_three max_four min_four   -- for this text's walks alone
set_option linter.unusedVariables false
set_option linter.unusedSimpArgs false

attribute [local go_sem high] eqA55
/-! ### dropperlaw02_Awake: function 14 -/
def dropperlaw02_Awake.f (k : Nat)  : Option (Bool) := (some (([(⟨0, 5000, 5500⟩ : S72), (⟨100, 4700, 4800⟩ : S72), (⟨200, 5000, 5500⟩ : S72)] : List (S72)) : List (S72))).bind fun y101 => ((wire_Lowest.f k y101 2 1).bind fun bt104 => ((wire_Clash.f k y101 1 1).bind fun bt108 => ((wire_Sag.f k 10 60 1000).bind fun bt111 => (if bt104.2 = 0 then (if bt108.2.2 = 0 then (if bt111.2.2 = 0 then ((dropperlaw02_SameInts.f k bt104.1 (([5000, 4800, 5000] : List Int))).bind fun t118 => (if t118 = true then (if bt108.1 = 0 then (if bt108.2.1 = 1 then (some (bt111.1 == 9 && (bt111.2.1 == 2))) else (some false)) else (some false)) else (some false))) else (some false)) else (some false)) else (some false)))))
theorem dropperlaw02_Awake.mono : ∀ k, LeO (dropperlaw02_Awake.f k ) (dropperlaw02_Awake.f (k + 1) ) := by
 intro  k
 unfold dropperlaw02_Awake.f
 repeat' first
   | (with_reducible exact dropperlaw02_SameInts.mono _ _ _)
   | (with_reducible exact wire_Clash.mono _ _ _ _)
   | (with_reducible exact wire_Lowest.mono _ _ _ _)
   | (with_reducible exact wire_Sag.mono _ _ _ _)
   | (with_reducible exact LeO.refl _)
   | (with_reducible exact LeO.none _)
   | (with_reducible refine LeO.ite ?_ ?_)
   | (with_reducible refine LeO.bind ?_ (fun _ => ?_))
   | exact dropperlaw02_SameInts.mono _ _ _
   | exact wire_Clash.mono _ _ _ _
   | exact wire_Lowest.mono _ _ _ _
   | exact wire_Sag.mono _ _ _ _
   | exact LeO.none _
   | refine LeO.ite ?_ ?_
   | refine LeO.bind ?_ (fun _ => ?_)
set_option maxHeartbeats 8000000 in
set_option maxRecDepth 100000 in
theorem dropperlaw02_Awake.calls_true (k : Nat)  (r : Bool) (w : World) (h : dropperlaw02_Awake.f k  = some r) (hT : r = true) :
  Calls Try.prog 14 #[] w fun e w' => e = .returned (.bool r) ∧ Below w.heap.size w w' := by
 have hu72 := Try.underlying72
 have hu55 := Try.underlying55
 have HB := A_ (Below.refl w.heap.size w)
 have H : ((some (([(⟨0, 5000, 5500⟩ : S72), (⟨100, 4700, 4800⟩ : S72), (⟨200, 5000, 5500⟩ : S72)] : List (S72)) : List (S72))).bind fun y101 => ((wire_Lowest.f k y101 2 1).bind fun bt104 => ((wire_Clash.f k y101 1 1).bind fun bt108 => ((wire_Sag.f k 10 60 1000).bind fun bt111 => (if bt104.2 = 0 then (if bt108.2.2 = 0 then (if bt111.2.2 = 0 then ((dropperlaw02_SameInts.f k bt104.1 (([5000, 4800, 5000] : List Int))).bind fun t118 => (if t118 = true then (if bt108.1 = 0 then (if bt108.2.1 = 1 then (some (bt111.1 == 9 && (bt111.2.1 == 2))) else (some false)) else (some false)) else (some false))) else (some false)) else (some false)) else (some false)))))) = some r := h
 clear h
 obtain ⟨y101, hy101⟩ : ∃ y_ : List (S72), y_ = (([(⟨0, 5000, 5500⟩ : S72), (⟨100, 4700, 4800⟩ : S72), (⟨200, 5000, 5500⟩ : S72)] : List (S72))) := ⟨_, rfl⟩
 replace H : ((wire_Lowest.f k y101 2 1).bind fun bt104 => ((wire_Clash.f k y101 1 1).bind fun bt108 => ((wire_Sag.f k 10 60 1000).bind fun bt111 => (if bt104.2 = 0 then (if bt108.2.2 = 0 then (if bt111.2.2 = 0 then ((dropperlaw02_SameInts.f k bt104.1 (([5000, 4800, 5000] : List Int))).bind fun t118 => (if t118 = true then (if bt108.1 = 0 then (if bt108.2.1 = 1 then (some (bt111.1 == 9 && (bt111.2.1 == 2))) else (some false)) else (some false)) else (some false))) else (some false)) else (some false)) else (some false))))) = some r := by first | (rw [hy101]; with_reducible exact H) | (have H2_ := (Option.bind_some _ _).symm.trans H; rw [hy101]; with_reducible exact H2_) | (have H2_ := (Option.bind_some _ _).symm.trans H; with_reducible exact H2_) | with_reducible exact H | (rw [hy101]; exact H) | exact H
 have Ny101 := A_ hy101
 clear hy101
 replace H := Option.bind_eq_some_iff.mp H
 obtain ⟨⟨t104, t105⟩, A10, H⟩ := H
 replace H : ((wire_Clash.f k y101 1 1).bind fun bt108 => ((wire_Sag.f k 10 60 1000).bind fun bt111 => (if t105 = 0 then (if bt108.2.2 = 0 then (if bt111.2.2 = 0 then ((dropperlaw02_SameInts.f k t104 (([5000, 4800, 5000] : List Int))).bind fun t118 => (if t118 = true then (if bt108.1 = 0 then (if bt108.2.1 = 1 then (some (bt111.1 == 9 && (bt111.2.1 == 2))) else (some false)) else (some false)) else (some false))) else (some false)) else (some false)) else (some false)))) = some r := H
 have A1 := A_ A10
 clear A10
 replace H := Option.bind_eq_some_iff.mp H
 obtain ⟨⟨t108, t109, t110⟩, A20, H⟩ := H
 replace H : ((wire_Sag.f k 10 60 1000).bind fun bt111 => (if t105 = 0 then (if t110 = 0 then (if bt111.2.2 = 0 then ((dropperlaw02_SameInts.f k t104 (([5000, 4800, 5000] : List Int))).bind fun t118 => (if t118 = true then (if t108 = 0 then (if t109 = 1 then (some (bt111.1 == 9 && (bt111.2.1 == 2))) else (some false)) else (some false)) else (some false))) else (some false)) else (some false)) else (some false))) = some r := H
 have A2 := A_ A20
 clear A20
 replace H := Option.bind_eq_some_iff.mp H
 obtain ⟨⟨t111, t112, t113⟩, A30, H⟩ := H
 replace H : (if t105 = 0 then (if t110 = 0 then (if t113 = 0 then ((dropperlaw02_SameInts.f k t104 (([5000, 4800, 5000] : List Int))).bind fun t118 => (if t118 = true then (if t108 = 0 then (if t109 = 1 then (some (t111 == 9 && (t112 == 2))) else (some false)) else (some false)) else (some false))) else (some false)) else (some false)) else (some false)) = some r := H
 have A3 := A_ A30
 clear A30
 by_cases c4 : t105 = 0
 rotate_left
 ·rw [if_neg c4] at H
  have c4b0 : (t105 == 0) = false := beq_eq_false_iff_ne.mpr c4
  have c4b1 : (t105 != 0) = true := bne_iff_ne.mpr c4
  exact absurd (hT.symm.trans (Option.some.inj H).symm) (by decide)
 rw [if_pos c4] at H
 have c4b0 : (t105 == 0) = true := beq_iff_eq.mpr c4
 have c4b1 : (t105 != 0) = false := bne_eq_false_iff_eq.mpr c4
 clear c4
 by_cases c5 : t110 = 0
 rotate_left
 ·rw [if_neg c5] at H
  have c5b0 : (t110 == 0) = false := beq_eq_false_iff_ne.mpr c5
  have c5b1 : (t110 != 0) = true := bne_iff_ne.mpr c5
  exact absurd (hT.symm.trans (Option.some.inj H).symm) (by decide)
 rw [if_pos c5] at H
 have c5b0 : (t110 == 0) = true := beq_iff_eq.mpr c5
 have c5b1 : (t110 != 0) = false := bne_eq_false_iff_eq.mpr c5
 clear c5
 by_cases c6 : t113 = 0
 rotate_left
 ·rw [if_neg c6] at H
  have c6b0 : (t113 == 0) = false := beq_eq_false_iff_ne.mpr c6
  have c6b1 : (t113 != 0) = true := bne_iff_ne.mpr c6
  exact absurd (hT.symm.trans (Option.some.inj H).symm) (by decide)
 rw [if_pos c6] at H
 have c6b0 : (t113 == 0) = true := beq_iff_eq.mpr c6
 have c6b1 : (t113 != 0) = false := bne_eq_false_iff_eq.mpr c6
 clear c6
 obtain ⟨y115, hy115⟩ : ∃ y_ : List Int, y_ = (([5000, 4800, 5000] : List Int)) := ⟨_, rfl⟩
 replace H : ((dropperlaw02_SameInts.f k t104 y115).bind fun t118 => (if t118 = true then (if t108 = 0 then (if t109 = 1 then (some (t111 == 9 && (t112 == 2))) else (some false)) else (some false)) else (some false))) = some r := by first | (rw [hy115]; with_reducible exact H) | (have H2_ := (Option.bind_some _ _).symm.trans H; rw [hy115]; with_reducible exact H2_) | (have H2_ := (Option.bind_some _ _).symm.trans H; with_reducible exact H2_) | with_reducible exact H | (rw [hy115]; exact H) | exact H
 have Ny115 := A_ hy115
 clear hy115
 replace H := Option.bind_eq_some_iff.mp H
 obtain ⟨t118, A70, H⟩ := H
 replace H : (if t118 = true then (if t108 = 0 then (if t109 = 1 then (some (t111 == 9 && (t112 == 2))) else (some false)) else (some false)) else (some false)) = some r := H
 have A7 := A_ A70
 clear A70
 by_cases c8 : t118 = true
 rotate_left
 ·replace c8 := Bool.eq_false_iff.mpr c8
  subst c8
  have H1 : (some false) = some r := by rw [if_neg (show ¬ (false = true) by decide)] at H; exact H
  clear H
  have H := H1
  clear H1
  exact absurd (hT.symm.trans (Option.some.inj H).symm) (by decide)
 subst c8
 have H1 : (if t108 = 0 then (if t109 = 1 then (some (t111 == 9 && (t112 == 2))) else (some false)) else (some false)) = some r := by rw [if_pos rfl] at H; exact H
 clear H
 have H := H1
 clear H1
 by_cases c9 : t108 = 0
 rotate_left
 ·rw [if_neg c9] at H
  have c9b0 : (t108 == 0) = false := beq_eq_false_iff_ne.mpr c9
  have c9b1 : (t108 != 0) = true := bne_iff_ne.mpr c9
  exact absurd (hT.symm.trans (Option.some.inj H).symm) (by decide)
 rw [if_pos c9] at H
 have c9b0 : (t108 == 0) = true := beq_iff_eq.mpr c9
 have c9b1 : (t108 != 0) = false := bne_eq_false_iff_eq.mpr c9
 clear c9
 by_cases c10 : t109 = 1
 rotate_left
 ·rw [if_neg c10] at H
  have c10b0 : (t109 == 1) = false := beq_eq_false_iff_ne.mpr c10
  have c10b1 : (t109 != 1) = true := bne_iff_ne.mpr c10
  exact absurd (hT.symm.trans (Option.some.inj H).symm) (by decide)
 rw [if_pos c10] at H
 have c10b0 : (t109 == 1) = true := beq_iff_eq.mpr c10
 have c10b1 : (t109 != 1) = false := bne_eq_false_iff_eq.mpr c10
 clear c10
 clear hT
 obtain rfl := Option.some.inj H
 go_enter Try.func14, Try.ntmps14
 go_wp2_with (first | ((with_reducible refine gate_dst (N := 12) rfl ?_); (try (refine gate_guard (by rfl) ?_; dsimp only)); refine Kd.R_lit k72 _ 72 ?hg (N := 12) ?hd (xs := ([(⟨0, 5000, 5500⟩ : S72), (⟨100, 4700, 4800⟩ : S72), (⟨200, 5000, 5500⟩ : S72)] : List (S72))) (inner := [.int .i64 0, .int .i64 5000, .int .i64 5500, .int .i64 100, .int .i64 4700, .int .i64 4800, .int .i64 200, .int .i64 5000, .int .i64 5500]) (ok := fun _ => True) (okp := fun _ => True) ?hr ?hp (fun _ hk => hk) trivial (Below.refl _ _) (Nat.le_refl _) (by simp) ?_; (case hd => rfl); (case hg => rfl); (case hr => first | (go_simp; done) | (go_simp; rfl)); (case hp => exact (Reps.c3 (show Kd.M k72 _ _ _ (⟨0, 5000, 5500⟩ : S72) [.int .i64 0, .int .i64 5000, .int .i64 5500] from (k72_mkM _ _ _ (⟨0, 5000, 5500⟩ : S72) )) (Reps.c3 (show Kd.M k72 _ _ _ (⟨100, 4700, 4800⟩ : S72) [.int .i64 100, .int .i64 4700, .int .i64 4800] from (k72_mkM _ _ _ (⟨100, 4700, 4800⟩ : S72) )) (Reps.c3 (show Kd.M k72 _ _ _ (⟨200, 5000, 5500⟩ : S72) [.int .i64 200, .int .i64 5000, .int .i64 5500] from (k72_mkM _ _ _ (⟨200, 5000, 5500⟩ : S72) )) (Reps.none _ _))))); intro v102 w11 ho12 hb hg_ hnew_; clear hg_ hnew_; (first | rw [← Ny101.out] at ho12 | (simp only [Int.reduceToNat] at ho12; rw [← Ny101.out] at ho12)); have n0_ := A_ (Kd.R_lower ho12 (below_size (bW0 HB.out))); have n1_ := A_ (below_step (bW0 HB.out) hb); clear HB; have HO103 := n0_; have HB := n1_; clear n0_ n1_; clear hb ho12; obtain ⟨Ao13, co13, eo13⟩ := Kd.R_slice HO103.out; subst eo13) | ((with_reducible refine gate_callee (f := 21) rfl ?_); refine goesL_ (some 15) rfl rfl Try.func21 (by kernel_rfl) rfl #[.slice Ao13 y101.length co13, .int .i64 2, .int .i64 1] rfl (by (try simp only [List.map_toArray, List.map_cons, List.map_nil]); first | done | rfl | (simp only [List.length_drop, List.length_take]; rfl)) ?_; (with_reducible refine (wire_Lowest.calls k _ _ y101 2 1 t104 t105 _ ?side1 ?side2 A1.out).mono ?_); (case side1 => exact cU (Kd.R_reads' HO103.out).2.2); (case side2 => exact (Kd.R_reads' HO103.out).2.1); rintro e w14 ⟨v106, rfl, ho0, hb⟩; refine ⟨_, rfl, ?_⟩; have n0_ := A_ (Kd.R_below (rU HO103.out) hb); have n1_ := A_ (Kd.R_lower ho0 (below_size (bW0 HB.out))); have n2_ := A_ (below_step (bW0 HB.out) hb); clear HO103; clear HB; have HO103 := n0_; have HO107 := n1_; have HB := n2_; clear n0_ n1_ n2_; (try clear hb); (try clear hb2); (try clear hk); (try clear hi); (try clear ho0)) | ((with_reducible refine gate_callee (f := 15) rfl ?_); refine goesL_ (some 20) rfl rfl Try.func15 (by kernel_rfl) rfl #[.slice Ao13 y101.length co13, .int .i64 1, .int .i64 1] rfl (by (try simp only [List.map_toArray, List.map_cons, List.map_nil]); first | done | rfl | (simp only [List.length_drop, List.length_take]; rfl)) ?_; (with_reducible refine (wire_Clash.calls k _ _ y101 1 1 t108 t109 t110 _ ?side1 ?side2 A2.out).mono ?_); (case side1 => exact cU (Kd.R_reads' HO103.out).2.2); (case side2 => exact (Kd.R_reads' HO103.out).2.1); rintro e w15 ⟨rfl, hb⟩; refine ⟨_, rfl, ?_⟩; have n0_ := A_ (Kd.R_below (rU HO103.out) hb); have n1_ := A_ (Kd.R_below (rU HO107.out) hb); have n2_ := A_ (below_step (bW0 HB.out) hb); clear HO103; clear HO107; clear HB; have HO103 := n0_; have HO107 := n1_; have HB := n2_; clear n0_ n1_ n2_; (try clear hb); (try clear hb2); (try clear hk); (try clear hi)) | ((with_reducible refine gate_callee (f := 32) rfl ?_); refine goesL_ (some 25) rfl rfl Try.func32 (by kernel_rfl) rfl #[.int .i64 10, .int .i64 60, .int .i64 1000] rfl (by (try simp only [List.map_toArray, List.map_cons, List.map_nil]); first | done | rfl | (simp only [List.length_drop, List.length_take]; rfl)) ?_; (with_reducible refine (wire_Sag.calls k 10 60 1000 t111 t112 t113 _ A3.out).mono ?_); rintro e w16 ⟨rfl, hb⟩; refine ⟨_, rfl, ?_⟩; have n0_ := A_ (Kd.R_below (rU HO103.out) hb); have n1_ := A_ (Kd.R_below (rU HO107.out) hb); have n2_ := A_ (below_step (bW0 HB.out) hb); clear HO103; clear HO107; clear HB; have HO103 := n0_; have HO107 := n1_; have HB := n2_; clear n0_ n1_ n2_; (try clear hb); (try clear hb2); (try clear hk); (try clear hi)) | ((with_reducible refine gate_dst (N := 7) rfl ?_); (try (refine gate_guard (by rfl) ?_; dsimp only)); refine box_event ?hg (N := 7) ?hd (cs := #[.int .i64 0, .int .i64 0]) (t := 55) ?hr ?_; (case hd => rfl); (case hg => rfl); (case hr => first | (go_simp; done) | (go_simp; rfl)); intro gb114 hg w17 hbox hb; have n0_ := A_ (Kd.R_below (rU HO103.out) hb); have n1_ := A_ (Kd.R_below (rU HO107.out) hb); have n2_ := A_ (below_step (bW0 HB.out) hb); have n3_ := A_ (hbox); have n4_ := A_ ((szG hg (bW0 HB.out))); have n5_ := A_ ((szG hg (bW0 HB.out))); clear HO103; clear HO107; clear HB; have HO103 := n0_; have HO107 := n1_; have HB := n2_; have BK114 := n3_; have GW114 := n4_; have GE114 := n5_; clear n0_ n1_ n2_ n3_ n4_ n5_; clear hb hbox hg; have hcz18_0 : w17.cell? ⟨gb114, 0, none⟩ = some (.int .i64 0) := (blk_cell BK114.out 0).trans rfl; have hcz18_1 : w17.cell? ⟨gb114, 1, none⟩ = some (.int .i64 0) := (blk_cell BK114.out 1).trans rfl; have hfz18_0 := blk_frozen BK114.out 0; have hfz18_1 := blk_frozen BK114.out 1) | ((with_reducible refine gate_dst (N := 40) rfl ?_); (try (refine gate_guard (by rfl) ?_; dsimp only)); refine Kd.R_lit (Kd.int .i64) _ 3 ?hg (N := 40) ?hd (xs := ([5000, 4800, 5000] : List Int)) (inner := [.int .i64 5000, .int .i64 4800, .int .i64 5000]) (ok := fun _ => True) (okp := fun _ => True) ?hr ?hp (fun _ hk => hk) trivial (Below.refl _ _) (Nat.le_refl _) (by simp) ?_; (case hd => rfl); (case hg => rfl); (case hr => first | (go_simp; done) | (go_simp; rfl)); (case hp => exact (Reps.one (show Kd.M (Kd.int .i64) _ _ _ 5000 [.int .i64 5000] from rfl) (Reps.one (show Kd.M (Kd.int .i64) _ _ _ 4800 [.int .i64 4800] from rfl) (Reps.one (show Kd.M (Kd.int .i64) _ _ _ 5000 [.int .i64 5000] from rfl) (Reps.none _ _))))); intro v116 w19 ho20 hb hg_ hnew_; clear hg_ hnew_; (first | rw [← Ny115.out] at ho20 | (simp only [Int.reduceToNat] at ho20; rw [← Ny115.out] at ho20)); have n0_ := A_ (Kd.R_below (by (with_reducible repeat (first | apply Kd.R_alloc | apply Kd.R_drewN | apply Kd.R_drew)); exact (Kd.R_mono (Kd.R_far (p := ⟨gb114, 1, none⟩) (Kd.R_far (p := ⟨gb114, 0, none⟩) (Kd.R_types HO103.out BK114.out (by decide)) (fun _ hk => hk.2) (.int .i64 t111)) (fun _ hk => hk.2) (.int .i64 t112)) (fun _ h_ => h_.1))) hb); have n1_ := A_ (Kd.R_elder' (by (with_reducible repeat (first | apply Kd.R_alloc | apply Kd.R_drewN | apply Kd.R_drew)); exact (Kd.R_mono (Kd.R_far (p := ⟨gb114, 1, none⟩) (Kd.R_far (p := ⟨gb114, 0, none⟩) (Kd.R_types HO107.out BK114.out (by decide)) (fun _ hk => hk.2) (.int .i64 t111)) (fun _ hk => hk.2) (.int .i64 t112)) (fun _ h_ => h_.1))) (Kd.R_base ho20) hb); have n2_ := A_ (Kd.R_lower (Kd.R_new' ho20 (Kd.R_lt (by (with_reducible repeat (first | apply Kd.R_alloc | apply Kd.R_drewN | apply Kd.R_drew)); exact (Kd.R_mono (Kd.R_far (p := ⟨gb114, 1, none⟩) (Kd.R_far (p := ⟨gb114, 0, none⟩) (Kd.R_types HO107.out BK114.out (by decide)) (fun _ hk => hk.2) (.int .i64 t111)) (fun _ hk => hk.2) (.int .i64 t112)) (fun _ h_ => h_.1))))) (below_size (bW1 HB.out GE114.out))); have n3_ := A_ (blk_below (g := gb114) (o := .cells #[.int .i64 t111, .int .i64 t112] 55 (0, 0)) (by (with_reducible repeat (first | refine blk_drewN ?_ _ | refine blk_drew ?_ | refine blk_alloc ?_ _)); refine blk_put (cs := #[.int .i64 t111, .int .i64 0]) ?_ 1 _ rfl; (with_reducible repeat (first | refine blk_drewN ?_ _ | refine blk_drew ?_ | refine blk_alloc ?_ _)); refine blk_put (cs := #[.int .i64 0, .int .i64 0]) ?_ 0 _ rfl; exact bkU BK114) hb); have n4_ := A_ (below_step (bW1 HB.out GE114.out) hb); clear HO103; clear HO107; clear BK114; clear HB; have HO103 := n0_; have HO107 := n1_; have HO117 := n2_; have BK114 := n3_; have HB := n4_; clear n0_ n1_ n2_ n3_ n4_; clear hb ho20; obtain ⟨Ao21, co21, eo21⟩ := Kd.R_slice HO107.out; subst eo21; obtain ⟨Ao22, co22, eo22⟩ := Kd.R_slice HO117.out; subst eo22) | (go_at_call 29; (with_reducible refine (dropperlaw02_SameInts.calls k _ _ t104 _ _ y115 true _ ?side1 ?side2 ?side3 ?side4 A7.out).mono ?_); (case side1 => exact cU (Kd.R_reads' HO107.out).2.2); (case side2 => exact (Kd.R_reads' HO107.out).2.1); (case side3 => exact cU (Kd.R_reads' HO117.out).2.2); (case side4 => exact (Kd.R_reads' HO117.out).2.1); rintro e w' ⟨rfl, ⟨nd, rfl⟩⟩; have hcz23_0 : w19.cell? ⟨gb114, 0, none⟩ = some (.int .i64 t111) := (blk_cell BK114.out 0).trans rfl; have hcz23_1 : w19.cell? ⟨gb114, 1, none⟩ = some (.int .i64 t112) := (blk_cell BK114.out 1).trans rfl; have hfz23_0 := blk_frozen BK114.out 0; have hfz23_1 := blk_frozen BK114.out 1))
 go_ret
 exact ⟨by first | rfl | (simp [errW_none, errW_some] <;> rfl) | (simp [*, errW_none, errW_some] <;> rfl), by repeat (first | (with_reducible first | exact HB.out | apply below_alloc | apply pw_below_drewN | apply below_drew1 | refine below_set ?_ GE114.out) | exact HB.out)⟩
set_option maxRecDepth 100000 in
theorem dropperlaw02_Awake.is_true (k : Nat) (r : Bool) (h : dropperlaw02_Awake.f k = some r) : r = true := by
 have h0 : dropperlaw02_Awake.f 40 = some true := by decide +kernel
 rcases Nat.le_total k 40 with hk | hk
 ·exact Option.some.inj ((at_rounds (fun k => dropperlaw02_Awake.mono k) hk h).symm.trans h0)
 ·exact Option.some.inj (h.symm.trans (at_rounds (fun k => dropperlaw02_Awake.mono k) hk h0))
theorem dropperlaw02_Awake.calls (k : Nat)  (r : Bool) (w : World) (h : dropperlaw02_Awake.f k = some r) :
  Calls Try.prog 14 #[] w fun e w' => e = .returned (.bool r) ∧ Below w.heap.size w w' := dropperlaw02_Awake.calls_true k r w h (dropperlaw02_Awake.is_true k r h)

end Go.Proofs.Ytciepmpadcpkbaa.G
