-- Written by this session's driver (wip/tools/printmore.py) over the kit's print, with hand-written parts.
import Derived.Test.YtiapmkndgalgnaaGBase
import Derived.Test.YtiapmkndgalgnaaGQ24
import Derived.Test.YtiapmkndgalgnaaGQ41
import Derived.Test.YtiapmkndgalgnaaGF23
import Derived.Test.YtiapmkndgalgnaaGF20
import Derived.Test.YtiapmkndgalgnaaGF14
import Derived.Test.YtiapmkndgalgnaaGF15
import Derived.Test.YtiapmkndgalgnaaGF24
import Derived.Test.YtiapmkndgalgnaaGF21
import Derived.Test.YtiapmkndgalgnaaGF22
import Derived.Test.YtiapmkndgalgnaaGF25
import Derived.Test.YtiapmkndgalgnaaGF26
namespace Go.Proofs.Ytiapmkndgalgnaa.G
open Go.RowKit Go.Proofs.YtiapmkndgalgnaaW.PrintWords Go.Proofs.YtiapmkndgalgnaaW.PrintLast Go.Proofs.YtiapmkndgalgnaaW.PrintMore
attribute [local go_sem] max2_int min2_int max_two min_two max_three min_three max_four min_four   -- for this text's walks alone
set_option linter.unusedVariables false
set_option linter.unusedSimpArgs false

attribute [local go_sem high] eqA24 eqA41
/-! ### dropperlaw03_ArmSlopes: function 5 -/
def dropperlaw03_ArmSlopes.j0 : Nat → List (S73) → Int → Bool → Int → Int → Int → Option (Bool)
  | 0, _, _, _, _, _, _ => none
  | k + 1, x0, x10, x52, x122000, x122001, x122002 => if x52 = true then (some false) else ((dropperref03_Valid.f k x0).bind fun t124 => (if t124 = true then ((dropperref03_Some.f k x0).bind fun t126 => (if t126 = true then ((dropperref03_Through.f k x0 x122000 x122001 x122002).bind fun bt127 => (if x10 = 0 then (if bt127.2 = 0 then (if bt127.1 = true then ((dropperlaw03_First.f k).bind fun t129 => (some t129)) else (some false)) else (some false)) else (some false))) else (if x10 = 5 then (if (x122000 == 0 && (x122001 == 0 && (x122002 == 0))) = true then ((dropperlaw03_First.f k).bind fun t130 => (some t130)) else (some false)) else (some false)))) else (if x10 = 20 then (if (x122000 == 0 && (x122001 == 0 && (x122002 == 0))) = true then ((dropperlaw03_First.f k).bind fun t125 => (some t125)) else (some false)) else (some false))))
def dropperlaw03_ArmSlopes.f (k : Nat) (l0 : List (S73)) : Option (Bool) := (dropperlaw03_Long.f l0).bind fun t101 => (if t101 = true then ((dropperlaw03_First.f k).bind fun t102 => (some t102)) else ((arm_Slopes.f k l0).bind fun bt103 => ((dropperref03_Slopes.f k l0).bind fun bt110 => ((arm_Line.f k l0).bind fun bt117 => ((arm_Valid.f k l0).bind fun t122 => ((dropperref03_Valid.f k l0).bind fun t123 => (if (t122 != t123) = true then (dropperlaw03_ArmSlopes.j0 k l0 bt117.2.2.2 true bt117.1 bt117.2.1 bt117.2.2.1) else (if (!(bt103.1 == bt110.1) || (!(bt103.2.1 == bt110.2.1))) = true then (dropperlaw03_ArmSlopes.j0 k l0 bt117.2.2.2 true bt117.1 bt117.2.1 bt117.2.2.1) else (if (!(bt103.2.2.1 == bt110.2.2.1) || (!(bt103.2.2.2.1 == bt110.2.2.2.1))) = true then (dropperlaw03_ArmSlopes.j0 k l0 bt117.2.2.2 true bt117.1 bt117.2.1 bt117.2.2.1) else (dropperlaw03_ArmSlopes.j0 k l0 bt117.2.2.2 (bt103.2.2.2.2 != bt110.2.2.2.2) bt117.1 bt117.2.1 bt117.2.2.1))))))))))
theorem dropperlaw03_ArmSlopes.mono_l : ∀ k, (∀ y0 y1 y2 y3 y4 y5, LeO (dropperlaw03_ArmSlopes.j0 k y0 y1 y2 y3 y4 y5) (dropperlaw03_ArmSlopes.j0 (k + 1) y0 y1 y2 y3 y4 y5))
  | 0 => fun _ _ _ _ _ _ r h => by simp [dropperlaw03_ArmSlopes.j0] at h
  | k + 1 => by
    have ih0 := dropperlaw03_ArmSlopes.mono_l k
    · intro y0 y1 y2 y3 y4 y5
      unfold dropperlaw03_ArmSlopes.j0
      repeat' first
      | (with_reducible exact ih0 _ _ _ _ _ _)
      | (with_reducible exact arm_Line.mono _ _)
      | (with_reducible exact arm_Slopes.mono _ _)
      | (with_reducible exact arm_Valid.mono _ _)
      | (with_reducible exact dropperlaw03_First.mono _)
      | (with_reducible exact dropperref03_Slopes.mono _ _)
      | (with_reducible exact dropperref03_Some.mono _ _)
      | (with_reducible exact dropperref03_Through.mono _ _ _ _ _)
      | (with_reducible exact dropperref03_Valid.mono _ _)
      | (with_reducible exact LeO.refl _)
      | (with_reducible exact LeO.none _)
      | (with_reducible refine LeO.ite ?_ ?_)
      | (with_reducible refine LeO.bind ?_ (fun _ => ?_))
      | exact ih0 _ _ _ _ _ _
      | exact arm_Line.mono _ _
      | exact arm_Slopes.mono _ _
      | exact arm_Valid.mono _ _
      | exact dropperlaw03_First.mono _
      | exact dropperref03_Slopes.mono _ _
      | exact dropperref03_Some.mono _ _
      | exact dropperref03_Through.mono _ _ _ _ _
      | exact dropperref03_Valid.mono _ _
      | exact LeO.none _
      | refine LeO.ite ?_ ?_
      | refine LeO.bind ?_ (fun _ => ?_)
theorem dropperlaw03_ArmSlopes.mono : ∀ a0 k, LeO (dropperlaw03_ArmSlopes.f k a0) (dropperlaw03_ArmSlopes.f (k + 1) a0) := by
  intro a0 k
  have ih0 := dropperlaw03_ArmSlopes.mono_l k
  unfold dropperlaw03_ArmSlopes.f
  repeat' first
      | (with_reducible exact ih0 _ _ _ _ _ _)
      | (with_reducible exact arm_Line.mono _ _)
      | (with_reducible exact arm_Slopes.mono _ _)
      | (with_reducible exact arm_Valid.mono _ _)
      | (with_reducible exact dropperlaw03_First.mono _)
      | (with_reducible exact dropperref03_Slopes.mono _ _)
      | (with_reducible exact dropperref03_Some.mono _ _)
      | (with_reducible exact dropperref03_Through.mono _ _ _ _ _)
      | (with_reducible exact dropperref03_Valid.mono _ _)
      | (with_reducible exact LeO.refl _)
      | (with_reducible exact LeO.none _)
      | (with_reducible refine LeO.ite ?_ ?_)
      | (with_reducible refine LeO.bind ?_ (fun _ => ?_))
      | exact ih0 _ _ _ _ _ _
      | exact arm_Line.mono _ _
      | exact arm_Slopes.mono _ _
      | exact arm_Valid.mono _ _
      | exact dropperlaw03_First.mono _
      | exact dropperref03_Slopes.mono _ _
      | exact dropperref03_Some.mono _ _
      | exact dropperref03_Through.mono _ _ _ _ _
      | exact dropperref03_Valid.mono _ _
      | exact LeO.none _
      | refine LeO.ite ?_ ?_
      | refine LeO.bind ?_ (fun _ => ?_)
set_option maxHeartbeats 8000000 in
set_option maxRecDepth 100000 in
theorem dropperlaw03_ArmSlopes.calls (k : Nat) (A0 : Option Addr) (c0 : Nat) (l0 : List (S73)) (r : Bool) (w : World) (hr0 : Kd.C k73 w A0 l0.length l0) (hc0 : l0.length ≤ c0) (h : dropperlaw03_ArmSlopes.f k l0 = some r) (hT : r = true) :
    Calls Try.prog 5 #[.slice A0 l0.length c0] w fun e w' => e = .returned (.bool r) ∧ Below w.heap.size w w' := by
  have hu24 := Try.underlying24
  have hu41 := Try.underlying41
  have HR0 := Aside0.mk hr0
  have HC0 := Aside0.mk hc0
  clear hr0 hc0
  have HB := Aside0.mk (Below.refl w.heap.size w)
  have H : ((dropperlaw03_Long.f l0).bind fun t101 => (if t101 = true then ((dropperlaw03_First.f k).bind fun t102 => (some t102)) else ((arm_Slopes.f k l0).bind fun bt103 => ((dropperref03_Slopes.f k l0).bind fun bt110 => ((arm_Line.f k l0).bind fun bt117 => ((arm_Valid.f k l0).bind fun t122 => ((dropperref03_Valid.f k l0).bind fun t123 => (if (t122 != t123) = true then (dropperlaw03_ArmSlopes.j0 k l0 bt117.2.2.2 true bt117.1 bt117.2.1 bt117.2.2.1) else (if (!(bt103.1 == bt110.1) || (!(bt103.2.1 == bt110.2.1))) = true then (dropperlaw03_ArmSlopes.j0 k l0 bt117.2.2.2 true bt117.1 bt117.2.1 bt117.2.2.1) else (if (!(bt103.2.2.1 == bt110.2.2.1) || (!(bt103.2.2.2.1 == bt110.2.2.2.1))) = true then (dropperlaw03_ArmSlopes.j0 k l0 bt117.2.2.2 true bt117.1 bt117.2.1 bt117.2.2.1) else (dropperlaw03_ArmSlopes.j0 k l0 bt117.2.2.2 (bt103.2.2.2.2 != bt110.2.2.2.2) bt117.1 bt117.2.1 bt117.2.2.1))))))))))) = some r := h
  clear h
  replace H := Option.bind_eq_some_iff.mp H
  obtain ⟨t101, A20, H⟩ := H
  replace H : (if t101 = true then ((dropperlaw03_First.f k).bind fun t102 => (some t102)) else ((arm_Slopes.f k l0).bind fun bt103 => ((dropperref03_Slopes.f k l0).bind fun bt110 => ((arm_Line.f k l0).bind fun bt117 => ((arm_Valid.f k l0).bind fun t122 => ((dropperref03_Valid.f k l0).bind fun t123 => (if (t122 != t123) = true then (dropperlaw03_ArmSlopes.j0 k l0 bt117.2.2.2 true bt117.1 bt117.2.1 bt117.2.2.1) else (if (!(bt103.1 == bt110.1) || (!(bt103.2.1 == bt110.2.1))) = true then (dropperlaw03_ArmSlopes.j0 k l0 bt117.2.2.2 true bt117.1 bt117.2.1 bt117.2.2.1) else (if (!(bt103.2.2.1 == bt110.2.2.1) || (!(bt103.2.2.2.1 == bt110.2.2.2.1))) = true then (dropperlaw03_ArmSlopes.j0 k l0 bt117.2.2.2 true bt117.1 bt117.2.1 bt117.2.2.1) else (dropperlaw03_ArmSlopes.j0 k l0 bt117.2.2.2 (bt103.2.2.2.2 != bt110.2.2.2.2) bt117.1 bt117.2.1 bt117.2.2.1)))))))))) = some r := H
  have A2 := Aside0.mk A20
  clear A20
  by_cases c3 : t101 = true
  · subst c3
    have H1 : ((dropperlaw03_First.f k).bind fun t102 => (some t102)) = some r := by rw [if_pos rfl] at H; exact H
    clear H
    have H := H1
    clear H1
    replace H := Option.bind_eq_some_iff.mp H
    obtain ⟨t102, A40, H⟩ := H
    replace H : (some t102) = some r := H
    have A4 := Aside0.mk A40
    clear A40
    clear hT
    obtain rfl := Option.some.inj H
    go_enter Try.func5, Try.ntmps5
    go_wp2_with (first | ((with_reducible refine gate_callee (f := 15) rfl ?_); refine goesL_ (some 14) rfl rfl Try.func15 (by kernel_rfl) rfl #[.slice A0 l0.length c0] rfl (by (try simp only [List.map_toArray, List.map_cons, List.map_nil]); first | done | rfl | (simp only [List.length_drop, List.length_take]; rfl)) ?_; (with_reducible refine (dropperlaw03_Long.calls _ _ l0 true _ ?side1 ?side2 A2.out).mono ?_); (case side1 => repeat (first | exact HR0.out | (with_reducible refine Kd.C_alloc ?_ _) | (with_reducible refine Kd.C_drewN ?_ _) | (with_reducible refine Kd.C_drew ?_))); (case side2 => exact HC0.out); rintro e w' ⟨rfl, ⟨nd, rfl⟩⟩; refine ⟨_, rfl, ?_⟩) | ((with_reducible refine gate_callee (f := 14) rfl ?_); refine goesL_ (some 15) rfl rfl Try.func14 (by kernel_rfl) rfl #[] rfl (by (try simp only [List.map_toArray, List.map_cons, List.map_nil]); first | done | rfl | (simp only [List.length_drop, List.length_take]; rfl)) ?_; (with_reducible refine (dropperlaw03_First.calls k  t102 _ A4.out).mono ?_); rintro e w5 ⟨rfl, hb⟩; refine ⟨_, rfl, ?_⟩; have n0_ := Aside0.mk (below_step (by repeat (first | (with_reducible first | exact HB.out | apply below_alloc | apply pw_below_drewN | apply below_drew1) | exact HB.out)) hb); clear HB; have HB := n0_; clear n0_; (try clear hb); (try clear hb2); (try clear hk); (try clear hi)))
    go_ret
    exact ⟨by first | rfl | (simp [errW_none, errW_some] <;> rfl) | (simp [*, errW_none, errW_some] <;> rfl), by repeat (first | (with_reducible first | exact HB.out | apply below_alloc | apply pw_below_drewN | apply below_drew1) | exact HB.out)⟩
  replace c3 := Bool.eq_false_iff.mpr c3
  subst c3
  have H1 : ((arm_Slopes.f k l0).bind fun bt103 => ((dropperref03_Slopes.f k l0).bind fun bt110 => ((arm_Line.f k l0).bind fun bt117 => ((arm_Valid.f k l0).bind fun t122 => ((dropperref03_Valid.f k l0).bind fun t123 => (if (t122 != t123) = true then (dropperlaw03_ArmSlopes.j0 k l0 bt117.2.2.2 true bt117.1 bt117.2.1 bt117.2.2.1) else (if (!(bt103.1 == bt110.1) || (!(bt103.2.1 == bt110.2.1))) = true then (dropperlaw03_ArmSlopes.j0 k l0 bt117.2.2.2 true bt117.1 bt117.2.1 bt117.2.2.1) else (if (!(bt103.2.2.1 == bt110.2.2.1) || (!(bt103.2.2.2.1 == bt110.2.2.2.1))) = true then (dropperlaw03_ArmSlopes.j0 k l0 bt117.2.2.2 true bt117.1 bt117.2.1 bt117.2.2.1) else (dropperlaw03_ArmSlopes.j0 k l0 bt117.2.2.2 (bt103.2.2.2.2 != bt110.2.2.2.2) bt117.1 bt117.2.1 bt117.2.2.1))))))))) = some r := by rw [if_neg (show ¬ (false = true) by decide)] at H; exact H
  clear H
  have H := H1
  clear H1
  replace H := Option.bind_eq_some_iff.mp H
  obtain ⟨⟨t103, t104, t105, t106, t107⟩, A60, H⟩ := H
  replace H : ((dropperref03_Slopes.f k l0).bind fun bt110 => ((arm_Line.f k l0).bind fun bt117 => ((arm_Valid.f k l0).bind fun t122 => ((dropperref03_Valid.f k l0).bind fun t123 => (if (t122 != t123) = true then (dropperlaw03_ArmSlopes.j0 k l0 bt117.2.2.2 true bt117.1 bt117.2.1 bt117.2.2.1) else (if (!(t103 == bt110.1) || (!(t104 == bt110.2.1))) = true then (dropperlaw03_ArmSlopes.j0 k l0 bt117.2.2.2 true bt117.1 bt117.2.1 bt117.2.2.1) else (if (!(t105 == bt110.2.2.1) || (!(t106 == bt110.2.2.2.1))) = true then (dropperlaw03_ArmSlopes.j0 k l0 bt117.2.2.2 true bt117.1 bt117.2.1 bt117.2.2.1) else (dropperlaw03_ArmSlopes.j0 k l0 bt117.2.2.2 (t107 != bt110.2.2.2.2) bt117.1 bt117.2.1 bt117.2.2.1)))))))) = some r := H
  have A6 := Aside0.mk A60
  clear A60
  replace H := Option.bind_eq_some_iff.mp H
  obtain ⟨⟨t110, t111, t112, t113, t114⟩, A70, H⟩ := H
  replace H : ((arm_Line.f k l0).bind fun bt117 => ((arm_Valid.f k l0).bind fun t122 => ((dropperref03_Valid.f k l0).bind fun t123 => (if (t122 != t123) = true then (dropperlaw03_ArmSlopes.j0 k l0 bt117.2.2.2 true bt117.1 bt117.2.1 bt117.2.2.1) else (if (!(t103 == t110) || (!(t104 == t111))) = true then (dropperlaw03_ArmSlopes.j0 k l0 bt117.2.2.2 true bt117.1 bt117.2.1 bt117.2.2.1) else (if (!(t105 == t112) || (!(t106 == t113))) = true then (dropperlaw03_ArmSlopes.j0 k l0 bt117.2.2.2 true bt117.1 bt117.2.1 bt117.2.2.1) else (dropperlaw03_ArmSlopes.j0 k l0 bt117.2.2.2 (t107 != t114) bt117.1 bt117.2.1 bt117.2.2.1))))))) = some r := H
  have A7 := Aside0.mk A70
  clear A70
  replace H := Option.bind_eq_some_iff.mp H
  obtain ⟨⟨t117, t118, t119, t120⟩, A80, H⟩ := H
  replace H : ((arm_Valid.f k l0).bind fun t122 => ((dropperref03_Valid.f k l0).bind fun t123 => (if (t122 != t123) = true then (dropperlaw03_ArmSlopes.j0 k l0 t120 true t117 t118 t119) else (if (!(t103 == t110) || (!(t104 == t111))) = true then (dropperlaw03_ArmSlopes.j0 k l0 t120 true t117 t118 t119) else (if (!(t105 == t112) || (!(t106 == t113))) = true then (dropperlaw03_ArmSlopes.j0 k l0 t120 true t117 t118 t119) else (dropperlaw03_ArmSlopes.j0 k l0 t120 (t107 != t114) t117 t118 t119)))))) = some r := H
  have A8 := Aside0.mk A80
  clear A80
  have HC9 := Aside0.mk H
  clear H
  go_enter Try.func5, Try.ntmps5
  go_upto_region 6 with (first | ((with_reducible refine gate_callee (f := 15) rfl ?_); refine goesL_ (some 14) rfl rfl Try.func15 (by kernel_rfl) rfl #[.slice A0 l0.length c0] rfl (by (try simp only [List.map_toArray, List.map_cons, List.map_nil]); first | done | rfl | (simp only [List.length_drop, List.length_take]; rfl)) ?_; (with_reducible refine (dropperlaw03_Long.calls _ _ l0 false _ ?side1 ?side2 A2.out).mono ?_); (case side1 => repeat (first | exact HR0.out | (with_reducible refine Kd.C_alloc ?_ _) | (with_reducible refine Kd.C_drewN ?_ _) | (with_reducible refine Kd.C_drew ?_))); (case side2 => exact HC0.out); rintro e w' ⟨rfl, ⟨nd, rfl⟩⟩; refine ⟨_, rfl, ?_⟩) | ((with_reducible refine gate_callee (f := 20) rfl ?_); refine goesL_ (some 18) rfl rfl Try.func20 (by kernel_rfl) rfl #[.slice A0 l0.length c0] rfl (by (try simp only [List.map_toArray, List.map_cons, List.map_nil]); first | done | rfl | (simp only [List.length_drop, List.length_take]; rfl)) ?_; (with_reducible refine (arm_Slopes.calls k _ _ l0 t103 t104 t105 t106 t107 _ ?side1 ?side2 A6.out).mono ?_); (case side1 => repeat (first | exact HR0.out | (with_reducible refine Kd.C_alloc ?_ _) | (with_reducible refine Kd.C_drewN ?_ _) | (with_reducible refine Kd.C_drew ?_))); (case side2 => exact HC0.out); rintro e w10 ⟨rfl, hb⟩; refine ⟨_, rfl, ?_⟩; have n0_ := Aside0.mk (below_step (by repeat (first | (with_reducible first | exact HB.out | apply below_alloc | apply pw_below_drewN | apply below_drew1) | exact HB.out)) hb); clear HB; have HB := n0_; clear n0_; (try clear hb); (try clear hb2); (try clear hk); (try clear hi)) | ((with_reducible refine gate_dst (N := 3) rfl ?_); refine box_event ?hg (N := 3) ?hd (cs := #[.int .i64 0, .int .i64 0]) (t := 24) ?hr ?_; (case hd => rfl); (case hg => rfl); (case hr => first | (go_simp; done) | (go_simp; rfl)); intro gb108 hg w11 hbox hb; have n0_ := Aside0.mk (below_step (by repeat (first | (with_reducible first | exact HB.out | apply below_alloc | apply pw_below_drewN | apply below_drew1) | exact HB.out)) hb); have n1_ := Aside0.mk (hbox); have n2_ := Aside0.mk ((by rw [hg]; exact (below_size (by repeat (first | (with_reducible first | exact HB.out | apply below_alloc | apply pw_below_drewN | apply below_drew1) | exact HB.out))) : w.heap.size ≤ gb108)); have n3_ := Aside0.mk ((by rw [hg]; exact (below_size (by repeat (first | (with_reducible first | exact HB.out | apply below_alloc | apply pw_below_drewN | apply below_drew1) | exact HB.out))) : w.heap.size ≤ gb108)); clear HB; have HB := n0_; have BK108 := n1_; have GW108 := n2_; have GE108 := n3_; clear n0_ n1_ n2_ n3_; clear hb hbox hg) | ((with_reducible refine gate_dst (N := 4) rfl ?_); refine box_event ?hg (N := 4) ?hd (cs := #[.int .i64 0, .int .i64 0]) (t := 24) ?hr ?_; (case hd => rfl); (case hg => rfl); (case hr => first | (go_simp; done) | (go_simp; rfl)); intro gb109 hg w12 hbox hb; have n0_ := Aside0.mk (bkB BK108 hb); have n1_ := Aside0.mk (below_step (by repeat (first | (with_reducible first | exact HB.out | apply below_alloc | apply pw_below_drewN | apply below_drew1 | refine below_set ?_ GE108.out) | exact HB.out)) hb); have n2_ := Aside0.mk (hbox); have n3_ := Aside0.mk ((by rw [hg]; exact (below_size (by repeat (first | (with_reducible first | exact HB.out | apply below_alloc | apply pw_below_drewN | apply below_drew1 | refine below_set ?_ GE108.out) | exact HB.out))) : w.heap.size ≤ gb109)); have n4_ := Aside0.mk ((by rw [hg]; exact (below_size (by repeat (first | (with_reducible first | exact HB.out | apply below_alloc | apply pw_below_drewN | apply below_drew1 | refine below_set ?_ GE108.out) | exact HB.out))) : w.heap.size ≤ gb109)); have n5_ := Aside0.mk ((bkL BK108 hg : gb108 ≠ gb109)); have n6_ := Aside0.mk ((bkG BK108 hg : gb109 ≠ gb108)); clear BK108; clear HB; have BK108 := n0_; have HB := n1_; have BK109 := n2_; have GW109 := n3_; have GE109 := n4_; have NB108_109 := n5_; have NB109_108 := n6_; clear n0_ n1_ n2_ n3_ n4_ n5_ n6_; clear hb hbox hg; have hnb13 := NB108_109.out; have hnc13 := NB109_108.out; have hcz14_0 : w12.cell? ⟨gb108, 0, none⟩ = some (.int .i64 0) := (blk_cell BK108.out 0).trans rfl; have hcz14_1 : w12.cell? ⟨gb108, 1, none⟩ = some (.int .i64 0) := (blk_cell BK108.out 1).trans rfl; have hfz14_0 := blk_frozen BK108.out 0; have hfz14_1 := blk_frozen BK108.out 1; have hcz15_0 : w12.cell? ⟨gb109, 0, none⟩ = some (.int .i64 0) := (blk_cell BK109.out 0).trans rfl; have hcz15_1 : w12.cell? ⟨gb109, 1, none⟩ = some (.int .i64 0) := (blk_cell BK109.out 1).trans rfl; have hfz15_0 := blk_frozen BK109.out 0; have hfz15_1 := blk_frozen BK109.out 1) | ((with_reducible refine gate_callee (f := 21) rfl ?_); refine goesL_ (some 24) rfl rfl Try.func21 (by kernel_rfl) rfl #[.slice A0 l0.length c0] rfl (by (try simp only [List.map_toArray, List.map_cons, List.map_nil]); first | done | rfl | (simp only [List.length_drop, List.length_take]; rfl)) ?_; (with_reducible refine (dropperref03_Slopes.calls k _ _ l0 t110 t111 t112 t113 t114 _ ?side1 ?side2 A7.out).mono ?_); (case side1 => exact Kd.C_below HR0.out (by repeat (first | (with_reducible first | exact HB.out | apply below_alloc | apply pw_below_drewN | apply below_drew1 | refine below_set ?_ GE108.out | refine below_set ?_ GE109.out) | exact HB.out))); (case side2 => exact HC0.out); rintro e w16 ⟨rfl, hb⟩; refine ⟨_, rfl, ?_⟩; have n0_ := Aside0.mk (blk_below (g := gb108) (o := .cells #[.int .i64 t103, .int .i64 t104] 24 (0, 0)) (by (with_reducible repeat (first | refine blk_drewN ?_ _ | refine blk_drew ?_ | refine blk_alloc ?_ _)); refine blk_far ?_ NB108_109.out _; (with_reducible repeat (first | refine blk_drewN ?_ _ | refine blk_drew ?_ | refine blk_alloc ?_ _)); refine blk_far ?_ NB108_109.out _; (with_reducible repeat (first | refine blk_drewN ?_ _ | refine blk_drew ?_ | refine blk_alloc ?_ _)); refine blk_put (cs := #[.int .i64 t103, .int .i64 0]) ?_ 1 _ rfl; (with_reducible repeat (first | refine blk_drewN ?_ _ | refine blk_drew ?_ | refine blk_alloc ?_ _)); refine blk_put (cs := #[.int .i64 0, .int .i64 0]) ?_ 0 _ rfl; (with_reducible repeat (first | refine blk_drewN ?_ _ | refine blk_drew ?_ | refine blk_alloc ?_ _)); exact BK108.out) hb); have n1_ := Aside0.mk (blk_below (g := gb109) (o := .cells #[.int .i64 t105, .int .i64 t106] 24 (0, 0)) (by (with_reducible repeat (first | refine blk_drewN ?_ _ | refine blk_drew ?_ | refine blk_alloc ?_ _)); refine blk_put (cs := #[.int .i64 t105, .int .i64 0]) ?_ 1 _ rfl; (with_reducible repeat (first | refine blk_drewN ?_ _ | refine blk_drew ?_ | refine blk_alloc ?_ _)); refine blk_put (cs := #[.int .i64 0, .int .i64 0]) ?_ 0 _ rfl; (with_reducible repeat (first | refine blk_drewN ?_ _ | refine blk_drew ?_ | refine blk_alloc ?_ _)); refine blk_far ?_ NB109_108.out _; (with_reducible repeat (first | refine blk_drewN ?_ _ | refine blk_drew ?_ | refine blk_alloc ?_ _)); refine blk_far ?_ NB109_108.out _; (with_reducible repeat (first | refine blk_drewN ?_ _ | refine blk_drew ?_ | refine blk_alloc ?_ _)); exact BK109.out) hb); have n2_ := Aside0.mk (below_step (by repeat (first | (with_reducible first | exact HB.out | apply below_alloc | apply pw_below_drewN | apply below_drew1 | refine below_set ?_ GE108.out | refine below_set ?_ GE109.out) | exact HB.out)) hb); clear BK108; clear BK109; clear HB; have BK108 := n0_; have BK109 := n1_; have HB := n2_; clear n0_ n1_ n2_; (try clear hb); (try clear hb2); (try clear hk); (try clear hi)) | ((with_reducible refine gate_dst (N := 6) rfl ?_); refine box_event ?hg (N := 6) ?hd (cs := #[.int .i64 0, .int .i64 0]) (t := 24) ?hr ?_; (case hd => rfl); (case hg => rfl); (case hr => first | (go_simp; done) | (go_simp; rfl)); intro gb115 hg w17 hbox hb; have n0_ := Aside0.mk (bkB BK108 hb); have n1_ := Aside0.mk (bkB BK109 hb); have n2_ := Aside0.mk (below_step (by repeat (first | (with_reducible first | exact HB.out | apply below_alloc | apply pw_below_drewN | apply below_drew1 | refine below_set ?_ GE108.out | refine below_set ?_ GE109.out) | exact HB.out)) hb); have n3_ := Aside0.mk (hbox); have n4_ := Aside0.mk ((by rw [hg]; exact (below_size (by repeat (first | (with_reducible first | exact HB.out | apply below_alloc | apply pw_below_drewN | apply below_drew1 | refine below_set ?_ GE108.out | refine below_set ?_ GE109.out) | exact HB.out))) : w.heap.size ≤ gb115)); have n5_ := Aside0.mk ((by rw [hg]; exact (below_size (by repeat (first | (with_reducible first | exact HB.out | apply below_alloc | apply pw_below_drewN | apply below_drew1 | refine below_set ?_ GE108.out | refine below_set ?_ GE109.out) | exact HB.out))) : w.heap.size ≤ gb115)); have n6_ := Aside0.mk ((bkL BK108 hg : gb108 ≠ gb115)); have n7_ := Aside0.mk ((bkG BK108 hg : gb115 ≠ gb108)); have n8_ := Aside0.mk ((bkL BK109 hg : gb109 ≠ gb115)); have n9_ := Aside0.mk ((bkG BK109 hg : gb115 ≠ gb109)); clear BK108; clear BK109; clear HB; have BK108 := n0_; have BK109 := n1_; have HB := n2_; have BK115 := n3_; have GW115 := n4_; have GE115 := n5_; have NB108_115 := n6_; have NB115_108 := n7_; have NB109_115 := n8_; have NB115_109 := n9_; clear n0_ n1_ n2_ n3_ n4_ n5_ n6_ n7_ n8_ n9_; clear hb hbox hg) | ((with_reducible refine gate_dst (N := 7) rfl ?_); refine box_event ?hg (N := 7) ?hd (cs := #[.int .i64 0, .int .i64 0]) (t := 24) ?hr ?_; (case hd => rfl); (case hg => rfl); (case hr => first | (go_simp; done) | (go_simp; rfl)); intro gb116 hg w18 hbox hb; have n0_ := Aside0.mk (bkB BK108 hb); have n1_ := Aside0.mk (bkB BK109 hb); have n2_ := Aside0.mk (bkB BK115 hb); have n3_ := Aside0.mk (below_step (by repeat (first | (with_reducible first | exact HB.out | apply below_alloc | apply pw_below_drewN | apply below_drew1 | refine below_set ?_ GE108.out | refine below_set ?_ GE109.out | refine below_set ?_ GE115.out) | exact HB.out)) hb); have n4_ := Aside0.mk (hbox); have n5_ := Aside0.mk ((by rw [hg]; exact (below_size (by repeat (first | (with_reducible first | exact HB.out | apply below_alloc | apply pw_below_drewN | apply below_drew1 | refine below_set ?_ GE108.out | refine below_set ?_ GE109.out | refine below_set ?_ GE115.out) | exact HB.out))) : w.heap.size ≤ gb116)); have n6_ := Aside0.mk ((by rw [hg]; exact (below_size (by repeat (first | (with_reducible first | exact HB.out | apply below_alloc | apply pw_below_drewN | apply below_drew1 | refine below_set ?_ GE108.out | refine below_set ?_ GE109.out | refine below_set ?_ GE115.out) | exact HB.out))) : w.heap.size ≤ gb116)); have n7_ := Aside0.mk ((bkL BK108 hg : gb108 ≠ gb116)); have n8_ := Aside0.mk ((bkG BK108 hg : gb116 ≠ gb108)); have n9_ := Aside0.mk ((bkL BK109 hg : gb109 ≠ gb116)); have n10_ := Aside0.mk ((bkG BK109 hg : gb116 ≠ gb109)); have n11_ := Aside0.mk ((bkL BK115 hg : gb115 ≠ gb116)); have n12_ := Aside0.mk ((bkG BK115 hg : gb116 ≠ gb115)); clear BK108; clear BK109; clear BK115; clear HB; have BK108 := n0_; have BK109 := n1_; have BK115 := n2_; have HB := n3_; have BK116 := n4_; have GW116 := n5_; have GE116 := n6_; have NB108_116 := n7_; have NB116_108 := n8_; have NB109_116 := n9_; have NB116_109 := n10_; have NB115_116 := n11_; have NB116_115 := n12_; clear n0_ n1_ n2_ n3_ n4_ n5_ n6_ n7_ n8_ n9_ n10_ n11_ n12_; clear hb hbox hg; have hnb19 := NB115_108.out; have hnc19 := NB108_115.out; have hnb20 := NB115_109.out; have hnc20 := NB109_115.out; have hnb21 := NB115_116.out; have hnc21 := NB116_115.out; have hcz22_0 : w18.cell? ⟨gb115, 0, none⟩ = some (.int .i64 0) := (blk_cell BK115.out 0).trans rfl; have hcz22_1 : w18.cell? ⟨gb115, 1, none⟩ = some (.int .i64 0) := (blk_cell BK115.out 1).trans rfl; have hfz22_0 := blk_frozen BK115.out 0; have hfz22_1 := blk_frozen BK115.out 1; have hnb23 := NB116_108.out; have hnc23 := NB108_116.out; have hnb24 := NB116_109.out; have hnc24 := NB109_116.out; have hcz25_0 : w18.cell? ⟨gb116, 0, none⟩ = some (.int .i64 0) := (blk_cell BK116.out 0).trans rfl; have hcz25_1 : w18.cell? ⟨gb116, 1, none⟩ = some (.int .i64 0) := (blk_cell BK116.out 1).trans rfl; have hfz25_0 := blk_frozen BK116.out 0; have hfz25_1 := blk_frozen BK116.out 1) | ((with_reducible refine gate_callee (f := 22) rfl ?_); refine goesL_ (some 30) rfl rfl Try.func22 (by kernel_rfl) rfl #[.slice A0 l0.length c0] rfl (by (try simp only [List.map_toArray, List.map_cons, List.map_nil]); first | done | rfl | (simp only [List.length_drop, List.length_take]; rfl)) ?_; (with_reducible refine (arm_Line.calls k _ _ l0 t117 t118 t119 t120 _ ?side1 ?side2 A8.out).mono ?_); (case side1 => exact Kd.C_below HR0.out (by repeat (first | (with_reducible first | exact HB.out | apply below_alloc | apply pw_below_drewN | apply below_drew1 | refine below_set ?_ GE108.out | refine below_set ?_ GE109.out | refine below_set ?_ GE115.out | refine below_set ?_ GE116.out) | exact HB.out))); (case side2 => exact HC0.out); rintro e w26 ⟨rfl, hb⟩; refine ⟨_, rfl, ?_⟩; have n0_ := Aside0.mk (blk_below (g := gb108) (o := .cells #[.int .i64 t103, .int .i64 t104] 24 (0, 0)) (by (with_reducible repeat (first | refine blk_drewN ?_ _ | refine blk_drew ?_ | refine blk_alloc ?_ _)); refine blk_far ?_ NB108_116.out _; (with_reducible repeat (first | refine blk_drewN ?_ _ | refine blk_drew ?_ | refine blk_alloc ?_ _)); refine blk_far ?_ NB108_116.out _; (with_reducible repeat (first | refine blk_drewN ?_ _ | refine blk_drew ?_ | refine blk_alloc ?_ _)); refine blk_far ?_ NB108_115.out _; (with_reducible repeat (first | refine blk_drewN ?_ _ | refine blk_drew ?_ | refine blk_alloc ?_ _)); refine blk_far ?_ NB108_115.out _; (with_reducible repeat (first | refine blk_drewN ?_ _ | refine blk_drew ?_ | refine blk_alloc ?_ _)); exact BK108.out) hb); have n1_ := Aside0.mk (blk_below (g := gb109) (o := .cells #[.int .i64 t105, .int .i64 t106] 24 (0, 0)) (by (with_reducible repeat (first | refine blk_drewN ?_ _ | refine blk_drew ?_ | refine blk_alloc ?_ _)); refine blk_far ?_ NB109_116.out _; (with_reducible repeat (first | refine blk_drewN ?_ _ | refine blk_drew ?_ | refine blk_alloc ?_ _)); refine blk_far ?_ NB109_116.out _; (with_reducible repeat (first | refine blk_drewN ?_ _ | refine blk_drew ?_ | refine blk_alloc ?_ _)); refine blk_far ?_ NB109_115.out _; (with_reducible repeat (first | refine blk_drewN ?_ _ | refine blk_drew ?_ | refine blk_alloc ?_ _)); refine blk_far ?_ NB109_115.out _; (with_reducible repeat (first | refine blk_drewN ?_ _ | refine blk_drew ?_ | refine blk_alloc ?_ _)); exact BK109.out) hb); have n2_ := Aside0.mk (blk_below (g := gb115) (o := .cells #[.int .i64 t110, .int .i64 t111] 24 (0, 0)) (by (with_reducible repeat (first | refine blk_drewN ?_ _ | refine blk_drew ?_ | refine blk_alloc ?_ _)); refine blk_far ?_ NB115_116.out _; (with_reducible repeat (first | refine blk_drewN ?_ _ | refine blk_drew ?_ | refine blk_alloc ?_ _)); refine blk_far ?_ NB115_116.out _; (with_reducible repeat (first | refine blk_drewN ?_ _ | refine blk_drew ?_ | refine blk_alloc ?_ _)); refine blk_put (cs := #[.int .i64 t110, .int .i64 0]) ?_ 1 _ rfl; (with_reducible repeat (first | refine blk_drewN ?_ _ | refine blk_drew ?_ | refine blk_alloc ?_ _)); refine blk_put (cs := #[.int .i64 0, .int .i64 0]) ?_ 0 _ rfl; (with_reducible repeat (first | refine blk_drewN ?_ _ | refine blk_drew ?_ | refine blk_alloc ?_ _)); exact BK115.out) hb); have n3_ := Aside0.mk (blk_below (g := gb116) (o := .cells #[.int .i64 t112, .int .i64 t113] 24 (0, 0)) (by (with_reducible repeat (first | refine blk_drewN ?_ _ | refine blk_drew ?_ | refine blk_alloc ?_ _)); refine blk_put (cs := #[.int .i64 t112, .int .i64 0]) ?_ 1 _ rfl; (with_reducible repeat (first | refine blk_drewN ?_ _ | refine blk_drew ?_ | refine blk_alloc ?_ _)); refine blk_put (cs := #[.int .i64 0, .int .i64 0]) ?_ 0 _ rfl; (with_reducible repeat (first | refine blk_drewN ?_ _ | refine blk_drew ?_ | refine blk_alloc ?_ _)); refine blk_far ?_ NB116_115.out _; (with_reducible repeat (first | refine blk_drewN ?_ _ | refine blk_drew ?_ | refine blk_alloc ?_ _)); refine blk_far ?_ NB116_115.out _; (with_reducible repeat (first | refine blk_drewN ?_ _ | refine blk_drew ?_ | refine blk_alloc ?_ _)); exact BK116.out) hb); have n4_ := Aside0.mk (below_step (by repeat (first | (with_reducible first | exact HB.out | apply below_alloc | apply pw_below_drewN | apply below_drew1 | refine below_set ?_ GE108.out | refine below_set ?_ GE109.out | refine below_set ?_ GE115.out | refine below_set ?_ GE116.out) | exact HB.out)) hb); clear BK108; clear BK109; clear BK115; clear BK116; clear HB; have BK108 := n0_; have BK109 := n1_; have BK115 := n2_; have BK116 := n3_; have HB := n4_; clear n0_ n1_ n2_ n3_ n4_; (try clear hb); (try clear hb2); (try clear hk); (try clear hi)) | ((with_reducible refine gate_dst (N := 9) rfl ?_); refine box_event ?hg (N := 9) ?hd (cs := #[.int .i64 0, .int .i64 0, .int .i64 0]) (t := 41) ?hr ?_; (case hd => rfl); (case hg => rfl); (case hr => first | (go_simp; done) | (go_simp; rfl)); intro gb121 hg w27 hbox hb; have n0_ := Aside0.mk (bkB BK108 hb); have n1_ := Aside0.mk (bkB BK109 hb); have n2_ := Aside0.mk (bkB BK115 hb); have n3_ := Aside0.mk (bkB BK116 hb); have n4_ := Aside0.mk (below_step (by repeat (first | (with_reducible first | exact HB.out | apply below_alloc | apply pw_below_drewN | apply below_drew1 | refine below_set ?_ GE108.out | refine below_set ?_ GE109.out | refine below_set ?_ GE115.out | refine below_set ?_ GE116.out) | exact HB.out)) hb); have n5_ := Aside0.mk (hbox); have n6_ := Aside0.mk ((by rw [hg]; exact (below_size (by repeat (first | (with_reducible first | exact HB.out | apply below_alloc | apply pw_below_drewN | apply below_drew1 | refine below_set ?_ GE108.out | refine below_set ?_ GE109.out | refine below_set ?_ GE115.out | refine below_set ?_ GE116.out) | exact HB.out))) : w.heap.size ≤ gb121)); have n7_ := Aside0.mk ((by rw [hg]; exact (below_size (by repeat (first | (with_reducible first | exact HB.out | apply below_alloc | apply pw_below_drewN | apply below_drew1 | refine below_set ?_ GE108.out | refine below_set ?_ GE109.out | refine below_set ?_ GE115.out | refine below_set ?_ GE116.out) | exact HB.out))) : w.heap.size ≤ gb121)); have n8_ := Aside0.mk ((bkL BK108 hg : gb108 ≠ gb121)); have n9_ := Aside0.mk ((bkG BK108 hg : gb121 ≠ gb108)); have n10_ := Aside0.mk ((bkL BK109 hg : gb109 ≠ gb121)); have n11_ := Aside0.mk ((bkG BK109 hg : gb121 ≠ gb109)); have n12_ := Aside0.mk ((bkL BK115 hg : gb115 ≠ gb121)); have n13_ := Aside0.mk ((bkG BK115 hg : gb121 ≠ gb115)); have n14_ := Aside0.mk ((bkL BK116 hg : gb116 ≠ gb121)); have n15_ := Aside0.mk ((bkG BK116 hg : gb121 ≠ gb116)); clear BK108; clear BK109; clear BK115; clear BK116; clear HB; have BK108 := n0_; have BK109 := n1_; have BK115 := n2_; have BK116 := n3_; have HB := n4_; have BK121 := n5_; have GW121 := n6_; have GE121 := n7_; have NB108_121 := n8_; have NB121_108 := n9_; have NB109_121 := n10_; have NB121_109 := n11_; have NB115_121 := n12_; have NB121_115 := n13_; have NB116_121 := n14_; have NB121_116 := n15_; clear n0_ n1_ n2_ n3_ n4_ n5_ n6_ n7_ n8_ n9_ n10_ n11_ n12_ n13_ n14_ n15_; clear hb hbox hg; have hnb28 := NB121_108.out; have hnc28 := NB108_121.out; have hnb29 := NB121_109.out; have hnc29 := NB109_121.out; have hnb30 := NB121_115.out; have hnc30 := NB115_121.out; have hnb31 := NB121_116.out; have hnc31 := NB116_121.out; have hcz32_0 : w27.cell? ⟨gb121, 0, none⟩ = some (.int .i64 0) := (blk_cell BK121.out 0).trans rfl; have hcz32_1 : w27.cell? ⟨gb121, 1, none⟩ = some (.int .i64 0) := (blk_cell BK121.out 1).trans rfl; have hcz32_2 : w27.cell? ⟨gb121, 2, none⟩ = some (.int .i64 0) := (blk_cell BK121.out 2).trans rfl; have hfz32_0 := blk_frozen BK121.out 0; have hfz32_1 := blk_frozen BK121.out 1; have hfz32_2 := blk_frozen BK121.out 2))
  (try simp only [Act.put, List.setIfInBounds_toArray, List.set_cons_zero, List.set_cons_succ])
  go_cut [52] (fun v52 wc => ∃ (kq : Nat) (x52_8 : Bool), v52 = .bool x52_8 ∧ Aside0 (dropperlaw03_ArmSlopes.j0 kq l0 t120 x52_8 t117 t118 t119 = some r) ∧ Aside0 (kq ≤ k) ∧ Aside0 (wc.heap[gb108]? = some (.cells #[.int .i64 t103, .int .i64 t104] 24 (0, 0))) ∧ Aside0 (wc.heap[gb109]? = some (.cells #[.int .i64 t105, .int .i64 t106] 24 (0, 0))) ∧ Aside0 (wc.heap[gb115]? = some (.cells #[.int .i64 t110, .int .i64 t111] 24 (0, 0))) ∧ Aside0 (wc.heap[gb116]? = some (.cells #[.int .i64 t112, .int .i64 t113] 24 (0, 0))) ∧ Aside0 (wc.heap[gb121]? = some (.cells #[.int .i64 t117, .int .i64 t118, .int .i64 t119] 41 (0, 0))) ∧ Aside0 (Below w.heap.size w wc))
  case first =>
    have H := HC9.out
    clear HC9
    replace H := Option.bind_eq_some_iff.mp H
    obtain ⟨t122, A330, H⟩ := H
    replace H : ((dropperref03_Valid.f k l0).bind fun t123 => (if (t122 != t123) = true then (dropperlaw03_ArmSlopes.j0 k l0 t120 true t117 t118 t119) else (if (!(t103 == t110) || (!(t104 == t111))) = true then (dropperlaw03_ArmSlopes.j0 k l0 t120 true t117 t118 t119) else (if (!(t105 == t112) || (!(t106 == t113))) = true then (dropperlaw03_ArmSlopes.j0 k l0 t120 true t117 t118 t119) else (dropperlaw03_ArmSlopes.j0 k l0 t120 (t107 != t114) t117 t118 t119))))) = some r := H
    have A33 := Aside0.mk A330
    clear A330
    replace H := Option.bind_eq_some_iff.mp H
    obtain ⟨t123, A340, H⟩ := H
    replace H : (if (t122 != t123) = true then (dropperlaw03_ArmSlopes.j0 k l0 t120 true t117 t118 t119) else (if (!(t103 == t110) || (!(t104 == t111))) = true then (dropperlaw03_ArmSlopes.j0 k l0 t120 true t117 t118 t119) else (if (!(t105 == t112) || (!(t106 == t113))) = true then (dropperlaw03_ArmSlopes.j0 k l0 t120 true t117 t118 t119) else (dropperlaw03_ArmSlopes.j0 k l0 t120 (t107 != t114) t117 t118 t119)))) = some r := H
    have A34 := Aside0.mk A340
    clear A340
    by_cases c35 : (t122 != t123) = true
    · rw [if_pos c35] at H
      have c35b0 : (t122 != t123) = true := c35
      (try (have c35b1 : decide (t122 = t123) = false := by simpa using c35))
      (try (have c35b2 : (t122 == t123) = false := by simpa using c35))
      (try (have c35b3 : ¬ (t122 = t123) := by simpa using c35))
      clear c35
      (first | rw [c35b0] | (simp only [i64_w, i32_w]; rw [c35b0]) | skip)
      have H' := Aside0.mk H
      clear H
      go_wp2_with (first | ((with_reducible refine gate_callee (f := 23) rfl ?_); refine goesL_ (some 34) rfl rfl Try.func23 (by kernel_rfl) rfl #[.slice A0 l0.length c0] rfl (by (try simp only [List.map_toArray, List.map_cons, List.map_nil]); first | done | rfl | (simp only [List.length_drop, List.length_take]; rfl)) ?_; (with_reducible refine (arm_Valid.calls k _ _ l0 t122 _ ?side1 ?side2 A33.out).mono ?_); (case side1 => exact Kd.C_below HR0.out (by repeat (first | (with_reducible first | exact HB.out | apply below_alloc | apply pw_below_drewN | apply below_drew1 | refine below_set ?_ GE108.out | refine below_set ?_ GE109.out | refine below_set ?_ GE115.out | refine below_set ?_ GE116.out | refine below_set ?_ GE121.out) | exact HB.out))); (case side2 => exact HC0.out); rintro e w36 ⟨rfl, hb⟩; refine ⟨_, rfl, ?_⟩; have n0_ := Aside0.mk (blk_below (g := gb108) (o := .cells #[.int .i64 t103, .int .i64 t104] 24 (0, 0)) (bkF3 BK108 NB108_121) hb); have n1_ := Aside0.mk (blk_below (g := gb109) (o := .cells #[.int .i64 t105, .int .i64 t106] 24 (0, 0)) (bkF3 BK109 NB109_121) hb); have n2_ := Aside0.mk (blk_below (g := gb115) (o := .cells #[.int .i64 t110, .int .i64 t111] 24 (0, 0)) (bkF3 BK115 NB115_121) hb); have n3_ := Aside0.mk (blk_below (g := gb116) (o := .cells #[.int .i64 t112, .int .i64 t113] 24 (0, 0)) (bkF3 BK116 NB116_121) hb); have n4_ := Aside0.mk (blk_below (g := gb121) (o := .cells #[.int .i64 t117, .int .i64 t118, .int .i64 t119] 41 (0, 0)) (by (with_reducible repeat (first | refine blk_drewN ?_ _ | refine blk_drew ?_ | refine blk_alloc ?_ _)); refine blk_put (cs := #[.int .i64 t117, .int .i64 t118, .int .i64 0]) ?_ 2 _ rfl; (with_reducible repeat (first | refine blk_drewN ?_ _ | refine blk_drew ?_ | refine blk_alloc ?_ _)); refine blk_put (cs := #[.int .i64 t117, .int .i64 0, .int .i64 0]) ?_ 1 _ rfl; (with_reducible repeat (first | refine blk_drewN ?_ _ | refine blk_drew ?_ | refine blk_alloc ?_ _)); refine blk_put (cs := #[.int .i64 0, .int .i64 0, .int .i64 0]) ?_ 0 _ rfl; (with_reducible repeat (first | refine blk_drewN ?_ _ | refine blk_drew ?_ | refine blk_alloc ?_ _)); exact BK121.out) hb); have n5_ := Aside0.mk (below_step (by repeat (first | (with_reducible first | exact HB.out | apply below_alloc | apply pw_below_drewN | apply below_drew1 | refine below_set ?_ GE108.out | refine below_set ?_ GE109.out | refine below_set ?_ GE115.out | refine below_set ?_ GE116.out | refine below_set ?_ GE121.out) | exact HB.out)) hb); clear BK108; clear BK109; clear BK115; clear BK116; clear BK121; clear HB; have BK108 := n0_; have BK109 := n1_; have BK115 := n2_; have BK116 := n3_; have BK121 := n4_; have HB := n5_; clear n0_ n1_ n2_ n3_ n4_ n5_; (try clear hb); (try clear hb2); (try clear hk); (try clear hi)) | ((with_reducible refine gate_callee (f := 24) rfl ?_); refine goesL_ (some 36) rfl rfl Try.func24 (by kernel_rfl) rfl #[.slice A0 l0.length c0] rfl (by (try simp only [List.map_toArray, List.map_cons, List.map_nil]); first | done | rfl | (simp only [List.length_drop, List.length_take]; rfl)) ?_; (with_reducible refine (dropperref03_Valid.calls k _ _ l0 t123 _ ?side1 ?side2 A34.out).mono ?_); (case side1 => repeat (first | exact (Kd.C_below HR0.out HB.out) | (with_reducible refine Kd.C_alloc ?_ _) | (with_reducible refine Kd.C_drewN ?_ _) | (with_reducible refine Kd.C_drew ?_))); (case side2 => exact HC0.out); rintro e w37 ⟨rfl, hb⟩; refine ⟨_, rfl, ?_⟩; have n0_ := Aside0.mk (bkB BK108 hb); have n1_ := Aside0.mk (bkB BK109 hb); have n2_ := Aside0.mk (bkB BK115 hb); have n3_ := Aside0.mk (bkB BK116 hb); have n4_ := Aside0.mk (bkB BK121 hb); have n5_ := Aside0.mk (below_step (by repeat (first | (with_reducible first | exact HB.out | apply below_alloc | apply pw_below_drewN | apply below_drew1 | refine below_set ?_ GE108.out | refine below_set ?_ GE109.out | refine below_set ?_ GE115.out | refine below_set ?_ GE116.out | refine below_set ?_ GE121.out) | exact HB.out)) hb); clear BK108; clear BK109; clear BK115; clear BK116; clear BK121; clear HB; have BK108 := n0_; have BK109 := n1_; have BK115 := n2_; have BK116 := n3_; have BK121 := n4_; have HB := n5_; clear n0_ n1_ n2_ n3_ n4_ n5_; (try clear hb); (try clear hb2); (try clear hk); (try clear hi)))
      go_meet
      case rel => exact ⟨_, (true), (by first | rfl | (simp; done) | (simp [*]; done)), H', ⟨by first | omega | exact Nat.le_refl _⟩, ⟨bkU BK108⟩, ⟨bkU BK109⟩, ⟨bkU BK115⟩, ⟨bkU BK116⟩, ⟨bkU BK121⟩, ⟨by repeat (first | (with_reducible first | exact HB.out | apply below_alloc | apply pw_below_drewN | apply below_drew1 | refine below_set ?_ GE108.out | refine below_set ?_ GE109.out | refine below_set ?_ GE115.out | refine below_set ?_ GE116.out | refine below_set ?_ GE121.out) | exact HB.out)⟩⟩
    rw [if_neg c35] at H
    have c35b0 : (t122 != t123) = false := by simpa using c35
    (try (have c35b1 : decide (t122 = t123) = true := by simpa using c35))
    (try (have c35b2 : (t122 == t123) = true := by simpa using c35))
    clear c35
    (first | rw [c35b0] | (simp only [i64_w, i32_w]; rw [c35b0]) | skip)
    by_cases c38 : (!(t103 == t110) || (!(t104 == t111))) = true
    · rw [if_pos c38] at H
      have c38b0 : (!(t103 == t110) || (!(t104 == t111))) = true := c38
      clear c38
      have H' := Aside0.mk H
      clear H
      go_wp2_with (first | ((with_reducible refine gate_callee (f := 23) rfl ?_); refine goesL_ (some 34) rfl rfl Try.func23 (by kernel_rfl) rfl #[.slice A0 l0.length c0] rfl (by (try simp only [List.map_toArray, List.map_cons, List.map_nil]); first | done | rfl | (simp only [List.length_drop, List.length_take]; rfl)) ?_; (with_reducible refine (arm_Valid.calls k _ _ l0 t122 _ ?side1 ?side2 A33.out).mono ?_); (case side1 => exact Kd.C_below HR0.out (by repeat (first | (with_reducible first | exact HB.out | apply below_alloc | apply pw_below_drewN | apply below_drew1 | refine below_set ?_ GE108.out | refine below_set ?_ GE109.out | refine below_set ?_ GE115.out | refine below_set ?_ GE116.out | refine below_set ?_ GE121.out) | exact HB.out))); (case side2 => exact HC0.out); rintro e w39 ⟨rfl, hb⟩; refine ⟨_, rfl, ?_⟩; have n0_ := Aside0.mk (blk_below (g := gb108) (o := .cells #[.int .i64 t103, .int .i64 t104] 24 (0, 0)) (bkF3 BK108 NB108_121) hb); have n1_ := Aside0.mk (blk_below (g := gb109) (o := .cells #[.int .i64 t105, .int .i64 t106] 24 (0, 0)) (bkF3 BK109 NB109_121) hb); have n2_ := Aside0.mk (blk_below (g := gb115) (o := .cells #[.int .i64 t110, .int .i64 t111] 24 (0, 0)) (bkF3 BK115 NB115_121) hb); have n3_ := Aside0.mk (blk_below (g := gb116) (o := .cells #[.int .i64 t112, .int .i64 t113] 24 (0, 0)) (bkF3 BK116 NB116_121) hb); have n4_ := Aside0.mk (blk_below (g := gb121) (o := .cells #[.int .i64 t117, .int .i64 t118, .int .i64 t119] 41 (0, 0)) (by (with_reducible repeat (first | refine blk_drewN ?_ _ | refine blk_drew ?_ | refine blk_alloc ?_ _)); refine blk_put (cs := #[.int .i64 t117, .int .i64 t118, .int .i64 0]) ?_ 2 _ rfl; (with_reducible repeat (first | refine blk_drewN ?_ _ | refine blk_drew ?_ | refine blk_alloc ?_ _)); refine blk_put (cs := #[.int .i64 t117, .int .i64 0, .int .i64 0]) ?_ 1 _ rfl; (with_reducible repeat (first | refine blk_drewN ?_ _ | refine blk_drew ?_ | refine blk_alloc ?_ _)); refine blk_put (cs := #[.int .i64 0, .int .i64 0, .int .i64 0]) ?_ 0 _ rfl; (with_reducible repeat (first | refine blk_drewN ?_ _ | refine blk_drew ?_ | refine blk_alloc ?_ _)); exact BK121.out) hb); have n5_ := Aside0.mk (below_step (by repeat (first | (with_reducible first | exact HB.out | apply below_alloc | apply pw_below_drewN | apply below_drew1 | refine below_set ?_ GE108.out | refine below_set ?_ GE109.out | refine below_set ?_ GE115.out | refine below_set ?_ GE116.out | refine below_set ?_ GE121.out) | exact HB.out)) hb); clear BK108; clear BK109; clear BK115; clear BK116; clear BK121; clear HB; have BK108 := n0_; have BK109 := n1_; have BK115 := n2_; have BK116 := n3_; have BK121 := n4_; have HB := n5_; clear n0_ n1_ n2_ n3_ n4_ n5_; (try clear hb); (try clear hb2); (try clear hk); (try clear hi)) | ((with_reducible refine gate_callee (f := 24) rfl ?_); refine goesL_ (some 36) rfl rfl Try.func24 (by kernel_rfl) rfl #[.slice A0 l0.length c0] rfl (by (try simp only [List.map_toArray, List.map_cons, List.map_nil]); first | done | rfl | (simp only [List.length_drop, List.length_take]; rfl)) ?_; (with_reducible refine (dropperref03_Valid.calls k _ _ l0 t123 _ ?side1 ?side2 A34.out).mono ?_); (case side1 => repeat (first | exact (Kd.C_below HR0.out HB.out) | (with_reducible refine Kd.C_alloc ?_ _) | (with_reducible refine Kd.C_drewN ?_ _) | (with_reducible refine Kd.C_drew ?_))); (case side2 => exact HC0.out); rintro e w40 ⟨rfl, hb⟩; refine ⟨_, rfl, ?_⟩; have n0_ := Aside0.mk (bkB BK108 hb); have n1_ := Aside0.mk (bkB BK109 hb); have n2_ := Aside0.mk (bkB BK115 hb); have n3_ := Aside0.mk (bkB BK116 hb); have n4_ := Aside0.mk (bkB BK121 hb); have n5_ := Aside0.mk (below_step (by repeat (first | (with_reducible first | exact HB.out | apply below_alloc | apply pw_below_drewN | apply below_drew1 | refine below_set ?_ GE108.out | refine below_set ?_ GE109.out | refine below_set ?_ GE115.out | refine below_set ?_ GE116.out | refine below_set ?_ GE121.out) | exact HB.out)) hb); clear BK108; clear BK109; clear BK115; clear BK116; clear BK121; clear HB; have BK108 := n0_; have BK109 := n1_; have BK115 := n2_; have BK116 := n3_; have BK121 := n4_; have HB := n5_; clear n0_ n1_ n2_ n3_ n4_ n5_; (try clear hb); (try clear hb2); (try clear hk); (try clear hi); have hnb41 := NB108_109.out; have hnc41 := NB109_108.out; have hnb42 := NB108_115.out; have hnc42 := NB115_108.out; have hnb43 := NB108_116.out; have hnc43 := NB116_108.out; have hnb44 := NB108_121.out; have hnc44 := NB121_108.out; have hcz45_0 : w40.cell? ⟨gb108, 0, none⟩ = some (.int .i64 t103) := (blk_cell BK108.out 0).trans rfl; have hcz45_1 : w40.cell? ⟨gb108, 1, none⟩ = some (.int .i64 t104) := (blk_cell BK108.out 1).trans rfl; have hfz45_0 := blk_frozen BK108.out 0; have hfz45_1 := blk_frozen BK108.out 1; have hnb46 := NB115_109.out; have hnc46 := NB109_115.out; have hnb47 := NB115_116.out; have hnc47 := NB116_115.out; have hnb48 := NB115_121.out; have hnc48 := NB121_115.out; have hcz49_0 : w40.cell? ⟨gb115, 0, none⟩ = some (.int .i64 t110) := (blk_cell BK115.out 0).trans rfl; have hcz49_1 : w40.cell? ⟨gb115, 1, none⟩ = some (.int .i64 t111) := (blk_cell BK115.out 1).trans rfl; have hfz49_0 := blk_frozen BK115.out 0; have hfz49_1 := blk_frozen BK115.out 1))
      go_meet
      case rel => exact ⟨_, (true), (by first | rfl | (simp; done) | (simp [*]; done)), H', ⟨by first | omega | exact Nat.le_refl _⟩, ⟨bkU BK108⟩, ⟨bkU BK109⟩, ⟨bkU BK115⟩, ⟨bkU BK116⟩, ⟨bkU BK121⟩, ⟨by repeat (first | (with_reducible first | exact HB.out | apply below_alloc | apply pw_below_drewN | apply below_drew1 | refine below_set ?_ GE108.out | refine below_set ?_ GE109.out | refine below_set ?_ GE115.out | refine below_set ?_ GE116.out | refine below_set ?_ GE121.out) | exact HB.out)⟩⟩
    rw [if_neg c38] at H
    have c38b0 : (!(t103 == t110) || (!(t104 == t111))) = false := by simpa using c38
    clear c38
    by_cases c50 : (!(t105 == t112) || (!(t106 == t113))) = true
    · rw [if_pos c50] at H
      have c50b0 : (!(t105 == t112) || (!(t106 == t113))) = true := c50
      clear c50
      have H' := Aside0.mk H
      clear H
      go_wp2_with (first | ((with_reducible refine gate_callee (f := 23) rfl ?_); refine goesL_ (some 34) rfl rfl Try.func23 (by kernel_rfl) rfl #[.slice A0 l0.length c0] rfl (by (try simp only [List.map_toArray, List.map_cons, List.map_nil]); first | done | rfl | (simp only [List.length_drop, List.length_take]; rfl)) ?_; (with_reducible refine (arm_Valid.calls k _ _ l0 t122 _ ?side1 ?side2 A33.out).mono ?_); (case side1 => exact Kd.C_below HR0.out (by repeat (first | (with_reducible first | exact HB.out | apply below_alloc | apply pw_below_drewN | apply below_drew1 | refine below_set ?_ GE108.out | refine below_set ?_ GE109.out | refine below_set ?_ GE115.out | refine below_set ?_ GE116.out | refine below_set ?_ GE121.out) | exact HB.out))); (case side2 => exact HC0.out); rintro e w51 ⟨rfl, hb⟩; refine ⟨_, rfl, ?_⟩; have n0_ := Aside0.mk (blk_below (g := gb108) (o := .cells #[.int .i64 t103, .int .i64 t104] 24 (0, 0)) (bkF3 BK108 NB108_121) hb); have n1_ := Aside0.mk (blk_below (g := gb109) (o := .cells #[.int .i64 t105, .int .i64 t106] 24 (0, 0)) (bkF3 BK109 NB109_121) hb); have n2_ := Aside0.mk (blk_below (g := gb115) (o := .cells #[.int .i64 t110, .int .i64 t111] 24 (0, 0)) (bkF3 BK115 NB115_121) hb); have n3_ := Aside0.mk (blk_below (g := gb116) (o := .cells #[.int .i64 t112, .int .i64 t113] 24 (0, 0)) (bkF3 BK116 NB116_121) hb); have n4_ := Aside0.mk (blk_below (g := gb121) (o := .cells #[.int .i64 t117, .int .i64 t118, .int .i64 t119] 41 (0, 0)) (by (with_reducible repeat (first | refine blk_drewN ?_ _ | refine blk_drew ?_ | refine blk_alloc ?_ _)); refine blk_put (cs := #[.int .i64 t117, .int .i64 t118, .int .i64 0]) ?_ 2 _ rfl; (with_reducible repeat (first | refine blk_drewN ?_ _ | refine blk_drew ?_ | refine blk_alloc ?_ _)); refine blk_put (cs := #[.int .i64 t117, .int .i64 0, .int .i64 0]) ?_ 1 _ rfl; (with_reducible repeat (first | refine blk_drewN ?_ _ | refine blk_drew ?_ | refine blk_alloc ?_ _)); refine blk_put (cs := #[.int .i64 0, .int .i64 0, .int .i64 0]) ?_ 0 _ rfl; (with_reducible repeat (first | refine blk_drewN ?_ _ | refine blk_drew ?_ | refine blk_alloc ?_ _)); exact BK121.out) hb); have n5_ := Aside0.mk (below_step (by repeat (first | (with_reducible first | exact HB.out | apply below_alloc | apply pw_below_drewN | apply below_drew1 | refine below_set ?_ GE108.out | refine below_set ?_ GE109.out | refine below_set ?_ GE115.out | refine below_set ?_ GE116.out | refine below_set ?_ GE121.out) | exact HB.out)) hb); clear BK108; clear BK109; clear BK115; clear BK116; clear BK121; clear HB; have BK108 := n0_; have BK109 := n1_; have BK115 := n2_; have BK116 := n3_; have BK121 := n4_; have HB := n5_; clear n0_ n1_ n2_ n3_ n4_ n5_; (try clear hb); (try clear hb2); (try clear hk); (try clear hi)) | ((with_reducible refine gate_callee (f := 24) rfl ?_); refine goesL_ (some 36) rfl rfl Try.func24 (by kernel_rfl) rfl #[.slice A0 l0.length c0] rfl (by (try simp only [List.map_toArray, List.map_cons, List.map_nil]); first | done | rfl | (simp only [List.length_drop, List.length_take]; rfl)) ?_; (with_reducible refine (dropperref03_Valid.calls k _ _ l0 t123 _ ?side1 ?side2 A34.out).mono ?_); (case side1 => repeat (first | exact (Kd.C_below HR0.out HB.out) | (with_reducible refine Kd.C_alloc ?_ _) | (with_reducible refine Kd.C_drewN ?_ _) | (with_reducible refine Kd.C_drew ?_))); (case side2 => exact HC0.out); rintro e w52 ⟨rfl, hb⟩; refine ⟨_, rfl, ?_⟩; have n0_ := Aside0.mk (bkB BK108 hb); have n1_ := Aside0.mk (bkB BK109 hb); have n2_ := Aside0.mk (bkB BK115 hb); have n3_ := Aside0.mk (bkB BK116 hb); have n4_ := Aside0.mk (bkB BK121 hb); have n5_ := Aside0.mk (below_step (by repeat (first | (with_reducible first | exact HB.out | apply below_alloc | apply pw_below_drewN | apply below_drew1 | refine below_set ?_ GE108.out | refine below_set ?_ GE109.out | refine below_set ?_ GE115.out | refine below_set ?_ GE116.out | refine below_set ?_ GE121.out) | exact HB.out)) hb); clear BK108; clear BK109; clear BK115; clear BK116; clear BK121; clear HB; have BK108 := n0_; have BK109 := n1_; have BK115 := n2_; have BK116 := n3_; have BK121 := n4_; have HB := n5_; clear n0_ n1_ n2_ n3_ n4_ n5_; (try clear hb); (try clear hb2); (try clear hk); (try clear hi); have hnb53 := NB108_109.out; have hnc53 := NB109_108.out; have hnb54 := NB108_115.out; have hnc54 := NB115_108.out; have hnb55 := NB108_116.out; have hnc55 := NB116_108.out; have hnb56 := NB108_121.out; have hnc56 := NB121_108.out; have hcz57_0 : w52.cell? ⟨gb108, 0, none⟩ = some (.int .i64 t103) := (blk_cell BK108.out 0).trans rfl; have hcz57_1 : w52.cell? ⟨gb108, 1, none⟩ = some (.int .i64 t104) := (blk_cell BK108.out 1).trans rfl; have hfz57_0 := blk_frozen BK108.out 0; have hfz57_1 := blk_frozen BK108.out 1; have hnb58 := NB115_109.out; have hnc58 := NB109_115.out; have hnb59 := NB115_116.out; have hnc59 := NB116_115.out; have hnb60 := NB115_121.out; have hnc60 := NB121_115.out; have hcz61_0 : w52.cell? ⟨gb115, 0, none⟩ = some (.int .i64 t110) := (blk_cell BK115.out 0).trans rfl; have hcz61_1 : w52.cell? ⟨gb115, 1, none⟩ = some (.int .i64 t111) := (blk_cell BK115.out 1).trans rfl; have hfz61_0 := blk_frozen BK115.out 0; have hfz61_1 := blk_frozen BK115.out 1; have hnb62 := NB109_116.out; have hnc62 := NB116_109.out; have hnb63 := NB109_121.out; have hnc63 := NB121_109.out; have hcz64_0 : w52.cell? ⟨gb109, 0, none⟩ = some (.int .i64 t105) := (blk_cell BK109.out 0).trans rfl; have hcz64_1 : w52.cell? ⟨gb109, 1, none⟩ = some (.int .i64 t106) := (blk_cell BK109.out 1).trans rfl; have hfz64_0 := blk_frozen BK109.out 0; have hfz64_1 := blk_frozen BK109.out 1; have hnb65 := NB116_121.out; have hnc65 := NB121_116.out; have hcz66_0 : w52.cell? ⟨gb116, 0, none⟩ = some (.int .i64 t112) := (blk_cell BK116.out 0).trans rfl; have hcz66_1 : w52.cell? ⟨gb116, 1, none⟩ = some (.int .i64 t113) := (blk_cell BK116.out 1).trans rfl; have hfz66_0 := blk_frozen BK116.out 0; have hfz66_1 := blk_frozen BK116.out 1))
      go_meet
      case rel => exact ⟨_, (true), (by first | rfl | (simp; done) | (simp [*]; done)), H', ⟨by first | omega | exact Nat.le_refl _⟩, ⟨bkU BK108⟩, ⟨bkU BK109⟩, ⟨bkU BK115⟩, ⟨bkU BK116⟩, ⟨bkU BK121⟩, ⟨by repeat (first | (with_reducible first | exact HB.out | apply below_alloc | apply pw_below_drewN | apply below_drew1 | refine below_set ?_ GE108.out | refine below_set ?_ GE109.out | refine below_set ?_ GE115.out | refine below_set ?_ GE116.out | refine below_set ?_ GE121.out) | exact HB.out)⟩⟩
    rw [if_neg c50] at H
    have c50b0 : (!(t105 == t112) || (!(t106 == t113))) = false := by simpa using c50
    clear c50
    have H' := Aside0.mk H
    clear H
    go_wp2_with (first | ((with_reducible refine gate_callee (f := 23) rfl ?_); refine goesL_ (some 34) rfl rfl Try.func23 (by kernel_rfl) rfl #[.slice A0 l0.length c0] rfl (by (try simp only [List.map_toArray, List.map_cons, List.map_nil]); first | done | rfl | (simp only [List.length_drop, List.length_take]; rfl)) ?_; (with_reducible refine (arm_Valid.calls k _ _ l0 t122 _ ?side1 ?side2 A33.out).mono ?_); (case side1 => exact Kd.C_below HR0.out (by repeat (first | (with_reducible first | exact HB.out | apply below_alloc | apply pw_below_drewN | apply below_drew1 | refine below_set ?_ GE108.out | refine below_set ?_ GE109.out | refine below_set ?_ GE115.out | refine below_set ?_ GE116.out | refine below_set ?_ GE121.out) | exact HB.out))); (case side2 => exact HC0.out); rintro e w67 ⟨rfl, hb⟩; refine ⟨_, rfl, ?_⟩; have n0_ := Aside0.mk (blk_below (g := gb108) (o := .cells #[.int .i64 t103, .int .i64 t104] 24 (0, 0)) (bkF3 BK108 NB108_121) hb); have n1_ := Aside0.mk (blk_below (g := gb109) (o := .cells #[.int .i64 t105, .int .i64 t106] 24 (0, 0)) (bkF3 BK109 NB109_121) hb); have n2_ := Aside0.mk (blk_below (g := gb115) (o := .cells #[.int .i64 t110, .int .i64 t111] 24 (0, 0)) (bkF3 BK115 NB115_121) hb); have n3_ := Aside0.mk (blk_below (g := gb116) (o := .cells #[.int .i64 t112, .int .i64 t113] 24 (0, 0)) (bkF3 BK116 NB116_121) hb); have n4_ := Aside0.mk (blk_below (g := gb121) (o := .cells #[.int .i64 t117, .int .i64 t118, .int .i64 t119] 41 (0, 0)) (by (with_reducible repeat (first | refine blk_drewN ?_ _ | refine blk_drew ?_ | refine blk_alloc ?_ _)); refine blk_put (cs := #[.int .i64 t117, .int .i64 t118, .int .i64 0]) ?_ 2 _ rfl; (with_reducible repeat (first | refine blk_drewN ?_ _ | refine blk_drew ?_ | refine blk_alloc ?_ _)); refine blk_put (cs := #[.int .i64 t117, .int .i64 0, .int .i64 0]) ?_ 1 _ rfl; (with_reducible repeat (first | refine blk_drewN ?_ _ | refine blk_drew ?_ | refine blk_alloc ?_ _)); refine blk_put (cs := #[.int .i64 0, .int .i64 0, .int .i64 0]) ?_ 0 _ rfl; (with_reducible repeat (first | refine blk_drewN ?_ _ | refine blk_drew ?_ | refine blk_alloc ?_ _)); exact BK121.out) hb); have n5_ := Aside0.mk (below_step (by repeat (first | (with_reducible first | exact HB.out | apply below_alloc | apply pw_below_drewN | apply below_drew1 | refine below_set ?_ GE108.out | refine below_set ?_ GE109.out | refine below_set ?_ GE115.out | refine below_set ?_ GE116.out | refine below_set ?_ GE121.out) | exact HB.out)) hb); clear BK108; clear BK109; clear BK115; clear BK116; clear BK121; clear HB; have BK108 := n0_; have BK109 := n1_; have BK115 := n2_; have BK116 := n3_; have BK121 := n4_; have HB := n5_; clear n0_ n1_ n2_ n3_ n4_ n5_; (try clear hb); (try clear hb2); (try clear hk); (try clear hi)) | ((with_reducible refine gate_callee (f := 24) rfl ?_); refine goesL_ (some 36) rfl rfl Try.func24 (by kernel_rfl) rfl #[.slice A0 l0.length c0] rfl (by (try simp only [List.map_toArray, List.map_cons, List.map_nil]); first | done | rfl | (simp only [List.length_drop, List.length_take]; rfl)) ?_; (with_reducible refine (dropperref03_Valid.calls k _ _ l0 t123 _ ?side1 ?side2 A34.out).mono ?_); (case side1 => repeat (first | exact (Kd.C_below HR0.out HB.out) | (with_reducible refine Kd.C_alloc ?_ _) | (with_reducible refine Kd.C_drewN ?_ _) | (with_reducible refine Kd.C_drew ?_))); (case side2 => exact HC0.out); rintro e w68 ⟨rfl, hb⟩; refine ⟨_, rfl, ?_⟩; have n0_ := Aside0.mk (bkB BK108 hb); have n1_ := Aside0.mk (bkB BK109 hb); have n2_ := Aside0.mk (bkB BK115 hb); have n3_ := Aside0.mk (bkB BK116 hb); have n4_ := Aside0.mk (bkB BK121 hb); have n5_ := Aside0.mk (below_step (by repeat (first | (with_reducible first | exact HB.out | apply below_alloc | apply pw_below_drewN | apply below_drew1 | refine below_set ?_ GE108.out | refine below_set ?_ GE109.out | refine below_set ?_ GE115.out | refine below_set ?_ GE116.out | refine below_set ?_ GE121.out) | exact HB.out)) hb); clear BK108; clear BK109; clear BK115; clear BK116; clear BK121; clear HB; have BK108 := n0_; have BK109 := n1_; have BK115 := n2_; have BK116 := n3_; have BK121 := n4_; have HB := n5_; clear n0_ n1_ n2_ n3_ n4_ n5_; (try clear hb); (try clear hb2); (try clear hk); (try clear hi); have hnb69 := NB108_109.out; have hnc69 := NB109_108.out; have hnb70 := NB108_115.out; have hnc70 := NB115_108.out; have hnb71 := NB108_116.out; have hnc71 := NB116_108.out; have hnb72 := NB108_121.out; have hnc72 := NB121_108.out; have hcz73_0 : w68.cell? ⟨gb108, 0, none⟩ = some (.int .i64 t103) := (blk_cell BK108.out 0).trans rfl; have hcz73_1 : w68.cell? ⟨gb108, 1, none⟩ = some (.int .i64 t104) := (blk_cell BK108.out 1).trans rfl; have hfz73_0 := blk_frozen BK108.out 0; have hfz73_1 := blk_frozen BK108.out 1; have hnb74 := NB115_109.out; have hnc74 := NB109_115.out; have hnb75 := NB115_116.out; have hnc75 := NB116_115.out; have hnb76 := NB115_121.out; have hnc76 := NB121_115.out; have hcz77_0 : w68.cell? ⟨gb115, 0, none⟩ = some (.int .i64 t110) := (blk_cell BK115.out 0).trans rfl; have hcz77_1 : w68.cell? ⟨gb115, 1, none⟩ = some (.int .i64 t111) := (blk_cell BK115.out 1).trans rfl; have hfz77_0 := blk_frozen BK115.out 0; have hfz77_1 := blk_frozen BK115.out 1; have hnb78 := NB109_116.out; have hnc78 := NB116_109.out; have hnb79 := NB109_121.out; have hnc79 := NB121_109.out; have hcz80_0 : w68.cell? ⟨gb109, 0, none⟩ = some (.int .i64 t105) := (blk_cell BK109.out 0).trans rfl; have hcz80_1 : w68.cell? ⟨gb109, 1, none⟩ = some (.int .i64 t106) := (blk_cell BK109.out 1).trans rfl; have hfz80_0 := blk_frozen BK109.out 0; have hfz80_1 := blk_frozen BK109.out 1; have hnb81 := NB116_121.out; have hnc81 := NB121_116.out; have hcz82_0 : w68.cell? ⟨gb116, 0, none⟩ = some (.int .i64 t112) := (blk_cell BK116.out 0).trans rfl; have hcz82_1 : w68.cell? ⟨gb116, 1, none⟩ = some (.int .i64 t113) := (blk_cell BK116.out 1).trans rfl; have hfz82_0 := blk_frozen BK116.out 0; have hfz82_1 := blk_frozen BK116.out 1))
    go_meet
    case rel => exact ⟨_, ((t107 != t114)), (by first | rfl | (simp; done) | (simp [*]; done)), H', ⟨by first | omega | exact Nat.le_refl _⟩, ⟨bkU BK108⟩, ⟨bkU BK109⟩, ⟨bkU BK115⟩, ⟨bkU BK116⟩, ⟨bkU BK121⟩, ⟨by repeat (first | (with_reducible first | exact HB.out | apply below_alloc | apply pw_below_drewN | apply below_drew1 | refine below_set ?_ GE108.out | refine below_set ?_ GE109.out | refine below_set ?_ GE115.out | refine below_set ?_ GE116.out | refine below_set ?_ GE121.out) | exact HB.out)⟩⟩
  case rest =>
    clear HC9
    try clear c1
    try clear c2
    try clear p2
    try clear c3
    try clear c4
    try clear c5
    try clear c6
    try clear c7
    try clear c8
    try clear c13
    try clear c14
    try clear c15
    try clear c19
    try clear c20
    try clear c21
    try clear c22
    try clear c23
    try clear c24
    try clear c28
    try clear c29
    try clear c30
    try clear c31
    try clear c35
    try clear c35b0
    try clear c35b1
    try clear c35b2
    try clear c38
    try clear c38b0
    try clear c41
    try clear c42
    try clear c43
    try clear c44
    try clear c46
    try clear c47
    try clear c48
    try clear c50
    try clear c50b0
    try clear c53
    try clear c54
    try clear c55
    try clear c56
    try clear c58
    try clear c59
    try clear c60
    try clear c62
    try clear c63
    try clear c65
    try clear c69
    try clear c70
    try clear c71
    try clear c72
    try clear c74
    try clear c75
    try clear c76
    try clear c78
    try clear c79
    try clear c81
    try clear hcz14_0
    try clear hcz14_1
    try clear hcz15_0
    try clear hcz15_1
    try clear hcz22_0
    try clear hcz22_1
    try clear hcz25_0
    try clear hcz25_1
    try clear hcz32_0
    try clear hcz32_1
    try clear hcz32_2
    try clear hcz45_0
    try clear hcz45_1
    try clear hcz49_0
    try clear hcz49_1
    try clear hcz57_0
    try clear hcz57_1
    try clear hcz61_0
    try clear hcz61_1
    try clear hcz64_0
    try clear hcz64_1
    try clear hcz66_0
    try clear hcz66_1
    try clear hcz73_0
    try clear hcz73_1
    try clear hcz77_0
    try clear hcz77_1
    try clear hcz80_0
    try clear hcz80_1
    try clear hcz82_0
    try clear hcz82_1
    try clear hfz14_0
    try clear hfz14_1
    try clear hfz15_0
    try clear hfz15_1
    try clear hfz22_0
    try clear hfz22_1
    try clear hfz25_0
    try clear hfz25_1
    try clear hfz32_0
    try clear hfz32_1
    try clear hfz32_2
    try clear hfz45_0
    try clear hfz45_1
    try clear hfz49_0
    try clear hfz49_1
    try clear hfz57_0
    try clear hfz57_1
    try clear hfz61_0
    try clear hfz61_1
    try clear hfz64_0
    try clear hfz64_1
    try clear hfz66_0
    try clear hfz66_1
    try clear hfz73_0
    try clear hfz73_1
    try clear hfz77_0
    try clear hfz77_1
    try clear hfz80_0
    try clear hfz80_1
    try clear hfz82_0
    try clear hfz82_1
    obtain ⟨kq, x52_8, rfl, HA, HJ8, BK108, BK109, BK115, BK116, BK121, HB⟩ := hcut
    cases kq with
    | zero => exact absurd HA.out (by simp [dropperlaw03_ArmSlopes.j0])
    | succ kj8 =>
      have H := HA.out
      clear HA
      simp only [dropperlaw03_ArmSlopes.j0] at H
      by_cases c83 : x52_8 = true
      · subst c83
        have H1 : (some false) = some r := by rw [if_pos rfl] at H; exact H
        clear H
        have H := H1
        clear H1
        exact absurd (hT.symm.trans (Option.some.inj H).symm) (by decide)
      replace c83 := Bool.eq_false_iff.mpr c83
      subst c83
      have H1 : ((dropperref03_Valid.f kj8 l0).bind fun t124 => (if t124 = true then ((dropperref03_Some.f kj8 l0).bind fun t126 => (if t126 = true then ((dropperref03_Through.f kj8 l0 t117 t118 t119).bind fun bt127 => (if t120 = 0 then (if bt127.2 = 0 then (if bt127.1 = true then ((dropperlaw03_First.f kj8).bind fun t129 => (some t129)) else (some false)) else (some false)) else (some false))) else (if t120 = 5 then (if (t117 == 0 && (t118 == 0 && (t119 == 0))) = true then ((dropperlaw03_First.f kj8).bind fun t130 => (some t130)) else (some false)) else (some false)))) else (if t120 = 20 then (if (t117 == 0 && (t118 == 0 && (t119 == 0))) = true then ((dropperlaw03_First.f kj8).bind fun t125 => (some t125)) else (some false)) else (some false)))) = some r := by rw [if_neg (show ¬ (false = true) by decide)] at H; exact H
      clear H
      have H := H1
      clear H1
      replace H := Option.bind_eq_some_iff.mp H
      obtain ⟨t124, A840, H⟩ := H
      replace H : (if t124 = true then ((dropperref03_Some.f kj8 l0).bind fun t126 => (if t126 = true then ((dropperref03_Through.f kj8 l0 t117 t118 t119).bind fun bt127 => (if t120 = 0 then (if bt127.2 = 0 then (if bt127.1 = true then ((dropperlaw03_First.f kj8).bind fun t129 => (some t129)) else (some false)) else (some false)) else (some false))) else (if t120 = 5 then (if (t117 == 0 && (t118 == 0 && (t119 == 0))) = true then ((dropperlaw03_First.f kj8).bind fun t130 => (some t130)) else (some false)) else (some false)))) else (if t120 = 20 then (if (t117 == 0 && (t118 == 0 && (t119 == 0))) = true then ((dropperlaw03_First.f kj8).bind fun t125 => (some t125)) else (some false)) else (some false))) = some r := H
      have A84 := Aside0.mk A840
      clear A840
      by_cases c85 : t124 = true
      rotate_left
      · replace c85 := Bool.eq_false_iff.mpr c85
        subst c85
        have H1 : (if t120 = 20 then (if (t117 == 0 && (t118 == 0 && (t119 == 0))) = true then ((dropperlaw03_First.f kj8).bind fun t125 => (some t125)) else (some false)) else (some false)) = some r := by rw [if_neg (show ¬ (false = true) by decide)] at H; exact H
        clear H
        have H := H1
        clear H1
        by_cases c113 : t120 = 20
        rotate_left
        · rw [if_neg c113] at H
          have c113b0 : (t120 == 20) = false := beq_eq_false_iff_ne.mpr c113
          have c113b1 : (t120 != 20) = true := bne_iff_ne.mpr c113
          exact absurd (hT.symm.trans (Option.some.inj H).symm) (by decide)

        rw [if_pos c113] at H
        have c113b0 : (t120 == 20) = true := beq_iff_eq.mpr c113
        have c113b1 : (t120 != 20) = false := bne_eq_false_iff_eq.mpr c113
        clear c113
        by_cases c114 : (t117 == 0 && (t118 == 0 && (t119 == 0))) = true
        rotate_left
        · rw [if_neg c114] at H
          have c114b0 : (t117 == 0 && (t118 == 0 && (t119 == 0))) = false := by simpa using c114
          (try (have c114b1 : decide (t117 = 0 && (t118 == 0 && (t119 == 0))) = false := by simpa using c114))
          (try (have c114b2 : (t117 == 0 && (t118 == 0 && (t119 == 0))) = false := by simpa using c114))
          (try (have c114b3 : ¬ (t117 = 0 && (t118 == 0 && (t119 == 0))) := by simpa using c114))
          clear c114
          exact absurd (hT.symm.trans (Option.some.inj H).symm) (by decide)
        rw [if_pos c114] at H
        have c114b0 : (t117 == 0 && (t118 == 0 && (t119 == 0))) = true := c114
        (try (have c114b1 : decide (t117 = 0 && (t118 == 0 && (t119 == 0))) = true := by simpa using c114))
        (try (have c114b2 : (t117 == 0 && (t118 == 0 && (t119 == 0))) = true := by simpa using c114))
        clear c114
        replace H := Option.bind_eq_some_iff.mp H
        obtain ⟨t125, A1150, H⟩ := H
        replace H : (some t125) = some r := H
        have A115 := Aside0.mk A1150
        clear A1150
        clear hT
        obtain rfl := Option.some.inj H
        go_wp2_with (first | ((with_reducible refine gate_callee (f := 24) rfl ?_); refine goesL_ (some 54) rfl rfl Try.func24 (by kernel_rfl) rfl #[.slice A0 l0.length c0] rfl (by (try simp only [List.map_toArray, List.map_cons, List.map_nil]); first | done | rfl | (simp only [List.length_drop, List.length_take]; rfl)) ?_; (with_reducible refine (dropperref03_Valid.calls kj8 _ _ l0 false _ ?side1 ?side2 A84.out).mono ?_); (case side1 => repeat (first | exact (Kd.C_below HR0.out HB.out) | (with_reducible refine Kd.C_alloc ?_ _) | (with_reducible refine Kd.C_drewN ?_ _) | (with_reducible refine Kd.C_drew ?_))); (case side2 => exact HC0.out); rintro e w116 ⟨rfl, hb⟩; refine ⟨_, rfl, ?_⟩; have n0_ := Aside0.mk (bkB BK108 hb); have n1_ := Aside0.mk (bkB BK109 hb); have n2_ := Aside0.mk (bkB BK115 hb); have n3_ := Aside0.mk (bkB BK116 hb); have n4_ := Aside0.mk (bkB BK121 hb); have n5_ := Aside0.mk (below_step (by repeat (first | (with_reducible first | exact HB.out | apply below_alloc | apply pw_below_drewN | apply below_drew1 | refine below_set ?_ GE108.out | refine below_set ?_ GE109.out | refine below_set ?_ GE115.out | refine below_set ?_ GE116.out | refine below_set ?_ GE121.out) | exact HB.out)) hb); clear BK108; clear BK109; clear BK115; clear BK116; clear BK121; clear HB; have BK108 := n0_; have BK109 := n1_; have BK115 := n2_; have BK116 := n3_; have BK121 := n4_; have HB := n5_; clear n0_ n1_ n2_ n3_ n4_ n5_; (try clear hb); (try clear hb2); (try clear hk); (try clear hi); have hnb117 := NB121_108.out; have hnc117 := NB108_121.out; have hnb118 := NB121_109.out; have hnc118 := NB109_121.out; have hnb119 := NB121_115.out; have hnc119 := NB115_121.out; have hnb120 := NB121_116.out; have hnc120 := NB116_121.out; have hcz121_0 : w116.cell? ⟨gb121, 0, none⟩ = some (.int .i64 t117) := (blk_cell BK121.out 0).trans rfl; have hcz121_1 : w116.cell? ⟨gb121, 1, none⟩ = some (.int .i64 t118) := (blk_cell BK121.out 1).trans rfl; have hcz121_2 : w116.cell? ⟨gb121, 2, none⟩ = some (.int .i64 t119) := (blk_cell BK121.out 2).trans rfl; have hfz121_0 := blk_frozen BK121.out 0; have hfz121_1 := blk_frozen BK121.out 1; have hfz121_2 := blk_frozen BK121.out 2) | (go_at_call 14; (with_reducible refine (dropperlaw03_First.calls kj8  t125 _ A115.out).mono ?_); rintro e w122 ⟨rfl, hb⟩; have n0_ := Aside0.mk (bkB BK108 hb); have n1_ := Aside0.mk (bkB BK109 hb); have n2_ := Aside0.mk (bkB BK115 hb); have n3_ := Aside0.mk (bkB BK116 hb); have n4_ := Aside0.mk (bkB BK121 hb); have n5_ := Aside0.mk (below_step (by repeat (first | (with_reducible first | exact HB.out | apply below_alloc | apply pw_below_drewN | apply below_drew1 | refine below_set ?_ GE108.out | refine below_set ?_ GE109.out | refine below_set ?_ GE115.out | refine below_set ?_ GE116.out | refine below_set ?_ GE121.out) | exact HB.out)) hb); clear BK108; clear BK109; clear BK115; clear BK116; clear BK121; clear HB; have BK108 := n0_; have BK109 := n1_; have BK115 := n2_; have BK116 := n3_; have BK121 := n4_; have HB := n5_; clear n0_ n1_ n2_ n3_ n4_ n5_; (try clear hb); (try clear hb2); (try clear hk); (try clear hi)))
        go_ret
        exact ⟨by first | rfl | (simp [errW_none, errW_some] <;> rfl) | (simp [*, errW_none, errW_some] <;> rfl), by repeat (first | (with_reducible first | exact HB.out | apply below_alloc | apply pw_below_drewN | apply below_drew1 | refine below_set ?_ GE108.out | refine below_set ?_ GE109.out | refine below_set ?_ GE115.out | refine below_set ?_ GE116.out | refine below_set ?_ GE121.out) | exact HB.out)⟩
      subst c85
      have H1 : ((dropperref03_Some.f kj8 l0).bind fun t126 => (if t126 = true then ((dropperref03_Through.f kj8 l0 t117 t118 t119).bind fun bt127 => (if t120 = 0 then (if bt127.2 = 0 then (if bt127.1 = true then ((dropperlaw03_First.f kj8).bind fun t129 => (some t129)) else (some false)) else (some false)) else (some false))) else (if t120 = 5 then (if (t117 == 0 && (t118 == 0 && (t119 == 0))) = true then ((dropperlaw03_First.f kj8).bind fun t130 => (some t130)) else (some false)) else (some false)))) = some r := by rw [if_pos rfl] at H; exact H
      clear H
      have H := H1
      clear H1
      replace H := Option.bind_eq_some_iff.mp H
      obtain ⟨t126, A860, H⟩ := H
      replace H : (if t126 = true then ((dropperref03_Through.f kj8 l0 t117 t118 t119).bind fun bt127 => (if t120 = 0 then (if bt127.2 = 0 then (if bt127.1 = true then ((dropperlaw03_First.f kj8).bind fun t129 => (some t129)) else (some false)) else (some false)) else (some false))) else (if t120 = 5 then (if (t117 == 0 && (t118 == 0 && (t119 == 0))) = true then ((dropperlaw03_First.f kj8).bind fun t130 => (some t130)) else (some false)) else (some false))) = some r := H
      have A86 := Aside0.mk A860
      clear A860
      by_cases c87 : t126 = true
      rotate_left
      · replace c87 := Bool.eq_false_iff.mpr c87
        subst c87
        have H1 : (if t120 = 5 then (if (t117 == 0 && (t118 == 0 && (t119 == 0))) = true then ((dropperlaw03_First.f kj8).bind fun t130 => (some t130)) else (some false)) else (some false)) = some r := by rw [if_neg (show ¬ (false = true) by decide)] at H; exact H
        clear H
        have H := H1
        clear H1
        by_cases c102 : t120 = 5
        rotate_left
        · rw [if_neg c102] at H
          have c102b0 : (t120 == 5) = false := beq_eq_false_iff_ne.mpr c102
          have c102b1 : (t120 != 5) = true := bne_iff_ne.mpr c102
          exact absurd (hT.symm.trans (Option.some.inj H).symm) (by decide)
        rw [if_pos c102] at H
        have c102b0 : (t120 == 5) = true := beq_iff_eq.mpr c102
        have c102b1 : (t120 != 5) = false := bne_eq_false_iff_eq.mpr c102
        clear c102
        by_cases c103 : (t117 == 0 && (t118 == 0 && (t119 == 0))) = true
        rotate_left
        · rw [if_neg c103] at H
          have c103b0 : (t117 == 0 && (t118 == 0 && (t119 == 0))) = false := by simpa using c103
          (try (have c103b1 : decide (t117 = 0 && (t118 == 0 && (t119 == 0))) = false := by simpa using c103))
          (try (have c103b2 : (t117 == 0 && (t118 == 0 && (t119 == 0))) = false := by simpa using c103))
          (try (have c103b3 : ¬ (t117 = 0 && (t118 == 0 && (t119 == 0))) := by simpa using c103))
          clear c103
          exact absurd (hT.symm.trans (Option.some.inj H).symm) (by decide)
        rw [if_pos c103] at H
        have c103b0 : (t117 == 0 && (t118 == 0 && (t119 == 0))) = true := c103
        (try (have c103b1 : decide (t117 = 0 && (t118 == 0 && (t119 == 0))) = true := by simpa using c103))
        (try (have c103b2 : (t117 == 0 && (t118 == 0 && (t119 == 0))) = true := by simpa using c103))
        clear c103
        replace H := Option.bind_eq_some_iff.mp H
        obtain ⟨t130, A1040, H⟩ := H
        replace H : (some t130) = some r := H
        have A104 := Aside0.mk A1040
        clear A1040
        clear hT
        obtain rfl := Option.some.inj H
        go_wp2_with (first | ((with_reducible refine gate_callee (f := 24) rfl ?_); refine goesL_ (some 54) rfl rfl Try.func24 (by kernel_rfl) rfl #[.slice A0 l0.length c0] rfl (by (try simp only [List.map_toArray, List.map_cons, List.map_nil]); first | done | rfl | (simp only [List.length_drop, List.length_take]; rfl)) ?_; (with_reducible refine (dropperref03_Valid.calls kj8 _ _ l0 true _ ?side1 ?side2 A84.out).mono ?_); (case side1 => repeat (first | exact (Kd.C_below HR0.out HB.out) | (with_reducible refine Kd.C_alloc ?_ _) | (with_reducible refine Kd.C_drewN ?_ _) | (with_reducible refine Kd.C_drew ?_))); (case side2 => exact HC0.out); rintro e w105 ⟨rfl, hb⟩; refine ⟨_, rfl, ?_⟩; have n0_ := Aside0.mk (bkB BK108 hb); have n1_ := Aside0.mk (bkB BK109 hb); have n2_ := Aside0.mk (bkB BK115 hb); have n3_ := Aside0.mk (bkB BK116 hb); have n4_ := Aside0.mk (bkB BK121 hb); have n5_ := Aside0.mk (below_step (by repeat (first | (with_reducible first | exact HB.out | apply below_alloc | apply pw_below_drewN | apply below_drew1 | refine below_set ?_ GE108.out | refine below_set ?_ GE109.out | refine below_set ?_ GE115.out | refine below_set ?_ GE116.out | refine below_set ?_ GE121.out) | exact HB.out)) hb); clear BK108; clear BK109; clear BK115; clear BK116; clear BK121; clear HB; have BK108 := n0_; have BK109 := n1_; have BK115 := n2_; have BK116 := n3_; have BK121 := n4_; have HB := n5_; clear n0_ n1_ n2_ n3_ n4_ n5_; (try clear hb); (try clear hb2); (try clear hk); (try clear hi)) | ((with_reducible refine gate_callee (f := 25) rfl ?_); refine goesL_ (some 67) rfl rfl Try.func25 (by kernel_rfl) rfl #[.slice A0 l0.length c0] rfl (by (try simp only [List.map_toArray, List.map_cons, List.map_nil]); first | done | rfl | (simp only [List.length_drop, List.length_take]; rfl)) ?_; (with_reducible refine (dropperref03_Some.calls kj8 _ _ l0 false _ ?side1 ?side2 A86.out).mono ?_); (case side1 => repeat (first | exact (Kd.C_below HR0.out HB.out) | (with_reducible refine Kd.C_alloc ?_ _) | (with_reducible refine Kd.C_drewN ?_ _) | (with_reducible refine Kd.C_drew ?_))); (case side2 => exact HC0.out); rintro e w106 ⟨rfl, hb⟩; refine ⟨_, rfl, ?_⟩; have n0_ := Aside0.mk (bkB BK108 hb); have n1_ := Aside0.mk (bkB BK109 hb); have n2_ := Aside0.mk (bkB BK115 hb); have n3_ := Aside0.mk (bkB BK116 hb); have n4_ := Aside0.mk (bkB BK121 hb); have n5_ := Aside0.mk (below_step (by repeat (first | (with_reducible first | exact HB.out | apply below_alloc | apply pw_below_drewN | apply below_drew1 | refine below_set ?_ GE108.out | refine below_set ?_ GE109.out | refine below_set ?_ GE115.out | refine below_set ?_ GE116.out | refine below_set ?_ GE121.out) | exact HB.out)) hb); clear BK108; clear BK109; clear BK115; clear BK116; clear BK121; clear HB; have BK108 := n0_; have BK109 := n1_; have BK115 := n2_; have BK116 := n3_; have BK121 := n4_; have HB := n5_; clear n0_ n1_ n2_ n3_ n4_ n5_; (try clear hb); (try clear hb2); (try clear hk); (try clear hi); have hnb107 := NB121_108.out; have hnc107 := NB108_121.out; have hnb108 := NB121_109.out; have hnc108 := NB109_121.out; have hnb109 := NB121_115.out; have hnc109 := NB115_121.out; have hnb110 := NB121_116.out; have hnc110 := NB116_121.out; have hcz111_0 : w106.cell? ⟨gb121, 0, none⟩ = some (.int .i64 t117) := (blk_cell BK121.out 0).trans rfl; have hcz111_1 : w106.cell? ⟨gb121, 1, none⟩ = some (.int .i64 t118) := (blk_cell BK121.out 1).trans rfl; have hcz111_2 : w106.cell? ⟨gb121, 2, none⟩ = some (.int .i64 t119) := (blk_cell BK121.out 2).trans rfl; have hfz111_0 := blk_frozen BK121.out 0; have hfz111_1 := blk_frozen BK121.out 1; have hfz111_2 := blk_frozen BK121.out 2) | (go_at_call 14; (with_reducible refine (dropperlaw03_First.calls kj8  t130 _ A104.out).mono ?_); rintro e w112 ⟨rfl, hb⟩; have n0_ := Aside0.mk (bkB BK108 hb); have n1_ := Aside0.mk (bkB BK109 hb); have n2_ := Aside0.mk (bkB BK115 hb); have n3_ := Aside0.mk (bkB BK116 hb); have n4_ := Aside0.mk (bkB BK121 hb); have n5_ := Aside0.mk (below_step (by repeat (first | (with_reducible first | exact HB.out | apply below_alloc | apply pw_below_drewN | apply below_drew1 | refine below_set ?_ GE108.out | refine below_set ?_ GE109.out | refine below_set ?_ GE115.out | refine below_set ?_ GE116.out | refine below_set ?_ GE121.out) | exact HB.out)) hb); clear BK108; clear BK109; clear BK115; clear BK116; clear BK121; clear HB; have BK108 := n0_; have BK109 := n1_; have BK115 := n2_; have BK116 := n3_; have BK121 := n4_; have HB := n5_; clear n0_ n1_ n2_ n3_ n4_ n5_; (try clear hb); (try clear hb2); (try clear hk); (try clear hi)))
        go_ret
        exact ⟨by first | rfl | (simp [errW_none, errW_some] <;> rfl) | (simp [*, errW_none, errW_some] <;> rfl), by repeat (first | (with_reducible first | exact HB.out | apply below_alloc | apply pw_below_drewN | apply below_drew1 | refine below_set ?_ GE108.out | refine below_set ?_ GE109.out | refine below_set ?_ GE115.out | refine below_set ?_ GE116.out | refine below_set ?_ GE121.out) | exact HB.out)⟩
      subst c87
      have H1 : ((dropperref03_Through.f kj8 l0 t117 t118 t119).bind fun bt127 => (if t120 = 0 then (if bt127.2 = 0 then (if bt127.1 = true then ((dropperlaw03_First.f kj8).bind fun t129 => (some t129)) else (some false)) else (some false)) else (some false))) = some r := by rw [if_pos rfl] at H; exact H
      clear H
      have H := H1
      clear H1
      replace H := Option.bind_eq_some_iff.mp H
      obtain ⟨⟨t127, t128⟩, A880, H⟩ := H
      replace H : (if t120 = 0 then (if t128 = 0 then (if t127 = true then ((dropperlaw03_First.f kj8).bind fun t129 => (some t129)) else (some false)) else (some false)) else (some false)) = some r := H
      have A88 := Aside0.mk A880
      clear A880
      by_cases c89 : t120 = 0
      rotate_left
      · rw [if_neg c89] at H
        have c89b0 : (t120 == 0) = false := beq_eq_false_iff_ne.mpr c89
        have c89b1 : (t120 != 0) = true := bne_iff_ne.mpr c89
        exact absurd (hT.symm.trans (Option.some.inj H).symm) (by decide)
      rw [if_pos c89] at H
      have c89b0 : (t120 == 0) = true := beq_iff_eq.mpr c89
      have c89b1 : (t120 != 0) = false := bne_eq_false_iff_eq.mpr c89
      clear c89
      by_cases c90 : t128 = 0
      rotate_left
      · rw [if_neg c90] at H
        have c90b0 : (t128 == 0) = false := beq_eq_false_iff_ne.mpr c90
        have c90b1 : (t128 != 0) = true := bne_iff_ne.mpr c90
        exact absurd (hT.symm.trans (Option.some.inj H).symm) (by decide)
      rw [if_pos c90] at H
      have c90b0 : (t128 == 0) = true := beq_iff_eq.mpr c90
      have c90b1 : (t128 != 0) = false := bne_eq_false_iff_eq.mpr c90
      clear c90
      by_cases c91 : t127 = true
      rotate_left
      · replace c91 := Bool.eq_false_iff.mpr c91
        subst c91
        have H1 : (some false) = some r := by rw [if_neg (show ¬ (false = true) by decide)] at H; exact H
        clear H
        have H := H1
        clear H1
        exact absurd (hT.symm.trans (Option.some.inj H).symm) (by decide)
      subst c91
      have H1 : ((dropperlaw03_First.f kj8).bind fun t129 => (some t129)) = some r := by rw [if_pos rfl] at H; exact H
      clear H
      have H := H1
      clear H1
      replace H := Option.bind_eq_some_iff.mp H
      obtain ⟨t129, A920, H⟩ := H
      replace H : (some t129) = some r := H
      have A92 := Aside0.mk A920
      clear A920
      clear hT
      obtain rfl := Option.some.inj H
      go_wp2_with (first | ((with_reducible refine gate_callee (f := 24) rfl ?_); refine goesL_ (some 54) rfl rfl Try.func24 (by kernel_rfl) rfl #[.slice A0 l0.length c0] rfl (by (try simp only [List.map_toArray, List.map_cons, List.map_nil]); first | done | rfl | (simp only [List.length_drop, List.length_take]; rfl)) ?_; (with_reducible refine (dropperref03_Valid.calls kj8 _ _ l0 true _ ?side1 ?side2 A84.out).mono ?_); (case side1 => repeat (first | exact (Kd.C_below HR0.out HB.out) | (with_reducible refine Kd.C_alloc ?_ _) | (with_reducible refine Kd.C_drewN ?_ _) | (with_reducible refine Kd.C_drew ?_))); (case side2 => exact HC0.out); rintro e w93 ⟨rfl, hb⟩; refine ⟨_, rfl, ?_⟩; have n0_ := Aside0.mk (bkB BK108 hb); have n1_ := Aside0.mk (bkB BK109 hb); have n2_ := Aside0.mk (bkB BK115 hb); have n3_ := Aside0.mk (bkB BK116 hb); have n4_ := Aside0.mk (bkB BK121 hb); have n5_ := Aside0.mk (below_step (by repeat (first | (with_reducible first | exact HB.out | apply below_alloc | apply pw_below_drewN | apply below_drew1 | refine below_set ?_ GE108.out | refine below_set ?_ GE109.out | refine below_set ?_ GE115.out | refine below_set ?_ GE116.out | refine below_set ?_ GE121.out) | exact HB.out)) hb); clear BK108; clear BK109; clear BK115; clear BK116; clear BK121; clear HB; have BK108 := n0_; have BK109 := n1_; have BK115 := n2_; have BK116 := n3_; have BK121 := n4_; have HB := n5_; clear n0_ n1_ n2_ n3_ n4_ n5_; (try clear hb); (try clear hb2); (try clear hk); (try clear hi)) | ((with_reducible refine gate_callee (f := 25) rfl ?_); refine goesL_ (some 67) rfl rfl Try.func25 (by kernel_rfl) rfl #[.slice A0 l0.length c0] rfl (by (try simp only [List.map_toArray, List.map_cons, List.map_nil]); first | done | rfl | (simp only [List.length_drop, List.length_take]; rfl)) ?_; (with_reducible refine (dropperref03_Some.calls kj8 _ _ l0 true _ ?side1 ?side2 A86.out).mono ?_); (case side1 => repeat (first | exact (Kd.C_below HR0.out HB.out) | (with_reducible refine Kd.C_alloc ?_ _) | (with_reducible refine Kd.C_drewN ?_ _) | (with_reducible refine Kd.C_drew ?_))); (case side2 => exact HC0.out); rintro e w94 ⟨rfl, hb⟩; refine ⟨_, rfl, ?_⟩; have n0_ := Aside0.mk (bkB BK108 hb); have n1_ := Aside0.mk (bkB BK109 hb); have n2_ := Aside0.mk (bkB BK115 hb); have n3_ := Aside0.mk (bkB BK116 hb); have n4_ := Aside0.mk (bkB BK121 hb); have n5_ := Aside0.mk (below_step (by repeat (first | (with_reducible first | exact HB.out | apply below_alloc | apply pw_below_drewN | apply below_drew1 | refine below_set ?_ GE108.out | refine below_set ?_ GE109.out | refine below_set ?_ GE115.out | refine below_set ?_ GE116.out | refine below_set ?_ GE121.out) | exact HB.out)) hb); clear BK108; clear BK109; clear BK115; clear BK116; clear BK121; clear HB; have BK108 := n0_; have BK109 := n1_; have BK115 := n2_; have BK116 := n3_; have BK121 := n4_; have HB := n5_; clear n0_ n1_ n2_ n3_ n4_ n5_; (try clear hb); (try clear hb2); (try clear hk); (try clear hi); have hnb95 := NB121_108.out; have hnc95 := NB108_121.out; have hnb96 := NB121_109.out; have hnc96 := NB109_121.out; have hnb97 := NB121_115.out; have hnc97 := NB115_121.out; have hnb98 := NB121_116.out; have hnc98 := NB116_121.out; have hcz99_0 : w94.cell? ⟨gb121, 0, none⟩ = some (.int .i64 t117) := (blk_cell BK121.out 0).trans rfl; have hcz99_1 : w94.cell? ⟨gb121, 1, none⟩ = some (.int .i64 t118) := (blk_cell BK121.out 1).trans rfl; have hcz99_2 : w94.cell? ⟨gb121, 2, none⟩ = some (.int .i64 t119) := (blk_cell BK121.out 2).trans rfl; have hfz99_0 := blk_frozen BK121.out 0; have hfz99_1 := blk_frozen BK121.out 1; have hfz99_2 := blk_frozen BK121.out 2) | ((with_reducible refine gate_callee (f := 26) rfl ?_); refine goesL_ (some 82) rfl rfl Try.func26 (by kernel_rfl) rfl #[.slice A0 l0.length c0, .agg #[.int .i64 t117, .int .i64 t118, .int .i64 t119]] rfl (by (try simp only [List.map_toArray, List.map_cons, List.map_nil]); first | done | rfl | (simp only [List.length_drop, List.length_take]; rfl)) ?_; (with_reducible refine (dropperref03_Through.calls kj8 _ _ l0 t117 t118 t119 true t128 _ ?side1 ?side2 A88.out).mono ?_); (case side1 => repeat (first | exact (Kd.C_below HR0.out HB.out) | (with_reducible refine Kd.C_alloc ?_ _) | (with_reducible refine Kd.C_drewN ?_ _) | (with_reducible refine Kd.C_drew ?_))); (case side2 => exact HC0.out); rintro e w100 ⟨rfl, hb⟩; refine ⟨_, rfl, ?_⟩; have n0_ := Aside0.mk (bkB BK108 hb); have n1_ := Aside0.mk (bkB BK109 hb); have n2_ := Aside0.mk (bkB BK115 hb); have n3_ := Aside0.mk (bkB BK116 hb); have n4_ := Aside0.mk (bkB BK121 hb); have n5_ := Aside0.mk (below_step (by repeat (first | (with_reducible first | exact HB.out | apply below_alloc | apply pw_below_drewN | apply below_drew1 | refine below_set ?_ GE108.out | refine below_set ?_ GE109.out | refine below_set ?_ GE115.out | refine below_set ?_ GE116.out | refine below_set ?_ GE121.out) | exact HB.out)) hb); clear BK108; clear BK109; clear BK115; clear BK116; clear BK121; clear HB; have BK108 := n0_; have BK109 := n1_; have BK115 := n2_; have BK116 := n3_; have BK121 := n4_; have HB := n5_; clear n0_ n1_ n2_ n3_ n4_ n5_; (try clear hb); (try clear hb2); (try clear hk); (try clear hi)) | (go_at_call 14; (with_reducible refine (dropperlaw03_First.calls kj8  t129 _ A92.out).mono ?_); rintro e w101 ⟨rfl, hb⟩; have n0_ := Aside0.mk (bkB BK108 hb); have n1_ := Aside0.mk (bkB BK109 hb); have n2_ := Aside0.mk (bkB BK115 hb); have n3_ := Aside0.mk (bkB BK116 hb); have n4_ := Aside0.mk (bkB BK121 hb); have n5_ := Aside0.mk (below_step (by repeat (first | (with_reducible first | exact HB.out | apply below_alloc | apply pw_below_drewN | apply below_drew1 | refine below_set ?_ GE108.out | refine below_set ?_ GE109.out | refine below_set ?_ GE115.out | refine below_set ?_ GE116.out | refine below_set ?_ GE121.out) | exact HB.out)) hb); clear BK108; clear BK109; clear BK115; clear BK116; clear BK121; clear HB; have BK108 := n0_; have BK109 := n1_; have BK115 := n2_; have BK116 := n3_; have BK121 := n4_; have HB := n5_; clear n0_ n1_ n2_ n3_ n4_ n5_; (try clear hb); (try clear hb2); (try clear hk); (try clear hi)))
      go_ret
      exact ⟨by first | rfl | (simp [errW_none, errW_some] <;> rfl) | (simp [*, errW_none, errW_some] <;> rfl), by repeat (first | (with_reducible first | exact HB.out | apply below_alloc | apply pw_below_drewN | apply below_drew1 | refine below_set ?_ GE108.out | refine below_set ?_ GE109.out | refine below_set ?_ GE115.out | refine below_set ?_ GE116.out | refine below_set ?_ GE121.out) | exact HB.out)⟩
end Go.Proofs.Ytiapmkndgalgnaa.G
