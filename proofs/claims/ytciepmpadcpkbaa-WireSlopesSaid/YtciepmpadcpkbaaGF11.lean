-- Written by this session's driver (wip/tools/printmore.py) over the kit's print, with hand-written parts.
import Derived.Test.YtciepmpadcpkbaaGBase
import Derived.Test.YtciepmpadcpkbaaGF15
import Derived.Test.YtciepmpadcpkbaaGF21
import Derived.Test.YtciepmpadcpkbaaGF14
import Derived.Test.YtciepmpadcpkbaaGF19
import Derived.Test.YtciepmpadcpkbaaGF22
import Derived.Test.YtciepmpadcpkbaaGF30
namespace Go.Proofs.Ytciepmpadcpkbaa.G
open Go.RowKit Go.Proofs.YtciepmpadcpkbaaW.PrintWords Go.Proofs.YtciepmpadcpkbaaW.PrintLast Go.Proofs.YtciepmpadcpkbaaW.PrintMore
attribute [local go_sem] max2_int min2_int max_two min_two max_three min_three max_four min_four   -- for this text's walks alone
set_option linter.unusedVariables false
set_option linter.unusedSimpArgs false

/-! ### dropperlaw02_WireSlopes: function 11 -/
mutual
def dropperlaw02_WireSlopes.j0 : Nat → List (S72) → Int → List Int → Int → List Int → List Int → List Int → Bool → Option (Bool)
  | 0, _, _, _, _, _, _, _, _ => none
  | k + 1, x0, x7, x10, x11, x12, x14, x16, x96 => if x96 = true then (some false) else (if x11 = 0 then (dropperlaw02_WireSlopes.l0 k x0 x7 x10 x12 x14 x16 0) else (dropperlaw02_WireSlopes.j2 k x0 x7))
def dropperlaw02_WireSlopes.j2 : Nat → List (S72) → Int → Option (Bool)
  | 0, _, _ => none
  | k + 1, x0, x7 => (wire_Gentlest.f k x0 x7).bind fun bt124 => (if bt124.2 = 0 then ((wire_Lowest.f k x0 bt124.1 x7).bind fun bt130 => (if bt130.2 = 0 then (if bt124.1 < 0 then (dropperlaw02_WireSlopes.j3 k x0 x7 bt124.1 true) else (dropperlaw02_WireSlopes.j3 k x0 x7 bt124.1 (decide (bt124.1 > 1000)))) else (dropperlaw02_WireSlopes.j3 k x0 x7 bt124.1 true))) else ((wire_Clash.f k x0 1000 x7).bind fun bt126 => (if bt124.2 = 5 then (if bt126.2.2 = 0 then ((dropperlaw02_Awake.f k).bind fun t129 => (some t129)) else (some false)) else (some false))))
def dropperlaw02_WireSlopes.j3 : Nat → List (S72) → Int → Int → Bool → Option (Bool)
  | 0, _, _, _, _ => none
  | k + 1, x0, x7, x19, x189 => if x189 = true then (some false) else (if x19 = 0 then ((dropperlaw02_Awake.f k).bind fun t134 => (some t134)) else ((wire_Lowest.f k x0 (wrap64 (x19 - 1)) x7).bind fun bt135 => (if bt135.2 = 5 then ((dropperlaw02_Awake.f k).bind fun t139 => (some t139)) else (some false))))
def dropperlaw02_WireSlopes.l0 : Nat → List (S72) → Int → List Int → List Int → List Int → List Int → Int → Option (Bool)
  | 0, _, _, _, _, _, _, _ => none
  | k + 1, x0, x7, x10, x12, x14, x16, x18 => if x18 < (x0.length : Int) then (if x18 ≥ (x10.length : Int) then (some false) else (if x18 ≥ (x12.length : Int) then (some false) else (if x18 ≥ (x14.length : Int) then (some false) else (if x18 ≥ (x16.length : Int) then (some false) else (if 0 ≤ x18 then (if x18 < (x12.length : Int) then (if x18 < (x10.length : Int) then (if (rd x12 x18) > (rd x10 x18) then (some false) else (if x18 < (x16.length : Int) then (if x18 < (x14.length : Int) then (if (rd x16 x18) < (rd x14 x18) then (some false) else (dropperlaw02_WireSlopes.l0 k x0 x7 x10 x12 x14 x16 (wrap64 (x18 + 1)))) else (none)) else (none))) else (none)) else (none)) else (none)))))) else (dropperlaw02_WireSlopes.j2 k x0 x7)
end
def dropperlaw02_WireSlopes.f (k : Nat) (l0 : List (S72)) (a1_0 : Int) (a1_1 : Int) (a2 : Int) : Option (Bool) := (dropperref02_Valid.f k l0).bind fun t102 => (if t102 = true then ((wire_Lowest.f k l0 (mn (Int.tmod (wrap64 (mn a1_0 a1_1)) 1001) (Int.tmod (wrap64 (mx a1_0 a1_1)) 1001)) (wrap64 (1 + (Int.tmod (wrap64 (a2)) 1000)))).bind fun bt104 => ((wire_Lowest.f k l0 (mx (Int.tmod (wrap64 (mn a1_0 a1_1)) 1001) (Int.tmod (wrap64 (mx a1_0 a1_1)) 1001)) (wrap64 (1 + (Int.tmod (wrap64 (a2)) 1000)))).bind fun bt108 => ((wire_Highest.f k l0 (mn (Int.tmod (wrap64 (mn a1_0 a1_1)) 1001) (Int.tmod (wrap64 (mx a1_0 a1_1)) 1001)) (wrap64 (1 + (Int.tmod (wrap64 (a2)) 1000)))).bind fun bt112 => ((wire_Highest.f k l0 (mx (Int.tmod (wrap64 (mn a1_0 a1_1)) 1001) (Int.tmod (wrap64 (mx a1_0 a1_1)) 1001)) (wrap64 (1 + (Int.tmod (wrap64 (a2)) 1000)))).bind fun bt116 => (if bt104.2 = bt112.2 then (if bt108.2 = bt116.2 then (if bt104.2 = 0 then (dropperlaw02_WireSlopes.j0 k l0 (wrap64 (1 + (Int.tmod (wrap64 (a2)) 1000))) bt104.1 bt104.2 bt108.1 bt112.1 bt116.1 (bt108.2 != 0)) else (dropperlaw02_WireSlopes.j0 k l0 (wrap64 (1 + (Int.tmod (wrap64 (a2)) 1000))) bt104.1 bt104.2 bt108.1 bt112.1 bt116.1 false)) else (dropperlaw02_WireSlopes.j0 k l0 (wrap64 (1 + (Int.tmod (wrap64 (a2)) 1000))) bt104.1 bt104.2 bt108.1 bt112.1 bt116.1 true)) else (dropperlaw02_WireSlopes.j0 k l0 (wrap64 (1 + (Int.tmod (wrap64 (a2)) 1000))) bt104.1 bt104.2 bt108.1 bt112.1 bt116.1 true)))))) else ((dropperlaw02_Awake.f k).bind fun t103 => (some t103)))
theorem dropperlaw02_WireSlopes.mono_l : ∀ k, (∀ y0 y1 y2 y3 y4 y5 y6 y7, LeO (dropperlaw02_WireSlopes.j0 k y0 y1 y2 y3 y4 y5 y6 y7) (dropperlaw02_WireSlopes.j0 (k + 1) y0 y1 y2 y3 y4 y5 y6 y7)) ∧ (∀ y0 y1, LeO (dropperlaw02_WireSlopes.j2 k y0 y1) (dropperlaw02_WireSlopes.j2 (k + 1) y0 y1)) ∧ (∀ y0 y1 y2 y3, LeO (dropperlaw02_WireSlopes.j3 k y0 y1 y2 y3) (dropperlaw02_WireSlopes.j3 (k + 1) y0 y1 y2 y3)) ∧ (∀ y0 y1 y2 y3 y4 y5 y6, LeO (dropperlaw02_WireSlopes.l0 k y0 y1 y2 y3 y4 y5 y6) (dropperlaw02_WireSlopes.l0 (k + 1) y0 y1 y2 y3 y4 y5 y6))
  | 0 => ⟨fun _ _ _ _ _ _ _ _ r h => by simp [dropperlaw02_WireSlopes.j0] at h, fun _ _ r h => by simp [dropperlaw02_WireSlopes.j2] at h, fun _ _ _ _ r h => by simp [dropperlaw02_WireSlopes.j3] at h, fun _ _ _ _ _ _ _ r h => by simp [dropperlaw02_WireSlopes.l0] at h⟩
  | k + 1 => by
    obtain ⟨ih0, ih1, ih2, ih3⟩ := dropperlaw02_WireSlopes.mono_l k
    refine ⟨?_, ?_, ?_, ?_⟩
    · intro y0 y1 y2 y3 y4 y5 y6 y7
      unfold dropperlaw02_WireSlopes.j0
      repeat' first
      | (with_reducible exact ih0 _ _ _ _ _ _ _ _)
      | (with_reducible exact ih1 _ _)
      | (with_reducible exact ih2 _ _ _ _)
      | (with_reducible exact ih3 _ _ _ _ _ _ _)
      | (with_reducible exact dropperlaw02_Awake.mono _)
      | (with_reducible exact dropperref02_Valid.mono _ _)
      | (with_reducible exact wire_Clash.mono _ _ _ _)
      | (with_reducible exact wire_Gentlest.mono _ _ _)
      | (with_reducible exact wire_Highest.mono _ _ _ _)
      | (with_reducible exact wire_Lowest.mono _ _ _ _)
      | (with_reducible exact LeO.refl _)
      | (with_reducible exact LeO.none _)
      | (with_reducible refine LeO.ite ?_ ?_)
      | (with_reducible refine LeO.bind ?_ (fun _ => ?_))
      | exact ih0 _ _ _ _ _ _ _ _
      | exact ih1 _ _
      | exact ih2 _ _ _ _
      | exact ih3 _ _ _ _ _ _ _
      | exact dropperlaw02_Awake.mono _
      | exact dropperref02_Valid.mono _ _
      | exact wire_Clash.mono _ _ _ _
      | exact wire_Gentlest.mono _ _ _
      | exact wire_Highest.mono _ _ _ _
      | exact wire_Lowest.mono _ _ _ _
      | exact LeO.none _
      | refine LeO.ite ?_ ?_
      | refine LeO.bind ?_ (fun _ => ?_)
    · intro y0 y1
      unfold dropperlaw02_WireSlopes.j2
      repeat' first
      | (with_reducible exact ih0 _ _ _ _ _ _ _ _)
      | (with_reducible exact ih1 _ _)
      | (with_reducible exact ih2 _ _ _ _)
      | (with_reducible exact ih3 _ _ _ _ _ _ _)
      | (with_reducible exact dropperlaw02_Awake.mono _)
      | (with_reducible exact dropperref02_Valid.mono _ _)
      | (with_reducible exact wire_Clash.mono _ _ _ _)
      | (with_reducible exact wire_Gentlest.mono _ _ _)
      | (with_reducible exact wire_Highest.mono _ _ _ _)
      | (with_reducible exact wire_Lowest.mono _ _ _ _)
      | (with_reducible exact LeO.refl _)
      | (with_reducible exact LeO.none _)
      | (with_reducible refine LeO.ite ?_ ?_)
      | (with_reducible refine LeO.bind ?_ (fun _ => ?_))
      | exact ih0 _ _ _ _ _ _ _ _
      | exact ih1 _ _
      | exact ih2 _ _ _ _
      | exact ih3 _ _ _ _ _ _ _
      | exact dropperlaw02_Awake.mono _
      | exact dropperref02_Valid.mono _ _
      | exact wire_Clash.mono _ _ _ _
      | exact wire_Gentlest.mono _ _ _
      | exact wire_Highest.mono _ _ _ _
      | exact wire_Lowest.mono _ _ _ _
      | exact LeO.none _
      | refine LeO.ite ?_ ?_
      | refine LeO.bind ?_ (fun _ => ?_)
    · intro y0 y1 y2 y3
      unfold dropperlaw02_WireSlopes.j3
      repeat' first
      | (with_reducible exact ih0 _ _ _ _ _ _ _ _)
      | (with_reducible exact ih1 _ _)
      | (with_reducible exact ih2 _ _ _ _)
      | (with_reducible exact ih3 _ _ _ _ _ _ _)
      | (with_reducible exact dropperlaw02_Awake.mono _)
      | (with_reducible exact dropperref02_Valid.mono _ _)
      | (with_reducible exact wire_Clash.mono _ _ _ _)
      | (with_reducible exact wire_Gentlest.mono _ _ _)
      | (with_reducible exact wire_Highest.mono _ _ _ _)
      | (with_reducible exact wire_Lowest.mono _ _ _ _)
      | (with_reducible exact LeO.refl _)
      | (with_reducible exact LeO.none _)
      | (with_reducible refine LeO.ite ?_ ?_)
      | (with_reducible refine LeO.bind ?_ (fun _ => ?_))
      | exact ih0 _ _ _ _ _ _ _ _
      | exact ih1 _ _
      | exact ih2 _ _ _ _
      | exact ih3 _ _ _ _ _ _ _
      | exact dropperlaw02_Awake.mono _
      | exact dropperref02_Valid.mono _ _
      | exact wire_Clash.mono _ _ _ _
      | exact wire_Gentlest.mono _ _ _
      | exact wire_Highest.mono _ _ _ _
      | exact wire_Lowest.mono _ _ _ _
      | exact LeO.none _
      | refine LeO.ite ?_ ?_
      | refine LeO.bind ?_ (fun _ => ?_)
    · intro y0 y1 y2 y3 y4 y5 y6
      unfold dropperlaw02_WireSlopes.l0
      repeat' first
      | (with_reducible exact ih0 _ _ _ _ _ _ _ _)
      | (with_reducible exact ih1 _ _)
      | (with_reducible exact ih2 _ _ _ _)
      | (with_reducible exact ih3 _ _ _ _ _ _ _)
      | (with_reducible exact dropperlaw02_Awake.mono _)
      | (with_reducible exact dropperref02_Valid.mono _ _)
      | (with_reducible exact wire_Clash.mono _ _ _ _)
      | (with_reducible exact wire_Gentlest.mono _ _ _)
      | (with_reducible exact wire_Highest.mono _ _ _ _)
      | (with_reducible exact wire_Lowest.mono _ _ _ _)
      | (with_reducible exact LeO.refl _)
      | (with_reducible exact LeO.none _)
      | (with_reducible refine LeO.ite ?_ ?_)
      | (with_reducible refine LeO.bind ?_ (fun _ => ?_))
      | exact ih0 _ _ _ _ _ _ _ _
      | exact ih1 _ _
      | exact ih2 _ _ _ _
      | exact ih3 _ _ _ _ _ _ _
      | exact dropperlaw02_Awake.mono _
      | exact dropperref02_Valid.mono _ _
      | exact wire_Clash.mono _ _ _ _
      | exact wire_Gentlest.mono _ _ _
      | exact wire_Highest.mono _ _ _ _
      | exact wire_Lowest.mono _ _ _ _
      | exact LeO.none _
      | refine LeO.ite ?_ ?_
      | refine LeO.bind ?_ (fun _ => ?_)
theorem dropperlaw02_WireSlopes.mono : ∀ a0 a1 a2 a3 k, LeO (dropperlaw02_WireSlopes.f k a0 a1 a2 a3) (dropperlaw02_WireSlopes.f (k + 1) a0 a1 a2 a3) := by
  intro a0 a1 a2 a3 k
  obtain ⟨ih0, ih1, ih2, ih3⟩ := dropperlaw02_WireSlopes.mono_l k
  unfold dropperlaw02_WireSlopes.f
  repeat' first
      | (with_reducible exact ih0 _ _ _ _ _ _ _ _)
      | (with_reducible exact ih1 _ _)
      | (with_reducible exact ih2 _ _ _ _)
      | (with_reducible exact ih3 _ _ _ _ _ _ _)
      | (with_reducible exact dropperlaw02_Awake.mono _)
      | (with_reducible exact dropperref02_Valid.mono _ _)
      | (with_reducible exact wire_Clash.mono _ _ _ _)
      | (with_reducible exact wire_Gentlest.mono _ _ _)
      | (with_reducible exact wire_Highest.mono _ _ _ _)
      | (with_reducible exact wire_Lowest.mono _ _ _ _)
      | (with_reducible exact LeO.refl _)
      | (with_reducible exact LeO.none _)
      | (with_reducible refine LeO.ite ?_ ?_)
      | (with_reducible refine LeO.bind ?_ (fun _ => ?_))
      | exact ih0 _ _ _ _ _ _ _ _
      | exact ih1 _ _
      | exact ih2 _ _ _ _
      | exact ih3 _ _ _ _ _ _ _
      | exact dropperlaw02_Awake.mono _
      | exact dropperref02_Valid.mono _ _
      | exact wire_Clash.mono _ _ _ _
      | exact wire_Gentlest.mono _ _ _
      | exact wire_Highest.mono _ _ _ _
      | exact wire_Lowest.mono _ _ _ _
      | exact LeO.none _
      | refine LeO.ite ?_ ?_
      | refine LeO.bind ?_ (fun _ => ?_)
set_option maxHeartbeats 8000000 in
set_option maxRecDepth 100000 in
theorem dropperlaw02_WireSlopes.calls (k : Nat) (A0 : Option Addr) (c0 : Nat) (l0 : List (S72)) (a1_0 : Int) (a1_1 : Int) (a2 : Int) (r : Bool) (w : World) (hr0 : Kd.C k72 w A0 l0.length l0) (hc0 : l0.length ≤ c0) (h : dropperlaw02_WireSlopes.f k l0 a1_0 a1_1 a2 = some r) (hT : r = true) :
    Calls Try.prog 11 #[.slice A0 l0.length c0, .agg #[.int .u16 a1_0, .int .u16 a1_1], .int .u16 a2] w fun e w' => e = .returned (.bool r) ∧ Below w.heap.size w w' := by
  have hu66 := Try.underlying66
  have HR0 := Aside0.mk hr0
  have HC0 := Aside0.mk hc0
  clear hr0 hc0
  have HB := Aside0.mk (Below.refl w.heap.size w)
  have H : ((dropperref02_Valid.f k l0).bind fun t102 => (if t102 = true then ((wire_Lowest.f k l0 (mn (Int.tmod (wrap64 (mn a1_0 a1_1)) 1001) (Int.tmod (wrap64 (mx a1_0 a1_1)) 1001)) (wrap64 (1 + (Int.tmod (wrap64 (a2)) 1000)))).bind fun bt104 => ((wire_Lowest.f k l0 (mx (Int.tmod (wrap64 (mn a1_0 a1_1)) 1001) (Int.tmod (wrap64 (mx a1_0 a1_1)) 1001)) (wrap64 (1 + (Int.tmod (wrap64 (a2)) 1000)))).bind fun bt108 => ((wire_Highest.f k l0 (mn (Int.tmod (wrap64 (mn a1_0 a1_1)) 1001) (Int.tmod (wrap64 (mx a1_0 a1_1)) 1001)) (wrap64 (1 + (Int.tmod (wrap64 (a2)) 1000)))).bind fun bt112 => ((wire_Highest.f k l0 (mx (Int.tmod (wrap64 (mn a1_0 a1_1)) 1001) (Int.tmod (wrap64 (mx a1_0 a1_1)) 1001)) (wrap64 (1 + (Int.tmod (wrap64 (a2)) 1000)))).bind fun bt116 => (if bt104.2 = bt112.2 then (if bt108.2 = bt116.2 then (if bt104.2 = 0 then (dropperlaw02_WireSlopes.j0 k l0 (wrap64 (1 + (Int.tmod (wrap64 (a2)) 1000))) bt104.1 bt104.2 bt108.1 bt112.1 bt116.1 (bt108.2 != 0)) else (dropperlaw02_WireSlopes.j0 k l0 (wrap64 (1 + (Int.tmod (wrap64 (a2)) 1000))) bt104.1 bt104.2 bt108.1 bt112.1 bt116.1 false)) else (dropperlaw02_WireSlopes.j0 k l0 (wrap64 (1 + (Int.tmod (wrap64 (a2)) 1000))) bt104.1 bt104.2 bt108.1 bt112.1 bt116.1 true)) else (dropperlaw02_WireSlopes.j0 k l0 (wrap64 (1 + (Int.tmod (wrap64 (a2)) 1000))) bt104.1 bt104.2 bt108.1 bt112.1 bt116.1 true)))))) else ((dropperlaw02_Awake.f k).bind fun t103 => (some t103)))) = some r := h
  clear h
  replace H := Option.bind_eq_some_iff.mp H
  obtain ⟨t102, A40, H⟩ := H
  replace H : (if t102 = true then ((wire_Lowest.f k l0 (mn (Int.tmod (wrap64 (mn a1_0 a1_1)) 1001) (Int.tmod (wrap64 (mx a1_0 a1_1)) 1001)) (wrap64 (1 + (Int.tmod (wrap64 (a2)) 1000)))).bind fun bt104 => ((wire_Lowest.f k l0 (mx (Int.tmod (wrap64 (mn a1_0 a1_1)) 1001) (Int.tmod (wrap64 (mx a1_0 a1_1)) 1001)) (wrap64 (1 + (Int.tmod (wrap64 (a2)) 1000)))).bind fun bt108 => ((wire_Highest.f k l0 (mn (Int.tmod (wrap64 (mn a1_0 a1_1)) 1001) (Int.tmod (wrap64 (mx a1_0 a1_1)) 1001)) (wrap64 (1 + (Int.tmod (wrap64 (a2)) 1000)))).bind fun bt112 => ((wire_Highest.f k l0 (mx (Int.tmod (wrap64 (mn a1_0 a1_1)) 1001) (Int.tmod (wrap64 (mx a1_0 a1_1)) 1001)) (wrap64 (1 + (Int.tmod (wrap64 (a2)) 1000)))).bind fun bt116 => (if bt104.2 = bt112.2 then (if bt108.2 = bt116.2 then (if bt104.2 = 0 then (dropperlaw02_WireSlopes.j0 k l0 (wrap64 (1 + (Int.tmod (wrap64 (a2)) 1000))) bt104.1 bt104.2 bt108.1 bt112.1 bt116.1 (bt108.2 != 0)) else (dropperlaw02_WireSlopes.j0 k l0 (wrap64 (1 + (Int.tmod (wrap64 (a2)) 1000))) bt104.1 bt104.2 bt108.1 bt112.1 bt116.1 false)) else (dropperlaw02_WireSlopes.j0 k l0 (wrap64 (1 + (Int.tmod (wrap64 (a2)) 1000))) bt104.1 bt104.2 bt108.1 bt112.1 bt116.1 true)) else (dropperlaw02_WireSlopes.j0 k l0 (wrap64 (1 + (Int.tmod (wrap64 (a2)) 1000))) bt104.1 bt104.2 bt108.1 bt112.1 bt116.1 true)))))) else ((dropperlaw02_Awake.f k).bind fun t103 => (some t103))) = some r := H
  have A4 := Aside0.mk A40
  clear A40
  by_cases c5 : t102 = true
  rotate_left
  · replace c5 := Bool.eq_false_iff.mpr c5
    subst c5
    have H1 : ((dropperlaw02_Awake.f k).bind fun t103 => (some t103)) = some r := by rw [if_neg (show ¬ (false = true) by decide)] at H; exact H
    clear H
    have H := H1
    clear H1
    replace H := Option.bind_eq_some_iff.mp H
    obtain ⟨t103, A680, H⟩ := H
    replace H : (some t103) = some r := H
    have A68 := Aside0.mk A680
    clear A680
    clear hT
    obtain rfl := Option.some.inj H
    go_enter Try.func11, Try.ntmps11
    go_wp2_with (first | ((with_reducible refine gate_dst (N := 4) rfl ?_); (try (refine gate_guard (by rfl) ?_; dsimp only)); refine box_event ?hg (N := 4) ?hd (cs := #[.int .u16 a1_0, .int .u16 a1_1]) (t := 66) ?hr ?_; (case hd => rfl); (case hg => rfl); (case hr => first | (go_simp; done) | (go_simp; rfl)); intro gb101 hg w69 hbox hb; have n0_ := Aside0.mk (below_step (by repeat (first | (with_reducible first | exact HB.out | apply below_alloc | apply pw_below_drewN | apply below_drew1) | exact HB.out)) hb); have n1_ := Aside0.mk (hbox); have n2_ := Aside0.mk ((by rw [hg]; exact (below_size (by repeat (first | (with_reducible first | exact HB.out | apply below_alloc | apply pw_below_drewN | apply below_drew1) | exact HB.out))) : w.heap.size ≤ gb101)); have n3_ := Aside0.mk ((by rw [hg]; exact (below_size (by repeat (first | (with_reducible first | exact HB.out | apply below_alloc | apply pw_below_drewN | apply below_drew1) | exact HB.out))) : w.heap.size ≤ gb101)); clear HB; have HB := n0_; have BK101 := n1_; have GW101 := n2_; have GE101 := n3_; clear n0_ n1_ n2_ n3_; clear hb hbox hg) | (go_at_call 19; (with_reducible refine (dropperref02_Valid.calls k _ _ l0 false _ ?side1 ?side2 A4.out).mono ?_); (case side1 => repeat (first | exact (Kd.C_below HR0.out HB.out) | (with_reducible refine Kd.C_alloc ?_ _) | (with_reducible refine Kd.C_drewN ?_ _) | (with_reducible refine Kd.C_drew ?_))); (case side2 => exact HC0.out); rintro e w70 ⟨rfl, hb⟩; have n0_ := Aside0.mk (bkB BK101 hb); have n1_ := Aside0.mk (below_step (by repeat (first | (with_reducible first | exact HB.out | apply below_alloc | apply pw_below_drewN | apply below_drew1 | refine below_set ?_ GE101.out) | exact HB.out)) hb); clear BK101; clear HB; have BK101 := n0_; have HB := n1_; clear n0_ n1_; (try clear hb); (try clear hb2); (try clear hk); (try clear hi)) | (go_at_call 14; (with_reducible refine (dropperlaw02_Awake.calls k  t103 _ A68.out).mono ?_); rintro e w71 ⟨rfl, hb⟩; have n0_ := Aside0.mk (bkB BK101 hb); have n1_ := Aside0.mk (below_step (by repeat (first | (with_reducible first | exact HB.out | apply below_alloc | apply pw_below_drewN | apply below_drew1 | refine below_set ?_ GE101.out) | exact HB.out)) hb); clear BK101; clear HB; have BK101 := n0_; have HB := n1_; clear n0_ n1_; (try clear hb); (try clear hb2); (try clear hk); (try clear hi)))
    repeat (go_quiet (first | ((with_reducible refine gate_dst (N := 4) rfl ?_); (try (refine gate_guard (by rfl) ?_; dsimp only)); refine box_event ?hg (N := 4) ?hd (cs := #[.int .u16 a1_0, .int .u16 a1_1]) (t := 66) ?hr ?_; (case hd => rfl); (case hg => rfl); (case hr => first | (go_simp; done) | (go_simp; rfl)); intro gb101 hg w69 hbox hb; have n0_ := Aside0.mk (below_step (by repeat (first | (with_reducible first | exact HB.out | apply below_alloc | apply pw_below_drewN | apply below_drew1) | exact HB.out)) hb); have n1_ := Aside0.mk (hbox); have n2_ := Aside0.mk ((by rw [hg]; exact (below_size (by repeat (first | (with_reducible first | exact HB.out | apply below_alloc | apply pw_below_drewN | apply below_drew1) | exact HB.out))) : w.heap.size ≤ gb101)); have n3_ := Aside0.mk ((by rw [hg]; exact (below_size (by repeat (first | (with_reducible first | exact HB.out | apply below_alloc | apply pw_below_drewN | apply below_drew1) | exact HB.out))) : w.heap.size ≤ gb101)); clear HB; have HB := n0_; have BK101 := n1_; have GW101 := n2_; have GE101 := n3_; clear n0_ n1_ n2_ n3_; clear hb hbox hg) | (go_at_call 19; (with_reducible refine (dropperref02_Valid.calls k _ _ l0 false _ ?side1 ?side2 A4.out).mono ?_); (case side1 => repeat (first | exact (Kd.C_below HR0.out HB.out) | (with_reducible refine Kd.C_alloc ?_ _) | (with_reducible refine Kd.C_drewN ?_ _) | (with_reducible refine Kd.C_drew ?_))); (case side2 => exact HC0.out); rintro e w70 ⟨rfl, hb⟩; have n0_ := Aside0.mk (bkB BK101 hb); have n1_ := Aside0.mk (below_step (by repeat (first | (with_reducible first | exact HB.out | apply below_alloc | apply pw_below_drewN | apply below_drew1 | refine below_set ?_ GE101.out) | exact HB.out)) hb); clear BK101; clear HB; have BK101 := n0_; have HB := n1_; clear n0_ n1_; (try clear hb); (try clear hb2); (try clear hk); (try clear hi)) | (go_at_call 14; (with_reducible refine (dropperlaw02_Awake.calls k  t103 _ A68.out).mono ?_); rintro e w71 ⟨rfl, hb⟩; have n0_ := Aside0.mk (bkB BK101 hb); have n1_ := Aside0.mk (below_step (by repeat (first | (with_reducible first | exact HB.out | apply below_alloc | apply pw_below_drewN | apply below_drew1 | refine below_set ?_ GE101.out) | exact HB.out)) hb); clear BK101; clear HB; have BK101 := n0_; have HB := n1_; clear n0_ n1_; (try clear hb); (try clear hb2); (try clear hk); (try clear hi))); try go_wp2_with (first | ((with_reducible refine gate_dst (N := 4) rfl ?_); (try (refine gate_guard (by rfl) ?_; dsimp only)); refine box_event ?hg (N := 4) ?hd (cs := #[.int .u16 a1_0, .int .u16 a1_1]) (t := 66) ?hr ?_; (case hd => rfl); (case hg => rfl); (case hr => first | (go_simp; done) | (go_simp; rfl)); intro gb101 hg w69 hbox hb; have n0_ := Aside0.mk (below_step (by repeat (first | (with_reducible first | exact HB.out | apply below_alloc | apply pw_below_drewN | apply below_drew1) | exact HB.out)) hb); have n1_ := Aside0.mk (hbox); have n2_ := Aside0.mk ((by rw [hg]; exact (below_size (by repeat (first | (with_reducible first | exact HB.out | apply below_alloc | apply pw_below_drewN | apply below_drew1) | exact HB.out))) : w.heap.size ≤ gb101)); have n3_ := Aside0.mk ((by rw [hg]; exact (below_size (by repeat (first | (with_reducible first | exact HB.out | apply below_alloc | apply pw_below_drewN | apply below_drew1) | exact HB.out))) : w.heap.size ≤ gb101)); clear HB; have HB := n0_; have BK101 := n1_; have GW101 := n2_; have GE101 := n3_; clear n0_ n1_ n2_ n3_; clear hb hbox hg) | (go_at_call 19; (with_reducible refine (dropperref02_Valid.calls k _ _ l0 false _ ?side1 ?side2 A4.out).mono ?_); (case side1 => repeat (first | exact (Kd.C_below HR0.out HB.out) | (with_reducible refine Kd.C_alloc ?_ _) | (with_reducible refine Kd.C_drewN ?_ _) | (with_reducible refine Kd.C_drew ?_))); (case side2 => exact HC0.out); rintro e w70 ⟨rfl, hb⟩; have n0_ := Aside0.mk (bkB BK101 hb); have n1_ := Aside0.mk (below_step (by repeat (first | (with_reducible first | exact HB.out | apply below_alloc | apply pw_below_drewN | apply below_drew1 | refine below_set ?_ GE101.out) | exact HB.out)) hb); clear BK101; clear HB; have BK101 := n0_; have HB := n1_; clear n0_ n1_; (try clear hb); (try clear hb2); (try clear hk); (try clear hi)) | (go_at_call 14; (with_reducible refine (dropperlaw02_Awake.calls k  t103 _ A68.out).mono ?_); rintro e w71 ⟨rfl, hb⟩; have n0_ := Aside0.mk (bkB BK101 hb); have n1_ := Aside0.mk (below_step (by repeat (first | (with_reducible first | exact HB.out | apply below_alloc | apply pw_below_drewN | apply below_drew1 | refine below_set ?_ GE101.out) | exact HB.out)) hb); clear BK101; clear HB; have BK101 := n0_; have HB := n1_; clear n0_ n1_; (try clear hb); (try clear hb2); (try clear hk); (try clear hi))))
    go_ret
    exact ⟨by first | rfl | (simp [errW_none, errW_some] <;> rfl) | (simp [*, errW_none, errW_some] <;> rfl), by repeat (first | (with_reducible first | exact HB.out | apply below_alloc | apply pw_below_drewN | apply below_drew1 | refine below_set ?_ GE101.out) | exact HB.out)⟩

  subst c5
  have H1 : ((wire_Lowest.f k l0 (mn (Int.tmod (wrap64 (mn a1_0 a1_1)) 1001) (Int.tmod (wrap64 (mx a1_0 a1_1)) 1001)) (wrap64 (1 + (Int.tmod (wrap64 (a2)) 1000)))).bind fun bt104 => ((wire_Lowest.f k l0 (mx (Int.tmod (wrap64 (mn a1_0 a1_1)) 1001) (Int.tmod (wrap64 (mx a1_0 a1_1)) 1001)) (wrap64 (1 + (Int.tmod (wrap64 (a2)) 1000)))).bind fun bt108 => ((wire_Highest.f k l0 (mn (Int.tmod (wrap64 (mn a1_0 a1_1)) 1001) (Int.tmod (wrap64 (mx a1_0 a1_1)) 1001)) (wrap64 (1 + (Int.tmod (wrap64 (a2)) 1000)))).bind fun bt112 => ((wire_Highest.f k l0 (mx (Int.tmod (wrap64 (mn a1_0 a1_1)) 1001) (Int.tmod (wrap64 (mx a1_0 a1_1)) 1001)) (wrap64 (1 + (Int.tmod (wrap64 (a2)) 1000)))).bind fun bt116 => (if bt104.2 = bt112.2 then (if bt108.2 = bt116.2 then (if bt104.2 = 0 then (dropperlaw02_WireSlopes.j0 k l0 (wrap64 (1 + (Int.tmod (wrap64 (a2)) 1000))) bt104.1 bt104.2 bt108.1 bt112.1 bt116.1 (bt108.2 != 0)) else (dropperlaw02_WireSlopes.j0 k l0 (wrap64 (1 + (Int.tmod (wrap64 (a2)) 1000))) bt104.1 bt104.2 bt108.1 bt112.1 bt116.1 false)) else (dropperlaw02_WireSlopes.j0 k l0 (wrap64 (1 + (Int.tmod (wrap64 (a2)) 1000))) bt104.1 bt104.2 bt108.1 bt112.1 bt116.1 true)) else (dropperlaw02_WireSlopes.j0 k l0 (wrap64 (1 + (Int.tmod (wrap64 (a2)) 1000))) bt104.1 bt104.2 bt108.1 bt112.1 bt116.1 true)))))) = some r := by rw [if_pos rfl] at H; exact H
  clear H
  have H := H1
  clear H1
  obtain ⟨ji6, hji6⟩ : ∃ j_ : Int, (mn a1_0 a1_1) = j_ := ⟨_, rfl⟩
  replace H : ((wire_Lowest.f k l0 (mn (Int.tmod (wrap64 (ji6)) 1001) (Int.tmod (wrap64 (mx a1_0 a1_1)) 1001)) (wrap64 (1 + (Int.tmod (wrap64 (a2)) 1000)))).bind fun bt104 => ((wire_Lowest.f k l0 (mx (Int.tmod (wrap64 (ji6)) 1001) (Int.tmod (wrap64 (mx a1_0 a1_1)) 1001)) (wrap64 (1 + (Int.tmod (wrap64 (a2)) 1000)))).bind fun bt108 => ((wire_Highest.f k l0 (mn (Int.tmod (wrap64 (ji6)) 1001) (Int.tmod (wrap64 (mx a1_0 a1_1)) 1001)) (wrap64 (1 + (Int.tmod (wrap64 (a2)) 1000)))).bind fun bt112 => ((wire_Highest.f k l0 (mx (Int.tmod (wrap64 (ji6)) 1001) (Int.tmod (wrap64 (mx a1_0 a1_1)) 1001)) (wrap64 (1 + (Int.tmod (wrap64 (a2)) 1000)))).bind fun bt116 => (if bt104.2 = bt112.2 then (if bt108.2 = bt116.2 then (if bt104.2 = 0 then (dropperlaw02_WireSlopes.j0 k l0 (wrap64 (1 + (Int.tmod (wrap64 (a2)) 1000))) bt104.1 bt104.2 bt108.1 bt112.1 bt116.1 (bt108.2 != 0)) else (dropperlaw02_WireSlopes.j0 k l0 (wrap64 (1 + (Int.tmod (wrap64 (a2)) 1000))) bt104.1 bt104.2 bt108.1 bt112.1 bt116.1 false)) else (dropperlaw02_WireSlopes.j0 k l0 (wrap64 (1 + (Int.tmod (wrap64 (a2)) 1000))) bt104.1 bt104.2 bt108.1 bt112.1 bt116.1 true)) else (dropperlaw02_WireSlopes.j0 k l0 (wrap64 (1 + (Int.tmod (wrap64 (a2)) 1000))) bt104.1 bt104.2 bt108.1 bt112.1 bt116.1 true)))))) = some r := by first | (rw [hji6] at H; exact H) | (simp only [hji6] at H ⊢; exact H)
  (try rw [hji6] at A4)
  have hji6_ : (if a1_1 < a1_0 then a1_1 else a1_0) = ji6 := hji6
  obtain ⟨ji7, hji7⟩ : ∃ j_ : Int, (mx a1_0 a1_1) = j_ := ⟨_, rfl⟩
  replace H : ((wire_Lowest.f k l0 (mn (Int.tmod (wrap64 (ji6)) 1001) (Int.tmod (wrap64 (ji7)) 1001)) (wrap64 (1 + (Int.tmod (wrap64 (a2)) 1000)))).bind fun bt104 => ((wire_Lowest.f k l0 (mx (Int.tmod (wrap64 (ji6)) 1001) (Int.tmod (wrap64 (ji7)) 1001)) (wrap64 (1 + (Int.tmod (wrap64 (a2)) 1000)))).bind fun bt108 => ((wire_Highest.f k l0 (mn (Int.tmod (wrap64 (ji6)) 1001) (Int.tmod (wrap64 (ji7)) 1001)) (wrap64 (1 + (Int.tmod (wrap64 (a2)) 1000)))).bind fun bt112 => ((wire_Highest.f k l0 (mx (Int.tmod (wrap64 (ji6)) 1001) (Int.tmod (wrap64 (ji7)) 1001)) (wrap64 (1 + (Int.tmod (wrap64 (a2)) 1000)))).bind fun bt116 => (if bt104.2 = bt112.2 then (if bt108.2 = bt116.2 then (if bt104.2 = 0 then (dropperlaw02_WireSlopes.j0 k l0 (wrap64 (1 + (Int.tmod (wrap64 (a2)) 1000))) bt104.1 bt104.2 bt108.1 bt112.1 bt116.1 (bt108.2 != 0)) else (dropperlaw02_WireSlopes.j0 k l0 (wrap64 (1 + (Int.tmod (wrap64 (a2)) 1000))) bt104.1 bt104.2 bt108.1 bt112.1 bt116.1 false)) else (dropperlaw02_WireSlopes.j0 k l0 (wrap64 (1 + (Int.tmod (wrap64 (a2)) 1000))) bt104.1 bt104.2 bt108.1 bt112.1 bt116.1 true)) else (dropperlaw02_WireSlopes.j0 k l0 (wrap64 (1 + (Int.tmod (wrap64 (a2)) 1000))) bt104.1 bt104.2 bt108.1 bt112.1 bt116.1 true)))))) = some r := by first | (rw [hji7] at H; exact H) | (simp only [hji7] at H ⊢; exact H)
  (try rw [hji7] at A4)
  have hji7_ : (if a1_0 < a1_1 then a1_1 else a1_0) = ji7 := hji7
  obtain ⟨ji8, hji8⟩ : ∃ j_ : Int, (mn (Int.tmod (wrap64 (ji6)) 1001) (Int.tmod (wrap64 (ji7)) 1001)) = j_ := ⟨_, rfl⟩
  replace H : ((wire_Lowest.f k l0 (ji8) (wrap64 (1 + (Int.tmod (wrap64 (a2)) 1000)))).bind fun bt104 => ((wire_Lowest.f k l0 (mx (Int.tmod (wrap64 (ji6)) 1001) (Int.tmod (wrap64 (ji7)) 1001)) (wrap64 (1 + (Int.tmod (wrap64 (a2)) 1000)))).bind fun bt108 => ((wire_Highest.f k l0 (ji8) (wrap64 (1 + (Int.tmod (wrap64 (a2)) 1000)))).bind fun bt112 => ((wire_Highest.f k l0 (mx (Int.tmod (wrap64 (ji6)) 1001) (Int.tmod (wrap64 (ji7)) 1001)) (wrap64 (1 + (Int.tmod (wrap64 (a2)) 1000)))).bind fun bt116 => (if bt104.2 = bt112.2 then (if bt108.2 = bt116.2 then (if bt104.2 = 0 then (dropperlaw02_WireSlopes.j0 k l0 (wrap64 (1 + (Int.tmod (wrap64 (a2)) 1000))) bt104.1 bt104.2 bt108.1 bt112.1 bt116.1 (bt108.2 != 0)) else (dropperlaw02_WireSlopes.j0 k l0 (wrap64 (1 + (Int.tmod (wrap64 (a2)) 1000))) bt104.1 bt104.2 bt108.1 bt112.1 bt116.1 false)) else (dropperlaw02_WireSlopes.j0 k l0 (wrap64 (1 + (Int.tmod (wrap64 (a2)) 1000))) bt104.1 bt104.2 bt108.1 bt112.1 bt116.1 true)) else (dropperlaw02_WireSlopes.j0 k l0 (wrap64 (1 + (Int.tmod (wrap64 (a2)) 1000))) bt104.1 bt104.2 bt108.1 bt112.1 bt116.1 true)))))) = some r := by first | (rw [hji8] at H; exact H) | (simp only [hji8] at H ⊢; exact H)
  (try rw [hji8] at A4)
  have hji8_ : (if (Int.tmod (wrap64 (ji7)) 1001) < (Int.tmod (wrap64 (ji6)) 1001) then (Int.tmod (wrap64 (ji7)) 1001) else (Int.tmod (wrap64 (ji6)) 1001)) = ji8 := hji8
  obtain ⟨ji9, hji9⟩ : ∃ j_ : Int, (mx (Int.tmod (wrap64 (ji6)) 1001) (Int.tmod (wrap64 (ji7)) 1001)) = j_ := ⟨_, rfl⟩
  replace H : ((wire_Lowest.f k l0 (ji8) (wrap64 (1 + (Int.tmod (wrap64 (a2)) 1000)))).bind fun bt104 => ((wire_Lowest.f k l0 (ji9) (wrap64 (1 + (Int.tmod (wrap64 (a2)) 1000)))).bind fun bt108 => ((wire_Highest.f k l0 (ji8) (wrap64 (1 + (Int.tmod (wrap64 (a2)) 1000)))).bind fun bt112 => ((wire_Highest.f k l0 (ji9) (wrap64 (1 + (Int.tmod (wrap64 (a2)) 1000)))).bind fun bt116 => (if bt104.2 = bt112.2 then (if bt108.2 = bt116.2 then (if bt104.2 = 0 then (dropperlaw02_WireSlopes.j0 k l0 (wrap64 (1 + (Int.tmod (wrap64 (a2)) 1000))) bt104.1 bt104.2 bt108.1 bt112.1 bt116.1 (bt108.2 != 0)) else (dropperlaw02_WireSlopes.j0 k l0 (wrap64 (1 + (Int.tmod (wrap64 (a2)) 1000))) bt104.1 bt104.2 bt108.1 bt112.1 bt116.1 false)) else (dropperlaw02_WireSlopes.j0 k l0 (wrap64 (1 + (Int.tmod (wrap64 (a2)) 1000))) bt104.1 bt104.2 bt108.1 bt112.1 bt116.1 true)) else (dropperlaw02_WireSlopes.j0 k l0 (wrap64 (1 + (Int.tmod (wrap64 (a2)) 1000))) bt104.1 bt104.2 bt108.1 bt112.1 bt116.1 true)))))) = some r := by first | (rw [hji9] at H; exact H) | (simp only [hji9] at H ⊢; exact H)
  (try rw [hji9] at A4)
  have hji9_ : (if (Int.tmod (wrap64 (ji6)) 1001) < (Int.tmod (wrap64 (ji7)) 1001) then (Int.tmod (wrap64 (ji7)) 1001) else (Int.tmod (wrap64 (ji6)) 1001)) = ji9 := hji9
  replace H := Option.bind_eq_some_iff.mp H
  obtain ⟨⟨t104, t105⟩, A100, H⟩ := H
  replace H : ((wire_Lowest.f k l0 (ji9) (wrap64 (1 + (Int.tmod (wrap64 (a2)) 1000)))).bind fun bt108 => ((wire_Highest.f k l0 (ji8) (wrap64 (1 + (Int.tmod (wrap64 (a2)) 1000)))).bind fun bt112 => ((wire_Highest.f k l0 (ji9) (wrap64 (1 + (Int.tmod (wrap64 (a2)) 1000)))).bind fun bt116 => (if t105 = bt112.2 then (if bt108.2 = bt116.2 then (if t105 = 0 then (dropperlaw02_WireSlopes.j0 k l0 (wrap64 (1 + (Int.tmod (wrap64 (a2)) 1000))) t104 t105 bt108.1 bt112.1 bt116.1 (bt108.2 != 0)) else (dropperlaw02_WireSlopes.j0 k l0 (wrap64 (1 + (Int.tmod (wrap64 (a2)) 1000))) t104 t105 bt108.1 bt112.1 bt116.1 false)) else (dropperlaw02_WireSlopes.j0 k l0 (wrap64 (1 + (Int.tmod (wrap64 (a2)) 1000))) t104 t105 bt108.1 bt112.1 bt116.1 true)) else (dropperlaw02_WireSlopes.j0 k l0 (wrap64 (1 + (Int.tmod (wrap64 (a2)) 1000))) t104 t105 bt108.1 bt112.1 bt116.1 true))))) = some r := H
  have A10 := Aside0.mk A100
  clear A100
  replace H := Option.bind_eq_some_iff.mp H
  obtain ⟨⟨t108, t109⟩, A110, H⟩ := H
  replace H : ((wire_Highest.f k l0 (ji8) (wrap64 (1 + (Int.tmod (wrap64 (a2)) 1000)))).bind fun bt112 => ((wire_Highest.f k l0 (ji9) (wrap64 (1 + (Int.tmod (wrap64 (a2)) 1000)))).bind fun bt116 => (if t105 = bt112.2 then (if t109 = bt116.2 then (if t105 = 0 then (dropperlaw02_WireSlopes.j0 k l0 (wrap64 (1 + (Int.tmod (wrap64 (a2)) 1000))) t104 t105 t108 bt112.1 bt116.1 (t109 != 0)) else (dropperlaw02_WireSlopes.j0 k l0 (wrap64 (1 + (Int.tmod (wrap64 (a2)) 1000))) t104 t105 t108 bt112.1 bt116.1 false)) else (dropperlaw02_WireSlopes.j0 k l0 (wrap64 (1 + (Int.tmod (wrap64 (a2)) 1000))) t104 t105 t108 bt112.1 bt116.1 true)) else (dropperlaw02_WireSlopes.j0 k l0 (wrap64 (1 + (Int.tmod (wrap64 (a2)) 1000))) t104 t105 t108 bt112.1 bt116.1 true)))) = some r := H
  have A11 := Aside0.mk A110
  clear A110
  replace H := Option.bind_eq_some_iff.mp H
  obtain ⟨⟨t112, t113⟩, A120, H⟩ := H
  replace H : ((wire_Highest.f k l0 (ji9) (wrap64 (1 + (Int.tmod (wrap64 (a2)) 1000)))).bind fun bt116 => (if t105 = t113 then (if t109 = bt116.2 then (if t105 = 0 then (dropperlaw02_WireSlopes.j0 k l0 (wrap64 (1 + (Int.tmod (wrap64 (a2)) 1000))) t104 t105 t108 t112 bt116.1 (t109 != 0)) else (dropperlaw02_WireSlopes.j0 k l0 (wrap64 (1 + (Int.tmod (wrap64 (a2)) 1000))) t104 t105 t108 t112 bt116.1 false)) else (dropperlaw02_WireSlopes.j0 k l0 (wrap64 (1 + (Int.tmod (wrap64 (a2)) 1000))) t104 t105 t108 t112 bt116.1 true)) else (dropperlaw02_WireSlopes.j0 k l0 (wrap64 (1 + (Int.tmod (wrap64 (a2)) 1000))) t104 t105 t108 t112 bt116.1 true))) = some r := H
  have A12 := Aside0.mk A120
  clear A120
  replace H := Option.bind_eq_some_iff.mp H
  obtain ⟨⟨t116, t117⟩, A130, H⟩ := H
  replace H : (if t105 = t113 then (if t109 = t117 then (if t105 = 0 then (dropperlaw02_WireSlopes.j0 k l0 (wrap64 (1 + (Int.tmod (wrap64 (a2)) 1000))) t104 t105 t108 t112 t116 (t109 != 0)) else (dropperlaw02_WireSlopes.j0 k l0 (wrap64 (1 + (Int.tmod (wrap64 (a2)) 1000))) t104 t105 t108 t112 t116 false)) else (dropperlaw02_WireSlopes.j0 k l0 (wrap64 (1 + (Int.tmod (wrap64 (a2)) 1000))) t104 t105 t108 t112 t116 true)) else (dropperlaw02_WireSlopes.j0 k l0 (wrap64 (1 + (Int.tmod (wrap64 (a2)) 1000))) t104 t105 t108 t112 t116 true)) = some r := H
  have A13 := Aside0.mk A130
  clear A130
  have HC14 := Aside0.mk H
  clear H
  go_enter Try.func11, Try.ntmps11
  go_upto_region 10 with (first | ((with_reducible refine gate_dst (N := 4) rfl ?_); (try (refine gate_guard (by rfl) ?_; dsimp only)); refine box_event ?hg (N := 4) ?hd (cs := #[.int .u16 a1_0, .int .u16 a1_1]) (t := 66) ?hr ?_; (case hd => rfl); (case hg => rfl); (case hr => first | (go_simp; done) | (go_simp; rfl)); intro gb101 hg w15 hbox hb; have n0_ := Aside0.mk (below_step (by repeat (first | (with_reducible first | exact HB.out | apply below_alloc | apply pw_below_drewN | apply below_drew1) | exact HB.out)) hb); have n1_ := Aside0.mk (hbox); have n2_ := Aside0.mk ((by rw [hg]; exact (below_size (by repeat (first | (with_reducible first | exact HB.out | apply below_alloc | apply pw_below_drewN | apply below_drew1) | exact HB.out))) : w.heap.size ≤ gb101)); have n3_ := Aside0.mk ((by rw [hg]; exact (below_size (by repeat (first | (with_reducible first | exact HB.out | apply below_alloc | apply pw_below_drewN | apply below_drew1) | exact HB.out))) : w.heap.size ≤ gb101)); clear HB; have HB := n0_; have BK101 := n1_; have GW101 := n2_; have GE101 := n3_; clear n0_ n1_ n2_ n3_; clear hb hbox hg) | (go_at_call 19; (with_reducible refine (dropperref02_Valid.calls k _ _ l0 true _ ?side1 ?side2 A4.out).mono ?_); (case side1 => repeat (first | exact (Kd.C_below HR0.out HB.out) | (with_reducible refine Kd.C_alloc ?_ _) | (with_reducible refine Kd.C_drewN ?_ _) | (with_reducible refine Kd.C_drew ?_))); (case side2 => exact HC0.out); rintro e w16 ⟨rfl, hb⟩; have n0_ := Aside0.mk (bkB BK101 hb); have n1_ := Aside0.mk (below_step (by repeat (first | (with_reducible first | exact HB.out | apply below_alloc | apply pw_below_drewN | apply below_drew1 | refine below_set ?_ GE101.out) | exact HB.out)) hb); clear BK101; clear HB; have BK101 := n0_; have HB := n1_; clear n0_ n1_; (try clear hb); (try clear hb2); (try clear hk); (try clear hi); have hcz17_0 : w16.cell? ⟨gb101, 0, none⟩ = some (.int .u16 a1_0) := (blk_cell BK101.out 0).trans rfl; have hcz17_1 : w16.cell? ⟨gb101, 1, none⟩ = some (.int .u16 a1_1) := (blk_cell BK101.out 1).trans rfl; have hfz17_0 := blk_frozen BK101.out 0; have hfz17_1 := blk_frozen BK101.out 1) | (go_at_call 21; (with_reducible refine (wire_Lowest.calls k _ _ l0 ji8 (wrap64 (1 + (Int.tmod (wrap64 (a2)) 1000))) t104 t105 _ ?side1 ?side2 A10.out).mono ?_); (case side1 => repeat (first | exact (Kd.C_below HR0.out HB.out) | (with_reducible refine Kd.C_alloc ?_ _) | (with_reducible refine Kd.C_drewN ?_ _) | (with_reducible refine Kd.C_drew ?_))); (case side2 => exact HC0.out); rintro e w18 ⟨v106, rfl, ho0, hb⟩; have n0_ := Aside0.mk (Kd.R_lower ho0 (below_size (by repeat (first | (with_reducible first | exact HB.out | apply below_alloc | apply pw_below_drewN | apply below_drew1 | refine below_set ?_ GE101.out) | exact HB.out)))); have n1_ := Aside0.mk (bkB BK101 hb); have n2_ := Aside0.mk (below_step (by repeat (first | (with_reducible first | exact HB.out | apply below_alloc | apply pw_below_drewN | apply below_drew1 | refine below_set ?_ GE101.out) | exact HB.out)) hb); clear BK101; clear HB; have HO107 := n0_; have BK101 := n1_; have HB := n2_; clear n0_ n1_ n2_; (try clear hb); (try clear hb2); (try clear hk); (try clear hi); (try clear ho0)) | (go_at_call 21; (with_reducible refine (wire_Lowest.calls k _ _ l0 ji9 (wrap64 (1 + (Int.tmod (wrap64 (a2)) 1000))) t108 t109 _ ?side1 ?side2 A11.out).mono ?_); (case side1 => repeat (first | exact (Kd.C_below HR0.out HB.out) | (with_reducible refine Kd.C_alloc ?_ _) | (with_reducible refine Kd.C_drewN ?_ _) | (with_reducible refine Kd.C_drew ?_))); (case side2 => exact HC0.out); rintro e w19 ⟨v110, rfl, ho0, hb⟩; have n0_ := Aside0.mk (Kd.R_elder' (by (with_reducible repeat (first | apply Kd.R_alloc | apply Kd.R_drewN | apply Kd.R_drew)); exact HO107.out) (Kd.R_base ho0) hb); have n1_ := Aside0.mk (Kd.R_lower (Kd.R_new' ho0 (Kd.R_lt (by (with_reducible repeat (first | apply Kd.R_alloc | apply Kd.R_drewN | apply Kd.R_drew)); exact HO107.out))) (below_size (by repeat (first | (with_reducible first | exact HB.out | apply below_alloc | apply pw_below_drewN | apply below_drew1 | refine below_set ?_ GE101.out) | exact HB.out)))); have n2_ := Aside0.mk (bkB BK101 hb); have n3_ := Aside0.mk (below_step (by repeat (first | (with_reducible first | exact HB.out | apply below_alloc | apply pw_below_drewN | apply below_drew1 | refine below_set ?_ GE101.out) | exact HB.out)) hb); clear HO107; clear BK101; clear HB; have HO107 := n0_; have HO111 := n1_; have BK101 := n2_; have HB := n3_; clear n0_ n1_ n2_ n3_; (try clear hb); (try clear hb2); (try clear hk); (try clear hi); (try clear ho0)) | (go_at_call 22; (with_reducible refine (wire_Highest.calls k _ _ l0 ji8 (wrap64 (1 + (Int.tmod (wrap64 (a2)) 1000))) t112 t113 _ ?side1 ?side2 A12.out).mono ?_); (case side1 => repeat (first | exact (Kd.C_below HR0.out HB.out) | (with_reducible refine Kd.C_alloc ?_ _) | (with_reducible refine Kd.C_drewN ?_ _) | (with_reducible refine Kd.C_drew ?_))); (case side2 => exact HC0.out); rintro e w20 ⟨v114, rfl, ho0, hb⟩; have n0_ := Aside0.mk (Kd.R_elder' (by (with_reducible repeat (first | apply Kd.R_alloc | apply Kd.R_drewN | apply Kd.R_drew)); exact HO107.out) (Kd.R_base ho0) hb); have n1_ := Aside0.mk (Kd.R_elder' (by (with_reducible repeat (first | apply Kd.R_alloc | apply Kd.R_drewN | apply Kd.R_drew)); exact HO111.out) (Kd.R_base ho0) hb); have n2_ := Aside0.mk (Kd.R_lower (Kd.R_new' (Kd.R_new' ho0 (Kd.R_lt (by (with_reducible repeat (first | apply Kd.R_alloc | apply Kd.R_drewN | apply Kd.R_drew)); exact HO107.out))) (Kd.R_lt (by (with_reducible repeat (first | apply Kd.R_alloc | apply Kd.R_drewN | apply Kd.R_drew)); exact HO111.out))) (below_size (by repeat (first | (with_reducible first | exact HB.out | apply below_alloc | apply pw_below_drewN | apply below_drew1 | refine below_set ?_ GE101.out) | exact HB.out)))); have n3_ := Aside0.mk (bkB BK101 hb); have n4_ := Aside0.mk (below_step (by repeat (first | (with_reducible first | exact HB.out | apply below_alloc | apply pw_below_drewN | apply below_drew1 | refine below_set ?_ GE101.out) | exact HB.out)) hb); clear HO107; clear HO111; clear BK101; clear HB; have HO107 := n0_; have HO111 := n1_; have HO115 := n2_; have BK101 := n3_; have HB := n4_; clear n0_ n1_ n2_ n3_ n4_; (try clear hb); (try clear hb2); (try clear hk); (try clear hi); (try clear ho0)) | (go_at_call 22; (with_reducible refine (wire_Highest.calls k _ _ l0 ji9 (wrap64 (1 + (Int.tmod (wrap64 (a2)) 1000))) t116 t117 _ ?side1 ?side2 A13.out).mono ?_); (case side1 => repeat (first | exact (Kd.C_below HR0.out HB.out) | (with_reducible refine Kd.C_alloc ?_ _) | (with_reducible refine Kd.C_drewN ?_ _) | (with_reducible refine Kd.C_drew ?_))); (case side2 => exact HC0.out); rintro e w21 ⟨v118, rfl, ho0, hb⟩; have n0_ := Aside0.mk (Kd.R_elder' (by (with_reducible repeat (first | apply Kd.R_alloc | apply Kd.R_drewN | apply Kd.R_drew)); exact HO107.out) (Kd.R_base ho0) hb); have n1_ := Aside0.mk (Kd.R_elder' (by (with_reducible repeat (first | apply Kd.R_alloc | apply Kd.R_drewN | apply Kd.R_drew)); exact HO111.out) (Kd.R_base ho0) hb); have n2_ := Aside0.mk (Kd.R_elder' (by (with_reducible repeat (first | apply Kd.R_alloc | apply Kd.R_drewN | apply Kd.R_drew)); exact HO115.out) (Kd.R_base ho0) hb); have n3_ := Aside0.mk (Kd.R_lower (Kd.R_new' (Kd.R_new' (Kd.R_new' ho0 (Kd.R_lt (by (with_reducible repeat (first | apply Kd.R_alloc | apply Kd.R_drewN | apply Kd.R_drew)); exact HO107.out))) (Kd.R_lt (by (with_reducible repeat (first | apply Kd.R_alloc | apply Kd.R_drewN | apply Kd.R_drew)); exact HO111.out))) (Kd.R_lt (by (with_reducible repeat (first | apply Kd.R_alloc | apply Kd.R_drewN | apply Kd.R_drew)); exact HO115.out))) (below_size (by repeat (first | (with_reducible first | exact HB.out | apply below_alloc | apply pw_below_drewN | apply below_drew1 | refine below_set ?_ GE101.out) | exact HB.out)))); have n4_ := Aside0.mk (bkB BK101 hb); have n5_ := Aside0.mk (below_step (by repeat (first | (with_reducible first | exact HB.out | apply below_alloc | apply pw_below_drewN | apply below_drew1 | refine below_set ?_ GE101.out) | exact HB.out)) hb); clear HO107; clear HO111; clear HO115; clear BK101; clear HB; have HO107 := n0_; have HO111 := n1_; have HO115 := n2_; have HO119 := n3_; have BK101 := n4_; have HB := n5_; clear n0_ n1_ n2_ n3_ n4_ n5_; (try clear hb); (try clear hb2); (try clear hk); (try clear hi); (try clear ho0)))
  repeat (go_quiet (first | ((with_reducible refine gate_dst (N := 4) rfl ?_); (try (refine gate_guard (by rfl) ?_; dsimp only)); refine box_event ?hg (N := 4) ?hd (cs := #[.int .u16 a1_0, .int .u16 a1_1]) (t := 66) ?hr ?_; (case hd => rfl); (case hg => rfl); (case hr => first | (go_simp; done) | (go_simp; rfl)); intro gb101 hg w15 hbox hb; have n0_ := Aside0.mk (below_step (by repeat (first | (with_reducible first | exact HB.out | apply below_alloc | apply pw_below_drewN | apply below_drew1) | exact HB.out)) hb); have n1_ := Aside0.mk (hbox); have n2_ := Aside0.mk ((by rw [hg]; exact (below_size (by repeat (first | (with_reducible first | exact HB.out | apply below_alloc | apply pw_below_drewN | apply below_drew1) | exact HB.out))) : w.heap.size ≤ gb101)); have n3_ := Aside0.mk ((by rw [hg]; exact (below_size (by repeat (first | (with_reducible first | exact HB.out | apply below_alloc | apply pw_below_drewN | apply below_drew1) | exact HB.out))) : w.heap.size ≤ gb101)); clear HB; have HB := n0_; have BK101 := n1_; have GW101 := n2_; have GE101 := n3_; clear n0_ n1_ n2_ n3_; clear hb hbox hg) | (go_at_call 19; (with_reducible refine (dropperref02_Valid.calls k _ _ l0 true _ ?side1 ?side2 A4.out).mono ?_); (case side1 => repeat (first | exact (Kd.C_below HR0.out HB.out) | (with_reducible refine Kd.C_alloc ?_ _) | (with_reducible refine Kd.C_drewN ?_ _) | (with_reducible refine Kd.C_drew ?_))); (case side2 => exact HC0.out); rintro e w16 ⟨rfl, hb⟩; have n0_ := Aside0.mk (bkB BK101 hb); have n1_ := Aside0.mk (below_step (by repeat (first | (with_reducible first | exact HB.out | apply below_alloc | apply pw_below_drewN | apply below_drew1 | refine below_set ?_ GE101.out) | exact HB.out)) hb); clear BK101; clear HB; have BK101 := n0_; have HB := n1_; clear n0_ n1_; (try clear hb); (try clear hb2); (try clear hk); (try clear hi); have hcz17_0 : w16.cell? ⟨gb101, 0, none⟩ = some (.int .u16 a1_0) := (blk_cell BK101.out 0).trans rfl; have hcz17_1 : w16.cell? ⟨gb101, 1, none⟩ = some (.int .u16 a1_1) := (blk_cell BK101.out 1).trans rfl; have hfz17_0 := blk_frozen BK101.out 0; have hfz17_1 := blk_frozen BK101.out 1) | (go_at_call 21; (with_reducible refine (wire_Lowest.calls k _ _ l0 ji8 (wrap64 (1 + (Int.tmod (wrap64 (a2)) 1000))) t104 t105 _ ?side1 ?side2 A10.out).mono ?_); (case side1 => repeat (first | exact (Kd.C_below HR0.out HB.out) | (with_reducible refine Kd.C_alloc ?_ _) | (with_reducible refine Kd.C_drewN ?_ _) | (with_reducible refine Kd.C_drew ?_))); (case side2 => exact HC0.out); rintro e w18 ⟨v106, rfl, ho0, hb⟩; have n0_ := Aside0.mk (Kd.R_lower ho0 (below_size (by repeat (first | (with_reducible first | exact HB.out | apply below_alloc | apply pw_below_drewN | apply below_drew1 | refine below_set ?_ GE101.out) | exact HB.out)))); have n1_ := Aside0.mk (bkB BK101 hb); have n2_ := Aside0.mk (below_step (by repeat (first | (with_reducible first | exact HB.out | apply below_alloc | apply pw_below_drewN | apply below_drew1 | refine below_set ?_ GE101.out) | exact HB.out)) hb); clear BK101; clear HB; have HO107 := n0_; have BK101 := n1_; have HB := n2_; clear n0_ n1_ n2_; (try clear hb); (try clear hb2); (try clear hk); (try clear hi); (try clear ho0)) | (go_at_call 21; (with_reducible refine (wire_Lowest.calls k _ _ l0 ji9 (wrap64 (1 + (Int.tmod (wrap64 (a2)) 1000))) t108 t109 _ ?side1 ?side2 A11.out).mono ?_); (case side1 => repeat (first | exact (Kd.C_below HR0.out HB.out) | (with_reducible refine Kd.C_alloc ?_ _) | (with_reducible refine Kd.C_drewN ?_ _) | (with_reducible refine Kd.C_drew ?_))); (case side2 => exact HC0.out); rintro e w19 ⟨v110, rfl, ho0, hb⟩; have n0_ := Aside0.mk (Kd.R_elder' (by (with_reducible repeat (first | apply Kd.R_alloc | apply Kd.R_drewN | apply Kd.R_drew)); exact HO107.out) (Kd.R_base ho0) hb); have n1_ := Aside0.mk (Kd.R_lower (Kd.R_new' ho0 (Kd.R_lt (by (with_reducible repeat (first | apply Kd.R_alloc | apply Kd.R_drewN | apply Kd.R_drew)); exact HO107.out))) (below_size (by repeat (first | (with_reducible first | exact HB.out | apply below_alloc | apply pw_below_drewN | apply below_drew1 | refine below_set ?_ GE101.out) | exact HB.out)))); have n2_ := Aside0.mk (bkB BK101 hb); have n3_ := Aside0.mk (below_step (by repeat (first | (with_reducible first | exact HB.out | apply below_alloc | apply pw_below_drewN | apply below_drew1 | refine below_set ?_ GE101.out) | exact HB.out)) hb); clear HO107; clear BK101; clear HB; have HO107 := n0_; have HO111 := n1_; have BK101 := n2_; have HB := n3_; clear n0_ n1_ n2_ n3_; (try clear hb); (try clear hb2); (try clear hk); (try clear hi); (try clear ho0)) | (go_at_call 22; (with_reducible refine (wire_Highest.calls k _ _ l0 ji8 (wrap64 (1 + (Int.tmod (wrap64 (a2)) 1000))) t112 t113 _ ?side1 ?side2 A12.out).mono ?_); (case side1 => repeat (first | exact (Kd.C_below HR0.out HB.out) | (with_reducible refine Kd.C_alloc ?_ _) | (with_reducible refine Kd.C_drewN ?_ _) | (with_reducible refine Kd.C_drew ?_))); (case side2 => exact HC0.out); rintro e w20 ⟨v114, rfl, ho0, hb⟩; have n0_ := Aside0.mk (Kd.R_elder' (by (with_reducible repeat (first | apply Kd.R_alloc | apply Kd.R_drewN | apply Kd.R_drew)); exact HO107.out) (Kd.R_base ho0) hb); have n1_ := Aside0.mk (Kd.R_elder' (by (with_reducible repeat (first | apply Kd.R_alloc | apply Kd.R_drewN | apply Kd.R_drew)); exact HO111.out) (Kd.R_base ho0) hb); have n2_ := Aside0.mk (Kd.R_lower (Kd.R_new' (Kd.R_new' ho0 (Kd.R_lt (by (with_reducible repeat (first | apply Kd.R_alloc | apply Kd.R_drewN | apply Kd.R_drew)); exact HO107.out))) (Kd.R_lt (by (with_reducible repeat (first | apply Kd.R_alloc | apply Kd.R_drewN | apply Kd.R_drew)); exact HO111.out))) (below_size (by repeat (first | (with_reducible first | exact HB.out | apply below_alloc | apply pw_below_drewN | apply below_drew1 | refine below_set ?_ GE101.out) | exact HB.out)))); have n3_ := Aside0.mk (bkB BK101 hb); have n4_ := Aside0.mk (below_step (by repeat (first | (with_reducible first | exact HB.out | apply below_alloc | apply pw_below_drewN | apply below_drew1 | refine below_set ?_ GE101.out) | exact HB.out)) hb); clear HO107; clear HO111; clear BK101; clear HB; have HO107 := n0_; have HO111 := n1_; have HO115 := n2_; have BK101 := n3_; have HB := n4_; clear n0_ n1_ n2_ n3_ n4_; (try clear hb); (try clear hb2); (try clear hk); (try clear hi); (try clear ho0)) | (go_at_call 22; (with_reducible refine (wire_Highest.calls k _ _ l0 ji9 (wrap64 (1 + (Int.tmod (wrap64 (a2)) 1000))) t116 t117 _ ?side1 ?side2 A13.out).mono ?_); (case side1 => repeat (first | exact (Kd.C_below HR0.out HB.out) | (with_reducible refine Kd.C_alloc ?_ _) | (with_reducible refine Kd.C_drewN ?_ _) | (with_reducible refine Kd.C_drew ?_))); (case side2 => exact HC0.out); rintro e w21 ⟨v118, rfl, ho0, hb⟩; have n0_ := Aside0.mk (Kd.R_elder' (by (with_reducible repeat (first | apply Kd.R_alloc | apply Kd.R_drewN | apply Kd.R_drew)); exact HO107.out) (Kd.R_base ho0) hb); have n1_ := Aside0.mk (Kd.R_elder' (by (with_reducible repeat (first | apply Kd.R_alloc | apply Kd.R_drewN | apply Kd.R_drew)); exact HO111.out) (Kd.R_base ho0) hb); have n2_ := Aside0.mk (Kd.R_elder' (by (with_reducible repeat (first | apply Kd.R_alloc | apply Kd.R_drewN | apply Kd.R_drew)); exact HO115.out) (Kd.R_base ho0) hb); have n3_ := Aside0.mk (Kd.R_lower (Kd.R_new' (Kd.R_new' (Kd.R_new' ho0 (Kd.R_lt (by (with_reducible repeat (first | apply Kd.R_alloc | apply Kd.R_drewN | apply Kd.R_drew)); exact HO107.out))) (Kd.R_lt (by (with_reducible repeat (first | apply Kd.R_alloc | apply Kd.R_drewN | apply Kd.R_drew)); exact HO111.out))) (Kd.R_lt (by (with_reducible repeat (first | apply Kd.R_alloc | apply Kd.R_drewN | apply Kd.R_drew)); exact HO115.out))) (below_size (by repeat (first | (with_reducible first | exact HB.out | apply below_alloc | apply pw_below_drewN | apply below_drew1 | refine below_set ?_ GE101.out) | exact HB.out)))); have n4_ := Aside0.mk (bkB BK101 hb); have n5_ := Aside0.mk (below_step (by repeat (first | (with_reducible first | exact HB.out | apply below_alloc | apply pw_below_drewN | apply below_drew1 | refine below_set ?_ GE101.out) | exact HB.out)) hb); clear HO107; clear HO111; clear HO115; clear BK101; clear HB; have HO107 := n0_; have HO111 := n1_; have HO115 := n2_; have HO119 := n3_; have BK101 := n4_; have HB := n5_; clear n0_ n1_ n2_ n3_ n4_ n5_; (try clear hb); (try clear hb2); (try clear hk); (try clear hi); (try clear ho0))); go_upto_region 10 with (first | ((with_reducible refine gate_dst (N := 4) rfl ?_); (try (refine gate_guard (by rfl) ?_; dsimp only)); refine box_event ?hg (N := 4) ?hd (cs := #[.int .u16 a1_0, .int .u16 a1_1]) (t := 66) ?hr ?_; (case hd => rfl); (case hg => rfl); (case hr => first | (go_simp; done) | (go_simp; rfl)); intro gb101 hg w15 hbox hb; have n0_ := Aside0.mk (below_step (by repeat (first | (with_reducible first | exact HB.out | apply below_alloc | apply pw_below_drewN | apply below_drew1) | exact HB.out)) hb); have n1_ := Aside0.mk (hbox); have n2_ := Aside0.mk ((by rw [hg]; exact (below_size (by repeat (first | (with_reducible first | exact HB.out | apply below_alloc | apply pw_below_drewN | apply below_drew1) | exact HB.out))) : w.heap.size ≤ gb101)); have n3_ := Aside0.mk ((by rw [hg]; exact (below_size (by repeat (first | (with_reducible first | exact HB.out | apply below_alloc | apply pw_below_drewN | apply below_drew1) | exact HB.out))) : w.heap.size ≤ gb101)); clear HB; have HB := n0_; have BK101 := n1_; have GW101 := n2_; have GE101 := n3_; clear n0_ n1_ n2_ n3_; clear hb hbox hg) | (go_at_call 19; (with_reducible refine (dropperref02_Valid.calls k _ _ l0 true _ ?side1 ?side2 A4.out).mono ?_); (case side1 => repeat (first | exact (Kd.C_below HR0.out HB.out) | (with_reducible refine Kd.C_alloc ?_ _) | (with_reducible refine Kd.C_drewN ?_ _) | (with_reducible refine Kd.C_drew ?_))); (case side2 => exact HC0.out); rintro e w16 ⟨rfl, hb⟩; have n0_ := Aside0.mk (bkB BK101 hb); have n1_ := Aside0.mk (below_step (by repeat (first | (with_reducible first | exact HB.out | apply below_alloc | apply pw_below_drewN | apply below_drew1 | refine below_set ?_ GE101.out) | exact HB.out)) hb); clear BK101; clear HB; have BK101 := n0_; have HB := n1_; clear n0_ n1_; (try clear hb); (try clear hb2); (try clear hk); (try clear hi); have hcz17_0 : w16.cell? ⟨gb101, 0, none⟩ = some (.int .u16 a1_0) := (blk_cell BK101.out 0).trans rfl; have hcz17_1 : w16.cell? ⟨gb101, 1, none⟩ = some (.int .u16 a1_1) := (blk_cell BK101.out 1).trans rfl; have hfz17_0 := blk_frozen BK101.out 0; have hfz17_1 := blk_frozen BK101.out 1) | (go_at_call 21; (with_reducible refine (wire_Lowest.calls k _ _ l0 ji8 (wrap64 (1 + (Int.tmod (wrap64 (a2)) 1000))) t104 t105 _ ?side1 ?side2 A10.out).mono ?_); (case side1 => repeat (first | exact (Kd.C_below HR0.out HB.out) | (with_reducible refine Kd.C_alloc ?_ _) | (with_reducible refine Kd.C_drewN ?_ _) | (with_reducible refine Kd.C_drew ?_))); (case side2 => exact HC0.out); rintro e w18 ⟨v106, rfl, ho0, hb⟩; have n0_ := Aside0.mk (Kd.R_lower ho0 (below_size (by repeat (first | (with_reducible first | exact HB.out | apply below_alloc | apply pw_below_drewN | apply below_drew1 | refine below_set ?_ GE101.out) | exact HB.out)))); have n1_ := Aside0.mk (bkB BK101 hb); have n2_ := Aside0.mk (below_step (by repeat (first | (with_reducible first | exact HB.out | apply below_alloc | apply pw_below_drewN | apply below_drew1 | refine below_set ?_ GE101.out) | exact HB.out)) hb); clear BK101; clear HB; have HO107 := n0_; have BK101 := n1_; have HB := n2_; clear n0_ n1_ n2_; (try clear hb); (try clear hb2); (try clear hk); (try clear hi); (try clear ho0)) | (go_at_call 21; (with_reducible refine (wire_Lowest.calls k _ _ l0 ji9 (wrap64 (1 + (Int.tmod (wrap64 (a2)) 1000))) t108 t109 _ ?side1 ?side2 A11.out).mono ?_); (case side1 => repeat (first | exact (Kd.C_below HR0.out HB.out) | (with_reducible refine Kd.C_alloc ?_ _) | (with_reducible refine Kd.C_drewN ?_ _) | (with_reducible refine Kd.C_drew ?_))); (case side2 => exact HC0.out); rintro e w19 ⟨v110, rfl, ho0, hb⟩; have n0_ := Aside0.mk (Kd.R_elder' (by (with_reducible repeat (first | apply Kd.R_alloc | apply Kd.R_drewN | apply Kd.R_drew)); exact HO107.out) (Kd.R_base ho0) hb); have n1_ := Aside0.mk (Kd.R_lower (Kd.R_new' ho0 (Kd.R_lt (by (with_reducible repeat (first | apply Kd.R_alloc | apply Kd.R_drewN | apply Kd.R_drew)); exact HO107.out))) (below_size (by repeat (first | (with_reducible first | exact HB.out | apply below_alloc | apply pw_below_drewN | apply below_drew1 | refine below_set ?_ GE101.out) | exact HB.out)))); have n2_ := Aside0.mk (bkB BK101 hb); have n3_ := Aside0.mk (below_step (by repeat (first | (with_reducible first | exact HB.out | apply below_alloc | apply pw_below_drewN | apply below_drew1 | refine below_set ?_ GE101.out) | exact HB.out)) hb); clear HO107; clear BK101; clear HB; have HO107 := n0_; have HO111 := n1_; have BK101 := n2_; have HB := n3_; clear n0_ n1_ n2_ n3_; (try clear hb); (try clear hb2); (try clear hk); (try clear hi); (try clear ho0)) | (go_at_call 22; (with_reducible refine (wire_Highest.calls k _ _ l0 ji8 (wrap64 (1 + (Int.tmod (wrap64 (a2)) 1000))) t112 t113 _ ?side1 ?side2 A12.out).mono ?_); (case side1 => repeat (first | exact (Kd.C_below HR0.out HB.out) | (with_reducible refine Kd.C_alloc ?_ _) | (with_reducible refine Kd.C_drewN ?_ _) | (with_reducible refine Kd.C_drew ?_))); (case side2 => exact HC0.out); rintro e w20 ⟨v114, rfl, ho0, hb⟩; have n0_ := Aside0.mk (Kd.R_elder' (by (with_reducible repeat (first | apply Kd.R_alloc | apply Kd.R_drewN | apply Kd.R_drew)); exact HO107.out) (Kd.R_base ho0) hb); have n1_ := Aside0.mk (Kd.R_elder' (by (with_reducible repeat (first | apply Kd.R_alloc | apply Kd.R_drewN | apply Kd.R_drew)); exact HO111.out) (Kd.R_base ho0) hb); have n2_ := Aside0.mk (Kd.R_lower (Kd.R_new' (Kd.R_new' ho0 (Kd.R_lt (by (with_reducible repeat (first | apply Kd.R_alloc | apply Kd.R_drewN | apply Kd.R_drew)); exact HO107.out))) (Kd.R_lt (by (with_reducible repeat (first | apply Kd.R_alloc | apply Kd.R_drewN | apply Kd.R_drew)); exact HO111.out))) (below_size (by repeat (first | (with_reducible first | exact HB.out | apply below_alloc | apply pw_below_drewN | apply below_drew1 | refine below_set ?_ GE101.out) | exact HB.out)))); have n3_ := Aside0.mk (bkB BK101 hb); have n4_ := Aside0.mk (below_step (by repeat (first | (with_reducible first | exact HB.out | apply below_alloc | apply pw_below_drewN | apply below_drew1 | refine below_set ?_ GE101.out) | exact HB.out)) hb); clear HO107; clear HO111; clear BK101; clear HB; have HO107 := n0_; have HO111 := n1_; have HO115 := n2_; have BK101 := n3_; have HB := n4_; clear n0_ n1_ n2_ n3_ n4_; (try clear hb); (try clear hb2); (try clear hk); (try clear hi); (try clear ho0)) | (go_at_call 22; (with_reducible refine (wire_Highest.calls k _ _ l0 ji9 (wrap64 (1 + (Int.tmod (wrap64 (a2)) 1000))) t116 t117 _ ?side1 ?side2 A13.out).mono ?_); (case side1 => repeat (first | exact (Kd.C_below HR0.out HB.out) | (with_reducible refine Kd.C_alloc ?_ _) | (with_reducible refine Kd.C_drewN ?_ _) | (with_reducible refine Kd.C_drew ?_))); (case side2 => exact HC0.out); rintro e w21 ⟨v118, rfl, ho0, hb⟩; have n0_ := Aside0.mk (Kd.R_elder' (by (with_reducible repeat (first | apply Kd.R_alloc | apply Kd.R_drewN | apply Kd.R_drew)); exact HO107.out) (Kd.R_base ho0) hb); have n1_ := Aside0.mk (Kd.R_elder' (by (with_reducible repeat (first | apply Kd.R_alloc | apply Kd.R_drewN | apply Kd.R_drew)); exact HO111.out) (Kd.R_base ho0) hb); have n2_ := Aside0.mk (Kd.R_elder' (by (with_reducible repeat (first | apply Kd.R_alloc | apply Kd.R_drewN | apply Kd.R_drew)); exact HO115.out) (Kd.R_base ho0) hb); have n3_ := Aside0.mk (Kd.R_lower (Kd.R_new' (Kd.R_new' (Kd.R_new' ho0 (Kd.R_lt (by (with_reducible repeat (first | apply Kd.R_alloc | apply Kd.R_drewN | apply Kd.R_drew)); exact HO107.out))) (Kd.R_lt (by (with_reducible repeat (first | apply Kd.R_alloc | apply Kd.R_drewN | apply Kd.R_drew)); exact HO111.out))) (Kd.R_lt (by (with_reducible repeat (first | apply Kd.R_alloc | apply Kd.R_drewN | apply Kd.R_drew)); exact HO115.out))) (below_size (by repeat (first | (with_reducible first | exact HB.out | apply below_alloc | apply pw_below_drewN | apply below_drew1 | refine below_set ?_ GE101.out) | exact HB.out)))); have n4_ := Aside0.mk (bkB BK101 hb); have n5_ := Aside0.mk (below_step (by repeat (first | (with_reducible first | exact HB.out | apply below_alloc | apply pw_below_drewN | apply below_drew1 | refine below_set ?_ GE101.out) | exact HB.out)) hb); clear HO107; clear HO111; clear HO115; clear BK101; clear HB; have HO107 := n0_; have HO111 := n1_; have HO115 := n2_; have HO119 := n3_; have BK101 := n4_; have HB := n5_; clear n0_ n1_ n2_ n3_ n4_ n5_; (try clear hb); (try clear hb2); (try clear hk); (try clear hi); (try clear ho0))))
  (try simp only [Act.put, List.setIfInBounds_toArray, List.set_cons_zero, List.set_cons_succ])
  go_cut [96] (fun v96 wc => ∃ (kq : Nat) (x96_13 : Bool), v96 = .bool x96_13 ∧ Aside0 (dropperlaw02_WireSlopes.j0 kq l0 (wrap64 (1 + (Int.tmod (wrap64 (a2)) 1000))) t104 t105 t108 t112 t116 x96_13 = some r) ∧ Aside0 (kq ≤ k) ∧ Aside0 (Kd.R (Kd.int .i64) 3 wc w.heap.size (fun k_ => some k_ ≠ (v110 : Value).ownBlock ∧ some k_ ≠ (v114 : Value).ownBlock ∧ some k_ ≠ (v118 : Value).ownBlock) v106 t104) ∧ Aside0 (Kd.R (Kd.int .i64) 3 wc w.heap.size (fun k_ => some k_ ≠ (v106 : Value).ownBlock ∧ some k_ ≠ (v114 : Value).ownBlock ∧ some k_ ≠ (v118 : Value).ownBlock) v110 t108) ∧ Aside0 (Kd.R (Kd.int .i64) 3 wc w.heap.size (fun k_ => some k_ ≠ (v106 : Value).ownBlock ∧ some k_ ≠ (v110 : Value).ownBlock ∧ some k_ ≠ (v118 : Value).ownBlock) v114 t112) ∧ Aside0 (Kd.R (Kd.int .i64) 3 wc w.heap.size (fun k_ => some k_ ≠ (v106 : Value).ownBlock ∧ some k_ ≠ (v110 : Value).ownBlock ∧ some k_ ≠ (v114 : Value).ownBlock) v118 t116) ∧ Aside0 (wc.heap[gb101]? = some (.cells #[.int .u16 a1_0, .int .u16 a1_1] 66 (0, 0))) ∧ Aside0 (Below w.heap.size w wc))
  case first =>
    have H := HC14.out
    clear HC14
    by_cases c22 : t105 = t113
    rotate_left
    · rw [if_neg c22] at H
      have c22b0 : (t105 == t113) = false := beq_eq_false_iff_ne.mpr c22
      have c22b1 : (t105 != t113) = true := bne_iff_ne.mpr c22
      (first | rw [c22b0] | (simp only [i64_w, i32_w]; rw [c22b0]) | skip)
      have H' := Aside0.mk H
      clear H
      go_wp2
      repeat (go_quiet (fail); try go_wp2)
      go_meet
      case rel => exact ⟨_, (true), (by first | rfl | (simp; done) | (simp [*]; done)), H', ⟨by first | omega | exact Nat.le_refl _⟩, ⟨by (with_reducible repeat (first | apply Kd.R_alloc | apply Kd.R_drewN | apply Kd.R_drew)); exact Kd.R_mono HO107.out (fun _ hk => ⟨hk.1.1.2, ⟨hk.1.2, hk.2⟩⟩)⟩, ⟨by (with_reducible repeat (first | apply Kd.R_alloc | apply Kd.R_drewN | apply Kd.R_drew)); exact Kd.R_mono HO111.out (fun _ hk => ⟨hk.1.1.2, ⟨hk.1.2, hk.2⟩⟩)⟩, ⟨by (with_reducible repeat (first | apply Kd.R_alloc | apply Kd.R_drewN | apply Kd.R_drew)); exact Kd.R_mono HO115.out (fun _ hk => ⟨hk.1.1.2, ⟨hk.1.2, hk.2⟩⟩)⟩, ⟨by (with_reducible repeat (first | apply Kd.R_alloc | apply Kd.R_drewN | apply Kd.R_drew)); exact Kd.R_mono HO119.out (fun _ hk => ⟨hk.1.1.2, ⟨hk.1.2, hk.2⟩⟩)⟩, ⟨bkU BK101⟩, ⟨by repeat (first | (with_reducible first | exact HB.out | apply below_alloc | apply pw_below_drewN | apply below_drew1 | refine below_set ?_ GE101.out) | exact HB.out)⟩⟩
    rw [if_pos c22] at H
    have c22b0 : (t105 == t113) = true := beq_iff_eq.mpr c22
    have c22b1 : (t105 != t113) = false := bne_eq_false_iff_eq.mpr c22
    clear c22
    (first | rw [c22b0] | (simp only [i64_w, i32_w]; rw [c22b0]) | skip)
    by_cases c23 : t109 = t117
    rotate_left
    · rw [if_neg c23] at H
      have c23b0 : (t109 == t117) = false := beq_eq_false_iff_ne.mpr c23
      have c23b1 : (t109 != t117) = true := bne_iff_ne.mpr c23
      have H' := Aside0.mk H
      clear H
      go_wp2
      repeat (go_quiet (fail); try go_wp2)
      go_meet
      case rel => exact ⟨_, (true), (by first | rfl | (simp; done) | (simp [*]; done)), H', ⟨by first | omega | exact Nat.le_refl _⟩, ⟨by (with_reducible repeat (first | apply Kd.R_alloc | apply Kd.R_drewN | apply Kd.R_drew)); exact Kd.R_mono HO107.out (fun _ hk => ⟨hk.1.1.2, ⟨hk.1.2, hk.2⟩⟩)⟩, ⟨by (with_reducible repeat (first | apply Kd.R_alloc | apply Kd.R_drewN | apply Kd.R_drew)); exact Kd.R_mono HO111.out (fun _ hk => ⟨hk.1.1.2, ⟨hk.1.2, hk.2⟩⟩)⟩, ⟨by (with_reducible repeat (first | apply Kd.R_alloc | apply Kd.R_drewN | apply Kd.R_drew)); exact Kd.R_mono HO115.out (fun _ hk => ⟨hk.1.1.2, ⟨hk.1.2, hk.2⟩⟩)⟩, ⟨by (with_reducible repeat (first | apply Kd.R_alloc | apply Kd.R_drewN | apply Kd.R_drew)); exact Kd.R_mono HO119.out (fun _ hk => ⟨hk.1.1.2, ⟨hk.1.2, hk.2⟩⟩)⟩, ⟨bkU BK101⟩, ⟨by repeat (first | (with_reducible first | exact HB.out | apply below_alloc | apply pw_below_drewN | apply below_drew1 | refine below_set ?_ GE101.out) | exact HB.out)⟩⟩
    rw [if_pos c23] at H
    have c23b0 : (t109 == t117) = true := beq_iff_eq.mpr c23
    have c23b1 : (t109 != t117) = false := bne_eq_false_iff_eq.mpr c23
    clear c23
    by_cases c24 : t105 = 0
    rotate_left
    · rw [if_neg c24] at H
      have c24b0 : (t105 == 0) = false := beq_eq_false_iff_ne.mpr c24
      have c24b1 : (t105 != 0) = true := bne_iff_ne.mpr c24
      have H' := Aside0.mk H
      clear H
      go_wp2
      repeat (go_quiet (fail); try go_wp2)
      go_meet
      case rel => exact ⟨_, (false), (by first | rfl | (simp; done) | (simp [*]; done)), H', ⟨by first | omega | exact Nat.le_refl _⟩, ⟨by (with_reducible repeat (first | apply Kd.R_alloc | apply Kd.R_drewN | apply Kd.R_drew)); exact Kd.R_mono HO107.out (fun _ hk => ⟨hk.1.1.2, ⟨hk.1.2, hk.2⟩⟩)⟩, ⟨by (with_reducible repeat (first | apply Kd.R_alloc | apply Kd.R_drewN | apply Kd.R_drew)); exact Kd.R_mono HO111.out (fun _ hk => ⟨hk.1.1.2, ⟨hk.1.2, hk.2⟩⟩)⟩, ⟨by (with_reducible repeat (first | apply Kd.R_alloc | apply Kd.R_drewN | apply Kd.R_drew)); exact Kd.R_mono HO115.out (fun _ hk => ⟨hk.1.1.2, ⟨hk.1.2, hk.2⟩⟩)⟩, ⟨by (with_reducible repeat (first | apply Kd.R_alloc | apply Kd.R_drewN | apply Kd.R_drew)); exact Kd.R_mono HO119.out (fun _ hk => ⟨hk.1.1.2, ⟨hk.1.2, hk.2⟩⟩)⟩, ⟨bkU BK101⟩, ⟨by repeat (first | (with_reducible first | exact HB.out | apply below_alloc | apply pw_below_drewN | apply below_drew1 | refine below_set ?_ GE101.out) | exact HB.out)⟩⟩
    rw [if_pos c24] at H
    have c24b0 : (t105 == 0) = true := beq_iff_eq.mpr c24
    have c24b1 : (t105 != 0) = false := bne_eq_false_iff_eq.mpr c24
    clear c24
    have H' := Aside0.mk H
    clear H
    go_wp2
    repeat (go_quiet (fail); try go_wp2)
    go_meet
    case rel => exact ⟨_, ((t109 != 0)), (by first | rfl | (simp; done) | (simp [*]; done)), H', ⟨by first | omega | exact Nat.le_refl _⟩, ⟨by (with_reducible repeat (first | apply Kd.R_alloc | apply Kd.R_drewN | apply Kd.R_drew)); exact Kd.R_mono HO107.out (fun _ hk => ⟨hk.1.1.2, ⟨hk.1.2, hk.2⟩⟩)⟩, ⟨by (with_reducible repeat (first | apply Kd.R_alloc | apply Kd.R_drewN | apply Kd.R_drew)); exact Kd.R_mono HO111.out (fun _ hk => ⟨hk.1.1.2, ⟨hk.1.2, hk.2⟩⟩)⟩, ⟨by (with_reducible repeat (first | apply Kd.R_alloc | apply Kd.R_drewN | apply Kd.R_drew)); exact Kd.R_mono HO115.out (fun _ hk => ⟨hk.1.1.2, ⟨hk.1.2, hk.2⟩⟩)⟩, ⟨by (with_reducible repeat (first | apply Kd.R_alloc | apply Kd.R_drewN | apply Kd.R_drew)); exact Kd.R_mono HO119.out (fun _ hk => ⟨hk.1.1.2, ⟨hk.1.2, hk.2⟩⟩)⟩, ⟨bkU BK101⟩, ⟨by repeat (first | (with_reducible first | exact HB.out | apply below_alloc | apply pw_below_drewN | apply below_drew1 | refine below_set ?_ GE101.out) | exact HB.out)⟩⟩
  case rest =>
    clear HC14
    try clear c1
    try clear c2
    try clear p2
    try clear c5
    try clear p6
    try clear c11
    try clear c22
    try clear c22b0
    try clear c22b1
    try clear c23
    try clear c23b0
    try clear c23b1
    try clear c24
    try clear c24b0
    try clear c24b1
    try clear hcz17_0
    try clear hcz17_1
    try clear hfz17_0
    try clear hfz17_1
    obtain ⟨kq, x96_13, rfl, HA, HJ13, HO_10, HO_12, HO_14, HO_16, BK101, HB⟩ := hcut
    cases kq with
    | zero => exact absurd HA.out (by simp [dropperlaw02_WireSlopes.j0])
    | succ kj13 =>
      have H := HA.out
      clear HA
      simp only [dropperlaw02_WireSlopes.j0] at H
      by_cases c25 : x96_13 = true
      · subst c25
        have H1 : (some false) = some r := by rw [if_pos rfl] at H; exact H
        clear H
        have H := H1
        clear H1
        exact absurd (hT.symm.trans (Option.some.inj H).symm) (by decide)
      replace c25 := Bool.eq_false_iff.mpr c25
      subst c25
      have H1 : (if t105 = 0 then (dropperlaw02_WireSlopes.l0 kj13 l0 (wrap64 (1 + (Int.tmod (wrap64 (a2)) 1000))) t104 t108 t112 t116 0) else (dropperlaw02_WireSlopes.j2 kj13 l0 (wrap64 (1 + (Int.tmod (wrap64 (a2)) 1000))))) = some r := by rw [if_neg (show ¬ (false = true) by decide)] at H; exact H
      clear H
      have H := H1
      clear H1
      have HC26 := Aside0.mk H
      clear H
      go_upto_if 98 with (fail)
      repeat (go_quiet (fail); go_upto_if 98 with (fail))
      go_cut [] (fun wc => ∃ (kq : Nat), Aside0 (dropperlaw02_WireSlopes.j2 kq l0 (wrap64 (1 + (Int.tmod (wrap64 (a2)) 1000))) = some r) ∧ Aside0 (kq ≤ kj13) ∧ Aside0 (wc.heap[gb101]? = some (.cells #[.int .u16 a1_0, .int .u16 a1_1] 66 (0, 0))) ∧ Aside0 (Below w.heap.size w wc))
      case first =>
        have H := HC26.out
        clear HC26
        by_cases c27 : t105 = 0
        rotate_left
        · rw [if_neg c27] at H
          have c27b0 : (t105 == 0) = false := beq_eq_false_iff_ne.mpr c27
          have c27b1 : (t105 != 0) = true := bne_iff_ne.mpr c27
          (first | rw [c27b0] | (simp only [i64_w, i32_w]; rw [c27b0]) | skip)
          have H' := Aside0.mk H
          clear H
          go_wp2
          repeat (go_quiet (fail); try go_wp2)
          go_meet
          case rel => exact ⟨_, H', ⟨by have := HJ13.out; first | omega | exact Nat.le_refl _⟩, ⟨bkU BK101⟩, ⟨by repeat (first | (with_reducible first | exact HB.out | apply below_alloc | apply pw_below_drewN | apply below_drew1 | refine below_set ?_ GE101.out) | exact HB.out)⟩⟩
        rw [if_pos c27] at H
        have c27b0 : (t105 == 0) = true := beq_iff_eq.mpr c27
        have c27b1 : (t105 != 0) = false := bne_eq_false_iff_eq.mpr c27
        clear c27
        (first | rw [c27b0] | (simp only [i64_w, i32_w]; rw [c27b0]) | skip)
        have H' := Aside0.mk H
        clear H
        go_wp2
        repeat (go_quiet (fail); try go_wp2)
        go_loopg [18] kj13 (fun kq v18 w' => ∃ (x18_2 : Int), v18 = .int .i64 x18_2 ∧ Aside0 (dropperlaw02_WireSlopes.l0 kq l0 (wrap64 (1 + (Int.tmod (wrap64 (a2)) 1000))) t104 t108 t112 t116 x18_2 = some r) ∧ Aside0 (kq ≤ kj13) ∧ Aside0 (Kd.R (Kd.int .i64) 3 w' w.heap.size (fun k_ => some k_ ≠ (v110 : Value).ownBlock ∧ some k_ ≠ (v114 : Value).ownBlock ∧ some k_ ≠ (v118 : Value).ownBlock) v106 t104) ∧ Aside0 (Kd.R (Kd.int .i64) 3 w' w.heap.size (fun k_ => some k_ ≠ (v106 : Value).ownBlock ∧ some k_ ≠ (v114 : Value).ownBlock ∧ some k_ ≠ (v118 : Value).ownBlock) v110 t108) ∧ Aside0 (Kd.R (Kd.int .i64) 3 w' w.heap.size (fun k_ => some k_ ≠ (v106 : Value).ownBlock ∧ some k_ ≠ (v110 : Value).ownBlock ∧ some k_ ≠ (v118 : Value).ownBlock) v114 t112) ∧ Aside0 (Kd.R (Kd.int .i64) 3 w' w.heap.size (fun k_ => some k_ ≠ (v106 : Value).ownBlock ∧ some k_ ≠ (v110 : Value).ownBlock ∧ some k_ ≠ (v114 : Value).ownBlock) v118 t116) ∧ Aside0 (w'.heap[gb101]? = some (.cells #[.int .u16 a1_0, .int .u16 a1_1] 66 (0, 0))) ∧ Aside0 (Below w.heap.size w w'))
        case atStart => exact ⟨(0), (by first | rfl | (simp; done) | (simp [*]; done)), H', ⟨Nat.le_refl _⟩, ⟨by (with_reducible repeat (first | apply Kd.R_alloc | apply Kd.R_drewN | apply Kd.R_drew)); exact HO_10.out⟩, ⟨by (with_reducible repeat (first | apply Kd.R_alloc | apply Kd.R_drewN | apply Kd.R_drew)); exact HO_12.out⟩, ⟨by (with_reducible repeat (first | apply Kd.R_alloc | apply Kd.R_drewN | apply Kd.R_drew)); exact HO_14.out⟩, ⟨by (with_reducible repeat (first | apply Kd.R_alloc | apply Kd.R_drewN | apply Kd.R_drew)); exact HO_16.out⟩, ⟨bkU BK101⟩, ⟨by repeat (first | (with_reducible first | exact HB.out | apply below_alloc | apply pw_below_drewN | apply below_drew1 | refine below_set ?_ GE101.out) | exact HB.out)⟩⟩
        case round =>
          clear H'
          try clear c1
          try clear c2
          try clear p2
          try clear c5
          try clear p6
          try clear c11
          try clear c22
          try clear c22b0
          try clear c22b1
          try clear c23
          try clear c23b0
          try clear c23b1
          try clear c24
          try clear c24b0
          try clear c24b1
          try clear c25
          try clear c27
          try clear c27b0
          try clear c27b1
          try clear hcz17_0
          try clear hcz17_1
          try clear hfz17_0
          try clear hfz17_1
          try clear p2
          try clear p6
          obtain ⟨x18_2, rfl, HA, HK2, HO_10, HO_12, HO_14, HO_16, BK101, HB⟩ := hrel
          cases gk with
          | zero => exact absurd HA.out (by simp [dropperlaw02_WireSlopes.l0])
          | succ k2 =>
            have H := HA.out
            clear HA
            simp only [dropperlaw02_WireSlopes.l0] at H
            by_cases c28 : x18_2 < (l0.length : Int)
            rotate_left
            · rw [if_neg c28] at H
              have c28b0 : decide (x18_2 < (l0.length : Int)) = false := decide_eq_false c28
              clear c28
              have H' := Aside0.mk H
              clear H
              go_wp2
              repeat (go_quiet (fail); try go_wp2)
              go_meet
              case rel => exact ⟨_, H', ⟨by have := HJ13.out; have := HK2.out; first | omega | exact Nat.le_refl _⟩, ⟨bkU BK101⟩, ⟨by repeat (first | (with_reducible first | exact HB.out | apply below_alloc | apply pw_below_drewN | apply below_drew1 | refine below_set ?_ GE101.out) | exact HB.out)⟩⟩
            rw [if_pos c28] at H
            have c28b0 : decide (x18_2 < (l0.length : Int)) = true := decide_eq_true c28
            clear c28
            by_cases c29 : x18_2 ≥ (t104.length : Int)
            · rw [if_pos c29] at H
              have c29b0 : decide ((t104.length : Int) ≤ x18_2) = true := decide_eq_true c29
              clear c29
              exact absurd (hT.symm.trans (Option.some.inj H).symm) (by decide)
            rw [if_neg c29] at H
            have c29b0 : decide ((t104.length : Int) ≤ x18_2) = false := decide_eq_false c29
            clear c29
            by_cases c30 : x18_2 ≥ (t108.length : Int)
            · rw [if_pos c30] at H
              have c30b0 : decide ((t108.length : Int) ≤ x18_2) = true := decide_eq_true c30
              clear c30
              exact absurd (hT.symm.trans (Option.some.inj H).symm) (by decide)
            rw [if_neg c30] at H
            have c30b0 : decide ((t108.length : Int) ≤ x18_2) = false := decide_eq_false c30
            clear c30
            by_cases c31 : x18_2 ≥ (t112.length : Int)
            · rw [if_pos c31] at H
              have c31b0 : decide ((t112.length : Int) ≤ x18_2) = true := decide_eq_true c31
              clear c31
              exact absurd (hT.symm.trans (Option.some.inj H).symm) (by decide)
            rw [if_neg c31] at H
            have c31b0 : decide ((t112.length : Int) ≤ x18_2) = false := decide_eq_false c31
            clear c31
            by_cases c32 : x18_2 ≥ (t116.length : Int)
            · rw [if_pos c32] at H
              have c32b0 : decide ((t116.length : Int) ≤ x18_2) = true := decide_eq_true c32
              clear c32
              exact absurd (hT.symm.trans (Option.some.inj H).symm) (by decide)
            rw [if_neg c32] at H
            have c32b0 : decide ((t116.length : Int) ≤ x18_2) = false := decide_eq_false c32
            clear c32
            by_cases c33 : 0 ≤ x18_2
            rotate_left
            · rw [if_neg c33] at H
              exact absurd H (by simp)
            rw [if_pos c33] at H
            have c33b0 : decide (0 ≤ x18_2) = true := decide_eq_true c33
            clear c33
            by_cases c34 : x18_2 < (t108.length : Int)
            rotate_left
            · rw [if_neg c34] at H
              exact absurd H (by simp)
            rw [if_pos c34] at H
            have c34b0 : decide (x18_2 < (t108.length : Int)) = true := decide_eq_true c34
            clear c34
            by_cases c35 : x18_2 < (t104.length : Int)
            rotate_left
            · rw [if_neg c35] at H
              exact absurd H (by simp)
            rw [if_pos c35] at H
            have c35b0 : decide (x18_2 < (t104.length : Int)) = true := decide_eq_true c35
            clear c35
            by_cases c36 : (rd t108 x18_2) > (rd t104 x18_2)
            · rw [if_pos c36] at H
              have c36b0 : decide ((rd t104 x18_2) < (rd t108 x18_2)) = true := decide_eq_true c36
              clear c36
              exact absurd (hT.symm.trans (Option.some.inj H).symm) (by decide)
            rw [if_neg c36] at H
            have c36b0 : decide ((rd t104 x18_2) < (rd t108 x18_2)) = false := decide_eq_false c36
            clear c36
            by_cases c37 : x18_2 < (t116.length : Int)
            rotate_left
            · rw [if_neg c37] at H
              exact absurd H (by simp)
            rw [if_pos c37] at H
            have c37b0 : decide (x18_2 < (t116.length : Int)) = true := decide_eq_true c37
            clear c37
            by_cases c38 : x18_2 < (t112.length : Int)
            rotate_left
            · rw [if_neg c38] at H
              exact absurd H (by simp)
            rw [if_pos c38] at H
            have c38b0 : decide (x18_2 < (t112.length : Int)) = true := decide_eq_true c38
            clear c38
            by_cases c39 : (rd t116 x18_2) < (rd t112 x18_2)
            · rw [if_pos c39] at H
              have c39b0 : decide ((rd t116 x18_2) < (rd t112 x18_2)) = true := decide_eq_true c39
              clear c39
              exact absurd (hT.symm.trans (Option.some.inj H).symm) (by decide)
            rw [if_neg c39] at H
            have c39b0 : decide ((rd t116 x18_2) < (rd t112 x18_2)) = false := decide_eq_false c39
            clear c39
            have H' := Aside0.mk H
            clear H
            obtain ⟨Ao40, co40, eo40⟩ := Kd.R_slice HO_10.out
            subst eo40
            obtain ⟨Ao41, co41, eo41⟩ := Kd.R_slice HO_12.out
            subst eo41
            obtain ⟨Ao42, co42, eo42⟩ := Kd.R_slice HO_14.out
            subst eo42
            obtain ⟨Ao43, co43, eo43⟩ := Kd.R_slice HO_16.out
            subst eo43
            have p120 : 0 ≤ (x18_2 : Int) := of_decide_eq_true (by first | (with_reducible assumption) | assumption)
            have q120 : x18_2 < (t108.length : Int) := of_decide_eq_true (by first | (with_reducible assumption) | assumption)
            obtain ⟨ad120, e120, hx120_0⟩ := Kd.at_int (Kd.R_reads' HO_12.out).2.2 x18_2 p120 q120
            cases e120
            replace p120 := eq_true p120
            replace q120 := eq_true q120
            have p121 : 0 ≤ (x18_2 : Int) := of_decide_eq_true (by first | (with_reducible assumption) | assumption)
            have q121 : x18_2 < (t104.length : Int) := of_decide_eq_true (by first | (with_reducible assumption) | assumption)
            obtain ⟨ad121, e121, hx121_0⟩ := Kd.at_int (Kd.R_reads' HO_10.out).2.2 x18_2 p121 q121
            cases e121
            replace p121 := eq_true p121
            replace q121 := eq_true q121
            have p122 : 0 ≤ (x18_2 : Int) := of_decide_eq_true (by first | (with_reducible assumption) | assumption)
            have q122 : x18_2 < (t116.length : Int) := of_decide_eq_true (by first | (with_reducible assumption) | assumption)
            obtain ⟨ad122, e122, hx122_0⟩ := Kd.at_int (Kd.R_reads' HO_16.out).2.2 x18_2 p122 q122
            cases e122
            replace p122 := eq_true p122
            replace q122 := eq_true q122
            have p123 : 0 ≤ (x18_2 : Int) := of_decide_eq_true (by first | (with_reducible assumption) | assumption)
            have q123 : x18_2 < (t112.length : Int) := of_decide_eq_true (by first | (with_reducible assumption) | assumption)
            obtain ⟨ad123, e123, hx123_0⟩ := Kd.at_int (Kd.R_reads' HO_14.out).2.2 x18_2 p123 q123
            cases e123
            replace p123 := eq_true p123
            replace q123 := eq_true q123
            go_wp2
            repeat (go_quiet (fail); try go_wp2)
            go_roundg k2
            case measure => have := HJ13.out; have := HK2.out; omega
            case rel => exact ⟨(wrap64 (x18_2 + 1)), (by first | rfl | (simp; done) | (simp [*]; done)), H', ⟨by have := HJ13.out; have := HK2.out; omega⟩, ⟨by (with_reducible repeat (first | apply Kd.R_alloc | apply Kd.R_drewN | apply Kd.R_drew)); exact HO_10.out⟩, ⟨by (with_reducible repeat (first | apply Kd.R_alloc | apply Kd.R_drewN | apply Kd.R_drew)); exact HO_12.out⟩, ⟨by (with_reducible repeat (first | apply Kd.R_alloc | apply Kd.R_drewN | apply Kd.R_drew)); exact HO_14.out⟩, ⟨by (with_reducible repeat (first | apply Kd.R_alloc | apply Kd.R_drewN | apply Kd.R_drew)); exact HO_16.out⟩, ⟨bkU BK101⟩, ⟨by repeat (first | (with_reducible first | exact HB.out | apply below_alloc | apply pw_below_drewN | apply below_drew1 | refine below_set ?_ GE101.out) | exact HB.out)⟩⟩
      case rest =>
        clear HC26
        try clear c1
        try clear p1
        try clear q1
        try clear hx1
        try clear c2
        try clear p2
        try clear c3
        try clear c5
        try clear p6
        try clear c11
        try clear p12
        try clear q12
        try clear hx12
        try clear c22
        try clear c22b0
        try clear c22b1
        try clear c23
        try clear c23b0
        try clear c23b1
        try clear c24
        try clear c24b0
        try clear c24b1
        try clear c25
        try clear c27
        try clear c27b0
        try clear c27b1
        try clear c28
        try clear c28b0
        try clear c29
        try clear c29b0
        try clear c30
        try clear c30b0
        try clear c31
        try clear c31b0
        try clear c32
        try clear c32b0
        try clear c33
        try clear c33b0
        try clear c34
        try clear c34b0
        try clear c35
        try clear c35b0
        try clear c36
        try clear c36b0
        try clear c37
        try clear c37b0
        try clear c38
        try clear c38b0
        try clear c39
        try clear c39b0
        try clear hcz17_0
        try clear hcz17_1
        try clear hfz17_0
        try clear hfz17_1
        try clear hx120_0
        try clear hx121_0
        try clear hx122_0
        try clear hx123_0
        try clear p120
        try clear p121
        try clear p122
        try clear p123
        try clear p2
        try clear p6
        try clear q120
        try clear q121
        try clear q122
        try clear q123
        obtain ⟨kq, HA, HJ25, BK101, HB⟩ := hcut
        cases kq with
        | zero => exact absurd HA.out (by simp [dropperlaw02_WireSlopes.j2])
        | succ kj25 =>
          have H := HA.out
          clear HA
          simp only [dropperlaw02_WireSlopes.j2] at H
          replace H := Option.bind_eq_some_iff.mp H
          obtain ⟨⟨t124, t125⟩, A440, H⟩ := H
          replace H : (if t125 = 0 then ((wire_Lowest.f kj25 l0 t124 (wrap64 (1 + (Int.tmod (wrap64 (a2)) 1000)))).bind fun bt130 => (if bt130.2 = 0 then (if t124 < 0 then (dropperlaw02_WireSlopes.j3 kj25 l0 (wrap64 (1 + (Int.tmod (wrap64 (a2)) 1000))) t124 true) else (dropperlaw02_WireSlopes.j3 kj25 l0 (wrap64 (1 + (Int.tmod (wrap64 (a2)) 1000))) t124 (decide (t124 > 1000)))) else (dropperlaw02_WireSlopes.j3 kj25 l0 (wrap64 (1 + (Int.tmod (wrap64 (a2)) 1000))) t124 true))) else ((wire_Clash.f kj25 l0 1000 (wrap64 (1 + (Int.tmod (wrap64 (a2)) 1000)))).bind fun bt126 => (if t125 = 5 then (if bt126.2.2 = 0 then ((dropperlaw02_Awake.f kj25).bind fun t129 => (some t129)) else (some false)) else (some false)))) = some r := H
          have A44 := Aside0.mk A440
          clear A440
          by_cases c45 : t125 = 0
          rotate_left
          · rw [if_neg c45] at H
            have c45b0 : (t125 == 0) = false := beq_eq_false_iff_ne.mpr c45
            have c45b1 : (t125 != 0) = true := bne_iff_ne.mpr c45
            replace H := Option.bind_eq_some_iff.mp H
            obtain ⟨⟨t126, t127, t128⟩, A610, H⟩ := H
            replace H : (if t125 = 5 then (if t128 = 0 then ((dropperlaw02_Awake.f kj25).bind fun t129 => (some t129)) else (some false)) else (some false)) = some r := H
            have A61 := Aside0.mk A610
            clear A610
            by_cases c62 : t125 = 5
            rotate_left
            · rw [if_neg c62] at H
              have c62b0 : (t125 == 5) = false := beq_eq_false_iff_ne.mpr c62
              have c62b1 : (t125 != 5) = true := bne_iff_ne.mpr c62
              exact absurd (hT.symm.trans (Option.some.inj H).symm) (by decide)
            rw [if_pos c62] at H
            have c62b0 : (t125 == 5) = true := beq_iff_eq.mpr c62
            have c62b1 : (t125 != 5) = false := bne_eq_false_iff_eq.mpr c62
            clear c62
            by_cases c63 : t128 = 0
            rotate_left
            · rw [if_neg c63] at H
              have c63b0 : (t128 == 0) = false := beq_eq_false_iff_ne.mpr c63
              have c63b1 : (t128 != 0) = true := bne_iff_ne.mpr c63
              exact absurd (hT.symm.trans (Option.some.inj H).symm) (by decide)
            rw [if_pos c63] at H
            have c63b0 : (t128 == 0) = true := beq_iff_eq.mpr c63
            have c63b1 : (t128 != 0) = false := bne_eq_false_iff_eq.mpr c63
            clear c63
            replace H := Option.bind_eq_some_iff.mp H
            obtain ⟨t129, A640, H⟩ := H
            replace H : (some t129) = some r := H
            have A64 := Aside0.mk A640
            clear A640
            clear hT
            obtain rfl := Option.some.inj H
            go_wp2_with (first | (go_at_call 30; (with_reducible refine (wire_Gentlest.calls kj25 _ _ l0 (wrap64 (1 + (Int.tmod (wrap64 (a2)) 1000))) t124 t125 _ ?side1 ?side2 A44.out).mono ?_); (case side1 => repeat (first | exact (Kd.C_below HR0.out HB.out) | (with_reducible refine Kd.C_alloc ?_ _) | (with_reducible refine Kd.C_drewN ?_ _) | (with_reducible refine Kd.C_drew ?_))); (case side2 => exact HC0.out); rintro e w65 ⟨rfl, hb⟩; have n0_ := Aside0.mk (bkB BK101 hb); have n1_ := Aside0.mk (below_step (by repeat (first | (with_reducible first | exact HB.out | apply below_alloc | apply pw_below_drewN | apply below_drew1 | refine below_set ?_ GE101.out) | exact HB.out)) hb); clear BK101; clear HB; have BK101 := n0_; have HB := n1_; clear n0_ n1_; (try clear hb); (try clear hb2); (try clear hk); (try clear hi)) | (go_at_call 15; (with_reducible refine (wire_Clash.calls kj25 _ _ l0 1000 (wrap64 (1 + (Int.tmod (wrap64 (a2)) 1000))) t126 t127 t128 _ ?side1 ?side2 A61.out).mono ?_); (case side1 => repeat (first | exact (Kd.C_below HR0.out HB.out) | (with_reducible refine Kd.C_alloc ?_ _) | (with_reducible refine Kd.C_drewN ?_ _) | (with_reducible refine Kd.C_drew ?_))); (case side2 => exact HC0.out); rintro e w66 ⟨rfl, hb⟩; have n0_ := Aside0.mk (bkB BK101 hb); have n1_ := Aside0.mk (below_step (by repeat (first | (with_reducible first | exact HB.out | apply below_alloc | apply pw_below_drewN | apply below_drew1 | refine below_set ?_ GE101.out) | exact HB.out)) hb); clear BK101; clear HB; have BK101 := n0_; have HB := n1_; clear n0_ n1_; (try clear hb); (try clear hb2); (try clear hk); (try clear hi)) | (go_at_call 14; (with_reducible refine (dropperlaw02_Awake.calls kj25  t129 _ A64.out).mono ?_); rintro e w67 ⟨rfl, hb⟩; have n0_ := Aside0.mk (bkB BK101 hb); have n1_ := Aside0.mk (below_step (by repeat (first | (with_reducible first | exact HB.out | apply below_alloc | apply pw_below_drewN | apply below_drew1 | refine below_set ?_ GE101.out) | exact HB.out)) hb); clear BK101; clear HB; have BK101 := n0_; have HB := n1_; clear n0_ n1_; (try clear hb); (try clear hb2); (try clear hk); (try clear hi)))
            repeat (go_quiet (first | (go_at_call 30; (with_reducible refine (wire_Gentlest.calls kj25 _ _ l0 (wrap64 (1 + (Int.tmod (wrap64 (a2)) 1000))) t124 t125 _ ?side1 ?side2 A44.out).mono ?_); (case side1 => repeat (first | exact (Kd.C_below HR0.out HB.out) | (with_reducible refine Kd.C_alloc ?_ _) | (with_reducible refine Kd.C_drewN ?_ _) | (with_reducible refine Kd.C_drew ?_))); (case side2 => exact HC0.out); rintro e w65 ⟨rfl, hb⟩; have n0_ := Aside0.mk (bkB BK101 hb); have n1_ := Aside0.mk (below_step (by repeat (first | (with_reducible first | exact HB.out | apply below_alloc | apply pw_below_drewN | apply below_drew1 | refine below_set ?_ GE101.out) | exact HB.out)) hb); clear BK101; clear HB; have BK101 := n0_; have HB := n1_; clear n0_ n1_; (try clear hb); (try clear hb2); (try clear hk); (try clear hi)) | (go_at_call 15; (with_reducible refine (wire_Clash.calls kj25 _ _ l0 1000 (wrap64 (1 + (Int.tmod (wrap64 (a2)) 1000))) t126 t127 t128 _ ?side1 ?side2 A61.out).mono ?_); (case side1 => repeat (first | exact (Kd.C_below HR0.out HB.out) | (with_reducible refine Kd.C_alloc ?_ _) | (with_reducible refine Kd.C_drewN ?_ _) | (with_reducible refine Kd.C_drew ?_))); (case side2 => exact HC0.out); rintro e w66 ⟨rfl, hb⟩; have n0_ := Aside0.mk (bkB BK101 hb); have n1_ := Aside0.mk (below_step (by repeat (first | (with_reducible first | exact HB.out | apply below_alloc | apply pw_below_drewN | apply below_drew1 | refine below_set ?_ GE101.out) | exact HB.out)) hb); clear BK101; clear HB; have BK101 := n0_; have HB := n1_; clear n0_ n1_; (try clear hb); (try clear hb2); (try clear hk); (try clear hi)) | (go_at_call 14; (with_reducible refine (dropperlaw02_Awake.calls kj25  t129 _ A64.out).mono ?_); rintro e w67 ⟨rfl, hb⟩; have n0_ := Aside0.mk (bkB BK101 hb); have n1_ := Aside0.mk (below_step (by repeat (first | (with_reducible first | exact HB.out | apply below_alloc | apply pw_below_drewN | apply below_drew1 | refine below_set ?_ GE101.out) | exact HB.out)) hb); clear BK101; clear HB; have BK101 := n0_; have HB := n1_; clear n0_ n1_; (try clear hb); (try clear hb2); (try clear hk); (try clear hi))); try go_wp2_with (first | (go_at_call 30; (with_reducible refine (wire_Gentlest.calls kj25 _ _ l0 (wrap64 (1 + (Int.tmod (wrap64 (a2)) 1000))) t124 t125 _ ?side1 ?side2 A44.out).mono ?_); (case side1 => repeat (first | exact (Kd.C_below HR0.out HB.out) | (with_reducible refine Kd.C_alloc ?_ _) | (with_reducible refine Kd.C_drewN ?_ _) | (with_reducible refine Kd.C_drew ?_))); (case side2 => exact HC0.out); rintro e w65 ⟨rfl, hb⟩; have n0_ := Aside0.mk (bkB BK101 hb); have n1_ := Aside0.mk (below_step (by repeat (first | (with_reducible first | exact HB.out | apply below_alloc | apply pw_below_drewN | apply below_drew1 | refine below_set ?_ GE101.out) | exact HB.out)) hb); clear BK101; clear HB; have BK101 := n0_; have HB := n1_; clear n0_ n1_; (try clear hb); (try clear hb2); (try clear hk); (try clear hi)) | (go_at_call 15; (with_reducible refine (wire_Clash.calls kj25 _ _ l0 1000 (wrap64 (1 + (Int.tmod (wrap64 (a2)) 1000))) t126 t127 t128 _ ?side1 ?side2 A61.out).mono ?_); (case side1 => repeat (first | exact (Kd.C_below HR0.out HB.out) | (with_reducible refine Kd.C_alloc ?_ _) | (with_reducible refine Kd.C_drewN ?_ _) | (with_reducible refine Kd.C_drew ?_))); (case side2 => exact HC0.out); rintro e w66 ⟨rfl, hb⟩; have n0_ := Aside0.mk (bkB BK101 hb); have n1_ := Aside0.mk (below_step (by repeat (first | (with_reducible first | exact HB.out | apply below_alloc | apply pw_below_drewN | apply below_drew1 | refine below_set ?_ GE101.out) | exact HB.out)) hb); clear BK101; clear HB; have BK101 := n0_; have HB := n1_; clear n0_ n1_; (try clear hb); (try clear hb2); (try clear hk); (try clear hi)) | (go_at_call 14; (with_reducible refine (dropperlaw02_Awake.calls kj25  t129 _ A64.out).mono ?_); rintro e w67 ⟨rfl, hb⟩; have n0_ := Aside0.mk (bkB BK101 hb); have n1_ := Aside0.mk (below_step (by repeat (first | (with_reducible first | exact HB.out | apply below_alloc | apply pw_below_drewN | apply below_drew1 | refine below_set ?_ GE101.out) | exact HB.out)) hb); clear BK101; clear HB; have BK101 := n0_; have HB := n1_; clear n0_ n1_; (try clear hb); (try clear hb2); (try clear hk); (try clear hi))))
            go_ret
            exact ⟨by first | rfl | (simp [errW_none, errW_some] <;> rfl) | (simp only [← hji6, ← hji7, ← hji8, ← hji9]; first | rfl | (simp [errW_none, errW_some] <;> rfl)) | (simp [*, errW_none, errW_some] <;> rfl), by repeat (first | (with_reducible first | exact HB.out | apply below_alloc | apply pw_below_drewN | apply below_drew1 | refine below_set ?_ GE101.out) | exact HB.out)⟩
          rw [if_pos c45] at H
          have c45b0 : (t125 == 0) = true := beq_iff_eq.mpr c45
          have c45b1 : (t125 != 0) = false := bne_eq_false_iff_eq.mpr c45
          clear c45
          replace H := Option.bind_eq_some_iff.mp H
          obtain ⟨⟨t130, t131⟩, A460, H⟩ := H
          replace H : (if t131 = 0 then (if t124 < 0 then (dropperlaw02_WireSlopes.j3 kj25 l0 (wrap64 (1 + (Int.tmod (wrap64 (a2)) 1000))) t124 true) else (dropperlaw02_WireSlopes.j3 kj25 l0 (wrap64 (1 + (Int.tmod (wrap64 (a2)) 1000))) t124 (decide (t124 > 1000)))) else (dropperlaw02_WireSlopes.j3 kj25 l0 (wrap64 (1 + (Int.tmod (wrap64 (a2)) 1000))) t124 true)) = some r := H
          have A46 := Aside0.mk A460
          clear A460
          have HC47 := Aside0.mk H
          clear H
          go_upto_region 23 with (first | (go_at_call 30; (with_reducible refine (wire_Gentlest.calls kj25 _ _ l0 (wrap64 (1 + (Int.tmod (wrap64 (a2)) 1000))) t124 t125 _ ?side1 ?side2 A44.out).mono ?_); (case side1 => repeat (first | exact (Kd.C_below HR0.out HB.out) | (with_reducible refine Kd.C_alloc ?_ _) | (with_reducible refine Kd.C_drewN ?_ _) | (with_reducible refine Kd.C_drew ?_))); (case side2 => exact HC0.out); rintro e w48 ⟨rfl, hb⟩; have n0_ := Aside0.mk (bkB BK101 hb); have n1_ := Aside0.mk (below_step (by repeat (first | (with_reducible first | exact HB.out | apply below_alloc | apply pw_below_drewN | apply below_drew1 | refine below_set ?_ GE101.out) | exact HB.out)) hb); clear BK101; clear HB; have BK101 := n0_; have HB := n1_; clear n0_ n1_; (try clear hb); (try clear hb2); (try clear hk); (try clear hi)) | (go_at_call 21; (with_reducible refine (wire_Lowest.calls kj25 _ _ l0 t124 (wrap64 (1 + (Int.tmod (wrap64 (a2)) 1000))) t130 t131 _ ?side1 ?side2 A46.out).mono ?_); (case side1 => repeat (first | exact (Kd.C_below HR0.out HB.out) | (with_reducible refine Kd.C_alloc ?_ _) | (with_reducible refine Kd.C_drewN ?_ _) | (with_reducible refine Kd.C_drew ?_))); (case side2 => exact HC0.out); rintro e w49 ⟨v132, rfl, ho0, hb⟩; have n0_ := Aside0.mk (Kd.R_lower ho0 (below_size (by repeat (first | (with_reducible first | exact HB.out | apply below_alloc | apply pw_below_drewN | apply below_drew1 | refine below_set ?_ GE101.out) | exact HB.out)))); have n1_ := Aside0.mk (bkB BK101 hb); have n2_ := Aside0.mk (below_step (by repeat (first | (with_reducible first | exact HB.out | apply below_alloc | apply pw_below_drewN | apply below_drew1 | refine below_set ?_ GE101.out) | exact HB.out)) hb); clear BK101; clear HB; have HO133 := n0_; have BK101 := n1_; have HB := n2_; clear n0_ n1_ n2_; (try clear hb); (try clear hb2); (try clear hk); (try clear hi); (try clear ho0)))
          repeat (go_quiet (first | (go_at_call 30; (with_reducible refine (wire_Gentlest.calls kj25 _ _ l0 (wrap64 (1 + (Int.tmod (wrap64 (a2)) 1000))) t124 t125 _ ?side1 ?side2 A44.out).mono ?_); (case side1 => repeat (first | exact (Kd.C_below HR0.out HB.out) | (with_reducible refine Kd.C_alloc ?_ _) | (with_reducible refine Kd.C_drewN ?_ _) | (with_reducible refine Kd.C_drew ?_))); (case side2 => exact HC0.out); rintro e w48 ⟨rfl, hb⟩; have n0_ := Aside0.mk (bkB BK101 hb); have n1_ := Aside0.mk (below_step (by repeat (first | (with_reducible first | exact HB.out | apply below_alloc | apply pw_below_drewN | apply below_drew1 | refine below_set ?_ GE101.out) | exact HB.out)) hb); clear BK101; clear HB; have BK101 := n0_; have HB := n1_; clear n0_ n1_; (try clear hb); (try clear hb2); (try clear hk); (try clear hi)) | (go_at_call 21; (with_reducible refine (wire_Lowest.calls kj25 _ _ l0 t124 (wrap64 (1 + (Int.tmod (wrap64 (a2)) 1000))) t130 t131 _ ?side1 ?side2 A46.out).mono ?_); (case side1 => repeat (first | exact (Kd.C_below HR0.out HB.out) | (with_reducible refine Kd.C_alloc ?_ _) | (with_reducible refine Kd.C_drewN ?_ _) | (with_reducible refine Kd.C_drew ?_))); (case side2 => exact HC0.out); rintro e w49 ⟨v132, rfl, ho0, hb⟩; have n0_ := Aside0.mk (Kd.R_lower ho0 (below_size (by repeat (first | (with_reducible first | exact HB.out | apply below_alloc | apply pw_below_drewN | apply below_drew1 | refine below_set ?_ GE101.out) | exact HB.out)))); have n1_ := Aside0.mk (bkB BK101 hb); have n2_ := Aside0.mk (below_step (by repeat (first | (with_reducible first | exact HB.out | apply below_alloc | apply pw_below_drewN | apply below_drew1 | refine below_set ?_ GE101.out) | exact HB.out)) hb); clear BK101; clear HB; have HO133 := n0_; have BK101 := n1_; have HB := n2_; clear n0_ n1_ n2_; (try clear hb); (try clear hb2); (try clear hk); (try clear hi); (try clear ho0))); go_upto_region 23 with (first | (go_at_call 30; (with_reducible refine (wire_Gentlest.calls kj25 _ _ l0 (wrap64 (1 + (Int.tmod (wrap64 (a2)) 1000))) t124 t125 _ ?side1 ?side2 A44.out).mono ?_); (case side1 => repeat (first | exact (Kd.C_below HR0.out HB.out) | (with_reducible refine Kd.C_alloc ?_ _) | (with_reducible refine Kd.C_drewN ?_ _) | (with_reducible refine Kd.C_drew ?_))); (case side2 => exact HC0.out); rintro e w48 ⟨rfl, hb⟩; have n0_ := Aside0.mk (bkB BK101 hb); have n1_ := Aside0.mk (below_step (by repeat (first | (with_reducible first | exact HB.out | apply below_alloc | apply pw_below_drewN | apply below_drew1 | refine below_set ?_ GE101.out) | exact HB.out)) hb); clear BK101; clear HB; have BK101 := n0_; have HB := n1_; clear n0_ n1_; (try clear hb); (try clear hb2); (try clear hk); (try clear hi)) | (go_at_call 21; (with_reducible refine (wire_Lowest.calls kj25 _ _ l0 t124 (wrap64 (1 + (Int.tmod (wrap64 (a2)) 1000))) t130 t131 _ ?side1 ?side2 A46.out).mono ?_); (case side1 => repeat (first | exact (Kd.C_below HR0.out HB.out) | (with_reducible refine Kd.C_alloc ?_ _) | (with_reducible refine Kd.C_drewN ?_ _) | (with_reducible refine Kd.C_drew ?_))); (case side2 => exact HC0.out); rintro e w49 ⟨v132, rfl, ho0, hb⟩; have n0_ := Aside0.mk (Kd.R_lower ho0 (below_size (by repeat (first | (with_reducible first | exact HB.out | apply below_alloc | apply pw_below_drewN | apply below_drew1 | refine below_set ?_ GE101.out) | exact HB.out)))); have n1_ := Aside0.mk (bkB BK101 hb); have n2_ := Aside0.mk (below_step (by repeat (first | (with_reducible first | exact HB.out | apply below_alloc | apply pw_below_drewN | apply below_drew1 | refine below_set ?_ GE101.out) | exact HB.out)) hb); clear BK101; clear HB; have HO133 := n0_; have BK101 := n1_; have HB := n2_; clear n0_ n1_ n2_; (try clear hb); (try clear hb2); (try clear hk); (try clear hi); (try clear ho0))))
          (try simp only [Act.put, List.setIfInBounds_toArray, List.set_cons_zero, List.set_cons_succ])
          go_cut [189] (fun v189 wc => ∃ (kq : Nat) (x189_46 : Bool), v189 = .bool x189_46 ∧ Aside0 (dropperlaw02_WireSlopes.j3 kq l0 (wrap64 (1 + (Int.tmod (wrap64 (a2)) 1000))) t124 x189_46 = some r) ∧ Aside0 (kq ≤ kj25) ∧ Aside0 (wc.heap[gb101]? = some (.cells #[.int .u16 a1_0, .int .u16 a1_1] 66 (0, 0))) ∧ Aside0 (Below w.heap.size w wc))
          case first =>
            have H := HC47.out
            clear HC47
            by_cases c50 : t131 = 0
            rotate_left
            · rw [if_neg c50] at H
              have c50b0 : (t131 == 0) = false := beq_eq_false_iff_ne.mpr c50
              have c50b1 : (t131 != 0) = true := bne_iff_ne.mpr c50
              (first | rw [c50b0] | (simp only [i64_w, i32_w]; rw [c50b0]) | skip)
              have H' := Aside0.mk H
              clear H
              go_wp2
              repeat (go_quiet (fail); try go_wp2)
              go_meet
              case rel => exact ⟨_, (true), (by first | rfl | (simp; done) | (simp [*]; done)), H', ⟨by have := HJ13.out; have := HJ25.out; first | omega | exact Nat.le_refl _⟩, ⟨bkU BK101⟩, ⟨by repeat (first | (with_reducible first | exact HB.out | apply below_alloc | apply pw_below_drewN | apply below_drew1 | refine below_set ?_ GE101.out) | exact HB.out)⟩⟩
            rw [if_pos c50] at H
            have c50b0 : (t131 == 0) = true := beq_iff_eq.mpr c50
            have c50b1 : (t131 != 0) = false := bne_eq_false_iff_eq.mpr c50
            clear c50
            (first | rw [c50b0] | (simp only [i64_w, i32_w]; rw [c50b0]) | skip)
            by_cases c51 : t124 < 0
            · rw [if_pos c51] at H
              have c51b0 : decide (t124 < 0) = true := decide_eq_true c51
              clear c51
              have H' := Aside0.mk H
              clear H
              go_wp2
              repeat (go_quiet (fail); try go_wp2)
              go_meet
              case rel => exact ⟨_, (true), (by first | rfl | (simp; done) | (simp [*]; done)), H', ⟨by have := HJ13.out; have := HJ25.out; first | omega | exact Nat.le_refl _⟩, ⟨bkU BK101⟩, ⟨by repeat (first | (with_reducible first | exact HB.out | apply below_alloc | apply pw_below_drewN | apply below_drew1 | refine below_set ?_ GE101.out) | exact HB.out)⟩⟩
            rw [if_neg c51] at H
            have c51b0 : decide (t124 < 0) = false := decide_eq_false c51
            clear c51
            have H' := Aside0.mk H
            clear H
            go_wp2
            repeat (go_quiet (fail); try go_wp2)
            go_meet
            case rel => exact ⟨_, (decide (t124 > 1000)), (by first | rfl | (simp; done) | (simp [*]; done)), H', ⟨by have := HJ13.out; have := HJ25.out; first | omega | exact Nat.le_refl _⟩, ⟨bkU BK101⟩, ⟨by repeat (first | (with_reducible first | exact HB.out | apply below_alloc | apply pw_below_drewN | apply below_drew1 | refine below_set ?_ GE101.out) | exact HB.out)⟩⟩
          case rest =>
            clear HC47
            try clear c1
            try clear p1
            try clear q1
            try clear hx1
            try clear c2
            try clear p2
            try clear c3
            try clear c4
            try clear c5
            try clear p6
            try clear c11
            try clear p12
            try clear q12
            try clear hx12
            try clear c22
            try clear c22b0
            try clear c22b1
            try clear c23
            try clear c23b0
            try clear c23b1
            try clear c24
            try clear c24b0
            try clear c24b1
            try clear c25
            try clear c27
            try clear c27b0
            try clear c27b1
            try clear c28
            try clear c28b0
            try clear c29
            try clear c29b0
            try clear c30
            try clear c30b0
            try clear c31
            try clear c31b0
            try clear c32
            try clear c32b0
            try clear c33
            try clear c33b0
            try clear c34
            try clear c34b0
            try clear c35
            try clear c35b0
            try clear c36
            try clear c36b0
            try clear c37
            try clear c37b0
            try clear c38
            try clear c38b0
            try clear c39
            try clear c39b0
            try clear c45
            try clear c45b0
            try clear c45b1
            try clear c50
            try clear c50b0
            try clear c50b1
            try clear c51
            try clear c51b0
            try clear hcz17_0
            try clear hcz17_1
            try clear hfz17_0
            try clear hfz17_1
            try clear hx120_0
            try clear hx121_0
            try clear hx122_0
            try clear hx123_0
            try clear p1
            try clear p12
            try clear p120
            try clear p121
            try clear p122
            try clear p123
            try clear p2
            try clear p6
            try clear q1
            try clear q12
            try clear q120
            try clear q121
            try clear q122
            try clear q123
            obtain ⟨kq, x189_46, rfl, HA, HJ46, BK101, HB⟩ := hcut
            cases kq with
            | zero => exact absurd HA.out (by simp [dropperlaw02_WireSlopes.j3])
            | succ kj46 =>
              have H := HA.out
              clear HA
              simp only [dropperlaw02_WireSlopes.j3] at H
              by_cases c52 : x189_46 = true
              · subst c52
                have H1 : (some false) = some r := by rw [if_pos rfl] at H; exact H
                clear H
                have H := H1
                clear H1
                exact absurd (hT.symm.trans (Option.some.inj H).symm) (by decide)
              replace c52 := Bool.eq_false_iff.mpr c52
              subst c52
              have H1 : (if t124 = 0 then ((dropperlaw02_Awake.f kj46).bind fun t134 => (some t134)) else ((wire_Lowest.f kj46 l0 (wrap64 (t124 - 1)) (wrap64 (1 + (Int.tmod (wrap64 (a2)) 1000)))).bind fun bt135 => (if bt135.2 = 5 then ((dropperlaw02_Awake.f kj46).bind fun t139 => (some t139)) else (some false)))) = some r := by rw [if_neg (show ¬ (false = true) by decide)] at H; exact H
              clear H
              have H := H1
              clear H1
              by_cases c53 : t124 = 0
              · rw [if_pos c53] at H
                have c53b0 : (t124 == 0) = true := beq_iff_eq.mpr c53
                have c53b1 : (t124 != 0) = false := bne_eq_false_iff_eq.mpr c53
                clear c53
                replace H := Option.bind_eq_some_iff.mp H
                obtain ⟨t134, A540, H⟩ := H
                replace H : (some t134) = some r := H
                have A54 := Aside0.mk A540
                clear A540
                clear hT
                obtain rfl := Option.some.inj H
                go_wp2_with (first | (go_at_call 14; (with_reducible refine (dropperlaw02_Awake.calls kj46  t134 _ A54.out).mono ?_); rintro e w55 ⟨rfl, hb⟩; have n0_ := Aside0.mk (bkB BK101 hb); have n1_ := Aside0.mk (below_step (by repeat (first | (with_reducible first | exact HB.out | apply below_alloc | apply pw_below_drewN | apply below_drew1 | refine below_set ?_ GE101.out) | exact HB.out)) hb); clear BK101; clear HB; have BK101 := n0_; have HB := n1_; clear n0_ n1_; (try clear hb); (try clear hb2); (try clear hk); (try clear hi)))
                repeat (go_quiet (first | (go_at_call 14; (with_reducible refine (dropperlaw02_Awake.calls kj46  t134 _ A54.out).mono ?_); rintro e w55 ⟨rfl, hb⟩; have n0_ := Aside0.mk (bkB BK101 hb); have n1_ := Aside0.mk (below_step (by repeat (first | (with_reducible first | exact HB.out | apply below_alloc | apply pw_below_drewN | apply below_drew1 | refine below_set ?_ GE101.out) | exact HB.out)) hb); clear BK101; clear HB; have BK101 := n0_; have HB := n1_; clear n0_ n1_; (try clear hb); (try clear hb2); (try clear hk); (try clear hi))); try go_wp2_with (first | (go_at_call 14; (with_reducible refine (dropperlaw02_Awake.calls kj46  t134 _ A54.out).mono ?_); rintro e w55 ⟨rfl, hb⟩; have n0_ := Aside0.mk (bkB BK101 hb); have n1_ := Aside0.mk (below_step (by repeat (first | (with_reducible first | exact HB.out | apply below_alloc | apply pw_below_drewN | apply below_drew1 | refine below_set ?_ GE101.out) | exact HB.out)) hb); clear BK101; clear HB; have BK101 := n0_; have HB := n1_; clear n0_ n1_; (try clear hb); (try clear hb2); (try clear hk); (try clear hi))))
                go_ret
                exact ⟨by first | rfl | (simp [errW_none, errW_some] <;> rfl) | (simp only [← hji6, ← hji7, ← hji8, ← hji9]; first | rfl | (simp [errW_none, errW_some] <;> rfl)) | (simp [*, errW_none, errW_some] <;> rfl), by repeat (first | (with_reducible first | exact HB.out | apply below_alloc | apply pw_below_drewN | apply below_drew1 | refine below_set ?_ GE101.out) | exact HB.out)⟩
              rw [if_neg c53] at H
              have c53b0 : (t124 == 0) = false := beq_eq_false_iff_ne.mpr c53
              have c53b1 : (t124 != 0) = true := bne_iff_ne.mpr c53
              replace H := Option.bind_eq_some_iff.mp H
              obtain ⟨⟨t135, t136⟩, A560, H⟩ := H
              replace H : (if t136 = 5 then ((dropperlaw02_Awake.f kj46).bind fun t139 => (some t139)) else (some false)) = some r := H
              have A56 := Aside0.mk A560
              clear A560
              by_cases c57 : t136 = 5
              rotate_left
              · rw [if_neg c57] at H
                have c57b0 : (t136 == 5) = false := beq_eq_false_iff_ne.mpr c57
                have c57b1 : (t136 != 5) = true := bne_iff_ne.mpr c57
                exact absurd (hT.symm.trans (Option.some.inj H).symm) (by decide)
              rw [if_pos c57] at H
              have c57b0 : (t136 == 5) = true := beq_iff_eq.mpr c57
              have c57b1 : (t136 != 5) = false := bne_eq_false_iff_eq.mpr c57
              clear c57
              replace H := Option.bind_eq_some_iff.mp H
              obtain ⟨t139, A580, H⟩ := H
              replace H : (some t139) = some r := H
              have A58 := Aside0.mk A580
              clear A580
              clear hT
              obtain rfl := Option.some.inj H
              go_wp2_with (first | (go_at_call 21; (with_reducible refine (wire_Lowest.calls kj46 _ _ l0 (wrap64 (t124 - 1)) (wrap64 (1 + (Int.tmod (wrap64 (a2)) 1000))) t135 t136 _ ?side1 ?side2 A56.out).mono ?_); (case side1 => repeat (first | exact (Kd.C_below HR0.out HB.out) | (with_reducible refine Kd.C_alloc ?_ _) | (with_reducible refine Kd.C_drewN ?_ _) | (with_reducible refine Kd.C_drew ?_))); (case side2 => exact HC0.out); rintro e w59 ⟨v137, rfl, ho0, hb⟩; have n0_ := Aside0.mk (Kd.R_lower ho0 (below_size (by repeat (first | (with_reducible first | exact HB.out | apply below_alloc | apply pw_below_drewN | apply below_drew1 | refine below_set ?_ GE101.out) | exact HB.out)))); have n1_ := Aside0.mk (bkB BK101 hb); have n2_ := Aside0.mk (below_step (by repeat (first | (with_reducible first | exact HB.out | apply below_alloc | apply pw_below_drewN | apply below_drew1 | refine below_set ?_ GE101.out) | exact HB.out)) hb); clear BK101; clear HB; have HO138 := n0_; have BK101 := n1_; have HB := n2_; clear n0_ n1_ n2_; (try clear hb); (try clear hb2); (try clear hk); (try clear hi); (try clear ho0)) | (go_at_call 14; (with_reducible refine (dropperlaw02_Awake.calls kj46  t139 _ A58.out).mono ?_); rintro e w60 ⟨rfl, hb⟩; have n0_ := Aside0.mk (Kd.R_below (by (with_reducible repeat (first | apply Kd.R_alloc | apply Kd.R_drewN | apply Kd.R_drew)); exact HO138.out) hb); have n1_ := Aside0.mk (bkB BK101 hb); have n2_ := Aside0.mk (below_step (by repeat (first | (with_reducible first | exact HB.out | apply below_alloc | apply pw_below_drewN | apply below_drew1 | refine below_set ?_ GE101.out) | exact HB.out)) hb); clear HO138; clear BK101; clear HB; have HO138 := n0_; have BK101 := n1_; have HB := n2_; clear n0_ n1_ n2_; (try clear hb); (try clear hb2); (try clear hk); (try clear hi)))
              repeat (go_quiet (first | (go_at_call 21; (with_reducible refine (wire_Lowest.calls kj46 _ _ l0 (wrap64 (t124 - 1)) (wrap64 (1 + (Int.tmod (wrap64 (a2)) 1000))) t135 t136 _ ?side1 ?side2 A56.out).mono ?_); (case side1 => repeat (first | exact (Kd.C_below HR0.out HB.out) | (with_reducible refine Kd.C_alloc ?_ _) | (with_reducible refine Kd.C_drewN ?_ _) | (with_reducible refine Kd.C_drew ?_))); (case side2 => exact HC0.out); rintro e w59 ⟨v137, rfl, ho0, hb⟩; have n0_ := Aside0.mk (Kd.R_lower ho0 (below_size (by repeat (first | (with_reducible first | exact HB.out | apply below_alloc | apply pw_below_drewN | apply below_drew1 | refine below_set ?_ GE101.out) | exact HB.out)))); have n1_ := Aside0.mk (bkB BK101 hb); have n2_ := Aside0.mk (below_step (by repeat (first | (with_reducible first | exact HB.out | apply below_alloc | apply pw_below_drewN | apply below_drew1 | refine below_set ?_ GE101.out) | exact HB.out)) hb); clear BK101; clear HB; have HO138 := n0_; have BK101 := n1_; have HB := n2_; clear n0_ n1_ n2_; (try clear hb); (try clear hb2); (try clear hk); (try clear hi); (try clear ho0)) | (go_at_call 14; (with_reducible refine (dropperlaw02_Awake.calls kj46  t139 _ A58.out).mono ?_); rintro e w60 ⟨rfl, hb⟩; have n0_ := Aside0.mk (Kd.R_below (by (with_reducible repeat (first | apply Kd.R_alloc | apply Kd.R_drewN | apply Kd.R_drew)); exact HO138.out) hb); have n1_ := Aside0.mk (bkB BK101 hb); have n2_ := Aside0.mk (below_step (by repeat (first | (with_reducible first | exact HB.out | apply below_alloc | apply pw_below_drewN | apply below_drew1 | refine below_set ?_ GE101.out) | exact HB.out)) hb); clear HO138; clear BK101; clear HB; have HO138 := n0_; have BK101 := n1_; have HB := n2_; clear n0_ n1_ n2_; (try clear hb); (try clear hb2); (try clear hk); (try clear hi))); try go_wp2_with (first | (go_at_call 21; (with_reducible refine (wire_Lowest.calls kj46 _ _ l0 (wrap64 (t124 - 1)) (wrap64 (1 + (Int.tmod (wrap64 (a2)) 1000))) t135 t136 _ ?side1 ?side2 A56.out).mono ?_); (case side1 => repeat (first | exact (Kd.C_below HR0.out HB.out) | (with_reducible refine Kd.C_alloc ?_ _) | (with_reducible refine Kd.C_drewN ?_ _) | (with_reducible refine Kd.C_drew ?_))); (case side2 => exact HC0.out); rintro e w59 ⟨v137, rfl, ho0, hb⟩; have n0_ := Aside0.mk (Kd.R_lower ho0 (below_size (by repeat (first | (with_reducible first | exact HB.out | apply below_alloc | apply pw_below_drewN | apply below_drew1 | refine below_set ?_ GE101.out) | exact HB.out)))); have n1_ := Aside0.mk (bkB BK101 hb); have n2_ := Aside0.mk (below_step (by repeat (first | (with_reducible first | exact HB.out | apply below_alloc | apply pw_below_drewN | apply below_drew1 | refine below_set ?_ GE101.out) | exact HB.out)) hb); clear BK101; clear HB; have HO138 := n0_; have BK101 := n1_; have HB := n2_; clear n0_ n1_ n2_; (try clear hb); (try clear hb2); (try clear hk); (try clear hi); (try clear ho0)) | (go_at_call 14; (with_reducible refine (dropperlaw02_Awake.calls kj46  t139 _ A58.out).mono ?_); rintro e w60 ⟨rfl, hb⟩; have n0_ := Aside0.mk (Kd.R_below (by (with_reducible repeat (first | apply Kd.R_alloc | apply Kd.R_drewN | apply Kd.R_drew)); exact HO138.out) hb); have n1_ := Aside0.mk (bkB BK101 hb); have n2_ := Aside0.mk (below_step (by repeat (first | (with_reducible first | exact HB.out | apply below_alloc | apply pw_below_drewN | apply below_drew1 | refine below_set ?_ GE101.out) | exact HB.out)) hb); clear HO138; clear BK101; clear HB; have HO138 := n0_; have BK101 := n1_; have HB := n2_; clear n0_ n1_ n2_; (try clear hb); (try clear hb2); (try clear hk); (try clear hi))))
              go_ret
              exact ⟨by first | rfl | (simp [errW_none, errW_some] <;> rfl) | (simp only [← hji6, ← hji7, ← hji8, ← hji9]; first | rfl | (simp [errW_none, errW_some] <;> rfl)) | (simp [*, errW_none, errW_some] <;> rfl), by repeat (first | (with_reducible first | exact HB.out | apply below_alloc | apply pw_below_drewN | apply below_drew1 | refine below_set ?_ GE101.out) | exact HB.out)⟩
end Go.Proofs.Ytciepmpadcpkbaa.G
