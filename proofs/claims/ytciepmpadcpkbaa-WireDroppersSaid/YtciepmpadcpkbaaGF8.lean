-- Written by this session's driver (wip/tools/printmore.py) over the kit's print, with hand-written parts.
import Derived.Test.YtciepmpadcpkbaaGBase
import Derived.Test.YtciepmpadcpkbaaGQ55
import Derived.Test.YtciepmpadcpkbaaGF32
import Derived.Test.YtciepmpadcpkbaaGF14
import Derived.Test.YtciepmpadcpkbaaGF34
import Derived.Test.YtciepmpadcpkbaaGF36
namespace Go.Proofs.Ytciepmpadcpkbaa.G
open Go.RowKit Go.Proofs.YtciepmpadcpkbaaW.PrintWords Go.Proofs.YtciepmpadcpkbaaW.PrintLast Go.Proofs.YtciepmpadcpkbaaW.PrintMore
attribute [local go_sem] max2_int min2_int max_two min_two max_three min_three max_four min_four   -- for this text's walks alone
set_option linter.unusedVariables false
set_option linter.unusedSimpArgs false

attribute [local go_sem high] eqA55
/-! ### dropperlaw02_WireDroppers: function 8 -/
mutual
def dropperlaw02_WireDroppers.j0 : Nat → Int → Int → Int → Bool → Int → Int → Int → Int → Option (Bool)
  | 0, _, _, _, _, _, _, _, _ => none
  | k + 1, x7, x8, x9, x87, x103000, x103001, x107000, x107001 => if x87 = true then (some false) else ((wire_Sag.f k x7 x8 x9).bind fun bt115 => (if bt115.2.2 = 0 then (dropperlaw02_WireDroppers.j1 k x7 x8 x9 (decide ((wrap64 (x107000 * bt115.2.1)) > (wrap64 (bt115.1 * x107001)))) x103000 x103001 bt115.1 bt115.2.1) else (dropperlaw02_WireDroppers.j1 k x7 x8 x9 true x103000 x103001 bt115.1 bt115.2.1)))
def dropperlaw02_WireDroppers.j1 : Nat → Int → Int → Int → Bool → Int → Int → Int → Int → Option (Bool)
  | 0, _, _, _, _, _, _, _, _ => none
  | k + 1, x7, x8, x9, x109, x103000, x103001, x119000, x119001 => if x109 = true then (some false) else (if (Int.tmod x8 2) = 0 then ((wire_Drop.f k x7 x8 x9 (wrap64 (Int.tdiv x8 2))).bind fun bt119 => (if bt119.2.2 = 0 then (if (!(bt119.1 == x119000) || (!(bt119.2.1 == x119001))) = true then (some false) else (dropperlaw02_WireDroppers.j2 k x7 x8 x9 x103000 x103001)) else (some false))) else (dropperlaw02_WireDroppers.j2 k x7 x8 x9 x103000 x103001))
def dropperlaw02_WireDroppers.j2 : Nat → Int → Int → Int → Int → Int → Option (Bool)
  | 0, _, _, _, _, _ => none
  | k + 1, x7, x8, x9, x103000, x103001 => (wire_Droppers.f k x7 x8 x9 (Int.tmod (wrap64 (x103000)) 10001) (Int.tmod (wrap64 (x103001)) 21)).bind fun bt123 => (if bt123.2 = 0 then (dropperlaw02_WireDroppers.l0 k (Int.tmod (wrap64 (x103000)) 10001) (Int.tmod (wrap64 (x103001)) 21) bt123.1 0) else (if bt123.2 = 5 then (if (Int.tmod (wrap64 (x103001)) 21) > 0 then (if (bt123.1.length : Int) = 0 then ((dropperlaw02_Awake.f k).bind fun t127 => (some t127)) else (some false)) else (some false)) else (some false)))
def dropperlaw02_WireDroppers.l0 : Nat → Int → Int → List (S55) → Int → Option (Bool)
  | 0, _, _, _, _ => none
  | k + 1, x20, x21, x22, x23 => if x23 < (x22.length : Int) then (if 0 ≤ x23 then (if 0 ≤ (wrap64 ((wrap64 ((x22.length : Int) - 1)) - x23)) then (if (wrap64 ((wrap64 ((x22.length : Int) - 1)) - x23)) < (x22.length : Int) then (if (!(((rd_T55 x22 x23).f0) == ((rd_T55 x22 (wrap64 ((wrap64 ((x22.length : Int) - 1)) - x23))).f0)) || (!(((rd_T55 x22 x23).f1) == ((rd_T55 x22 (wrap64 ((wrap64 ((x22.length : Int) - 1)) - x23))).f1)))) = true then (some false) else (if ((rd_T55 x22 x23).f0) < 1 then (some false) else (if ((rd_T55 x22 x23).f0) > (wrap64 (x20 * ((rd_T55 x22 x23).f1))) then (some false) else (dropperlaw02_WireDroppers.l0 k x20 x21 x22 (wrap64 (x23 + 1)))))) else (none)) else (none)) else (none)) else (if (x22.length : Int) = x21 then ((dropperlaw02_Awake.f k).bind fun t133 => (some t133)) else (some false))
end
def dropperlaw02_WireDroppers.f (k : Nat) (a0_0 : Int) (a0_1 : Int) (a0_2 : Int) (a1 : Int) (a2_0 : Int) (a2_1 : Int) : Option (Bool) := if (wrap64 ((wrap64 (1 + (Int.tmod (wrap64 (a0_1)) 100))) + 1)) = 0 then (none) else ((wire_Drop.f k (wrap64 (1 + (Int.tmod (wrap64 (a0_0)) 1000))) (wrap64 (1 + (Int.tmod (wrap64 (a0_1)) 100))) (wrap64 (1 + (wrap64 (a0_2)))) (Int.tmod (wrap64 (a1)) (wrap64 ((wrap64 (1 + (Int.tmod (wrap64 (a0_1)) 100))) + 1)))).bind fun bt103 => ((wire_Drop.f k (wrap64 (1 + (Int.tmod (wrap64 (a0_0)) 1000))) (wrap64 (1 + (Int.tmod (wrap64 (a0_1)) 100))) (wrap64 (1 + (wrap64 (a0_2)))) (wrap64 ((wrap64 (1 + (Int.tmod (wrap64 (a0_1)) 100))) - (Int.tmod (wrap64 (a1)) (wrap64 ((wrap64 (1 + (Int.tmod (wrap64 (a0_1)) 100))) + 1)))))).bind fun bt107 => ((wire_Drop.f k (wrap64 (1 + (Int.tmod (wrap64 (a0_0)) 1000))) (wrap64 (1 + (Int.tmod (wrap64 (a0_1)) 100))) (wrap64 (1 + (wrap64 (a0_2)))) 0).bind fun bt111 => (if bt103.2.2 = 0 then (if bt107.2.2 = 0 then (if bt111.2.2 = 0 then (if (!(bt103.1 == bt107.1) || (!(bt103.2.1 == bt107.2.1))) = true then (dropperlaw02_WireDroppers.j0 k (wrap64 (1 + (Int.tmod (wrap64 (a0_0)) 1000))) (wrap64 (1 + (Int.tmod (wrap64 (a0_1)) 100))) (wrap64 (1 + (wrap64 (a0_2)))) true a2_0 a2_1 bt103.1 bt103.2.1) else (dropperlaw02_WireDroppers.j0 k (wrap64 (1 + (Int.tmod (wrap64 (a0_0)) 1000))) (wrap64 (1 + (Int.tmod (wrap64 (a0_1)) 100))) (wrap64 (1 + (wrap64 (a0_2)))) (!(bt111.1 == 0) || (!(bt111.2.1 == 1))) a2_0 a2_1 bt103.1 bt103.2.1)) else (dropperlaw02_WireDroppers.j0 k (wrap64 (1 + (Int.tmod (wrap64 (a0_0)) 1000))) (wrap64 (1 + (Int.tmod (wrap64 (a0_1)) 100))) (wrap64 (1 + (wrap64 (a0_2)))) true a2_0 a2_1 bt103.1 bt103.2.1)) else (dropperlaw02_WireDroppers.j0 k (wrap64 (1 + (Int.tmod (wrap64 (a0_0)) 1000))) (wrap64 (1 + (Int.tmod (wrap64 (a0_1)) 100))) (wrap64 (1 + (wrap64 (a0_2)))) true a2_0 a2_1 bt103.1 bt103.2.1)) else (dropperlaw02_WireDroppers.j0 k (wrap64 (1 + (Int.tmod (wrap64 (a0_0)) 1000))) (wrap64 (1 + (Int.tmod (wrap64 (a0_1)) 100))) (wrap64 (1 + (wrap64 (a0_2)))) true a2_0 a2_1 bt103.1 bt103.2.1)))))
theorem dropperlaw02_WireDroppers.mono_l : ∀ k, (∀ y0 y1 y2 y3 y4 y5 y6 y7, LeO (dropperlaw02_WireDroppers.j0 k y0 y1 y2 y3 y4 y5 y6 y7) (dropperlaw02_WireDroppers.j0 (k + 1) y0 y1 y2 y3 y4 y5 y6 y7)) ∧ (∀ y0 y1 y2 y3 y4 y5 y6 y7, LeO (dropperlaw02_WireDroppers.j1 k y0 y1 y2 y3 y4 y5 y6 y7) (dropperlaw02_WireDroppers.j1 (k + 1) y0 y1 y2 y3 y4 y5 y6 y7)) ∧ (∀ y0 y1 y2 y3 y4, LeO (dropperlaw02_WireDroppers.j2 k y0 y1 y2 y3 y4) (dropperlaw02_WireDroppers.j2 (k + 1) y0 y1 y2 y3 y4)) ∧ (∀ y0 y1 y2 y3, LeO (dropperlaw02_WireDroppers.l0 k y0 y1 y2 y3) (dropperlaw02_WireDroppers.l0 (k + 1) y0 y1 y2 y3))
  | 0 => ⟨fun _ _ _ _ _ _ _ _ r h => by simp [dropperlaw02_WireDroppers.j0] at h, fun _ _ _ _ _ _ _ _ r h => by simp [dropperlaw02_WireDroppers.j1] at h, fun _ _ _ _ _ r h => by simp [dropperlaw02_WireDroppers.j2] at h, fun _ _ _ _ r h => by simp [dropperlaw02_WireDroppers.l0] at h⟩
  | k + 1 => by
    obtain ⟨ih0, ih1, ih2, ih3⟩ := dropperlaw02_WireDroppers.mono_l k
    refine ⟨?_, ?_, ?_, ?_⟩
    · intro y0 y1 y2 y3 y4 y5 y6 y7
      unfold dropperlaw02_WireDroppers.j0
      repeat' first
      | (with_reducible exact ih0 _ _ _ _ _ _ _ _)
      | (with_reducible exact ih1 _ _ _ _ _ _ _ _)
      | (with_reducible exact ih2 _ _ _ _ _)
      | (with_reducible exact ih3 _ _ _ _)
      | (with_reducible exact dropperlaw02_Awake.mono _)
      | (with_reducible exact wire_Drop.mono _ _ _ _ _)
      | (with_reducible exact wire_Droppers.mono _ _ _ _ _ _)
      | (with_reducible exact wire_Sag.mono _ _ _ _)
      | (with_reducible exact LeO.refl _)
      | (with_reducible exact LeO.none _)
      | (with_reducible refine LeO.ite ?_ ?_)
      | (with_reducible refine LeO.bind ?_ (fun _ => ?_))
      | exact ih0 _ _ _ _ _ _ _ _
      | exact ih1 _ _ _ _ _ _ _ _
      | exact ih2 _ _ _ _ _
      | exact ih3 _ _ _ _
      | exact dropperlaw02_Awake.mono _
      | exact wire_Drop.mono _ _ _ _ _
      | exact wire_Droppers.mono _ _ _ _ _ _
      | exact wire_Sag.mono _ _ _ _
      | exact LeO.none _
      | refine LeO.ite ?_ ?_
      | refine LeO.bind ?_ (fun _ => ?_)
    · intro y0 y1 y2 y3 y4 y5 y6 y7
      unfold dropperlaw02_WireDroppers.j1
      repeat' first
      | (with_reducible exact ih0 _ _ _ _ _ _ _ _)
      | (with_reducible exact ih1 _ _ _ _ _ _ _ _)
      | (with_reducible exact ih2 _ _ _ _ _)
      | (with_reducible exact ih3 _ _ _ _)
      | (with_reducible exact dropperlaw02_Awake.mono _)
      | (with_reducible exact wire_Drop.mono _ _ _ _ _)
      | (with_reducible exact wire_Droppers.mono _ _ _ _ _ _)
      | (with_reducible exact wire_Sag.mono _ _ _ _)
      | (with_reducible exact LeO.refl _)
      | (with_reducible exact LeO.none _)
      | (with_reducible refine LeO.ite ?_ ?_)
      | (with_reducible refine LeO.bind ?_ (fun _ => ?_))
      | exact ih0 _ _ _ _ _ _ _ _
      | exact ih1 _ _ _ _ _ _ _ _
      | exact ih2 _ _ _ _ _
      | exact ih3 _ _ _ _
      | exact dropperlaw02_Awake.mono _
      | exact wire_Drop.mono _ _ _ _ _
      | exact wire_Droppers.mono _ _ _ _ _ _
      | exact wire_Sag.mono _ _ _ _
      | exact LeO.none _
      | refine LeO.ite ?_ ?_
      | refine LeO.bind ?_ (fun _ => ?_)
    · intro y0 y1 y2 y3 y4
      unfold dropperlaw02_WireDroppers.j2
      repeat' first
      | (with_reducible exact ih0 _ _ _ _ _ _ _ _)
      | (with_reducible exact ih1 _ _ _ _ _ _ _ _)
      | (with_reducible exact ih2 _ _ _ _ _)
      | (with_reducible exact ih3 _ _ _ _)
      | (with_reducible exact dropperlaw02_Awake.mono _)
      | (with_reducible exact wire_Drop.mono _ _ _ _ _)
      | (with_reducible exact wire_Droppers.mono _ _ _ _ _ _)
      | (with_reducible exact wire_Sag.mono _ _ _ _)
      | (with_reducible exact LeO.refl _)
      | (with_reducible exact LeO.none _)
      | (with_reducible refine LeO.ite ?_ ?_)
      | (with_reducible refine LeO.bind ?_ (fun _ => ?_))
      | exact ih0 _ _ _ _ _ _ _ _
      | exact ih1 _ _ _ _ _ _ _ _
      | exact ih2 _ _ _ _ _
      | exact ih3 _ _ _ _
      | exact dropperlaw02_Awake.mono _
      | exact wire_Drop.mono _ _ _ _ _
      | exact wire_Droppers.mono _ _ _ _ _ _
      | exact wire_Sag.mono _ _ _ _
      | exact LeO.none _
      | refine LeO.ite ?_ ?_
      | refine LeO.bind ?_ (fun _ => ?_)
    · intro y0 y1 y2 y3
      unfold dropperlaw02_WireDroppers.l0
      repeat' first
      | (with_reducible exact ih0 _ _ _ _ _ _ _ _)
      | (with_reducible exact ih1 _ _ _ _ _ _ _ _)
      | (with_reducible exact ih2 _ _ _ _ _)
      | (with_reducible exact ih3 _ _ _ _)
      | (with_reducible exact dropperlaw02_Awake.mono _)
      | (with_reducible exact wire_Drop.mono _ _ _ _ _)
      | (with_reducible exact wire_Droppers.mono _ _ _ _ _ _)
      | (with_reducible exact wire_Sag.mono _ _ _ _)
      | (with_reducible exact LeO.refl _)
      | (with_reducible exact LeO.none _)
      | (with_reducible refine LeO.ite ?_ ?_)
      | (with_reducible refine LeO.bind ?_ (fun _ => ?_))
      | exact ih0 _ _ _ _ _ _ _ _
      | exact ih1 _ _ _ _ _ _ _ _
      | exact ih2 _ _ _ _ _
      | exact ih3 _ _ _ _
      | exact dropperlaw02_Awake.mono _
      | exact wire_Drop.mono _ _ _ _ _
      | exact wire_Droppers.mono _ _ _ _ _ _
      | exact wire_Sag.mono _ _ _ _
      | exact LeO.none _
      | refine LeO.ite ?_ ?_
      | refine LeO.bind ?_ (fun _ => ?_)
theorem dropperlaw02_WireDroppers.mono : ∀ a0 a1 a2 a3 a4 a5 k, LeO (dropperlaw02_WireDroppers.f k a0 a1 a2 a3 a4 a5) (dropperlaw02_WireDroppers.f (k + 1) a0 a1 a2 a3 a4 a5) := by
  intro a0 a1 a2 a3 a4 a5 k
  obtain ⟨ih0, ih1, ih2, ih3⟩ := dropperlaw02_WireDroppers.mono_l k
  unfold dropperlaw02_WireDroppers.f
  repeat' first
      | (with_reducible exact ih0 _ _ _ _ _ _ _ _)
      | (with_reducible exact ih1 _ _ _ _ _ _ _ _)
      | (with_reducible exact ih2 _ _ _ _ _)
      | (with_reducible exact ih3 _ _ _ _)
      | (with_reducible exact dropperlaw02_Awake.mono _)
      | (with_reducible exact wire_Drop.mono _ _ _ _ _)
      | (with_reducible exact wire_Droppers.mono _ _ _ _ _ _)
      | (with_reducible exact wire_Sag.mono _ _ _ _)
      | (with_reducible exact LeO.refl _)
      | (with_reducible exact LeO.none _)
      | (with_reducible refine LeO.ite ?_ ?_)
      | (with_reducible refine LeO.bind ?_ (fun _ => ?_))
      | exact ih0 _ _ _ _ _ _ _ _
      | exact ih1 _ _ _ _ _ _ _ _
      | exact ih2 _ _ _ _ _
      | exact ih3 _ _ _ _
      | exact dropperlaw02_Awake.mono _
      | exact wire_Drop.mono _ _ _ _ _
      | exact wire_Droppers.mono _ _ _ _ _ _
      | exact wire_Sag.mono _ _ _ _
      | exact LeO.none _
      | refine LeO.ite ?_ ?_
      | refine LeO.bind ?_ (fun _ => ?_)
set_option maxHeartbeats 8000000 in
set_option maxRecDepth 100000 in
theorem dropperlaw02_WireDroppers.calls (k : Nat) (a0_0 : Int) (a0_1 : Int) (a0_2 : Int) (a1 : Int) (a2_0 : Int) (a2_1 : Int) (r : Bool) (w : World) (h : dropperlaw02_WireDroppers.f k a0_0 a0_1 a0_2 a1 a2_0 a2_1 = some r) (hT : r = true) :
    Calls Try.prog 8 #[.agg #[.int .u16 a0_0, .int .u16 a0_1, .int .u16 a0_2], .int .u8 a1, .agg #[.int .u16 a2_0, .int .u16 a2_1]] w fun e w' => e = .returned (.bool r) ∧ Below w.heap.size w w' := by
  have hu65 := Try.underlying65
  have hu66 := Try.underlying66
  have hu55 := Try.underlying55
  have HB := Aside0.mk (Below.refl w.heap.size w)
  have H : (if (wrap64 ((wrap64 (1 + (Int.tmod (wrap64 (a0_1)) 100))) + 1)) = 0 then (none) else ((wire_Drop.f k (wrap64 (1 + (Int.tmod (wrap64 (a0_0)) 1000))) (wrap64 (1 + (Int.tmod (wrap64 (a0_1)) 100))) (wrap64 (1 + (wrap64 (a0_2)))) (Int.tmod (wrap64 (a1)) (wrap64 ((wrap64 (1 + (Int.tmod (wrap64 (a0_1)) 100))) + 1)))).bind fun bt103 => ((wire_Drop.f k (wrap64 (1 + (Int.tmod (wrap64 (a0_0)) 1000))) (wrap64 (1 + (Int.tmod (wrap64 (a0_1)) 100))) (wrap64 (1 + (wrap64 (a0_2)))) (wrap64 ((wrap64 (1 + (Int.tmod (wrap64 (a0_1)) 100))) - (Int.tmod (wrap64 (a1)) (wrap64 ((wrap64 (1 + (Int.tmod (wrap64 (a0_1)) 100))) + 1)))))).bind fun bt107 => ((wire_Drop.f k (wrap64 (1 + (Int.tmod (wrap64 (a0_0)) 1000))) (wrap64 (1 + (Int.tmod (wrap64 (a0_1)) 100))) (wrap64 (1 + (wrap64 (a0_2)))) 0).bind fun bt111 => (if bt103.2.2 = 0 then (if bt107.2.2 = 0 then (if bt111.2.2 = 0 then (if (!(bt103.1 == bt107.1) || (!(bt103.2.1 == bt107.2.1))) = true then (dropperlaw02_WireDroppers.j0 k (wrap64 (1 + (Int.tmod (wrap64 (a0_0)) 1000))) (wrap64 (1 + (Int.tmod (wrap64 (a0_1)) 100))) (wrap64 (1 + (wrap64 (a0_2)))) true a2_0 a2_1 bt103.1 bt103.2.1) else (dropperlaw02_WireDroppers.j0 k (wrap64 (1 + (Int.tmod (wrap64 (a0_0)) 1000))) (wrap64 (1 + (Int.tmod (wrap64 (a0_1)) 100))) (wrap64 (1 + (wrap64 (a0_2)))) (!(bt111.1 == 0) || (!(bt111.2.1 == 1))) a2_0 a2_1 bt103.1 bt103.2.1)) else (dropperlaw02_WireDroppers.j0 k (wrap64 (1 + (Int.tmod (wrap64 (a0_0)) 1000))) (wrap64 (1 + (Int.tmod (wrap64 (a0_1)) 100))) (wrap64 (1 + (wrap64 (a0_2)))) true a2_0 a2_1 bt103.1 bt103.2.1)) else (dropperlaw02_WireDroppers.j0 k (wrap64 (1 + (Int.tmod (wrap64 (a0_0)) 1000))) (wrap64 (1 + (Int.tmod (wrap64 (a0_1)) 100))) (wrap64 (1 + (wrap64 (a0_2)))) true a2_0 a2_1 bt103.1 bt103.2.1)) else (dropperlaw02_WireDroppers.j0 k (wrap64 (1 + (Int.tmod (wrap64 (a0_0)) 1000))) (wrap64 (1 + (Int.tmod (wrap64 (a0_1)) 100))) (wrap64 (1 + (wrap64 (a0_2)))) true a2_0 a2_1 bt103.1 bt103.2.1)))))) = some r := h
  clear h
  by_cases c4 : (wrap64 ((wrap64 (1 + (Int.tmod (wrap64 (a0_1)) 100))) + 1)) = 0
  · rw [if_pos c4] at H
    exact absurd H (by simp)
  rw [if_neg c4] at H
  have c4b0 : ((wrap64 ((wrap64 (1 + (Int.tmod (wrap64 (a0_1)) 100))) + 1)) == 0) = false := beq_eq_false_iff_ne.mpr c4
  have c4b1 : ((wrap64 ((wrap64 (1 + (Int.tmod (wrap64 (a0_1)) 100))) + 1)) != 0) = true := bne_iff_ne.mpr c4
  replace H := Option.bind_eq_some_iff.mp H
  obtain ⟨⟨t103, t104, t105⟩, A50, H⟩ := H
  replace H : ((wire_Drop.f k (wrap64 (1 + (Int.tmod (wrap64 (a0_0)) 1000))) (wrap64 (1 + (Int.tmod (wrap64 (a0_1)) 100))) (wrap64 (1 + (wrap64 (a0_2)))) (wrap64 ((wrap64 (1 + (Int.tmod (wrap64 (a0_1)) 100))) - (Int.tmod (wrap64 (a1)) (wrap64 ((wrap64 (1 + (Int.tmod (wrap64 (a0_1)) 100))) + 1)))))).bind fun bt107 => ((wire_Drop.f k (wrap64 (1 + (Int.tmod (wrap64 (a0_0)) 1000))) (wrap64 (1 + (Int.tmod (wrap64 (a0_1)) 100))) (wrap64 (1 + (wrap64 (a0_2)))) 0).bind fun bt111 => (if t105 = 0 then (if bt107.2.2 = 0 then (if bt111.2.2 = 0 then (if (!(t103 == bt107.1) || (!(t104 == bt107.2.1))) = true then (dropperlaw02_WireDroppers.j0 k (wrap64 (1 + (Int.tmod (wrap64 (a0_0)) 1000))) (wrap64 (1 + (Int.tmod (wrap64 (a0_1)) 100))) (wrap64 (1 + (wrap64 (a0_2)))) true a2_0 a2_1 t103 t104) else (dropperlaw02_WireDroppers.j0 k (wrap64 (1 + (Int.tmod (wrap64 (a0_0)) 1000))) (wrap64 (1 + (Int.tmod (wrap64 (a0_1)) 100))) (wrap64 (1 + (wrap64 (a0_2)))) (!(bt111.1 == 0) || (!(bt111.2.1 == 1))) a2_0 a2_1 t103 t104)) else (dropperlaw02_WireDroppers.j0 k (wrap64 (1 + (Int.tmod (wrap64 (a0_0)) 1000))) (wrap64 (1 + (Int.tmod (wrap64 (a0_1)) 100))) (wrap64 (1 + (wrap64 (a0_2)))) true a2_0 a2_1 t103 t104)) else (dropperlaw02_WireDroppers.j0 k (wrap64 (1 + (Int.tmod (wrap64 (a0_0)) 1000))) (wrap64 (1 + (Int.tmod (wrap64 (a0_1)) 100))) (wrap64 (1 + (wrap64 (a0_2)))) true a2_0 a2_1 t103 t104)) else (dropperlaw02_WireDroppers.j0 k (wrap64 (1 + (Int.tmod (wrap64 (a0_0)) 1000))) (wrap64 (1 + (Int.tmod (wrap64 (a0_1)) 100))) (wrap64 (1 + (wrap64 (a0_2)))) true a2_0 a2_1 t103 t104)))) = some r := H
  have A5 := Aside0.mk A50
  clear A50
  replace H := Option.bind_eq_some_iff.mp H
  obtain ⟨⟨t107, t108, t109⟩, A60, H⟩ := H
  replace H : ((wire_Drop.f k (wrap64 (1 + (Int.tmod (wrap64 (a0_0)) 1000))) (wrap64 (1 + (Int.tmod (wrap64 (a0_1)) 100))) (wrap64 (1 + (wrap64 (a0_2)))) 0).bind fun bt111 => (if t105 = 0 then (if t109 = 0 then (if bt111.2.2 = 0 then (if (!(t103 == t107) || (!(t104 == t108))) = true then (dropperlaw02_WireDroppers.j0 k (wrap64 (1 + (Int.tmod (wrap64 (a0_0)) 1000))) (wrap64 (1 + (Int.tmod (wrap64 (a0_1)) 100))) (wrap64 (1 + (wrap64 (a0_2)))) true a2_0 a2_1 t103 t104) else (dropperlaw02_WireDroppers.j0 k (wrap64 (1 + (Int.tmod (wrap64 (a0_0)) 1000))) (wrap64 (1 + (Int.tmod (wrap64 (a0_1)) 100))) (wrap64 (1 + (wrap64 (a0_2)))) (!(bt111.1 == 0) || (!(bt111.2.1 == 1))) a2_0 a2_1 t103 t104)) else (dropperlaw02_WireDroppers.j0 k (wrap64 (1 + (Int.tmod (wrap64 (a0_0)) 1000))) (wrap64 (1 + (Int.tmod (wrap64 (a0_1)) 100))) (wrap64 (1 + (wrap64 (a0_2)))) true a2_0 a2_1 t103 t104)) else (dropperlaw02_WireDroppers.j0 k (wrap64 (1 + (Int.tmod (wrap64 (a0_0)) 1000))) (wrap64 (1 + (Int.tmod (wrap64 (a0_1)) 100))) (wrap64 (1 + (wrap64 (a0_2)))) true a2_0 a2_1 t103 t104)) else (dropperlaw02_WireDroppers.j0 k (wrap64 (1 + (Int.tmod (wrap64 (a0_0)) 1000))) (wrap64 (1 + (Int.tmod (wrap64 (a0_1)) 100))) (wrap64 (1 + (wrap64 (a0_2)))) true a2_0 a2_1 t103 t104))) = some r := H
  have A6 := Aside0.mk A60
  clear A60
  replace H := Option.bind_eq_some_iff.mp H
  obtain ⟨⟨t111, t112, t113⟩, A70, H⟩ := H
  replace H : (if t105 = 0 then (if t109 = 0 then (if t113 = 0 then (if (!(t103 == t107) || (!(t104 == t108))) = true then (dropperlaw02_WireDroppers.j0 k (wrap64 (1 + (Int.tmod (wrap64 (a0_0)) 1000))) (wrap64 (1 + (Int.tmod (wrap64 (a0_1)) 100))) (wrap64 (1 + (wrap64 (a0_2)))) true a2_0 a2_1 t103 t104) else (dropperlaw02_WireDroppers.j0 k (wrap64 (1 + (Int.tmod (wrap64 (a0_0)) 1000))) (wrap64 (1 + (Int.tmod (wrap64 (a0_1)) 100))) (wrap64 (1 + (wrap64 (a0_2)))) (!(t111 == 0) || (!(t112 == 1))) a2_0 a2_1 t103 t104)) else (dropperlaw02_WireDroppers.j0 k (wrap64 (1 + (Int.tmod (wrap64 (a0_0)) 1000))) (wrap64 (1 + (Int.tmod (wrap64 (a0_1)) 100))) (wrap64 (1 + (wrap64 (a0_2)))) true a2_0 a2_1 t103 t104)) else (dropperlaw02_WireDroppers.j0 k (wrap64 (1 + (Int.tmod (wrap64 (a0_0)) 1000))) (wrap64 (1 + (Int.tmod (wrap64 (a0_1)) 100))) (wrap64 (1 + (wrap64 (a0_2)))) true a2_0 a2_1 t103 t104)) else (dropperlaw02_WireDroppers.j0 k (wrap64 (1 + (Int.tmod (wrap64 (a0_0)) 1000))) (wrap64 (1 + (Int.tmod (wrap64 (a0_1)) 100))) (wrap64 (1 + (wrap64 (a0_2)))) true a2_0 a2_1 t103 t104)) = some r := H
  have A7 := Aside0.mk A70
  clear A70
  have HC8 := Aside0.mk H
  clear H
  go_enter Try.func8, Try.ntmps8
  go_upto_region 6 with (first | ((with_reducible refine gate_dst (N := 3) rfl ?_); (try (refine gate_guard (by rfl) ?_; dsimp only)); refine box_event ?hg (N := 3) ?hd (cs := #[.int .u16 a0_0, .int .u16 a0_1, .int .u16 a0_2]) (t := 65) ?hr ?_; (case hd => rfl); (case hg => rfl); (case hr => first | (go_simp; done) | (go_simp; rfl)); intro gb101 hg w9 hbox hb; have n0_ := Aside0.mk (below_step (by repeat (first | (with_reducible first | exact HB.out | apply below_alloc | apply pw_below_drewN | apply below_drew1) | exact HB.out)) hb); have n1_ := Aside0.mk (hbox); have n2_ := Aside0.mk ((by rw [hg]; exact (below_size (by repeat (first | (with_reducible first | exact HB.out | apply below_alloc | apply pw_below_drewN | apply below_drew1) | exact HB.out))) : w.heap.size ≤ gb101)); have n3_ := Aside0.mk ((by rw [hg]; exact (below_size (by repeat (first | (with_reducible first | exact HB.out | apply below_alloc | apply pw_below_drewN | apply below_drew1) | exact HB.out))) : w.heap.size ≤ gb101)); clear HB; have HB := n0_; have BK101 := n1_; have GW101 := n2_; have GE101 := n3_; clear n0_ n1_ n2_ n3_; clear hb hbox hg) | ((with_reducible refine gate_dst (N := 5) rfl ?_); (try (refine gate_guard (by rfl) ?_; dsimp only)); refine box_event ?hg (N := 5) ?hd (cs := #[.int .u16 a2_0, .int .u16 a2_1]) (t := 66) ?hr ?_; (case hd => rfl); (case hg => rfl); (case hr => first | (go_simp; done) | (go_simp; rfl)); intro gb102 hg w10 hbox hb; have n0_ := Aside0.mk (bkB BK101 hb); have n1_ := Aside0.mk (below_step (by repeat (first | (with_reducible first | exact HB.out | apply below_alloc | apply pw_below_drewN | apply below_drew1 | refine below_set ?_ GE101.out) | exact HB.out)) hb); have n2_ := Aside0.mk (hbox); have n3_ := Aside0.mk ((by rw [hg]; exact (below_size (by repeat (first | (with_reducible first | exact HB.out | apply below_alloc | apply pw_below_drewN | apply below_drew1 | refine below_set ?_ GE101.out) | exact HB.out))) : w.heap.size ≤ gb102)); have n4_ := Aside0.mk ((by rw [hg]; exact (below_size (by repeat (first | (with_reducible first | exact HB.out | apply below_alloc | apply pw_below_drewN | apply below_drew1 | refine below_set ?_ GE101.out) | exact HB.out))) : w.heap.size ≤ gb102)); have n5_ := Aside0.mk ((bkL BK101 hg : gb101 ≠ gb102)); have n6_ := Aside0.mk ((bkG BK101 hg : gb102 ≠ gb101)); clear BK101; clear HB; have BK101 := n0_; have HB := n1_; have BK102 := n2_; have GW102 := n3_; have GE102 := n4_; have NB101_102 := n5_; have NB102_101 := n6_; clear n0_ n1_ n2_ n3_ n4_ n5_ n6_; clear hb hbox hg; have hnb11 := NB101_102.out; have hnc11 := NB102_101.out; have hcz12_0 : w10.cell? ⟨gb101, 0, none⟩ = some (.int .u16 a0_0) := (blk_cell BK101.out 0).trans rfl; have hcz12_1 : w10.cell? ⟨gb101, 1, none⟩ = some (.int .u16 a0_1) := (blk_cell BK101.out 1).trans rfl; have hcz12_2 : w10.cell? ⟨gb101, 2, none⟩ = some (.int .u16 a0_2) := (blk_cell BK101.out 2).trans rfl; have hfz12_0 := blk_frozen BK101.out 0; have hfz12_1 := blk_frozen BK101.out 1; have hfz12_2 := blk_frozen BK101.out 2) | (go_at_call 34; (with_reducible refine (wire_Drop.calls k (wrap64 (1 + (Int.tmod (wrap64 (a0_0)) 1000))) (wrap64 (1 + (Int.tmod (wrap64 (a0_1)) 100))) (wrap64 (1 + (wrap64 (a0_2)))) (Int.tmod (wrap64 (a1)) (wrap64 ((wrap64 (1 + (Int.tmod (wrap64 (a0_1)) 100))) + 1))) t103 t104 t105 _ A5.out).mono ?_); rintro e w13 ⟨rfl, hb⟩; have n0_ := Aside0.mk (bkB BK101 hb); have n1_ := Aside0.mk (bkB BK102 hb); have n2_ := Aside0.mk (below_step (by repeat (first | (with_reducible first | exact HB.out | apply below_alloc | apply pw_below_drewN | apply below_drew1 | refine below_set ?_ GE101.out | refine below_set ?_ GE102.out) | exact HB.out)) hb); clear BK101; clear BK102; clear HB; have BK101 := n0_; have BK102 := n1_; have HB := n2_; clear n0_ n1_ n2_; (try clear hb); (try clear hb2); (try clear hk); (try clear hi)) | ((with_reducible refine gate_dst (N := 11) rfl ?_); (try (refine gate_guard (by rfl) ?_; dsimp only)); refine box_event ?hg (N := 11) ?hd (cs := #[.int .i64 0, .int .i64 0]) (t := 55) ?hr ?_; (case hd => rfl); (case hg => rfl); (case hr => first | (go_simp; done) | (go_simp; rfl)); intro gb106 hg w14 hbox hb; have n0_ := Aside0.mk (bkB BK101 hb); have n1_ := Aside0.mk (bkB BK102 hb); have n2_ := Aside0.mk (below_step (by repeat (first | (with_reducible first | exact HB.out | apply below_alloc | apply pw_below_drewN | apply below_drew1 | refine below_set ?_ GE101.out | refine below_set ?_ GE102.out) | exact HB.out)) hb); have n3_ := Aside0.mk (hbox); have n4_ := Aside0.mk ((by rw [hg]; exact (below_size (by repeat (first | (with_reducible first | exact HB.out | apply below_alloc | apply pw_below_drewN | apply below_drew1 | refine below_set ?_ GE101.out | refine below_set ?_ GE102.out) | exact HB.out))) : w.heap.size ≤ gb106)); have n5_ := Aside0.mk ((by rw [hg]; exact (below_size (by repeat (first | (with_reducible first | exact HB.out | apply below_alloc | apply pw_below_drewN | apply below_drew1 | refine below_set ?_ GE101.out | refine below_set ?_ GE102.out) | exact HB.out))) : w.heap.size ≤ gb106)); have n6_ := Aside0.mk ((bkL BK101 hg : gb101 ≠ gb106)); have n7_ := Aside0.mk ((bkG BK101 hg : gb106 ≠ gb101)); have n8_ := Aside0.mk ((bkL BK102 hg : gb102 ≠ gb106)); have n9_ := Aside0.mk ((bkG BK102 hg : gb106 ≠ gb102)); clear BK101; clear BK102; clear HB; have BK101 := n0_; have BK102 := n1_; have HB := n2_; have BK106 := n3_; have GW106 := n4_; have GE106 := n5_; have NB101_106 := n6_; have NB106_101 := n7_; have NB102_106 := n8_; have NB106_102 := n9_; clear n0_ n1_ n2_ n3_ n4_ n5_ n6_ n7_ n8_ n9_; clear hb hbox hg; have hnb15 := NB106_101.out; have hnc15 := NB101_106.out; have hnb16 := NB106_102.out; have hnc16 := NB102_106.out; have hcz17_0 : w14.cell? ⟨gb106, 0, none⟩ = some (.int .i64 0) := (blk_cell BK106.out 0).trans rfl; have hcz17_1 : w14.cell? ⟨gb106, 1, none⟩ = some (.int .i64 0) := (blk_cell BK106.out 1).trans rfl; have hfz17_0 := blk_frozen BK106.out 0; have hfz17_1 := blk_frozen BK106.out 1) | (go_at_call 34; (with_reducible refine (wire_Drop.calls k (wrap64 (1 + (Int.tmod (wrap64 (a0_0)) 1000))) (wrap64 (1 + (Int.tmod (wrap64 (a0_1)) 100))) (wrap64 (1 + (wrap64 (a0_2)))) (wrap64 ((wrap64 (1 + (Int.tmod (wrap64 (a0_1)) 100))) - (Int.tmod (wrap64 (a1)) (wrap64 ((wrap64 (1 + (Int.tmod (wrap64 (a0_1)) 100))) + 1))))) t107 t108 t109 _ A6.out).mono ?_); rintro e w18 ⟨rfl, hb⟩; have n0_ := Aside0.mk (blk_below (g := gb101) (o := .cells #[.int .u16 a0_0, .int .u16 a0_1, .int .u16 a0_2] 65 (0, 0)) (bkF2 BK101 NB101_106) hb); have n1_ := Aside0.mk (blk_below (g := gb102) (o := .cells #[.int .u16 a2_0, .int .u16 a2_1] 66 (0, 0)) (bkF2 BK102 NB102_106) hb); have n2_ := Aside0.mk (blk_below (g := gb106) (o := .cells #[.int .i64 t103, .int .i64 t104] 55 (0, 0)) (by (with_reducible repeat (first | refine blk_drewN ?_ _ | refine blk_drew ?_ | refine blk_alloc ?_ _)); refine blk_put (cs := #[.int .i64 t103, .int .i64 0]) ?_ 1 _ rfl; (with_reducible repeat (first | refine blk_drewN ?_ _ | refine blk_drew ?_ | refine blk_alloc ?_ _)); refine blk_put (cs := #[.int .i64 0, .int .i64 0]) ?_ 0 _ rfl; (with_reducible repeat (first | refine blk_drewN ?_ _ | refine blk_drew ?_ | refine blk_alloc ?_ _)); exact BK106.out) hb); have n3_ := Aside0.mk (below_step (by repeat (first | (with_reducible first | exact HB.out | apply below_alloc | apply pw_below_drewN | apply below_drew1 | refine below_set ?_ GE101.out | refine below_set ?_ GE102.out | refine below_set ?_ GE106.out) | exact HB.out)) hb); clear BK101; clear BK102; clear BK106; clear HB; have BK101 := n0_; have BK102 := n1_; have BK106 := n2_; have HB := n3_; clear n0_ n1_ n2_ n3_; (try clear hb); (try clear hb2); (try clear hk); (try clear hi)) | ((with_reducible refine gate_dst (N := 13) rfl ?_); (try (refine gate_guard (by rfl) ?_; dsimp only)); refine box_event ?hg (N := 13) ?hd (cs := #[.int .i64 0, .int .i64 0]) (t := 55) ?hr ?_; (case hd => rfl); (case hg => rfl); (case hr => first | (go_simp; done) | (go_simp; rfl)); intro gb110 hg w19 hbox hb; have n0_ := Aside0.mk (bkB BK101 hb); have n1_ := Aside0.mk (bkB BK102 hb); have n2_ := Aside0.mk (bkB BK106 hb); have n3_ := Aside0.mk (below_step (by repeat (first | (with_reducible first | exact HB.out | apply below_alloc | apply pw_below_drewN | apply below_drew1 | refine below_set ?_ GE101.out | refine below_set ?_ GE102.out | refine below_set ?_ GE106.out) | exact HB.out)) hb); have n4_ := Aside0.mk (hbox); have n5_ := Aside0.mk ((by rw [hg]; exact (below_size (by repeat (first | (with_reducible first | exact HB.out | apply below_alloc | apply pw_below_drewN | apply below_drew1 | refine below_set ?_ GE101.out | refine below_set ?_ GE102.out | refine below_set ?_ GE106.out) | exact HB.out))) : w.heap.size ≤ gb110)); have n6_ := Aside0.mk ((by rw [hg]; exact (below_size (by repeat (first | (with_reducible first | exact HB.out | apply below_alloc | apply pw_below_drewN | apply below_drew1 | refine below_set ?_ GE101.out | refine below_set ?_ GE102.out | refine below_set ?_ GE106.out) | exact HB.out))) : w.heap.size ≤ gb110)); have n7_ := Aside0.mk ((bkL BK101 hg : gb101 ≠ gb110)); have n8_ := Aside0.mk ((bkG BK101 hg : gb110 ≠ gb101)); have n9_ := Aside0.mk ((bkL BK102 hg : gb102 ≠ gb110)); have n10_ := Aside0.mk ((bkG BK102 hg : gb110 ≠ gb102)); have n11_ := Aside0.mk ((bkL BK106 hg : gb106 ≠ gb110)); have n12_ := Aside0.mk ((bkG BK106 hg : gb110 ≠ gb106)); clear BK101; clear BK102; clear BK106; clear HB; have BK101 := n0_; have BK102 := n1_; have BK106 := n2_; have HB := n3_; have BK110 := n4_; have GW110 := n5_; have GE110 := n6_; have NB101_110 := n7_; have NB110_101 := n8_; have NB102_110 := n9_; have NB110_102 := n10_; have NB106_110 := n11_; have NB110_106 := n12_; clear n0_ n1_ n2_ n3_ n4_ n5_ n6_ n7_ n8_ n9_ n10_ n11_ n12_; clear hb hbox hg; have hnb20 := NB110_101.out; have hnc20 := NB101_110.out; have hnb21 := NB110_102.out; have hnc21 := NB102_110.out; have hnb22 := NB110_106.out; have hnc22 := NB106_110.out; have hcz23_0 : w19.cell? ⟨gb110, 0, none⟩ = some (.int .i64 0) := (blk_cell BK110.out 0).trans rfl; have hcz23_1 : w19.cell? ⟨gb110, 1, none⟩ = some (.int .i64 0) := (blk_cell BK110.out 1).trans rfl; have hfz23_0 := blk_frozen BK110.out 0; have hfz23_1 := blk_frozen BK110.out 1) | (go_at_call 34; (with_reducible refine (wire_Drop.calls k (wrap64 (1 + (Int.tmod (wrap64 (a0_0)) 1000))) (wrap64 (1 + (Int.tmod (wrap64 (a0_1)) 100))) (wrap64 (1 + (wrap64 (a0_2)))) 0 t111 t112 t113 _ A7.out).mono ?_); rintro e w24 ⟨rfl, hb⟩; have n0_ := Aside0.mk (blk_below (g := gb101) (o := .cells #[.int .u16 a0_0, .int .u16 a0_1, .int .u16 a0_2] 65 (0, 0)) (bkF2 BK101 NB101_110) hb); have n1_ := Aside0.mk (blk_below (g := gb102) (o := .cells #[.int .u16 a2_0, .int .u16 a2_1] 66 (0, 0)) (bkF2 BK102 NB102_110) hb); have n2_ := Aside0.mk (blk_below (g := gb106) (o := .cells #[.int .i64 t103, .int .i64 t104] 55 (0, 0)) (bkF2 BK106 NB106_110) hb); have n3_ := Aside0.mk (blk_below (g := gb110) (o := .cells #[.int .i64 t107, .int .i64 t108] 55 (0, 0)) (by (with_reducible repeat (first | refine blk_drewN ?_ _ | refine blk_drew ?_ | refine blk_alloc ?_ _)); refine blk_put (cs := #[.int .i64 t107, .int .i64 0]) ?_ 1 _ rfl; (with_reducible repeat (first | refine blk_drewN ?_ _ | refine blk_drew ?_ | refine blk_alloc ?_ _)); refine blk_put (cs := #[.int .i64 0, .int .i64 0]) ?_ 0 _ rfl; (with_reducible repeat (first | refine blk_drewN ?_ _ | refine blk_drew ?_ | refine blk_alloc ?_ _)); exact BK110.out) hb); have n4_ := Aside0.mk (below_step (by repeat (first | (with_reducible first | exact HB.out | apply below_alloc | apply pw_below_drewN | apply below_drew1 | refine below_set ?_ GE101.out | refine below_set ?_ GE102.out | refine below_set ?_ GE106.out | refine below_set ?_ GE110.out) | exact HB.out)) hb); clear BK101; clear BK102; clear BK106; clear BK110; clear HB; have BK101 := n0_; have BK102 := n1_; have BK106 := n2_; have BK110 := n3_; have HB := n4_; clear n0_ n1_ n2_ n3_ n4_; (try clear hb); (try clear hb2); (try clear hk); (try clear hi)) | ((with_reducible refine gate_dst (N := 15) rfl ?_); (try (refine gate_guard (by rfl) ?_; dsimp only)); refine box_event ?hg (N := 15) ?hd (cs := #[.int .i64 0, .int .i64 0]) (t := 55) ?hr ?_; (case hd => rfl); (case hg => rfl); (case hr => first | (go_simp; done) | (go_simp; rfl)); intro gb114 hg w25 hbox hb; have n0_ := Aside0.mk (bkB BK101 hb); have n1_ := Aside0.mk (bkB BK102 hb); have n2_ := Aside0.mk (bkB BK106 hb); have n3_ := Aside0.mk (bkB BK110 hb); have n4_ := Aside0.mk (below_step (by repeat (first | (with_reducible first | exact HB.out | apply below_alloc | apply pw_below_drewN | apply below_drew1 | refine below_set ?_ GE101.out | refine below_set ?_ GE102.out | refine below_set ?_ GE106.out | refine below_set ?_ GE110.out) | exact HB.out)) hb); have n5_ := Aside0.mk (hbox); have n6_ := Aside0.mk ((by rw [hg]; exact (below_size (by repeat (first | (with_reducible first | exact HB.out | apply below_alloc | apply pw_below_drewN | apply below_drew1 | refine below_set ?_ GE101.out | refine below_set ?_ GE102.out | refine below_set ?_ GE106.out | refine below_set ?_ GE110.out) | exact HB.out))) : w.heap.size ≤ gb114)); have n7_ := Aside0.mk ((by rw [hg]; exact (below_size (by repeat (first | (with_reducible first | exact HB.out | apply below_alloc | apply pw_below_drewN | apply below_drew1 | refine below_set ?_ GE101.out | refine below_set ?_ GE102.out | refine below_set ?_ GE106.out | refine below_set ?_ GE110.out) | exact HB.out))) : w.heap.size ≤ gb114)); have n8_ := Aside0.mk ((bkL BK101 hg : gb101 ≠ gb114)); have n9_ := Aside0.mk ((bkG BK101 hg : gb114 ≠ gb101)); have n10_ := Aside0.mk ((bkL BK102 hg : gb102 ≠ gb114)); have n11_ := Aside0.mk ((bkG BK102 hg : gb114 ≠ gb102)); have n12_ := Aside0.mk ((bkL BK106 hg : gb106 ≠ gb114)); have n13_ := Aside0.mk ((bkG BK106 hg : gb114 ≠ gb106)); have n14_ := Aside0.mk ((bkL BK110 hg : gb110 ≠ gb114)); have n15_ := Aside0.mk ((bkG BK110 hg : gb114 ≠ gb110)); clear BK101; clear BK102; clear BK106; clear BK110; clear HB; have BK101 := n0_; have BK102 := n1_; have BK106 := n2_; have BK110 := n3_; have HB := n4_; have BK114 := n5_; have GW114 := n6_; have GE114 := n7_; have NB101_114 := n8_; have NB114_101 := n9_; have NB102_114 := n10_; have NB114_102 := n11_; have NB106_114 := n12_; have NB114_106 := n13_; have NB110_114 := n14_; have NB114_110 := n15_; clear n0_ n1_ n2_ n3_ n4_ n5_ n6_ n7_ n8_ n9_ n10_ n11_ n12_ n13_ n14_ n15_; clear hb hbox hg; have hnb26 := NB114_101.out; have hnc26 := NB101_114.out; have hnb27 := NB114_102.out; have hnc27 := NB102_114.out; have hnb28 := NB114_106.out; have hnc28 := NB106_114.out; have hnb29 := NB114_110.out; have hnc29 := NB110_114.out; have hcz30_0 : w25.cell? ⟨gb114, 0, none⟩ = some (.int .i64 0) := (blk_cell BK114.out 0).trans rfl; have hcz30_1 : w25.cell? ⟨gb114, 1, none⟩ = some (.int .i64 0) := (blk_cell BK114.out 1).trans rfl; have hfz30_0 := blk_frozen BK114.out 0; have hfz30_1 := blk_frozen BK114.out 1))
  repeat (go_quiet (first | ((with_reducible refine gate_dst (N := 3) rfl ?_); (try (refine gate_guard (by rfl) ?_; dsimp only)); refine box_event ?hg (N := 3) ?hd (cs := #[.int .u16 a0_0, .int .u16 a0_1, .int .u16 a0_2]) (t := 65) ?hr ?_; (case hd => rfl); (case hg => rfl); (case hr => first | (go_simp; done) | (go_simp; rfl)); intro gb101 hg w9 hbox hb; have n0_ := Aside0.mk (below_step (by repeat (first | (with_reducible first | exact HB.out | apply below_alloc | apply pw_below_drewN | apply below_drew1) | exact HB.out)) hb); have n1_ := Aside0.mk (hbox); have n2_ := Aside0.mk ((by rw [hg]; exact (below_size (by repeat (first | (with_reducible first | exact HB.out | apply below_alloc | apply pw_below_drewN | apply below_drew1) | exact HB.out))) : w.heap.size ≤ gb101)); have n3_ := Aside0.mk ((by rw [hg]; exact (below_size (by repeat (first | (with_reducible first | exact HB.out | apply below_alloc | apply pw_below_drewN | apply below_drew1) | exact HB.out))) : w.heap.size ≤ gb101)); clear HB; have HB := n0_; have BK101 := n1_; have GW101 := n2_; have GE101 := n3_; clear n0_ n1_ n2_ n3_; clear hb hbox hg) | ((with_reducible refine gate_dst (N := 5) rfl ?_); (try (refine gate_guard (by rfl) ?_; dsimp only)); refine box_event ?hg (N := 5) ?hd (cs := #[.int .u16 a2_0, .int .u16 a2_1]) (t := 66) ?hr ?_; (case hd => rfl); (case hg => rfl); (case hr => first | (go_simp; done) | (go_simp; rfl)); intro gb102 hg w10 hbox hb; have n0_ := Aside0.mk (bkB BK101 hb); have n1_ := Aside0.mk (below_step (by repeat (first | (with_reducible first | exact HB.out | apply below_alloc | apply pw_below_drewN | apply below_drew1 | refine below_set ?_ GE101.out) | exact HB.out)) hb); have n2_ := Aside0.mk (hbox); have n3_ := Aside0.mk ((by rw [hg]; exact (below_size (by repeat (first | (with_reducible first | exact HB.out | apply below_alloc | apply pw_below_drewN | apply below_drew1 | refine below_set ?_ GE101.out) | exact HB.out))) : w.heap.size ≤ gb102)); have n4_ := Aside0.mk ((by rw [hg]; exact (below_size (by repeat (first | (with_reducible first | exact HB.out | apply below_alloc | apply pw_below_drewN | apply below_drew1 | refine below_set ?_ GE101.out) | exact HB.out))) : w.heap.size ≤ gb102)); have n5_ := Aside0.mk ((bkL BK101 hg : gb101 ≠ gb102)); have n6_ := Aside0.mk ((bkG BK101 hg : gb102 ≠ gb101)); clear BK101; clear HB; have BK101 := n0_; have HB := n1_; have BK102 := n2_; have GW102 := n3_; have GE102 := n4_; have NB101_102 := n5_; have NB102_101 := n6_; clear n0_ n1_ n2_ n3_ n4_ n5_ n6_; clear hb hbox hg; have hnb11 := NB101_102.out; have hnc11 := NB102_101.out; have hcz12_0 : w10.cell? ⟨gb101, 0, none⟩ = some (.int .u16 a0_0) := (blk_cell BK101.out 0).trans rfl; have hcz12_1 : w10.cell? ⟨gb101, 1, none⟩ = some (.int .u16 a0_1) := (blk_cell BK101.out 1).trans rfl; have hcz12_2 : w10.cell? ⟨gb101, 2, none⟩ = some (.int .u16 a0_2) := (blk_cell BK101.out 2).trans rfl; have hfz12_0 := blk_frozen BK101.out 0; have hfz12_1 := blk_frozen BK101.out 1; have hfz12_2 := blk_frozen BK101.out 2) | (go_at_call 34; (with_reducible refine (wire_Drop.calls k (wrap64 (1 + (Int.tmod (wrap64 (a0_0)) 1000))) (wrap64 (1 + (Int.tmod (wrap64 (a0_1)) 100))) (wrap64 (1 + (wrap64 (a0_2)))) (Int.tmod (wrap64 (a1)) (wrap64 ((wrap64 (1 + (Int.tmod (wrap64 (a0_1)) 100))) + 1))) t103 t104 t105 _ A5.out).mono ?_); rintro e w13 ⟨rfl, hb⟩; have n0_ := Aside0.mk (bkB BK101 hb); have n1_ := Aside0.mk (bkB BK102 hb); have n2_ := Aside0.mk (below_step (by repeat (first | (with_reducible first | exact HB.out | apply below_alloc | apply pw_below_drewN | apply below_drew1 | refine below_set ?_ GE101.out | refine below_set ?_ GE102.out) | exact HB.out)) hb); clear BK101; clear BK102; clear HB; have BK101 := n0_; have BK102 := n1_; have HB := n2_; clear n0_ n1_ n2_; (try clear hb); (try clear hb2); (try clear hk); (try clear hi)) | ((with_reducible refine gate_dst (N := 11) rfl ?_); (try (refine gate_guard (by rfl) ?_; dsimp only)); refine box_event ?hg (N := 11) ?hd (cs := #[.int .i64 0, .int .i64 0]) (t := 55) ?hr ?_; (case hd => rfl); (case hg => rfl); (case hr => first | (go_simp; done) | (go_simp; rfl)); intro gb106 hg w14 hbox hb; have n0_ := Aside0.mk (bkB BK101 hb); have n1_ := Aside0.mk (bkB BK102 hb); have n2_ := Aside0.mk (below_step (by repeat (first | (with_reducible first | exact HB.out | apply below_alloc | apply pw_below_drewN | apply below_drew1 | refine below_set ?_ GE101.out | refine below_set ?_ GE102.out) | exact HB.out)) hb); have n3_ := Aside0.mk (hbox); have n4_ := Aside0.mk ((by rw [hg]; exact (below_size (by repeat (first | (with_reducible first | exact HB.out | apply below_alloc | apply pw_below_drewN | apply below_drew1 | refine below_set ?_ GE101.out | refine below_set ?_ GE102.out) | exact HB.out))) : w.heap.size ≤ gb106)); have n5_ := Aside0.mk ((by rw [hg]; exact (below_size (by repeat (first | (with_reducible first | exact HB.out | apply below_alloc | apply pw_below_drewN | apply below_drew1 | refine below_set ?_ GE101.out | refine below_set ?_ GE102.out) | exact HB.out))) : w.heap.size ≤ gb106)); have n6_ := Aside0.mk ((bkL BK101 hg : gb101 ≠ gb106)); have n7_ := Aside0.mk ((bkG BK101 hg : gb106 ≠ gb101)); have n8_ := Aside0.mk ((bkL BK102 hg : gb102 ≠ gb106)); have n9_ := Aside0.mk ((bkG BK102 hg : gb106 ≠ gb102)); clear BK101; clear BK102; clear HB; have BK101 := n0_; have BK102 := n1_; have HB := n2_; have BK106 := n3_; have GW106 := n4_; have GE106 := n5_; have NB101_106 := n6_; have NB106_101 := n7_; have NB102_106 := n8_; have NB106_102 := n9_; clear n0_ n1_ n2_ n3_ n4_ n5_ n6_ n7_ n8_ n9_; clear hb hbox hg; have hnb15 := NB106_101.out; have hnc15 := NB101_106.out; have hnb16 := NB106_102.out; have hnc16 := NB102_106.out; have hcz17_0 : w14.cell? ⟨gb106, 0, none⟩ = some (.int .i64 0) := (blk_cell BK106.out 0).trans rfl; have hcz17_1 : w14.cell? ⟨gb106, 1, none⟩ = some (.int .i64 0) := (blk_cell BK106.out 1).trans rfl; have hfz17_0 := blk_frozen BK106.out 0; have hfz17_1 := blk_frozen BK106.out 1) | (go_at_call 34; (with_reducible refine (wire_Drop.calls k (wrap64 (1 + (Int.tmod (wrap64 (a0_0)) 1000))) (wrap64 (1 + (Int.tmod (wrap64 (a0_1)) 100))) (wrap64 (1 + (wrap64 (a0_2)))) (wrap64 ((wrap64 (1 + (Int.tmod (wrap64 (a0_1)) 100))) - (Int.tmod (wrap64 (a1)) (wrap64 ((wrap64 (1 + (Int.tmod (wrap64 (a0_1)) 100))) + 1))))) t107 t108 t109 _ A6.out).mono ?_); rintro e w18 ⟨rfl, hb⟩; have n0_ := Aside0.mk (blk_below (g := gb101) (o := .cells #[.int .u16 a0_0, .int .u16 a0_1, .int .u16 a0_2] 65 (0, 0)) (bkF2 BK101 NB101_106) hb); have n1_ := Aside0.mk (blk_below (g := gb102) (o := .cells #[.int .u16 a2_0, .int .u16 a2_1] 66 (0, 0)) (bkF2 BK102 NB102_106) hb); have n2_ := Aside0.mk (blk_below (g := gb106) (o := .cells #[.int .i64 t103, .int .i64 t104] 55 (0, 0)) (by (with_reducible repeat (first | refine blk_drewN ?_ _ | refine blk_drew ?_ | refine blk_alloc ?_ _)); refine blk_put (cs := #[.int .i64 t103, .int .i64 0]) ?_ 1 _ rfl; (with_reducible repeat (first | refine blk_drewN ?_ _ | refine blk_drew ?_ | refine blk_alloc ?_ _)); refine blk_put (cs := #[.int .i64 0, .int .i64 0]) ?_ 0 _ rfl; (with_reducible repeat (first | refine blk_drewN ?_ _ | refine blk_drew ?_ | refine blk_alloc ?_ _)); exact BK106.out) hb); have n3_ := Aside0.mk (below_step (by repeat (first | (with_reducible first | exact HB.out | apply below_alloc | apply pw_below_drewN | apply below_drew1 | refine below_set ?_ GE101.out | refine below_set ?_ GE102.out | refine below_set ?_ GE106.out) | exact HB.out)) hb); clear BK101; clear BK102; clear BK106; clear HB; have BK101 := n0_; have BK102 := n1_; have BK106 := n2_; have HB := n3_; clear n0_ n1_ n2_ n3_; (try clear hb); (try clear hb2); (try clear hk); (try clear hi)) | ((with_reducible refine gate_dst (N := 13) rfl ?_); (try (refine gate_guard (by rfl) ?_; dsimp only)); refine box_event ?hg (N := 13) ?hd (cs := #[.int .i64 0, .int .i64 0]) (t := 55) ?hr ?_; (case hd => rfl); (case hg => rfl); (case hr => first | (go_simp; done) | (go_simp; rfl)); intro gb110 hg w19 hbox hb; have n0_ := Aside0.mk (bkB BK101 hb); have n1_ := Aside0.mk (bkB BK102 hb); have n2_ := Aside0.mk (bkB BK106 hb); have n3_ := Aside0.mk (below_step (by repeat (first | (with_reducible first | exact HB.out | apply below_alloc | apply pw_below_drewN | apply below_drew1 | refine below_set ?_ GE101.out | refine below_set ?_ GE102.out | refine below_set ?_ GE106.out) | exact HB.out)) hb); have n4_ := Aside0.mk (hbox); have n5_ := Aside0.mk ((by rw [hg]; exact (below_size (by repeat (first | (with_reducible first | exact HB.out | apply below_alloc | apply pw_below_drewN | apply below_drew1 | refine below_set ?_ GE101.out | refine below_set ?_ GE102.out | refine below_set ?_ GE106.out) | exact HB.out))) : w.heap.size ≤ gb110)); have n6_ := Aside0.mk ((by rw [hg]; exact (below_size (by repeat (first | (with_reducible first | exact HB.out | apply below_alloc | apply pw_below_drewN | apply below_drew1 | refine below_set ?_ GE101.out | refine below_set ?_ GE102.out | refine below_set ?_ GE106.out) | exact HB.out))) : w.heap.size ≤ gb110)); have n7_ := Aside0.mk ((bkL BK101 hg : gb101 ≠ gb110)); have n8_ := Aside0.mk ((bkG BK101 hg : gb110 ≠ gb101)); have n9_ := Aside0.mk ((bkL BK102 hg : gb102 ≠ gb110)); have n10_ := Aside0.mk ((bkG BK102 hg : gb110 ≠ gb102)); have n11_ := Aside0.mk ((bkL BK106 hg : gb106 ≠ gb110)); have n12_ := Aside0.mk ((bkG BK106 hg : gb110 ≠ gb106)); clear BK101; clear BK102; clear BK106; clear HB; have BK101 := n0_; have BK102 := n1_; have BK106 := n2_; have HB := n3_; have BK110 := n4_; have GW110 := n5_; have GE110 := n6_; have NB101_110 := n7_; have NB110_101 := n8_; have NB102_110 := n9_; have NB110_102 := n10_; have NB106_110 := n11_; have NB110_106 := n12_; clear n0_ n1_ n2_ n3_ n4_ n5_ n6_ n7_ n8_ n9_ n10_ n11_ n12_; clear hb hbox hg; have hnb20 := NB110_101.out; have hnc20 := NB101_110.out; have hnb21 := NB110_102.out; have hnc21 := NB102_110.out; have hnb22 := NB110_106.out; have hnc22 := NB106_110.out; have hcz23_0 : w19.cell? ⟨gb110, 0, none⟩ = some (.int .i64 0) := (blk_cell BK110.out 0).trans rfl; have hcz23_1 : w19.cell? ⟨gb110, 1, none⟩ = some (.int .i64 0) := (blk_cell BK110.out 1).trans rfl; have hfz23_0 := blk_frozen BK110.out 0; have hfz23_1 := blk_frozen BK110.out 1) | (go_at_call 34; (with_reducible refine (wire_Drop.calls k (wrap64 (1 + (Int.tmod (wrap64 (a0_0)) 1000))) (wrap64 (1 + (Int.tmod (wrap64 (a0_1)) 100))) (wrap64 (1 + (wrap64 (a0_2)))) 0 t111 t112 t113 _ A7.out).mono ?_); rintro e w24 ⟨rfl, hb⟩; have n0_ := Aside0.mk (blk_below (g := gb101) (o := .cells #[.int .u16 a0_0, .int .u16 a0_1, .int .u16 a0_2] 65 (0, 0)) (bkF2 BK101 NB101_110) hb); have n1_ := Aside0.mk (blk_below (g := gb102) (o := .cells #[.int .u16 a2_0, .int .u16 a2_1] 66 (0, 0)) (bkF2 BK102 NB102_110) hb); have n2_ := Aside0.mk (blk_below (g := gb106) (o := .cells #[.int .i64 t103, .int .i64 t104] 55 (0, 0)) (bkF2 BK106 NB106_110) hb); have n3_ := Aside0.mk (blk_below (g := gb110) (o := .cells #[.int .i64 t107, .int .i64 t108] 55 (0, 0)) (by (with_reducible repeat (first | refine blk_drewN ?_ _ | refine blk_drew ?_ | refine blk_alloc ?_ _)); refine blk_put (cs := #[.int .i64 t107, .int .i64 0]) ?_ 1 _ rfl; (with_reducible repeat (first | refine blk_drewN ?_ _ | refine blk_drew ?_ | refine blk_alloc ?_ _)); refine blk_put (cs := #[.int .i64 0, .int .i64 0]) ?_ 0 _ rfl; (with_reducible repeat (first | refine blk_drewN ?_ _ | refine blk_drew ?_ | refine blk_alloc ?_ _)); exact BK110.out) hb); have n4_ := Aside0.mk (below_step (by repeat (first | (with_reducible first | exact HB.out | apply below_alloc | apply pw_below_drewN | apply below_drew1 | refine below_set ?_ GE101.out | refine below_set ?_ GE102.out | refine below_set ?_ GE106.out | refine below_set ?_ GE110.out) | exact HB.out)) hb); clear BK101; clear BK102; clear BK106; clear BK110; clear HB; have BK101 := n0_; have BK102 := n1_; have BK106 := n2_; have BK110 := n3_; have HB := n4_; clear n0_ n1_ n2_ n3_ n4_; (try clear hb); (try clear hb2); (try clear hk); (try clear hi)) | ((with_reducible refine gate_dst (N := 15) rfl ?_); (try (refine gate_guard (by rfl) ?_; dsimp only)); refine box_event ?hg (N := 15) ?hd (cs := #[.int .i64 0, .int .i64 0]) (t := 55) ?hr ?_; (case hd => rfl); (case hg => rfl); (case hr => first | (go_simp; done) | (go_simp; rfl)); intro gb114 hg w25 hbox hb; have n0_ := Aside0.mk (bkB BK101 hb); have n1_ := Aside0.mk (bkB BK102 hb); have n2_ := Aside0.mk (bkB BK106 hb); have n3_ := Aside0.mk (bkB BK110 hb); have n4_ := Aside0.mk (below_step (by repeat (first | (with_reducible first | exact HB.out | apply below_alloc | apply pw_below_drewN | apply below_drew1 | refine below_set ?_ GE101.out | refine below_set ?_ GE102.out | refine below_set ?_ GE106.out | refine below_set ?_ GE110.out) | exact HB.out)) hb); have n5_ := Aside0.mk (hbox); have n6_ := Aside0.mk ((by rw [hg]; exact (below_size (by repeat (first | (with_reducible first | exact HB.out | apply below_alloc | apply pw_below_drewN | apply below_drew1 | refine below_set ?_ GE101.out | refine below_set ?_ GE102.out | refine below_set ?_ GE106.out | refine below_set ?_ GE110.out) | exact HB.out))) : w.heap.size ≤ gb114)); have n7_ := Aside0.mk ((by rw [hg]; exact (below_size (by repeat (first | (with_reducible first | exact HB.out | apply below_alloc | apply pw_below_drewN | apply below_drew1 | refine below_set ?_ GE101.out | refine below_set ?_ GE102.out | refine below_set ?_ GE106.out | refine below_set ?_ GE110.out) | exact HB.out))) : w.heap.size ≤ gb114)); have n8_ := Aside0.mk ((bkL BK101 hg : gb101 ≠ gb114)); have n9_ := Aside0.mk ((bkG BK101 hg : gb114 ≠ gb101)); have n10_ := Aside0.mk ((bkL BK102 hg : gb102 ≠ gb114)); have n11_ := Aside0.mk ((bkG BK102 hg : gb114 ≠ gb102)); have n12_ := Aside0.mk ((bkL BK106 hg : gb106 ≠ gb114)); have n13_ := Aside0.mk ((bkG BK106 hg : gb114 ≠ gb106)); have n14_ := Aside0.mk ((bkL BK110 hg : gb110 ≠ gb114)); have n15_ := Aside0.mk ((bkG BK110 hg : gb114 ≠ gb110)); clear BK101; clear BK102; clear BK106; clear BK110; clear HB; have BK101 := n0_; have BK102 := n1_; have BK106 := n2_; have BK110 := n3_; have HB := n4_; have BK114 := n5_; have GW114 := n6_; have GE114 := n7_; have NB101_114 := n8_; have NB114_101 := n9_; have NB102_114 := n10_; have NB114_102 := n11_; have NB106_114 := n12_; have NB114_106 := n13_; have NB110_114 := n14_; have NB114_110 := n15_; clear n0_ n1_ n2_ n3_ n4_ n5_ n6_ n7_ n8_ n9_ n10_ n11_ n12_ n13_ n14_ n15_; clear hb hbox hg; have hnb26 := NB114_101.out; have hnc26 := NB101_114.out; have hnb27 := NB114_102.out; have hnc27 := NB102_114.out; have hnb28 := NB114_106.out; have hnc28 := NB106_114.out; have hnb29 := NB114_110.out; have hnc29 := NB110_114.out; have hcz30_0 : w25.cell? ⟨gb114, 0, none⟩ = some (.int .i64 0) := (blk_cell BK114.out 0).trans rfl; have hcz30_1 : w25.cell? ⟨gb114, 1, none⟩ = some (.int .i64 0) := (blk_cell BK114.out 1).trans rfl; have hfz30_0 := blk_frozen BK114.out 0; have hfz30_1 := blk_frozen BK114.out 1)); go_upto_region 6 with (first | ((with_reducible refine gate_dst (N := 3) rfl ?_); (try (refine gate_guard (by rfl) ?_; dsimp only)); refine box_event ?hg (N := 3) ?hd (cs := #[.int .u16 a0_0, .int .u16 a0_1, .int .u16 a0_2]) (t := 65) ?hr ?_; (case hd => rfl); (case hg => rfl); (case hr => first | (go_simp; done) | (go_simp; rfl)); intro gb101 hg w9 hbox hb; have n0_ := Aside0.mk (below_step (by repeat (first | (with_reducible first | exact HB.out | apply below_alloc | apply pw_below_drewN | apply below_drew1) | exact HB.out)) hb); have n1_ := Aside0.mk (hbox); have n2_ := Aside0.mk ((by rw [hg]; exact (below_size (by repeat (first | (with_reducible first | exact HB.out | apply below_alloc | apply pw_below_drewN | apply below_drew1) | exact HB.out))) : w.heap.size ≤ gb101)); have n3_ := Aside0.mk ((by rw [hg]; exact (below_size (by repeat (first | (with_reducible first | exact HB.out | apply below_alloc | apply pw_below_drewN | apply below_drew1) | exact HB.out))) : w.heap.size ≤ gb101)); clear HB; have HB := n0_; have BK101 := n1_; have GW101 := n2_; have GE101 := n3_; clear n0_ n1_ n2_ n3_; clear hb hbox hg) | ((with_reducible refine gate_dst (N := 5) rfl ?_); (try (refine gate_guard (by rfl) ?_; dsimp only)); refine box_event ?hg (N := 5) ?hd (cs := #[.int .u16 a2_0, .int .u16 a2_1]) (t := 66) ?hr ?_; (case hd => rfl); (case hg => rfl); (case hr => first | (go_simp; done) | (go_simp; rfl)); intro gb102 hg w10 hbox hb; have n0_ := Aside0.mk (bkB BK101 hb); have n1_ := Aside0.mk (below_step (by repeat (first | (with_reducible first | exact HB.out | apply below_alloc | apply pw_below_drewN | apply below_drew1 | refine below_set ?_ GE101.out) | exact HB.out)) hb); have n2_ := Aside0.mk (hbox); have n3_ := Aside0.mk ((by rw [hg]; exact (below_size (by repeat (first | (with_reducible first | exact HB.out | apply below_alloc | apply pw_below_drewN | apply below_drew1 | refine below_set ?_ GE101.out) | exact HB.out))) : w.heap.size ≤ gb102)); have n4_ := Aside0.mk ((by rw [hg]; exact (below_size (by repeat (first | (with_reducible first | exact HB.out | apply below_alloc | apply pw_below_drewN | apply below_drew1 | refine below_set ?_ GE101.out) | exact HB.out))) : w.heap.size ≤ gb102)); have n5_ := Aside0.mk ((bkL BK101 hg : gb101 ≠ gb102)); have n6_ := Aside0.mk ((bkG BK101 hg : gb102 ≠ gb101)); clear BK101; clear HB; have BK101 := n0_; have HB := n1_; have BK102 := n2_; have GW102 := n3_; have GE102 := n4_; have NB101_102 := n5_; have NB102_101 := n6_; clear n0_ n1_ n2_ n3_ n4_ n5_ n6_; clear hb hbox hg; have hnb11 := NB101_102.out; have hnc11 := NB102_101.out; have hcz12_0 : w10.cell? ⟨gb101, 0, none⟩ = some (.int .u16 a0_0) := (blk_cell BK101.out 0).trans rfl; have hcz12_1 : w10.cell? ⟨gb101, 1, none⟩ = some (.int .u16 a0_1) := (blk_cell BK101.out 1).trans rfl; have hcz12_2 : w10.cell? ⟨gb101, 2, none⟩ = some (.int .u16 a0_2) := (blk_cell BK101.out 2).trans rfl; have hfz12_0 := blk_frozen BK101.out 0; have hfz12_1 := blk_frozen BK101.out 1; have hfz12_2 := blk_frozen BK101.out 2) | (go_at_call 34; (with_reducible refine (wire_Drop.calls k (wrap64 (1 + (Int.tmod (wrap64 (a0_0)) 1000))) (wrap64 (1 + (Int.tmod (wrap64 (a0_1)) 100))) (wrap64 (1 + (wrap64 (a0_2)))) (Int.tmod (wrap64 (a1)) (wrap64 ((wrap64 (1 + (Int.tmod (wrap64 (a0_1)) 100))) + 1))) t103 t104 t105 _ A5.out).mono ?_); rintro e w13 ⟨rfl, hb⟩; have n0_ := Aside0.mk (bkB BK101 hb); have n1_ := Aside0.mk (bkB BK102 hb); have n2_ := Aside0.mk (below_step (by repeat (first | (with_reducible first | exact HB.out | apply below_alloc | apply pw_below_drewN | apply below_drew1 | refine below_set ?_ GE101.out | refine below_set ?_ GE102.out) | exact HB.out)) hb); clear BK101; clear BK102; clear HB; have BK101 := n0_; have BK102 := n1_; have HB := n2_; clear n0_ n1_ n2_; (try clear hb); (try clear hb2); (try clear hk); (try clear hi)) | ((with_reducible refine gate_dst (N := 11) rfl ?_); (try (refine gate_guard (by rfl) ?_; dsimp only)); refine box_event ?hg (N := 11) ?hd (cs := #[.int .i64 0, .int .i64 0]) (t := 55) ?hr ?_; (case hd => rfl); (case hg => rfl); (case hr => first | (go_simp; done) | (go_simp; rfl)); intro gb106 hg w14 hbox hb; have n0_ := Aside0.mk (bkB BK101 hb); have n1_ := Aside0.mk (bkB BK102 hb); have n2_ := Aside0.mk (below_step (by repeat (first | (with_reducible first | exact HB.out | apply below_alloc | apply pw_below_drewN | apply below_drew1 | refine below_set ?_ GE101.out | refine below_set ?_ GE102.out) | exact HB.out)) hb); have n3_ := Aside0.mk (hbox); have n4_ := Aside0.mk ((by rw [hg]; exact (below_size (by repeat (first | (with_reducible first | exact HB.out | apply below_alloc | apply pw_below_drewN | apply below_drew1 | refine below_set ?_ GE101.out | refine below_set ?_ GE102.out) | exact HB.out))) : w.heap.size ≤ gb106)); have n5_ := Aside0.mk ((by rw [hg]; exact (below_size (by repeat (first | (with_reducible first | exact HB.out | apply below_alloc | apply pw_below_drewN | apply below_drew1 | refine below_set ?_ GE101.out | refine below_set ?_ GE102.out) | exact HB.out))) : w.heap.size ≤ gb106)); have n6_ := Aside0.mk ((bkL BK101 hg : gb101 ≠ gb106)); have n7_ := Aside0.mk ((bkG BK101 hg : gb106 ≠ gb101)); have n8_ := Aside0.mk ((bkL BK102 hg : gb102 ≠ gb106)); have n9_ := Aside0.mk ((bkG BK102 hg : gb106 ≠ gb102)); clear BK101; clear BK102; clear HB; have BK101 := n0_; have BK102 := n1_; have HB := n2_; have BK106 := n3_; have GW106 := n4_; have GE106 := n5_; have NB101_106 := n6_; have NB106_101 := n7_; have NB102_106 := n8_; have NB106_102 := n9_; clear n0_ n1_ n2_ n3_ n4_ n5_ n6_ n7_ n8_ n9_; clear hb hbox hg; have hnb15 := NB106_101.out; have hnc15 := NB101_106.out; have hnb16 := NB106_102.out; have hnc16 := NB102_106.out; have hcz17_0 : w14.cell? ⟨gb106, 0, none⟩ = some (.int .i64 0) := (blk_cell BK106.out 0).trans rfl; have hcz17_1 : w14.cell? ⟨gb106, 1, none⟩ = some (.int .i64 0) := (blk_cell BK106.out 1).trans rfl; have hfz17_0 := blk_frozen BK106.out 0; have hfz17_1 := blk_frozen BK106.out 1) | (go_at_call 34; (with_reducible refine (wire_Drop.calls k (wrap64 (1 + (Int.tmod (wrap64 (a0_0)) 1000))) (wrap64 (1 + (Int.tmod (wrap64 (a0_1)) 100))) (wrap64 (1 + (wrap64 (a0_2)))) (wrap64 ((wrap64 (1 + (Int.tmod (wrap64 (a0_1)) 100))) - (Int.tmod (wrap64 (a1)) (wrap64 ((wrap64 (1 + (Int.tmod (wrap64 (a0_1)) 100))) + 1))))) t107 t108 t109 _ A6.out).mono ?_); rintro e w18 ⟨rfl, hb⟩; have n0_ := Aside0.mk (blk_below (g := gb101) (o := .cells #[.int .u16 a0_0, .int .u16 a0_1, .int .u16 a0_2] 65 (0, 0)) (bkF2 BK101 NB101_106) hb); have n1_ := Aside0.mk (blk_below (g := gb102) (o := .cells #[.int .u16 a2_0, .int .u16 a2_1] 66 (0, 0)) (bkF2 BK102 NB102_106) hb); have n2_ := Aside0.mk (blk_below (g := gb106) (o := .cells #[.int .i64 t103, .int .i64 t104] 55 (0, 0)) (by (with_reducible repeat (first | refine blk_drewN ?_ _ | refine blk_drew ?_ | refine blk_alloc ?_ _)); refine blk_put (cs := #[.int .i64 t103, .int .i64 0]) ?_ 1 _ rfl; (with_reducible repeat (first | refine blk_drewN ?_ _ | refine blk_drew ?_ | refine blk_alloc ?_ _)); refine blk_put (cs := #[.int .i64 0, .int .i64 0]) ?_ 0 _ rfl; (with_reducible repeat (first | refine blk_drewN ?_ _ | refine blk_drew ?_ | refine blk_alloc ?_ _)); exact BK106.out) hb); have n3_ := Aside0.mk (below_step (by repeat (first | (with_reducible first | exact HB.out | apply below_alloc | apply pw_below_drewN | apply below_drew1 | refine below_set ?_ GE101.out | refine below_set ?_ GE102.out | refine below_set ?_ GE106.out) | exact HB.out)) hb); clear BK101; clear BK102; clear BK106; clear HB; have BK101 := n0_; have BK102 := n1_; have BK106 := n2_; have HB := n3_; clear n0_ n1_ n2_ n3_; (try clear hb); (try clear hb2); (try clear hk); (try clear hi)) | ((with_reducible refine gate_dst (N := 13) rfl ?_); (try (refine gate_guard (by rfl) ?_; dsimp only)); refine box_event ?hg (N := 13) ?hd (cs := #[.int .i64 0, .int .i64 0]) (t := 55) ?hr ?_; (case hd => rfl); (case hg => rfl); (case hr => first | (go_simp; done) | (go_simp; rfl)); intro gb110 hg w19 hbox hb; have n0_ := Aside0.mk (bkB BK101 hb); have n1_ := Aside0.mk (bkB BK102 hb); have n2_ := Aside0.mk (bkB BK106 hb); have n3_ := Aside0.mk (below_step (by repeat (first | (with_reducible first | exact HB.out | apply below_alloc | apply pw_below_drewN | apply below_drew1 | refine below_set ?_ GE101.out | refine below_set ?_ GE102.out | refine below_set ?_ GE106.out) | exact HB.out)) hb); have n4_ := Aside0.mk (hbox); have n5_ := Aside0.mk ((by rw [hg]; exact (below_size (by repeat (first | (with_reducible first | exact HB.out | apply below_alloc | apply pw_below_drewN | apply below_drew1 | refine below_set ?_ GE101.out | refine below_set ?_ GE102.out | refine below_set ?_ GE106.out) | exact HB.out))) : w.heap.size ≤ gb110)); have n6_ := Aside0.mk ((by rw [hg]; exact (below_size (by repeat (first | (with_reducible first | exact HB.out | apply below_alloc | apply pw_below_drewN | apply below_drew1 | refine below_set ?_ GE101.out | refine below_set ?_ GE102.out | refine below_set ?_ GE106.out) | exact HB.out))) : w.heap.size ≤ gb110)); have n7_ := Aside0.mk ((bkL BK101 hg : gb101 ≠ gb110)); have n8_ := Aside0.mk ((bkG BK101 hg : gb110 ≠ gb101)); have n9_ := Aside0.mk ((bkL BK102 hg : gb102 ≠ gb110)); have n10_ := Aside0.mk ((bkG BK102 hg : gb110 ≠ gb102)); have n11_ := Aside0.mk ((bkL BK106 hg : gb106 ≠ gb110)); have n12_ := Aside0.mk ((bkG BK106 hg : gb110 ≠ gb106)); clear BK101; clear BK102; clear BK106; clear HB; have BK101 := n0_; have BK102 := n1_; have BK106 := n2_; have HB := n3_; have BK110 := n4_; have GW110 := n5_; have GE110 := n6_; have NB101_110 := n7_; have NB110_101 := n8_; have NB102_110 := n9_; have NB110_102 := n10_; have NB106_110 := n11_; have NB110_106 := n12_; clear n0_ n1_ n2_ n3_ n4_ n5_ n6_ n7_ n8_ n9_ n10_ n11_ n12_; clear hb hbox hg; have hnb20 := NB110_101.out; have hnc20 := NB101_110.out; have hnb21 := NB110_102.out; have hnc21 := NB102_110.out; have hnb22 := NB110_106.out; have hnc22 := NB106_110.out; have hcz23_0 : w19.cell? ⟨gb110, 0, none⟩ = some (.int .i64 0) := (blk_cell BK110.out 0).trans rfl; have hcz23_1 : w19.cell? ⟨gb110, 1, none⟩ = some (.int .i64 0) := (blk_cell BK110.out 1).trans rfl; have hfz23_0 := blk_frozen BK110.out 0; have hfz23_1 := blk_frozen BK110.out 1) | (go_at_call 34; (with_reducible refine (wire_Drop.calls k (wrap64 (1 + (Int.tmod (wrap64 (a0_0)) 1000))) (wrap64 (1 + (Int.tmod (wrap64 (a0_1)) 100))) (wrap64 (1 + (wrap64 (a0_2)))) 0 t111 t112 t113 _ A7.out).mono ?_); rintro e w24 ⟨rfl, hb⟩; have n0_ := Aside0.mk (blk_below (g := gb101) (o := .cells #[.int .u16 a0_0, .int .u16 a0_1, .int .u16 a0_2] 65 (0, 0)) (bkF2 BK101 NB101_110) hb); have n1_ := Aside0.mk (blk_below (g := gb102) (o := .cells #[.int .u16 a2_0, .int .u16 a2_1] 66 (0, 0)) (bkF2 BK102 NB102_110) hb); have n2_ := Aside0.mk (blk_below (g := gb106) (o := .cells #[.int .i64 t103, .int .i64 t104] 55 (0, 0)) (bkF2 BK106 NB106_110) hb); have n3_ := Aside0.mk (blk_below (g := gb110) (o := .cells #[.int .i64 t107, .int .i64 t108] 55 (0, 0)) (by (with_reducible repeat (first | refine blk_drewN ?_ _ | refine blk_drew ?_ | refine blk_alloc ?_ _)); refine blk_put (cs := #[.int .i64 t107, .int .i64 0]) ?_ 1 _ rfl; (with_reducible repeat (first | refine blk_drewN ?_ _ | refine blk_drew ?_ | refine blk_alloc ?_ _)); refine blk_put (cs := #[.int .i64 0, .int .i64 0]) ?_ 0 _ rfl; (with_reducible repeat (first | refine blk_drewN ?_ _ | refine blk_drew ?_ | refine blk_alloc ?_ _)); exact BK110.out) hb); have n4_ := Aside0.mk (below_step (by repeat (first | (with_reducible first | exact HB.out | apply below_alloc | apply pw_below_drewN | apply below_drew1 | refine below_set ?_ GE101.out | refine below_set ?_ GE102.out | refine below_set ?_ GE106.out | refine below_set ?_ GE110.out) | exact HB.out)) hb); clear BK101; clear BK102; clear BK106; clear BK110; clear HB; have BK101 := n0_; have BK102 := n1_; have BK106 := n2_; have BK110 := n3_; have HB := n4_; clear n0_ n1_ n2_ n3_ n4_; (try clear hb); (try clear hb2); (try clear hk); (try clear hi)) | ((with_reducible refine gate_dst (N := 15) rfl ?_); (try (refine gate_guard (by rfl) ?_; dsimp only)); refine box_event ?hg (N := 15) ?hd (cs := #[.int .i64 0, .int .i64 0]) (t := 55) ?hr ?_; (case hd => rfl); (case hg => rfl); (case hr => first | (go_simp; done) | (go_simp; rfl)); intro gb114 hg w25 hbox hb; have n0_ := Aside0.mk (bkB BK101 hb); have n1_ := Aside0.mk (bkB BK102 hb); have n2_ := Aside0.mk (bkB BK106 hb); have n3_ := Aside0.mk (bkB BK110 hb); have n4_ := Aside0.mk (below_step (by repeat (first | (with_reducible first | exact HB.out | apply below_alloc | apply pw_below_drewN | apply below_drew1 | refine below_set ?_ GE101.out | refine below_set ?_ GE102.out | refine below_set ?_ GE106.out | refine below_set ?_ GE110.out) | exact HB.out)) hb); have n5_ := Aside0.mk (hbox); have n6_ := Aside0.mk ((by rw [hg]; exact (below_size (by repeat (first | (with_reducible first | exact HB.out | apply below_alloc | apply pw_below_drewN | apply below_drew1 | refine below_set ?_ GE101.out | refine below_set ?_ GE102.out | refine below_set ?_ GE106.out | refine below_set ?_ GE110.out) | exact HB.out))) : w.heap.size ≤ gb114)); have n7_ := Aside0.mk ((by rw [hg]; exact (below_size (by repeat (first | (with_reducible first | exact HB.out | apply below_alloc | apply pw_below_drewN | apply below_drew1 | refine below_set ?_ GE101.out | refine below_set ?_ GE102.out | refine below_set ?_ GE106.out | refine below_set ?_ GE110.out) | exact HB.out))) : w.heap.size ≤ gb114)); have n8_ := Aside0.mk ((bkL BK101 hg : gb101 ≠ gb114)); have n9_ := Aside0.mk ((bkG BK101 hg : gb114 ≠ gb101)); have n10_ := Aside0.mk ((bkL BK102 hg : gb102 ≠ gb114)); have n11_ := Aside0.mk ((bkG BK102 hg : gb114 ≠ gb102)); have n12_ := Aside0.mk ((bkL BK106 hg : gb106 ≠ gb114)); have n13_ := Aside0.mk ((bkG BK106 hg : gb114 ≠ gb106)); have n14_ := Aside0.mk ((bkL BK110 hg : gb110 ≠ gb114)); have n15_ := Aside0.mk ((bkG BK110 hg : gb114 ≠ gb110)); clear BK101; clear BK102; clear BK106; clear BK110; clear HB; have BK101 := n0_; have BK102 := n1_; have BK106 := n2_; have BK110 := n3_; have HB := n4_; have BK114 := n5_; have GW114 := n6_; have GE114 := n7_; have NB101_114 := n8_; have NB114_101 := n9_; have NB102_114 := n10_; have NB114_102 := n11_; have NB106_114 := n12_; have NB114_106 := n13_; have NB110_114 := n14_; have NB114_110 := n15_; clear n0_ n1_ n2_ n3_ n4_ n5_ n6_ n7_ n8_ n9_ n10_ n11_ n12_ n13_ n14_ n15_; clear hb hbox hg; have hnb26 := NB114_101.out; have hnc26 := NB101_114.out; have hnb27 := NB114_102.out; have hnc27 := NB102_114.out; have hnb28 := NB114_106.out; have hnc28 := NB106_114.out; have hnb29 := NB114_110.out; have hnc29 := NB110_114.out; have hcz30_0 : w25.cell? ⟨gb114, 0, none⟩ = some (.int .i64 0) := (blk_cell BK114.out 0).trans rfl; have hcz30_1 : w25.cell? ⟨gb114, 1, none⟩ = some (.int .i64 0) := (blk_cell BK114.out 1).trans rfl; have hfz30_0 := blk_frozen BK114.out 0; have hfz30_1 := blk_frozen BK114.out 1)))
  (try simp only [Act.put, List.setIfInBounds_toArray, List.set_cons_zero, List.set_cons_succ])
  go_cut [87] (fun v87 wc => ∃ (kq : Nat) (x87_7 : Bool), v87 = .bool x87_7 ∧ Aside0 (dropperlaw02_WireDroppers.j0 kq (wrap64 (1 + (Int.tmod (wrap64 (a0_0)) 1000))) (wrap64 (1 + (Int.tmod (wrap64 (a0_1)) 100))) (wrap64 (1 + (wrap64 (a0_2)))) x87_7 a2_0 a2_1 t103 t104 = some r) ∧ Aside0 (kq ≤ k) ∧ Aside0 (wc.heap[gb101]? = some (.cells #[.int .u16 a0_0, .int .u16 a0_1, .int .u16 a0_2] 65 (0, 0))) ∧ Aside0 (wc.heap[gb102]? = some (.cells #[.int .u16 a2_0, .int .u16 a2_1] 66 (0, 0))) ∧ Aside0 (wc.heap[gb106]? = some (.cells #[.int .i64 t103, .int .i64 t104] 55 (0, 0))) ∧ Aside0 (wc.heap[gb110]? = some (.cells #[.int .i64 t107, .int .i64 t108] 55 (0, 0))) ∧ Aside0 (wc.heap[gb114]? = some (.cells #[.int .i64 t111, .int .i64 t112] 55 (0, 0))) ∧ Aside0 (Below w.heap.size w wc))
  case first =>
    have H := HC8.out
    clear HC8
    by_cases c31 : t105 = 0
    rotate_left
    · rw [if_neg c31] at H
      have c31b0 : (t105 == 0) = false := beq_eq_false_iff_ne.mpr c31
      have c31b1 : (t105 != 0) = true := bne_iff_ne.mpr c31
      (first | rw [c31b0] | (simp only [i64_w, i32_w]; rw [c31b0]) | skip)
      have H' := Aside0.mk H
      clear H
      go_wp2
      repeat (go_quiet (fail); try go_wp2)
      go_meet
      case rel => exact ⟨_, (true), (by first | rfl | (simp; done) | (simp [*]; done)), H', ⟨by first | omega | exact Nat.le_refl _⟩, ⟨by (with_reducible repeat (first | refine blk_drewN ?_ _ | refine blk_drew ?_ | refine blk_alloc ?_ _)); refine blk_far ?_ NB101_114.out _; (with_reducible repeat (first | refine blk_drewN ?_ _ | refine blk_drew ?_ | refine blk_alloc ?_ _)); refine blk_far ?_ NB101_114.out _; (with_reducible repeat (first | refine blk_drewN ?_ _ | refine blk_drew ?_ | refine blk_alloc ?_ _)); exact BK101.out⟩, ⟨by (with_reducible repeat (first | refine blk_drewN ?_ _ | refine blk_drew ?_ | refine blk_alloc ?_ _)); refine blk_far ?_ NB102_114.out _; (with_reducible repeat (first | refine blk_drewN ?_ _ | refine blk_drew ?_ | refine blk_alloc ?_ _)); refine blk_far ?_ NB102_114.out _; (with_reducible repeat (first | refine blk_drewN ?_ _ | refine blk_drew ?_ | refine blk_alloc ?_ _)); exact BK102.out⟩, ⟨by (with_reducible repeat (first | refine blk_drewN ?_ _ | refine blk_drew ?_ | refine blk_alloc ?_ _)); refine blk_far ?_ NB106_114.out _; (with_reducible repeat (first | refine blk_drewN ?_ _ | refine blk_drew ?_ | refine blk_alloc ?_ _)); refine blk_far ?_ NB106_114.out _; (with_reducible repeat (first | refine blk_drewN ?_ _ | refine blk_drew ?_ | refine blk_alloc ?_ _)); exact BK106.out⟩, ⟨by (with_reducible repeat (first | refine blk_drewN ?_ _ | refine blk_drew ?_ | refine blk_alloc ?_ _)); refine blk_far ?_ NB110_114.out _; (with_reducible repeat (first | refine blk_drewN ?_ _ | refine blk_drew ?_ | refine blk_alloc ?_ _)); refine blk_far ?_ NB110_114.out _; (with_reducible repeat (first | refine blk_drewN ?_ _ | refine blk_drew ?_ | refine blk_alloc ?_ _)); exact BK110.out⟩, ⟨by (with_reducible repeat (first | refine blk_drewN ?_ _ | refine blk_drew ?_ | refine blk_alloc ?_ _)); refine blk_put (cs := #[.int .i64 t111, .int .i64 0]) ?_ 1 _ rfl; (with_reducible repeat (first | refine blk_drewN ?_ _ | refine blk_drew ?_ | refine blk_alloc ?_ _)); refine blk_put (cs := #[.int .i64 0, .int .i64 0]) ?_ 0 _ rfl; (with_reducible repeat (first | refine blk_drewN ?_ _ | refine blk_drew ?_ | refine blk_alloc ?_ _)); exact BK114.out⟩, ⟨by repeat (first | (with_reducible first | exact HB.out | apply below_alloc | apply pw_below_drewN | apply below_drew1 | refine below_set ?_ GE101.out | refine below_set ?_ GE102.out | refine below_set ?_ GE106.out | refine below_set ?_ GE110.out | refine below_set ?_ GE114.out) | exact HB.out)⟩⟩
    rw [if_pos c31] at H
    have c31b0 : (t105 == 0) = true := beq_iff_eq.mpr c31
    have c31b1 : (t105 != 0) = false := bne_eq_false_iff_eq.mpr c31
    clear c31
    (first | rw [c31b0] | (simp only [i64_w, i32_w]; rw [c31b0]) | skip)
    by_cases c32 : t109 = 0
    rotate_left
    · rw [if_neg c32] at H
      have c32b0 : (t109 == 0) = false := beq_eq_false_iff_ne.mpr c32
      have c32b1 : (t109 != 0) = true := bne_iff_ne.mpr c32
      have H' := Aside0.mk H
      clear H
      go_wp2
      repeat (go_quiet (fail); try go_wp2)
      go_meet
      case rel => exact ⟨_, (true), (by first | rfl | (simp; done) | (simp [*]; done)), H', ⟨by first | omega | exact Nat.le_refl _⟩, ⟨by (with_reducible repeat (first | refine blk_drewN ?_ _ | refine blk_drew ?_ | refine blk_alloc ?_ _)); refine blk_far ?_ NB101_114.out _; (with_reducible repeat (first | refine blk_drewN ?_ _ | refine blk_drew ?_ | refine blk_alloc ?_ _)); refine blk_far ?_ NB101_114.out _; (with_reducible repeat (first | refine blk_drewN ?_ _ | refine blk_drew ?_ | refine blk_alloc ?_ _)); exact BK101.out⟩, ⟨by (with_reducible repeat (first | refine blk_drewN ?_ _ | refine blk_drew ?_ | refine blk_alloc ?_ _)); refine blk_far ?_ NB102_114.out _; (with_reducible repeat (first | refine blk_drewN ?_ _ | refine blk_drew ?_ | refine blk_alloc ?_ _)); refine blk_far ?_ NB102_114.out _; (with_reducible repeat (first | refine blk_drewN ?_ _ | refine blk_drew ?_ | refine blk_alloc ?_ _)); exact BK102.out⟩, ⟨by (with_reducible repeat (first | refine blk_drewN ?_ _ | refine blk_drew ?_ | refine blk_alloc ?_ _)); refine blk_far ?_ NB106_114.out _; (with_reducible repeat (first | refine blk_drewN ?_ _ | refine blk_drew ?_ | refine blk_alloc ?_ _)); refine blk_far ?_ NB106_114.out _; (with_reducible repeat (first | refine blk_drewN ?_ _ | refine blk_drew ?_ | refine blk_alloc ?_ _)); exact BK106.out⟩, ⟨by (with_reducible repeat (first | refine blk_drewN ?_ _ | refine blk_drew ?_ | refine blk_alloc ?_ _)); refine blk_far ?_ NB110_114.out _; (with_reducible repeat (first | refine blk_drewN ?_ _ | refine blk_drew ?_ | refine blk_alloc ?_ _)); refine blk_far ?_ NB110_114.out _; (with_reducible repeat (first | refine blk_drewN ?_ _ | refine blk_drew ?_ | refine blk_alloc ?_ _)); exact BK110.out⟩, ⟨by (with_reducible repeat (first | refine blk_drewN ?_ _ | refine blk_drew ?_ | refine blk_alloc ?_ _)); refine blk_put (cs := #[.int .i64 t111, .int .i64 0]) ?_ 1 _ rfl; (with_reducible repeat (first | refine blk_drewN ?_ _ | refine blk_drew ?_ | refine blk_alloc ?_ _)); refine blk_put (cs := #[.int .i64 0, .int .i64 0]) ?_ 0 _ rfl; (with_reducible repeat (first | refine blk_drewN ?_ _ | refine blk_drew ?_ | refine blk_alloc ?_ _)); exact BK114.out⟩, ⟨by repeat (first | (with_reducible first | exact HB.out | apply below_alloc | apply pw_below_drewN | apply below_drew1 | refine below_set ?_ GE101.out | refine below_set ?_ GE102.out | refine below_set ?_ GE106.out | refine below_set ?_ GE110.out | refine below_set ?_ GE114.out) | exact HB.out)⟩⟩
    rw [if_pos c32] at H
    have c32b0 : (t109 == 0) = true := beq_iff_eq.mpr c32
    have c32b1 : (t109 != 0) = false := bne_eq_false_iff_eq.mpr c32
    clear c32
    by_cases c33 : t113 = 0
    rotate_left
    · rw [if_neg c33] at H
      have c33b0 : (t113 == 0) = false := beq_eq_false_iff_ne.mpr c33
      have c33b1 : (t113 != 0) = true := bne_iff_ne.mpr c33
      have H' := Aside0.mk H
      clear H
      go_wp2
      repeat (go_quiet (fail); try go_wp2)
      go_meet
      case rel => exact ⟨_, (true), (by first | rfl | (simp; done) | (simp [*]; done)), H', ⟨by first | omega | exact Nat.le_refl _⟩, ⟨by (with_reducible repeat (first | refine blk_drewN ?_ _ | refine blk_drew ?_ | refine blk_alloc ?_ _)); refine blk_far ?_ NB101_114.out _; (with_reducible repeat (first | refine blk_drewN ?_ _ | refine blk_drew ?_ | refine blk_alloc ?_ _)); refine blk_far ?_ NB101_114.out _; (with_reducible repeat (first | refine blk_drewN ?_ _ | refine blk_drew ?_ | refine blk_alloc ?_ _)); exact BK101.out⟩, ⟨by (with_reducible repeat (first | refine blk_drewN ?_ _ | refine blk_drew ?_ | refine blk_alloc ?_ _)); refine blk_far ?_ NB102_114.out _; (with_reducible repeat (first | refine blk_drewN ?_ _ | refine blk_drew ?_ | refine blk_alloc ?_ _)); refine blk_far ?_ NB102_114.out _; (with_reducible repeat (first | refine blk_drewN ?_ _ | refine blk_drew ?_ | refine blk_alloc ?_ _)); exact BK102.out⟩, ⟨by (with_reducible repeat (first | refine blk_drewN ?_ _ | refine blk_drew ?_ | refine blk_alloc ?_ _)); refine blk_far ?_ NB106_114.out _; (with_reducible repeat (first | refine blk_drewN ?_ _ | refine blk_drew ?_ | refine blk_alloc ?_ _)); refine blk_far ?_ NB106_114.out _; (with_reducible repeat (first | refine blk_drewN ?_ _ | refine blk_drew ?_ | refine blk_alloc ?_ _)); exact BK106.out⟩, ⟨by (with_reducible repeat (first | refine blk_drewN ?_ _ | refine blk_drew ?_ | refine blk_alloc ?_ _)); refine blk_far ?_ NB110_114.out _; (with_reducible repeat (first | refine blk_drewN ?_ _ | refine blk_drew ?_ | refine blk_alloc ?_ _)); refine blk_far ?_ NB110_114.out _; (with_reducible repeat (first | refine blk_drewN ?_ _ | refine blk_drew ?_ | refine blk_alloc ?_ _)); exact BK110.out⟩, ⟨by (with_reducible repeat (first | refine blk_drewN ?_ _ | refine blk_drew ?_ | refine blk_alloc ?_ _)); refine blk_put (cs := #[.int .i64 t111, .int .i64 0]) ?_ 1 _ rfl; (with_reducible repeat (first | refine blk_drewN ?_ _ | refine blk_drew ?_ | refine blk_alloc ?_ _)); refine blk_put (cs := #[.int .i64 0, .int .i64 0]) ?_ 0 _ rfl; (with_reducible repeat (first | refine blk_drewN ?_ _ | refine blk_drew ?_ | refine blk_alloc ?_ _)); exact BK114.out⟩, ⟨by repeat (first | (with_reducible first | exact HB.out | apply below_alloc | apply pw_below_drewN | apply below_drew1 | refine below_set ?_ GE101.out | refine below_set ?_ GE102.out | refine below_set ?_ GE106.out | refine below_set ?_ GE110.out | refine below_set ?_ GE114.out) | exact HB.out)⟩⟩
    rw [if_pos c33] at H
    have c33b0 : (t113 == 0) = true := beq_iff_eq.mpr c33
    have c33b1 : (t113 != 0) = false := bne_eq_false_iff_eq.mpr c33
    clear c33
    by_cases c34 : (!(t103 == t107) || (!(t104 == t108))) = true
    · rw [if_pos c34] at H
      have c34b0 : (!(t103 == t107) || (!(t104 == t108))) = true := c34
      clear c34
      have H' := Aside0.mk H
      clear H
      have hnb35 := NB106_101.out
      have hnc35 := NB101_106.out
      have hnb36 := NB106_102.out
      have hnc36 := NB102_106.out
      have hnb37 := NB106_110.out
      have hnc37 := NB110_106.out
      have hnb38 := NB106_114.out
      have hnc38 := NB114_106.out
      have hcz39_0 : w25.cell? ⟨gb106, 0, none⟩ = some (.int .i64 t103) := (blk_cell BK106.out 0).trans rfl
      have hcz39_1 : w25.cell? ⟨gb106, 1, none⟩ = some (.int .i64 t104) := (blk_cell BK106.out 1).trans rfl
      have hfz39_0 := blk_frozen BK106.out 0
      have hfz39_1 := blk_frozen BK106.out 1
      have hnb40 := NB110_101.out
      have hnc40 := NB101_110.out
      have hnb41 := NB110_102.out
      have hnc41 := NB102_110.out
      have hnb42 := NB110_114.out
      have hnc42 := NB114_110.out
      have hcz43_0 : w25.cell? ⟨gb110, 0, none⟩ = some (.int .i64 t107) := (blk_cell BK110.out 0).trans rfl
      have hcz43_1 : w25.cell? ⟨gb110, 1, none⟩ = some (.int .i64 t108) := (blk_cell BK110.out 1).trans rfl
      have hfz43_0 := blk_frozen BK110.out 0
      have hfz43_1 := blk_frozen BK110.out 1
      go_wp2
      repeat (go_quiet (fail); try go_wp2)
      go_meet
      case rel => exact ⟨_, (true), (by first | rfl | (simp; done) | (simp [*]; done)), H', ⟨by first | omega | exact Nat.le_refl _⟩, ⟨by (with_reducible repeat (first | refine blk_drewN ?_ _ | refine blk_drew ?_ | refine blk_alloc ?_ _)); refine blk_far ?_ NB101_114.out _; (with_reducible repeat (first | refine blk_drewN ?_ _ | refine blk_drew ?_ | refine blk_alloc ?_ _)); refine blk_far ?_ NB101_114.out _; (with_reducible repeat (first | refine blk_drewN ?_ _ | refine blk_drew ?_ | refine blk_alloc ?_ _)); exact BK101.out⟩, ⟨by (with_reducible repeat (first | refine blk_drewN ?_ _ | refine blk_drew ?_ | refine blk_alloc ?_ _)); refine blk_far ?_ NB102_114.out _; (with_reducible repeat (first | refine blk_drewN ?_ _ | refine blk_drew ?_ | refine blk_alloc ?_ _)); refine blk_far ?_ NB102_114.out _; (with_reducible repeat (first | refine blk_drewN ?_ _ | refine blk_drew ?_ | refine blk_alloc ?_ _)); exact BK102.out⟩, ⟨by (with_reducible repeat (first | refine blk_drewN ?_ _ | refine blk_drew ?_ | refine blk_alloc ?_ _)); refine blk_far ?_ NB106_114.out _; (with_reducible repeat (first | refine blk_drewN ?_ _ | refine blk_drew ?_ | refine blk_alloc ?_ _)); refine blk_far ?_ NB106_114.out _; (with_reducible repeat (first | refine blk_drewN ?_ _ | refine blk_drew ?_ | refine blk_alloc ?_ _)); exact BK106.out⟩, ⟨by (with_reducible repeat (first | refine blk_drewN ?_ _ | refine blk_drew ?_ | refine blk_alloc ?_ _)); refine blk_far ?_ NB110_114.out _; (with_reducible repeat (first | refine blk_drewN ?_ _ | refine blk_drew ?_ | refine blk_alloc ?_ _)); refine blk_far ?_ NB110_114.out _; (with_reducible repeat (first | refine blk_drewN ?_ _ | refine blk_drew ?_ | refine blk_alloc ?_ _)); exact BK110.out⟩, ⟨by (with_reducible repeat (first | refine blk_drewN ?_ _ | refine blk_drew ?_ | refine blk_alloc ?_ _)); refine blk_put (cs := #[.int .i64 t111, .int .i64 0]) ?_ 1 _ rfl; (with_reducible repeat (first | refine blk_drewN ?_ _ | refine blk_drew ?_ | refine blk_alloc ?_ _)); refine blk_put (cs := #[.int .i64 0, .int .i64 0]) ?_ 0 _ rfl; (with_reducible repeat (first | refine blk_drewN ?_ _ | refine blk_drew ?_ | refine blk_alloc ?_ _)); exact BK114.out⟩, ⟨by repeat (first | (with_reducible first | exact HB.out | apply below_alloc | apply pw_below_drewN | apply below_drew1 | refine below_set ?_ GE101.out | refine below_set ?_ GE102.out | refine below_set ?_ GE106.out | refine below_set ?_ GE110.out | refine below_set ?_ GE114.out) | exact HB.out)⟩⟩
    rw [if_neg c34] at H
    have c34b0 : (!(t103 == t107) || (!(t104 == t108))) = false := by simpa using c34
    clear c34
    have H' := Aside0.mk H
    clear H
    have hnb44 := NB106_101.out
    have hnc44 := NB101_106.out
    have hnb45 := NB106_102.out
    have hnc45 := NB102_106.out
    have hnb46 := NB106_110.out
    have hnc46 := NB110_106.out
    have hnb47 := NB106_114.out
    have hnc47 := NB114_106.out
    have hcz48_0 : w25.cell? ⟨gb106, 0, none⟩ = some (.int .i64 t103) := (blk_cell BK106.out 0).trans rfl
    have hcz48_1 : w25.cell? ⟨gb106, 1, none⟩ = some (.int .i64 t104) := (blk_cell BK106.out 1).trans rfl
    have hfz48_0 := blk_frozen BK106.out 0
    have hfz48_1 := blk_frozen BK106.out 1
    have hnb49 := NB110_101.out
    have hnc49 := NB101_110.out
    have hnb50 := NB110_102.out
    have hnc50 := NB102_110.out
    have hnb51 := NB110_114.out
    have hnc51 := NB114_110.out
    have hcz52_0 : w25.cell? ⟨gb110, 0, none⟩ = some (.int .i64 t107) := (blk_cell BK110.out 0).trans rfl
    have hcz52_1 : w25.cell? ⟨gb110, 1, none⟩ = some (.int .i64 t108) := (blk_cell BK110.out 1).trans rfl
    have hfz52_0 := blk_frozen BK110.out 0
    have hfz52_1 := blk_frozen BK110.out 1
    have hnb53 := NB114_101.out
    have hnc53 := NB101_114.out
    have hnb54 := NB114_102.out
    have hnc54 := NB102_114.out
    have hcz55_0 : w25.cell? ⟨gb114, 0, none⟩ = some (.int .i64 0) := (blk_cell BK114.out 0).trans rfl
    have hcz55_1 : w25.cell? ⟨gb114, 1, none⟩ = some (.int .i64 0) := (blk_cell BK114.out 1).trans rfl
    have hfz55_0 := blk_frozen BK114.out 0
    have hfz55_1 := blk_frozen BK114.out 1
    go_wp2
    repeat (go_quiet (fail); try go_wp2)
    go_meet
    case rel => exact ⟨_, ((!(t111 == 0) || (!(t112 == 1)))), (by first | rfl | (simp; done) | (simp [*]; done)), H', ⟨by first | omega | exact Nat.le_refl _⟩, ⟨by (with_reducible repeat (first | refine blk_drewN ?_ _ | refine blk_drew ?_ | refine blk_alloc ?_ _)); refine blk_far ?_ NB101_114.out _; (with_reducible repeat (first | refine blk_drewN ?_ _ | refine blk_drew ?_ | refine blk_alloc ?_ _)); refine blk_far ?_ NB101_114.out _; (with_reducible repeat (first | refine blk_drewN ?_ _ | refine blk_drew ?_ | refine blk_alloc ?_ _)); exact BK101.out⟩, ⟨by (with_reducible repeat (first | refine blk_drewN ?_ _ | refine blk_drew ?_ | refine blk_alloc ?_ _)); refine blk_far ?_ NB102_114.out _; (with_reducible repeat (first | refine blk_drewN ?_ _ | refine blk_drew ?_ | refine blk_alloc ?_ _)); refine blk_far ?_ NB102_114.out _; (with_reducible repeat (first | refine blk_drewN ?_ _ | refine blk_drew ?_ | refine blk_alloc ?_ _)); exact BK102.out⟩, ⟨by (with_reducible repeat (first | refine blk_drewN ?_ _ | refine blk_drew ?_ | refine blk_alloc ?_ _)); refine blk_far ?_ NB106_114.out _; (with_reducible repeat (first | refine blk_drewN ?_ _ | refine blk_drew ?_ | refine blk_alloc ?_ _)); refine blk_far ?_ NB106_114.out _; (with_reducible repeat (first | refine blk_drewN ?_ _ | refine blk_drew ?_ | refine blk_alloc ?_ _)); exact BK106.out⟩, ⟨by (with_reducible repeat (first | refine blk_drewN ?_ _ | refine blk_drew ?_ | refine blk_alloc ?_ _)); refine blk_far ?_ NB110_114.out _; (with_reducible repeat (first | refine blk_drewN ?_ _ | refine blk_drew ?_ | refine blk_alloc ?_ _)); refine blk_far ?_ NB110_114.out _; (with_reducible repeat (first | refine blk_drewN ?_ _ | refine blk_drew ?_ | refine blk_alloc ?_ _)); exact BK110.out⟩, ⟨by (with_reducible repeat (first | refine blk_drewN ?_ _ | refine blk_drew ?_ | refine blk_alloc ?_ _)); refine blk_put (cs := #[.int .i64 t111, .int .i64 0]) ?_ 1 _ rfl; (with_reducible repeat (first | refine blk_drewN ?_ _ | refine blk_drew ?_ | refine blk_alloc ?_ _)); refine blk_put (cs := #[.int .i64 0, .int .i64 0]) ?_ 0 _ rfl; (with_reducible repeat (first | refine blk_drewN ?_ _ | refine blk_drew ?_ | refine blk_alloc ?_ _)); exact BK114.out⟩, ⟨by repeat (first | (with_reducible first | exact HB.out | apply below_alloc | apply pw_below_drewN | apply below_drew1 | refine below_set ?_ GE101.out | refine below_set ?_ GE102.out | refine below_set ?_ GE106.out | refine below_set ?_ GE110.out | refine below_set ?_ GE114.out) | exact HB.out)⟩⟩
  case rest =>
    clear HC8
    try clear c1
    try clear c2
    try clear p2
    try clear c3
    try clear c4
    try clear c4b0
    try clear c4b1
    try clear c5
    try clear p6
    try clear c8
    try clear c11
    try clear c15
    try clear c16
    try clear c20
    try clear c21
    try clear c22
    try clear c26
    try clear c27
    try clear c28
    try clear c29
    try clear c31
    try clear c31b0
    try clear c31b1
    try clear c32
    try clear c32b0
    try clear c32b1
    try clear c33
    try clear c33b0
    try clear c33b1
    try clear c34
    try clear c34b0
    try clear c35
    try clear c36
    try clear c37
    try clear c38
    try clear c40
    try clear c41
    try clear c42
    try clear c44
    try clear c45
    try clear c46
    try clear c47
    try clear c49
    try clear c50
    try clear c51
    try clear c53
    try clear c54
    try clear hcz12_0
    try clear hcz12_1
    try clear hcz12_2
    try clear hcz17_0
    try clear hcz17_1
    try clear hcz23_0
    try clear hcz23_1
    try clear hcz30_0
    try clear hcz30_1
    try clear hcz39_0
    try clear hcz39_1
    try clear hcz43_0
    try clear hcz43_1
    try clear hcz48_0
    try clear hcz48_1
    try clear hcz52_0
    try clear hcz52_1
    try clear hcz55_0
    try clear hcz55_1
    try clear hfz12_0
    try clear hfz12_1
    try clear hfz12_2
    try clear hfz17_0
    try clear hfz17_1
    try clear hfz23_0
    try clear hfz23_1
    try clear hfz30_0
    try clear hfz30_1
    try clear hfz39_0
    try clear hfz39_1
    try clear hfz43_0
    try clear hfz43_1
    try clear hfz48_0
    try clear hfz48_1
    try clear hfz52_0
    try clear hfz52_1
    try clear hfz55_0
    try clear hfz55_1
    obtain ⟨kq, x87_7, rfl, HA, HJ7, BK101, BK102, BK106, BK110, BK114, HB⟩ := hcut
    cases kq with
    | zero => exact absurd HA.out (by simp [dropperlaw02_WireDroppers.j0])
    | succ kj7 =>
      have H := HA.out
      clear HA
      simp only [dropperlaw02_WireDroppers.j0] at H
      by_cases c56 : x87_7 = true
      · subst c56
        have H1 : (some false) = some r := by rw [if_pos rfl] at H; exact H
        clear H
        have H := H1
        clear H1
        exact absurd (hT.symm.trans (Option.some.inj H).symm) (by decide)
      replace c56 := Bool.eq_false_iff.mpr c56
      subst c56
      have H1 : ((wire_Sag.f kj7 (wrap64 (1 + (Int.tmod (wrap64 (a0_0)) 1000))) (wrap64 (1 + (Int.tmod (wrap64 (a0_1)) 100))) (wrap64 (1 + (wrap64 (a0_2))))).bind fun bt115 => (if bt115.2.2 = 0 then (dropperlaw02_WireDroppers.j1 kj7 (wrap64 (1 + (Int.tmod (wrap64 (a0_0)) 1000))) (wrap64 (1 + (Int.tmod (wrap64 (a0_1)) 100))) (wrap64 (1 + (wrap64 (a0_2)))) (decide ((wrap64 (t103 * bt115.2.1)) > (wrap64 (bt115.1 * t104)))) a2_0 a2_1 bt115.1 bt115.2.1) else (dropperlaw02_WireDroppers.j1 kj7 (wrap64 (1 + (Int.tmod (wrap64 (a0_0)) 1000))) (wrap64 (1 + (Int.tmod (wrap64 (a0_1)) 100))) (wrap64 (1 + (wrap64 (a0_2)))) true a2_0 a2_1 bt115.1 bt115.2.1))) = some r := by rw [if_neg (show ¬ (false = true) by decide)] at H; exact H
      clear H
      have H := H1
      clear H1
      replace H := Option.bind_eq_some_iff.mp H
      obtain ⟨⟨t115, t116, t117⟩, A570, H⟩ := H
      replace H : (if t117 = 0 then (dropperlaw02_WireDroppers.j1 kj7 (wrap64 (1 + (Int.tmod (wrap64 (a0_0)) 1000))) (wrap64 (1 + (Int.tmod (wrap64 (a0_1)) 100))) (wrap64 (1 + (wrap64 (a0_2)))) (decide ((wrap64 (t103 * t116)) > (wrap64 (t115 * t104)))) a2_0 a2_1 t115 t116) else (dropperlaw02_WireDroppers.j1 kj7 (wrap64 (1 + (Int.tmod (wrap64 (a0_0)) 1000))) (wrap64 (1 + (Int.tmod (wrap64 (a0_1)) 100))) (wrap64 (1 + (wrap64 (a0_2)))) true a2_0 a2_1 t115 t116)) = some r := H
      have A57 := Aside0.mk A570
      clear A570
      have HC58 := Aside0.mk H
      clear H
      go_upto_region 9 with (first | (go_at_call 32; (with_reducible refine (wire_Sag.calls kj7 (wrap64 (1 + (Int.tmod (wrap64 (a0_0)) 1000))) (wrap64 (1 + (Int.tmod (wrap64 (a0_1)) 100))) (wrap64 (1 + (wrap64 (a0_2)))) t115 t116 t117 _ A57.out).mono ?_); rintro e w59 ⟨rfl, hb⟩; have n0_ := Aside0.mk (bkB BK101 hb); have n1_ := Aside0.mk (bkB BK102 hb); have n2_ := Aside0.mk (bkB BK106 hb); have n3_ := Aside0.mk (bkB BK110 hb); have n4_ := Aside0.mk (bkB BK114 hb); have n5_ := Aside0.mk (below_step (by repeat (first | (with_reducible first | exact HB.out | apply below_alloc | apply pw_below_drewN | apply below_drew1 | refine below_set ?_ GE101.out | refine below_set ?_ GE102.out | refine below_set ?_ GE106.out | refine below_set ?_ GE110.out | refine below_set ?_ GE114.out) | exact HB.out)) hb); clear BK101; clear BK102; clear BK106; clear BK110; clear BK114; clear HB; have BK101 := n0_; have BK102 := n1_; have BK106 := n2_; have BK110 := n3_; have BK114 := n4_; have HB := n5_; clear n0_ n1_ n2_ n3_ n4_ n5_; (try clear hb); (try clear hb2); (try clear hk); (try clear hi)) | ((with_reducible refine gate_dst (N := 17) rfl ?_); (try (refine gate_guard (by rfl) ?_; dsimp only)); refine box_event ?hg (N := 17) ?hd (cs := #[.int .i64 0, .int .i64 0]) (t := 55) ?hr ?_; (case hd => rfl); (case hg => rfl); (case hr => first | (go_simp; done) | (go_simp; rfl)); intro gb118 hg w60 hbox hb; have n0_ := Aside0.mk (bkB BK101 hb); have n1_ := Aside0.mk (bkB BK102 hb); have n2_ := Aside0.mk (bkB BK106 hb); have n3_ := Aside0.mk (bkB BK110 hb); have n4_ := Aside0.mk (bkB BK114 hb); have n5_ := Aside0.mk (below_step (by repeat (first | (with_reducible first | exact HB.out | apply below_alloc | apply pw_below_drewN | apply below_drew1 | refine below_set ?_ GE101.out | refine below_set ?_ GE102.out | refine below_set ?_ GE106.out | refine below_set ?_ GE110.out | refine below_set ?_ GE114.out) | exact HB.out)) hb); have n6_ := Aside0.mk (hbox); have n7_ := Aside0.mk ((by rw [hg]; exact (below_size (by repeat (first | (with_reducible first | exact HB.out | apply below_alloc | apply pw_below_drewN | apply below_drew1 | refine below_set ?_ GE101.out | refine below_set ?_ GE102.out | refine below_set ?_ GE106.out | refine below_set ?_ GE110.out | refine below_set ?_ GE114.out) | exact HB.out))) : w.heap.size ≤ gb118)); have n8_ := Aside0.mk ((by rw [hg]; exact (below_size (by repeat (first | (with_reducible first | exact HB.out | apply below_alloc | apply pw_below_drewN | apply below_drew1 | refine below_set ?_ GE101.out | refine below_set ?_ GE102.out | refine below_set ?_ GE106.out | refine below_set ?_ GE110.out | refine below_set ?_ GE114.out) | exact HB.out))) : w.heap.size ≤ gb118)); have n9_ := Aside0.mk ((bkL BK101 hg : gb101 ≠ gb118)); have n10_ := Aside0.mk ((bkG BK101 hg : gb118 ≠ gb101)); have n11_ := Aside0.mk ((bkL BK102 hg : gb102 ≠ gb118)); have n12_ := Aside0.mk ((bkG BK102 hg : gb118 ≠ gb102)); have n13_ := Aside0.mk ((bkL BK106 hg : gb106 ≠ gb118)); have n14_ := Aside0.mk ((bkG BK106 hg : gb118 ≠ gb106)); have n15_ := Aside0.mk ((bkL BK110 hg : gb110 ≠ gb118)); have n16_ := Aside0.mk ((bkG BK110 hg : gb118 ≠ gb110)); have n17_ := Aside0.mk ((bkL BK114 hg : gb114 ≠ gb118)); have n18_ := Aside0.mk ((bkG BK114 hg : gb118 ≠ gb114)); clear BK101; clear BK102; clear BK106; clear BK110; clear BK114; clear HB; have BK101 := n0_; have BK102 := n1_; have BK106 := n2_; have BK110 := n3_; have BK114 := n4_; have HB := n5_; have BK118 := n6_; have GW118 := n7_; have GE118 := n8_; have NB101_118 := n9_; have NB118_101 := n10_; have NB102_118 := n11_; have NB118_102 := n12_; have NB106_118 := n13_; have NB118_106 := n14_; have NB110_118 := n15_; have NB118_110 := n16_; have NB114_118 := n17_; have NB118_114 := n18_; clear n0_ n1_ n2_ n3_ n4_ n5_ n6_ n7_ n8_ n9_ n10_ n11_ n12_ n13_ n14_ n15_ n16_ n17_ n18_; clear hb hbox hg; have hnb61 := NB118_101.out; have hnc61 := NB101_118.out; have hnb62 := NB118_102.out; have hnc62 := NB102_118.out; have hnb63 := NB118_106.out; have hnc63 := NB106_118.out; have hnb64 := NB118_110.out; have hnc64 := NB110_118.out; have hnb65 := NB118_114.out; have hnc65 := NB114_118.out; have hcz66_0 : w60.cell? ⟨gb118, 0, none⟩ = some (.int .i64 0) := (blk_cell BK118.out 0).trans rfl; have hcz66_1 : w60.cell? ⟨gb118, 1, none⟩ = some (.int .i64 0) := (blk_cell BK118.out 1).trans rfl; have hfz66_0 := blk_frozen BK118.out 0; have hfz66_1 := blk_frozen BK118.out 1))
      repeat (go_quiet (first | (go_at_call 32; (with_reducible refine (wire_Sag.calls kj7 (wrap64 (1 + (Int.tmod (wrap64 (a0_0)) 1000))) (wrap64 (1 + (Int.tmod (wrap64 (a0_1)) 100))) (wrap64 (1 + (wrap64 (a0_2)))) t115 t116 t117 _ A57.out).mono ?_); rintro e w59 ⟨rfl, hb⟩; have n0_ := Aside0.mk (bkB BK101 hb); have n1_ := Aside0.mk (bkB BK102 hb); have n2_ := Aside0.mk (bkB BK106 hb); have n3_ := Aside0.mk (bkB BK110 hb); have n4_ := Aside0.mk (bkB BK114 hb); have n5_ := Aside0.mk (below_step (by repeat (first | (with_reducible first | exact HB.out | apply below_alloc | apply pw_below_drewN | apply below_drew1 | refine below_set ?_ GE101.out | refine below_set ?_ GE102.out | refine below_set ?_ GE106.out | refine below_set ?_ GE110.out | refine below_set ?_ GE114.out) | exact HB.out)) hb); clear BK101; clear BK102; clear BK106; clear BK110; clear BK114; clear HB; have BK101 := n0_; have BK102 := n1_; have BK106 := n2_; have BK110 := n3_; have BK114 := n4_; have HB := n5_; clear n0_ n1_ n2_ n3_ n4_ n5_; (try clear hb); (try clear hb2); (try clear hk); (try clear hi)) | ((with_reducible refine gate_dst (N := 17) rfl ?_); (try (refine gate_guard (by rfl) ?_; dsimp only)); refine box_event ?hg (N := 17) ?hd (cs := #[.int .i64 0, .int .i64 0]) (t := 55) ?hr ?_; (case hd => rfl); (case hg => rfl); (case hr => first | (go_simp; done) | (go_simp; rfl)); intro gb118 hg w60 hbox hb; have n0_ := Aside0.mk (bkB BK101 hb); have n1_ := Aside0.mk (bkB BK102 hb); have n2_ := Aside0.mk (bkB BK106 hb); have n3_ := Aside0.mk (bkB BK110 hb); have n4_ := Aside0.mk (bkB BK114 hb); have n5_ := Aside0.mk (below_step (by repeat (first | (with_reducible first | exact HB.out | apply below_alloc | apply pw_below_drewN | apply below_drew1 | refine below_set ?_ GE101.out | refine below_set ?_ GE102.out | refine below_set ?_ GE106.out | refine below_set ?_ GE110.out | refine below_set ?_ GE114.out) | exact HB.out)) hb); have n6_ := Aside0.mk (hbox); have n7_ := Aside0.mk ((by rw [hg]; exact (below_size (by repeat (first | (with_reducible first | exact HB.out | apply below_alloc | apply pw_below_drewN | apply below_drew1 | refine below_set ?_ GE101.out | refine below_set ?_ GE102.out | refine below_set ?_ GE106.out | refine below_set ?_ GE110.out | refine below_set ?_ GE114.out) | exact HB.out))) : w.heap.size ≤ gb118)); have n8_ := Aside0.mk ((by rw [hg]; exact (below_size (by repeat (first | (with_reducible first | exact HB.out | apply below_alloc | apply pw_below_drewN | apply below_drew1 | refine below_set ?_ GE101.out | refine below_set ?_ GE102.out | refine below_set ?_ GE106.out | refine below_set ?_ GE110.out | refine below_set ?_ GE114.out) | exact HB.out))) : w.heap.size ≤ gb118)); have n9_ := Aside0.mk ((bkL BK101 hg : gb101 ≠ gb118)); have n10_ := Aside0.mk ((bkG BK101 hg : gb118 ≠ gb101)); have n11_ := Aside0.mk ((bkL BK102 hg : gb102 ≠ gb118)); have n12_ := Aside0.mk ((bkG BK102 hg : gb118 ≠ gb102)); have n13_ := Aside0.mk ((bkL BK106 hg : gb106 ≠ gb118)); have n14_ := Aside0.mk ((bkG BK106 hg : gb118 ≠ gb106)); have n15_ := Aside0.mk ((bkL BK110 hg : gb110 ≠ gb118)); have n16_ := Aside0.mk ((bkG BK110 hg : gb118 ≠ gb110)); have n17_ := Aside0.mk ((bkL BK114 hg : gb114 ≠ gb118)); have n18_ := Aside0.mk ((bkG BK114 hg : gb118 ≠ gb114)); clear BK101; clear BK102; clear BK106; clear BK110; clear BK114; clear HB; have BK101 := n0_; have BK102 := n1_; have BK106 := n2_; have BK110 := n3_; have BK114 := n4_; have HB := n5_; have BK118 := n6_; have GW118 := n7_; have GE118 := n8_; have NB101_118 := n9_; have NB118_101 := n10_; have NB102_118 := n11_; have NB118_102 := n12_; have NB106_118 := n13_; have NB118_106 := n14_; have NB110_118 := n15_; have NB118_110 := n16_; have NB114_118 := n17_; have NB118_114 := n18_; clear n0_ n1_ n2_ n3_ n4_ n5_ n6_ n7_ n8_ n9_ n10_ n11_ n12_ n13_ n14_ n15_ n16_ n17_ n18_; clear hb hbox hg; have hnb61 := NB118_101.out; have hnc61 := NB101_118.out; have hnb62 := NB118_102.out; have hnc62 := NB102_118.out; have hnb63 := NB118_106.out; have hnc63 := NB106_118.out; have hnb64 := NB118_110.out; have hnc64 := NB110_118.out; have hnb65 := NB118_114.out; have hnc65 := NB114_118.out; have hcz66_0 : w60.cell? ⟨gb118, 0, none⟩ = some (.int .i64 0) := (blk_cell BK118.out 0).trans rfl; have hcz66_1 : w60.cell? ⟨gb118, 1, none⟩ = some (.int .i64 0) := (blk_cell BK118.out 1).trans rfl; have hfz66_0 := blk_frozen BK118.out 0; have hfz66_1 := blk_frozen BK118.out 1)); go_upto_region 9 with (first | (go_at_call 32; (with_reducible refine (wire_Sag.calls kj7 (wrap64 (1 + (Int.tmod (wrap64 (a0_0)) 1000))) (wrap64 (1 + (Int.tmod (wrap64 (a0_1)) 100))) (wrap64 (1 + (wrap64 (a0_2)))) t115 t116 t117 _ A57.out).mono ?_); rintro e w59 ⟨rfl, hb⟩; have n0_ := Aside0.mk (bkB BK101 hb); have n1_ := Aside0.mk (bkB BK102 hb); have n2_ := Aside0.mk (bkB BK106 hb); have n3_ := Aside0.mk (bkB BK110 hb); have n4_ := Aside0.mk (bkB BK114 hb); have n5_ := Aside0.mk (below_step (by repeat (first | (with_reducible first | exact HB.out | apply below_alloc | apply pw_below_drewN | apply below_drew1 | refine below_set ?_ GE101.out | refine below_set ?_ GE102.out | refine below_set ?_ GE106.out | refine below_set ?_ GE110.out | refine below_set ?_ GE114.out) | exact HB.out)) hb); clear BK101; clear BK102; clear BK106; clear BK110; clear BK114; clear HB; have BK101 := n0_; have BK102 := n1_; have BK106 := n2_; have BK110 := n3_; have BK114 := n4_; have HB := n5_; clear n0_ n1_ n2_ n3_ n4_ n5_; (try clear hb); (try clear hb2); (try clear hk); (try clear hi)) | ((with_reducible refine gate_dst (N := 17) rfl ?_); (try (refine gate_guard (by rfl) ?_; dsimp only)); refine box_event ?hg (N := 17) ?hd (cs := #[.int .i64 0, .int .i64 0]) (t := 55) ?hr ?_; (case hd => rfl); (case hg => rfl); (case hr => first | (go_simp; done) | (go_simp; rfl)); intro gb118 hg w60 hbox hb; have n0_ := Aside0.mk (bkB BK101 hb); have n1_ := Aside0.mk (bkB BK102 hb); have n2_ := Aside0.mk (bkB BK106 hb); have n3_ := Aside0.mk (bkB BK110 hb); have n4_ := Aside0.mk (bkB BK114 hb); have n5_ := Aside0.mk (below_step (by repeat (first | (with_reducible first | exact HB.out | apply below_alloc | apply pw_below_drewN | apply below_drew1 | refine below_set ?_ GE101.out | refine below_set ?_ GE102.out | refine below_set ?_ GE106.out | refine below_set ?_ GE110.out | refine below_set ?_ GE114.out) | exact HB.out)) hb); have n6_ := Aside0.mk (hbox); have n7_ := Aside0.mk ((by rw [hg]; exact (below_size (by repeat (first | (with_reducible first | exact HB.out | apply below_alloc | apply pw_below_drewN | apply below_drew1 | refine below_set ?_ GE101.out | refine below_set ?_ GE102.out | refine below_set ?_ GE106.out | refine below_set ?_ GE110.out | refine below_set ?_ GE114.out) | exact HB.out))) : w.heap.size ≤ gb118)); have n8_ := Aside0.mk ((by rw [hg]; exact (below_size (by repeat (first | (with_reducible first | exact HB.out | apply below_alloc | apply pw_below_drewN | apply below_drew1 | refine below_set ?_ GE101.out | refine below_set ?_ GE102.out | refine below_set ?_ GE106.out | refine below_set ?_ GE110.out | refine below_set ?_ GE114.out) | exact HB.out))) : w.heap.size ≤ gb118)); have n9_ := Aside0.mk ((bkL BK101 hg : gb101 ≠ gb118)); have n10_ := Aside0.mk ((bkG BK101 hg : gb118 ≠ gb101)); have n11_ := Aside0.mk ((bkL BK102 hg : gb102 ≠ gb118)); have n12_ := Aside0.mk ((bkG BK102 hg : gb118 ≠ gb102)); have n13_ := Aside0.mk ((bkL BK106 hg : gb106 ≠ gb118)); have n14_ := Aside0.mk ((bkG BK106 hg : gb118 ≠ gb106)); have n15_ := Aside0.mk ((bkL BK110 hg : gb110 ≠ gb118)); have n16_ := Aside0.mk ((bkG BK110 hg : gb118 ≠ gb110)); have n17_ := Aside0.mk ((bkL BK114 hg : gb114 ≠ gb118)); have n18_ := Aside0.mk ((bkG BK114 hg : gb118 ≠ gb114)); clear BK101; clear BK102; clear BK106; clear BK110; clear BK114; clear HB; have BK101 := n0_; have BK102 := n1_; have BK106 := n2_; have BK110 := n3_; have BK114 := n4_; have HB := n5_; have BK118 := n6_; have GW118 := n7_; have GE118 := n8_; have NB101_118 := n9_; have NB118_101 := n10_; have NB102_118 := n11_; have NB118_102 := n12_; have NB106_118 := n13_; have NB118_106 := n14_; have NB110_118 := n15_; have NB118_110 := n16_; have NB114_118 := n17_; have NB118_114 := n18_; clear n0_ n1_ n2_ n3_ n4_ n5_ n6_ n7_ n8_ n9_ n10_ n11_ n12_ n13_ n14_ n15_ n16_ n17_ n18_; clear hb hbox hg; have hnb61 := NB118_101.out; have hnc61 := NB101_118.out; have hnb62 := NB118_102.out; have hnc62 := NB102_118.out; have hnb63 := NB118_106.out; have hnc63 := NB106_118.out; have hnb64 := NB118_110.out; have hnc64 := NB110_118.out; have hnb65 := NB118_114.out; have hnc65 := NB114_118.out; have hcz66_0 : w60.cell? ⟨gb118, 0, none⟩ = some (.int .i64 0) := (blk_cell BK118.out 0).trans rfl; have hcz66_1 : w60.cell? ⟨gb118, 1, none⟩ = some (.int .i64 0) := (blk_cell BK118.out 1).trans rfl; have hfz66_0 := blk_frozen BK118.out 0; have hfz66_1 := blk_frozen BK118.out 1)))
      (try simp only [Act.put, List.setIfInBounds_toArray, List.set_cons_zero, List.set_cons_succ])
      go_cut [109] (fun v109 wc => ∃ (kq : Nat) (x109_57 : Bool), v109 = .bool x109_57 ∧ Aside0 (dropperlaw02_WireDroppers.j1 kq (wrap64 (1 + (Int.tmod (wrap64 (a0_0)) 1000))) (wrap64 (1 + (Int.tmod (wrap64 (a0_1)) 100))) (wrap64 (1 + (wrap64 (a0_2)))) x109_57 a2_0 a2_1 t115 t116 = some r) ∧ Aside0 (kq ≤ kj7) ∧ Aside0 (wc.heap[gb101]? = some (.cells #[.int .u16 a0_0, .int .u16 a0_1, .int .u16 a0_2] 65 (0, 0))) ∧ Aside0 (wc.heap[gb102]? = some (.cells #[.int .u16 a2_0, .int .u16 a2_1] 66 (0, 0))) ∧ Aside0 (wc.heap[gb106]? = some (.cells #[.int .i64 t103, .int .i64 t104] 55 (0, 0))) ∧ Aside0 (wc.heap[gb110]? = some (.cells #[.int .i64 t107, .int .i64 t108] 55 (0, 0))) ∧ Aside0 (wc.heap[gb114]? = some (.cells #[.int .i64 t111, .int .i64 t112] 55 (0, 0))) ∧ Aside0 (wc.heap[gb118]? = some (.cells #[.int .i64 t115, .int .i64 t116] 55 (0, 0))) ∧ Aside0 (Below w.heap.size w wc))
      case first =>
        have H := HC58.out
        clear HC58
        by_cases c67 : t117 = 0
        rotate_left
        · rw [if_neg c67] at H
          have c67b0 : (t117 == 0) = false := beq_eq_false_iff_ne.mpr c67
          have c67b1 : (t117 != 0) = true := bne_iff_ne.mpr c67
          (first | rw [c67b0] | (simp only [i64_w, i32_w]; rw [c67b0]) | skip)
          have H' := Aside0.mk H
          clear H
          go_wp2
          repeat (go_quiet (fail); try go_wp2)
          go_meet
          case rel => exact ⟨_, (true), (by first | rfl | (simp; done) | (simp [*]; done)), H', ⟨by have := HJ7.out; first | omega | exact Nat.le_refl _⟩, ⟨by (with_reducible repeat (first | refine blk_drewN ?_ _ | refine blk_drew ?_ | refine blk_alloc ?_ _)); refine blk_far ?_ NB101_118.out _; (with_reducible repeat (first | refine blk_drewN ?_ _ | refine blk_drew ?_ | refine blk_alloc ?_ _)); refine blk_far ?_ NB101_118.out _; (with_reducible repeat (first | refine blk_drewN ?_ _ | refine blk_drew ?_ | refine blk_alloc ?_ _)); exact BK101.out⟩, ⟨by (with_reducible repeat (first | refine blk_drewN ?_ _ | refine blk_drew ?_ | refine blk_alloc ?_ _)); refine blk_far ?_ NB102_118.out _; (with_reducible repeat (first | refine blk_drewN ?_ _ | refine blk_drew ?_ | refine blk_alloc ?_ _)); refine blk_far ?_ NB102_118.out _; (with_reducible repeat (first | refine blk_drewN ?_ _ | refine blk_drew ?_ | refine blk_alloc ?_ _)); exact BK102.out⟩, ⟨by (with_reducible repeat (first | refine blk_drewN ?_ _ | refine blk_drew ?_ | refine blk_alloc ?_ _)); refine blk_far ?_ NB106_118.out _; (with_reducible repeat (first | refine blk_drewN ?_ _ | refine blk_drew ?_ | refine blk_alloc ?_ _)); refine blk_far ?_ NB106_118.out _; (with_reducible repeat (first | refine blk_drewN ?_ _ | refine blk_drew ?_ | refine blk_alloc ?_ _)); exact BK106.out⟩, ⟨by (with_reducible repeat (first | refine blk_drewN ?_ _ | refine blk_drew ?_ | refine blk_alloc ?_ _)); refine blk_far ?_ NB110_118.out _; (with_reducible repeat (first | refine blk_drewN ?_ _ | refine blk_drew ?_ | refine blk_alloc ?_ _)); refine blk_far ?_ NB110_118.out _; (with_reducible repeat (first | refine blk_drewN ?_ _ | refine blk_drew ?_ | refine blk_alloc ?_ _)); exact BK110.out⟩, ⟨by (with_reducible repeat (first | refine blk_drewN ?_ _ | refine blk_drew ?_ | refine blk_alloc ?_ _)); refine blk_far ?_ NB114_118.out _; (with_reducible repeat (first | refine blk_drewN ?_ _ | refine blk_drew ?_ | refine blk_alloc ?_ _)); refine blk_far ?_ NB114_118.out _; (with_reducible repeat (first | refine blk_drewN ?_ _ | refine blk_drew ?_ | refine blk_alloc ?_ _)); exact BK114.out⟩, ⟨by (with_reducible repeat (first | refine blk_drewN ?_ _ | refine blk_drew ?_ | refine blk_alloc ?_ _)); refine blk_put (cs := #[.int .i64 t115, .int .i64 0]) ?_ 1 _ rfl; (with_reducible repeat (first | refine blk_drewN ?_ _ | refine blk_drew ?_ | refine blk_alloc ?_ _)); refine blk_put (cs := #[.int .i64 0, .int .i64 0]) ?_ 0 _ rfl; (with_reducible repeat (first | refine blk_drewN ?_ _ | refine blk_drew ?_ | refine blk_alloc ?_ _)); exact BK118.out⟩, ⟨by repeat (first | (with_reducible first | exact HB.out | apply below_alloc | apply pw_below_drewN | apply below_drew1 | refine below_set ?_ GE101.out | refine below_set ?_ GE102.out | refine below_set ?_ GE106.out | refine below_set ?_ GE110.out | refine below_set ?_ GE114.out | refine below_set ?_ GE118.out) | exact HB.out)⟩⟩
        rw [if_pos c67] at H
        have c67b0 : (t117 == 0) = true := beq_iff_eq.mpr c67
        have c67b1 : (t117 != 0) = false := bne_eq_false_iff_eq.mpr c67
        clear c67
        (first | rw [c67b0] | (simp only [i64_w, i32_w]; rw [c67b0]) | skip)
        have H' := Aside0.mk H
        clear H
        have hnb68 := NB106_101.out
        have hnc68 := NB101_106.out
        have hnb69 := NB106_102.out
        have hnc69 := NB102_106.out
        have hnb70 := NB106_110.out
        have hnc70 := NB110_106.out
        have hnb71 := NB106_114.out
        have hnc71 := NB114_106.out
        have hnb72 := NB106_118.out
        have hnc72 := NB118_106.out
        have hcz73_0 : w60.cell? ⟨gb106, 0, none⟩ = some (.int .i64 t103) := (blk_cell BK106.out 0).trans rfl
        have hcz73_1 : w60.cell? ⟨gb106, 1, none⟩ = some (.int .i64 t104) := (blk_cell BK106.out 1).trans rfl
        have hfz73_0 := blk_frozen BK106.out 0
        have hfz73_1 := blk_frozen BK106.out 1
        have hnb74 := NB118_101.out
        have hnc74 := NB101_118.out
        have hnb75 := NB118_102.out
        have hnc75 := NB102_118.out
        have hnb76 := NB118_110.out
        have hnc76 := NB110_118.out
        have hnb77 := NB118_114.out
        have hnc77 := NB114_118.out
        have hcz78_0 : w60.cell? ⟨gb118, 0, none⟩ = some (.int .i64 0) := (blk_cell BK118.out 0).trans rfl
        have hcz78_1 : w60.cell? ⟨gb118, 1, none⟩ = some (.int .i64 0) := (blk_cell BK118.out 1).trans rfl
        have hfz78_0 := blk_frozen BK118.out 0
        have hfz78_1 := blk_frozen BK118.out 1
        go_wp2
        repeat (go_quiet (fail); try go_wp2)
        go_meet
        case rel => exact ⟨_, (decide ((wrap64 (t103 * t116)) > (wrap64 (t115 * t104)))), (by first | rfl | (simp; done) | (simp [*]; done)), H', ⟨by have := HJ7.out; first | omega | exact Nat.le_refl _⟩, ⟨by (with_reducible repeat (first | refine blk_drewN ?_ _ | refine blk_drew ?_ | refine blk_alloc ?_ _)); refine blk_far ?_ NB101_118.out _; (with_reducible repeat (first | refine blk_drewN ?_ _ | refine blk_drew ?_ | refine blk_alloc ?_ _)); refine blk_far ?_ NB101_118.out _; (with_reducible repeat (first | refine blk_drewN ?_ _ | refine blk_drew ?_ | refine blk_alloc ?_ _)); exact BK101.out⟩, ⟨by (with_reducible repeat (first | refine blk_drewN ?_ _ | refine blk_drew ?_ | refine blk_alloc ?_ _)); refine blk_far ?_ NB102_118.out _; (with_reducible repeat (first | refine blk_drewN ?_ _ | refine blk_drew ?_ | refine blk_alloc ?_ _)); refine blk_far ?_ NB102_118.out _; (with_reducible repeat (first | refine blk_drewN ?_ _ | refine blk_drew ?_ | refine blk_alloc ?_ _)); exact BK102.out⟩, ⟨by (with_reducible repeat (first | refine blk_drewN ?_ _ | refine blk_drew ?_ | refine blk_alloc ?_ _)); refine blk_far ?_ NB106_118.out _; (with_reducible repeat (first | refine blk_drewN ?_ _ | refine blk_drew ?_ | refine blk_alloc ?_ _)); refine blk_far ?_ NB106_118.out _; (with_reducible repeat (first | refine blk_drewN ?_ _ | refine blk_drew ?_ | refine blk_alloc ?_ _)); exact BK106.out⟩, ⟨by (with_reducible repeat (first | refine blk_drewN ?_ _ | refine blk_drew ?_ | refine blk_alloc ?_ _)); refine blk_far ?_ NB110_118.out _; (with_reducible repeat (first | refine blk_drewN ?_ _ | refine blk_drew ?_ | refine blk_alloc ?_ _)); refine blk_far ?_ NB110_118.out _; (with_reducible repeat (first | refine blk_drewN ?_ _ | refine blk_drew ?_ | refine blk_alloc ?_ _)); exact BK110.out⟩, ⟨by (with_reducible repeat (first | refine blk_drewN ?_ _ | refine blk_drew ?_ | refine blk_alloc ?_ _)); refine blk_far ?_ NB114_118.out _; (with_reducible repeat (first | refine blk_drewN ?_ _ | refine blk_drew ?_ | refine blk_alloc ?_ _)); refine blk_far ?_ NB114_118.out _; (with_reducible repeat (first | refine blk_drewN ?_ _ | refine blk_drew ?_ | refine blk_alloc ?_ _)); exact BK114.out⟩, ⟨by (with_reducible repeat (first | refine blk_drewN ?_ _ | refine blk_drew ?_ | refine blk_alloc ?_ _)); refine blk_put (cs := #[.int .i64 t115, .int .i64 0]) ?_ 1 _ rfl; (with_reducible repeat (first | refine blk_drewN ?_ _ | refine blk_drew ?_ | refine blk_alloc ?_ _)); refine blk_put (cs := #[.int .i64 0, .int .i64 0]) ?_ 0 _ rfl; (with_reducible repeat (first | refine blk_drewN ?_ _ | refine blk_drew ?_ | refine blk_alloc ?_ _)); exact BK118.out⟩, ⟨by repeat (first | (with_reducible first | exact HB.out | apply below_alloc | apply pw_below_drewN | apply below_drew1 | refine below_set ?_ GE101.out | refine below_set ?_ GE102.out | refine below_set ?_ GE106.out | refine below_set ?_ GE110.out | refine below_set ?_ GE114.out | refine below_set ?_ GE118.out) | exact HB.out)⟩⟩
      case rest =>
        clear HC58
        try clear c1
        try clear c2
        try clear p2
        try clear c3
        try clear c4
        try clear c4b0
        try clear c4b1
        try clear c5
        try clear c6
        try clear p6
        try clear c7
        try clear c8
        try clear c11
        try clear c15
        try clear c16
        try clear c20
        try clear c21
        try clear c22
        try clear c26
        try clear c27
        try clear c28
        try clear c29
        try clear c31
        try clear c31b0
        try clear c31b1
        try clear c32
        try clear c32b0
        try clear c32b1
        try clear c33
        try clear c33b0
        try clear c33b1
        try clear c34
        try clear c34b0
        try clear c35
        try clear c36
        try clear c37
        try clear c38
        try clear c40
        try clear c41
        try clear c42
        try clear c44
        try clear c45
        try clear c46
        try clear c47
        try clear c49
        try clear c50
        try clear c51
        try clear c53
        try clear c54
        try clear c56
        try clear c61
        try clear c62
        try clear c63
        try clear c64
        try clear p64
        try clear c65
        try clear c67
        try clear c67b0
        try clear c67b1
        try clear c68
        try clear c69
        try clear c70
        try clear c71
        try clear c72
        try clear c74
        try clear c75
        try clear c76
        try clear c77
        try clear hcz12_0
        try clear hcz12_1
        try clear hcz12_2
        try clear hcz17_0
        try clear hcz17_1
        try clear hcz23_0
        try clear hcz23_1
        try clear hcz30_0
        try clear hcz30_1
        try clear hcz39_0
        try clear hcz39_1
        try clear hcz43_0
        try clear hcz43_1
        try clear hcz48_0
        try clear hcz48_1
        try clear hcz52_0
        try clear hcz52_1
        try clear hcz55_0
        try clear hcz55_1
        try clear hcz66_0
        try clear hcz66_1
        try clear hcz73_0
        try clear hcz73_1
        try clear hcz78_0
        try clear hcz78_1
        try clear hfz12_0
        try clear hfz12_1
        try clear hfz12_2
        try clear hfz17_0
        try clear hfz17_1
        try clear hfz23_0
        try clear hfz23_1
        try clear hfz30_0
        try clear hfz30_1
        try clear hfz39_0
        try clear hfz39_1
        try clear hfz43_0
        try clear hfz43_1
        try clear hfz48_0
        try clear hfz48_1
        try clear hfz52_0
        try clear hfz52_1
        try clear hfz55_0
        try clear hfz55_1
        try clear hfz66_0
        try clear hfz66_1
        try clear hfz73_0
        try clear hfz73_1
        try clear hfz78_0
        try clear hfz78_1
        try clear p2
        try clear p6
        obtain ⟨kq, x109_57, rfl, HA, HJ57, BK101, BK102, BK106, BK110, BK114, BK118, HB⟩ := hcut
        cases kq with
        | zero => exact absurd HA.out (by simp [dropperlaw02_WireDroppers.j1])
        | succ kj57 =>
          have H := HA.out
          clear HA
          simp only [dropperlaw02_WireDroppers.j1] at H
          by_cases c79 : x109_57 = true
          · subst c79
            have H1 : (some false) = some r := by rw [if_pos rfl] at H; exact H
            clear H
            have H := H1
            clear H1
            exact absurd (hT.symm.trans (Option.some.inj H).symm) (by decide)
          replace c79 := Bool.eq_false_iff.mpr c79
          subst c79
          have H1 : (if (Int.tmod (wrap64 (1 + (Int.tmod (wrap64 (a0_1)) 100))) 2) = 0 then ((wire_Drop.f kj57 (wrap64 (1 + (Int.tmod (wrap64 (a0_0)) 1000))) (wrap64 (1 + (Int.tmod (wrap64 (a0_1)) 100))) (wrap64 (1 + (wrap64 (a0_2)))) (wrap64 (Int.tdiv (wrap64 (1 + (Int.tmod (wrap64 (a0_1)) 100))) 2))).bind fun bt119 => (if bt119.2.2 = 0 then (if (!(bt119.1 == t115) || (!(bt119.2.1 == t116))) = true then (some false) else (dropperlaw02_WireDroppers.j2 kj57 (wrap64 (1 + (Int.tmod (wrap64 (a0_0)) 1000))) (wrap64 (1 + (Int.tmod (wrap64 (a0_1)) 100))) (wrap64 (1 + (wrap64 (a0_2)))) a2_0 a2_1)) else (some false))) else (dropperlaw02_WireDroppers.j2 kj57 (wrap64 (1 + (Int.tmod (wrap64 (a0_0)) 1000))) (wrap64 (1 + (Int.tmod (wrap64 (a0_1)) 100))) (wrap64 (1 + (wrap64 (a0_2)))) a2_0 a2_1)) = some r := by rw [if_neg (show ¬ (false = true) by decide)] at H; exact H
          clear H
          have H := H1
          clear H1
          have HC80 := Aside0.mk H
          clear H
          go_upto_if 112 with (fail)
          repeat (go_quiet (fail); go_upto_if 112 with (fail))
          go_cut [] (fun wc => ∃ (kq : Nat), Aside0 (dropperlaw02_WireDroppers.j2 kq (wrap64 (1 + (Int.tmod (wrap64 (a0_0)) 1000))) (wrap64 (1 + (Int.tmod (wrap64 (a0_1)) 100))) (wrap64 (1 + (wrap64 (a0_2)))) a2_0 a2_1 = some r) ∧ Aside0 (kq ≤ kj57) ∧ Aside0 (wc.heap[gb101]? = some (.cells #[.int .u16 a0_0, .int .u16 a0_1, .int .u16 a0_2] 65 (0, 0))) ∧ Aside0 (wc.heap[gb102]? = some (.cells #[.int .u16 a2_0, .int .u16 a2_1] 66 (0, 0))) ∧ Aside0 (wc.heap[gb106]? = some (.cells #[.int .i64 t103, .int .i64 t104] 55 (0, 0))) ∧ Aside0 (wc.heap[gb110]? = some (.cells #[.int .i64 t107, .int .i64 t108] 55 (0, 0))) ∧ Aside0 (wc.heap[gb114]? = some (.cells #[.int .i64 t111, .int .i64 t112] 55 (0, 0))) ∧ Aside0 (wc.heap[gb118]? = some (.cells #[.int .i64 t115, .int .i64 t116] 55 (0, 0))) ∧ Aside0 (Below w.heap.size w wc))
          case first =>
            have H := HC80.out
            clear HC80
            by_cases c81 : (Int.tmod (wrap64 (1 + (Int.tmod (wrap64 (a0_1)) 100))) 2) = 0
            rotate_left
            · rw [if_neg c81] at H
              have c81b0 : ((Int.tmod (wrap64 (1 + (Int.tmod (wrap64 (a0_1)) 100))) 2) == 0) = false := beq_eq_false_iff_ne.mpr c81
              have c81b1 : ((Int.tmod (wrap64 (1 + (Int.tmod (wrap64 (a0_1)) 100))) 2) != 0) = true := bne_iff_ne.mpr c81
              (first | rw [c81b0] | (simp only [i64_w, i32_w]; rw [c81b0]) | skip)
              have H' := Aside0.mk H
              clear H
              go_wp2
              repeat (go_quiet (fail); try go_wp2)
              go_meet
              case rel => exact ⟨_, H', ⟨by have := HJ7.out; have := HJ57.out; first | omega | exact Nat.le_refl _⟩, ⟨bkU BK101⟩, ⟨bkU BK102⟩, ⟨bkU BK106⟩, ⟨bkU BK110⟩, ⟨bkU BK114⟩, ⟨bkU BK118⟩, ⟨by repeat (first | (with_reducible first | exact HB.out | apply below_alloc | apply pw_below_drewN | apply below_drew1 | refine below_set ?_ GE101.out | refine below_set ?_ GE102.out | refine below_set ?_ GE106.out | refine below_set ?_ GE110.out | refine below_set ?_ GE114.out | refine below_set ?_ GE118.out) | exact HB.out)⟩⟩
            rw [if_pos c81] at H
            have c81b0 : ((Int.tmod (wrap64 (1 + (Int.tmod (wrap64 (a0_1)) 100))) 2) == 0) = true := beq_iff_eq.mpr c81
            have c81b1 : ((Int.tmod (wrap64 (1 + (Int.tmod (wrap64 (a0_1)) 100))) 2) != 0) = false := bne_eq_false_iff_eq.mpr c81
            clear c81
            (first | rw [c81b0] | (simp only [i64_w, i32_w]; rw [c81b0]) | skip)
            replace H := Option.bind_eq_some_iff.mp H
            obtain ⟨⟨t119, t120, t121⟩, A820, H⟩ := H
            replace H : (if t121 = 0 then (if (!(t119 == t115) || (!(t120 == t116))) = true then (some false) else (dropperlaw02_WireDroppers.j2 kj57 (wrap64 (1 + (Int.tmod (wrap64 (a0_0)) 1000))) (wrap64 (1 + (Int.tmod (wrap64 (a0_1)) 100))) (wrap64 (1 + (wrap64 (a0_2)))) a2_0 a2_1)) else (some false)) = some r := H
            have A82 := Aside0.mk A820
            clear A820
            by_cases c83 : t121 = 0
            rotate_left
            · rw [if_neg c83] at H
              have c83b0 : (t121 == 0) = false := beq_eq_false_iff_ne.mpr c83
              have c83b1 : (t121 != 0) = true := bne_iff_ne.mpr c83
              exact absurd (hT.symm.trans (Option.some.inj H).symm) (by decide)
            rw [if_pos c83] at H
            have c83b0 : (t121 == 0) = true := beq_iff_eq.mpr c83
            have c83b1 : (t121 != 0) = false := bne_eq_false_iff_eq.mpr c83
            clear c83
            by_cases c84 : (!(t119 == t115) || (!(t120 == t116))) = true
            · rw [if_pos c84] at H
              have c84b0 : (!(t119 == t115) || (!(t120 == t116))) = true := c84
              clear c84
              exact absurd (hT.symm.trans (Option.some.inj H).symm) (by decide)
            rw [if_neg c84] at H
            have c84b0 : (!(t119 == t115) || (!(t120 == t116))) = false := by simpa using c84
            clear c84
            have H' := Aside0.mk H
            clear H
            go_wp2_with (first | (go_at_call 34; (with_reducible refine (wire_Drop.calls kj57 (wrap64 (1 + (Int.tmod (wrap64 (a0_0)) 1000))) (wrap64 (1 + (Int.tmod (wrap64 (a0_1)) 100))) (wrap64 (1 + (wrap64 (a0_2)))) (wrap64 (Int.tdiv (wrap64 (1 + (Int.tmod (wrap64 (a0_1)) 100))) 2)) t119 t120 t121 _ A82.out).mono ?_); rintro e w85 ⟨rfl, hb⟩; have n0_ := Aside0.mk (bkB BK101 hb); have n1_ := Aside0.mk (bkB BK102 hb); have n2_ := Aside0.mk (bkB BK106 hb); have n3_ := Aside0.mk (bkB BK110 hb); have n4_ := Aside0.mk (bkB BK114 hb); have n5_ := Aside0.mk (bkB BK118 hb); have n6_ := Aside0.mk (below_step (by repeat (first | (with_reducible first | exact HB.out | apply below_alloc | apply pw_below_drewN | apply below_drew1 | refine below_set ?_ GE101.out | refine below_set ?_ GE102.out | refine below_set ?_ GE106.out | refine below_set ?_ GE110.out | refine below_set ?_ GE114.out | refine below_set ?_ GE118.out) | exact HB.out)) hb); clear BK101; clear BK102; clear BK106; clear BK110; clear BK114; clear BK118; clear HB; have BK101 := n0_; have BK102 := n1_; have BK106 := n2_; have BK110 := n3_; have BK114 := n4_; have BK118 := n5_; have HB := n6_; clear n0_ n1_ n2_ n3_ n4_ n5_ n6_; (try clear hb); (try clear hb2); (try clear hk); (try clear hi)) | ((with_reducible refine gate_dst (N := 18) rfl ?_); (try (refine gate_guard (by rfl) ?_; dsimp only)); refine box_event ?hg (N := 18) ?hd (cs := #[.int .i64 0, .int .i64 0]) (t := 55) ?hr ?_; (case hd => rfl); (case hg => rfl); (case hr => first | (go_simp; done) | (go_simp; rfl)); intro gb122 hg w86 hbox hb; have n0_ := Aside0.mk (bkB BK101 hb); have n1_ := Aside0.mk (bkB BK102 hb); have n2_ := Aside0.mk (bkB BK106 hb); have n3_ := Aside0.mk (bkB BK110 hb); have n4_ := Aside0.mk (bkB BK114 hb); have n5_ := Aside0.mk (bkB BK118 hb); have n6_ := Aside0.mk (below_step (by repeat (first | (with_reducible first | exact HB.out | apply below_alloc | apply pw_below_drewN | apply below_drew1 | refine below_set ?_ GE101.out | refine below_set ?_ GE102.out | refine below_set ?_ GE106.out | refine below_set ?_ GE110.out | refine below_set ?_ GE114.out | refine below_set ?_ GE118.out) | exact HB.out)) hb); have n7_ := Aside0.mk (hbox); have n8_ := Aside0.mk ((by rw [hg]; exact (below_size (by repeat (first | (with_reducible first | exact HB.out | apply below_alloc | apply pw_below_drewN | apply below_drew1 | refine below_set ?_ GE101.out | refine below_set ?_ GE102.out | refine below_set ?_ GE106.out | refine below_set ?_ GE110.out | refine below_set ?_ GE114.out | refine below_set ?_ GE118.out) | exact HB.out))) : w.heap.size ≤ gb122)); have n9_ := Aside0.mk ((by rw [hg]; exact (below_size (by repeat (first | (with_reducible first | exact HB.out | apply below_alloc | apply pw_below_drewN | apply below_drew1 | refine below_set ?_ GE101.out | refine below_set ?_ GE102.out | refine below_set ?_ GE106.out | refine below_set ?_ GE110.out | refine below_set ?_ GE114.out | refine below_set ?_ GE118.out) | exact HB.out))) : w.heap.size ≤ gb122)); have n10_ := Aside0.mk ((bkL BK101 hg : gb101 ≠ gb122)); have n11_ := Aside0.mk ((bkG BK101 hg : gb122 ≠ gb101)); have n12_ := Aside0.mk ((bkL BK102 hg : gb102 ≠ gb122)); have n13_ := Aside0.mk ((bkG BK102 hg : gb122 ≠ gb102)); have n14_ := Aside0.mk ((bkL BK106 hg : gb106 ≠ gb122)); have n15_ := Aside0.mk ((bkG BK106 hg : gb122 ≠ gb106)); have n16_ := Aside0.mk ((bkL BK110 hg : gb110 ≠ gb122)); have n17_ := Aside0.mk ((bkG BK110 hg : gb122 ≠ gb110)); have n18_ := Aside0.mk ((bkL BK114 hg : gb114 ≠ gb122)); have n19_ := Aside0.mk ((bkG BK114 hg : gb122 ≠ gb114)); have n20_ := Aside0.mk ((bkL BK118 hg : gb118 ≠ gb122)); have n21_ := Aside0.mk ((bkG BK118 hg : gb122 ≠ gb118)); clear BK101; clear BK102; clear BK106; clear BK110; clear BK114; clear BK118; clear HB; have BK101 := n0_; have BK102 := n1_; have BK106 := n2_; have BK110 := n3_; have BK114 := n4_; have BK118 := n5_; have HB := n6_; have BK122 := n7_; have GW122 := n8_; have GE122 := n9_; have NB101_122 := n10_; have NB122_101 := n11_; have NB102_122 := n12_; have NB122_102 := n13_; have NB106_122 := n14_; have NB122_106 := n15_; have NB110_122 := n16_; have NB122_110 := n17_; have NB114_122 := n18_; have NB122_114 := n19_; have NB118_122 := n20_; have NB122_118 := n21_; clear n0_ n1_ n2_ n3_ n4_ n5_ n6_ n7_ n8_ n9_ n10_ n11_ n12_ n13_ n14_ n15_ n16_ n17_ n18_ n19_ n20_ n21_; clear hb hbox hg; have hnb87 := NB122_101.out; have hnc87 := NB101_122.out; have hnb88 := NB122_102.out; have hnc88 := NB102_122.out; have hnb89 := NB122_106.out; have hnc89 := NB106_122.out; have hnb90 := NB122_110.out; have hnc90 := NB110_122.out; have hnb91 := NB122_114.out; have hnc91 := NB114_122.out; have hnb92 := NB122_118.out; have hnc92 := NB118_122.out; have hcz93_0 : w86.cell? ⟨gb122, 0, none⟩ = some (.int .i64 0) := (blk_cell BK122.out 0).trans rfl; have hcz93_1 : w86.cell? ⟨gb122, 1, none⟩ = some (.int .i64 0) := (blk_cell BK122.out 1).trans rfl; have hfz93_0 := blk_frozen BK122.out 0; have hfz93_1 := blk_frozen BK122.out 1; have hnb94 := NB118_101.out; have hnc94 := NB101_118.out; have hnb95 := NB118_102.out; have hnc95 := NB102_118.out; have hnb96 := NB118_106.out; have hnc96 := NB106_118.out; have hnb97 := NB118_110.out; have hnc97 := NB110_118.out; have hnb98 := NB118_114.out; have hnc98 := NB114_118.out; have hcz99_0 : w86.cell? ⟨gb118, 0, none⟩ = some (.int .i64 t115) := (blk_cell BK118.out 0).trans rfl; have hcz99_1 : w86.cell? ⟨gb118, 1, none⟩ = some (.int .i64 t116) := (blk_cell BK118.out 1).trans rfl; have hfz99_0 := blk_frozen BK118.out 0; have hfz99_1 := blk_frozen BK118.out 1))
            repeat (go_quiet (first | (go_at_call 34; (with_reducible refine (wire_Drop.calls kj57 (wrap64 (1 + (Int.tmod (wrap64 (a0_0)) 1000))) (wrap64 (1 + (Int.tmod (wrap64 (a0_1)) 100))) (wrap64 (1 + (wrap64 (a0_2)))) (wrap64 (Int.tdiv (wrap64 (1 + (Int.tmod (wrap64 (a0_1)) 100))) 2)) t119 t120 t121 _ A82.out).mono ?_); rintro e w85 ⟨rfl, hb⟩; have n0_ := Aside0.mk (bkB BK101 hb); have n1_ := Aside0.mk (bkB BK102 hb); have n2_ := Aside0.mk (bkB BK106 hb); have n3_ := Aside0.mk (bkB BK110 hb); have n4_ := Aside0.mk (bkB BK114 hb); have n5_ := Aside0.mk (bkB BK118 hb); have n6_ := Aside0.mk (below_step (by repeat (first | (with_reducible first | exact HB.out | apply below_alloc | apply pw_below_drewN | apply below_drew1 | refine below_set ?_ GE101.out | refine below_set ?_ GE102.out | refine below_set ?_ GE106.out | refine below_set ?_ GE110.out | refine below_set ?_ GE114.out | refine below_set ?_ GE118.out) | exact HB.out)) hb); clear BK101; clear BK102; clear BK106; clear BK110; clear BK114; clear BK118; clear HB; have BK101 := n0_; have BK102 := n1_; have BK106 := n2_; have BK110 := n3_; have BK114 := n4_; have BK118 := n5_; have HB := n6_; clear n0_ n1_ n2_ n3_ n4_ n5_ n6_; (try clear hb); (try clear hb2); (try clear hk); (try clear hi)) | ((with_reducible refine gate_dst (N := 18) rfl ?_); (try (refine gate_guard (by rfl) ?_; dsimp only)); refine box_event ?hg (N := 18) ?hd (cs := #[.int .i64 0, .int .i64 0]) (t := 55) ?hr ?_; (case hd => rfl); (case hg => rfl); (case hr => first | (go_simp; done) | (go_simp; rfl)); intro gb122 hg w86 hbox hb; have n0_ := Aside0.mk (bkB BK101 hb); have n1_ := Aside0.mk (bkB BK102 hb); have n2_ := Aside0.mk (bkB BK106 hb); have n3_ := Aside0.mk (bkB BK110 hb); have n4_ := Aside0.mk (bkB BK114 hb); have n5_ := Aside0.mk (bkB BK118 hb); have n6_ := Aside0.mk (below_step (by repeat (first | (with_reducible first | exact HB.out | apply below_alloc | apply pw_below_drewN | apply below_drew1 | refine below_set ?_ GE101.out | refine below_set ?_ GE102.out | refine below_set ?_ GE106.out | refine below_set ?_ GE110.out | refine below_set ?_ GE114.out | refine below_set ?_ GE118.out) | exact HB.out)) hb); have n7_ := Aside0.mk (hbox); have n8_ := Aside0.mk ((by rw [hg]; exact (below_size (by repeat (first | (with_reducible first | exact HB.out | apply below_alloc | apply pw_below_drewN | apply below_drew1 | refine below_set ?_ GE101.out | refine below_set ?_ GE102.out | refine below_set ?_ GE106.out | refine below_set ?_ GE110.out | refine below_set ?_ GE114.out | refine below_set ?_ GE118.out) | exact HB.out))) : w.heap.size ≤ gb122)); have n9_ := Aside0.mk ((by rw [hg]; exact (below_size (by repeat (first | (with_reducible first | exact HB.out | apply below_alloc | apply pw_below_drewN | apply below_drew1 | refine below_set ?_ GE101.out | refine below_set ?_ GE102.out | refine below_set ?_ GE106.out | refine below_set ?_ GE110.out | refine below_set ?_ GE114.out | refine below_set ?_ GE118.out) | exact HB.out))) : w.heap.size ≤ gb122)); have n10_ := Aside0.mk ((bkL BK101 hg : gb101 ≠ gb122)); have n11_ := Aside0.mk ((bkG BK101 hg : gb122 ≠ gb101)); have n12_ := Aside0.mk ((bkL BK102 hg : gb102 ≠ gb122)); have n13_ := Aside0.mk ((bkG BK102 hg : gb122 ≠ gb102)); have n14_ := Aside0.mk ((bkL BK106 hg : gb106 ≠ gb122)); have n15_ := Aside0.mk ((bkG BK106 hg : gb122 ≠ gb106)); have n16_ := Aside0.mk ((bkL BK110 hg : gb110 ≠ gb122)); have n17_ := Aside0.mk ((bkG BK110 hg : gb122 ≠ gb110)); have n18_ := Aside0.mk ((bkL BK114 hg : gb114 ≠ gb122)); have n19_ := Aside0.mk ((bkG BK114 hg : gb122 ≠ gb114)); have n20_ := Aside0.mk ((bkL BK118 hg : gb118 ≠ gb122)); have n21_ := Aside0.mk ((bkG BK118 hg : gb122 ≠ gb118)); clear BK101; clear BK102; clear BK106; clear BK110; clear BK114; clear BK118; clear HB; have BK101 := n0_; have BK102 := n1_; have BK106 := n2_; have BK110 := n3_; have BK114 := n4_; have BK118 := n5_; have HB := n6_; have BK122 := n7_; have GW122 := n8_; have GE122 := n9_; have NB101_122 := n10_; have NB122_101 := n11_; have NB102_122 := n12_; have NB122_102 := n13_; have NB106_122 := n14_; have NB122_106 := n15_; have NB110_122 := n16_; have NB122_110 := n17_; have NB114_122 := n18_; have NB122_114 := n19_; have NB118_122 := n20_; have NB122_118 := n21_; clear n0_ n1_ n2_ n3_ n4_ n5_ n6_ n7_ n8_ n9_ n10_ n11_ n12_ n13_ n14_ n15_ n16_ n17_ n18_ n19_ n20_ n21_; clear hb hbox hg; have hnb87 := NB122_101.out; have hnc87 := NB101_122.out; have hnb88 := NB122_102.out; have hnc88 := NB102_122.out; have hnb89 := NB122_106.out; have hnc89 := NB106_122.out; have hnb90 := NB122_110.out; have hnc90 := NB110_122.out; have hnb91 := NB122_114.out; have hnc91 := NB114_122.out; have hnb92 := NB122_118.out; have hnc92 := NB118_122.out; have hcz93_0 : w86.cell? ⟨gb122, 0, none⟩ = some (.int .i64 0) := (blk_cell BK122.out 0).trans rfl; have hcz93_1 : w86.cell? ⟨gb122, 1, none⟩ = some (.int .i64 0) := (blk_cell BK122.out 1).trans rfl; have hfz93_0 := blk_frozen BK122.out 0; have hfz93_1 := blk_frozen BK122.out 1; have hnb94 := NB118_101.out; have hnc94 := NB101_118.out; have hnb95 := NB118_102.out; have hnc95 := NB102_118.out; have hnb96 := NB118_106.out; have hnc96 := NB106_118.out; have hnb97 := NB118_110.out; have hnc97 := NB110_118.out; have hnb98 := NB118_114.out; have hnc98 := NB114_118.out; have hcz99_0 : w86.cell? ⟨gb118, 0, none⟩ = some (.int .i64 t115) := (blk_cell BK118.out 0).trans rfl; have hcz99_1 : w86.cell? ⟨gb118, 1, none⟩ = some (.int .i64 t116) := (blk_cell BK118.out 1).trans rfl; have hfz99_0 := blk_frozen BK118.out 0; have hfz99_1 := blk_frozen BK118.out 1)); try go_wp2_with (first | (go_at_call 34; (with_reducible refine (wire_Drop.calls kj57 (wrap64 (1 + (Int.tmod (wrap64 (a0_0)) 1000))) (wrap64 (1 + (Int.tmod (wrap64 (a0_1)) 100))) (wrap64 (1 + (wrap64 (a0_2)))) (wrap64 (Int.tdiv (wrap64 (1 + (Int.tmod (wrap64 (a0_1)) 100))) 2)) t119 t120 t121 _ A82.out).mono ?_); rintro e w85 ⟨rfl, hb⟩; have n0_ := Aside0.mk (bkB BK101 hb); have n1_ := Aside0.mk (bkB BK102 hb); have n2_ := Aside0.mk (bkB BK106 hb); have n3_ := Aside0.mk (bkB BK110 hb); have n4_ := Aside0.mk (bkB BK114 hb); have n5_ := Aside0.mk (bkB BK118 hb); have n6_ := Aside0.mk (below_step (by repeat (first | (with_reducible first | exact HB.out | apply below_alloc | apply pw_below_drewN | apply below_drew1 | refine below_set ?_ GE101.out | refine below_set ?_ GE102.out | refine below_set ?_ GE106.out | refine below_set ?_ GE110.out | refine below_set ?_ GE114.out | refine below_set ?_ GE118.out) | exact HB.out)) hb); clear BK101; clear BK102; clear BK106; clear BK110; clear BK114; clear BK118; clear HB; have BK101 := n0_; have BK102 := n1_; have BK106 := n2_; have BK110 := n3_; have BK114 := n4_; have BK118 := n5_; have HB := n6_; clear n0_ n1_ n2_ n3_ n4_ n5_ n6_; (try clear hb); (try clear hb2); (try clear hk); (try clear hi)) | ((with_reducible refine gate_dst (N := 18) rfl ?_); (try (refine gate_guard (by rfl) ?_; dsimp only)); refine box_event ?hg (N := 18) ?hd (cs := #[.int .i64 0, .int .i64 0]) (t := 55) ?hr ?_; (case hd => rfl); (case hg => rfl); (case hr => first | (go_simp; done) | (go_simp; rfl)); intro gb122 hg w86 hbox hb; have n0_ := Aside0.mk (bkB BK101 hb); have n1_ := Aside0.mk (bkB BK102 hb); have n2_ := Aside0.mk (bkB BK106 hb); have n3_ := Aside0.mk (bkB BK110 hb); have n4_ := Aside0.mk (bkB BK114 hb); have n5_ := Aside0.mk (bkB BK118 hb); have n6_ := Aside0.mk (below_step (by repeat (first | (with_reducible first | exact HB.out | apply below_alloc | apply pw_below_drewN | apply below_drew1 | refine below_set ?_ GE101.out | refine below_set ?_ GE102.out | refine below_set ?_ GE106.out | refine below_set ?_ GE110.out | refine below_set ?_ GE114.out | refine below_set ?_ GE118.out) | exact HB.out)) hb); have n7_ := Aside0.mk (hbox); have n8_ := Aside0.mk ((by rw [hg]; exact (below_size (by repeat (first | (with_reducible first | exact HB.out | apply below_alloc | apply pw_below_drewN | apply below_drew1 | refine below_set ?_ GE101.out | refine below_set ?_ GE102.out | refine below_set ?_ GE106.out | refine below_set ?_ GE110.out | refine below_set ?_ GE114.out | refine below_set ?_ GE118.out) | exact HB.out))) : w.heap.size ≤ gb122)); have n9_ := Aside0.mk ((by rw [hg]; exact (below_size (by repeat (first | (with_reducible first | exact HB.out | apply below_alloc | apply pw_below_drewN | apply below_drew1 | refine below_set ?_ GE101.out | refine below_set ?_ GE102.out | refine below_set ?_ GE106.out | refine below_set ?_ GE110.out | refine below_set ?_ GE114.out | refine below_set ?_ GE118.out) | exact HB.out))) : w.heap.size ≤ gb122)); have n10_ := Aside0.mk ((bkL BK101 hg : gb101 ≠ gb122)); have n11_ := Aside0.mk ((bkG BK101 hg : gb122 ≠ gb101)); have n12_ := Aside0.mk ((bkL BK102 hg : gb102 ≠ gb122)); have n13_ := Aside0.mk ((bkG BK102 hg : gb122 ≠ gb102)); have n14_ := Aside0.mk ((bkL BK106 hg : gb106 ≠ gb122)); have n15_ := Aside0.mk ((bkG BK106 hg : gb122 ≠ gb106)); have n16_ := Aside0.mk ((bkL BK110 hg : gb110 ≠ gb122)); have n17_ := Aside0.mk ((bkG BK110 hg : gb122 ≠ gb110)); have n18_ := Aside0.mk ((bkL BK114 hg : gb114 ≠ gb122)); have n19_ := Aside0.mk ((bkG BK114 hg : gb122 ≠ gb114)); have n20_ := Aside0.mk ((bkL BK118 hg : gb118 ≠ gb122)); have n21_ := Aside0.mk ((bkG BK118 hg : gb122 ≠ gb118)); clear BK101; clear BK102; clear BK106; clear BK110; clear BK114; clear BK118; clear HB; have BK101 := n0_; have BK102 := n1_; have BK106 := n2_; have BK110 := n3_; have BK114 := n4_; have BK118 := n5_; have HB := n6_; have BK122 := n7_; have GW122 := n8_; have GE122 := n9_; have NB101_122 := n10_; have NB122_101 := n11_; have NB102_122 := n12_; have NB122_102 := n13_; have NB106_122 := n14_; have NB122_106 := n15_; have NB110_122 := n16_; have NB122_110 := n17_; have NB114_122 := n18_; have NB122_114 := n19_; have NB118_122 := n20_; have NB122_118 := n21_; clear n0_ n1_ n2_ n3_ n4_ n5_ n6_ n7_ n8_ n9_ n10_ n11_ n12_ n13_ n14_ n15_ n16_ n17_ n18_ n19_ n20_ n21_; clear hb hbox hg; have hnb87 := NB122_101.out; have hnc87 := NB101_122.out; have hnb88 := NB122_102.out; have hnc88 := NB102_122.out; have hnb89 := NB122_106.out; have hnc89 := NB106_122.out; have hnb90 := NB122_110.out; have hnc90 := NB110_122.out; have hnb91 := NB122_114.out; have hnc91 := NB114_122.out; have hnb92 := NB122_118.out; have hnc92 := NB118_122.out; have hcz93_0 : w86.cell? ⟨gb122, 0, none⟩ = some (.int .i64 0) := (blk_cell BK122.out 0).trans rfl; have hcz93_1 : w86.cell? ⟨gb122, 1, none⟩ = some (.int .i64 0) := (blk_cell BK122.out 1).trans rfl; have hfz93_0 := blk_frozen BK122.out 0; have hfz93_1 := blk_frozen BK122.out 1; have hnb94 := NB118_101.out; have hnc94 := NB101_118.out; have hnb95 := NB118_102.out; have hnc95 := NB102_118.out; have hnb96 := NB118_106.out; have hnc96 := NB106_118.out; have hnb97 := NB118_110.out; have hnc97 := NB110_118.out; have hnb98 := NB118_114.out; have hnc98 := NB114_118.out; have hcz99_0 : w86.cell? ⟨gb118, 0, none⟩ = some (.int .i64 t115) := (blk_cell BK118.out 0).trans rfl; have hcz99_1 : w86.cell? ⟨gb118, 1, none⟩ = some (.int .i64 t116) := (blk_cell BK118.out 1).trans rfl; have hfz99_0 := blk_frozen BK118.out 0; have hfz99_1 := blk_frozen BK118.out 1)))
            go_meet
            case rel => exact ⟨_, H', ⟨by have := HJ7.out; have := HJ57.out; first | omega | exact Nat.le_refl _⟩, ⟨by (with_reducible repeat (first | refine blk_drewN ?_ _ | refine blk_drew ?_ | refine blk_alloc ?_ _)); refine blk_far ?_ NB101_122.out _; (with_reducible repeat (first | refine blk_drewN ?_ _ | refine blk_drew ?_ | refine blk_alloc ?_ _)); refine blk_far ?_ NB101_122.out _; (with_reducible repeat (first | refine blk_drewN ?_ _ | refine blk_drew ?_ | refine blk_alloc ?_ _)); exact BK101.out⟩, ⟨by (with_reducible repeat (first | refine blk_drewN ?_ _ | refine blk_drew ?_ | refine blk_alloc ?_ _)); refine blk_far ?_ NB102_122.out _; (with_reducible repeat (first | refine blk_drewN ?_ _ | refine blk_drew ?_ | refine blk_alloc ?_ _)); refine blk_far ?_ NB102_122.out _; (with_reducible repeat (first | refine blk_drewN ?_ _ | refine blk_drew ?_ | refine blk_alloc ?_ _)); exact BK102.out⟩, ⟨by (with_reducible repeat (first | refine blk_drewN ?_ _ | refine blk_drew ?_ | refine blk_alloc ?_ _)); refine blk_far ?_ NB106_122.out _; (with_reducible repeat (first | refine blk_drewN ?_ _ | refine blk_drew ?_ | refine blk_alloc ?_ _)); refine blk_far ?_ NB106_122.out _; (with_reducible repeat (first | refine blk_drewN ?_ _ | refine blk_drew ?_ | refine blk_alloc ?_ _)); exact BK106.out⟩, ⟨by (with_reducible repeat (first | refine blk_drewN ?_ _ | refine blk_drew ?_ | refine blk_alloc ?_ _)); refine blk_far ?_ NB110_122.out _; (with_reducible repeat (first | refine blk_drewN ?_ _ | refine blk_drew ?_ | refine blk_alloc ?_ _)); refine blk_far ?_ NB110_122.out _; (with_reducible repeat (first | refine blk_drewN ?_ _ | refine blk_drew ?_ | refine blk_alloc ?_ _)); exact BK110.out⟩, ⟨by (with_reducible repeat (first | refine blk_drewN ?_ _ | refine blk_drew ?_ | refine blk_alloc ?_ _)); refine blk_far ?_ NB114_122.out _; (with_reducible repeat (first | refine blk_drewN ?_ _ | refine blk_drew ?_ | refine blk_alloc ?_ _)); refine blk_far ?_ NB114_122.out _; (with_reducible repeat (first | refine blk_drewN ?_ _ | refine blk_drew ?_ | refine blk_alloc ?_ _)); exact BK114.out⟩, ⟨by (with_reducible repeat (first | refine blk_drewN ?_ _ | refine blk_drew ?_ | refine blk_alloc ?_ _)); refine blk_far ?_ NB118_122.out _; (with_reducible repeat (first | refine blk_drewN ?_ _ | refine blk_drew ?_ | refine blk_alloc ?_ _)); refine blk_far ?_ NB118_122.out _; (with_reducible repeat (first | refine blk_drewN ?_ _ | refine blk_drew ?_ | refine blk_alloc ?_ _)); exact BK118.out⟩, ⟨by repeat (first | (with_reducible first | exact HB.out | apply below_alloc | apply pw_below_drewN | apply below_drew1 | refine below_set ?_ GE101.out | refine below_set ?_ GE102.out | refine below_set ?_ GE106.out | refine below_set ?_ GE110.out | refine below_set ?_ GE114.out | refine below_set ?_ GE118.out | refine below_set ?_ GE122.out) | exact HB.out)⟩⟩
          case rest =>
            clear HC80
            try clear c1
            try clear c2
            try clear p2
            try clear c3
            try clear c4
            try clear c4b0
            try clear c4b1
            try clear c5
            try clear c6
            try clear p6
            try clear c7
            try clear c8
            try clear c9
            try clear c11
            try clear c15
            try clear c16
            try clear c20
            try clear c21
            try clear c22
            try clear c26
            try clear c27
            try clear c28
            try clear c29
            try clear c31
            try clear c31b0
            try clear c31b1
            try clear c32
            try clear c32b0
            try clear c32b1
            try clear c33
            try clear c33b0
            try clear c33b1
            try clear c34
            try clear c34b0
            try clear c35
            try clear c36
            try clear c37
            try clear c38
            try clear c40
            try clear c41
            try clear c42
            try clear c44
            try clear c45
            try clear c46
            try clear c47
            try clear c49
            try clear c50
            try clear c51
            try clear c53
            try clear c54
            try clear c56
            try clear c61
            try clear c62
            try clear c63
            try clear c64
            try clear p64
            try clear c65
            try clear c67
            try clear c67b0
            try clear c67b1
            try clear c68
            try clear c69
            try clear c70
            try clear c71
            try clear c72
            try clear c74
            try clear c75
            try clear c76
            try clear c77
            try clear c79
            try clear c81
            try clear c81b0
            try clear c81b1
            try clear c83
            try clear c83b0
            try clear c83b1
            try clear c84
            try clear c84b0
            try clear c87
            try clear c88
            try clear c89
            try clear c90
            try clear c91
            try clear c92
            try clear c94
            try clear c95
            try clear c96
            try clear c97
            try clear c98
            try clear hcz12_0
            try clear hcz12_1
            try clear hcz12_2
            try clear hcz17_0
            try clear hcz17_1
            try clear hcz23_0
            try clear hcz23_1
            try clear hcz30_0
            try clear hcz30_1
            try clear hcz39_0
            try clear hcz39_1
            try clear hcz43_0
            try clear hcz43_1
            try clear hcz48_0
            try clear hcz48_1
            try clear hcz52_0
            try clear hcz52_1
            try clear hcz55_0
            try clear hcz55_1
            try clear hcz66_0
            try clear hcz66_1
            try clear hcz73_0
            try clear hcz73_1
            try clear hcz78_0
            try clear hcz78_1
            try clear hcz93_0
            try clear hcz93_1
            try clear hcz99_0
            try clear hcz99_1
            try clear hfz12_0
            try clear hfz12_1
            try clear hfz12_2
            try clear hfz17_0
            try clear hfz17_1
            try clear hfz23_0
            try clear hfz23_1
            try clear hfz30_0
            try clear hfz30_1
            try clear hfz39_0
            try clear hfz39_1
            try clear hfz43_0
            try clear hfz43_1
            try clear hfz48_0
            try clear hfz48_1
            try clear hfz52_0
            try clear hfz52_1
            try clear hfz55_0
            try clear hfz55_1
            try clear hfz66_0
            try clear hfz66_1
            try clear hfz73_0
            try clear hfz73_1
            try clear hfz78_0
            try clear hfz78_1
            try clear hfz93_0
            try clear hfz93_1
            try clear hfz99_0
            try clear hfz99_1
            try clear p2
            try clear p6
            try clear p64
            obtain ⟨kq, HA, HJ79, BK101, BK102, BK106, BK110, BK114, BK118, HB⟩ := hcut
            cases kq with
            | zero => exact absurd HA.out (by simp [dropperlaw02_WireDroppers.j2])
            | succ kj79 =>
              have H := HA.out
              clear HA
              simp only [dropperlaw02_WireDroppers.j2] at H
              replace H := Option.bind_eq_some_iff.mp H
              obtain ⟨⟨t123, t124⟩, A1000, H⟩ := H
              replace H : (if t124 = 0 then (dropperlaw02_WireDroppers.l0 kj79 (Int.tmod (wrap64 (a2_0)) 10001) (Int.tmod (wrap64 (a2_1)) 21) t123 0) else (if t124 = 5 then (if (Int.tmod (wrap64 (a2_1)) 21) > 0 then (if (t123.length : Int) = 0 then ((dropperlaw02_Awake.f kj79).bind fun t127 => (some t127)) else (some false)) else (some false)) else (some false))) = some r := H
              have A100 := Aside0.mk A1000
              clear A1000
              by_cases c101 : t124 = 0
              rotate_left
              · rw [if_neg c101] at H
                have c101b0 : (t124 == 0) = false := beq_eq_false_iff_ne.mpr c101
                have c101b1 : (t124 != 0) = true := bne_iff_ne.mpr c101
                by_cases c122 : t124 = 5
                rotate_left
                · rw [if_neg c122] at H
                  have c122b0 : (t124 == 5) = false := beq_eq_false_iff_ne.mpr c122
                  have c122b1 : (t124 != 5) = true := bne_iff_ne.mpr c122
                  exact absurd (hT.symm.trans (Option.some.inj H).symm) (by decide)

                rw [if_pos c122] at H
                have c122b0 : (t124 == 5) = true := beq_iff_eq.mpr c122
                have c122b1 : (t124 != 5) = false := bne_eq_false_iff_eq.mpr c122
                clear c122
                by_cases c123 : (Int.tmod (wrap64 (a2_1)) 21) > 0
                rotate_left
                · rw [if_neg c123] at H
                  have c123b0 : decide (0 < (Int.tmod (wrap64 (a2_1)) 21)) = false := decide_eq_false c123
                  clear c123
                  exact absurd (hT.symm.trans (Option.some.inj H).symm) (by decide)
                rw [if_pos c123] at H
                have c123b0 : decide (0 < (Int.tmod (wrap64 (a2_1)) 21)) = true := decide_eq_true c123
                clear c123
                by_cases c124 : (t123.length : Int) = 0
                rotate_left
                · rw [if_neg c124] at H
                  have c124b0 : ((t123.length : Int) == 0) = false := beq_eq_false_iff_ne.mpr c124
                  have c124b1 : ((t123.length : Int) != 0) = true := bne_iff_ne.mpr c124
                  have c124b2 : ¬ (t123 = []) := fun h_ => c124 (by rw [h_]; rfl)
                  exact absurd (hT.symm.trans (Option.some.inj H).symm) (by decide)
                rw [if_pos c124] at H
                have c124b0 : ((t123.length : Int) == 0) = true := beq_iff_eq.mpr c124
                have c124b1 : ((t123.length : Int) != 0) = false := bne_eq_false_iff_eq.mpr c124
                clear c124
                replace H := Option.bind_eq_some_iff.mp H
                obtain ⟨t127, A1250, H⟩ := H
                replace H : (some t127) = some r := H
                have A125 := Aside0.mk A1250
                clear A1250
                clear hT
                obtain rfl := Option.some.inj H
                have hnb126 := NB102_101.out
                have hnc126 := NB101_102.out
                have hnb127 := NB102_106.out
                have hnc127 := NB106_102.out
                have hnb128 := NB102_110.out
                have hnc128 := NB110_102.out
                have hnb129 := NB102_114.out
                have hnc129 := NB114_102.out
                have hnb130 := NB102_118.out
                have hnc130 := NB118_102.out
                have hcz131_0 : wc.cell? ⟨gb102, 0, none⟩ = some (.int .u16 a2_0) := (blk_cell BK102.out 0).trans rfl
                have hcz131_1 : wc.cell? ⟨gb102, 1, none⟩ = some (.int .u16 a2_1) := (blk_cell BK102.out 1).trans rfl
                have hfz131_0 := blk_frozen BK102.out 0
                have hfz131_1 := blk_frozen BK102.out 1
                go_wp2_with (first | (go_at_call 36; (with_reducible refine (wire_Droppers.calls kj79 (wrap64 (1 + (Int.tmod (wrap64 (a0_0)) 1000))) (wrap64 (1 + (Int.tmod (wrap64 (a0_1)) 100))) (wrap64 (1 + (wrap64 (a0_2)))) (Int.tmod (wrap64 (a2_0)) 10001) (Int.tmod (wrap64 (a2_1)) 21) t123 t124 _ A100.out).mono ?_); rintro e w132 ⟨v125, rfl, ho0, hb⟩; have n0_ := Aside0.mk (Kd.R_lower (Kd.R_newB (Kd.R_newB (Kd.R_newB (Kd.R_newB ho0 (g := gb106) (o := .cells #[.int .i64 t103, .int .i64 t104] 55 (0, 0)) (bkU BK106)) (g := gb110) (o := .cells #[.int .i64 t107, .int .i64 t108] 55 (0, 0)) (bkU BK110)) (g := gb114) (o := .cells #[.int .i64 t111, .int .i64 t112] 55 (0, 0)) (bkU BK114)) (g := gb118) (o := .cells #[.int .i64 t115, .int .i64 t116] 55 (0, 0)) (bkU BK118)) (below_size (by repeat (first | (with_reducible first | exact HB.out | apply below_alloc | apply pw_below_drewN | apply below_drew1 | refine below_set ?_ GE101.out | refine below_set ?_ GE102.out | refine below_set ?_ GE106.out | refine below_set ?_ GE110.out | refine below_set ?_ GE114.out | refine below_set ?_ GE118.out) | exact HB.out)))); have n1_ := Aside0.mk (bkB BK101 hb); have n2_ := Aside0.mk (bkB BK102 hb); have n3_ := Aside0.mk (bkB BK106 hb); have n4_ := Aside0.mk (bkB BK110 hb); have n5_ := Aside0.mk (bkB BK114 hb); have n6_ := Aside0.mk (bkB BK118 hb); have n7_ := Aside0.mk (below_step (by repeat (first | (with_reducible first | exact HB.out | apply below_alloc | apply pw_below_drewN | apply below_drew1 | refine below_set ?_ GE101.out | refine below_set ?_ GE102.out | refine below_set ?_ GE106.out | refine below_set ?_ GE110.out | refine below_set ?_ GE114.out | refine below_set ?_ GE118.out) | exact HB.out)) hb); clear BK101; clear BK102; clear BK106; clear BK110; clear BK114; clear BK118; clear HB; have HO126 := n0_; have BK101 := n1_; have BK102 := n2_; have BK106 := n3_; have BK110 := n4_; have BK114 := n5_; have BK118 := n6_; have HB := n7_; clear n0_ n1_ n2_ n3_ n4_ n5_ n6_ n7_; (try clear hb); (try clear hb2); (try clear hk); (try clear hi); (try clear ho0); obtain ⟨Ao133, co133, eo133⟩ := Kd.R_slice HO126.out; subst eo133) | (go_at_call 14; (with_reducible refine (dropperlaw02_Awake.calls kj79  t127 _ A125.out).mono ?_); rintro e w134 ⟨rfl, hb⟩; have n0_ := Aside0.mk (Kd.R_below (by (with_reducible repeat (first | apply Kd.R_alloc | apply Kd.R_drewN | apply Kd.R_drew)); exact HO126.out) hb); have n1_ := Aside0.mk (bkB BK101 hb); have n2_ := Aside0.mk (bkB BK102 hb); have n3_ := Aside0.mk (bkB BK106 hb); have n4_ := Aside0.mk (bkB BK110 hb); have n5_ := Aside0.mk (bkB BK114 hb); have n6_ := Aside0.mk (bkB BK118 hb); have n7_ := Aside0.mk (below_step (by repeat (first | (with_reducible first | exact HB.out | apply below_alloc | apply pw_below_drewN | apply below_drew1 | refine below_set ?_ GE101.out | refine below_set ?_ GE102.out | refine below_set ?_ GE106.out | refine below_set ?_ GE110.out | refine below_set ?_ GE114.out | refine below_set ?_ GE118.out) | exact HB.out)) hb); clear HO126; clear BK101; clear BK102; clear BK106; clear BK110; clear BK114; clear BK118; clear HB; have HO126 := n0_; have BK101 := n1_; have BK102 := n2_; have BK106 := n3_; have BK110 := n4_; have BK114 := n5_; have BK118 := n6_; have HB := n7_; clear n0_ n1_ n2_ n3_ n4_ n5_ n6_ n7_; (try clear hb); (try clear hb2); (try clear hk); (try clear hi)))
                repeat (go_quiet (first | (go_at_call 36; (with_reducible refine (wire_Droppers.calls kj79 (wrap64 (1 + (Int.tmod (wrap64 (a0_0)) 1000))) (wrap64 (1 + (Int.tmod (wrap64 (a0_1)) 100))) (wrap64 (1 + (wrap64 (a0_2)))) (Int.tmod (wrap64 (a2_0)) 10001) (Int.tmod (wrap64 (a2_1)) 21) t123 t124 _ A100.out).mono ?_); rintro e w132 ⟨v125, rfl, ho0, hb⟩; have n0_ := Aside0.mk (Kd.R_lower (Kd.R_newB (Kd.R_newB (Kd.R_newB (Kd.R_newB ho0 (g := gb106) (o := .cells #[.int .i64 t103, .int .i64 t104] 55 (0, 0)) (bkU BK106)) (g := gb110) (o := .cells #[.int .i64 t107, .int .i64 t108] 55 (0, 0)) (bkU BK110)) (g := gb114) (o := .cells #[.int .i64 t111, .int .i64 t112] 55 (0, 0)) (bkU BK114)) (g := gb118) (o := .cells #[.int .i64 t115, .int .i64 t116] 55 (0, 0)) (bkU BK118)) (below_size (by repeat (first | (with_reducible first | exact HB.out | apply below_alloc | apply pw_below_drewN | apply below_drew1 | refine below_set ?_ GE101.out | refine below_set ?_ GE102.out | refine below_set ?_ GE106.out | refine below_set ?_ GE110.out | refine below_set ?_ GE114.out | refine below_set ?_ GE118.out) | exact HB.out)))); have n1_ := Aside0.mk (bkB BK101 hb); have n2_ := Aside0.mk (bkB BK102 hb); have n3_ := Aside0.mk (bkB BK106 hb); have n4_ := Aside0.mk (bkB BK110 hb); have n5_ := Aside0.mk (bkB BK114 hb); have n6_ := Aside0.mk (bkB BK118 hb); have n7_ := Aside0.mk (below_step (by repeat (first | (with_reducible first | exact HB.out | apply below_alloc | apply pw_below_drewN | apply below_drew1 | refine below_set ?_ GE101.out | refine below_set ?_ GE102.out | refine below_set ?_ GE106.out | refine below_set ?_ GE110.out | refine below_set ?_ GE114.out | refine below_set ?_ GE118.out) | exact HB.out)) hb); clear BK101; clear BK102; clear BK106; clear BK110; clear BK114; clear BK118; clear HB; have HO126 := n0_; have BK101 := n1_; have BK102 := n2_; have BK106 := n3_; have BK110 := n4_; have BK114 := n5_; have BK118 := n6_; have HB := n7_; clear n0_ n1_ n2_ n3_ n4_ n5_ n6_ n7_; (try clear hb); (try clear hb2); (try clear hk); (try clear hi); (try clear ho0); obtain ⟨Ao133, co133, eo133⟩ := Kd.R_slice HO126.out; subst eo133) | (go_at_call 14; (with_reducible refine (dropperlaw02_Awake.calls kj79  t127 _ A125.out).mono ?_); rintro e w134 ⟨rfl, hb⟩; have n0_ := Aside0.mk (Kd.R_below (by (with_reducible repeat (first | apply Kd.R_alloc | apply Kd.R_drewN | apply Kd.R_drew)); exact HO126.out) hb); have n1_ := Aside0.mk (bkB BK101 hb); have n2_ := Aside0.mk (bkB BK102 hb); have n3_ := Aside0.mk (bkB BK106 hb); have n4_ := Aside0.mk (bkB BK110 hb); have n5_ := Aside0.mk (bkB BK114 hb); have n6_ := Aside0.mk (bkB BK118 hb); have n7_ := Aside0.mk (below_step (by repeat (first | (with_reducible first | exact HB.out | apply below_alloc | apply pw_below_drewN | apply below_drew1 | refine below_set ?_ GE101.out | refine below_set ?_ GE102.out | refine below_set ?_ GE106.out | refine below_set ?_ GE110.out | refine below_set ?_ GE114.out | refine below_set ?_ GE118.out) | exact HB.out)) hb); clear HO126; clear BK101; clear BK102; clear BK106; clear BK110; clear BK114; clear BK118; clear HB; have HO126 := n0_; have BK101 := n1_; have BK102 := n2_; have BK106 := n3_; have BK110 := n4_; have BK114 := n5_; have BK118 := n6_; have HB := n7_; clear n0_ n1_ n2_ n3_ n4_ n5_ n6_ n7_; (try clear hb); (try clear hb2); (try clear hk); (try clear hi))); try go_wp2_with (first | (go_at_call 36; (with_reducible refine (wire_Droppers.calls kj79 (wrap64 (1 + (Int.tmod (wrap64 (a0_0)) 1000))) (wrap64 (1 + (Int.tmod (wrap64 (a0_1)) 100))) (wrap64 (1 + (wrap64 (a0_2)))) (Int.tmod (wrap64 (a2_0)) 10001) (Int.tmod (wrap64 (a2_1)) 21) t123 t124 _ A100.out).mono ?_); rintro e w132 ⟨v125, rfl, ho0, hb⟩; have n0_ := Aside0.mk (Kd.R_lower (Kd.R_newB (Kd.R_newB (Kd.R_newB (Kd.R_newB ho0 (g := gb106) (o := .cells #[.int .i64 t103, .int .i64 t104] 55 (0, 0)) (bkU BK106)) (g := gb110) (o := .cells #[.int .i64 t107, .int .i64 t108] 55 (0, 0)) (bkU BK110)) (g := gb114) (o := .cells #[.int .i64 t111, .int .i64 t112] 55 (0, 0)) (bkU BK114)) (g := gb118) (o := .cells #[.int .i64 t115, .int .i64 t116] 55 (0, 0)) (bkU BK118)) (below_size (by repeat (first | (with_reducible first | exact HB.out | apply below_alloc | apply pw_below_drewN | apply below_drew1 | refine below_set ?_ GE101.out | refine below_set ?_ GE102.out | refine below_set ?_ GE106.out | refine below_set ?_ GE110.out | refine below_set ?_ GE114.out | refine below_set ?_ GE118.out) | exact HB.out)))); have n1_ := Aside0.mk (bkB BK101 hb); have n2_ := Aside0.mk (bkB BK102 hb); have n3_ := Aside0.mk (bkB BK106 hb); have n4_ := Aside0.mk (bkB BK110 hb); have n5_ := Aside0.mk (bkB BK114 hb); have n6_ := Aside0.mk (bkB BK118 hb); have n7_ := Aside0.mk (below_step (by repeat (first | (with_reducible first | exact HB.out | apply below_alloc | apply pw_below_drewN | apply below_drew1 | refine below_set ?_ GE101.out | refine below_set ?_ GE102.out | refine below_set ?_ GE106.out | refine below_set ?_ GE110.out | refine below_set ?_ GE114.out | refine below_set ?_ GE118.out) | exact HB.out)) hb); clear BK101; clear BK102; clear BK106; clear BK110; clear BK114; clear BK118; clear HB; have HO126 := n0_; have BK101 := n1_; have BK102 := n2_; have BK106 := n3_; have BK110 := n4_; have BK114 := n5_; have BK118 := n6_; have HB := n7_; clear n0_ n1_ n2_ n3_ n4_ n5_ n6_ n7_; (try clear hb); (try clear hb2); (try clear hk); (try clear hi); (try clear ho0); obtain ⟨Ao133, co133, eo133⟩ := Kd.R_slice HO126.out; subst eo133) | (go_at_call 14; (with_reducible refine (dropperlaw02_Awake.calls kj79  t127 _ A125.out).mono ?_); rintro e w134 ⟨rfl, hb⟩; have n0_ := Aside0.mk (Kd.R_below (by (with_reducible repeat (first | apply Kd.R_alloc | apply Kd.R_drewN | apply Kd.R_drew)); exact HO126.out) hb); have n1_ := Aside0.mk (bkB BK101 hb); have n2_ := Aside0.mk (bkB BK102 hb); have n3_ := Aside0.mk (bkB BK106 hb); have n4_ := Aside0.mk (bkB BK110 hb); have n5_ := Aside0.mk (bkB BK114 hb); have n6_ := Aside0.mk (bkB BK118 hb); have n7_ := Aside0.mk (below_step (by repeat (first | (with_reducible first | exact HB.out | apply below_alloc | apply pw_below_drewN | apply below_drew1 | refine below_set ?_ GE101.out | refine below_set ?_ GE102.out | refine below_set ?_ GE106.out | refine below_set ?_ GE110.out | refine below_set ?_ GE114.out | refine below_set ?_ GE118.out) | exact HB.out)) hb); clear HO126; clear BK101; clear BK102; clear BK106; clear BK110; clear BK114; clear BK118; clear HB; have HO126 := n0_; have BK101 := n1_; have BK102 := n2_; have BK106 := n3_; have BK110 := n4_; have BK114 := n5_; have BK118 := n6_; have HB := n7_; clear n0_ n1_ n2_ n3_ n4_ n5_ n6_ n7_; (try clear hb); (try clear hb2); (try clear hk); (try clear hi))))
                go_ret
                exact ⟨by first | rfl | (simp [errW_none, errW_some] <;> rfl) | (simp [*, errW_none, errW_some] <;> rfl), by repeat (first | (with_reducible first | exact HB.out | apply below_alloc | apply pw_below_drewN | apply below_drew1 | refine below_set ?_ GE101.out | refine below_set ?_ GE102.out | refine below_set ?_ GE106.out | refine below_set ?_ GE110.out | refine below_set ?_ GE114.out | refine below_set ?_ GE118.out) | exact HB.out)⟩
              rw [if_pos c101] at H
              have c101b0 : (t124 == 0) = true := beq_iff_eq.mpr c101
              have c101b1 : (t124 != 0) = false := bne_eq_false_iff_eq.mpr c101
              clear c101
              have H' := Aside0.mk H
              clear H
              have hnb102 := NB102_101.out
              have hnc102 := NB101_102.out
              have hnb103 := NB102_106.out
              have hnc103 := NB106_102.out
              have hnb104 := NB102_110.out
              have hnc104 := NB110_102.out
              have hnb105 := NB102_114.out
              have hnc105 := NB114_102.out
              have hnb106 := NB102_118.out
              have hnc106 := NB118_102.out
              have hcz107_0 : wc.cell? ⟨gb102, 0, none⟩ = some (.int .u16 a2_0) := (blk_cell BK102.out 0).trans rfl
              have hcz107_1 : wc.cell? ⟨gb102, 1, none⟩ = some (.int .u16 a2_1) := (blk_cell BK102.out 1).trans rfl
              have hfz107_0 := blk_frozen BK102.out 0
              have hfz107_1 := blk_frozen BK102.out 1
              go_wp2_with (first | (go_at_call 36; (with_reducible refine (wire_Droppers.calls kj79 (wrap64 (1 + (Int.tmod (wrap64 (a0_0)) 1000))) (wrap64 (1 + (Int.tmod (wrap64 (a0_1)) 100))) (wrap64 (1 + (wrap64 (a0_2)))) (Int.tmod (wrap64 (a2_0)) 10001) (Int.tmod (wrap64 (a2_1)) 21) t123 t124 _ A100.out).mono ?_); rintro e w108 ⟨v125, rfl, ho0, hb⟩; have n0_ := Aside0.mk (Kd.R_lower (Kd.R_newB (Kd.R_newB (Kd.R_newB (Kd.R_newB ho0 (g := gb106) (o := .cells #[.int .i64 t103, .int .i64 t104] 55 (0, 0)) (bkU BK106)) (g := gb110) (o := .cells #[.int .i64 t107, .int .i64 t108] 55 (0, 0)) (bkU BK110)) (g := gb114) (o := .cells #[.int .i64 t111, .int .i64 t112] 55 (0, 0)) (bkU BK114)) (g := gb118) (o := .cells #[.int .i64 t115, .int .i64 t116] 55 (0, 0)) (bkU BK118)) (below_size (by repeat (first | (with_reducible first | exact HB.out | apply below_alloc | apply pw_below_drewN | apply below_drew1 | refine below_set ?_ GE101.out | refine below_set ?_ GE102.out | refine below_set ?_ GE106.out | refine below_set ?_ GE110.out | refine below_set ?_ GE114.out | refine below_set ?_ GE118.out) | exact HB.out)))); have n1_ := Aside0.mk (bkB BK101 hb); have n2_ := Aside0.mk (bkB BK102 hb); have n3_ := Aside0.mk (bkB BK106 hb); have n4_ := Aside0.mk (bkB BK110 hb); have n5_ := Aside0.mk (bkB BK114 hb); have n6_ := Aside0.mk (bkB BK118 hb); have n7_ := Aside0.mk (below_step (by repeat (first | (with_reducible first | exact HB.out | apply below_alloc | apply pw_below_drewN | apply below_drew1 | refine below_set ?_ GE101.out | refine below_set ?_ GE102.out | refine below_set ?_ GE106.out | refine below_set ?_ GE110.out | refine below_set ?_ GE114.out | refine below_set ?_ GE118.out) | exact HB.out)) hb); clear BK101; clear BK102; clear BK106; clear BK110; clear BK114; clear BK118; clear HB; have HO126 := n0_; have BK101 := n1_; have BK102 := n2_; have BK106 := n3_; have BK110 := n4_; have BK114 := n5_; have BK118 := n6_; have HB := n7_; clear n0_ n1_ n2_ n3_ n4_ n5_ n6_ n7_; (try clear hb); (try clear hb2); (try clear hk); (try clear hi); (try clear ho0)))
              repeat (go_quiet (first | (go_at_call 36; (with_reducible refine (wire_Droppers.calls kj79 (wrap64 (1 + (Int.tmod (wrap64 (a0_0)) 1000))) (wrap64 (1 + (Int.tmod (wrap64 (a0_1)) 100))) (wrap64 (1 + (wrap64 (a0_2)))) (Int.tmod (wrap64 (a2_0)) 10001) (Int.tmod (wrap64 (a2_1)) 21) t123 t124 _ A100.out).mono ?_); rintro e w108 ⟨v125, rfl, ho0, hb⟩; have n0_ := Aside0.mk (Kd.R_lower (Kd.R_newB (Kd.R_newB (Kd.R_newB (Kd.R_newB ho0 (g := gb106) (o := .cells #[.int .i64 t103, .int .i64 t104] 55 (0, 0)) (bkU BK106)) (g := gb110) (o := .cells #[.int .i64 t107, .int .i64 t108] 55 (0, 0)) (bkU BK110)) (g := gb114) (o := .cells #[.int .i64 t111, .int .i64 t112] 55 (0, 0)) (bkU BK114)) (g := gb118) (o := .cells #[.int .i64 t115, .int .i64 t116] 55 (0, 0)) (bkU BK118)) (below_size (by repeat (first | (with_reducible first | exact HB.out | apply below_alloc | apply pw_below_drewN | apply below_drew1 | refine below_set ?_ GE101.out | refine below_set ?_ GE102.out | refine below_set ?_ GE106.out | refine below_set ?_ GE110.out | refine below_set ?_ GE114.out | refine below_set ?_ GE118.out) | exact HB.out)))); have n1_ := Aside0.mk (bkB BK101 hb); have n2_ := Aside0.mk (bkB BK102 hb); have n3_ := Aside0.mk (bkB BK106 hb); have n4_ := Aside0.mk (bkB BK110 hb); have n5_ := Aside0.mk (bkB BK114 hb); have n6_ := Aside0.mk (bkB BK118 hb); have n7_ := Aside0.mk (below_step (by repeat (first | (with_reducible first | exact HB.out | apply below_alloc | apply pw_below_drewN | apply below_drew1 | refine below_set ?_ GE101.out | refine below_set ?_ GE102.out | refine below_set ?_ GE106.out | refine below_set ?_ GE110.out | refine below_set ?_ GE114.out | refine below_set ?_ GE118.out) | exact HB.out)) hb); clear BK101; clear BK102; clear BK106; clear BK110; clear BK114; clear BK118; clear HB; have HO126 := n0_; have BK101 := n1_; have BK102 := n2_; have BK106 := n3_; have BK110 := n4_; have BK114 := n5_; have BK118 := n6_; have HB := n7_; clear n0_ n1_ n2_ n3_ n4_ n5_ n6_ n7_; (try clear hb); (try clear hb2); (try clear hk); (try clear hi); (try clear ho0))); try go_wp2_with (first | (go_at_call 36; (with_reducible refine (wire_Droppers.calls kj79 (wrap64 (1 + (Int.tmod (wrap64 (a0_0)) 1000))) (wrap64 (1 + (Int.tmod (wrap64 (a0_1)) 100))) (wrap64 (1 + (wrap64 (a0_2)))) (Int.tmod (wrap64 (a2_0)) 10001) (Int.tmod (wrap64 (a2_1)) 21) t123 t124 _ A100.out).mono ?_); rintro e w108 ⟨v125, rfl, ho0, hb⟩; have n0_ := Aside0.mk (Kd.R_lower (Kd.R_newB (Kd.R_newB (Kd.R_newB (Kd.R_newB ho0 (g := gb106) (o := .cells #[.int .i64 t103, .int .i64 t104] 55 (0, 0)) (bkU BK106)) (g := gb110) (o := .cells #[.int .i64 t107, .int .i64 t108] 55 (0, 0)) (bkU BK110)) (g := gb114) (o := .cells #[.int .i64 t111, .int .i64 t112] 55 (0, 0)) (bkU BK114)) (g := gb118) (o := .cells #[.int .i64 t115, .int .i64 t116] 55 (0, 0)) (bkU BK118)) (below_size (by repeat (first | (with_reducible first | exact HB.out | apply below_alloc | apply pw_below_drewN | apply below_drew1 | refine below_set ?_ GE101.out | refine below_set ?_ GE102.out | refine below_set ?_ GE106.out | refine below_set ?_ GE110.out | refine below_set ?_ GE114.out | refine below_set ?_ GE118.out) | exact HB.out)))); have n1_ := Aside0.mk (bkB BK101 hb); have n2_ := Aside0.mk (bkB BK102 hb); have n3_ := Aside0.mk (bkB BK106 hb); have n4_ := Aside0.mk (bkB BK110 hb); have n5_ := Aside0.mk (bkB BK114 hb); have n6_ := Aside0.mk (bkB BK118 hb); have n7_ := Aside0.mk (below_step (by repeat (first | (with_reducible first | exact HB.out | apply below_alloc | apply pw_below_drewN | apply below_drew1 | refine below_set ?_ GE101.out | refine below_set ?_ GE102.out | refine below_set ?_ GE106.out | refine below_set ?_ GE110.out | refine below_set ?_ GE114.out | refine below_set ?_ GE118.out) | exact HB.out)) hb); clear BK101; clear BK102; clear BK106; clear BK110; clear BK114; clear BK118; clear HB; have HO126 := n0_; have BK101 := n1_; have BK102 := n2_; have BK106 := n3_; have BK110 := n4_; have BK114 := n5_; have BK118 := n6_; have HB := n7_; clear n0_ n1_ n2_ n3_ n4_ n5_ n6_ n7_; (try clear hb); (try clear hb2); (try clear hk); (try clear hi); (try clear ho0))))
              go_loopg [23] kj79 (fun kq v23 w' => ∃ (x23_4 : Int), v23 = .int .i64 x23_4 ∧ Aside0 (dropperlaw02_WireDroppers.l0 kq (Int.tmod (wrap64 (a2_0)) 10001) (Int.tmod (wrap64 (a2_1)) 21) t123 x23_4 = some r) ∧ Aside0 (kq ≤ kj79) ∧ Aside0 (Kd.R k55 55 w' w.heap.size (fun k_ => k_ ≠ gb106 ∧ k_ ≠ gb110 ∧ k_ ≠ gb114 ∧ k_ ≠ gb118) v125 t123) ∧ Aside0 (w'.heap[gb101]? = some (.cells #[.int .u16 a0_0, .int .u16 a0_1, .int .u16 a0_2] 65 (0, 0))) ∧ Aside0 (w'.heap[gb102]? = some (.cells #[.int .u16 a2_0, .int .u16 a2_1] 66 (0, 0))) ∧ Aside0 (w'.heap[gb106]? = some (.cells #[.int .i64 t103, .int .i64 t104] 55 (0, 0))) ∧ Aside0 (w'.heap[gb110]? = some (.cells #[.int .i64 t107, .int .i64 t108] 55 (0, 0))) ∧ Aside0 (w'.heap[gb114]? = some (.cells #[.int .i64 t111, .int .i64 t112] 55 (0, 0))) ∧ Aside0 (w'.heap[gb118]? = some (.cells #[.int .i64 t115, .int .i64 t116] 55 (0, 0))) ∧ Aside0 (Below w.heap.size w w'))
              case atStart => exact ⟨(0), (by first | rfl | (simp; done) | (simp [*]; done)), H', ⟨Nat.le_refl _⟩, ⟨by (with_reducible repeat (first | apply Kd.R_alloc | apply Kd.R_drewN | apply Kd.R_drew)); exact Kd.R_mono HO126.out (fun _ hk => ⟨hk.1.1.1.2, ⟨hk.1.1.2, ⟨hk.1.2, hk.2⟩⟩⟩)⟩, ⟨bkU BK101⟩, ⟨bkU BK102⟩, ⟨bkU BK106⟩, ⟨bkU BK110⟩, ⟨bkU BK114⟩, ⟨bkU BK118⟩, ⟨by repeat (first | (with_reducible first | exact HB.out | apply below_alloc | apply pw_below_drewN | apply below_drew1 | refine below_set ?_ GE101.out | refine below_set ?_ GE102.out | refine below_set ?_ GE106.out | refine below_set ?_ GE110.out | refine below_set ?_ GE114.out | refine below_set ?_ GE118.out) | exact HB.out)⟩⟩
              case round =>
                clear H'
                try clear c1
                try clear c2
                try clear p2
                try clear c3
                try clear c4
                try clear c4b0
                try clear c4b1
                try clear c5
                try clear c6
                try clear p6
                try clear c7
                try clear c8
                try clear c9
                try clear c10
                try clear c11
                try clear c15
                try clear c16
                try clear c20
                try clear c21
                try clear c22
                try clear c26
                try clear c27
                try clear c28
                try clear c29
                try clear c31
                try clear c31b0
                try clear c31b1
                try clear c32
                try clear c32b0
                try clear c32b1
                try clear c33
                try clear c33b0
                try clear c33b1
                try clear c34
                try clear c34b0
                try clear c35
                try clear c36
                try clear c37
                try clear c38
                try clear c40
                try clear c41
                try clear c42
                try clear c44
                try clear c45
                try clear c46
                try clear c47
                try clear c49
                try clear c50
                try clear c51
                try clear c53
                try clear c54
                try clear c56
                try clear c61
                try clear c62
                try clear c63
                try clear c64
                try clear p64
                try clear c65
                try clear c67
                try clear c67b0
                try clear c67b1
                try clear c68
                try clear c69
                try clear c70
                try clear c71
                try clear c72
                try clear c74
                try clear c75
                try clear c76
                try clear c77
                try clear c79
                try clear c81
                try clear c81b0
                try clear c81b1
                try clear c83
                try clear c83b0
                try clear c83b1
                try clear c84
                try clear c84b0
                try clear c87
                try clear c88
                try clear c89
                try clear c90
                try clear c91
                try clear c92
                try clear c94
                try clear c95
                try clear c96
                try clear c97
                try clear c98
                try clear c101
                try clear c101b0
                try clear c101b1
                try clear c102
                try clear c103
                try clear c104
                try clear c105
                try clear c106
                try clear hcz107_0
                try clear hcz107_1
                try clear hcz12_0
                try clear hcz12_1
                try clear hcz12_2
                try clear hcz17_0
                try clear hcz17_1
                try clear hcz23_0
                try clear hcz23_1
                try clear hcz30_0
                try clear hcz30_1
                try clear hcz39_0
                try clear hcz39_1
                try clear hcz43_0
                try clear hcz43_1
                try clear hcz48_0
                try clear hcz48_1
                try clear hcz52_0
                try clear hcz52_1
                try clear hcz55_0
                try clear hcz55_1
                try clear hcz66_0
                try clear hcz66_1
                try clear hcz73_0
                try clear hcz73_1
                try clear hcz78_0
                try clear hcz78_1
                try clear hcz93_0
                try clear hcz93_1
                try clear hcz99_0
                try clear hcz99_1
                try clear hfz107_0
                try clear hfz107_1
                try clear hfz12_0
                try clear hfz12_1
                try clear hfz12_2
                try clear hfz17_0
                try clear hfz17_1
                try clear hfz23_0
                try clear hfz23_1
                try clear hfz30_0
                try clear hfz30_1
                try clear hfz39_0
                try clear hfz39_1
                try clear hfz43_0
                try clear hfz43_1
                try clear hfz48_0
                try clear hfz48_1
                try clear hfz52_0
                try clear hfz52_1
                try clear hfz55_0
                try clear hfz55_1
                try clear hfz66_0
                try clear hfz66_1
                try clear hfz73_0
                try clear hfz73_1
                try clear hfz78_0
                try clear hfz78_1
                try clear hfz93_0
                try clear hfz93_1
                try clear hfz99_0
                try clear hfz99_1
                try clear p2
                try clear p6
                try clear p64
                obtain ⟨x23_4, rfl, HA, HK4, HO_22, BK101, BK102, BK106, BK110, BK114, BK118, HB⟩ := hrel
                cases gk with
                | zero => exact absurd HA.out (by simp [dropperlaw02_WireDroppers.l0])
                | succ k4 =>
                  have H := HA.out
                  clear HA
                  simp only [dropperlaw02_WireDroppers.l0] at H
                  by_cases c109 : x23_4 < (t123.length : Int)
                  rotate_left
                  · rw [if_neg c109] at H
                    have c109b0 : decide (x23_4 < (t123.length : Int)) = false := decide_eq_false c109
                    clear c109
                    by_cases c118 : (t123.length : Int) = (Int.tmod (wrap64 (a2_1)) 21)
                    rotate_left
                    · rw [if_neg c118] at H
                      have c118b0 : ((t123.length : Int) == (Int.tmod (wrap64 (a2_1)) 21)) = false := beq_eq_false_iff_ne.mpr c118
                      have c118b1 : ((t123.length : Int) != (Int.tmod (wrap64 (a2_1)) 21)) = true := bne_iff_ne.mpr c118
                      exact absurd (hT.symm.trans (Option.some.inj H).symm) (by decide)
                    rw [if_pos c118] at H
                    have c118b0 : ((t123.length : Int) == (Int.tmod (wrap64 (a2_1)) 21)) = true := beq_iff_eq.mpr c118
                    have c118b1 : ((t123.length : Int) != (Int.tmod (wrap64 (a2_1)) 21)) = false := bne_eq_false_iff_eq.mpr c118
                    clear c118
                    replace H := Option.bind_eq_some_iff.mp H
                    obtain ⟨t133, A1190, H⟩ := H
                    replace H : (some t133) = some r := H
                    have A119 := Aside0.mk A1190
                    clear A1190
                    clear hT
                    obtain rfl := Option.some.inj H
                    obtain ⟨Ao120, co120, eo120⟩ := Kd.R_slice HO_22.out
                    subst eo120
                    go_wp2_with (first | (go_at_call 14; (with_reducible refine (dropperlaw02_Awake.calls k4  t133 _ A119.out).mono ?_); rintro e w121 ⟨rfl, hb⟩; have n0_ := Aside0.mk (Kd.R_below (by (with_reducible repeat (first | apply Kd.R_alloc | apply Kd.R_drewN | apply Kd.R_drew)); exact HO_22.out) hb); have n1_ := Aside0.mk (bkB BK101 hb); have n2_ := Aside0.mk (bkB BK102 hb); have n3_ := Aside0.mk (bkB BK106 hb); have n4_ := Aside0.mk (bkB BK110 hb); have n5_ := Aside0.mk (bkB BK114 hb); have n6_ := Aside0.mk (bkB BK118 hb); have n7_ := Aside0.mk (below_step (by repeat (first | (with_reducible first | exact HB.out | apply below_alloc | apply pw_below_drewN | apply below_drew1 | refine below_set ?_ GE101.out | refine below_set ?_ GE102.out | refine below_set ?_ GE106.out | refine below_set ?_ GE110.out | refine below_set ?_ GE114.out | refine below_set ?_ GE118.out) | exact HB.out)) hb); clear HO_22; clear BK101; clear BK102; clear BK106; clear BK110; clear BK114; clear BK118; clear HB; have HO_22 := n0_; have BK101 := n1_; have BK102 := n2_; have BK106 := n3_; have BK110 := n4_; have BK114 := n5_; have BK118 := n6_; have HB := n7_; clear n0_ n1_ n2_ n3_ n4_ n5_ n6_ n7_; (try clear hb); (try clear hb2); (try clear hk); (try clear hi)))
                    repeat (go_quiet (first | (go_at_call 14; (with_reducible refine (dropperlaw02_Awake.calls k4  t133 _ A119.out).mono ?_); rintro e w121 ⟨rfl, hb⟩; have n0_ := Aside0.mk (Kd.R_below (by (with_reducible repeat (first | apply Kd.R_alloc | apply Kd.R_drewN | apply Kd.R_drew)); exact HO_22.out) hb); have n1_ := Aside0.mk (bkB BK101 hb); have n2_ := Aside0.mk (bkB BK102 hb); have n3_ := Aside0.mk (bkB BK106 hb); have n4_ := Aside0.mk (bkB BK110 hb); have n5_ := Aside0.mk (bkB BK114 hb); have n6_ := Aside0.mk (bkB BK118 hb); have n7_ := Aside0.mk (below_step (by repeat (first | (with_reducible first | exact HB.out | apply below_alloc | apply pw_below_drewN | apply below_drew1 | refine below_set ?_ GE101.out | refine below_set ?_ GE102.out | refine below_set ?_ GE106.out | refine below_set ?_ GE110.out | refine below_set ?_ GE114.out | refine below_set ?_ GE118.out) | exact HB.out)) hb); clear HO_22; clear BK101; clear BK102; clear BK106; clear BK110; clear BK114; clear BK118; clear HB; have HO_22 := n0_; have BK101 := n1_; have BK102 := n2_; have BK106 := n3_; have BK110 := n4_; have BK114 := n5_; have BK118 := n6_; have HB := n7_; clear n0_ n1_ n2_ n3_ n4_ n5_ n6_ n7_; (try clear hb); (try clear hb2); (try clear hk); (try clear hi))); try go_wp2_with (first | (go_at_call 14; (with_reducible refine (dropperlaw02_Awake.calls k4  t133 _ A119.out).mono ?_); rintro e w121 ⟨rfl, hb⟩; have n0_ := Aside0.mk (Kd.R_below (by (with_reducible repeat (first | apply Kd.R_alloc | apply Kd.R_drewN | apply Kd.R_drew)); exact HO_22.out) hb); have n1_ := Aside0.mk (bkB BK101 hb); have n2_ := Aside0.mk (bkB BK102 hb); have n3_ := Aside0.mk (bkB BK106 hb); have n4_ := Aside0.mk (bkB BK110 hb); have n5_ := Aside0.mk (bkB BK114 hb); have n6_ := Aside0.mk (bkB BK118 hb); have n7_ := Aside0.mk (below_step (by repeat (first | (with_reducible first | exact HB.out | apply below_alloc | apply pw_below_drewN | apply below_drew1 | refine below_set ?_ GE101.out | refine below_set ?_ GE102.out | refine below_set ?_ GE106.out | refine below_set ?_ GE110.out | refine below_set ?_ GE114.out | refine below_set ?_ GE118.out) | exact HB.out)) hb); clear HO_22; clear BK101; clear BK102; clear BK106; clear BK110; clear BK114; clear BK118; clear HB; have HO_22 := n0_; have BK101 := n1_; have BK102 := n2_; have BK106 := n3_; have BK110 := n4_; have BK114 := n5_; have BK118 := n6_; have HB := n7_; clear n0_ n1_ n2_ n3_ n4_ n5_ n6_ n7_; (try clear hb); (try clear hb2); (try clear hk); (try clear hi))))
                    go_ret
                    exact ⟨by first | rfl | (simp [errW_none, errW_some] <;> rfl) | (simp [*, errW_none, errW_some] <;> rfl), by repeat (first | (with_reducible first | exact HB.out | apply below_alloc | apply pw_below_drewN | apply below_drew1 | refine below_set ?_ GE101.out | refine below_set ?_ GE102.out | refine below_set ?_ GE106.out | refine below_set ?_ GE110.out | refine below_set ?_ GE114.out | refine below_set ?_ GE118.out) | exact HB.out)⟩
                  rw [if_pos c109] at H
                  have c109b0 : decide (x23_4 < (t123.length : Int)) = true := decide_eq_true c109
                  clear c109
                  by_cases c110 : 0 ≤ x23_4
                  rotate_left
                  · rw [if_neg c110] at H
                    exact absurd H (by simp)
                  rw [if_pos c110] at H
                  have c110b0 : decide (0 ≤ x23_4) = true := decide_eq_true c110
                  clear c110
                  obtain ⟨ji111, hji111⟩ : ∃ j_ : Int, (wrap64 ((wrap64 ((t123.length : Int) - 1)) - x23_4)) = j_ := ⟨_, rfl⟩
                  replace H : (if 0 ≤ (ji111) then (if (ji111) < (t123.length : Int) then (if (!(((rd_T55 t123 x23_4).f0) == ((rd_T55 t123 (ji111)).f0)) || (!(((rd_T55 t123 x23_4).f1) == ((rd_T55 t123 (ji111)).f1)))) = true then (some false) else (if ((rd_T55 t123 x23_4).f0) < 1 then (some false) else (if ((rd_T55 t123 x23_4).f0) > (wrap64 ((Int.tmod (wrap64 (a2_0)) 10001) * ((rd_T55 t123 x23_4).f1))) then (some false) else (dropperlaw02_WireDroppers.l0 k4 (Int.tmod (wrap64 (a2_0)) 10001) (Int.tmod (wrap64 (a2_1)) 21) t123 (wrap64 (x23_4 + 1)))))) else (none)) else (none)) = some r := by first | (rw [hji111] at H; exact H) | (simp only [hji111] at H ⊢; exact H)
                  have hji111w : (IntKind.i64.wrap ((wrap64 ((t123.length : Int) - 1)) - x23_4)) = ji111 := (i64_w _).trans hji111
                  by_cases c112 : 0 ≤ (ji111)
                  rotate_left
                  · rw [if_neg c112] at H
                    exact absurd H (by simp)
                  rw [if_pos c112] at H
                  have c112b0 : decide (0 ≤ (ji111)) = true := decide_eq_true c112
                  clear c112
                  by_cases c113 : (ji111) < (t123.length : Int)
                  rotate_left
                  · rw [if_neg c113] at H
                    exact absurd H (by simp)
                  rw [if_pos c113] at H
                  have c113b0 : decide ((ji111) < (t123.length : Int)) = true := decide_eq_true c113
                  clear c113
                  by_cases c114 : (!(((rd_T55 t123 x23_4).f0) == ((rd_T55 t123 (ji111)).f0)) || (!(((rd_T55 t123 x23_4).f1) == ((rd_T55 t123 (ji111)).f1)))) = true
                  · rw [if_pos c114] at H
                    have c114b0 : (!(((rd_T55 t123 x23_4).f0) == ((rd_T55 t123 (ji111)).f0)) || (!(((rd_T55 t123 x23_4).f1) == ((rd_T55 t123 (ji111)).f1)))) = true := c114
                    clear c114
                    exact absurd (hT.symm.trans (Option.some.inj H).symm) (by decide)
                  rw [if_neg c114] at H
                  have c114b0 : (!(((rd_T55 t123 x23_4).f0) == ((rd_T55 t123 (ji111)).f0)) || (!(((rd_T55 t123 x23_4).f1) == ((rd_T55 t123 (ji111)).f1)))) = false := by simpa using c114
                  clear c114
                  by_cases c115 : ((rd_T55 t123 x23_4).f0) < 1
                  · rw [if_pos c115] at H
                    have c115b0 : decide (((rd_T55 t123 x23_4).f0) < 1) = true := decide_eq_true c115
                    clear c115
                    exact absurd (hT.symm.trans (Option.some.inj H).symm) (by decide)
                  rw [if_neg c115] at H
                  have c115b0 : decide (((rd_T55 t123 x23_4).f0) < 1) = false := decide_eq_false c115
                  clear c115
                  by_cases c116 : ((rd_T55 t123 x23_4).f0) > (wrap64 ((Int.tmod (wrap64 (a2_0)) 10001) * ((rd_T55 t123 x23_4).f1)))
                  · rw [if_pos c116] at H
                    have c116b0 : decide ((wrap64 ((Int.tmod (wrap64 (a2_0)) 10001) * ((rd_T55 t123 x23_4).f1))) < ((rd_T55 t123 x23_4).f0)) = true := decide_eq_true c116
                    clear c116
                    exact absurd (hT.symm.trans (Option.some.inj H).symm) (by decide)
                  rw [if_neg c116] at H
                  have c116b0 : decide ((wrap64 ((Int.tmod (wrap64 (a2_0)) 10001) * ((rd_T55 t123 x23_4).f1))) < ((rd_T55 t123 x23_4).f0)) = false := decide_eq_false c116
                  clear c116
                  have H' := Aside0.mk H
                  clear H
                  obtain ⟨Ao117, co117, eo117⟩ := Kd.R_slice HO_22.out
                  subst eo117
                  have p128 : 0 ≤ (x23_4 : Int) := of_decide_eq_true (by first | (with_reducible assumption) | assumption)
                  have q128 : x23_4 < (t123.length : Int) := of_decide_eq_true (by first | (with_reducible assumption) | assumption)
                  obtain ⟨ad128, e128, hx128_0, hx128_1⟩ := at_T55 (Kd.R_reads' HO_22.out).2.2 x23_4 p128 q128
                  cases e128
                  replace p128 := eq_true p128
                  replace q128 := eq_true q128
                  have p129 : 0 ≤ ((ji111) : Int) := of_decide_eq_true (by first | (with_reducible assumption) | assumption)
                  have q129 : (ji111) < (t123.length : Int) := of_decide_eq_true (by first | (with_reducible assumption) | assumption)
                  obtain ⟨ad129, e129, hx129_0, hx129_1⟩ := at_T55 (Kd.R_reads' HO_22.out).2.2 (ji111) p129 q129
                  obtain rfl : ad128 = ad129 := (by injection e129)
                  replace p129 := eq_true p129
                  replace q129 := eq_true q129
                  have p130 : 0 ≤ (x23_4 : Int) := of_decide_eq_true (by first | (with_reducible assumption) | assumption)
                  have q130 : x23_4 < (t123.length : Int) := of_decide_eq_true (by first | (with_reducible assumption) | assumption)
                  obtain ⟨ad130, e130, hx130_0, hx130_1⟩ := at_T55 (Kd.R_reads' HO_22.out).2.2 x23_4 p130 q130
                  obtain rfl : ad128 = ad130 := (by injection e130)
                  replace p130 := eq_true p130
                  replace q130 := eq_true q130
                  have p131 : 0 ≤ (x23_4 : Int) := of_decide_eq_true (by first | (with_reducible assumption) | assumption)
                  have q131 : x23_4 < (t123.length : Int) := of_decide_eq_true (by first | (with_reducible assumption) | assumption)
                  obtain ⟨ad131, e131, hx131_0, hx131_1⟩ := at_T55 (Kd.R_reads' HO_22.out).2.2 x23_4 p131 q131
                  obtain rfl : ad128 = ad131 := (by injection e131)
                  replace p131 := eq_true p131
                  replace q131 := eq_true q131
                  have p132 : 0 ≤ (x23_4 : Int) := of_decide_eq_true (by first | (with_reducible assumption) | assumption)
                  have q132 : x23_4 < (t123.length : Int) := of_decide_eq_true (by first | (with_reducible assumption) | assumption)
                  obtain ⟨ad132, e132, hx132_0, hx132_1⟩ := at_T55 (Kd.R_reads' HO_22.out).2.2 x23_4 p132 q132
                  obtain rfl : ad128 = ad132 := (by injection e132)
                  replace p132 := eq_true p132
                  replace q132 := eq_true q132
                  go_wp2
                  repeat (go_quiet (fail); try go_wp2)
                  go_roundg k4
                  case measure => have := HJ7.out; have := HJ57.out; have := HJ79.out; have := HK4.out; omega
                  case rel => exact ⟨(wrap64 (x23_4 + 1)), (by first | rfl | (simp; done) | (simp [*]; done)), H', ⟨by have := HJ7.out; have := HJ57.out; have := HJ79.out; have := HK4.out; omega⟩, ⟨by (with_reducible repeat (first | apply Kd.R_alloc | apply Kd.R_drewN | apply Kd.R_drew)); exact HO_22.out⟩, ⟨bkU BK101⟩, ⟨bkU BK102⟩, ⟨bkU BK106⟩, ⟨bkU BK110⟩, ⟨bkU BK114⟩, ⟨bkU BK118⟩, ⟨by repeat (first | (with_reducible first | exact HB.out | apply below_alloc | apply pw_below_drewN | apply below_drew1 | refine below_set ?_ GE101.out | refine below_set ?_ GE102.out | refine below_set ?_ GE106.out | refine below_set ?_ GE110.out | refine below_set ?_ GE114.out | refine below_set ?_ GE118.out) | exact HB.out)⟩⟩
end Go.Proofs.Ytciepmpadcpkbaa.G
