-- Written by this session's driver (wip/tools/printmore.py) over the kit's print, with hand-written parts.
import Derived.Test.YtiebfmenkpodeaaGBase
import Derived.Test.YtiebfmenkpodeaaGF24
import Derived.Test.YtiebfmenkpodeaaGF18
import Derived.Test.YtiebfmenkpodeaaGF29
import Derived.Test.YtiebfmenkpodeaaGF30
namespace Go.Proofs.Ytiebfmenkpodeaa.G
open Go.RowKit Go.Proofs.YtiebfmenkpodeaaW.PrintWords Go.Proofs.YtiebfmenkpodeaaW.PrintLast Go.Proofs.YtiebfmenkpodeaaW.PrintMore
attribute [local go_sem] max2_int min2_int max_two min_two max_three min_three max_four min_four   -- for this text's walks alone
set_option linter.unusedVariables false
set_option linter.unusedSimpArgs false

/-! ### dropperlaw04_PullWider: function 6 -/
mutual
def dropperlaw04_PullWider.l0 : Nat → List Int → Int → Int → Int → Int → List Int → Int → Int → Int → Int → Int → Int → Option (Bool)
  | 0, _, _, _, _, _, _, _, _, _, _, _, _ => none
  | k + 1, x0, x8, x9, x10, x11, x12, x13, x102000, x102001, x103000, x103001, x103002 => if x13 ≥ 0 then (if 0 ≤ x13 then (if x13 < (x0.length : Int) then (if x12.length < 17592186044416 then (dropperlaw04_PullWider.l0 k x0 x8 x9 x10 x11 (x12 ++ [wrap64 (100000 - (rd x0 x13))]) (wrap64 (x13 - 1)) x102000 x102001 x103000 x103001 x103002) else (none)) else (none)) else (none)) else ((pull_Number.f k x12 x102000 x102001).bind fun bt114 => (if x9 = 0 then (if x11 = 0 then (if bt114.2 = 0 then (if x10 < x8 then (dropperlaw04_PullWider.j1 k x0 x8 true x102000 x102001 x103000 x103001 x103002) else (if bt114.1 = x8 then (dropperlaw04_PullWider.j1 k x0 x8 (decide (x8 < 0)) x102000 x102001 x103000 x103001 x103002) else (dropperlaw04_PullWider.j1 k x0 x8 true x102000 x102001 x103000 x103001 x103002))) else (dropperlaw04_PullWider.j1 k x0 x8 true x102000 x102001 x103000 x103001 x103002)) else (dropperlaw04_PullWider.j1 k x0 x8 true x102000 x102001 x103000 x103001 x103002)) else (dropperlaw04_PullWider.j1 k x0 x8 true x102000 x102001 x103000 x103001 x103002)))
def dropperlaw04_PullWider.j1 : Nat → List Int → Int → Bool → Int → Int → Int → Int → Int → Option (Bool)
  | 0, _, _, _, _, _, _, _, _ => none
  | k + 1, x0, x8, x113, x102000, x102001, x103000, x103001, x103002 => if x113 = true then (some false) else ((pull_Anchors.f k x0 x102000 x102001).bind fun bt116 => (if bt116.2 = 0 then (if (x0.length : Int) = 0 then (none) else (if (Int.tmod (wrap64 (x103002)) (x0.length : Int)) > 0 then (dropperlaw04_PullWider.j2 k x0 bt116.1 (Int.tmod (wrap64 (x103002)) (x0.length : Int)) (decide (x8 > 0)) (decide ((Int.tmod (wrap64 (x103002)) (x0.length : Int)) < (wrap64 ((x0.length : Int) - 1)))) x102000 x102001) else (dropperlaw04_PullWider.j2 k x0 bt116.1 (Int.tmod (wrap64 (x103002)) (x0.length : Int)) (decide (x8 > 0)) false x102000 x102001))) else (some false)))
def dropperlaw04_PullWider.j2 : Nat → List Int → List Int → Int → Bool → Bool → Int → Int → Option (Bool)
  | 0, _, _, _, _, _, _, _ => none
  | k + 1, x0, x16, x17, x18, x141, x102000, x102001 => if x141 = true then (if 0 ≤ (wrap64 (x17 + 1)) then (if (wrap64 (x17 + 1)) ≤ (x0.length : Int) then ((pull_Number.f k (x0.take ((wrap64 (x17 + 1)) : Int).toNat) x102000 x102001).bind fun bt121 => (if 0 ≤ x17 then (if x17 ≤ (x0.length : Int) then ((pull_Number.f k (x0.drop (x17 : Int).toNat) x102000 x102001).bind fun bt124 => (if bt121.2 = 0 then (if bt124.2 = 0 then (if bt121.1 > 0 then (dropperlaw04_PullWider.j3 k x16 x17 (decide (bt124.1 > 0))) else (dropperlaw04_PullWider.j3 k x16 x17 false)) else (some false)) else (some false))) else (none)) else (none))) else (none)) else (none)) else (dropperlaw04_PullWider.j3 k x16 x17 x18)
def dropperlaw04_PullWider.j3 : Nat → List Int → Int → Bool → Option (Bool)
  | 0, _, _, _ => none
  | k + 1, x16, x17, x18 => dropperlaw04_PullWider.l1 k x16 x17 x18 false 0
def dropperlaw04_PullWider.l1 : Nat → List Int → Int → Bool → Bool → Int → Option (Bool)
  | 0, _, _, _, _, _ => none
  | k + 1, x16, x17, x18, x23, x24 => if x24 < (x16.length : Int) then (if x23 = true then (dropperlaw04_PullWider.l1 k x16 x17 x18 true (wrap64 (x24 + 1))) else (if 0 ≤ x24 then (dropperlaw04_PullWider.l1 k x16 x17 x18 ((rd x16 x24) == x17) (wrap64 (x24 + 1))) else (none))) else (if (x23 == x18) = true then ((dropperlaw04_Awake.f k).bind fun t127 => (some t127)) else (some false))
end
def dropperlaw04_PullWider.f (k : Nat) (l0 : List Int) (a1_0 : Int) (a1_1 : Int) (a2_0 : Int) (a2_1 : Int) (a2_2 : Int) : Option (Bool) := (dropperref04_Valid.f k l0 a1_0 a1_1).bind fun t103 => (if t103 = true then ((pull_Number.f k l0 a1_0 a1_1).bind fun bt106 => ((pull_Number.f k l0 (mx 1 (wrap64 (a1_0 - (wrap64 (a2_0))))) (mn 100000 (wrap64 (a1_1 + (wrap64 (a2_1)))))).bind fun bt108 => (dropperlaw04_PullWider.l0 k l0 bt106.1 bt106.2 bt108.1 bt108.2 ([] : List Int) (wrap64 ((l0.length : Int) - 1)) a1_0 a1_1 a2_0 a2_1 a2_2))) else ((dropperlaw04_Awake.f k).bind fun t104 => (some t104)))
theorem dropperlaw04_PullWider.mono_l : ∀ k, (∀ y0 y1 y2 y3 y4 y5 y6 y7 y8 y9 y10 y11, LeO (dropperlaw04_PullWider.l0 k y0 y1 y2 y3 y4 y5 y6 y7 y8 y9 y10 y11) (dropperlaw04_PullWider.l0 (k + 1) y0 y1 y2 y3 y4 y5 y6 y7 y8 y9 y10 y11)) ∧ (∀ y0 y1 y2 y3 y4 y5 y6 y7, LeO (dropperlaw04_PullWider.j1 k y0 y1 y2 y3 y4 y5 y6 y7) (dropperlaw04_PullWider.j1 (k + 1) y0 y1 y2 y3 y4 y5 y6 y7)) ∧ (∀ y0 y1 y2 y3 y4 y5 y6, LeO (dropperlaw04_PullWider.j2 k y0 y1 y2 y3 y4 y5 y6) (dropperlaw04_PullWider.j2 (k + 1) y0 y1 y2 y3 y4 y5 y6)) ∧ (∀ y0 y1 y2, LeO (dropperlaw04_PullWider.j3 k y0 y1 y2) (dropperlaw04_PullWider.j3 (k + 1) y0 y1 y2)) ∧ (∀ y0 y1 y2 y3 y4, LeO (dropperlaw04_PullWider.l1 k y0 y1 y2 y3 y4) (dropperlaw04_PullWider.l1 (k + 1) y0 y1 y2 y3 y4))
  | 0 => ⟨fun _ _ _ _ _ _ _ _ _ _ _ _ r h => by simp [dropperlaw04_PullWider.l0] at h, fun _ _ _ _ _ _ _ _ r h => by simp [dropperlaw04_PullWider.j1] at h, fun _ _ _ _ _ _ _ r h => by simp [dropperlaw04_PullWider.j2] at h, fun _ _ _ r h => by simp [dropperlaw04_PullWider.j3] at h, fun _ _ _ _ _ r h => by simp [dropperlaw04_PullWider.l1] at h⟩
  | k + 1 => by
    obtain ⟨ih0, ih1, ih2, ih3, ih4⟩ := dropperlaw04_PullWider.mono_l k
    refine ⟨?_, ?_, ?_, ?_, ?_⟩
    · intro y0 y1 y2 y3 y4 y5 y6 y7 y8 y9 y10 y11
      unfold dropperlaw04_PullWider.l0
      repeat' first
      | (with_reducible exact ih0 _ _ _ _ _ _ _ _ _ _ _ _)
      | (with_reducible exact ih1 _ _ _ _ _ _ _ _)
      | (with_reducible exact ih2 _ _ _ _ _ _ _)
      | (with_reducible exact ih3 _ _ _)
      | (with_reducible exact ih4 _ _ _ _ _)
      | (with_reducible exact dropperlaw04_Awake.mono _)
      | (with_reducible exact dropperref04_Valid.mono _ _ _ _)
      | (with_reducible exact pull_Anchors.mono _ _ _ _)
      | (with_reducible exact pull_Number.mono _ _ _ _)
      | (with_reducible exact LeO.refl _)
      | (with_reducible exact LeO.none _)
      | (with_reducible refine LeO.ite ?_ ?_)
      | (with_reducible refine LeO.bind ?_ (fun _ => ?_))
      | exact ih0 _ _ _ _ _ _ _ _ _ _ _ _
      | exact ih1 _ _ _ _ _ _ _ _
      | exact ih2 _ _ _ _ _ _ _
      | exact ih3 _ _ _
      | exact ih4 _ _ _ _ _
      | exact dropperlaw04_Awake.mono _
      | exact dropperref04_Valid.mono _ _ _ _
      | exact pull_Anchors.mono _ _ _ _
      | exact pull_Number.mono _ _ _ _
      | exact LeO.none _
      | refine LeO.ite ?_ ?_
      | refine LeO.bind ?_ (fun _ => ?_)
    · intro y0 y1 y2 y3 y4 y5 y6 y7
      unfold dropperlaw04_PullWider.j1
      repeat' first
      | (with_reducible exact ih0 _ _ _ _ _ _ _ _ _ _ _ _)
      | (with_reducible exact ih1 _ _ _ _ _ _ _ _)
      | (with_reducible exact ih2 _ _ _ _ _ _ _)
      | (with_reducible exact ih3 _ _ _)
      | (with_reducible exact ih4 _ _ _ _ _)
      | (with_reducible exact dropperlaw04_Awake.mono _)
      | (with_reducible exact dropperref04_Valid.mono _ _ _ _)
      | (with_reducible exact pull_Anchors.mono _ _ _ _)
      | (with_reducible exact pull_Number.mono _ _ _ _)
      | (with_reducible exact LeO.refl _)
      | (with_reducible exact LeO.none _)
      | (with_reducible refine LeO.ite ?_ ?_)
      | (with_reducible refine LeO.bind ?_ (fun _ => ?_))
      | exact ih0 _ _ _ _ _ _ _ _ _ _ _ _
      | exact ih1 _ _ _ _ _ _ _ _
      | exact ih2 _ _ _ _ _ _ _
      | exact ih3 _ _ _
      | exact ih4 _ _ _ _ _
      | exact dropperlaw04_Awake.mono _
      | exact dropperref04_Valid.mono _ _ _ _
      | exact pull_Anchors.mono _ _ _ _
      | exact pull_Number.mono _ _ _ _
      | exact LeO.none _
      | refine LeO.ite ?_ ?_
      | refine LeO.bind ?_ (fun _ => ?_)
    · intro y0 y1 y2 y3 y4 y5 y6
      unfold dropperlaw04_PullWider.j2
      repeat' first
      | (with_reducible exact ih0 _ _ _ _ _ _ _ _ _ _ _ _)
      | (with_reducible exact ih1 _ _ _ _ _ _ _ _)
      | (with_reducible exact ih2 _ _ _ _ _ _ _)
      | (with_reducible exact ih3 _ _ _)
      | (with_reducible exact ih4 _ _ _ _ _)
      | (with_reducible exact dropperlaw04_Awake.mono _)
      | (with_reducible exact dropperref04_Valid.mono _ _ _ _)
      | (with_reducible exact pull_Anchors.mono _ _ _ _)
      | (with_reducible exact pull_Number.mono _ _ _ _)
      | (with_reducible exact LeO.refl _)
      | (with_reducible exact LeO.none _)
      | (with_reducible refine LeO.ite ?_ ?_)
      | (with_reducible refine LeO.bind ?_ (fun _ => ?_))
      | exact ih0 _ _ _ _ _ _ _ _ _ _ _ _
      | exact ih1 _ _ _ _ _ _ _ _
      | exact ih2 _ _ _ _ _ _ _
      | exact ih3 _ _ _
      | exact ih4 _ _ _ _ _
      | exact dropperlaw04_Awake.mono _
      | exact dropperref04_Valid.mono _ _ _ _
      | exact pull_Anchors.mono _ _ _ _
      | exact pull_Number.mono _ _ _ _
      | exact LeO.none _
      | refine LeO.ite ?_ ?_
      | refine LeO.bind ?_ (fun _ => ?_)
    · intro y0 y1 y2
      unfold dropperlaw04_PullWider.j3
      repeat' first
      | (with_reducible exact ih0 _ _ _ _ _ _ _ _ _ _ _ _)
      | (with_reducible exact ih1 _ _ _ _ _ _ _ _)
      | (with_reducible exact ih2 _ _ _ _ _ _ _)
      | (with_reducible exact ih3 _ _ _)
      | (with_reducible exact ih4 _ _ _ _ _)
      | (with_reducible exact dropperlaw04_Awake.mono _)
      | (with_reducible exact dropperref04_Valid.mono _ _ _ _)
      | (with_reducible exact pull_Anchors.mono _ _ _ _)
      | (with_reducible exact pull_Number.mono _ _ _ _)
      | (with_reducible exact LeO.refl _)
      | (with_reducible exact LeO.none _)
      | (with_reducible refine LeO.ite ?_ ?_)
      | (with_reducible refine LeO.bind ?_ (fun _ => ?_))
      | exact ih0 _ _ _ _ _ _ _ _ _ _ _ _
      | exact ih1 _ _ _ _ _ _ _ _
      | exact ih2 _ _ _ _ _ _ _
      | exact ih3 _ _ _
      | exact ih4 _ _ _ _ _
      | exact dropperlaw04_Awake.mono _
      | exact dropperref04_Valid.mono _ _ _ _
      | exact pull_Anchors.mono _ _ _ _
      | exact pull_Number.mono _ _ _ _
      | exact LeO.none _
      | refine LeO.ite ?_ ?_
      | refine LeO.bind ?_ (fun _ => ?_)
    · intro y0 y1 y2 y3 y4
      unfold dropperlaw04_PullWider.l1
      repeat' first
      | (with_reducible exact ih0 _ _ _ _ _ _ _ _ _ _ _ _)
      | (with_reducible exact ih1 _ _ _ _ _ _ _ _)
      | (with_reducible exact ih2 _ _ _ _ _ _ _)
      | (with_reducible exact ih3 _ _ _)
      | (with_reducible exact ih4 _ _ _ _ _)
      | (with_reducible exact dropperlaw04_Awake.mono _)
      | (with_reducible exact dropperref04_Valid.mono _ _ _ _)
      | (with_reducible exact pull_Anchors.mono _ _ _ _)
      | (with_reducible exact pull_Number.mono _ _ _ _)
      | (with_reducible exact LeO.refl _)
      | (with_reducible exact LeO.none _)
      | (with_reducible refine LeO.ite ?_ ?_)
      | (with_reducible refine LeO.bind ?_ (fun _ => ?_))
      | exact ih0 _ _ _ _ _ _ _ _ _ _ _ _
      | exact ih1 _ _ _ _ _ _ _ _
      | exact ih2 _ _ _ _ _ _ _
      | exact ih3 _ _ _
      | exact ih4 _ _ _ _ _
      | exact dropperlaw04_Awake.mono _
      | exact dropperref04_Valid.mono _ _ _ _
      | exact pull_Anchors.mono _ _ _ _
      | exact pull_Number.mono _ _ _ _
      | exact LeO.none _
      | refine LeO.ite ?_ ?_
      | refine LeO.bind ?_ (fun _ => ?_)
theorem dropperlaw04_PullWider.mono : ∀ a0 a1 a2 a3 a4 a5 k, LeO (dropperlaw04_PullWider.f k a0 a1 a2 a3 a4 a5) (dropperlaw04_PullWider.f (k + 1) a0 a1 a2 a3 a4 a5) := by
  intro a0 a1 a2 a3 a4 a5 k
  obtain ⟨ih0, ih1, ih2, ih3, ih4⟩ := dropperlaw04_PullWider.mono_l k
  unfold dropperlaw04_PullWider.f
  repeat' first
      | (with_reducible exact ih0 _ _ _ _ _ _ _ _ _ _ _ _)
      | (with_reducible exact ih1 _ _ _ _ _ _ _ _)
      | (with_reducible exact ih2 _ _ _ _ _ _ _)
      | (with_reducible exact ih3 _ _ _)
      | (with_reducible exact ih4 _ _ _ _ _)
      | (with_reducible exact dropperlaw04_Awake.mono _)
      | (with_reducible exact dropperref04_Valid.mono _ _ _ _)
      | (with_reducible exact pull_Anchors.mono _ _ _ _)
      | (with_reducible exact pull_Number.mono _ _ _ _)
      | (with_reducible exact LeO.refl _)
      | (with_reducible exact LeO.none _)
      | (with_reducible refine LeO.ite ?_ ?_)
      | (with_reducible refine LeO.bind ?_ (fun _ => ?_))
      | exact ih0 _ _ _ _ _ _ _ _ _ _ _ _
      | exact ih1 _ _ _ _ _ _ _ _
      | exact ih2 _ _ _ _ _ _ _
      | exact ih3 _ _ _
      | exact ih4 _ _ _ _ _
      | exact dropperlaw04_Awake.mono _
      | exact dropperref04_Valid.mono _ _ _ _
      | exact pull_Anchors.mono _ _ _ _
      | exact pull_Number.mono _ _ _ _
      | exact LeO.none _
      | refine LeO.ite ?_ ?_
      | refine LeO.bind ?_ (fun _ => ?_)
def dropperlaw04_PullWider.T20 : Bool × List (List Nat × List Nat) := (true, [([], []), ([], []), ([1], [1]), ([], []), ([3], [3]), ([0, 2, 4], [0, 2, 4]), ([], []), ([6], [6]), ([], []), ([8], [8]), ([5, 7, 9], [5, 7, 9]), ([10], [10]), ([11], [11]), ([11], [11]), ([12, 10, 0, 1, 2, 3, 4, 5, 6, 7, 8, 9, 10, 11, 12], [12]), ([13, 14, 0, 1, 2, 3, 4, 5, 6, 7, 8, 9, 10, 11, 12, 13, 14], [13])])
def dropperlaw04_PullWider.B20 : List Nat := [0, 0, 2, 0, 8, 31, 0, 64, 0, 256, 1023, 2047, 4095, 4095, 8191, 32767]
theorem dropperlaw04_PullWider.tab20 : rtab .any (opsOf Try.f6 20) = dropperlaw04_PullWider.T20 := by kernel_rfl
theorem dropperlaw04_PullWider.bits20 : waitsOk dropperlaw04_PullWider.T20.2 dropperlaw04_PullWider.B20 = true := by kernel_rfl
def dropperlaw04_PullWider.T21 : Bool × List (List Nat × List Nat) := (true, [([], []), ([], []), ([0, 1], [0, 1]), ([], []), ([3], [3]), ([], []), ([5], [5]), ([2, 4, 6], [2, 4, 6]), ([7], [7]), ([8], [8]), ([8], [8]), ([9, 7, 0, 1, 2, 3, 4, 5, 6, 7, 8, 9], [9]), ([10, 11, 0, 1, 2, 3, 4, 5, 6, 7, 8, 9, 10, 11], [10])])
def dropperlaw04_PullWider.B21 : List Nat := [0, 0, 3, 0, 8, 0, 32, 127, 255, 511, 511, 1023, 4095]
theorem dropperlaw04_PullWider.tab21 : rtab .any (opsOf Try.f6 21) = dropperlaw04_PullWider.T21 := by kernel_rfl
theorem dropperlaw04_PullWider.bits21 : waitsOk dropperlaw04_PullWider.T21.2 dropperlaw04_PullWider.B21 = true := by kernel_rfl
set_option maxHeartbeats 8000000 in
set_option maxRecDepth 100000 in
theorem dropperlaw04_PullWider.calls (k : Nat) (A0 : Option Addr) (c0 : Nat) (l0 : List Int) (a1_0 : Int) (a1_1 : Int) (a2_0 : Int) (a2_1 : Int) (a2_2 : Int) (r : Bool) (w : World) (hr0 : Kd.C (Kd.int .i64) w A0 l0.length l0) (hc0 : l0.length ≤ c0) (h : dropperlaw04_PullWider.f k l0 a1_0 a1_1 a2_0 a2_1 a2_2 = some r) (hT : r = true) :
    Calls Try.prog 6 #[.slice A0 l0.length c0, .agg #[.int .i64 a1_0, .int .i64 a1_1], .agg #[.int .u16 a2_0, .int .u16 a2_1, .int .u16 a2_2]] w fun e w' => e = .returned (.bool r) ∧ Below w.heap.size w w' := by
  have hu39 := Try.underlying39
  have hu46 := Try.underlying46
  have HR0 := Aside0.mk hr0
  have HC0 := Aside0.mk hc0
  clear hr0 hc0
  have HB := Aside0.mk (Below.refl w.heap.size w)
  have H : ((dropperref04_Valid.f k l0 a1_0 a1_1).bind fun t103 => (if t103 = true then ((pull_Number.f k l0 a1_0 a1_1).bind fun bt106 => ((pull_Number.f k l0 (mx 1 (wrap64 (a1_0 - (wrap64 (a2_0))))) (mn 100000 (wrap64 (a1_1 + (wrap64 (a2_1)))))).bind fun bt108 => (dropperlaw04_PullWider.l0 k l0 bt106.1 bt106.2 bt108.1 bt108.2 ([] : List Int) (wrap64 ((l0.length : Int) - 1)) a1_0 a1_1 a2_0 a2_1 a2_2))) else ((dropperlaw04_Awake.f k).bind fun t104 => (some t104)))) = some r := h
  clear h
  replace H := Option.bind_eq_some_iff.mp H
  obtain ⟨t103, A40, H⟩ := H
  replace H : (if t103 = true then ((pull_Number.f k l0 a1_0 a1_1).bind fun bt106 => ((pull_Number.f k l0 (mx 1 (wrap64 (a1_0 - (wrap64 (a2_0))))) (mn 100000 (wrap64 (a1_1 + (wrap64 (a2_1)))))).bind fun bt108 => (dropperlaw04_PullWider.l0 k l0 bt106.1 bt106.2 bt108.1 bt108.2 ([] : List Int) (wrap64 ((l0.length : Int) - 1)) a1_0 a1_1 a2_0 a2_1 a2_2))) else ((dropperlaw04_Awake.f k).bind fun t104 => (some t104))) = some r := H
  have A4 := Aside0.mk A40
  clear A40
  by_cases c5 : t103 = true
  rotate_left
  · replace c5 := Bool.eq_false_iff.mpr c5
    subst c5
    have H1 : ((dropperlaw04_Awake.f k).bind fun t104 => (some t104)) = some r := by rw [if_neg (show ¬ (false = true) by decide)] at H; exact H
    clear H
    have H := H1
    clear H1
    replace H := Option.bind_eq_some_iff.mp H
    obtain ⟨t104, A860, H⟩ := H
    replace H : (some t104) = some r := H
    have A86 := Aside0.mk A860
    clear A860
    clear hT
    obtain rfl := Option.some.inj H
    go_enter Try.func6, Try.ntmps6
    go_wp2_with (first | ((with_reducible refine gate_dst (N := 4) rfl ?_); (try (refine gate_guard (by rfl) ?_; dsimp only)); refine box_event ?hg (N := 4) ?hd (cs := #[.int .i64 a1_0, .int .i64 a1_1]) (t := 39) ?hr ?_; (case hd => rfl); (case hg => rfl); (case hr => first | (go_simp; done) | (go_simp; rfl)); intro gb101 hg w87 hbox hb; have n0_ := Aside0.mk (below_step (by repeat (first | (with_reducible first | exact HB.out | apply below_alloc | apply pw_below_drewN | apply below_drew1) | exact HB.out)) hb); have n1_ := Aside0.mk (hbox); have n2_ := Aside0.mk ((by rw [hg]; exact (below_size (by repeat (first | (with_reducible first | exact HB.out | apply below_alloc | apply pw_below_drewN | apply below_drew1) | exact HB.out))) : w.heap.size ≤ gb101)); have n3_ := Aside0.mk ((by rw [hg]; exact (below_size (by repeat (first | (with_reducible first | exact HB.out | apply below_alloc | apply pw_below_drewN | apply below_drew1) | exact HB.out))) : w.heap.size ≤ gb101)); clear HB; have HB := n0_; have BK101 := n1_; have GW101 := n2_; have GE101 := n3_; clear n0_ n1_ n2_ n3_; clear hb hbox hg) | ((with_reducible refine gate_dst (N := 5) rfl ?_); (try (refine gate_guard (by rfl) ?_; dsimp only)); refine box_event ?hg (N := 5) ?hd (cs := #[.int .u16 a2_0, .int .u16 a2_1, .int .u16 a2_2]) (t := 46) ?hr ?_; (case hd => rfl); (case hg => rfl); (case hr => first | (go_simp; done) | (go_simp; rfl)); intro gb102 hg w88 hbox hb; have n0_ := Aside0.mk (bkB BK101 hb); have n1_ := Aside0.mk (below_step (by repeat (first | (with_reducible first | exact HB.out | apply below_alloc | apply pw_below_drewN | apply below_drew1 | refine below_set ?_ GE101.out) | exact HB.out)) hb); have n2_ := Aside0.mk (hbox); have n3_ := Aside0.mk ((by rw [hg]; exact (below_size (by repeat (first | (with_reducible first | exact HB.out | apply below_alloc | apply pw_below_drewN | apply below_drew1 | refine below_set ?_ GE101.out) | exact HB.out))) : w.heap.size ≤ gb102)); have n4_ := Aside0.mk ((by rw [hg]; exact (below_size (by repeat (first | (with_reducible first | exact HB.out | apply below_alloc | apply pw_below_drewN | apply below_drew1 | refine below_set ?_ GE101.out) | exact HB.out))) : w.heap.size ≤ gb102)); have n5_ := Aside0.mk ((bkL BK101 hg : gb101 ≠ gb102)); have n6_ := Aside0.mk ((bkG BK101 hg : gb102 ≠ gb101)); clear BK101; clear HB; have BK101 := n0_; have HB := n1_; have BK102 := n2_; have GW102 := n3_; have GE102 := n4_; have NB101_102 := n5_; have NB102_101 := n6_; clear n0_ n1_ n2_ n3_ n4_ n5_ n6_; clear hb hbox hg; have hnb89 := NB101_102.out; have hnc89 := NB102_101.out; have hcz90_0 : w88.cell? ⟨gb101, 0, none⟩ = some (.int .i64 a1_0) := (blk_cell BK101.out 0).trans rfl; have hcz90_1 : w88.cell? ⟨gb101, 1, none⟩ = some (.int .i64 a1_1) := (blk_cell BK101.out 1).trans rfl; have hfz90_0 := blk_frozen BK101.out 0; have hfz90_1 := blk_frozen BK101.out 1) | ((with_reducible refine gate_callee (f := 29) rfl ?_); refine goesL_ (some 30) rfl rfl Try.func29 (by kernel_rfl) rfl #[.slice A0 l0.length c0, .int .i64 a1_0, .int .i64 a1_1] rfl (by (try simp only [List.map_toArray, List.map_cons, List.map_nil]); first | done | rfl | (simp only [List.length_drop, List.length_take]; rfl)) ?_; (with_reducible refine (dropperref04_Valid.calls k _ _ l0 a1_0 a1_1 false _ ?side1 ?side2 A4.out).mono ?_); (case side1 => repeat (first | exact (Kd.C_below HR0.out HB.out) | (with_reducible refine Kd.C_alloc ?_ _) | (with_reducible refine Kd.C_drewN ?_ _) | (with_reducible refine Kd.C_drew ?_))); (case side2 => exact HC0.out); rintro e w' ⟨rfl, ⟨nd, rfl⟩⟩; refine ⟨_, rfl, ?_⟩) | ((with_reducible refine gate_callee (f := 18) rfl ?_); refine goesL_ (some 32) rfl rfl Try.func18 (by kernel_rfl) rfl #[] rfl (by (try simp only [List.map_toArray, List.map_cons, List.map_nil]); first | done | rfl | (simp only [List.length_drop, List.length_take]; rfl)) ?_; (with_reducible refine (dropperlaw04_Awake.calls k  t104 _ A86.out).mono ?_); rintro e w91 ⟨rfl, hb⟩; refine ⟨_, rfl, ?_⟩; have n0_ := Aside0.mk (bkB BK101 hb); have n1_ := Aside0.mk (bkB BK102 hb); have n2_ := Aside0.mk (below_step (by repeat (first | (with_reducible first | exact HB.out | apply below_alloc | apply pw_below_drewN | apply below_drew1 | refine below_set ?_ GE101.out | refine below_set ?_ GE102.out) | exact HB.out)) hb); clear BK101; clear BK102; clear HB; have BK101 := n0_; have BK102 := n1_; have HB := n2_; clear n0_ n1_ n2_; (try clear hb); (try clear hb2); (try clear hk); (try clear hi)))
    go_ret
    exact ⟨by first | rfl | (simp [errW_none, errW_some] <;> rfl) | (simp [*, errW_none, errW_some] <;> rfl), by repeat (first | (with_reducible first | exact HB.out | apply below_alloc | apply pw_below_drewN | apply below_drew1 | refine below_set ?_ GE101.out | refine below_set ?_ GE102.out) | exact HB.out)⟩

  subst c5
  have H1 : ((pull_Number.f k l0 a1_0 a1_1).bind fun bt106 => ((pull_Number.f k l0 (mx 1 (wrap64 (a1_0 - (wrap64 (a2_0))))) (mn 100000 (wrap64 (a1_1 + (wrap64 (a2_1)))))).bind fun bt108 => (dropperlaw04_PullWider.l0 k l0 bt106.1 bt106.2 bt108.1 bt108.2 ([] : List Int) (wrap64 ((l0.length : Int) - 1)) a1_0 a1_1 a2_0 a2_1 a2_2))) = some r := by rw [if_pos rfl] at H; exact H
  clear H
  have H := H1
  clear H1
  obtain ⟨ji6, hji6⟩ : ∃ j_ : Int, (mx 1 (wrap64 (a1_0 - (wrap64 (a2_0))))) = j_ := ⟨_, rfl⟩
  replace H : ((pull_Number.f k l0 a1_0 a1_1).bind fun bt106 => ((pull_Number.f k l0 (ji6) (mn 100000 (wrap64 (a1_1 + (wrap64 (a2_1)))))).bind fun bt108 => (dropperlaw04_PullWider.l0 k l0 bt106.1 bt106.2 bt108.1 bt108.2 ([] : List Int) (wrap64 ((l0.length : Int) - 1)) a1_0 a1_1 a2_0 a2_1 a2_2))) = some r := by first | (rw [hji6] at H; exact H) | (simp only [hji6] at H ⊢; exact H)
  (try rw [hji6] at A4)
  (try (have hji6l : 1 ≤ ji6 := by (rw [← hji6]; unfold mx; (repeat' split) <;> omega)))
  (try (have hji6m : 0 ≤ ji6 := by omega))
  have hji6_ : (if 1 < (wrap64 (a1_0 - (wrap64 (a2_0)))) then (wrap64 (a1_0 - (wrap64 (a2_0)))) else 1) = ji6 := hji6
  obtain ⟨ji7, hji7⟩ : ∃ j_ : Int, (mn 100000 (wrap64 (a1_1 + (wrap64 (a2_1))))) = j_ := ⟨_, rfl⟩
  replace H : ((pull_Number.f k l0 a1_0 a1_1).bind fun bt106 => ((pull_Number.f k l0 (ji6) (ji7)).bind fun bt108 => (dropperlaw04_PullWider.l0 k l0 bt106.1 bt106.2 bt108.1 bt108.2 ([] : List Int) (wrap64 ((l0.length : Int) - 1)) a1_0 a1_1 a2_0 a2_1 a2_2))) = some r := by first | (rw [hji7] at H; exact H) | (simp only [hji7] at H ⊢; exact H)
  (try rw [hji7] at A4)
  (try (have hji7h : ji7 ≤ 100000 := by (rw [← hji7]; unfold mn; (repeat' split) <;> omega)))
  (try (have hji7g : ji7 ≤ 64 := by omega))
  have hji7_ : (if (wrap64 (a1_1 + (wrap64 (a2_1)))) < 100000 then (wrap64 (a1_1 + (wrap64 (a2_1)))) else 100000) = ji7 := hji7
  replace H := Option.bind_eq_some_iff.mp H
  obtain ⟨⟨t106, t107⟩, A80, H⟩ := H
  replace H : ((pull_Number.f k l0 (ji6) (ji7)).bind fun bt108 => (dropperlaw04_PullWider.l0 k l0 t106 t107 bt108.1 bt108.2 ([] : List Int) (wrap64 ((l0.length : Int) - 1)) a1_0 a1_1 a2_0 a2_1 a2_2)) = some r := H
  have A8 := Aside0.mk A80
  clear A80
  replace H := Option.bind_eq_some_iff.mp H
  obtain ⟨⟨t108, t109⟩, A90, H⟩ := H
  replace H : (dropperlaw04_PullWider.l0 k l0 t106 t107 t108 t109 ([] : List Int) (wrap64 ((l0.length : Int) - 1)) a1_0 a1_1 a2_0 a2_1 a2_2) = some r := H
  have A9 := Aside0.mk A90
  clear A90
  have H' := Aside0.mk H
  clear H
  go_enter Try.func6, Try.ntmps6
  go_wp2_with (first | ((with_reducible refine gate_dst (N := 4) rfl ?_); (try (refine gate_guard (by rfl) ?_; dsimp only)); refine box_event ?hg (N := 4) ?hd (cs := #[.int .i64 a1_0, .int .i64 a1_1]) (t := 39) ?hr ?_; (case hd => rfl); (case hg => rfl); (case hr => first | (go_simp; done) | (go_simp; rfl)); intro gb101 hg w10 hbox hb; have n0_ := Aside0.mk (below_step (by repeat (first | (with_reducible first | exact HB.out | apply below_alloc | apply pw_below_drewN | apply below_drew1) | exact HB.out)) hb); have n1_ := Aside0.mk (hbox); have n2_ := Aside0.mk ((by rw [hg]; exact (below_size (by repeat (first | (with_reducible first | exact HB.out | apply below_alloc | apply pw_below_drewN | apply below_drew1) | exact HB.out))) : w.heap.size ≤ gb101)); have n3_ := Aside0.mk ((by rw [hg]; exact (below_size (by repeat (first | (with_reducible first | exact HB.out | apply below_alloc | apply pw_below_drewN | apply below_drew1) | exact HB.out))) : w.heap.size ≤ gb101)); clear HB; have HB := n0_; have BK101 := n1_; have GW101 := n2_; have GE101 := n3_; clear n0_ n1_ n2_ n3_; clear hb hbox hg) | ((with_reducible refine gate_dst (N := 5) rfl ?_); (try (refine gate_guard (by rfl) ?_; dsimp only)); refine box_event ?hg (N := 5) ?hd (cs := #[.int .u16 a2_0, .int .u16 a2_1, .int .u16 a2_2]) (t := 46) ?hr ?_; (case hd => rfl); (case hg => rfl); (case hr => first | (go_simp; done) | (go_simp; rfl)); intro gb102 hg w11 hbox hb; have n0_ := Aside0.mk (bkB BK101 hb); have n1_ := Aside0.mk (below_step (by repeat (first | (with_reducible first | exact HB.out | apply below_alloc | apply pw_below_drewN | apply below_drew1 | refine below_set ?_ GE101.out) | exact HB.out)) hb); have n2_ := Aside0.mk (hbox); have n3_ := Aside0.mk ((by rw [hg]; exact (below_size (by repeat (first | (with_reducible first | exact HB.out | apply below_alloc | apply pw_below_drewN | apply below_drew1 | refine below_set ?_ GE101.out) | exact HB.out))) : w.heap.size ≤ gb102)); have n4_ := Aside0.mk ((by rw [hg]; exact (below_size (by repeat (first | (with_reducible first | exact HB.out | apply below_alloc | apply pw_below_drewN | apply below_drew1 | refine below_set ?_ GE101.out) | exact HB.out))) : w.heap.size ≤ gb102)); have n5_ := Aside0.mk ((bkL BK101 hg : gb101 ≠ gb102)); have n6_ := Aside0.mk ((bkG BK101 hg : gb102 ≠ gb101)); clear BK101; clear HB; have BK101 := n0_; have HB := n1_; have BK102 := n2_; have GW102 := n3_; have GE102 := n4_; have NB101_102 := n5_; have NB102_101 := n6_; clear n0_ n1_ n2_ n3_ n4_ n5_ n6_; clear hb hbox hg; have hnb12 := NB101_102.out; have hnc12 := NB102_101.out; have hcz13_0 : w11.cell? ⟨gb101, 0, none⟩ = some (.int .i64 a1_0) := (blk_cell BK101.out 0).trans rfl; have hcz13_1 : w11.cell? ⟨gb101, 1, none⟩ = some (.int .i64 a1_1) := (blk_cell BK101.out 1).trans rfl; have hfz13_0 := blk_frozen BK101.out 0; have hfz13_1 := blk_frozen BK101.out 1) | ((with_reducible refine gate_callee (f := 29) rfl ?_); refine goesL_ (some 30) rfl rfl Try.func29 (by kernel_rfl) rfl #[.slice A0 l0.length c0, .int .i64 a1_0, .int .i64 a1_1] rfl (by (try simp only [List.map_toArray, List.map_cons, List.map_nil]); first | done | rfl | (simp only [List.length_drop, List.length_take]; rfl)) ?_; (with_reducible refine (dropperref04_Valid.calls k _ _ l0 a1_0 a1_1 true _ ?side1 ?side2 A4.out).mono ?_); (case side1 => repeat (first | exact (Kd.C_below HR0.out HB.out) | (with_reducible refine Kd.C_alloc ?_ _) | (with_reducible refine Kd.C_drewN ?_ _) | (with_reducible refine Kd.C_drew ?_))); (case side2 => exact HC0.out); rintro e w' ⟨rfl, ⟨nd, rfl⟩⟩; refine ⟨_, rfl, ?_⟩; (try (rw [drewN_self w11]; generalize hq_ : World.drewN w11 _ = w11; have n0_ : Aside0 (w11.heap[gb101]? = some (.cells #[.int .i64 a1_0, .int .i64 a1_1] 39 (0, 0))) := ⟨by rw [← hq_]; exact (bkU BK101)⟩; have n1_ : Aside0 (w11.heap[gb102]? = some (.cells #[.int .u16 a2_0, .int .u16 a2_1, .int .u16 a2_2] 46 (0, 0))) := ⟨by rw [← hq_]; exact (bkU BK102)⟩; have n2_ : Aside0 (Below w.heap.size w w11) := ⟨by rw [← hq_]; exact (by repeat (first | (with_reducible first | exact HB.out | apply below_alloc | apply pw_below_drewN | apply below_drew1 | refine below_set ?_ GE101.out | refine below_set ?_ GE102.out) | exact HB.out))⟩; clear BK101 BK102 HB hq_; have BK101 := n0_; have BK102 := n1_; have HB := n2_; clear n0_ n1_ n2_)); (try have hcq101_0 : w11.cell? ⟨gb101, 0, none⟩ = some (.int .i64 a1_0) := (blk_cell BK101.out 0).trans rfl); (try have hfq101_0 := blk_frozen BK101.out 0); (try have hcq101_1 : w11.cell? ⟨gb101, 1, none⟩ = some (.int .i64 a1_1) := (blk_cell BK101.out 1).trans rfl); (try have hfq101_1 := blk_frozen BK101.out 1); (try have hcq102_0 : w11.cell? ⟨gb102, 0, none⟩ = some (.int .u16 a2_0) := (blk_cell BK102.out 0).trans rfl); (try have hfq102_0 := blk_frozen BK102.out 0); (try have hcq102_1 : w11.cell? ⟨gb102, 1, none⟩ = some (.int .u16 a2_1) := (blk_cell BK102.out 1).trans rfl); (try have hfq102_1 := blk_frozen BK102.out 1); (try have hcq102_2 : w11.cell? ⟨gb102, 2, none⟩ = some (.int .u16 a2_2) := (blk_cell BK102.out 2).trans rfl); (try have hfq102_2 := blk_frozen BK102.out 2); have hcz14_0 : w11.cell? ⟨gb102, 0, none⟩ = some (.int .u16 a2_0) := (blk_cell BK102.out 0).trans rfl; have hcz14_1 : w11.cell? ⟨gb102, 1, none⟩ = some (.int .u16 a2_1) := (blk_cell BK102.out 1).trans rfl; have hcz14_2 : w11.cell? ⟨gb102, 2, none⟩ = some (.int .u16 a2_2) := (blk_cell BK102.out 2).trans rfl; have hfz14_0 := blk_frozen BK102.out 0; have hfz14_1 := blk_frozen BK102.out 1; have hfz14_2 := blk_frozen BK102.out 2) | ((with_reducible refine gate_dst (N := 7) rfl ?_); (try (refine gate_guard (by rfl) ?_; dsimp only)); refine box_event ?hg (N := 7) ?hd (cs := #[.int .i64 0, .int .i64 0]) (t := 39) ?hr ?_; (case hd => rfl); (case hg => rfl); (case hr => first | (go_simp; done) | (go_simp; rfl)); intro gb105 hg w15 hbox hb; have n0_ := Aside0.mk (bkB BK101 hb); have n1_ := Aside0.mk (bkB BK102 hb); have n2_ := Aside0.mk (below_step (by repeat (first | (with_reducible first | exact HB.out | apply below_alloc | apply pw_below_drewN | apply below_drew1 | refine below_set ?_ GE101.out | refine below_set ?_ GE102.out) | exact HB.out)) hb); have n3_ := Aside0.mk (hbox); have n4_ := Aside0.mk ((by rw [hg]; exact (below_size (by repeat (first | (with_reducible first | exact HB.out | apply below_alloc | apply pw_below_drewN | apply below_drew1 | refine below_set ?_ GE101.out | refine below_set ?_ GE102.out) | exact HB.out))) : w.heap.size ≤ gb105)); have n5_ := Aside0.mk ((by rw [hg]; exact (below_size (by repeat (first | (with_reducible first | exact HB.out | apply below_alloc | apply pw_below_drewN | apply below_drew1 | refine below_set ?_ GE101.out | refine below_set ?_ GE102.out) | exact HB.out))) : w.heap.size ≤ gb105)); have n6_ := Aside0.mk ((bkL BK101 hg : gb101 ≠ gb105)); have n7_ := Aside0.mk ((bkG BK101 hg : gb105 ≠ gb101)); have n8_ := Aside0.mk ((bkL BK102 hg : gb102 ≠ gb105)); have n9_ := Aside0.mk ((bkG BK102 hg : gb105 ≠ gb102)); clear BK101; clear BK102; clear HB; have BK101 := n0_; have BK102 := n1_; have HB := n2_; have BK105 := n3_; have GW105 := n4_; have GE105 := n5_; have NB101_105 := n6_; have NB105_101 := n7_; have NB102_105 := n8_; have NB105_102 := n9_; clear n0_ n1_ n2_ n3_ n4_ n5_ n6_ n7_ n8_ n9_; clear hb hbox hg; have hnb16 := NB105_101.out; have hnc16 := NB101_105.out; have hnb17 := NB105_102.out; have hnc17 := NB102_105.out; have hcz18_0 : w15.cell? ⟨gb105, 0, none⟩ = some (.int .i64 0) := (blk_cell BK105.out 0).trans rfl; have hcz18_1 : w15.cell? ⟨gb105, 1, none⟩ = some (.int .i64 0) := (blk_cell BK105.out 1).trans rfl; have hfz18_0 := blk_frozen BK105.out 0; have hfz18_1 := blk_frozen BK105.out 1; have hcz19_0 : w15.cell? ⟨gb101, 0, none⟩ = some (.int .i64 a1_0) := (blk_cell BK101.out 0).trans rfl; have hcz19_1 : w15.cell? ⟨gb101, 1, none⟩ = some (.int .i64 a1_1) := (blk_cell BK101.out 1).trans rfl; have hfz19_0 := blk_frozen BK101.out 0; have hfz19_1 := blk_frozen BK101.out 1) | ((with_reducible refine gate_callee (f := 24) rfl ?_); refine goesL_ (some 54) rfl rfl Try.func24 (by kernel_rfl) rfl #[.slice A0 l0.length c0, .int .i64 a1_0, .int .i64 a1_1] rfl (by (try simp only [List.map_toArray, List.map_cons, List.map_nil]); first | done | rfl | (simp only [List.length_drop, List.length_take]; rfl)) ?_; (with_reducible refine (pull_Number.calls k _ _ l0 a1_0 a1_1 t106 t107 _ ?side1 ?side2 A8.out).mono ?_); (case side1 => exact Kd.C_below HR0.out (by repeat (first | (with_reducible first | exact HB.out | apply below_alloc | apply pw_below_drewN | apply below_drew1 | refine below_set ?_ GE101.out | refine below_set ?_ GE102.out | refine below_set ?_ GE105.out) | exact HB.out))); (case side2 => exact HC0.out); rintro e w20 ⟨rfl, hb⟩; refine ⟨_, rfl, ?_⟩; have n0_ := Aside0.mk (blk_below (g := gb101) (o := .cells #[.int .i64 a1_0, .int .i64 a1_1] 39 (0, 0)) (bkF2 BK101 NB101_105) hb); have n1_ := Aside0.mk (blk_below (g := gb102) (o := .cells #[.int .u16 a2_0, .int .u16 a2_1, .int .u16 a2_2] 46 (0, 0)) (bkF2 BK102 NB102_105) hb); have n2_ := Aside0.mk (blk_below (g := gb105) (o := .cells #[.int .i64 ji6, .int .i64 ji7] 39 (0, 0)) (by (with_reducible repeat (first | refine blk_drewN ?_ _ | refine blk_drew ?_ | refine blk_alloc ?_ _)); refine blk_put (cs := #[.int .i64 ji6, .int .i64 0]) ?_ 1 _ rfl; (with_reducible repeat (first | refine blk_drewN ?_ _ | refine blk_drew ?_ | refine blk_alloc ?_ _)); refine blk_put (cs := #[.int .i64 0, .int .i64 0]) ?_ 0 _ rfl; (with_reducible repeat (first | refine blk_drewN ?_ _ | refine blk_drew ?_ | refine blk_alloc ?_ _)); exact BK105.out) hb); have n3_ := Aside0.mk (below_step (by repeat (first | (with_reducible first | exact HB.out | apply below_alloc | apply pw_below_drewN | apply below_drew1 | refine below_set ?_ GE101.out | refine below_set ?_ GE102.out | refine below_set ?_ GE105.out) | exact HB.out)) hb); clear BK101; clear BK102; clear BK105; clear HB; have BK101 := n0_; have BK102 := n1_; have BK105 := n2_; have HB := n3_; clear n0_ n1_ n2_ n3_; (try clear hb); (try clear hb2); (try clear hk); (try clear hi); have hcz21_0 : w20.cell? ⟨gb105, 0, none⟩ = some (.int .i64 ji6) := (blk_cell BK105.out 0).trans rfl; have hcz21_1 : w20.cell? ⟨gb105, 1, none⟩ = some (.int .i64 ji7) := (blk_cell BK105.out 1).trans rfl; have hfz21_0 := blk_frozen BK105.out 0; have hfz21_1 := blk_frozen BK105.out 1) | ((with_reducible refine gate_callee (f := 24) rfl ?_); refine goesL_ (some 63) rfl rfl Try.func24 (by kernel_rfl) rfl #[.slice A0 l0.length c0, .int .i64 ji6, .int .i64 ji7] rfl (by (try simp only [List.map_toArray, List.map_cons, List.map_nil]); first | done | (simp only [hji6, hji7]; rfl) | rfl | (simp only [List.length_drop, List.length_take]; rfl)) ?_; (with_reducible refine (pull_Number.calls k _ _ l0 ji6 ji7 t108 t109 _ ?side1 ?side2 A9.out).mono ?_); (case side1 => repeat (first | exact (Kd.C_below HR0.out HB.out) | (with_reducible refine Kd.C_alloc ?_ _) | (with_reducible refine Kd.C_drewN ?_ _) | (with_reducible refine Kd.C_drew ?_))); (case side2 => exact HC0.out); rintro e w22 ⟨rfl, hb⟩; refine ⟨_, rfl, ?_⟩; have n0_ := Aside0.mk (bkB BK101 hb); have n1_ := Aside0.mk (bkB BK102 hb); have n2_ := Aside0.mk (bkB BK105 hb); have n3_ := Aside0.mk (below_step (by repeat (first | (with_reducible first | exact HB.out | apply below_alloc | apply pw_below_drewN | apply below_drew1 | refine below_set ?_ GE101.out | refine below_set ?_ GE102.out | refine below_set ?_ GE105.out) | exact HB.out)) hb); clear BK101; clear BK102; clear BK105; clear HB; have BK101 := n0_; have BK102 := n1_; have BK105 := n2_; have HB := n3_; clear n0_ n1_ n2_ n3_; (try clear hb); (try clear hb2); (try clear hk); (try clear hi)))
  go_loopg [12, 13] k (fun kq v12 v13 w' => ∃ (x12_1 : List Int) (x13_1 : Int), v13 = .int .i64 x13_1 ∧ Aside0 (dropperlaw04_PullWider.l0 kq l0 t106 t107 t108 t109 x12_1 x13_1 a1_0 a1_1 a2_0 a2_1 a2_2 = some r) ∧ Aside0 (kq ≤ k) ∧ Aside0 (Kd.R (Kd.int .i64) 3 w' w.heap.size (fun _ => True) v12 x12_1) ∧ Aside0 (w'.heap[gb101]? = some (.cells #[.int .i64 a1_0, .int .i64 a1_1] 39 (0, 0))) ∧ Aside0 (w'.heap[gb102]? = some (.cells #[.int .u16 a2_0, .int .u16 a2_1, .int .u16 a2_2] 46 (0, 0))) ∧ Aside0 (w'.heap[gb105]? = some (.cells #[.int .i64 ji6, .int .i64 ji7] 39 (0, 0))) ∧ Aside0 (Below w.heap.size w w'))
  case atStart => exact ⟨(([] : List Int)), (wrap64 ((l0.length : Int) - 1)), (by first | rfl | (simp; done) | (simp [*]; done)), H', ⟨Nat.le_refl _⟩, ⟨by first | exact Kd.R_nil _ _ _ _ _ | exact Kd.N_nil _ _ _ _ _ | exact Kd.V_nil _ _ _ _ _ | exact Kd.Q_nil _ _ _ _ _ | exact Kd.S_nil _ _ _ _ _⟩, ⟨bkU BK101⟩, ⟨bkU BK102⟩, ⟨bkU BK105⟩, ⟨by repeat (first | (with_reducible first | exact HB.out | apply below_alloc | apply pw_below_drewN | apply below_drew1 | refine below_set ?_ GE101.out | refine below_set ?_ GE102.out | refine below_set ?_ GE105.out) | exact HB.out)⟩⟩
  case round =>
    clear H'
    try clear c1
    try clear c2
    try clear p2
    try clear c5
    try clear c6
    try clear p6
    try clear c12
    try clear c16
    try clear c17
    try clear hcz13_0
    try clear hcz13_1
    try clear hcz14_0
    try clear hcz14_1
    try clear hcz14_2
    try clear hcz18_0
    try clear hcz18_1
    try clear hcz19_0
    try clear hcz19_1
    try clear hcz21_0
    try clear hcz21_1
    try clear hfz13_0
    try clear hfz13_1
    try clear hfz14_0
    try clear hfz14_1
    try clear hfz14_2
    try clear hfz18_0
    try clear hfz18_1
    try clear hfz19_0
    try clear hfz19_1
    try clear hfz21_0
    try clear hfz21_1
    obtain ⟨x12_1, x13_1, rfl, HA, HK1, HO_12, BK101, BK102, BK105, HB⟩ := hrel
    cases gk with
    | zero => exact absurd HA.out (by simp [dropperlaw04_PullWider.l0])
    | succ k1 =>
      have H := HA.out
      clear HA
      simp only [dropperlaw04_PullWider.l0] at H
      by_cases c23 : x13_1 ≥ 0
      · rw [if_pos c23] at H
        have c23b0 : decide (0 ≤ x13_1) = true := decide_eq_true c23
        clear c23
        by_cases c24 : 0 ≤ x13_1
        rotate_left
        · rw [if_neg c24] at H
          exact absurd H (by simp)
        rw [if_pos c24] at H
        have c24b0 : decide (0 ≤ x13_1) = true := decide_eq_true c24
        clear c24
        by_cases c25 : x13_1 < (l0.length : Int)
        rotate_left
        · rw [if_neg c25] at H
          exact absurd H (by simp)
        rw [if_pos c25] at H
        have c25b0 : decide (x13_1 < (l0.length : Int)) = true := decide_eq_true c25
        clear c25
        by_cases c26 : x12_1.length < 17592186044416
        rotate_left
        · rw [if_neg c26] at H
          exact absurd H (by simp)
        rw [if_pos c26] at H
        have LMc26 := Aside0.mk c26
        clear c26
        obtain ⟨y111, hy111⟩ : ∃ y_ : List Int, y_ = (x12_1 ++ [wrap64 (100000 - (rd l0 x13_1))]) := ⟨_, rfl⟩
        replace H : (dropperlaw04_PullWider.l0 k1 l0 t106 t107 t108 t109 y111 (wrap64 (x13_1 - 1)) a1_0 a1_1 a2_0 a2_1 a2_2) = some r := by first | (rw [hy111]; with_reducible exact H) | (have H2_ := (Option.bind_some _ _).symm.trans H; rw [hy111]; with_reducible exact H2_) | (have H2_ := (Option.bind_some _ _).symm.trans H; with_reducible exact H2_) | with_reducible exact H | (rw [hy111]; exact H) | exact H
        have Ny111 := Aside0.mk hy111
        clear hy111
        have H' := Aside0.mk H
        clear H
        have p110 : 0 ≤ (x13_1 : Int) := of_decide_eq_true (by first | (with_reducible assumption) | assumption)
        have q110 : x13_1 < (l0.length : Int) := of_decide_eq_true (by first | (with_reducible assumption) | assumption)
        obtain ⟨ad110, e110, hx110_0⟩ := Kd.at_int HR0.out x13_1 p110 q110
        cases e110
        replace hx110_0 := (HB.out.cell (World.block_lt_of_cell? w _ hx110_0)).trans hx110_0
        replace p110 := eq_true p110
        replace q110 := eq_true q110
        go_wp2_with (first | ((with_reducible refine gate_builtin (b := .append) (xs := #[.tmp 73, .tmp 79]) rfl ?_); (try (refine gate_guard (by rfl) ?_; dsimp only)); at_builtin; refine Kd.R_append (Kd.int .i64) (w0 := w) w.heap.size rfl (.tmp 73) (.tmp 79) 37 3 (.int .i64 0) 8 rfl Try.underlying37 info3 rfl (by decide) (by omega) u12 x12_1 (wrap64 (100000 - (rd l0 x13_1))) [.int .i64 (wrap64 (100000 - (rd l0 x13_1)))] (fun _ => True) (fun _ => False) rfl rfl ?aP (fun _ hk => hk.elim) ?aF ?aO ?aB ?aS ?aL ?_; (case aP => exact rfl); (case aB => exact (by repeat (first | (with_reducible first | exact HB.out | apply below_alloc | apply pw_below_drewN | apply below_drew1 | refine below_set ?_ GE101.out | refine below_set ?_ GE102.out | refine below_set ?_ GE105.out) | exact HB.out))); (case aF => exact (fun _ _ => trivial)); (case aO => exact (by (with_reducible repeat (first | apply Kd.R_alloc | apply Kd.R_drewN | apply Kd.R_drew)); exact HO_12.out)); (case aS => exact (below_size (by repeat (first | (with_reducible first | exact HB.out | apply below_alloc | apply pw_below_drewN | apply below_drew1 | refine below_set ?_ GE101.out | refine below_set ?_ GE102.out | refine below_set ?_ GE105.out) | exact HB.out)))); (case aL => have := LMc26.out; omega); intro v112 w27 ho hb hg hat; rw [← Ny111.out] at ho; have n0_ := Aside0.mk (blk_grown (g := gb101) (o := .cells #[.int .i64 a1_0, .int .i64 a1_1] 39 (0, 0)) (bkU BK101) hg (Kd.R_ne HO_12.out BK101.out (by decide))); have n1_ := Aside0.mk (blk_grown (g := gb102) (o := .cells #[.int .u16 a2_0, .int .u16 a2_1, .int .u16 a2_2] 46 (0, 0)) (bkU BK102) hg (Kd.R_ne HO_12.out BK102.out (by decide))); have n2_ := Aside0.mk (blk_grown (g := gb105) (o := .cells #[.int .i64 ji6, .int .i64 ji7] 39 (0, 0)) (bkU BK105) hg (Kd.R_ne HO_12.out BK105.out (by decide))); have n3_ := Aside0.mk (hb); have n4_ := Aside0.mk (ho); clear BK101; clear BK102; clear BK105; clear HB; clear HO_12; have BK101 := n0_; have BK102 := n1_; have BK105 := n2_; have HB := n3_; have HO113 := n4_; clear n0_ n1_ n2_ n3_ n4_; clear ho hb hg hat))
        go_roundg k1
        case measure => have := HK1.out; omega
        case rel => exact ⟨(y111), (wrap64 (x13_1 - 1)), (by first | rfl | (simp; done) | (simp [*]; done)), H', ⟨by have := HK1.out; omega⟩, ⟨by (with_reducible repeat (first | apply Kd.R_alloc | apply Kd.R_drewN | apply Kd.R_drew)); exact HO113.out⟩, ⟨bkU BK101⟩, ⟨bkU BK102⟩, ⟨bkU BK105⟩, ⟨by repeat (first | (with_reducible first | exact HB.out | apply below_alloc | apply pw_below_drewN | apply below_drew1 | refine below_set ?_ GE101.out | refine below_set ?_ GE102.out | refine below_set ?_ GE105.out) | exact HB.out)⟩⟩
      rw [if_neg c23] at H
      have c23b0 : decide (0 ≤ x13_1) = false := decide_eq_false c23
      clear c23
      replace H := Option.bind_eq_some_iff.mp H
      obtain ⟨⟨t114, t115⟩, A280, H⟩ := H
      replace H : (if t107 = 0 then (if t109 = 0 then (if t115 = 0 then (if t108 < t106 then (dropperlaw04_PullWider.j1 k1 l0 t106 true a1_0 a1_1 a2_0 a2_1 a2_2) else (if t114 = t106 then (dropperlaw04_PullWider.j1 k1 l0 t106 (decide (t106 < 0)) a1_0 a1_1 a2_0 a2_1 a2_2) else (dropperlaw04_PullWider.j1 k1 l0 t106 true a1_0 a1_1 a2_0 a2_1 a2_2))) else (dropperlaw04_PullWider.j1 k1 l0 t106 true a1_0 a1_1 a2_0 a2_1 a2_2)) else (dropperlaw04_PullWider.j1 k1 l0 t106 true a1_0 a1_1 a2_0 a2_1 a2_2)) else (dropperlaw04_PullWider.j1 k1 l0 t106 true a1_0 a1_1 a2_0 a2_1 a2_2)) = some r := H
      have A28 := Aside0.mk A280
      clear A280
      have HC29 := Aside0.mk H
      clear H
      have hnb30 := NB101_102.out
      have hnc30 := NB102_101.out
      have hnb31 := NB101_105.out
      have hnc31 := NB105_101.out
      have hcz32_0 : wr.cell? ⟨gb101, 0, none⟩ = some (.int .i64 a1_0) := (blk_cell BK101.out 0).trans rfl
      have hcz32_1 : wr.cell? ⟨gb101, 1, none⟩ = some (.int .i64 a1_1) := (blk_cell BK101.out 1).trans rfl
      have hfz32_0 := blk_frozen BK101.out 0
      have hfz32_1 := blk_frozen BK101.out 1
      obtain ⟨Ao33, co33, eo33⟩ := Kd.R_slice HO_12.out
      subst eo33
      go_upto_region 12 with (first | ((with_reducible refine gate_callee (f := 24) rfl ?_); refine goesL_ (some 87) rfl rfl Try.func24 (by kernel_rfl) rfl #[.slice Ao33 x12_1.length co33, .int .i64 a1_0, .int .i64 a1_1] rfl (by (try simp only [List.map_toArray, List.map_cons, List.map_nil]); first | done | rfl | (simp only [List.length_drop, List.length_take]; rfl)) ?_; (with_reducible refine (pull_Number.calls k1 _ _ x12_1 a1_0 a1_1 t114 t115 _ ?side1 ?side2 A28.out).mono ?_); (case side1 => repeat (first | exact (Kd.R_reads' HO_12.out).2.2 | (with_reducible refine Kd.C_alloc ?_ _) | (with_reducible refine Kd.C_drewN ?_ _) | (with_reducible refine Kd.C_drew ?_))); (case side2 => exact (Kd.R_reads' HO_12.out).2.1); rintro e w34 ⟨rfl, hb⟩; refine ⟨_, rfl, ?_⟩; have n0_ := Aside0.mk (Kd.R_below (by (with_reducible repeat (first | apply Kd.R_alloc | apply Kd.R_drewN | apply Kd.R_drew)); exact HO_12.out) hb); have n1_ := Aside0.mk (bkB BK101 hb); have n2_ := Aside0.mk (bkB BK102 hb); have n3_ := Aside0.mk (bkB BK105 hb); have n4_ := Aside0.mk (below_step (by repeat (first | (with_reducible first | exact HB.out | apply below_alloc | apply pw_below_drewN | apply below_drew1 | refine below_set ?_ GE101.out | refine below_set ?_ GE102.out | refine below_set ?_ GE105.out) | exact HB.out)) hb); clear HO_12; clear BK101; clear BK102; clear BK105; clear HB; have HO_12 := n0_; have BK101 := n1_; have BK102 := n2_; have BK105 := n3_; have HB := n4_; clear n0_ n1_ n2_ n3_ n4_; (try clear hb); (try clear hb2); (try clear hk); (try clear hi)))
      (try simp only [Act.put, List.setIfInBounds_toArray, List.set_cons_zero, List.set_cons_succ])
      go_cut [113] (fun v113 wc => ∃ (kq : Nat) (x113_28 : Bool), v113 = .bool x113_28 ∧ Aside0 (dropperlaw04_PullWider.j1 kq l0 t106 x113_28 a1_0 a1_1 a2_0 a2_1 a2_2 = some r) ∧ Aside0 (kq ≤ k1) ∧ Aside0 (wc.heap[gb101]? = some (.cells #[.int .i64 a1_0, .int .i64 a1_1] 39 (0, 0))) ∧ Aside0 (wc.heap[gb102]? = some (.cells #[.int .u16 a2_0, .int .u16 a2_1, .int .u16 a2_2] 46 (0, 0))) ∧ Aside0 (wc.heap[gb105]? = some (.cells #[.int .i64 ji6, .int .i64 ji7] 39 (0, 0))) ∧ Aside0 (Below w.heap.size w wc))
      case first =>
        have H := HC29.out
        clear HC29
        by_cases c35 : t107 = 0
        rotate_left
        · rw [if_neg c35] at H
          have c35b0 : (t107 == 0) = false := beq_eq_false_iff_ne.mpr c35
          have c35b1 : (t107 != 0) = true := bne_iff_ne.mpr c35
          (first | rw [c35b0] | (simp only [i64_w, i32_w]; rw [c35b0]) | skip)
          have H' := Aside0.mk H
          clear H
          go_wp2
          go_meet
          case rel => exact ⟨_, (true), (by first | rfl | (simp; done) | (simp [*]; done)), H', ⟨by have := HK1.out; first | omega | exact Nat.le_refl _⟩, ⟨bkU BK101⟩, ⟨bkU BK102⟩, ⟨bkU BK105⟩, ⟨by repeat (first | (with_reducible first | exact HB.out | apply below_alloc | apply pw_below_drewN | apply below_drew1 | refine below_set ?_ GE101.out | refine below_set ?_ GE102.out | refine below_set ?_ GE105.out) | exact HB.out)⟩⟩
        rw [if_pos c35] at H
        have c35b0 : (t107 == 0) = true := beq_iff_eq.mpr c35
        have c35b1 : (t107 != 0) = false := bne_eq_false_iff_eq.mpr c35
        clear c35
        (first | rw [c35b0] | (simp only [i64_w, i32_w]; rw [c35b0]) | skip)
        by_cases c36 : t109 = 0
        rotate_left
        · rw [if_neg c36] at H
          have c36b0 : (t109 == 0) = false := beq_eq_false_iff_ne.mpr c36
          have c36b1 : (t109 != 0) = true := bne_iff_ne.mpr c36
          have H' := Aside0.mk H
          clear H
          go_wp2
          go_meet
          case rel => exact ⟨_, (true), (by first | rfl | (simp; done) | (simp [*]; done)), H', ⟨by have := HK1.out; first | omega | exact Nat.le_refl _⟩, ⟨bkU BK101⟩, ⟨bkU BK102⟩, ⟨bkU BK105⟩, ⟨by repeat (first | (with_reducible first | exact HB.out | apply below_alloc | apply pw_below_drewN | apply below_drew1 | refine below_set ?_ GE101.out | refine below_set ?_ GE102.out | refine below_set ?_ GE105.out) | exact HB.out)⟩⟩
        rw [if_pos c36] at H
        have c36b0 : (t109 == 0) = true := beq_iff_eq.mpr c36
        have c36b1 : (t109 != 0) = false := bne_eq_false_iff_eq.mpr c36
        clear c36
        by_cases c37 : t115 = 0
        rotate_left
        · rw [if_neg c37] at H
          have c37b0 : (t115 == 0) = false := beq_eq_false_iff_ne.mpr c37
          have c37b1 : (t115 != 0) = true := bne_iff_ne.mpr c37
          have H' := Aside0.mk H
          clear H
          go_wp2
          go_meet
          case rel => exact ⟨_, (true), (by first | rfl | (simp; done) | (simp [*]; done)), H', ⟨by have := HK1.out; first | omega | exact Nat.le_refl _⟩, ⟨bkU BK101⟩, ⟨bkU BK102⟩, ⟨bkU BK105⟩, ⟨by repeat (first | (with_reducible first | exact HB.out | apply below_alloc | apply pw_below_drewN | apply below_drew1 | refine below_set ?_ GE101.out | refine below_set ?_ GE102.out | refine below_set ?_ GE105.out) | exact HB.out)⟩⟩
        rw [if_pos c37] at H
        have c37b0 : (t115 == 0) = true := beq_iff_eq.mpr c37
        have c37b1 : (t115 != 0) = false := bne_eq_false_iff_eq.mpr c37
        clear c37
        by_cases c38 : t108 < t106
        · rw [if_pos c38] at H
          have c38b0 : decide (t108 < t106) = true := decide_eq_true c38
          clear c38
          have H' := Aside0.mk H
          clear H
          go_wp2
          go_meet
          case rel => exact ⟨_, (true), (by first | rfl | (simp; done) | (simp [*]; done)), H', ⟨by have := HK1.out; first | omega | exact Nat.le_refl _⟩, ⟨bkU BK101⟩, ⟨bkU BK102⟩, ⟨bkU BK105⟩, ⟨by repeat (first | (with_reducible first | exact HB.out | apply below_alloc | apply pw_below_drewN | apply below_drew1 | refine below_set ?_ GE101.out | refine below_set ?_ GE102.out | refine below_set ?_ GE105.out) | exact HB.out)⟩⟩
        rw [if_neg c38] at H
        have c38b0 : decide (t108 < t106) = false := decide_eq_false c38
        clear c38
        by_cases c39 : t114 = t106
        rotate_left
        · rw [if_neg c39] at H
          have c39b0 : (t114 == t106) = false := beq_eq_false_iff_ne.mpr c39
          have c39b1 : (t114 != t106) = true := bne_iff_ne.mpr c39
          have H' := Aside0.mk H
          clear H
          go_wp2
          go_meet
          case rel => exact ⟨_, (true), (by first | rfl | (simp; done) | (simp [*]; done)), H', ⟨by have := HK1.out; first | omega | exact Nat.le_refl _⟩, ⟨bkU BK101⟩, ⟨bkU BK102⟩, ⟨bkU BK105⟩, ⟨by repeat (first | (with_reducible first | exact HB.out | apply below_alloc | apply pw_below_drewN | apply below_drew1 | refine below_set ?_ GE101.out | refine below_set ?_ GE102.out | refine below_set ?_ GE105.out) | exact HB.out)⟩⟩
        rw [if_pos c39] at H
        have c39b0 : (t114 == t106) = true := beq_iff_eq.mpr c39
        have c39b1 : (t114 != t106) = false := bne_eq_false_iff_eq.mpr c39
        clear c39
        have H' := Aside0.mk H
        clear H
        go_wp2
        go_meet
        case rel => exact ⟨_, (decide (t106 < 0)), (by first | rfl | (simp; done) | (simp [*]; done)), H', ⟨by have := HK1.out; first | omega | exact Nat.le_refl _⟩, ⟨bkU BK101⟩, ⟨bkU BK102⟩, ⟨bkU BK105⟩, ⟨by repeat (first | (with_reducible first | exact HB.out | apply below_alloc | apply pw_below_drewN | apply below_drew1 | refine below_set ?_ GE101.out | refine below_set ?_ GE102.out | refine below_set ?_ GE105.out) | exact HB.out)⟩⟩
      case rest =>
        clear HC29
        try clear c1
        try clear p1
        try clear q1
        try clear hx1
        try clear c2
        try clear p2
        try clear c3
        try clear c5
        try clear c6
        try clear p6
        try clear p11
        try clear q11
        try clear hx11
        try clear c12
        try clear c16
        try clear c17
        try clear c23
        try clear c23b0
        try clear c24
        try clear c24b0
        try clear c25
        try clear c25b0
        try clear c26
        try clear c29
        try clear c30
        try clear c31
        try clear c35
        try clear c35b0
        try clear c35b1
        try clear c36
        try clear c36b0
        try clear c36b1
        try clear c37
        try clear c37b0
        try clear c37b1
        try clear c38
        try clear c38b0
        try clear c39
        try clear c39b0
        try clear c39b1
        try clear hcz13_0
        try clear hcz13_1
        try clear hcz14_0
        try clear hcz14_1
        try clear hcz14_2
        try clear hcz18_0
        try clear hcz18_1
        try clear hcz19_0
        try clear hcz19_1
        try clear hcz21_0
        try clear hcz21_1
        try clear hcz32_0
        try clear hcz32_1
        try clear hfz13_0
        try clear hfz13_1
        try clear hfz14_0
        try clear hfz14_1
        try clear hfz14_2
        try clear hfz18_0
        try clear hfz18_1
        try clear hfz19_0
        try clear hfz19_1
        try clear hfz21_0
        try clear hfz21_1
        try clear hfz32_0
        try clear hfz32_1
        try clear hx110_0
        try clear p110
        try clear p2
        try clear p6
        try clear q110
        obtain ⟨kq, x113_28, rfl, HA, HJ28, BK101, BK102, BK105, HB⟩ := hcut
        cases kq with
        | zero => exact absurd HA.out (by simp [dropperlaw04_PullWider.j1])
        | succ kj28 =>
          have H := HA.out
          clear HA
          simp only [dropperlaw04_PullWider.j1] at H
          by_cases c40 : x113_28 = true
          · subst c40
            have H1 : (some false) = some r := by rw [if_pos rfl] at H; exact H
            clear H
            have H := H1
            clear H1
            exact absurd (hT.symm.trans (Option.some.inj H).symm) (by decide)
          replace c40 := Bool.eq_false_iff.mpr c40
          subst c40
          have H1 : ((pull_Anchors.f kj28 l0 a1_0 a1_1).bind fun bt116 => (if bt116.2 = 0 then (if (l0.length : Int) = 0 then (none) else (if (Int.tmod (wrap64 (a2_2)) (l0.length : Int)) > 0 then (dropperlaw04_PullWider.j2 kj28 l0 bt116.1 (Int.tmod (wrap64 (a2_2)) (l0.length : Int)) (decide (t106 > 0)) (decide ((Int.tmod (wrap64 (a2_2)) (l0.length : Int)) < (wrap64 ((l0.length : Int) - 1)))) a1_0 a1_1) else (dropperlaw04_PullWider.j2 kj28 l0 bt116.1 (Int.tmod (wrap64 (a2_2)) (l0.length : Int)) (decide (t106 > 0)) false a1_0 a1_1))) else (some false))) = some r := by rw [if_neg (show ¬ (false = true) by decide)] at H; exact H
          clear H
          have H := H1
          clear H1
          replace H := Option.bind_eq_some_iff.mp H
          obtain ⟨⟨t116, t117⟩, A410, H⟩ := H
          replace H : (if t117 = 0 then (if (l0.length : Int) = 0 then (none) else (if (Int.tmod (wrap64 (a2_2)) (l0.length : Int)) > 0 then (dropperlaw04_PullWider.j2 kj28 l0 t116 (Int.tmod (wrap64 (a2_2)) (l0.length : Int)) (decide (t106 > 0)) (decide ((Int.tmod (wrap64 (a2_2)) (l0.length : Int)) < (wrap64 ((l0.length : Int) - 1)))) a1_0 a1_1) else (dropperlaw04_PullWider.j2 kj28 l0 t116 (Int.tmod (wrap64 (a2_2)) (l0.length : Int)) (decide (t106 > 0)) false a1_0 a1_1))) else (some false)) = some r := H
          have A41 := Aside0.mk A410
          clear A410
          by_cases c42 : t117 = 0
          rotate_left
          · rw [if_neg c42] at H
            have c42b0 : (t117 == 0) = false := beq_eq_false_iff_ne.mpr c42
            have c42b1 : (t117 != 0) = true := bne_iff_ne.mpr c42
            exact absurd (hT.symm.trans (Option.some.inj H).symm) (by decide)
          rw [if_pos c42] at H
          have c42b0 : (t117 == 0) = true := beq_iff_eq.mpr c42
          have c42b1 : (t117 != 0) = false := bne_eq_false_iff_eq.mpr c42
          clear c42
          by_cases c43 : (l0.length : Int) = 0
          · rw [if_pos c43] at H
            exact absurd H (by simp)
          rw [if_neg c43] at H
          have c43b0 : ((l0.length : Int) == 0) = false := beq_eq_false_iff_ne.mpr c43
          have c43b1 : ((l0.length : Int) != 0) = true := bne_iff_ne.mpr c43
          have c43b2 : ¬ (l0 = []) := fun h_ => c43 (by rw [h_]; rfl)
          have HC44 := Aside0.mk H
          clear H
          have hnb45 := NB101_102.out
          have hnc45 := NB102_101.out
          have hnb46 := NB101_105.out
          have hnc46 := NB105_101.out
          have hcz47_0 : wc.cell? ⟨gb101, 0, none⟩ = some (.int .i64 a1_0) := (blk_cell BK101.out 0).trans rfl
          have hcz47_1 : wc.cell? ⟨gb101, 1, none⟩ = some (.int .i64 a1_1) := (blk_cell BK101.out 1).trans rfl
          have hfz47_0 := blk_frozen BK101.out 0
          have hfz47_1 := blk_frozen BK101.out 1
          go_upto_region 19 with (first | ((with_reducible refine gate_callee (f := 30) rfl ?_); refine goesL_ (some 120) rfl rfl Try.func30 (by kernel_rfl) rfl #[.slice A0 l0.length c0, .int .i64 a1_0, .int .i64 a1_1] rfl (by (try simp only [List.map_toArray, List.map_cons, List.map_nil]); first | done | rfl | (simp only [List.length_drop, List.length_take]; rfl)) ?_; (with_reducible refine (pull_Anchors.calls kj28 _ _ l0 a1_0 a1_1 t116 t117 _ ?side1 ?side2 A41.out).mono ?_); (case side1 => repeat (first | exact (Kd.C_below HR0.out HB.out) | (with_reducible refine Kd.C_alloc ?_ _) | (with_reducible refine Kd.C_drewN ?_ _) | (with_reducible refine Kd.C_drew ?_))); (case side2 => exact HC0.out); rintro e w48 ⟨v118, rfl, ho0, hb⟩; refine ⟨_, rfl, ?_⟩; have n0_ := Aside0.mk (Kd.R_lower ho0 (below_size (by repeat (first | (with_reducible first | exact HB.out | apply below_alloc | apply pw_below_drewN | apply below_drew1 | refine below_set ?_ GE101.out | refine below_set ?_ GE102.out | refine below_set ?_ GE105.out) | exact HB.out)))); have n1_ := Aside0.mk (bkB BK101 hb); have n2_ := Aside0.mk (bkB BK102 hb); have n3_ := Aside0.mk (bkB BK105 hb); have n4_ := Aside0.mk (below_step (by repeat (first | (with_reducible first | exact HB.out | apply below_alloc | apply pw_below_drewN | apply below_drew1 | refine below_set ?_ GE101.out | refine below_set ?_ GE102.out | refine below_set ?_ GE105.out) | exact HB.out)) hb); clear BK101; clear BK102; clear BK105; clear HB; have HO119 := n0_; have BK101 := n1_; have BK102 := n2_; have BK105 := n3_; have HB := n4_; clear n0_ n1_ n2_ n3_ n4_; (try clear hb); (try clear hb2); (try clear hk); (try clear hi); (try clear ho0); have hnb49 := NB102_105.out; have hnc49 := NB105_102.out; have hcz50_0 : w48.cell? ⟨gb102, 0, none⟩ = some (.int .u16 a2_0) := (blk_cell BK102.out 0).trans rfl; have hcz50_1 : w48.cell? ⟨gb102, 1, none⟩ = some (.int .u16 a2_1) := (blk_cell BK102.out 1).trans rfl; have hcz50_2 : w48.cell? ⟨gb102, 2, none⟩ = some (.int .u16 a2_2) := (blk_cell BK102.out 2).trans rfl; have hfz50_0 := blk_frozen BK102.out 0; have hfz50_1 := blk_frozen BK102.out 1; have hfz50_2 := blk_frozen BK102.out 2))
          (try simp only [Act.put, List.setIfInBounds_toArray, List.set_cons_zero, List.set_cons_succ])
          go_cut [141] (fun v141 wc => ∃ (kq : Nat) (x141_43 : Bool), v141 = .bool x141_43 ∧ Aside0 (dropperlaw04_PullWider.j2 kq l0 t116 (Int.tmod (wrap64 (a2_2)) (l0.length : Int)) (decide (t106 > 0)) x141_43 a1_0 a1_1 = some r) ∧ Aside0 (kq ≤ kj28) ∧ Aside0 (Kd.R (Kd.int .i64) 3 wc w.heap.size (fun _ => True) v118 t116) ∧ Aside0 (wc.heap[gb101]? = some (.cells #[.int .i64 a1_0, .int .i64 a1_1] 39 (0, 0))) ∧ Aside0 (wc.heap[gb102]? = some (.cells #[.int .u16 a2_0, .int .u16 a2_1, .int .u16 a2_2] 46 (0, 0))) ∧ Aside0 (wc.heap[gb105]? = some (.cells #[.int .i64 ji6, .int .i64 ji7] 39 (0, 0))) ∧ Aside0 (Below w.heap.size w wc))
          case first =>
            have H := HC44.out
            clear HC44
            by_cases c51 : (Int.tmod (wrap64 (a2_2)) (l0.length : Int)) > 0
            rotate_left
            · rw [if_neg c51] at H
              have c51b0 : decide (0 < (Int.tmod (wrap64 (a2_2)) (l0.length : Int))) = false := decide_eq_false c51
              clear c51
              (first | rw [c51b0] | (simp only [i64_w, i32_w]; rw [c51b0]) | skip)
              have H' := Aside0.mk H
              clear H
              go_wp2
              go_meet
              case rel => exact ⟨_, (false), (by first | rfl | (simp; done) | (simp [*]; done)), H', ⟨by have := HK1.out; have := HJ28.out; first | omega | exact Nat.le_refl _⟩, ⟨by (with_reducible repeat (first | apply Kd.R_alloc | apply Kd.R_drewN | apply Kd.R_drew)); exact HO119.out⟩, ⟨bkU BK101⟩, ⟨bkU BK102⟩, ⟨bkU BK105⟩, ⟨by repeat (first | (with_reducible first | exact HB.out | apply below_alloc | apply pw_below_drewN | apply below_drew1 | refine below_set ?_ GE101.out | refine below_set ?_ GE102.out | refine below_set ?_ GE105.out) | exact HB.out)⟩⟩
            rw [if_pos c51] at H
            have c51b0 : decide (0 < (Int.tmod (wrap64 (a2_2)) (l0.length : Int))) = true := decide_eq_true c51
            clear c51
            (first | rw [c51b0] | (simp only [i64_w, i32_w]; rw [c51b0]) | skip)
            have H' := Aside0.mk H
            clear H
            go_wp2
            go_meet
            case rel => exact ⟨_, (decide ((Int.tmod (wrap64 (a2_2)) (l0.length : Int)) < (wrap64 ((l0.length : Int) - 1)))), (by first | rfl | (simp; done) | (simp [*]; done)), H', ⟨by have := HK1.out; have := HJ28.out; first | omega | exact Nat.le_refl _⟩, ⟨by (with_reducible repeat (first | apply Kd.R_alloc | apply Kd.R_drewN | apply Kd.R_drew)); exact HO119.out⟩, ⟨bkU BK101⟩, ⟨bkU BK102⟩, ⟨bkU BK105⟩, ⟨by repeat (first | (with_reducible first | exact HB.out | apply below_alloc | apply pw_below_drewN | apply below_drew1 | refine below_set ?_ GE101.out | refine below_set ?_ GE102.out | refine below_set ?_ GE105.out) | exact HB.out)⟩⟩
          case rest =>
            clear HC44
            try clear c1
            try clear p1
            try clear q1
            try clear hx1
            try clear c2
            try clear p2
            try clear c3
            try clear c4
            try clear c5
            try clear c6
            try clear p6
            try clear p11
            try clear q11
            try clear hx11
            try clear c12
            try clear c16
            try clear c17
            try clear c23
            try clear c23b0
            try clear c24
            try clear c24b0
            try clear c25
            try clear c25b0
            try clear c26
            try clear c29
            try clear c30
            try clear c31
            try clear c35
            try clear c35b0
            try clear c35b1
            try clear c36
            try clear c36b0
            try clear c36b1
            try clear c37
            try clear c37b0
            try clear c37b1
            try clear c38
            try clear c38b0
            try clear c39
            try clear c39b0
            try clear c39b1
            try clear c40
            try clear c42
            try clear c42b0
            try clear c42b1
            try clear c43
            try clear c43b0
            try clear c43b1
            try clear c43b2
            try clear c45
            try clear c46
            try clear c49
            try clear c51
            try clear c51b0
            try clear hcz13_0
            try clear hcz13_1
            try clear hcz14_0
            try clear hcz14_1
            try clear hcz14_2
            try clear hcz18_0
            try clear hcz18_1
            try clear hcz19_0
            try clear hcz19_1
            try clear hcz21_0
            try clear hcz21_1
            try clear hcz32_0
            try clear hcz32_1
            try clear hcz47_0
            try clear hcz47_1
            try clear hcz50_0
            try clear hcz50_1
            try clear hcz50_2
            try clear hfz13_0
            try clear hfz13_1
            try clear hfz14_0
            try clear hfz14_1
            try clear hfz14_2
            try clear hfz18_0
            try clear hfz18_1
            try clear hfz19_0
            try clear hfz19_1
            try clear hfz21_0
            try clear hfz21_1
            try clear hfz32_0
            try clear hfz32_1
            try clear hfz47_0
            try clear hfz47_1
            try clear hfz50_0
            try clear hfz50_1
            try clear hfz50_2
            try clear hx110_0
            try clear p1
            try clear p11
            try clear p110
            try clear p2
            try clear p6
            try clear q1
            try clear q11
            try clear q110
            obtain ⟨kq, x141_43, rfl, HA, HJ43, HO_16, BK101, BK102, BK105, HB⟩ := hcut
            cases kq with
            | zero => exact absurd HA.out (by simp [dropperlaw04_PullWider.j2])
            | succ kj43 =>
              have H := HA.out
              clear HA
              simp only [dropperlaw04_PullWider.j2] at H
              have HC52 := Aside0.mk H
              clear H
              go_upto_if 141 with (fail)
              go_cut [18] (fun v18 wc => ∃ (kq : Nat) (x18_51 : Bool), v18 = .bool x18_51 ∧ Aside0 (dropperlaw04_PullWider.j3 kq t116 (Int.tmod (wrap64 (a2_2)) (l0.length : Int)) x18_51 = some r) ∧ Aside0 (kq ≤ kj43) ∧ Aside0 (Kd.R (Kd.int .i64) 3 wc w.heap.size (fun _ => True) v118 t116) ∧ Aside0 (wc.heap[gb101]? = some (.cells #[.int .i64 a1_0, .int .i64 a1_1] 39 (0, 0))) ∧ Aside0 (wc.heap[gb102]? = some (.cells #[.int .u16 a2_0, .int .u16 a2_1, .int .u16 a2_2] 46 (0, 0))) ∧ Aside0 (wc.heap[gb105]? = some (.cells #[.int .i64 ji6, .int .i64 ji7] 39 (0, 0))) ∧ Aside0 (Below w.heap.size w wc))
              case first =>
                have H := HC52.out
                clear HC52
                by_cases c53 : x141_43 = true
                rotate_left
                · replace c53 := Bool.eq_false_iff.mpr c53
                  subst c53
                  have H1 : (dropperlaw04_PullWider.j3 kj43 t116 (Int.tmod (wrap64 (a2_2)) (l0.length : Int)) (decide (t106 > 0))) = some r := by rw [if_neg (show ¬ (false = true) by decide)] at H; exact H
                  clear H
                  have H := H1
                  clear H1
                  have H' := Aside0.mk H
                  clear H
                  go_wp2
                  go_meet
                  case rel => exact ⟨_, ((decide (t106 > 0))), (by first | rfl | (simp; done) | (simp [*]; done)), H', ⟨by have := HK1.out; have := HJ28.out; have := HJ43.out; first | omega | exact Nat.le_refl _⟩, ⟨by (with_reducible repeat (first | apply Kd.R_alloc | apply Kd.R_drewN | apply Kd.R_drew)); exact HO_16.out⟩, ⟨bkU BK101⟩, ⟨bkU BK102⟩, ⟨bkU BK105⟩, ⟨by repeat (first | (with_reducible first | exact HB.out | apply below_alloc | apply pw_below_drewN | apply below_drew1 | refine below_set ?_ GE101.out | refine below_set ?_ GE102.out | refine below_set ?_ GE105.out) | exact HB.out)⟩⟩
                subst c53
                have H1 : (if 0 ≤ (wrap64 ((Int.tmod (wrap64 (a2_2)) (l0.length : Int)) + 1)) then (if (wrap64 ((Int.tmod (wrap64 (a2_2)) (l0.length : Int)) + 1)) ≤ (l0.length : Int) then ((pull_Number.f kj43 (l0.take ((wrap64 ((Int.tmod (wrap64 (a2_2)) (l0.length : Int)) + 1)) : Int).toNat) a1_0 a1_1).bind fun bt121 => (if 0 ≤ (Int.tmod (wrap64 (a2_2)) (l0.length : Int)) then (if (Int.tmod (wrap64 (a2_2)) (l0.length : Int)) ≤ (l0.length : Int) then ((pull_Number.f kj43 (l0.drop ((Int.tmod (wrap64 (a2_2)) (l0.length : Int)) : Int).toNat) a1_0 a1_1).bind fun bt124 => (if bt121.2 = 0 then (if bt124.2 = 0 then (if bt121.1 > 0 then (dropperlaw04_PullWider.j3 kj43 t116 (Int.tmod (wrap64 (a2_2)) (l0.length : Int)) (decide (bt124.1 > 0))) else (dropperlaw04_PullWider.j3 kj43 t116 (Int.tmod (wrap64 (a2_2)) (l0.length : Int)) false)) else (some false)) else (some false))) else (none)) else (none))) else (none)) else (none)) = some r := by rw [if_pos rfl] at H; exact H
                clear H
                have H := H1
                clear H1
                obtain ⟨ji54, hji54⟩ : ∃ j_ : Int, (wrap64 ((Int.tmod (wrap64 (a2_2)) (l0.length : Int)) + 1)) = j_ := ⟨_, rfl⟩
                replace H : (if 0 ≤ (ji54) then (if (ji54) ≤ (l0.length : Int) then ((pull_Number.f kj43 (l0.take ((ji54) : Int).toNat) a1_0 a1_1).bind fun bt121 => (if 0 ≤ (Int.tmod (wrap64 (a2_2)) (l0.length : Int)) then (if (Int.tmod (wrap64 (a2_2)) (l0.length : Int)) ≤ (l0.length : Int) then ((pull_Number.f kj43 (l0.drop ((Int.tmod (wrap64 (a2_2)) (l0.length : Int)) : Int).toNat) a1_0 a1_1).bind fun bt124 => (if bt121.2 = 0 then (if bt124.2 = 0 then (if bt121.1 > 0 then (dropperlaw04_PullWider.j3 kj43 t116 (Int.tmod (wrap64 (a2_2)) (l0.length : Int)) (decide (bt124.1 > 0))) else (dropperlaw04_PullWider.j3 kj43 t116 (Int.tmod (wrap64 (a2_2)) (l0.length : Int)) false)) else (some false)) else (some false))) else (none)) else (none))) else (none)) else (none)) = some r := by first | (rw [hji54] at H; exact H) | (simp only [hji54] at H ⊢; exact H)
                have hji54w : (IntKind.i64.wrap ((Int.tmod (wrap64 (a2_2)) (l0.length : Int)) + 1)) = ji54 := (i64_w _).trans hji54
                by_cases c55 : 0 ≤ (ji54)
                rotate_left
                · rw [if_neg c55] at H
                  exact absurd H (by simp)
                rw [if_pos c55] at H
                have c55b0 := eq_true c55
                have c55b1 : decide (0 ≤ (ji54)) = true := decide_eq_true c55
                clear c55
                by_cases c56 : (ji54) ≤ (l0.length : Int)
                rotate_left
                · rw [if_neg c56] at H
                  exact absurd H (by simp)
                rw [if_pos c56] at H
                have c56b0 := eq_true c56
                have c56b1 : decide ((ji54) ≤ (l0.length : Int)) = true := decide_eq_true c56
                clear c56
                replace H := Option.bind_eq_some_iff.mp H
                obtain ⟨⟨t121, t122⟩, A570, H⟩ := H
                replace H : (if 0 ≤ (Int.tmod (wrap64 (a2_2)) (l0.length : Int)) then (if (Int.tmod (wrap64 (a2_2)) (l0.length : Int)) ≤ (l0.length : Int) then ((pull_Number.f kj43 (l0.drop ((Int.tmod (wrap64 (a2_2)) (l0.length : Int)) : Int).toNat) a1_0 a1_1).bind fun bt124 => (if t122 = 0 then (if bt124.2 = 0 then (if t121 > 0 then (dropperlaw04_PullWider.j3 kj43 t116 (Int.tmod (wrap64 (a2_2)) (l0.length : Int)) (decide (bt124.1 > 0))) else (dropperlaw04_PullWider.j3 kj43 t116 (Int.tmod (wrap64 (a2_2)) (l0.length : Int)) false)) else (some false)) else (some false))) else (none)) else (none)) = some r := H
                have A57 := Aside0.mk A570
                clear A570
                obtain ⟨ji58, hji58⟩ : ∃ j_ : Int, (Int.tmod (wrap64 (a2_2)) (l0.length : Int)) = j_ := ⟨_, rfl⟩
                have hji54x : wrap64 (ji58 + 1) = ji54 := by rw [← hji58]; exact hji54
                have hji54y : (IntKind.i64.wrap (ji58 + 1)) = ji54 := (i64_w _).trans hji54x
                replace H : (if 0 ≤ (ji58) then (if (ji58) ≤ (l0.length : Int) then ((pull_Number.f kj43 (l0.drop ((ji58) : Int).toNat) a1_0 a1_1).bind fun bt124 => (if t122 = 0 then (if bt124.2 = 0 then (if t121 > 0 then (dropperlaw04_PullWider.j3 kj43 t116 (ji58) (decide (bt124.1 > 0))) else (dropperlaw04_PullWider.j3 kj43 t116 (ji58) false)) else (some false)) else (some false))) else (none)) else (none)) = some r := by first | (rw [hji58] at H; exact H) | (simp only [hji58] at H ⊢; exact H)
                (try rw [hji58] at A57)
                by_cases c59 : 0 ≤ (ji58)
                rotate_left
                · rw [if_neg c59] at H
                  exact absurd H (by simp)
                rw [if_pos c59] at H
                have c59b0 := eq_true c59
                have c59b1 : decide (0 ≤ (ji58)) = true := decide_eq_true c59
                clear c59
                by_cases c60 : (ji58) ≤ (l0.length : Int)
                rotate_left
                · rw [if_neg c60] at H
                  exact absurd H (by simp)
                rw [if_pos c60] at H
                have c60b0 := eq_true c60
                have c60b1 : decide ((ji58) ≤ (l0.length : Int)) = true := decide_eq_true c60
                clear c60
                replace H := Option.bind_eq_some_iff.mp H
                obtain ⟨⟨t124, t125⟩, A610, H⟩ := H
                replace H : (if t122 = 0 then (if t125 = 0 then (if t121 > 0 then (dropperlaw04_PullWider.j3 kj43 t116 (ji58) (decide (t124 > 0))) else (dropperlaw04_PullWider.j3 kj43 t116 (ji58) false)) else (some false)) else (some false)) = some r := H
                have A61 := Aside0.mk A610
                clear A610
                by_cases c62 : t122 = 0
                rotate_left
                · rw [if_neg c62] at H
                  have c62b0 : (t122 == 0) = false := beq_eq_false_iff_ne.mpr c62
                  have c62b1 : (t122 != 0) = true := bne_iff_ne.mpr c62
                  (first | rw [c62b0] | (simp only [i64_w, i32_w]; rw [c62b0]) | skip)
                  exact absurd (hT.symm.trans (Option.some.inj H).symm) (by decide)
                rw [if_pos c62] at H
                have c62b0 : (t122 == 0) = true := beq_iff_eq.mpr c62
                have c62b1 : (t122 != 0) = false := bne_eq_false_iff_eq.mpr c62
                clear c62
                (first | rw [c62b0] | (simp only [i64_w, i32_w]; rw [c62b0]) | skip)
                by_cases c63 : t125 = 0
                rotate_left
                · rw [if_neg c63] at H
                  have c63b0 : (t125 == 0) = false := beq_eq_false_iff_ne.mpr c63
                  have c63b1 : (t125 != 0) = true := bne_iff_ne.mpr c63
                  exact absurd (hT.symm.trans (Option.some.inj H).symm) (by decide)
                rw [if_pos c63] at H
                have c63b0 : (t125 == 0) = true := beq_iff_eq.mpr c63
                have c63b1 : (t125 != 0) = false := bne_eq_false_iff_eq.mpr c63
                clear c63
                by_cases c64 : t121 > 0
                rotate_left
                · rw [if_neg c64] at H
                  have c64b0 : decide (0 < t121) = false := decide_eq_false c64
                  clear c64
                  have H' := Aside0.mk H
                  clear H
                  try go_wp2
                  have n0_ := Aside0.mk (Kd.R_drew HO_16.out)
                  have n1_ := Aside0.mk (blk_drew BK101.out)
                  have n2_ := Aside0.mk (blk_drew BK102.out)
                  have n3_ := Aside0.mk (blk_drew BK105.out)
                  have n4_ := Aside0.mk (below_drew1 HB.out)
                  clear HO_16
                  clear BK101
                  clear BK102
                  clear BK105
                  clear HB
                  have HO_16 := n0_
                  have BK101 := n1_
                  have BK102 := n2_
                  have BK105 := n3_
                  have HB := n4_
                  clear n0_ n1_ n2_ n3_ n4_
                  obtain ⟨i072, hi072, _, hsz72, _⟩ := info_parts info3
                  obtain ⟨hcut72, hA72, hC72⟩ := print_takem_of (P := Try.prog) (Value.int .i64) 0 37 3 .i64 Try.underlying37 hi072 hsz72 A0 c0 l0 (ji54) (of_decide_eq_true (by first | (with_reducible assumption) | assumption)) (of_decide_eq_true (by first | (with_reducible assumption) | assumption)) HC0.out
                  have HR120 := Aside0.mk (Kd.C_of_reads (h1 := fun _ => rfl) (hA72 _ (Kd.reads_of_C HR0.out)))
                  have HC120 := Aside0.mk hC72
                  clear hA72 hC72 hi072 hsz72
                  refine start_ (n := 16) (S := fun w' => w'.cell? ⟨gb101, 0, none⟩ = some (.int .i64 a1_0) ∧ w'.cell? ⟨gb101, 1, none⟩ = some (.int .i64 a1_1)) (ds := []) (mkB 16 0) (by kernel_rfl) rfl rfl ⟨(blk_cell BK101.out 0).trans rfl, (blk_cell BK101.out 1).trans rfl⟩ (fun hHeld => ?_); refine with_tabW dropperlaw04_PullWider.tab20 dropperlaw04_PullWider.bits20 (fun HT_ HW_ => ?_)
                  generalize wc.drew = w71 at HO_16 BK101 BK102 BK105 HB HR120 hHeld ⊢
                  refine pr_ 0 (some 143) (mkB 16 1) HT_ ?_
                  refine pr_ 1 (some 144) (mkB 16 3) HT_ ?_
                  refine pr_ 2 (some 145) (mkB 16 7) HT_ ?_
                  refine pr_ 3 (some 146) (mkB 16 15) HT_ ?_
                  refine pr_ 4 (some 147) (mkB 16 31) HT_ ?_
                  refine pr_ 5 (some 148) (mkB 16 63) HT_ ?_
                  refine pr_ 6 (some 149) (mkB 16 127) HT_ ?_
                  refine pr_ 8 (some 151) (mkB 16 383) HT_ ?_
                  refine take_ (i := 7) (N := some 150) (v := ?_) (a' := ?_) (mkB 16 511) rfl rfl (take_ofW HT_.out HW_.out (by kernel_rfl)) (fun _ _ _ h => h) (Or.inl ⟨by rfl, ?_⟩) hHeld ?_ ?_
                  rotate_left
                  · rintro w' ⟨s0, s1⟩
                    go_simp
                    with_reducible rfl
                  rotate_left
                  · simp only [Act.put, List.setIfInBounds_toArray, List.set_cons_zero, List.set_cons_succ, i64_w, i32_w]
                    rfl
                  refine take_ (i := 9) (N := some 152) (v := ?_) (a' := ?_) (mkB 16 1023) rfl rfl (take_ofW HT_.out HW_.out (by kernel_rfl)) (fun _ _ _ h => h) (Or.inl ⟨by rfl, ?_⟩) hHeld ?_ ?_
                  rotate_left
                  · rintro w' ⟨s0, s1⟩
                    go_simp
                    with_reducible rfl
                  rotate_left
                  · simp only [Act.put, List.setIfInBounds_toArray, List.set_cons_zero, List.set_cons_succ, i64_w, i32_w]
                    rfl
                  refine one_ (i := 10) (N := some 153) (mkB 16 2047) rfl rfl (one_of HT_.out (by kernel_rfl)) (by decide) (fun K hK => ?_)
                  refine goes_ Try.func24 (by kernel_rfl) rfl #[.slice A0 (l0.take ((ji54) : Int).toNat).length (ji54).toNat, .int .i64 a1_0, .int .i64 a1_1] (by rfl) rfl rfl (by (try simp only [List.map_toArray, List.map_cons, List.map_nil]); first | done | (rw [show (l0.take ((ji54) : Int).toNat).length = (ji54).toNat from (by rw [List.length_take]; have h_ : ((ji54) : Int) ≤ (l0.length : Int) := of_decide_eq_true (by first | (with_reducible assumption) | assumption); omega)] <;> rfl) | (simp only [hji54]; rfl) | rfl | (simp only [List.length_drop, List.length_take]; rfl)) ?_
                  with_reducible refine (pull_Number.calls kj43 _ _ (l0.take ((ji54) : Int).toNat) a1_0 a1_1 t121 t122 _ ?side1 ?side2 A57.out).mono ?_
                  (case side1 => repeat (first | exact (Kd.C_below HR120.out HB.out) | (with_reducible refine Kd.C_alloc ?_ _) | (with_reducible refine Kd.C_drewN ?_ _) | (with_reducible refine Kd.C_drew ?_)))
                  (case side2 => exact HC120.out)
                  rintro e w73 ⟨rfl, hb⟩
                  refine ⟨_, rfl, ?_⟩
                  have n0_ := Aside0.mk (Kd.R_below (by (with_reducible repeat (first | apply Kd.R_alloc | apply Kd.R_drewN | apply Kd.R_drew)); exact HO_16.out) hb)
                  have n1_ := Aside0.mk (bkB BK101 hb)
                  have n2_ := Aside0.mk (bkB BK102 hb)
                  have n3_ := Aside0.mk (bkB BK105 hb)
                  have n4_ := Aside0.mk (below_step (by repeat (first | (with_reducible first | exact HB.out | apply below_alloc | apply pw_below_drewN | apply below_drew1 | refine below_set ?_ GE101.out | refine below_set ?_ GE102.out | refine below_set ?_ GE105.out) | exact HB.out)) hb)
                  clear HO_16
                  clear BK101
                  clear BK102
                  clear BK105
                  clear HB
                  have HO_16 := n0_
                  have BK101 := n1_
                  have BK102 := n2_
                  have BK105 := n3_
                  have HB := n4_
                  clear n0_ n1_ n2_ n3_ n4_
                  (try clear hb)
                  (try clear hb2)
                  (try clear hk)
                  (try clear hi)
                  refine hK.out _ _ ⟨(blk_cell BK101.out 0).trans rfl, (blk_cell BK101.out 1).trans rfl⟩ (fun hHeld => ?_)
                  clear hK K
                  refine norm_ (a' := ?_) ?_ ?_
                  rotate_left
                  · show Act.put _ (some 153) _ = _
                    simp only [Act.put, List.setIfInBounds_toArray, List.set_cons_zero, List.set_cons_succ, i64_w, i32_w]
                    rfl
                  refine pr_ 11 (some 142) (mkB 16 4095) HT_ ?_
                  refine pr_ 12 (some 154) (mkB 16 8191) HT_ ?_
                  refine pr_ 13 (some 155) (mkB 16 16383) HT_ ?_
                  refine pr_ 14 (some 19) (mkB 16 32767) HT_ ?_
                  refine pr_ 15 (some 20) (mkB 16 65535) HT_ ?_
                  refine done_ (done_of HT_.out (by kernel_rfl)) ?_
                  try go_wp2
                  have n0_ := Aside0.mk (Kd.R_drew HO_16.out)
                  have n1_ := Aside0.mk (blk_drew BK101.out)
                  have n2_ := Aside0.mk (blk_drew BK102.out)
                  have n3_ := Aside0.mk (blk_drew BK105.out)
                  have n4_ := Aside0.mk (below_drew1 HB.out)
                  clear HO_16
                  clear BK101
                  clear BK102
                  clear BK105
                  clear HB
                  have HO_16 := n0_
                  have BK101 := n1_
                  have BK102 := n2_
                  have BK105 := n3_
                  have HB := n4_
                  clear n0_ n1_ n2_ n3_ n4_
                  obtain ⟨i075, hi075, _, hsz75, _⟩ := info_parts info3
                  obtain ⟨A75, hcut75, hA75, hC75⟩ := print_drop_of (P := Try.prog) (Value.int .i64) 0 37 3 .i64 Try.underlying37 hi075 hsz75 A0 c0 l0 (ji58) (of_decide_eq_true (by first | (with_reducible assumption) | assumption)) (of_decide_eq_true (by first | (with_reducible assumption) | assumption)) HC0.out
                  have HR123 := Aside0.mk (Kd.C_of_reads (h1 := fun _ => rfl) (hA75 _ (Kd.reads_of_C HR0.out)))
                  have HC123 := Aside0.mk hC75
                  clear hA75 hC75 hi075 hsz75
                  refine start_ (n := 13) (S := fun w' => w'.cell? ⟨gb101, 0, none⟩ = some (.int .i64 a1_0) ∧ w'.cell? ⟨gb101, 1, none⟩ = some (.int .i64 a1_1)) (ds := []) (mkB 13 0) (by kernel_rfl) rfl rfl ⟨(blk_cell BK101.out 0).trans rfl, (blk_cell BK101.out 1).trans rfl⟩ (fun hHeld => ?_); refine with_tabW dropperlaw04_PullWider.tab21 dropperlaw04_PullWider.bits21 (fun HT_ HW_ => ?_)
                  generalize w73.drew = w74 at HO_16 BK101 BK102 BK105 HB HR123 hHeld ⊢
                  refine pr_ 0 (some 157) (mkB 13 1) HT_ ?_
                  refine pr_ 1 (some 158) (mkB 13 3) HT_ ?_
                  refine pr_ 2 (some 159) (mkB 13 7) HT_ ?_
                  refine pr_ 3 (some 160) (mkB 13 15) HT_ ?_
                  refine pr_ 5 (some 162) (mkB 13 47) HT_ ?_
                  refine take_ (i := 4) (N := some 161) (v := ?_) (a' := ?_) (mkB 13 63) rfl rfl (take_ofW HT_.out HW_.out (by kernel_rfl)) (fun _ _ _ h => h) (Or.inl ⟨by rfl, ?_⟩) hHeld ?_ ?_
                  rotate_left
                  · rintro w' ⟨s0, s1⟩
                    go_simp
                    with_reducible rfl
                  rotate_left
                  · simp only [Act.put, List.setIfInBounds_toArray, List.set_cons_zero, List.set_cons_succ, i64_w, i32_w]
                    rfl
                  refine take_ (i := 6) (N := some 163) (v := ?_) (a' := ?_) (mkB 13 127) rfl rfl (take_ofW HT_.out HW_.out (by kernel_rfl)) (fun _ _ _ h => h) (Or.inl ⟨by rfl, ?_⟩) hHeld ?_ ?_
                  rotate_left
                  · rintro w' ⟨s0, s1⟩
                    go_simp
                    with_reducible rfl
                  rotate_left
                  · simp only [Act.put, List.setIfInBounds_toArray, List.set_cons_zero, List.set_cons_succ, i64_w, i32_w]
                    rfl
                  refine one_ (i := 7) (N := some 164) (mkB 13 255) rfl rfl (one_of HT_.out (by kernel_rfl)) (by decide) (fun K hK => ?_)
                  refine goes_ Try.func24 (by kernel_rfl) rfl #[.slice A75 (l0.drop ((ji58) : Int).toNat).length (c0 - (ji58).toNat), .int .i64 a1_0, .int .i64 a1_1] (by rfl) rfl rfl (by (try simp only [List.map_toArray, List.map_cons, List.map_nil]); first | done | (rw [show (l0.drop ((ji58) : Int).toNat).length = (l0.length - (ji58).toNat) from List.length_drop] <;> rfl) | (simp only [hji58]; rfl) | rfl | (simp only [List.length_drop, List.length_take]; rfl)) ?_
                  with_reducible refine (pull_Number.calls kj43 _ _ (l0.drop ((ji58) : Int).toNat) a1_0 a1_1 t124 t125 _ ?side1 ?side2 A61.out).mono ?_
                  (case side1 => repeat (first | exact (Kd.C_below HR123.out HB.out) | (with_reducible refine Kd.C_alloc ?_ _) | (with_reducible refine Kd.C_drewN ?_ _) | (with_reducible refine Kd.C_drew ?_)))
                  (case side2 => exact HC123.out)
                  rintro e w76 ⟨rfl, hb⟩
                  refine ⟨_, rfl, ?_⟩
                  have n0_ := Aside0.mk (Kd.R_below (by (with_reducible repeat (first | apply Kd.R_alloc | apply Kd.R_drewN | apply Kd.R_drew)); exact HO_16.out) hb)
                  have n1_ := Aside0.mk (bkB BK101 hb)
                  have n2_ := Aside0.mk (bkB BK102 hb)
                  have n3_ := Aside0.mk (bkB BK105 hb)
                  have n4_ := Aside0.mk (below_step (by repeat (first | (with_reducible first | exact HB.out | apply below_alloc | apply pw_below_drewN | apply below_drew1 | refine below_set ?_ GE101.out | refine below_set ?_ GE102.out | refine below_set ?_ GE105.out) | exact HB.out)) hb)
                  clear HO_16
                  clear BK101
                  clear BK102
                  clear BK105
                  clear HB
                  have HO_16 := n0_
                  have BK101 := n1_
                  have BK102 := n2_
                  have BK105 := n3_
                  have HB := n4_
                  clear n0_ n1_ n2_ n3_ n4_
                  (try clear hb)
                  (try clear hb2)
                  (try clear hk)
                  (try clear hi)
                  refine hK.out _ _ ⟨(blk_cell BK101.out 0).trans rfl, (blk_cell BK101.out 1).trans rfl⟩ (fun hHeld => ?_)
                  clear hK K
                  refine norm_ (a' := ?_) ?_ ?_
                  rotate_left
                  · show Act.put _ (some 164) _ = _
                    simp only [Act.put, List.setIfInBounds_toArray, List.set_cons_zero, List.set_cons_succ, i64_w, i32_w]
                    rfl
                  refine pr_ 8 (some 156) (mkB 13 511) HT_ ?_
                  refine pr_ 9 (some 165) (mkB 13 1023) HT_ ?_
                  refine pr_ 10 (some 166) (mkB 13 2047) HT_ ?_
                  refine pr_ 11 (some 21) (mkB 13 4095) HT_ ?_
                  refine pr_ 12 (some 22) (mkB 13 8191) HT_ ?_
                  refine done_ (done_of HT_.out (by kernel_rfl)) ?_
                  try go_wp2
                  go_meet
                  case rel => exact ⟨_, (false), (by first | rfl | (simp; done) | (simp [*]; done)), (by first | exact H' | (rw [hji58]; exact H')), ⟨by have := HK1.out; have := HJ28.out; have := HJ43.out; first | omega | exact Nat.le_refl _⟩, ⟨by (with_reducible repeat (first | apply Kd.R_alloc | apply Kd.R_drewN | apply Kd.R_drew)); exact HO_16.out⟩, ⟨bkU BK101⟩, ⟨bkU BK102⟩, ⟨bkU BK105⟩, ⟨by repeat (first | (with_reducible first | exact HB.out | apply below_alloc | apply pw_below_drewN | apply below_drew1 | refine below_set ?_ GE101.out | refine below_set ?_ GE102.out | refine below_set ?_ GE105.out) | exact HB.out)⟩⟩
                rw [if_pos c64] at H
                have c64b0 : decide (0 < t121) = true := decide_eq_true c64
                clear c64
                have H' := Aside0.mk H
                clear H
                try go_wp2
                have n0_ := Aside0.mk (Kd.R_drew HO_16.out)
                have n1_ := Aside0.mk (blk_drew BK101.out)
                have n2_ := Aside0.mk (blk_drew BK102.out)
                have n3_ := Aside0.mk (blk_drew BK105.out)
                have n4_ := Aside0.mk (below_drew1 HB.out)
                clear HO_16
                clear BK101
                clear BK102
                clear BK105
                clear HB
                have HO_16 := n0_
                have BK101 := n1_
                have BK102 := n2_
                have BK105 := n3_
                have HB := n4_
                clear n0_ n1_ n2_ n3_ n4_
                obtain ⟨i066, hi066, _, hsz66, _⟩ := info_parts info3
                obtain ⟨hcut66, hA66, hC66⟩ := print_takem_of (P := Try.prog) (Value.int .i64) 0 37 3 .i64 Try.underlying37 hi066 hsz66 A0 c0 l0 (ji54) (of_decide_eq_true (by first | (with_reducible assumption) | assumption)) (of_decide_eq_true (by first | (with_reducible assumption) | assumption)) HC0.out
                have HR120 := Aside0.mk (Kd.C_of_reads (h1 := fun _ => rfl) (hA66 _ (Kd.reads_of_C HR0.out)))
                have HC120 := Aside0.mk hC66
                clear hA66 hC66 hi066 hsz66
                refine start_ (n := 16) (S := fun w' => w'.cell? ⟨gb101, 0, none⟩ = some (.int .i64 a1_0) ∧ w'.cell? ⟨gb101, 1, none⟩ = some (.int .i64 a1_1)) (ds := []) (mkB 16 0) (by kernel_rfl) rfl rfl ⟨(blk_cell BK101.out 0).trans rfl, (blk_cell BK101.out 1).trans rfl⟩ (fun hHeld => ?_); refine with_tabW dropperlaw04_PullWider.tab20 dropperlaw04_PullWider.bits20 (fun HT_ HW_ => ?_)
                generalize wc.drew = w65 at HO_16 BK101 BK102 BK105 HB HR120 hHeld ⊢
                refine pr_ 0 (some 143) (mkB 16 1) HT_ ?_
                refine pr_ 1 (some 144) (mkB 16 3) HT_ ?_
                refine pr_ 2 (some 145) (mkB 16 7) HT_ ?_
                refine pr_ 3 (some 146) (mkB 16 15) HT_ ?_
                refine pr_ 4 (some 147) (mkB 16 31) HT_ ?_
                refine pr_ 5 (some 148) (mkB 16 63) HT_ ?_
                refine pr_ 6 (some 149) (mkB 16 127) HT_ ?_
                refine pr_ 8 (some 151) (mkB 16 383) HT_ ?_
                refine take_ (i := 7) (N := some 150) (v := ?_) (a' := ?_) (mkB 16 511) rfl rfl (take_ofW HT_.out HW_.out (by kernel_rfl)) (fun _ _ _ h => h) (Or.inl ⟨by rfl, ?_⟩) hHeld ?_ ?_
                rotate_left
                · rintro w' ⟨s0, s1⟩
                  go_simp
                  with_reducible rfl
                rotate_left
                · simp only [Act.put, List.setIfInBounds_toArray, List.set_cons_zero, List.set_cons_succ, i64_w, i32_w]
                  rfl
                refine take_ (i := 9) (N := some 152) (v := ?_) (a' := ?_) (mkB 16 1023) rfl rfl (take_ofW HT_.out HW_.out (by kernel_rfl)) (fun _ _ _ h => h) (Or.inl ⟨by rfl, ?_⟩) hHeld ?_ ?_
                rotate_left
                · rintro w' ⟨s0, s1⟩
                  go_simp
                  with_reducible rfl
                rotate_left
                · simp only [Act.put, List.setIfInBounds_toArray, List.set_cons_zero, List.set_cons_succ, i64_w, i32_w]
                  rfl
                refine one_ (i := 10) (N := some 153) (mkB 16 2047) rfl rfl (one_of HT_.out (by kernel_rfl)) (by decide) (fun K hK => ?_)
                refine goes_ Try.func24 (by kernel_rfl) rfl #[.slice A0 (l0.take ((ji54) : Int).toNat).length (ji54).toNat, .int .i64 a1_0, .int .i64 a1_1] (by rfl) rfl rfl (by (try simp only [List.map_toArray, List.map_cons, List.map_nil]); first | done | (rw [show (l0.take ((ji54) : Int).toNat).length = (ji54).toNat from (by rw [List.length_take]; have h_ : ((ji54) : Int) ≤ (l0.length : Int) := of_decide_eq_true (by first | (with_reducible assumption) | assumption); omega)] <;> rfl) | (simp only [hji54]; rfl) | rfl | (simp only [List.length_drop, List.length_take]; rfl)) ?_
                with_reducible refine (pull_Number.calls kj43 _ _ (l0.take ((ji54) : Int).toNat) a1_0 a1_1 t121 t122 _ ?side1 ?side2 A57.out).mono ?_
                (case side1 => repeat (first | exact (Kd.C_below HR120.out HB.out) | (with_reducible refine Kd.C_alloc ?_ _) | (with_reducible refine Kd.C_drewN ?_ _) | (with_reducible refine Kd.C_drew ?_)))
                (case side2 => exact HC120.out)
                rintro e w67 ⟨rfl, hb⟩
                refine ⟨_, rfl, ?_⟩
                have n0_ := Aside0.mk (Kd.R_below (by (with_reducible repeat (first | apply Kd.R_alloc | apply Kd.R_drewN | apply Kd.R_drew)); exact HO_16.out) hb)
                have n1_ := Aside0.mk (bkB BK101 hb)
                have n2_ := Aside0.mk (bkB BK102 hb)
                have n3_ := Aside0.mk (bkB BK105 hb)
                have n4_ := Aside0.mk (below_step (by repeat (first | (with_reducible first | exact HB.out | apply below_alloc | apply pw_below_drewN | apply below_drew1 | refine below_set ?_ GE101.out | refine below_set ?_ GE102.out | refine below_set ?_ GE105.out) | exact HB.out)) hb)
                clear HO_16
                clear BK101
                clear BK102
                clear BK105
                clear HB
                have HO_16 := n0_
                have BK101 := n1_
                have BK102 := n2_
                have BK105 := n3_
                have HB := n4_
                clear n0_ n1_ n2_ n3_ n4_
                (try clear hb)
                (try clear hb2)
                (try clear hk)
                (try clear hi)
                refine hK.out _ _ ⟨(blk_cell BK101.out 0).trans rfl, (blk_cell BK101.out 1).trans rfl⟩ (fun hHeld => ?_)
                clear hK K
                refine norm_ (a' := ?_) ?_ ?_
                rotate_left
                · show Act.put _ (some 153) _ = _
                  simp only [Act.put, List.setIfInBounds_toArray, List.set_cons_zero, List.set_cons_succ, i64_w, i32_w]
                  rfl
                refine pr_ 11 (some 142) (mkB 16 4095) HT_ ?_
                refine pr_ 12 (some 154) (mkB 16 8191) HT_ ?_
                refine pr_ 13 (some 155) (mkB 16 16383) HT_ ?_
                refine pr_ 14 (some 19) (mkB 16 32767) HT_ ?_
                refine pr_ 15 (some 20) (mkB 16 65535) HT_ ?_
                refine done_ (done_of HT_.out (by kernel_rfl)) ?_
                try go_wp2
                have n0_ := Aside0.mk (Kd.R_drew HO_16.out)
                have n1_ := Aside0.mk (blk_drew BK101.out)
                have n2_ := Aside0.mk (blk_drew BK102.out)
                have n3_ := Aside0.mk (blk_drew BK105.out)
                have n4_ := Aside0.mk (below_drew1 HB.out)
                clear HO_16
                clear BK101
                clear BK102
                clear BK105
                clear HB
                have HO_16 := n0_
                have BK101 := n1_
                have BK102 := n2_
                have BK105 := n3_
                have HB := n4_
                clear n0_ n1_ n2_ n3_ n4_
                obtain ⟨i069, hi069, _, hsz69, _⟩ := info_parts info3
                obtain ⟨A69, hcut69, hA69, hC69⟩ := print_drop_of (P := Try.prog) (Value.int .i64) 0 37 3 .i64 Try.underlying37 hi069 hsz69 A0 c0 l0 (ji58) (of_decide_eq_true (by first | (with_reducible assumption) | assumption)) (of_decide_eq_true (by first | (with_reducible assumption) | assumption)) HC0.out
                have HR123 := Aside0.mk (Kd.C_of_reads (h1 := fun _ => rfl) (hA69 _ (Kd.reads_of_C HR0.out)))
                have HC123 := Aside0.mk hC69
                clear hA69 hC69 hi069 hsz69
                refine start_ (n := 13) (S := fun w' => w'.cell? ⟨gb101, 0, none⟩ = some (.int .i64 a1_0) ∧ w'.cell? ⟨gb101, 1, none⟩ = some (.int .i64 a1_1)) (ds := []) (mkB 13 0) (by kernel_rfl) rfl rfl ⟨(blk_cell BK101.out 0).trans rfl, (blk_cell BK101.out 1).trans rfl⟩ (fun hHeld => ?_); refine with_tabW dropperlaw04_PullWider.tab21 dropperlaw04_PullWider.bits21 (fun HT_ HW_ => ?_)
                generalize w67.drew = w68 at HO_16 BK101 BK102 BK105 HB HR123 hHeld ⊢
                refine pr_ 0 (some 157) (mkB 13 1) HT_ ?_
                refine pr_ 1 (some 158) (mkB 13 3) HT_ ?_
                refine pr_ 2 (some 159) (mkB 13 7) HT_ ?_
                refine pr_ 3 (some 160) (mkB 13 15) HT_ ?_
                refine pr_ 5 (some 162) (mkB 13 47) HT_ ?_
                refine take_ (i := 4) (N := some 161) (v := ?_) (a' := ?_) (mkB 13 63) rfl rfl (take_ofW HT_.out HW_.out (by kernel_rfl)) (fun _ _ _ h => h) (Or.inl ⟨by rfl, ?_⟩) hHeld ?_ ?_
                rotate_left
                · rintro w' ⟨s0, s1⟩
                  go_simp
                  with_reducible rfl
                rotate_left
                · simp only [Act.put, List.setIfInBounds_toArray, List.set_cons_zero, List.set_cons_succ, i64_w, i32_w]
                  rfl
                refine take_ (i := 6) (N := some 163) (v := ?_) (a' := ?_) (mkB 13 127) rfl rfl (take_ofW HT_.out HW_.out (by kernel_rfl)) (fun _ _ _ h => h) (Or.inl ⟨by rfl, ?_⟩) hHeld ?_ ?_
                rotate_left
                · rintro w' ⟨s0, s1⟩
                  go_simp
                  with_reducible rfl
                rotate_left
                · simp only [Act.put, List.setIfInBounds_toArray, List.set_cons_zero, List.set_cons_succ, i64_w, i32_w]
                  rfl
                refine one_ (i := 7) (N := some 164) (mkB 13 255) rfl rfl (one_of HT_.out (by kernel_rfl)) (by decide) (fun K hK => ?_)
                refine goes_ Try.func24 (by kernel_rfl) rfl #[.slice A69 (l0.drop ((ji58) : Int).toNat).length (c0 - (ji58).toNat), .int .i64 a1_0, .int .i64 a1_1] (by rfl) rfl rfl (by (try simp only [List.map_toArray, List.map_cons, List.map_nil]); first | done | (rw [show (l0.drop ((ji58) : Int).toNat).length = (l0.length - (ji58).toNat) from List.length_drop] <;> rfl) | (simp only [hji58]; rfl) | rfl | (simp only [List.length_drop, List.length_take]; rfl)) ?_
                with_reducible refine (pull_Number.calls kj43 _ _ (l0.drop ((ji58) : Int).toNat) a1_0 a1_1 t124 t125 _ ?side1 ?side2 A61.out).mono ?_
                (case side1 => repeat (first | exact (Kd.C_below HR123.out HB.out) | (with_reducible refine Kd.C_alloc ?_ _) | (with_reducible refine Kd.C_drewN ?_ _) | (with_reducible refine Kd.C_drew ?_)))
                (case side2 => exact HC123.out)
                rintro e w70 ⟨rfl, hb⟩
                refine ⟨_, rfl, ?_⟩
                have n0_ := Aside0.mk (Kd.R_below (by (with_reducible repeat (first | apply Kd.R_alloc | apply Kd.R_drewN | apply Kd.R_drew)); exact HO_16.out) hb)
                have n1_ := Aside0.mk (bkB BK101 hb)
                have n2_ := Aside0.mk (bkB BK102 hb)
                have n3_ := Aside0.mk (bkB BK105 hb)
                have n4_ := Aside0.mk (below_step (by repeat (first | (with_reducible first | exact HB.out | apply below_alloc | apply pw_below_drewN | apply below_drew1 | refine below_set ?_ GE101.out | refine below_set ?_ GE102.out | refine below_set ?_ GE105.out) | exact HB.out)) hb)
                clear HO_16
                clear BK101
                clear BK102
                clear BK105
                clear HB
                have HO_16 := n0_
                have BK101 := n1_
                have BK102 := n2_
                have BK105 := n3_
                have HB := n4_
                clear n0_ n1_ n2_ n3_ n4_
                (try clear hb)
                (try clear hb2)
                (try clear hk)
                (try clear hi)
                refine hK.out _ _ ⟨(blk_cell BK101.out 0).trans rfl, (blk_cell BK101.out 1).trans rfl⟩ (fun hHeld => ?_)
                clear hK K
                refine norm_ (a' := ?_) ?_ ?_
                rotate_left
                · show Act.put _ (some 164) _ = _
                  simp only [Act.put, List.setIfInBounds_toArray, List.set_cons_zero, List.set_cons_succ, i64_w, i32_w]
                  rfl
                refine pr_ 8 (some 156) (mkB 13 511) HT_ ?_
                refine pr_ 9 (some 165) (mkB 13 1023) HT_ ?_
                refine pr_ 10 (some 166) (mkB 13 2047) HT_ ?_
                refine pr_ 11 (some 21) (mkB 13 4095) HT_ ?_
                refine pr_ 12 (some 22) (mkB 13 8191) HT_ ?_
                refine done_ (done_of HT_.out (by kernel_rfl)) ?_
                try go_wp2
                go_meet
                case rel => exact ⟨_, (decide (t124 > 0)), (by first | rfl | (simp; done) | (simp [*]; done)), (by first | exact H' | (rw [hji58]; exact H')), ⟨by have := HK1.out; have := HJ28.out; have := HJ43.out; first | omega | exact Nat.le_refl _⟩, ⟨by (with_reducible repeat (first | apply Kd.R_alloc | apply Kd.R_drewN | apply Kd.R_drew)); exact HO_16.out⟩, ⟨bkU BK101⟩, ⟨bkU BK102⟩, ⟨bkU BK105⟩, ⟨by repeat (first | (with_reducible first | exact HB.out | apply below_alloc | apply pw_below_drewN | apply below_drew1 | refine below_set ?_ GE101.out | refine below_set ?_ GE102.out | refine below_set ?_ GE105.out) | exact HB.out)⟩⟩
              case rest =>
                clear HC52
                try clear c2
                try clear p2
                try clear c5
                try clear c6
                try clear p6
                try clear c24
                try clear c53
                try clear c55
                try clear c56
                try clear c59
                try clear c60
                try clear c62
                try clear c62b0
                try clear c62b1
                try clear c63
                try clear c63b0
                try clear c63b1
                try clear c64
                try clear c64b0
                try clear p64
                obtain ⟨kq, x18_51, rfl, HA, HJ51, HO_16, BK101, BK102, BK105, HB⟩ := hcut
                cases kq with
                | zero => exact absurd HA.out (by simp [dropperlaw04_PullWider.j3])
                | succ kj51 =>
                  have H := HA.out
                  clear HA
                  simp only [dropperlaw04_PullWider.j3] at H
                  have H' := Aside0.mk H
                  clear H
                  go_wp2
                  go_loopg [23, 24] kj51 (fun kq v23 v24 w' => ∃ (x23_5 : Bool) (x24_5 : Int), v23 = .bool x23_5 ∧ v24 = .int .i64 x24_5 ∧ Aside0 (dropperlaw04_PullWider.l1 kq t116 (Int.tmod (wrap64 (a2_2)) (l0.length : Int)) x18_51 x23_5 x24_5 = some r) ∧ Aside0 (kq ≤ kj51) ∧ Aside0 (Kd.R (Kd.int .i64) 3 w' w.heap.size (fun _ => True) v118 t116) ∧ Aside0 (w'.heap[gb101]? = some (.cells #[.int .i64 a1_0, .int .i64 a1_1] 39 (0, 0))) ∧ Aside0 (w'.heap[gb102]? = some (.cells #[.int .u16 a2_0, .int .u16 a2_1, .int .u16 a2_2] 46 (0, 0))) ∧ Aside0 (w'.heap[gb105]? = some (.cells #[.int .i64 ji6, .int .i64 ji7] 39 (0, 0))) ∧ Aside0 (Below w.heap.size w w'))
                  case atStart => exact ⟨(false), (0), (by first | rfl | (simp; done) | (simp [*]; done)), (by first | rfl | (simp; done) | (simp [*]; done)), H', ⟨Nat.le_refl _⟩, ⟨by (with_reducible repeat (first | apply Kd.R_alloc | apply Kd.R_drewN | apply Kd.R_drew)); exact HO_16.out⟩, ⟨bkU BK101⟩, ⟨bkU BK102⟩, ⟨bkU BK105⟩, ⟨by repeat (first | (with_reducible first | exact HB.out | apply below_alloc | apply pw_below_drewN | apply below_drew1 | refine below_set ?_ GE101.out | refine below_set ?_ GE102.out | refine below_set ?_ GE105.out) | exact HB.out)⟩⟩
                  case round =>
                    clear H'
                    try clear c2
                    try clear p2
                    try clear c5
                    try clear c6
                    try clear p6
                    try clear c24
                    try clear c53
                    try clear c55
                    try clear c56
                    try clear c59
                    try clear c60
                    try clear c62
                    try clear c62b0
                    try clear c62b1
                    try clear c63
                    try clear c63b0
                    try clear c63b1
                    try clear c64
                    try clear c64b0
                    try clear p64
                    try clear p2
                    try clear p6
                    try clear p64
                    obtain ⟨x23_5, x24_5, rfl, rfl, HA, HK5, HO_16, BK101, BK102, BK105, HB⟩ := hrel
                    cases gk with
                    | zero => exact absurd HA.out (by simp [dropperlaw04_PullWider.l1])
                    | succ k5 =>
                      have H := HA.out
                      clear HA
                      simp only [dropperlaw04_PullWider.l1] at H
                      by_cases c77 : x24_5 < (t116.length : Int)
                      rotate_left
                      · rw [if_neg c77] at H
                        have c77b0 : decide (x24_5 < (t116.length : Int)) = false := decide_eq_false c77
                        clear c77
                        by_cases c82 : (x23_5 == x18_51) = true
                        rotate_left
                        · rw [if_neg c82] at H
                          have c82b0 : (x23_5 == x18_51) = false := by simpa using c82
                          (try (have c82b1 : decide (x23_5 = x18_51) = false := by simpa using c82))
                          (try (have c82b2 : (x23_5 == x18_51) = false := by simpa using c82))
                          (try (have c82b3 : ¬ (x23_5 = x18_51) := by simpa using c82))
                          clear c82
                          exact absurd (hT.symm.trans (Option.some.inj H).symm) (by decide)
                        rw [if_pos c82] at H
                        have c82b0 : (x23_5 == x18_51) = true := c82
                        (try (have c82b1 : decide (x23_5 = x18_51) = true := by simpa using c82))
                        (try (have c82b2 : (x23_5 == x18_51) = true := by simpa using c82))
                        clear c82
                        replace H := Option.bind_eq_some_iff.mp H
                        obtain ⟨t127, A830, H⟩ := H
                        replace H : (some t127) = some r := H
                        have A83 := Aside0.mk A830
                        clear A830
                        clear hT
                        obtain rfl := Option.some.inj H
                        obtain ⟨Ao84, co84, eo84⟩ := Kd.R_slice HO_16.out
                        subst eo84
                        go_wp2_with (first | (go_at_call 18; (with_reducible refine (dropperlaw04_Awake.calls k5  t127 _ A83.out).mono ?_); rintro e w85 ⟨rfl, hb⟩; have n0_ := Aside0.mk (Kd.R_below (by (with_reducible repeat (first | apply Kd.R_alloc | apply Kd.R_drewN | apply Kd.R_drew)); exact HO_16.out) hb); have n1_ := Aside0.mk (bkB BK101 hb); have n2_ := Aside0.mk (bkB BK102 hb); have n3_ := Aside0.mk (bkB BK105 hb); have n4_ := Aside0.mk (below_step (by repeat (first | (with_reducible first | exact HB.out | apply below_alloc | apply pw_below_drewN | apply below_drew1 | refine below_set ?_ GE101.out | refine below_set ?_ GE102.out | refine below_set ?_ GE105.out) | exact HB.out)) hb); clear HO_16; clear BK101; clear BK102; clear BK105; clear HB; have HO_16 := n0_; have BK101 := n1_; have BK102 := n2_; have BK105 := n3_; have HB := n4_; clear n0_ n1_ n2_ n3_ n4_; (try clear hb); (try clear hb2); (try clear hk); (try clear hi)))
                        go_ret
                        exact ⟨by first | rfl | (simp [errW_none, errW_some] <;> rfl) | (simp only [← hji6, ← hji7]; first | rfl | (simp [errW_none, errW_some] <;> rfl)) | (simp [*, errW_none, errW_some] <;> rfl), by repeat (first | (with_reducible first | exact HB.out | apply below_alloc | apply pw_below_drewN | apply below_drew1 | refine below_set ?_ GE101.out | refine below_set ?_ GE102.out | refine below_set ?_ GE105.out) | exact HB.out)⟩
                      rw [if_pos c77] at H
                      have c77b0 : decide (x24_5 < (t116.length : Int)) = true := decide_eq_true c77
                      clear c77
                      by_cases c78 : x23_5 = true
                      · subst c78
                        have H1 : (dropperlaw04_PullWider.l1 k5 t116 (Int.tmod (wrap64 (a2_2)) (l0.length : Int)) x18_51 true (wrap64 (x24_5 + 1))) = some r := by rw [if_pos rfl] at H; exact H
                        clear H
                        have H := H1
                        clear H1
                        have H' := Aside0.mk H
                        clear H
                        obtain ⟨Ao79, co79, eo79⟩ := Kd.R_slice HO_16.out
                        subst eo79
                        go_wp2
                        go_roundg k5
                        case measure => have := HK1.out; have := HJ28.out; have := HJ43.out; have := HJ51.out; have := HK5.out; omega
                        case rel => exact ⟨(true), (wrap64 (x24_5 + 1)), (by first | rfl | (simp; done) | (simp [*]; done)), (by first | rfl | (simp; done) | (simp [*]; done)), (by first | exact H' | (rw [hji58]; exact H')), ⟨by have := HK1.out; have := HJ28.out; have := HJ43.out; have := HJ51.out; have := HK5.out; omega⟩, ⟨by (with_reducible repeat (first | apply Kd.R_alloc | apply Kd.R_drewN | apply Kd.R_drew)); exact HO_16.out⟩, ⟨bkU BK101⟩, ⟨bkU BK102⟩, ⟨bkU BK105⟩, ⟨by repeat (first | (with_reducible first | exact HB.out | apply below_alloc | apply pw_below_drewN | apply below_drew1 | refine below_set ?_ GE101.out | refine below_set ?_ GE102.out | refine below_set ?_ GE105.out) | exact HB.out)⟩⟩
                      replace c78 := Bool.eq_false_iff.mpr c78
                      subst c78
                      have H1 : (if 0 ≤ x24_5 then (dropperlaw04_PullWider.l1 k5 t116 (Int.tmod (wrap64 (a2_2)) (l0.length : Int)) x18_51 ((rd t116 x24_5) == (Int.tmod (wrap64 (a2_2)) (l0.length : Int))) (wrap64 (x24_5 + 1))) else (none)) = some r := by rw [if_neg (show ¬ (false = true) by decide)] at H; exact H
                      clear H
                      have H := H1
                      clear H1
                      by_cases c80 : 0 ≤ x24_5
                      rotate_left
                      · rw [if_neg c80] at H
                        exact absurd H (by simp)
                      rw [if_pos c80] at H
                      have c80b0 : decide (0 ≤ x24_5) = true := decide_eq_true c80
                      clear c80
                      have H' := Aside0.mk H
                      clear H
                      obtain ⟨Ao81, co81, eo81⟩ := Kd.R_slice HO_16.out
                      subst eo81
                      have p126 : 0 ≤ (x24_5 : Int) := of_decide_eq_true (by first | (with_reducible assumption) | assumption)
                      have q126 : x24_5 < (t116.length : Int) := of_decide_eq_true (by first | (with_reducible assumption) | assumption)
                      obtain ⟨ad126, e126, hx126_0⟩ := Kd.at_int (Kd.R_reads' HO_16.out).2.2 x24_5 p126 q126
                      cases e126
                      replace p126 := eq_true p126
                      replace q126 := eq_true q126
                      go_wp2
                      go_roundg k5
                      case measure => have := HK1.out; have := HJ28.out; have := HJ43.out; have := HJ51.out; have := HK5.out; omega
                      case rel => exact ⟨(((rd t116 x24_5) == (Int.tmod (wrap64 (a2_2)) (l0.length : Int)))), (wrap64 (x24_5 + 1)), (by first | rfl | (simp; done) | (simp [*]; done)), (by first | rfl | (simp; done) | (simp [*]; done)), (by first | exact H' | (rw [hji58]; exact H')), ⟨by have := HK1.out; have := HJ28.out; have := HJ43.out; have := HJ51.out; have := HK5.out; omega⟩, ⟨by (with_reducible repeat (first | apply Kd.R_alloc | apply Kd.R_drewN | apply Kd.R_drew)); exact HO_16.out⟩, ⟨bkU BK101⟩, ⟨bkU BK102⟩, ⟨bkU BK105⟩, ⟨by repeat (first | (with_reducible first | exact HB.out | apply below_alloc | apply pw_below_drewN | apply below_drew1 | refine below_set ?_ GE101.out | refine below_set ?_ GE102.out | refine below_set ?_ GE105.out) | exact HB.out)⟩⟩
end Go.Proofs.Ytiebfmenkpodeaa.G
