-- Written by this session's driver (wip/tools/printmore.py) over the kit's print, with hand-written parts.
import Derived.Test.YtiebfmenkpodeaaGBase
import Derived.Test.YtiebfmenkpodeaaGF58
import Derived.Test.YtiebfmenkpodeaaGF75
import Derived.Test.YtiebfmenkpodeaaGF77
namespace Go.Proofs.Ytiebfmenkpodeaa.G
open Go.RowKit Go.Proofs.YtiebfmenkpodeaaW.PrintWords Go.Proofs.YtiebfmenkpodeaaW.PrintLast Go.Proofs.YtiebfmenkpodeaaW.PrintMore
attribute [local go_sem] max2_int min2_int max_two min_two max_three min_three max_four min_four   -- for this text's walks alone
set_option linter.unusedVariables false
set_option linter.unusedSimpArgs false

/-! ### pull_layout_isPlan: function 74 -/
def pull_layout_isPlan.l0 : Nat → List Int → Int → Int → List Int → Int → Int → Option (Bool × Int × Int)
  | 0, _, _, _, _, _, _ => none
  | k + 1, x1, x17, x18, x1000, x1001, x1002 => if x18 < x17 then (if 0 ≤ x18 then (if x18 < (x1.length : Int) then (if 0 ≤ (wrap64 (x18 + 1)) then (if (wrap64 (x18 + 1)) < (x1.length : Int) then ((pull_layout_length.f x1000 x1001 x1002 (rd x1 x18) (rd x1 (wrap64 (x18 + 1)))).bind fun bt105 => (if bt105.2.1 = true then (pull_layout_isPlan.l0 k x1 x17 (wrap64 (x18 + 1)) x1000 bt105.2.2.1 bt105.2.2.2) else (some (false, bt105.2.2.1, bt105.2.2.2)))) else (none)) else (none)) else (none)) else (none)) else (some (true, x1001, x1002))
def pull_layout_isPlan.f (k : Nat) (s0_0 : List Int) (s0_1 : Int) (s0_2 : Int) (l1 : List Int) : Option (Bool × Int × Int) := (pull_ascends.f k s0_0 l1).bind fun t101 => (if t101 = true then (if 1 ≤ (l1.length : Int) then (pull_layout_isPlan.l0 k l1 ((l1.drop 1).length : Int) 0 s0_0 s0_1 s0_2) else (none)) else (some (false, s0_1, s0_2)))
theorem pull_layout_isPlan.mono_l : ∀ k, (∀ y0 y1 y2 y3 y4 y5, LeO (pull_layout_isPlan.l0 k y0 y1 y2 y3 y4 y5) (pull_layout_isPlan.l0 (k + 1) y0 y1 y2 y3 y4 y5))
  | 0 => fun _ _ _ _ _ _ r h => by simp [pull_layout_isPlan.l0] at h
  | k + 1 => by
    have ih0 := pull_layout_isPlan.mono_l k
    · intro y0 y1 y2 y3 y4 y5
      unfold pull_layout_isPlan.l0
      repeat' first
      | (with_reducible exact ih0 _ _ _ _ _ _)
      | (with_reducible exact pull_ascends.mono _ _ _)
      | (with_reducible exact LeO.refl _)
      | (with_reducible exact LeO.none _)
      | (with_reducible refine LeO.ite ?_ ?_)
      | (with_reducible refine LeO.bind ?_ (fun _ => ?_))
      | exact ih0 _ _ _ _ _ _
      | exact pull_ascends.mono _ _ _
      | exact LeO.none _
      | refine LeO.ite ?_ ?_
      | refine LeO.bind ?_ (fun _ => ?_)
theorem pull_layout_isPlan.mono : ∀ a0 a1 a2 a3 k, LeO (pull_layout_isPlan.f k a0 a1 a2 a3) (pull_layout_isPlan.f (k + 1) a0 a1 a2 a3) := by
  intro a0 a1 a2 a3 k
  have ih0 := pull_layout_isPlan.mono_l k
  unfold pull_layout_isPlan.f
  repeat' first
      | (with_reducible exact ih0 _ _ _ _ _ _)
      | (with_reducible exact pull_ascends.mono _ _ _)
      | (with_reducible exact LeO.refl _)
      | (with_reducible exact LeO.none _)
      | (with_reducible refine LeO.ite ?_ ?_)
      | (with_reducible refine LeO.bind ?_ (fun _ => ?_))
      | exact ih0 _ _ _ _ _ _
      | exact pull_ascends.mono _ _ _
      | exact LeO.none _
      | refine LeO.ite ?_ ?_
      | refine LeO.bind ?_ (fun _ => ?_)
def pull_layout_isPlan.T6 : Bool × List (List Nat × List Nat) := (true, [([], []), ([], []), ([], []), ([1, 2], [1, 2]), ([3], [3]), ([], []), ([], []), ([6], [6]), ([5, 7], [5, 7]), ([8], [8]), ([0, 4, 9], [0, 4, 9]), ([10], [10]), ([11], [11]), ([11], [11]), ([12, 10, 0, 1, 2, 3, 4, 5, 6, 7, 8, 9, 10, 11, 12], [12]), ([13, 14, 0, 1, 2, 3, 4, 5, 6, 7, 8, 9, 10, 11, 12, 13, 14], [13])])
def pull_layout_isPlan.B6 : List Nat := [0, 0, 0, 6, 14, 0, 0, 64, 224, 480, 1023, 2047, 4095, 4095, 8191, 32767]
theorem pull_layout_isPlan.tab6 : rtab .any (opsOf Try.f74 6) = pull_layout_isPlan.T6 := by kernel_rfl
theorem pull_layout_isPlan.bits6 : waitsOk pull_layout_isPlan.T6.2 pull_layout_isPlan.B6 = true := by kernel_rfl
set_option maxHeartbeats 8000000 in
set_option maxRecDepth 100000 in
theorem pull_layout_isPlan.calls (k : Nat) (g : Nat) (s0_0 : List Int) (s0_1 : Int) (s0_2 : Int) (A1 : Option Addr) (c1 : Nat) (l1 : List Int) (r1 : Bool) (r2 : Int) (r3 : Int) (w0 w : World) (hI : IsS84 w0 w g s0_0 s0_1 s0_2) (hB : Below w0.heap.size w0 w) (hr1 : Kd.C (Kd.int .i64) w A1 l1.length l1) (hc1 : l1.length ≤ c1) (hf1 : ∀ ad, A1 = some ad → 0 < l1.length → ad.block ≠ g) (h : pull_layout_isPlan.f k s0_0 s0_1 s0_2 l1 = some (r1, r2, r3)) :
    Calls Try.prog 74 #[.pointer (some ⟨g, 0, none⟩), .slice A1 l1.length c1] w fun e w' => e = .returned (.bool r1) ∧ IsS84 w0 w' g s0_0 r2 r3 ∧ Below w0.heap.size w0 w' ∧ KeepBut w w' g none := by
  have HR1 := Aside0.mk hr1
  have HC1 := Aside0.mk hc1
  clear hr1 hc1
  have HI0 := Aside0.mk hI
  have HK := Aside0.mk (KeepBut.refl w g none)
  have HL := Aside0.mk hB.size
  clear hI
  have HW0 := Aside0.mk hB.size
  have HB := Aside0.mk hB
  clear hB
  have H : ((pull_ascends.f k s0_0 l1).bind fun t101 => (if t101 = true then (if 1 ≤ (l1.length : Int) then (pull_layout_isPlan.l0 k l1 ((l1.drop 1).length : Int) 0 s0_0 s0_1 s0_2) else (none)) else (some (false, s0_1, s0_2)))) = some (r1, r2, r3) := h
  clear h
  replace H := Option.bind_eq_some_iff.mp H
  obtain ⟨t101, A30, H⟩ := H
  replace H : (if t101 = true then (if 1 ≤ (l1.length : Int) then (pull_layout_isPlan.l0 k l1 ((l1.drop 1).length : Int) 0 s0_0 s0_1 s0_2) else (none)) else (some (false, s0_1, s0_2))) = some (r1, r2, r3) := H
  have A3 := Aside0.mk A30
  clear A30
  by_cases c4 : t101 = true
  rotate_left
  · replace c4 := Bool.eq_false_iff.mpr c4
    subst c4
    have H1 : (some (false, s0_1, s0_2)) = some (r1, r2, r3) := by rw [if_neg (show ¬ (false = true) by decide)] at H; exact H
    clear H
    have H := H1
    clear H1
    simp only [Option.some.injEq, Prod.mk.injEq] at H
    obtain ⟨rfl, rfl, rfl⟩ := H
    obtain ⟨ASz20_0, cSz20_0, HGz20, hgz20, ⟨HSz20_0, HSLz20_0⟩⟩ := HI0.out
    have hcz20_0 := cellS84_0 HGz20
    have hcz20_1 := cellS84_1 HGz20
    have hcz20_2 := cellS84_2 HGz20
    have hfz20_1 := blk_frozen HGz20 1
    have hfz20_2 := blk_frozen HGz20 2
    clear HGz20 hgz20
    go_enter Try.func74, Try.ntmps74
    go_wp2_with (first | ((with_reducible refine gate_callee (f := 77) rfl ?_); refine goesL_ (some 13) rfl rfl Try.func77 (by kernel_rfl) rfl #[.slice ASz20_0 s0_0.length cSz20_0, .slice A1 l1.length c1] rfl (by (try simp only [List.map_toArray, List.map_cons, List.map_nil]); first | done | rfl | (simp only [List.length_drop, List.length_take]; rfl)) ?_; (with_reducible refine (pull_ascends.calls k _ _ s0_0 _ _ l1 false _ ?side1 ?side2 ?side3 ?side4 A3.out).mono ?_); (case side1 => exact Kd.C_below HSz20_0 (by repeat (first | (with_reducible first | exact HB.out | apply below_alloc | apply pw_below_drewN | apply below_drew1 | refine below_set ?_ (IsS84.ge HI0.out)) | exact HB.out))); (case side2 => exact HSLz20_0); (case side3 => exact Kd.C_keep 0 HR1.out (by repeat (first | (with_reducible first | exact HK.out | apply KeepBut.set_ | apply keep_drewN | apply keep_drew | apply keep_alloc) | exact HK.out)) hf1); (case side4 => exact HC1.out); rintro e w' ⟨rfl, ⟨nd, rfl⟩⟩; refine ⟨_, rfl, ?_⟩))
    go_ret
    exact ⟨by first | rfl | (simp [errW_none, errW_some] <;> rfl) | (simp [*, errW_none, errW_some] <;> rfl), by repeat (first | (with_reducible first | exact HI0.out | apply IsS84.alloc | apply IsS84.drewN | apply IsS84.drew | apply IsS84.set_1 | apply IsS84.set_2) | exact HI0.out), by repeat (first | (with_reducible first | exact HB.out | apply below_alloc | apply pw_below_drewN | apply below_drew1 | refine below_set ?_ (IsS84.ge HI0.out)) | exact HB.out), by repeat (first | (with_reducible first | exact HK.out | apply KeepBut.set_ | apply keep_drewN | apply keep_drew | apply keep_alloc) | exact HK.out)⟩

  subst c4
  have H1 : (if 1 ≤ (l1.length : Int) then (pull_layout_isPlan.l0 k l1 ((l1.drop 1).length : Int) 0 s0_0 s0_1 s0_2) else (none)) = some (r1, r2, r3) := by rw [if_pos rfl] at H; exact H
  clear H
  have H := H1
  clear H1
  by_cases c5 : 1 ≤ (l1.length : Int)
  rotate_left
  · rw [if_neg c5] at H
    exact absurd H (by simp)
  rw [if_pos c5] at H
  have c5b0 := eq_true c5
  have c5b1 : decide (1 ≤ (l1.length : Int)) = true := decide_eq_true c5
  clear c5
  have H' := Aside0.mk H
  clear H
  obtain ⟨ASz6_0, cSz6_0, HGz6, hgz6, ⟨HSz6_0, HSLz6_0⟩⟩ := HI0.out
  have hcz6_0 := cellS84_0 HGz6
  have hcz6_1 := cellS84_1 HGz6
  have hcz6_2 := cellS84_2 HGz6
  have hfz6_1 := blk_frozen HGz6 1
  have hfz6_2 := blk_frozen HGz6 2
  clear HGz6 hgz6
  go_enter Try.func74, Try.ntmps74
  go_wp2_with (first | ((with_reducible refine gate_callee (f := 77) rfl ?_); refine goesL_ (some 13) rfl rfl Try.func77 (by kernel_rfl) rfl #[.slice ASz6_0 s0_0.length cSz6_0, .slice A1 l1.length c1] rfl (by (try simp only [List.map_toArray, List.map_cons, List.map_nil]); first | done | rfl | (simp only [List.length_drop, List.length_take]; rfl)) ?_; (with_reducible refine (pull_ascends.calls k _ _ s0_0 _ _ l1 true _ ?side1 ?side2 ?side3 ?side4 A3.out).mono ?_); (case side1 => exact Kd.C_below HSz6_0 (by repeat (first | (with_reducible first | exact HB.out | apply below_alloc | apply pw_below_drewN | apply below_drew1 | refine below_set ?_ (IsS84.ge HI0.out)) | exact HB.out))); (case side2 => exact HSLz6_0); (case side3 => exact Kd.C_keep 0 HR1.out (by repeat (first | (with_reducible first | exact HK.out | apply KeepBut.set_ | apply keep_drewN | apply keep_drew | apply keep_alloc) | exact HK.out)) hf1); (case side4 => exact HC1.out); rintro e w' ⟨rfl, ⟨nd, rfl⟩⟩; refine ⟨_, rfl, ?_⟩; obtain ⟨i07, hi07, _, hsz7, _⟩ := info_parts info3; obtain ⟨A7, hcut7, hA7, hC7⟩ := print_drop_of (P := Try.prog) (Value.int .i64) 0 37 3 .i64 Try.underlying37 hi07 hsz7 A1 c1 l1 1 (by omega) (of_decide_eq_true (by first | (with_reducible assumption) | assumption)) HC1.out; have HR102 := Aside0.mk (Kd.C_of_reads (h1 := fun _ => rfl) (hA7 _ (Kd.reads_of_C HR1.out))); have HC102 := Aside0.mk hC7; have hf102 : ∀ ad : Addr, A7 = some ad → 0 < (l1.drop 1).length → ad.block ≠ g := fun ad he h_ => (by cases he; exact Kd.foot_ne (fun W_ hk_ => Kd.C_of_reads (h1 := fun _ => rfl) (hA7 _ (Kd.reads_of_C (Kd.C_foot_ne (fun h => h) HR1.out hf1 W_ hk_)))) h_ (by decide)); clear hA7 hC7 hi07 hsz7))
  go_loopg [18] k (fun kq v18 w' => ∃ (x18_1 : Int) (x1001_1 : Int) (x1002_1 : Int), v18 = .int .i64 x18_1 ∧ Aside0 (pull_layout_isPlan.l0 kq l1 ((l1.drop 1).length : Int) x18_1 s0_0 x1001_1 x1002_1 = some (r1, r2, r3)) ∧ Aside0 (kq ≤ k) ∧ Aside0 (IsS84 w0 w' g s0_0 x1001_1 x1002_1) ∧ Aside0 (KeepBut w w' g none) ∧ Aside0 (Below w0.heap.size w0 w'))
  case atStart => exact ⟨(0), (s0_1), (s0_2), (by first | rfl | (simp; done) | (simp [*]; done)), H', ⟨Nat.le_refl _⟩, ⟨by repeat (first | (with_reducible first | exact HI0.out | apply IsS84.alloc | apply IsS84.drewN | apply IsS84.drew | apply IsS84.set_1 | apply IsS84.set_2) | exact HI0.out)⟩, ⟨by repeat (first | (with_reducible first | exact HK.out | apply KeepBut.set_ | apply keep_drewN | apply keep_drew | apply keep_alloc) | exact HK.out)⟩, ⟨by repeat (first | (with_reducible first | exact HB.out | apply below_alloc | apply pw_below_drewN | apply below_drew1 | refine below_set ?_ (IsS84.ge HI0.out)) | exact HB.out)⟩⟩
  case round =>
    clear H'
    try clear c1
    try clear p2
    try clear c4
    try clear c5
    try clear c5b0
    try clear c5b1
    try clear c7
    try clear hcz6_0
    try clear hcz6_1
    try clear hcz6_2
    try clear hfz6_1
    try clear hfz6_2
    obtain ⟨x18_1, x1001_1, x1002_1, rfl, HA, HK1, HI0, HK, HB⟩ := hrel
    cases gk with
    | zero => exact absurd HA.out (by simp [pull_layout_isPlan.l0])
    | succ k1 =>
      have H := HA.out
      clear HA
      simp only [pull_layout_isPlan.l0] at H
      by_cases c8 : x18_1 < ((l1.drop 1).length : Int)
      rotate_left
      · rw [if_neg c8] at H
        have c8b0 : decide (x18_1 < ((l1.drop 1).length : Int)) = false := decide_eq_false c8
        (try (have c8b0d := c8b0; simp only [List.length_drop, List.length_take] at c8b0d))
        clear c8
        simp only [Option.some.injEq, Prod.mk.injEq] at H
        obtain ⟨rfl, rfl, rfl⟩ := H
        go_wp2
        go_ret
        exact ⟨by first | rfl | (simp [errW_none, errW_some] <;> rfl) | (simp [*, errW_none, errW_some] <;> rfl), by repeat (first | (with_reducible first | exact HI0.out | apply IsS84.alloc | apply IsS84.drewN | apply IsS84.drew | apply IsS84.set_1 | apply IsS84.set_2) | exact HI0.out), by repeat (first | (with_reducible first | exact HB.out | apply below_alloc | apply pw_below_drewN | apply below_drew1 | refine below_set ?_ (IsS84.ge HI0.out)) | exact HB.out), by repeat (first | (with_reducible first | exact HK.out | apply KeepBut.set_ | apply keep_drewN | apply keep_drew | apply keep_alloc) | exact HK.out)⟩
      rw [if_pos c8] at H
      have c8b0 : decide (x18_1 < ((l1.drop 1).length : Int)) = true := decide_eq_true c8
      (try (have c8b0d := c8b0; simp only [List.length_drop, List.length_take] at c8b0d))
      clear c8
      by_cases c9 : 0 ≤ x18_1
      rotate_left
      · rw [if_neg c9] at H
        exact absurd H (by simp)
      rw [if_pos c9] at H
      have c9b0 : decide (0 ≤ x18_1) = true := decide_eq_true c9
      clear c9
      by_cases c10 : x18_1 < (l1.length : Int)
      rotate_left
      · rw [if_neg c10] at H
        exact absurd H (by simp)
      rw [if_pos c10] at H
      have c10b0 : decide (x18_1 < (l1.length : Int)) = true := decide_eq_true c10
      clear c10
      obtain ⟨ji11, hji11⟩ : ∃ j_ : Int, (wrap64 (x18_1 + 1)) = j_ := ⟨_, rfl⟩
      replace H : (if 0 ≤ (ji11) then (if (ji11) < (l1.length : Int) then ((pull_layout_length.f s0_0 x1001_1 x1002_1 (rd l1 x18_1) (rd l1 (ji11))).bind fun bt105 => (if bt105.2.1 = true then (pull_layout_isPlan.l0 k1 l1 ((l1.drop 1).length : Int) ji11 s0_0 bt105.2.2.1 bt105.2.2.2) else (some (false, bt105.2.2.1, bt105.2.2.2)))) else (none)) else (none)) = some (r1, r2, r3) := by first | (rw [hji11] at H; exact H) | (simp only [hji11] at H ⊢; exact H)
      have hji11w : (IntKind.i64.wrap (x18_1 + 1)) = ji11 := (i64_w _).trans hji11
      by_cases c12 : 0 ≤ (ji11)
      rotate_left
      · rw [if_neg c12] at H
        exact absurd H (by simp)
      rw [if_pos c12] at H
      have c12b0 : decide (0 ≤ (ji11)) = true := decide_eq_true c12
      clear c12
      by_cases c13 : (ji11) < (l1.length : Int)
      rotate_left
      · rw [if_neg c13] at H
        exact absurd H (by simp)
      rw [if_pos c13] at H
      have c13b0 : decide ((ji11) < (l1.length : Int)) = true := decide_eq_true c13
      clear c13
      replace H := Option.bind_eq_some_iff.mp H
      obtain ⟨⟨t105, t106, t107, t108⟩, A140, H⟩ := H
      replace H : (if t106 = true then (pull_layout_isPlan.l0 k1 l1 ((l1.drop 1).length : Int) ji11 s0_0 t107 t108) else (some (false, t107, t108))) = some (r1, r2, r3) := H
      have A14 := Aside0.mk A140
      clear A140
      by_cases c15 : t106 = true
      · subst c15
        have H1 : (pull_layout_isPlan.l0 k1 l1 ((l1.drop 1).length : Int) ji11 s0_0 t107 t108) = some (r1, r2, r3) := by rw [if_pos rfl] at H; exact H
        clear H
        have H := H1
        clear H1
        have H' := Aside0.mk H
        clear H
        try go_wp2
        have n0_ := Aside0.mk (IsS84.drew HI0.out)
        have n1_ := Aside0.mk (keep_drew HK.out)
        have n2_ := Aside0.mk (below_drew1 HB.out)
        clear HI0
        clear HK
        clear HB
        have HI0 := n0_
        have HK := n1_
        have HB := n2_
        clear n0_ n1_ n2_
        have p103 : 0 ≤ (x18_1 : Int) := of_decide_eq_true (by first | (with_reducible assumption) | assumption)
        have q103 : x18_1 < (l1.length : Int) := of_decide_eq_true (by first | (with_reducible assumption) | assumption)
        obtain ⟨ad103, e103, hx103_0⟩ := Kd.at_int HR1.out x18_1 p103 q103
        have hw103_0 := hx103_0
        cases e103
        have hne103_0 := (show ((ad103.add (x18_1).toNat) : Addr).block ≠ g from by first | (rw [add_block]; exact hf1 ad103 rfl (by omega)) | (show (Addr.add _ _).block ≠ _; rw [add_block]; exact hf1 ad103 rfl (by omega)) | exact hf1 ad103 rfl (by omega))
        replace hx103_0 := keep_cell HK.out hx103_0 (by first | (rw [add_block]; exact hf1 _ rfl (by omega)) | exact hf1 _ rfl (by omega) | exact hf1 ad103 rfl (by omega))
        replace p103 := eq_true p103
        replace q103 := eq_true q103
        have p104 : 0 ≤ ((ji11) : Int) := of_decide_eq_true (by first | (with_reducible assumption) | assumption)
        have q104 : (ji11) < (l1.length : Int) := of_decide_eq_true (by first | (with_reducible assumption) | assumption)
        obtain ⟨ad104, e104, hx104_0⟩ := Kd.at_int HR1.out (ji11) p104 q104
        have hw104_0 := hx104_0
        obtain rfl : ad103 = ad104 := (by injection e104)
        have hne104_0 := (show ((ad103.add ((ji11)).toNat) : Addr).block ≠ g from by first | (rw [add_block]; exact hf1 ad103 rfl (by omega)) | (show (Addr.add _ _).block ≠ _; rw [add_block]; exact hf1 ad103 rfl (by omega)) | exact hf1 ad103 rfl (by omega))
        replace hx104_0 := keep_cell HK.out hx104_0 (by first | (rw [add_block]; exact hf1 _ rfl (by omega)) | exact hf1 _ rfl (by omega) | exact hf1 ad103 rfl (by omega))
        replace p104 := eq_true p104
        replace q104 := eq_true q104
        refine start_ (n := 16) (S := fun w' => w'.cell? (ad103.add (x18_1).toNat) = some (.int .i64 (rd l1 x18_1)) ∧ w'.cell? (ad103.add ((ji11)).toNat) = some (.int .i64 (rd l1 (ji11)))) (ds := []) (mkB 16 0) (by kernel_rfl) rfl rfl ⟨(keep_cell HK.out hw103_0 hne103_0), (keep_cell HK.out hw104_0 hne104_0)⟩ (fun hHeld => ?_); refine with_tabW pull_layout_isPlan.tab6 pull_layout_isPlan.bits6 (fun HT_ HW_ => ?_)
        generalize wr.drew = w16 at HI0 HK HB hx103_0 hx104_0 hHeld ⊢
        refine pr_ 0 (some 22) (mkB 16 1) HT_ ?_
        refine pr_ 1 (some 23) (mkB 16 3) HT_ ?_
        refine pr_ 2 (some 24) (mkB 16 7) HT_ ?_
        refine pr_ 3 (some 25) (mkB 16 15) HT_ ?_
        refine pr_ 5 (some 27) (mkB 16 47) HT_ ?_
        refine pr_ 6 (some 28) (mkB 16 111) HT_ ?_
        refine pr_ 7 (some 29) (mkB 16 239) HT_ ?_
        refine pr_ 8 (some 30) (mkB 16 495) HT_ ?_
        refine take_ (i := 4) (N := some 26) (v := ?_) (a' := ?_) (mkB 16 511) rfl rfl (take_ofW HT_.out HW_.out (by kernel_rfl)) (fun _ _ _ h => h) (Or.inl ⟨by rfl, ?_⟩) hHeld ?_ ?_
        rotate_left
        · rintro w' ⟨s0, s1⟩
          go_simp
          with_reducible rfl
        rotate_left
        · simp only [Act.put, List.setIfInBounds_toArray, List.set_cons_zero, List.set_cons_succ, i64_w, i32_w]
          rfl
        refine take_ (i := 9) (N := some 31) (v := ?_) (a' := ?_) (mkB 16 1023) rfl rfl (take_ofW HT_.out HW_.out (by kernel_rfl)) (fun _ _ _ h => h) (Or.inl ⟨by rfl, ?_⟩) hHeld ?_ ?_
        rotate_left
        · rintro w' ⟨s0, s1⟩
          go_simp
          with_reducible rfl
        rotate_left
        · simp only [Act.put, List.setIfInBounds_toArray, List.set_cons_zero, List.set_cons_succ, i64_w, i32_w]
          rfl
        refine one_ (i := 10) (N := some 32) (mkB 16 2047) rfl rfl (one_of HT_.out (by kernel_rfl)) (by decide) (fun K hK => ?_)
        refine goes_ Try.func75 (by kernel_rfl) rfl #[.pointer (some ⟨g, 0, none⟩), .int .i64 (rd l1 x18_1), .int .i64 (rd l1 (ji11))] (by rfl) rfl rfl (by (try simp only [List.map_toArray, List.map_cons, List.map_nil]); first | done | (simp only [hji11]; rfl) | rfl | (simp only [List.length_drop, List.length_take]; rfl)) ?_
        with_reducible refine (pull_layout_length.calls g s0_0 x1001_1 x1002_1 (rd l1 x18_1) (rd l1 (ji11)) t105 true t107 t108 w0 _ ?side1 ?side2 A14.out).mono ?_
        (case side1 => repeat (first | (with_reducible first | exact HI0.out | apply IsS84.alloc | apply IsS84.drewN | apply IsS84.drew | apply IsS84.set_1 | apply IsS84.set_2) | exact HI0.out))
        (case side2 => repeat (first | (with_reducible first | exact HB.out | apply below_alloc | apply pw_below_drewN | apply below_drew1 | refine below_set ?_ (IsS84.ge HI0.out)) | exact HB.out))
        rintro e w17 ⟨rfl, hi, hb, hk⟩
        refine ⟨_, rfl, ?_⟩
        have n0_ := Aside0.mk (KeepBut.trans (by repeat (first | (with_reducible first | exact HK.out | apply KeepBut.set_ | apply keep_drewN | apply keep_drew | apply keep_alloc) | exact HK.out)) hk (.inl rfl))
        have n1_ := Aside0.mk (hb)
        have n2_ := Aside0.mk (hi)
        clear HK
        clear HB
        clear HI0
        have HK := n0_
        have HB := n1_
        have HI0 := n2_
        clear n0_ n1_ n2_
        (try clear hb)
        (try clear hb2)
        (try clear hk)
        (try clear hi)
        refine hK.out _ _ ⟨(keep_cell HK.out hw103_0 hne103_0), (keep_cell HK.out hw104_0 hne104_0)⟩ (fun hHeld => ?_)
        clear hK K
        refine norm_ (a' := ?_) ?_ ?_
        rotate_left
        · show Act.put _ (some 32) _ = _
          simp only [Act.put, List.setIfInBounds_toArray, List.set_cons_zero, List.set_cons_succ, i64_w, i32_w]
          rfl
        refine pr_ 11 (some 21) (mkB 16 4095) HT_ ?_
        refine pr_ 12 (some 33) (mkB 16 8191) HT_ ?_
        refine pr_ 13 (some 34) (mkB 16 16383) HT_ ?_
        refine pr_ 14 (some 6) (mkB 16 32767) HT_ ?_
        refine pr_ 15 (some 7) (mkB 16 65535) HT_ ?_
        refine done_ (done_of HT_.out (by kernel_rfl)) ?_
        try go_wp2
        go_roundg k1
        case measure => have := HK1.out; omega
        case rel => exact ⟨(ji11), (t107), (t108), (by first | rfl | (simp; done) | (simp only [← hji11] <;> (first | rfl | simp)) | (simp [*]; done)), H', ⟨by have := HK1.out; omega⟩, ⟨by repeat (first | (with_reducible first | exact HI0.out | apply IsS84.alloc | apply IsS84.drewN | apply IsS84.drew | apply IsS84.set_1 | apply IsS84.set_2) | exact HI0.out)⟩, ⟨by repeat (first | (with_reducible first | exact HK.out | apply KeepBut.set_ | apply keep_drewN | apply keep_drew | apply keep_alloc) | exact HK.out)⟩, ⟨by repeat (first | (with_reducible first | exact HB.out | apply below_alloc | apply pw_below_drewN | apply below_drew1 | refine below_set ?_ (IsS84.ge HI0.out)) | exact HB.out)⟩⟩
      replace c15 := Bool.eq_false_iff.mpr c15
      subst c15
      have H1 : (some (false, t107, t108)) = some (r1, r2, r3) := by rw [if_neg (show ¬ (false = true) by decide)] at H; exact H
      clear H
      have H := H1
      clear H1
      simp only [Option.some.injEq, Prod.mk.injEq] at H
      obtain ⟨rfl, rfl, rfl⟩ := H
      try go_wp2
      have n0_ := Aside0.mk (IsS84.drew HI0.out)
      have n1_ := Aside0.mk (keep_drew HK.out)
      have n2_ := Aside0.mk (below_drew1 HB.out)
      clear HI0
      clear HK
      clear HB
      have HI0 := n0_
      have HK := n1_
      have HB := n2_
      clear n0_ n1_ n2_
      have p103 : 0 ≤ (x18_1 : Int) := of_decide_eq_true (by first | (with_reducible assumption) | assumption)
      have q103 : x18_1 < (l1.length : Int) := of_decide_eq_true (by first | (with_reducible assumption) | assumption)
      obtain ⟨ad103, e103, hx103_0⟩ := Kd.at_int HR1.out x18_1 p103 q103
      have hw103_0 := hx103_0
      cases e103
      have hne103_0 := (show ((ad103.add (x18_1).toNat) : Addr).block ≠ g from by first | (rw [add_block]; exact hf1 ad103 rfl (by omega)) | (show (Addr.add _ _).block ≠ _; rw [add_block]; exact hf1 ad103 rfl (by omega)) | exact hf1 ad103 rfl (by omega))
      replace hx103_0 := keep_cell HK.out hx103_0 (by first | (rw [add_block]; exact hf1 _ rfl (by omega)) | exact hf1 _ rfl (by omega) | exact hf1 ad103 rfl (by omega))
      replace p103 := eq_true p103
      replace q103 := eq_true q103
      have p104 : 0 ≤ ((ji11) : Int) := of_decide_eq_true (by first | (with_reducible assumption) | assumption)
      have q104 : (ji11) < (l1.length : Int) := of_decide_eq_true (by first | (with_reducible assumption) | assumption)
      obtain ⟨ad104, e104, hx104_0⟩ := Kd.at_int HR1.out (ji11) p104 q104
      have hw104_0 := hx104_0
      obtain rfl : ad103 = ad104 := (by injection e104)
      have hne104_0 := (show ((ad103.add ((ji11)).toNat) : Addr).block ≠ g from by first | (rw [add_block]; exact hf1 ad103 rfl (by omega)) | (show (Addr.add _ _).block ≠ _; rw [add_block]; exact hf1 ad103 rfl (by omega)) | exact hf1 ad103 rfl (by omega))
      replace hx104_0 := keep_cell HK.out hx104_0 (by first | (rw [add_block]; exact hf1 _ rfl (by omega)) | exact hf1 _ rfl (by omega) | exact hf1 ad103 rfl (by omega))
      replace p104 := eq_true p104
      replace q104 := eq_true q104
      refine start_ (n := 16) (S := fun w' => w'.cell? (ad103.add (x18_1).toNat) = some (.int .i64 (rd l1 x18_1)) ∧ w'.cell? (ad103.add ((ji11)).toNat) = some (.int .i64 (rd l1 (ji11)))) (ds := []) (mkB 16 0) (by kernel_rfl) rfl rfl ⟨(keep_cell HK.out hw103_0 hne103_0), (keep_cell HK.out hw104_0 hne104_0)⟩ (fun hHeld => ?_); refine with_tabW pull_layout_isPlan.tab6 pull_layout_isPlan.bits6 (fun HT_ HW_ => ?_)
      generalize wr.drew = w18 at HI0 HK HB hx103_0 hx104_0 hHeld ⊢
      refine pr_ 0 (some 22) (mkB 16 1) HT_ ?_
      refine pr_ 1 (some 23) (mkB 16 3) HT_ ?_
      refine pr_ 2 (some 24) (mkB 16 7) HT_ ?_
      refine pr_ 3 (some 25) (mkB 16 15) HT_ ?_
      refine pr_ 5 (some 27) (mkB 16 47) HT_ ?_
      refine pr_ 6 (some 28) (mkB 16 111) HT_ ?_
      refine pr_ 7 (some 29) (mkB 16 239) HT_ ?_
      refine pr_ 8 (some 30) (mkB 16 495) HT_ ?_
      refine take_ (i := 4) (N := some 26) (v := ?_) (a' := ?_) (mkB 16 511) rfl rfl (take_ofW HT_.out HW_.out (by kernel_rfl)) (fun _ _ _ h => h) (Or.inl ⟨by rfl, ?_⟩) hHeld ?_ ?_
      rotate_left
      · rintro w' ⟨s0, s1⟩
        go_simp
        with_reducible rfl
      rotate_left
      · simp only [Act.put, List.setIfInBounds_toArray, List.set_cons_zero, List.set_cons_succ, i64_w, i32_w]
        rfl
      refine take_ (i := 9) (N := some 31) (v := ?_) (a' := ?_) (mkB 16 1023) rfl rfl (take_ofW HT_.out HW_.out (by kernel_rfl)) (fun _ _ _ h => h) (Or.inl ⟨by rfl, ?_⟩) hHeld ?_ ?_
      rotate_left
      · rintro w' ⟨s0, s1⟩
        go_simp
        with_reducible rfl
      rotate_left
      · simp only [Act.put, List.setIfInBounds_toArray, List.set_cons_zero, List.set_cons_succ, i64_w, i32_w]
        rfl
      refine one_ (i := 10) (N := some 32) (mkB 16 2047) rfl rfl (one_of HT_.out (by kernel_rfl)) (by decide) (fun K hK => ?_)
      refine goes_ Try.func75 (by kernel_rfl) rfl #[.pointer (some ⟨g, 0, none⟩), .int .i64 (rd l1 x18_1), .int .i64 (rd l1 (ji11))] (by rfl) rfl rfl (by (try simp only [List.map_toArray, List.map_cons, List.map_nil]); first | done | (simp only [hji11]; rfl) | rfl | (simp only [List.length_drop, List.length_take]; rfl)) ?_
      with_reducible refine (pull_layout_length.calls g s0_0 x1001_1 x1002_1 (rd l1 x18_1) (rd l1 (ji11)) t105 false t107 t108 w0 _ ?side1 ?side2 A14.out).mono ?_
      (case side1 => repeat (first | (with_reducible first | exact HI0.out | apply IsS84.alloc | apply IsS84.drewN | apply IsS84.drew | apply IsS84.set_1 | apply IsS84.set_2) | exact HI0.out))
      (case side2 => repeat (first | (with_reducible first | exact HB.out | apply below_alloc | apply pw_below_drewN | apply below_drew1 | refine below_set ?_ (IsS84.ge HI0.out)) | exact HB.out))
      rintro e w19 ⟨rfl, hi, hb, hk⟩
      refine ⟨_, rfl, ?_⟩
      have n0_ := Aside0.mk (KeepBut.trans (by repeat (first | (with_reducible first | exact HK.out | apply KeepBut.set_ | apply keep_drewN | apply keep_drew | apply keep_alloc) | exact HK.out)) hk (.inl rfl))
      have n1_ := Aside0.mk (hb)
      have n2_ := Aside0.mk (hi)
      clear HK
      clear HB
      clear HI0
      have HK := n0_
      have HB := n1_
      have HI0 := n2_
      clear n0_ n1_ n2_
      (try clear hb)
      (try clear hb2)
      (try clear hk)
      (try clear hi)
      refine hK.out _ _ ⟨(keep_cell HK.out hw103_0 hne103_0), (keep_cell HK.out hw104_0 hne104_0)⟩ (fun hHeld => ?_)
      clear hK K
      refine norm_ (a' := ?_) ?_ ?_
      rotate_left
      · show Act.put _ (some 32) _ = _
        simp only [Act.put, List.setIfInBounds_toArray, List.set_cons_zero, List.set_cons_succ, i64_w, i32_w]
        rfl
      refine pr_ 11 (some 21) (mkB 16 4095) HT_ ?_
      refine pr_ 12 (some 33) (mkB 16 8191) HT_ ?_
      refine pr_ 13 (some 34) (mkB 16 16383) HT_ ?_
      refine pr_ 14 (some 6) (mkB 16 32767) HT_ ?_
      refine pr_ 15 (some 7) (mkB 16 65535) HT_ ?_
      refine done_ (done_of HT_.out (by kernel_rfl)) ?_
      try go_wp2
      go_ret
      exact ⟨by first | rfl | (simp [errW_none, errW_some] <;> rfl) | (simp only [← hji11]; first | rfl | (simp [errW_none, errW_some] <;> rfl)) | (simp [*, errW_none, errW_some] <;> rfl), by repeat (first | (with_reducible first | exact HI0.out | apply IsS84.alloc | apply IsS84.drewN | apply IsS84.drew | apply IsS84.set_1 | apply IsS84.set_2) | exact HI0.out), by repeat (first | (with_reducible first | exact HB.out | apply below_alloc | apply pw_below_drewN | apply below_drew1 | refine below_set ?_ (IsS84.ge HI0.out)) | exact HB.out), by repeat (first | (with_reducible first | exact HK.out | apply KeepBut.set_ | apply keep_drewN | apply keep_drew | apply keep_alloc) | exact HK.out)⟩
end Go.Proofs.Ytiebfmenkpodeaa.G
