-- Written by this session's driver (wip/tools/printmore.py) over the kit's print, with hand-written parts.
import Derived.Test.YthbpibdfookbmaaGBase
import Derived.Test.YthbpibdfookbmaaGF53
import Derived.Test.YthbpibdfookbmaaGF83
namespace Go.Proofs.Ythbpibdfookbmaa.G
open Go.RowKit Go.Proofs.YthbpibdfookbmaaW.PrintWords Go.Proofs.YthbpibdfookbmaaW.PrintLast Go.Proofs.YthbpibdfookbmaaW.PrintMore
attribute [local go_sem] max2_int min2_int max_two min_two max_three min_three max_four min_four   -- for this text's walks alone
set_option linter.unusedVariables false
set_option linter.unusedSimpArgs false

/-! ### ice_game_tonight: function 61 -/
def ice_game_tonight.l0 : Nat → Int → Int → Int → List Int → Int → Int → List Int → List Int → Int → Option (Int × Int)
  | 0, _, _, _, _, _, _, _, _, _ => none
  | k + 1, x1, x2, x7, x14, x15, x16, x1000, x1001, x1002 => if x16 < x15 then (if 0 ≤ x16 then (if x16 < (x14.length : Int) then ((ice_game_digit.f x1000 x1001 x1002 x1 x16).bind fun bt102 => (if x16 = x2 then (if x16 < (x1001.length : Int) then (ice_game_tonight.l0 k x1 x2 (wrap64 (x7 + (wrap64 ((wrap64 ((rd x14 x16) - 1)) * (rd x1001 x16))))) x14 x15 (wrap64 (x16 + 1)) x1000 x1001 bt102.2) else (none)) else (if (wrap64 (bt102.1 - 1)) = 0 then (some ((-1), bt102.2)) else (if x16 < (x1001.length : Int) then (ice_game_tonight.l0 k x1 x2 (wrap64 (x7 + (wrap64 ((wrap64 ((wrap64 (bt102.1 - 1)) - 1)) * (rd x1001 x16))))) x14 x15 (wrap64 (x16 + 1)) x1000 x1001 bt102.2) else (none))))) else (none)) else (none)) else (some (x7, x1002))
def ice_game_tonight.f (k : Nat) (s0_0 : List Int) (s0_1 : List Int) (s0_2 : Int) (a1 : Int) (a2 : Int) : Option (Int × Int) := ice_game_tonight.l0 k a1 a2 0 s0_0 (s0_0.length : Int) 0 s0_0 s0_1 s0_2
theorem ice_game_tonight.mono_l : ∀ k, (∀ y0 y1 y2 y3 y4 y5 y6 y7 y8, LeO (ice_game_tonight.l0 k y0 y1 y2 y3 y4 y5 y6 y7 y8) (ice_game_tonight.l0 (k + 1) y0 y1 y2 y3 y4 y5 y6 y7 y8))
  | 0 => fun _ _ _ _ _ _ _ _ _ r h => by simp [ice_game_tonight.l0] at h
  | k + 1 => by
    have ih0 := ice_game_tonight.mono_l k
    · intro y0 y1 y2 y3 y4 y5 y6 y7 y8
      unfold ice_game_tonight.l0
      repeat' first
      | (with_reducible exact ih0 _ _ _ _ _ _ _ _ _)
      | (with_reducible exact LeO.refl _)
      | (with_reducible exact LeO.none _)
      | (with_reducible refine LeO.ite ?_ ?_)
      | (with_reducible refine LeO.bind ?_ (fun _ => ?_))
      | exact ih0 _ _ _ _ _ _ _ _ _
      | exact LeO.none _
      | refine LeO.ite ?_ ?_
      | refine LeO.bind ?_ (fun _ => ?_)
theorem ice_game_tonight.mono : ∀ a0 a1 a2 a3 a4 k, LeO (ice_game_tonight.f k a0 a1 a2 a3 a4) (ice_game_tonight.f (k + 1) a0 a1 a2 a3 a4) := by
  intro a0 a1 a2 a3 a4 k
  have ih0 := ice_game_tonight.mono_l k
  unfold ice_game_tonight.f
  repeat' first
      | (with_reducible exact ih0 _ _ _ _ _ _ _ _ _)
      | (with_reducible exact LeO.refl _)
      | (with_reducible exact LeO.none _)
      | (with_reducible refine LeO.ite ?_ ?_)
      | (with_reducible refine LeO.bind ?_ (fun _ => ?_))
      | exact ih0 _ _ _ _ _ _ _ _ _
      | exact LeO.none _
      | refine LeO.ite ?_ ?_
      | refine LeO.bind ?_ (fun _ => ?_)
set_option maxHeartbeats 8000000 in
set_option maxRecDepth 100000 in
theorem ice_game_tonight.calls (k : Nat) (g : Nat) (s0_0 : List Int) (s0_1 : List Int) (s0_2 : Int) (a1 : Int) (a2 : Int) (r1 : Int) (r2 : Int) (w0 w : World) (hI : IsS87 w0 w g s0_0 s0_1 s0_2) (hB : Below w0.heap.size w0 w) (h : ice_game_tonight.f k s0_0 s0_1 s0_2 a1 a2 = some (r1, r2)) :
    Calls Try.prog 61 #[.pointer (some ⟨g, 0, none⟩), .int .i64 a1, .int .i64 a2] w fun e w' => e = .returned (.int .i64 r1) ∧ IsS87 w0 w' g s0_0 s0_1 r2 ∧ Below w0.heap.size w0 w' ∧ KeepBut w w' g none := by
  have HI0 := Aside0.mk hI
  have HK := Aside0.mk (KeepBut.refl w g none)
  have HL := Aside0.mk hB.size
  clear hI
  have HW0 := Aside0.mk hB.size
  have HB := Aside0.mk hB
  clear hB
  have H : (ice_game_tonight.l0 k a1 a2 0 s0_0 (s0_0.length : Int) 0 s0_0 s0_1 s0_2) = some (r1, r2) := h
  clear h
  have H' := Aside0.mk H
  clear H
  obtain ⟨ASz4_0, cSz4_0, ASz4_1, cSz4_1, HGz4, hgz4, ⟨HSz4_0, HSLz4_0⟩, ⟨HSz4_1, HSLz4_1⟩⟩ := HI0.out
  have hcz4_0 := cellS87_0 HGz4
  have hcz4_1 := cellS87_1 HGz4
  have hcz4_2 := cellS87_2 HGz4
  have hfz4_2 := blk_frozen HGz4 2
  clear HGz4 hgz4
  go_enter Try.func61, Try.ntmps61
  go_wp2
  go_loopg [7, 16] k (fun kq v7 v16 w' => ∃ (x7_1 : Int) (x16_1 : Int) (x1002_1 : Int), v7 = .int .i64 x7_1 ∧ v16 = .int .i64 x16_1 ∧ Aside0 (ice_game_tonight.l0 kq a1 a2 x7_1 s0_0 (s0_0.length : Int) x16_1 s0_0 s0_1 x1002_1 = some (r1, r2)) ∧ Aside0 (kq ≤ k) ∧ Aside0 (IsS87 w0 w' g s0_0 s0_1 x1002_1) ∧ Aside0 (KeepBut w w' g none) ∧ Aside0 (Below w0.heap.size w0 w'))
  case atStart => exact ⟨(0), (0), (s0_2), (by first | rfl | (simp; done) | (simp [*]; done)), (by first | rfl | (simp; done) | (simp [*]; done)), H', ⟨Nat.le_refl _⟩, ⟨by repeat (first | (with_reducible first | exact HI0.out | apply IsS87.alloc | apply IsS87.drewN | apply IsS87.drew | apply IsS87.set_2) | exact HI0.out)⟩, ⟨by repeat (first | (with_reducible first | exact HK.out | apply KeepBut.set_ | apply keep_drewN | apply keep_drew | apply keep_alloc) | exact HK.out)⟩, ⟨by repeat (first | (with_reducible first | exact HB.out | apply below_alloc | apply pw_below_drewN | apply below_drew1 | refine below_set ?_ (IsS87.ge HI0.out)) | exact HB.out)⟩⟩
  case round =>
    clear H'
    try clear p2
    try clear hcz4_0
    try clear hcz4_1
    try clear hcz4_2
    try clear hfz4_2
    obtain ⟨x7_1, x16_1, x1002_1, rfl, rfl, HA, HK1, HI0, HK, HB⟩ := hrel
    cases gk with
    | zero => exact absurd HA.out (by simp [ice_game_tonight.l0])
    | succ k1 =>
      have H := HA.out
      clear HA
      simp only [ice_game_tonight.l0] at H
      by_cases c5 : x16_1 < (s0_0.length : Int)
      rotate_left
      · rw [if_neg c5] at H
        have c5b0 : decide (x16_1 < (s0_0.length : Int)) = false := decide_eq_false c5
        clear c5
        simp only [Option.some.injEq, Prod.mk.injEq] at H
        obtain ⟨rfl, rfl⟩ := H
        go_wp2
        go_ret
        exact ⟨by first | rfl | (simp [errW_none, errW_some] <;> rfl) | (simp [*, errW_none, errW_some] <;> rfl), by repeat (first | (with_reducible first | exact HI0.out | apply IsS87.alloc | apply IsS87.drewN | apply IsS87.drew | apply IsS87.set_2) | exact HI0.out), by repeat (first | (with_reducible first | exact HB.out | apply below_alloc | apply pw_below_drewN | apply below_drew1 | refine below_set ?_ (IsS87.ge HI0.out)) | exact HB.out), by repeat (first | (with_reducible first | exact HK.out | apply KeepBut.set_ | apply keep_drewN | apply keep_drew | apply keep_alloc) | exact HK.out)⟩

      rw [if_pos c5] at H
      have c5b0 : decide (x16_1 < (s0_0.length : Int)) = true := decide_eq_true c5
      clear c5
      by_cases c6 : 0 ≤ x16_1
      rotate_left
      · rw [if_neg c6] at H
        exact absurd H (by simp)
      rw [if_pos c6] at H
      have c6b0 : decide (0 ≤ x16_1) = true := decide_eq_true c6
      clear c6
      by_cases c7 : x16_1 < (s0_0.length : Int)
      rotate_left
      · rw [if_neg c7] at H
        exact absurd H (by simp)
      rw [if_pos c7] at H
      have c7b0 : decide (x16_1 < (s0_0.length : Int)) = true := decide_eq_true c7
      clear c7
      replace H := Option.bind_eq_some_iff.mp H
      obtain ⟨⟨t102, t103⟩, A80, H⟩ := H
      replace H : (if x16_1 = a2 then (if x16_1 < (s0_1.length : Int) then (ice_game_tonight.l0 k1 a1 a2 (wrap64 (x7_1 + (wrap64 ((wrap64 ((rd s0_0 x16_1) - 1)) * (rd s0_1 x16_1))))) s0_0 (s0_0.length : Int) (wrap64 (x16_1 + 1)) s0_0 s0_1 t103) else (none)) else (if (wrap64 (t102 - 1)) = 0 then (some ((-1), t103)) else (if x16_1 < (s0_1.length : Int) then (ice_game_tonight.l0 k1 a1 a2 (wrap64 (x7_1 + (wrap64 ((wrap64 ((wrap64 (t102 - 1)) - 1)) * (rd s0_1 x16_1))))) s0_0 (s0_0.length : Int) (wrap64 (x16_1 + 1)) s0_0 s0_1 t103) else (none)))) = some (r1, r2) := H
      have A8 := Aside0.mk A80
      clear A80
      by_cases c9 : x16_1 = a2
      · rw [if_pos c9] at H
        have c9b0 : (x16_1 == a2) = true := beq_iff_eq.mpr c9
        have c9b1 : (x16_1 != a2) = false := bne_eq_false_iff_eq.mpr c9
        clear c9
        by_cases c10 : x16_1 < (s0_1.length : Int)
        rotate_left
        · rw [if_neg c10] at H
          exact absurd H (by simp)
        rw [if_pos c10] at H
        have c10b0 : decide (x16_1 < (s0_1.length : Int)) = true := decide_eq_true c10
        clear c10
        have H' := Aside0.mk H
        clear H
        obtain ⟨ASz11_0, cSz11_0, ASz11_1, cSz11_1, HGz11, hgz11, ⟨HSz11_0, HSLz11_0⟩, ⟨HSz11_1, HSLz11_1⟩⟩ := HI0.out
        have hcz11_0 := cellS87_0 HGz11
        have hcz11_1 := cellS87_1 HGz11
        have hcz11_2 := cellS87_2 HGz11
        have hfz11_2 := blk_frozen HGz11 2
        clear HGz11 hgz11
        have p101 : 0 ≤ (x16_1 : Int) := of_decide_eq_true (by first | (with_reducible assumption) | assumption)
        have q101 : x16_1 < (s0_0.length : Int) := of_decide_eq_true (by first | (with_reducible assumption) | assumption)
        obtain ⟨ad101, e101, hx101_0⟩ := Kd.at_int HSz4_0 x16_1 p101 q101
        cases e101
        replace hx101_0 := pw_cell_below HB.out hx101_0
        replace p101 := eq_true p101
        replace q101 := eq_true q101
        go_wp2_with (first | ((with_reducible refine gate_callee (f := 83) rfl ?_); refine goesL_ (some 24) rfl rfl Try.func83 (by kernel_rfl) rfl #[.pointer (some ⟨g, 0, none⟩), .int .i64 a1, .int .i64 x16_1] rfl (by (try simp only [List.map_toArray, List.map_cons, List.map_nil]); first | done | rfl | (simp only [List.length_drop, List.length_take]; rfl)) ?_; (with_reducible refine (ice_game_digit.calls g s0_0 s0_1 x1002_1 a1 x16_1 t102 t103 w0 _ ?side1 ?side2 A8.out).mono ?_); (case side1 => repeat (first | (with_reducible first | exact HI0.out | apply IsS87.alloc | apply IsS87.drewN | apply IsS87.drew | apply IsS87.set_2) | exact HI0.out)); (case side2 => repeat (first | (with_reducible first | exact HB.out | apply below_alloc | apply pw_below_drewN | apply below_drew1 | refine below_set ?_ (IsS87.ge HI0.out)) | exact HB.out)); rintro e w12 ⟨rfl, hi, hb, hk⟩; refine ⟨_, rfl, ?_⟩; have n0_ := Aside0.mk (KeepBut.trans (by repeat (first | (with_reducible first | exact HK.out | apply KeepBut.set_ | apply keep_drewN | apply keep_drew | apply keep_alloc) | exact HK.out)) hk (.inl rfl)); have n1_ := Aside0.mk (hb); have n2_ := Aside0.mk (hi); clear HK; clear HB; clear HI0; have HK := n0_; have HB := n1_; have HI0 := n2_; clear n0_ n1_ n2_; (try clear hb); (try clear hb2); (try clear hk); (try clear hi); obtain ⟨ASz13_0, cSz13_0, ASz13_1, cSz13_1, HGz13, hgz13, ⟨HSz13_0, HSLz13_0⟩, ⟨HSz13_1, HSLz13_1⟩⟩ := HI0.out; have hcz13_0 := cellS87_0 HGz13; have hcz13_1 := cellS87_1 HGz13; have hcz13_2 := cellS87_2 HGz13; have hfz13_2 := blk_frozen HGz13 2; clear HGz13 hgz13; have p104 : 0 ≤ (x16_1 : Int) := of_decide_eq_true (by first | (with_reducible assumption) | assumption); have q104 : x16_1 < (s0_1.length : Int) := of_decide_eq_true (by first | (with_reducible assumption) | assumption); obtain ⟨ad104, e104, hx104_0⟩ := Kd.at_int HSz13_1 x16_1 p104 q104; cases e104; replace hx104_0 := pw_cell_below HB.out hx104_0; replace p104 := eq_true p104; replace q104 := eq_true q104))
        go_roundg k1
        case measure => have := HK1.out; omega
        case rel => exact ⟨(wrap64 (x7_1 + (wrap64 ((wrap64 ((rd s0_0 x16_1) - 1)) * (rd s0_1 x16_1))))), (wrap64 (x16_1 + 1)), (t103), (by first | rfl | (simp; done) | (simp [*]; done)), (by first | rfl | (simp; done) | (simp [*]; done)), H', ⟨by have := HK1.out; omega⟩, ⟨by repeat (first | (with_reducible first | exact HI0.out | apply IsS87.alloc | apply IsS87.drewN | apply IsS87.drew | apply IsS87.set_2) | exact HI0.out)⟩, ⟨by repeat (first | (with_reducible first | exact HK.out | apply KeepBut.set_ | apply keep_drewN | apply keep_drew | apply keep_alloc) | exact HK.out)⟩, ⟨by repeat (first | (with_reducible first | exact HB.out | apply below_alloc | apply pw_below_drewN | apply below_drew1 | refine below_set ?_ (IsS87.ge HI0.out)) | exact HB.out)⟩⟩
      rw [if_neg c9] at H
      have c9b0 : (x16_1 == a2) = false := beq_eq_false_iff_ne.mpr c9
      have c9b1 : (x16_1 != a2) = true := bne_iff_ne.mpr c9
      by_cases c14 : (wrap64 (t102 - 1)) = 0
      · rw [if_pos c14] at H
        have c14b0 : ((wrap64 (t102 - 1)) == 0) = true := beq_iff_eq.mpr c14
        have c14b1 : ((wrap64 (t102 - 1)) != 0) = false := bne_eq_false_iff_eq.mpr c14
        clear c14
        simp only [Option.some.injEq, Prod.mk.injEq] at H
        obtain ⟨rfl, rfl⟩ := H
        obtain ⟨ASz15_0, cSz15_0, ASz15_1, cSz15_1, HGz15, hgz15, ⟨HSz15_0, HSLz15_0⟩, ⟨HSz15_1, HSLz15_1⟩⟩ := HI0.out
        have hcz15_0 := cellS87_0 HGz15
        have hcz15_1 := cellS87_1 HGz15
        have hcz15_2 := cellS87_2 HGz15
        have hfz15_2 := blk_frozen HGz15 2
        clear HGz15 hgz15
        have p101 : 0 ≤ (x16_1 : Int) := of_decide_eq_true (by first | (with_reducible assumption) | assumption)
        have q101 : x16_1 < (s0_0.length : Int) := of_decide_eq_true (by first | (with_reducible assumption) | assumption)
        obtain ⟨ad101, e101, hx101_0⟩ := Kd.at_int HSz4_0 x16_1 p101 q101
        cases e101
        replace hx101_0 := pw_cell_below HB.out hx101_0
        replace p101 := eq_true p101
        replace q101 := eq_true q101
        go_wp2_with (first | ((with_reducible refine gate_callee (f := 83) rfl ?_); refine goesL_ (some 24) rfl rfl Try.func83 (by kernel_rfl) rfl #[.pointer (some ⟨g, 0, none⟩), .int .i64 a1, .int .i64 x16_1] rfl (by (try simp only [List.map_toArray, List.map_cons, List.map_nil]); first | done | rfl | (simp only [List.length_drop, List.length_take]; rfl)) ?_; (with_reducible refine (ice_game_digit.calls g s0_0 s0_1 x1002_1 a1 x16_1 t102 t103 w0 _ ?side1 ?side2 A8.out).mono ?_); (case side1 => repeat (first | (with_reducible first | exact HI0.out | apply IsS87.alloc | apply IsS87.drewN | apply IsS87.drew | apply IsS87.set_2) | exact HI0.out)); (case side2 => repeat (first | (with_reducible first | exact HB.out | apply below_alloc | apply pw_below_drewN | apply below_drew1 | refine below_set ?_ (IsS87.ge HI0.out)) | exact HB.out)); rintro e w16 ⟨rfl, hi, hb, hk⟩; refine ⟨_, rfl, ?_⟩; have n0_ := Aside0.mk (KeepBut.trans (by repeat (first | (with_reducible first | exact HK.out | apply KeepBut.set_ | apply keep_drewN | apply keep_drew | apply keep_alloc) | exact HK.out)) hk (.inl rfl)); have n1_ := Aside0.mk (hb); have n2_ := Aside0.mk (hi); clear HK; clear HB; clear HI0; have HK := n0_; have HB := n1_; have HI0 := n2_; clear n0_ n1_ n2_; (try clear hb); (try clear hb2); (try clear hk); (try clear hi)))
        go_ret
        exact ⟨by first | rfl | (simp [errW_none, errW_some] <;> rfl) | (simp [*, errW_none, errW_some] <;> rfl), by repeat (first | (with_reducible first | exact HI0.out | apply IsS87.alloc | apply IsS87.drewN | apply IsS87.drew | apply IsS87.set_2) | exact HI0.out), by repeat (first | (with_reducible first | exact HB.out | apply below_alloc | apply pw_below_drewN | apply below_drew1 | refine below_set ?_ (IsS87.ge HI0.out)) | exact HB.out), by repeat (first | (with_reducible first | exact HK.out | apply KeepBut.set_ | apply keep_drewN | apply keep_drew | apply keep_alloc) | exact HK.out)⟩
      rw [if_neg c14] at H
      have c14b0 : ((wrap64 (t102 - 1)) == 0) = false := beq_eq_false_iff_ne.mpr c14
      have c14b1 : ((wrap64 (t102 - 1)) != 0) = true := bne_iff_ne.mpr c14
      by_cases c17 : x16_1 < (s0_1.length : Int)
      rotate_left
      · rw [if_neg c17] at H
        exact absurd H (by simp)
      rw [if_pos c17] at H
      have c17b0 : decide (x16_1 < (s0_1.length : Int)) = true := decide_eq_true c17
      clear c17
      have H' := Aside0.mk H
      clear H
      obtain ⟨ASz18_0, cSz18_0, ASz18_1, cSz18_1, HGz18, hgz18, ⟨HSz18_0, HSLz18_0⟩, ⟨HSz18_1, HSLz18_1⟩⟩ := HI0.out
      have hcz18_0 := cellS87_0 HGz18
      have hcz18_1 := cellS87_1 HGz18
      have hcz18_2 := cellS87_2 HGz18
      have hfz18_2 := blk_frozen HGz18 2
      clear HGz18 hgz18
      have p101 : 0 ≤ (x16_1 : Int) := of_decide_eq_true (by first | (with_reducible assumption) | assumption)
      have q101 : x16_1 < (s0_0.length : Int) := of_decide_eq_true (by first | (with_reducible assumption) | assumption)
      obtain ⟨ad101, e101, hx101_0⟩ := Kd.at_int HSz4_0 x16_1 p101 q101
      cases e101
      replace hx101_0 := pw_cell_below HB.out hx101_0
      replace p101 := eq_true p101
      replace q101 := eq_true q101
      go_wp2_with (first | ((with_reducible refine gate_callee (f := 83) rfl ?_); refine goesL_ (some 24) rfl rfl Try.func83 (by kernel_rfl) rfl #[.pointer (some ⟨g, 0, none⟩), .int .i64 a1, .int .i64 x16_1] rfl (by (try simp only [List.map_toArray, List.map_cons, List.map_nil]); first | done | rfl | (simp only [List.length_drop, List.length_take]; rfl)) ?_; (with_reducible refine (ice_game_digit.calls g s0_0 s0_1 x1002_1 a1 x16_1 t102 t103 w0 _ ?side1 ?side2 A8.out).mono ?_); (case side1 => repeat (first | (with_reducible first | exact HI0.out | apply IsS87.alloc | apply IsS87.drewN | apply IsS87.drew | apply IsS87.set_2) | exact HI0.out)); (case side2 => repeat (first | (with_reducible first | exact HB.out | apply below_alloc | apply pw_below_drewN | apply below_drew1 | refine below_set ?_ (IsS87.ge HI0.out)) | exact HB.out)); rintro e w19 ⟨rfl, hi, hb, hk⟩; refine ⟨_, rfl, ?_⟩; have n0_ := Aside0.mk (KeepBut.trans (by repeat (first | (with_reducible first | exact HK.out | apply KeepBut.set_ | apply keep_drewN | apply keep_drew | apply keep_alloc) | exact HK.out)) hk (.inl rfl)); have n1_ := Aside0.mk (hb); have n2_ := Aside0.mk (hi); clear HK; clear HB; clear HI0; have HK := n0_; have HB := n1_; have HI0 := n2_; clear n0_ n1_ n2_; (try clear hb); (try clear hb2); (try clear hk); (try clear hi); obtain ⟨ASz20_0, cSz20_0, ASz20_1, cSz20_1, HGz20, hgz20, ⟨HSz20_0, HSLz20_0⟩, ⟨HSz20_1, HSLz20_1⟩⟩ := HI0.out; have hcz20_0 := cellS87_0 HGz20; have hcz20_1 := cellS87_1 HGz20; have hcz20_2 := cellS87_2 HGz20; have hfz20_2 := blk_frozen HGz20 2; clear HGz20 hgz20; have p105 : 0 ≤ (x16_1 : Int) := of_decide_eq_true (by first | (with_reducible assumption) | assumption); have q105 : x16_1 < (s0_1.length : Int) := of_decide_eq_true (by first | (with_reducible assumption) | assumption); obtain ⟨ad105, e105, hx105_0⟩ := Kd.at_int HSz20_1 x16_1 p105 q105; cases e105; replace hx105_0 := pw_cell_below HB.out hx105_0; replace p105 := eq_true p105; replace q105 := eq_true q105))
      go_roundg k1
      case measure => have := HK1.out; omega
      case rel => exact ⟨(wrap64 (x7_1 + (wrap64 ((wrap64 ((wrap64 (t102 - 1)) - 1)) * (rd s0_1 x16_1))))), (wrap64 (x16_1 + 1)), (t103), (by first | rfl | (simp; done) | (simp [*]; done)), (by first | rfl | (simp; done) | (simp [*]; done)), H', ⟨by have := HK1.out; omega⟩, ⟨by repeat (first | (with_reducible first | exact HI0.out | apply IsS87.alloc | apply IsS87.drewN | apply IsS87.drew | apply IsS87.set_2) | exact HI0.out)⟩, ⟨by repeat (first | (with_reducible first | exact HK.out | apply KeepBut.set_ | apply keep_drewN | apply keep_drew | apply keep_alloc) | exact HK.out)⟩, ⟨by repeat (first | (with_reducible first | exact HB.out | apply below_alloc | apply pw_below_drewN | apply below_drew1 | refine below_set ?_ (IsS87.ge HI0.out)) | exact HB.out)⟩⟩
end Go.Proofs.Ythbpibdfookbmaa.G
