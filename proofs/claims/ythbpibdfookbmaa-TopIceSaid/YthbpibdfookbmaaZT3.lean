/- Functions of the seat and plain laws about them: GF61, GF57, GF58, GF59. -/
import Derived.Test.YthbpibdfookbmaaGBase
import Derived.Test.YthbpibdfookbmaaZT2
section
namespace Go.Proofs.Ythbpibdfookbmaa.G
open Go.RowKit Go.Proofs.YthbpibdfookbmaaW.PrintWords Go.Proofs.YthbpibdfookbmaaW.PrintLast Go.Proofs.YthbpibdfookbmaaW.PrintMore
attribute [local go_sem] max2_int min2_int max_two min_two max_three min_three max_four min_four
set_option linter.unusedVariables false
set_option linter.unusedSimpArgs false
def ice_game_tonight.l0 : Nat → Int → Int → Int → List Int → Int → Int → List Int → List Int → Int → Option (Int × Int)
 | 0, _, _, _, _, _, _, _, _, _ => none
 | k + 1, x1, x2, x7, x14, x15, x16, x1000, x1001, x1002 => if x16 < x15 then (if 0 ≤ x16 then (if x16 < (x14.length : Int) then ((ice_game_digit.f x1000 x1001 x1002 x1 x16).bind fun bt102 => (if x16 = x2 then (if x16 < (x1001.length : Int) then (ice_game_tonight.l0 k x1 x2 (wrap64 (x7 + (wrap64 ((wrap64 ((rd x14 x16) - 1)) * (rd x1001 x16))))) x14 x15 (wrap64 (x16 + 1)) x1000 x1001 bt102.2) else (none)) else (if (wrap64 (bt102.1 - 1)) = 0 then (some ((-1), bt102.2)) else (if x16 < (x1001.length : Int) then (ice_game_tonight.l0 k x1 x2 (wrap64 (x7 + (wrap64 ((wrap64 ((wrap64 (bt102.1 - 1)) - 1)) * (rd x1001 x16))))) x14 x15 (wrap64 (x16 + 1)) x1000 x1001 bt102.2) else (none))))) else (none)) else (none)) else (some (x7, x1002))
def ice_game_tonight.f (k : Nat) (s0_0 : List Int) (s0_1 : List Int) (s0_2 : Int) (a1 : Int) (a2 : Int) : Option (Int × Int) := ice_game_tonight.l0 k a1 a2 0 s0_0 (s0_0.length : Int) 0 s0_0 s0_1 s0_2
theorem ice_game_tonight.mono_l : ∀ k, (∀ y0 y1 y2 y3 y4 y5 y6 y7 y8, LeO (ice_game_tonight.l0 k y0 y1 y2 y3 y4 y5 y6 y7 y8) (ice_game_tonight.l0 (k + 1) y0 y1 y2 y3 y4 y5 y6 y7 y8))
 | 0 => fun _ _ _ _ _ _ _ _ _ r h => by simp [ice_game_tonight.l0] at h
 | k + 1 => by
  have ih0 := ice_game_tonight.mono_l k
  ·intro y0 y1 y2 y3 y4 y5 y6 y7 y8
   unfold ice_game_tonight.l0
   repeat' first
   | (with_reducible exact ih0 _ _ _ _ _ _ _ _ _)
   | (with_reducible exact LeO.refl _)
   | (with_reducible exact LeO.none _)
   | (with_reducible refine LeO.ite ?_ ?_)
   | (with_reducible refine LeO.bind ?_ (fun _ => ?_))
   | exact ih0 _ _ _ _ _ _ _ _ _
   | exact LeO.none _
   | refine LeO.ite ?_ ?_
   | refine LeO.bind ?_ (fun _ => ?_)
theorem ice_game_tonight.mono : ∀ a0 a1 a2 a3 a4 k, LeO (ice_game_tonight.f k a0 a1 a2 a3 a4) (ice_game_tonight.f (k + 1) a0 a1 a2 a3 a4) := by
 intro a0 a1 a2 a3 a4 k
 have ih0 := ice_game_tonight.mono_l k
 unfold ice_game_tonight.f
 repeat' first
   | (with_reducible exact ih0 _ _ _ _ _ _ _ _ _)
   | (with_reducible exact LeO.refl _)
   | (with_reducible exact LeO.none _)
   | (with_reducible refine LeO.ite ?_ ?_)
   | (with_reducible refine LeO.bind ?_ (fun _ => ?_))
   | exact ih0 _ _ _ _ _ _ _ _ _
   | exact LeO.none _
   | refine LeO.ite ?_ ?_
   | refine LeO.bind ?_ (fun _ => ?_)
set_option maxHeartbeats 8000000 in
set_option maxRecDepth 100000 in
theorem ice_game_tonight.calls (k : Nat) (g : Nat) (s0_0 : List Int) (s0_1 : List Int) (s0_2 : Int) (a1 : Int) (a2 : Int) (r1 : Int) (r2 : Int) (w0 w : World) (hI : IsS87 w0 w g s0_0 s0_1 s0_2) (hB : Below w0.heap.size w0 w) (h : ice_game_tonight.f k s0_0 s0_1 s0_2 a1 a2 = some (r1, r2)) :
  Calls Try.prog 61 #[.pointer (some ⟨g, 0, none⟩), .int .i64 a1, .int .i64 a2] w fun e w' => e = .returned (.int .i64 r1) ∧ IsS87 w0 w' g s0_0 s0_1 r2 ∧ Below w0.heap.size w0 w' ∧ KeepBut w w' g none := by
 have HI0 := A_ hI; have HK := A_ (KeepBut.refl w g none); have HL := A_ hB.size; clear hI; have HW0 := A_ hB.size; have HB := A_ hB; clear hB; have H : (ice_game_tonight.l0 k a1 a2 0 s0_0 (s0_0.length : Int) 0 s0_0 s0_1 s0_2) = some (r1, r2) := h; clear h; have H' := A_ H; clear H; obtain ⟨ASz4_0, cSz4_0, ASz4_1, cSz4_1, HGz4, hgz4, ⟨HSz4_0, HSLz4_0⟩, ⟨HSz4_1, HSLz4_1⟩⟩ := HI0.out; have hcz4_0 := cellS87_0 HGz4; have hcz4_1 := cellS87_1 HGz4; have hcz4_2 := cellS87_2 HGz4; have hfz4_2 := blk_frozen HGz4 2; clear HGz4 hgz4
 go_enter Try.func61, Try.ntmps61
 go_wp2
 go_loopg [7, 16] k (fun kq v7 v16 w' => ∃ (x7_1 : Int) (x16_1 : Int) (x1002_1 : Int), v7 = .int .i64 x7_1 ∧ v16 = .int .i64 x16_1 ∧ Aside0 (ice_game_tonight.l0 kq a1 a2 x7_1 s0_0 (s0_0.length : Int) x16_1 s0_0 s0_1 x1002_1 = some (r1, r2)) ∧ Aside0 (kq ≤ k) ∧ Aside0 (IsS87 w0 w' g s0_0 s0_1 x1002_1) ∧ Aside0 (KeepBut w w' g none) ∧ Aside0 (Below w0.heap.size w0 w'))
 case atStart => exact ⟨(0), (0), (s0_2), eS, eS, H', ⟨Nat.le_refl _⟩, ⟨by repeat (first | (with_reducible first | exact HI0.out | apply IsS87.alloc | apply IsS87.drewN | apply IsS87.drew | apply IsS87.set_2) | exact HI0.out)⟩, ⟨by repeat (first | (with_reducible first | exact HK.out | apply KeepBut.set_ | apply keep_drewN | apply keep_drew | apply keep_alloc) | exact HK.out)⟩, ⟨by repeat (first | (with_reducible first | exact HB.out | apply below_alloc | apply pw_below_drewN | apply below_drew1 | refine below_set ?_ (IsS87.ge HI0.out)) | exact HB.out)⟩⟩
 case round =>
  clear H'
  try clear p2; try clear hcz4_0; try clear hcz4_1; try clear hcz4_2; try clear hfz4_2
  obtain ⟨x7_1, x16_1, x1002_1, rfl, rfl, HA, HK1, HI0, HK, HB⟩ := hrel
  cases gk with
  | zero => exact absurd HA.out (by simp [ice_game_tonight.l0])
  | succ k1 =>
   have H := HA.out; clear HA; simp only [ice_game_tonight.l0] at H; by_cases c5 : x16_1 < (s0_0.length : Int); rotate_left
   ·rw [if_neg c5] at H
    have c5b0 : decide (x16_1 < (s0_0.length : Int)) = false := decide_eq_false c5; clear c5; simp only [Option.some.injEq, Prod.mk.injEq] at H; obtain ⟨rfl, rfl⟩ := H
    go_wp2
    go_ret
    exact ⟨eQ, by repeat (first | (with_reducible first | exact HI0.out | apply IsS87.alloc | apply IsS87.drewN | apply IsS87.drew | apply IsS87.set_2) | exact HI0.out), by repeat (first | (with_reducible first | exact HB.out | apply below_alloc | apply pw_below_drewN | apply below_drew1 | refine below_set ?_ (IsS87.ge HI0.out)) | exact HB.out), by repeat (first | (with_reducible first | exact HK.out | apply KeepBut.set_ | apply keep_drewN | apply keep_drew | apply keep_alloc) | exact HK.out)⟩
   rw [if_pos c5] at H; have c5b0 : decide (x16_1 < (s0_0.length : Int)) = true := decide_eq_true c5; clear c5; by_cases c6 : 0 ≤ x16_1; rotate_left
   ·rw [if_neg c6] at H
    exact absurd H (by simp)
   rw [if_pos c6] at H; have c6b0 : decide (0 ≤ x16_1) = true := decide_eq_true c6; clear c6; by_cases c7 : x16_1 < (s0_0.length : Int); rotate_left
   ·rw [if_neg c7] at H
    exact absurd H (by simp)
   rw [if_pos c7] at H; have c7b0 : decide (x16_1 < (s0_0.length : Int)) = true := decide_eq_true c7; clear c7; replace H := Option.bind_eq_some_iff.mp H; obtain ⟨⟨t102, t103⟩, A80, H⟩ := H; (try dsimp only at H); have A8 := A_ A80; clear A80; by_cases c9 : x16_1 = a2
   ·rw [if_pos c9] at H
    have c9b0 : (x16_1 == a2) = true := beq_iff_eq.mpr c9; have c9b1 : (x16_1 != a2) = false := bne_eq_false_iff_eq.mpr c9; clear c9; by_cases c10 : x16_1 < (s0_1.length : Int); rotate_left
    ·rw [if_neg c10] at H
     exact absurd H (by simp)
    rw [if_pos c10] at H; have c10b0 : decide (x16_1 < (s0_1.length : Int)) = true := decide_eq_true c10; clear c10; have H' := A_ H; clear H; obtain ⟨ASz11_0, cSz11_0, ASz11_1, cSz11_1, HGz11, hgz11, ⟨HSz11_0, HSLz11_0⟩, ⟨HSz11_1, HSLz11_1⟩⟩ := HI0.out; have hcz11_0 := cellS87_0 HGz11; have hcz11_1 := cellS87_1 HGz11; have hcz11_2 := cellS87_2 HGz11; have hfz11_2 := blk_frozen HGz11 2; clear HGz11 hgz11; have p101 : 0 ≤ (x16_1 : Int) := oD; have q101 : x16_1 < (s0_0.length : Int) := oD; obtain ⟨ad101, e101, hx101_0⟩ := Kd.at_int HSz4_0 x16_1 p101 q101
    cases e101
    replace hx101_0 := pw_cell_below HB.out hx101_0; replace p101 := eq_true p101; replace q101 := eq_true q101
    go_wp2_with (first | ((with_reducible refine gate_callee (f := 83) rfl ?_); refine goesW_ (some 24) Try.func83 #[.pointer (some ⟨g, 0, none⟩), .int .i64 a1, .int .i64 x16_1] ?_; (with_reducible refine (ice_game_digit.calls g s0_0 s0_1 x1002_1 a1 x16_1 t102 t103 w0 _ ?side1 ?side2 A8.out).mono ?_); (case side1 => repeat (first | (with_reducible first | exact HI0.out | apply IsS87.alloc | apply IsS87.drewN | apply IsS87.drew | apply IsS87.set_2) | exact HI0.out)); (case side2 => repeat (first | (with_reducible first | exact HB.out | apply below_alloc | apply pw_below_drewN | apply below_drew1 | refine below_set ?_ (IsS87.ge HI0.out)) | exact HB.out)); rintro e w12 ⟨rfl, hi, hb, hk⟩; refine ⟨_, rfl, ?_⟩; have n0_ := A_ (KeepBut.trans (by repeat (first | (with_reducible first | exact HK.out | apply KeepBut.set_ | apply keep_drewN | apply keep_drew | apply keep_alloc) | exact HK.out)) hk (.inl rfl)); have n1_ := A_ (hb); have n2_ := A_ (hi); clear HK; clear HB; clear HI0; have HK := n0_; have HB := n1_; have HI0 := n2_; clear n0_ n1_ n2_; (try clear hb); (try clear hk); (try clear hi); obtain ⟨ASz13_0, cSz13_0, ASz13_1, cSz13_1, HGz13, hgz13, ⟨HSz13_0, HSLz13_0⟩, ⟨HSz13_1, HSLz13_1⟩⟩ := HI0.out; have hcz13_0 := cellS87_0 HGz13; have hcz13_1 := cellS87_1 HGz13; have hcz13_2 := cellS87_2 HGz13; have hfz13_2 := blk_frozen HGz13 2; clear HGz13 hgz13; have p104 : 0 ≤ (x16_1 : Int) := oD; have q104 : x16_1 < (s0_1.length : Int) := oD; obtain ⟨ad104, e104, hx104_0⟩ := Kd.at_int HSz13_1 x16_1 p104 q104; cases e104; replace hx104_0 := pw_cell_below HB.out hx104_0; replace p104 := eq_true p104; replace q104 := eq_true q104))
    go_roundg k1
    case measure => have := HK1.out; omega
    case rel => exact ⟨(wrap64 (x7_1 + (wrap64 ((wrap64 ((rd s0_0 x16_1) - 1)) * (rd s0_1 x16_1))))), (wrap64 (x16_1 + 1)), (t103), eS, eS, H', ⟨by have := HK1.out; omega⟩, ⟨by repeat (first | (with_reducible first | exact HI0.out | apply IsS87.alloc | apply IsS87.drewN | apply IsS87.drew | apply IsS87.set_2) | exact HI0.out)⟩, ⟨by repeat (first | (with_reducible first | exact HK.out | apply KeepBut.set_ | apply keep_drewN | apply keep_drew | apply keep_alloc) | exact HK.out)⟩, ⟨by repeat (first | (with_reducible first | exact HB.out | apply below_alloc | apply pw_below_drewN | apply below_drew1 | refine below_set ?_ (IsS87.ge HI0.out)) | exact HB.out)⟩⟩
   rw [if_neg c9] at H; have c9b0 : (x16_1 == a2) = false := beq_eq_false_iff_ne.mpr c9; have c9b1 : (x16_1 != a2) = true := bne_iff_ne.mpr c9; by_cases c14 : (wrap64 (t102 - 1)) = 0
   ·rw [if_pos c14] at H
    have c14b0 : ((wrap64 (t102 - 1)) == 0) = true := beq_iff_eq.mpr c14; have c14b1 : ((wrap64 (t102 - 1)) != 0) = false := bne_eq_false_iff_eq.mpr c14; clear c14; simp only [Option.some.injEq, Prod.mk.injEq] at H; obtain ⟨rfl, rfl⟩ := H; obtain ⟨ASz15_0, cSz15_0, ASz15_1, cSz15_1, HGz15, hgz15, ⟨HSz15_0, HSLz15_0⟩, ⟨HSz15_1, HSLz15_1⟩⟩ := HI0.out; have hcz15_0 := cellS87_0 HGz15; have hcz15_1 := cellS87_1 HGz15; have hcz15_2 := cellS87_2 HGz15; have hfz15_2 := blk_frozen HGz15 2; clear HGz15 hgz15; have p101 : 0 ≤ (x16_1 : Int) := oD; have q101 : x16_1 < (s0_0.length : Int) := oD; obtain ⟨ad101, e101, hx101_0⟩ := Kd.at_int HSz4_0 x16_1 p101 q101
    cases e101
    replace hx101_0 := pw_cell_below HB.out hx101_0; replace p101 := eq_true p101; replace q101 := eq_true q101
    go_wp2_with (first | ((with_reducible refine gate_callee (f := 83) rfl ?_); refine goesW_ (some 24) Try.func83 #[.pointer (some ⟨g, 0, none⟩), .int .i64 a1, .int .i64 x16_1] ?_; (with_reducible refine (ice_game_digit.calls g s0_0 s0_1 x1002_1 a1 x16_1 t102 t103 w0 _ ?side1 ?side2 A8.out).mono ?_); (case side1 => repeat (first | (with_reducible first | exact HI0.out | apply IsS87.alloc | apply IsS87.drewN | apply IsS87.drew | apply IsS87.set_2) | exact HI0.out)); (case side2 => repeat (first | (with_reducible first | exact HB.out | apply below_alloc | apply pw_below_drewN | apply below_drew1 | refine below_set ?_ (IsS87.ge HI0.out)) | exact HB.out)); rintro e w16 ⟨rfl, hi, hb, hk⟩; refine ⟨_, rfl, ?_⟩; have n0_ := A_ (KeepBut.trans (by repeat (first | (with_reducible first | exact HK.out | apply KeepBut.set_ | apply keep_drewN | apply keep_drew | apply keep_alloc) | exact HK.out)) hk (.inl rfl)); have n1_ := A_ (hb); have n2_ := A_ (hi); clear HK; clear HB; clear HI0; have HK := n0_; have HB := n1_; have HI0 := n2_; clear n0_ n1_ n2_; (try clear hb); (try clear hk); (try clear hi)))
    go_ret
    exact ⟨eQ, by repeat (first | (with_reducible first | exact HI0.out | apply IsS87.alloc | apply IsS87.drewN | apply IsS87.drew | apply IsS87.set_2) | exact HI0.out), by repeat (first | (with_reducible first | exact HB.out | apply below_alloc | apply pw_below_drewN | apply below_drew1 | refine below_set ?_ (IsS87.ge HI0.out)) | exact HB.out), by repeat (first | (with_reducible first | exact HK.out | apply KeepBut.set_ | apply keep_drewN | apply keep_drew | apply keep_alloc) | exact HK.out)⟩
   rw [if_neg c14] at H; have c14b0 : ((wrap64 (t102 - 1)) == 0) = false := beq_eq_false_iff_ne.mpr c14; have c14b1 : ((wrap64 (t102 - 1)) != 0) = true := bne_iff_ne.mpr c14; by_cases c17 : x16_1 < (s0_1.length : Int); rotate_left
   ·rw [if_neg c17] at H
    exact absurd H (by simp)
   rw [if_pos c17] at H; have c17b0 : decide (x16_1 < (s0_1.length : Int)) = true := decide_eq_true c17; clear c17; have H' := A_ H; clear H; obtain ⟨ASz18_0, cSz18_0, ASz18_1, cSz18_1, HGz18, hgz18, ⟨HSz18_0, HSLz18_0⟩, ⟨HSz18_1, HSLz18_1⟩⟩ := HI0.out; have hcz18_0 := cellS87_0 HGz18; have hcz18_1 := cellS87_1 HGz18; have hcz18_2 := cellS87_2 HGz18; have hfz18_2 := blk_frozen HGz18 2; clear HGz18 hgz18; have p101 : 0 ≤ (x16_1 : Int) := oD; have q101 : x16_1 < (s0_0.length : Int) := oD; obtain ⟨ad101, e101, hx101_0⟩ := Kd.at_int HSz4_0 x16_1 p101 q101
   cases e101
   replace hx101_0 := pw_cell_below HB.out hx101_0; replace p101 := eq_true p101; replace q101 := eq_true q101
   go_wp2_with (first | ((with_reducible refine gate_callee (f := 83) rfl ?_); refine goesW_ (some 24) Try.func83 #[.pointer (some ⟨g, 0, none⟩), .int .i64 a1, .int .i64 x16_1] ?_; (with_reducible refine (ice_game_digit.calls g s0_0 s0_1 x1002_1 a1 x16_1 t102 t103 w0 _ ?side1 ?side2 A8.out).mono ?_); (case side1 => repeat (first | (with_reducible first | exact HI0.out | apply IsS87.alloc | apply IsS87.drewN | apply IsS87.drew | apply IsS87.set_2) | exact HI0.out)); (case side2 => repeat (first | (with_reducible first | exact HB.out | apply below_alloc | apply pw_below_drewN | apply below_drew1 | refine below_set ?_ (IsS87.ge HI0.out)) | exact HB.out)); rintro e w19 ⟨rfl, hi, hb, hk⟩; refine ⟨_, rfl, ?_⟩; have n0_ := A_ (KeepBut.trans (by repeat (first | (with_reducible first | exact HK.out | apply KeepBut.set_ | apply keep_drewN | apply keep_drew | apply keep_alloc) | exact HK.out)) hk (.inl rfl)); have n1_ := A_ (hb); have n2_ := A_ (hi); clear HK; clear HB; clear HI0; have HK := n0_; have HB := n1_; have HI0 := n2_; clear n0_ n1_ n2_; (try clear hb); (try clear hk); (try clear hi); obtain ⟨ASz20_0, cSz20_0, ASz20_1, cSz20_1, HGz20, hgz20, ⟨HSz20_0, HSLz20_0⟩, ⟨HSz20_1, HSLz20_1⟩⟩ := HI0.out; have hcz20_0 := cellS87_0 HGz20; have hcz20_1 := cellS87_1 HGz20; have hcz20_2 := cellS87_2 HGz20; have hfz20_2 := blk_frozen HGz20 2; clear HGz20 hgz20; have p105 : 0 ≤ (x16_1 : Int) := oD; have q105 : x16_1 < (s0_1.length : Int) := oD; obtain ⟨ad105, e105, hx105_0⟩ := Kd.at_int HSz20_1 x16_1 p105 q105; cases e105; replace hx105_0 := pw_cell_below HB.out hx105_0; replace p105 := eq_true p105; replace q105 := eq_true q105))
   go_roundg k1
   case measure => have := HK1.out; omega
   case rel => exact ⟨(wrap64 (x7_1 + (wrap64 ((wrap64 ((wrap64 (t102 - 1)) - 1)) * (rd s0_1 x16_1))))), (wrap64 (x16_1 + 1)), (t103), eS, eS, H', ⟨by have := HK1.out; omega⟩, ⟨by repeat (first | (with_reducible first | exact HI0.out | apply IsS87.alloc | apply IsS87.drewN | apply IsS87.drew | apply IsS87.set_2) | exact HI0.out)⟩, ⟨by repeat (first | (with_reducible first | exact HK.out | apply KeepBut.set_ | apply keep_drewN | apply keep_drew | apply keep_alloc) | exact HK.out)⟩, ⟨by repeat (first | (with_reducible first | exact HB.out | apply below_alloc | apply pw_below_drewN | apply below_drew1 | refine below_set ?_ (IsS87.ge HI0.out)) | exact HB.out)⟩⟩
mutual
def ice_game_before.l0 : Nat → List Bool → List Bool → Int → Int → List Int → List Int → Int → Option (List Bool × Int)
 | 0, _, _, _, _, _, _, _ => none
 | k + 1, x1, x5, x15, x16, x1000, x1001, x1002 => if x16 < x15 then (ice_game_before.l1 k x1 x5 x16 (-1) x15 x16 x1000 x1001 x1002) else (some (x5, x1002))
def ice_game_before.l1 : Nat → List Bool → List Bool → Int → Int → Int → Int → List Int → List Int → Int → Option (List Bool × Int)
 | 0, _, _, _, _, _, _, _, _, _ => none
 | k + 1, x1, x5, x6, x7, x15, x16, x1000, x1001, x1002 => if x7 < (x1000.length : Int) then (if 0 ≤ x6 then (if x6 < (x5.length : Int) then (if rdOf false x5 x6 = true then (ice_game_before.l0 k x1 x5 x15 (wrap64 (x16 + 1)) x1000 x1001 x1002) else ((ice_game_tonight.f k x1000 x1001 x1002 x6 x7).bind fun bt105 => (if bt105.1 = (-1) then (ice_game_before.l1 k x1 (x5.set (x6 : Int).toNat false) x6 (wrap64 (x7 + 1)) x15 x16 x1000 x1001 bt105.2) else (if 0 ≤ bt105.1 then (if bt105.1 < (x1.length : Int) then (ice_game_before.l1 k x1 (x5.set (x6 : Int).toNat (rdOf false x1 bt105.1)) x6 (wrap64 (x7 + 1)) x15 x16 x1000 x1001 bt105.2) else (none)) else (none))))) else (none)) else (none)) else (ice_game_before.l0 k x1 x5 x15 (wrap64 (x16 + 1)) x1000 x1001 x1002)
end
def ice_game_before.f (k : Nat) (s0_0 : List Int) (s0_1 : List Int) (s0_2 : Int) (l1 : List Bool) : Option (List Bool × Int) := if 0 ≤ s0_2 then (if (s0_2 : Int).toNat ≤ 281474976710656 then ((some (List.replicate (s0_2 : Int).toNat false : List Bool)).bind fun y101 => (ice_game_before.l0 k l1 y101 (y101.length : Int) 0 s0_0 s0_1 s0_2)) else (none)) else (none)
theorem ice_game_before.mono_l : ∀ k, (∀ y0 y1 y2 y3 y4 y5 y6, LeO (ice_game_before.l0 k y0 y1 y2 y3 y4 y5 y6) (ice_game_before.l0 (k + 1) y0 y1 y2 y3 y4 y5 y6)) ∧ (∀ y0 y1 y2 y3 y4 y5 y6 y7 y8, LeO (ice_game_before.l1 k y0 y1 y2 y3 y4 y5 y6 y7 y8) (ice_game_before.l1 (k + 1) y0 y1 y2 y3 y4 y5 y6 y7 y8))
 | 0 => ⟨fun _ _ _ _ _ _ _ r h => by simp [ice_game_before.l0] at h, fun _ _ _ _ _ _ _ _ _ r h => by simp [ice_game_before.l1] at h⟩
 | k + 1 => by
  obtain ⟨ih0, ih1⟩ := ice_game_before.mono_l k
  refine ⟨?_, ?_⟩
  ·intro y0 y1 y2 y3 y4 y5 y6
   unfold ice_game_before.l0
   repeat' first
   | (with_reducible exact ih0 _ _ _ _ _ _ _)
   | (with_reducible exact ih1 _ _ _ _ _ _ _ _ _)
   | (with_reducible exact ice_game_tonight.mono _ _ _ _ _ _)
   | (with_reducible exact LeO.refl _)
   | (with_reducible exact LeO.none _)
   | (with_reducible refine LeO.ite ?_ ?_)
   | (with_reducible refine LeO.bind ?_ (fun _ => ?_))
   | exact ih0 _ _ _ _ _ _ _
   | exact ih1 _ _ _ _ _ _ _ _ _
   | exact ice_game_tonight.mono _ _ _ _ _ _
   | exact LeO.none _
   | refine LeO.ite ?_ ?_
   | refine LeO.bind ?_ (fun _ => ?_)
  ·intro y0 y1 y2 y3 y4 y5 y6 y7 y8
   unfold ice_game_before.l1
   repeat' first
   | (with_reducible exact ih0 _ _ _ _ _ _ _)
   | (with_reducible exact ih1 _ _ _ _ _ _ _ _ _)
   | (with_reducible exact ice_game_tonight.mono _ _ _ _ _ _)
   | (with_reducible exact LeO.refl _)
   | (with_reducible exact LeO.none _)
   | (with_reducible refine LeO.ite ?_ ?_)
   | (with_reducible refine LeO.bind ?_ (fun _ => ?_))
   | exact ih0 _ _ _ _ _ _ _
   | exact ih1 _ _ _ _ _ _ _ _ _
   | exact ice_game_tonight.mono _ _ _ _ _ _
   | exact LeO.none _
   | refine LeO.ite ?_ ?_
   | refine LeO.bind ?_ (fun _ => ?_)
theorem ice_game_before.mono : ∀ a0 a1 a2 a3 k, LeO (ice_game_before.f k a0 a1 a2 a3) (ice_game_before.f (k + 1) a0 a1 a2 a3) := by
 intro a0 a1 a2 a3 k
 obtain ⟨ih0, ih1⟩ := ice_game_before.mono_l k
 unfold ice_game_before.f
 repeat' first
   | (with_reducible exact ih0 _ _ _ _ _ _ _)
   | (with_reducible exact ih1 _ _ _ _ _ _ _ _ _)
   | (with_reducible exact ice_game_tonight.mono _ _ _ _ _ _)
   | (with_reducible exact LeO.refl _)
   | (with_reducible exact LeO.none _)
   | (with_reducible refine LeO.ite ?_ ?_)
   | (with_reducible refine LeO.bind ?_ (fun _ => ?_))
   | exact ih0 _ _ _ _ _ _ _
   | exact ih1 _ _ _ _ _ _ _ _ _
   | exact ice_game_tonight.mono _ _ _ _ _ _
   | exact LeO.none _
   | refine LeO.ite ?_ ?_
   | refine LeO.bind ?_ (fun _ => ?_)
set_option maxHeartbeats 8000000 in
set_option maxRecDepth 100000 in
theorem ice_game_before.calls (k : Nat) (g : Nat) (s0_0 : List Int) (s0_1 : List Int) (s0_2 : Int) (A1 : Option Addr) (c1 : Nat) (l1 : List Bool) (r1 : List Bool) (r2 : Int) (w0 w : World) (hI : IsS87 w0 w g s0_0 s0_1 s0_2) (hB : Below w0.heap.size w0 w) (hr1 : Kd.C Kd.bool w A1 l1.length l1) (hc1 : l1.length ≤ c1) (hf1 : ∀ ad, A1 = some ad → 0 < l1.length → ad.block ≠ g) (h : ice_game_before.f k s0_0 s0_1 s0_2 l1 = some (r1, r2)) :
  Calls Try.prog 57 #[.pointer (some ⟨g, 0, none⟩), .slice A1 l1.length c1] w fun e w' => ∃ v0_ : Value, e = .returned (v0_) ∧ Kd.R Kd.bool 4 w' w.heap.size (fun _ => True) v0_ r1 ∧ IsS87 w0 w' g s0_0 s0_1 r2 ∧ Below w0.heap.size w0 w' ∧ KeepBut w w' g none := by
 have HR1 := A_ hr1; have HC1 := A_ hc1; clear hr1 hc1; have HI0 := A_ hI; have HK := A_ (KeepBut.refl w g none); have HL := A_ hB.size; clear hI; have HW0 := A_ hB.size; have HB := A_ hB; clear hB
 have H : (if 0 ≤ s0_2 then (if (s0_2 : Int).toNat ≤ 281474976710656 then ((some (List.replicate (s0_2 : Int).toNat false : List Bool)).bind fun y101 => (ice_game_before.l0 k l1 y101 (y101.length : Int) 0 s0_0 s0_1 s0_2)) else (none)) else (none)) = some (r1, r2) := h
 clear h; by_cases c3 : 0 ≤ s0_2; rotate_left
 ·rw [if_neg c3] at H
  exact absurd H (by simp)
 rw [if_pos c3] at H; have c3b0 := eq_true c3; have c3b1 : decide (0 ≤ s0_2) = true := decide_eq_true c3; clear c3; by_cases c4 : (s0_2 : Int).toNat ≤ 281474976710656; rotate_left
 ·rw [if_neg c4] at H
  exact absurd H (by simp)
 rw [if_pos c4] at H; have c4b0 := eq_true c4; have c4b1 : decide ((s0_2 : Int).toNat ≤ 281474976710656) = true := decide_eq_true c4; clear c4; obtain ⟨y101, hy101⟩ : ∃ y_ : List Bool, y_ = (List.replicate (s0_2 : Int).toNat false) := ⟨_, rfl⟩
 replace H : (ice_game_before.l0 k l1 y101 (y101.length : Int) 0 s0_0 s0_1 s0_2) = some (r1, r2) := by first | (rw [hy101]; with_reducible exact H) | (have H2_ := (Option.bind_some _ _).symm.trans H; rw [hy101]; with_reducible exact H2_) | (have H2_ := (Option.bind_some _ _).symm.trans H; with_reducible exact H2_) | with_reducible exact H | (rw [hy101]; exact H) | exact H
 have Ny101 := A_ hy101; clear hy101; have H' := A_ H; clear H; obtain ⟨ASz5_0, cSz5_0, ASz5_1, cSz5_1, HGz5, hgz5, ⟨HSz5_0, HSLz5_0⟩, ⟨HSz5_1, HSLz5_1⟩⟩ := HI0.out; have hcz5_0 := cellS87_0 HGz5; have hcz5_1 := cellS87_1 HGz5; have hcz5_2 := cellS87_2 HGz5; have hfz5_2 := blk_frozen HGz5 2; clear HGz5 hgz5
 go_enter Try.func57, Try.ntmps57
 go_wp2_with (first | ((with_reducible refine gate_dst (N := 13) rfl ?_); refine Kd.R_make Kd.bool _ 4 rfl (N := 13) rfl 56 _ _ rfl s0_2 rfl rfl Try.underlying56 (.bool false) 1 info4 rfl (by decide) (by omega) false (ok := fun _ => True) (okp := fun _ => True) rfl (fun _ hk => hk) trivial (oD) (Nat.le_trans (Nat.mul_le_mul_right _ (oD : s0_2.toNat ≤ 281474976710656)) (by omega)) (Below.refl _ _) (Nat.le_refl _) ?_; intro v102 w6 ho7 hb hg_ hnew_; clear hg_ hnew_; (first | rw [← Ny101.out] at ho7 | (simp only [Int.reduceToNat] at ho7; rw [← Ny101.out] at ho7)); have n0_ := A_ (Kd.R_lower ho7 (keep_size (w := w) (g := g) (row := none) (by repeat (first | (with_reducible first | exact HK.out | apply KeepBut.set_ | apply keep_drewN | apply keep_drew | apply keep_alloc) | exact HK.out)))); have n1_ := A_ (IsS87.below (by repeat (first | (with_reducible first | exact HI0.out | apply IsS87.alloc | apply IsS87.drewN | apply IsS87.drew | apply IsS87.set_2) | exact HI0.out)) hb); have n2_ := A_ (KeepBut.trans (by repeat (first | (with_reducible first | exact HK.out | apply KeepBut.set_ | apply keep_drewN | apply keep_drew | apply keep_alloc) | exact HK.out)) (KeepBut.of_below hb g none) (.inl rfl)); have n3_ := A_ (below_step (by repeat (first | (with_reducible first | exact HB.out | apply below_alloc | apply pw_below_drewN | apply below_drew1 | refine below_set ?_ (IsS87.ge HI0.out)) | exact HB.out)) hb); clear HI0; clear HK; clear HB; have HO103 := n0_; have HI0 := n1_; have HK := n2_; have HB := n3_; clear n0_ n1_ n2_ n3_; clear hb ho7; obtain ⟨Ao8, co8, eo8⟩ := Kd.R_slice HO103.out; subst eo8))
 go_loopg [16] k (fun kq v16 w' => ∃ (x5_1 : List Bool) (x16_1 : Int) (x1002_1 : Int), v16 = .int .i64 x16_1 ∧ Aside0 (ice_game_before.l0 kq l1 x5_1 (y101.length : Int) x16_1 s0_0 s0_1 x1002_1 = some (r1, r2)) ∧ Aside0 (kq ≤ k) ∧ Aside0 (Kd.R Kd.bool 4 w' w.heap.size (fun _ => True) (.slice Ao8 y101.length co8) x5_1) ∧ Aside0 (IsS87 w0 w' g s0_0 s0_1 x1002_1) ∧ Aside0 (KeepBut w w' g none) ∧ Aside0 (Below w0.heap.size w0 w'))
 case atStart => exact ⟨(y101), (0), (s0_2), eS, H', ⟨Nat.le_refl _⟩, ⟨rU HO103.out⟩, ⟨by repeat (first | (with_reducible first | exact HI0.out | apply IsS87.alloc | apply IsS87.drewN | apply IsS87.drew | apply IsS87.set_2) | exact HI0.out)⟩, ⟨by repeat (first | (with_reducible first | exact HK.out | apply KeepBut.set_ | apply keep_drewN | apply keep_drew | apply keep_alloc) | exact HK.out)⟩, ⟨by repeat (first | (with_reducible first | exact HB.out | apply below_alloc | apply pw_below_drewN | apply below_drew1 | refine below_set ?_ (IsS87.ge HI0.out)) | exact HB.out)⟩⟩
 case round =>
  clear H'
  try clear c1; try clear p2; try clear c3; try clear c3b0; try clear c3b1; try clear c4; try clear c4b0; try clear c4b1; try clear c5; try clear hcz5_0; try clear hcz5_1; try clear hcz5_2; try clear hfz5_2
  obtain ⟨x5_1, x16_1, x1002_1, rfl, HA, HK1, HO_5, HI0, HK, HB⟩ := hrel; have hl5_1 := (Kd.R_reads' HO_5.out).1; rw [hl5_1] at HO_5
  (try simp only [hl5_1])
  cases gk with
  | zero => exact absurd HA.out (by simp [ice_game_before.l0])
  | succ k1 =>
   have H := HA.out; clear HA; simp only [ice_game_before.l0] at H; by_cases c9 : x16_1 < (y101.length : Int); rotate_left
   ·rw [if_neg c9] at H
    have c9b0 : decide (x16_1 < (y101.length : Int)) = false := decide_eq_false c9
    (try (have c9b0h := c9b0; simp only [hl5_1] at c9b0h))
    clear c9; simp only [Option.some.injEq, Prod.mk.injEq] at H; obtain ⟨rfl, rfl⟩ := H
    go_wp2
    go_ret
    exact ⟨_, by first | rfl | (simp [errW_none, errW_some] <;> rfl) | (simp [*, errW_none, errW_some] <;> rfl), by (with_reducible repeat (first | apply Kd.R_alloc | apply Kd.R_drewN | apply Kd.R_drew)); exact HO_5.out, by repeat (first | (with_reducible first | exact HI0.out | apply IsS87.alloc | apply IsS87.drewN | apply IsS87.drew | apply IsS87.set_2) | exact HI0.out), by repeat (first | (with_reducible first | exact HB.out | apply below_alloc | apply pw_below_drewN | apply below_drew1 | refine below_set ?_ (IsS87.ge HI0.out)) | exact HB.out), by repeat (first | (with_reducible first | exact HK.out | apply KeepBut.set_ | apply keep_drewN | apply keep_drew | apply keep_alloc) | exact HK.out)⟩
   rw [if_pos c9] at H; have c9b0 : decide (x16_1 < (y101.length : Int)) = true := decide_eq_true c9
   (try (have c9b0h := c9b0; simp only [hl5_1] at c9b0h))
   clear c9; have H' := A_ H; clear H
   go_wp2
   go_loopg [7] k1 (fun kq v7 w' => ∃ (x5_2 : List Bool) (x7_2 : Int) (x1002_2 : Int), v7 = .int .i64 x7_2 ∧ Aside0 (ice_game_before.l1 kq l1 x5_2 x16_1 x7_2 (y101.length : Int) x16_1 s0_0 s0_1 x1002_2 = some (r1, r2)) ∧ Aside0 (kq ≤ k1) ∧ Aside0 (Kd.R Kd.bool 4 w' w.heap.size (fun _ => True) (.slice Ao8 x5_1.length co8) x5_2) ∧ Aside0 (IsS87 w0 w' g s0_0 s0_1 x1002_2) ∧ Aside0 (KeepBut w w' g none) ∧ Aside0 (Below w0.heap.size w0 w'))
   case atStart => exact ⟨(x5_1), ((-1)), (x1002_1), eS, H', ⟨Nat.le_refl _⟩, ⟨by (try simp only [hl5_1]); (with_reducible repeat (first | apply Kd.R_alloc | apply Kd.R_drewN | apply Kd.R_drew)); exact HO_5.out⟩, ⟨by repeat (first | (with_reducible first | exact HI0.out | apply IsS87.alloc | apply IsS87.drewN | apply IsS87.drew | apply IsS87.set_2) | exact HI0.out)⟩, ⟨by repeat (first | (with_reducible first | exact HK.out | apply KeepBut.set_ | apply keep_drewN | apply keep_drew | apply keep_alloc) | exact HK.out)⟩, ⟨by repeat (first | (with_reducible first | exact HB.out | apply below_alloc | apply pw_below_drewN | apply below_drew1 | refine below_set ?_ (IsS87.ge HI0.out)) | exact HB.out)⟩⟩
   case round =>
    clear H'
    try clear c1; try clear p2; try clear c3; try clear c3b0; try clear c3b1; try clear c4; try clear c4b0; try clear c4b1; try clear c5; try clear c9; try clear c9b0; try clear hcz5_0; try clear hcz5_1; try clear hcz5_2; try clear hfz5_2; try clear p2
    obtain ⟨x5_2, x7_2, x1002_2, rfl, HA, HK2, HO_5, HI0, HK, HB⟩ := hrel; have hl5_2 := (Kd.R_reads' HO_5.out).1; rw [hl5_2] at HO_5
    (try simp only [hl5_2])
    cases gk with
    | zero => exact absurd HA.out (by simp [ice_game_before.l1])
    | succ k2 =>
     have H := HA.out; clear HA; simp only [ice_game_before.l1] at H; by_cases c10 : x7_2 < (s0_0.length : Int); rotate_left
     ·rw [if_neg c10] at H
      have c10b0 : decide (x7_2 < (s0_0.length : Int)) = false := decide_eq_false c10
      (try (have c10b0h := c10b0; simp only [hl5_1, hl5_2] at c10b0h))
      clear c10; have H' := A_ H; clear H; obtain ⟨ASz30_0, cSz30_0, ASz30_1, cSz30_1, HGz30, hgz30, ⟨HSz30_0, HSLz30_0⟩, ⟨HSz30_1, HSLz30_1⟩⟩ := HI0.out; have hcz30_0 := cellS87_0 HGz30; have hcz30_1 := cellS87_1 HGz30; have hcz30_2 := cellS87_2 HGz30; have hfz30_2 := blk_frozen HGz30 2; clear HGz30 hgz30
      go_wp2
      (try simp only [← hl5_1, ← hl5_2])
      go_roundg k2
      case measure => have := HK1.out; have := HK2.out; omega
      case rel => exact ⟨(x5_2), (wrap64 (x16_1 + 1)), (x1002_2), eS, H', ⟨by have := HK1.out; have := HK2.out; omega⟩, ⟨by (try simp only [hl5_1]); (try simp only [hl5_2]); (with_reducible repeat (first | apply Kd.R_alloc | apply Kd.R_drewN | apply Kd.R_drew)); exact HO_5.out⟩, ⟨by repeat (first | (with_reducible first | exact HI0.out | apply IsS87.alloc | apply IsS87.drewN | apply IsS87.drew | apply IsS87.set_2) | exact HI0.out)⟩, ⟨by repeat (first | (with_reducible first | exact HK.out | apply KeepBut.set_ | apply keep_drewN | apply keep_drew | apply keep_alloc) | exact HK.out)⟩, ⟨by repeat (first | (with_reducible first | exact HB.out | apply below_alloc | apply pw_below_drewN | apply below_drew1 | refine below_set ?_ (IsS87.ge HI0.out)) | exact HB.out)⟩⟩
     rw [if_pos c10] at H; have c10b0 : decide (x7_2 < (s0_0.length : Int)) = true := decide_eq_true c10
     (try (have c10b0h := c10b0; simp only [hl5_1, hl5_2] at c10b0h))
     clear c10; by_cases c11 : 0 ≤ x16_1; rotate_left
     ·rw [if_neg c11] at H
      exact absurd H (by simp)
     rw [if_pos c11] at H; have c11b0 : decide (0 ≤ x16_1) = true := decide_eq_true c11; clear c11; by_cases c12 : x16_1 < (x5_2.length : Int); rotate_left
     ·rw [if_neg c12] at H
      exact absurd H (by simp)
     rw [if_pos c12] at H; have c12b0 : decide (x16_1 < (x5_2.length : Int)) = true := decide_eq_true c12
     (try (have c12b0h := c12b0; simp only [hl5_1, hl5_2] at c12b0h))
     clear c12; obtain ⟨bq13, hbq13⟩ : ∃ b_ : Bool, b_ = (rdOf false x5_2 x16_1) := ⟨_, rfl⟩
     replace H : (if bq13 = true then (ice_game_before.l0 k2 l1 x5_2 (y101.length : Int) (wrap64 (x16_1 + 1)) s0_0 s0_1 x1002_2) else ((ice_game_tonight.f k2 s0_0 s0_1 x1002_2 x16_1 x7_2).bind fun bt105 => (if bt105.1 = (-1) then (ice_game_before.l1 k2 l1 (x5_2.set (x16_1 : Int).toNat false) x16_1 (wrap64 (x7_2 + 1)) (y101.length : Int) x16_1 s0_0 s0_1 bt105.2) else (if 0 ≤ bt105.1 then (if bt105.1 < (l1.length : Int) then (ice_game_before.l1 k2 l1 (x5_2.set (x16_1 : Int).toNat (rdOf false l1 bt105.1)) x16_1 (wrap64 (x7_2 + 1)) (y101.length : Int) x16_1 s0_0 s0_1 bt105.2) else (none)) else (none))))) = some (r1, r2) := by rw [← hbq13] at H; exact H
     have Nbq13 := A_ hbq13; clear hbq13; by_cases c14 : bq13 = true
     ·subst c14
      rw [if_pos rfl] at H; have H' := A_ H; clear H; obtain ⟨ASz15_0, cSz15_0, ASz15_1, cSz15_1, HGz15, hgz15, ⟨HSz15_0, HSLz15_0⟩, ⟨HSz15_1, HSLz15_1⟩⟩ := HI0.out; have hcz15_0 := cellS87_0 HGz15; have hcz15_1 := cellS87_1 HGz15; have hcz15_2 := cellS87_2 HGz15; have hfz15_2 := blk_frozen HGz15 2; clear HGz15 hgz15; have p104 : 0 ≤ (x16_1 : Int) := oD; have q104 : x16_1 < (x5_2.length : Int) := oD; obtain ⟨ad104, e104, hx104_0⟩ := Kd.at_bool (Kd.R_reads' HO_5.out).2.2 x16_1 p104 q104
      (try rw [← Nbq13.out] at hx104_0)
      cases e104
      replace p104 := eq_true p104; replace q104 := eq_true q104
      go_wp2
      (try simp only [← hl5_1, ← hl5_2])
      go_roundg k2
      case measure => have := HK1.out; have := HK2.out; omega
      case rel => exact ⟨(x5_2), (wrap64 (x16_1 + 1)), (x1002_2), eS, H', ⟨by have := HK1.out; have := HK2.out; omega⟩, ⟨by (try simp only [hl5_1]); (try simp only [hl5_2]); (with_reducible repeat (first | apply Kd.R_alloc | apply Kd.R_drewN | apply Kd.R_drew)); exact HO_5.out⟩, ⟨by repeat (first | (with_reducible first | exact HI0.out | apply IsS87.alloc | apply IsS87.drewN | apply IsS87.drew | apply IsS87.set_2) | exact HI0.out)⟩, ⟨by repeat (first | (with_reducible first | exact HK.out | apply KeepBut.set_ | apply keep_drewN | apply keep_drew | apply keep_alloc) | exact HK.out)⟩, ⟨by repeat (first | (with_reducible first | exact HB.out | apply below_alloc | apply pw_below_drewN | apply below_drew1 | refine below_set ?_ (IsS87.ge HI0.out)) | exact HB.out)⟩⟩
     replace c14 := Bool.eq_false_iff.mpr c14; subst c14; rw [if_neg (show ¬ (false = true) by decide)] at H; replace H := Option.bind_eq_some_iff.mp H; obtain ⟨⟨t105, t106⟩, A160, H⟩ := H; (try dsimp only at H); have A16 := A_ A160; clear A160; by_cases c17 : t105 = (-1)
     ·rw [if_pos c17] at H
      have c17b0 : (t105 == (-1)) = true := beq_iff_eq.mpr c17; have c17b1 : (t105 != (-1)) = false := bne_eq_false_iff_eq.mpr c17; clear c17; obtain ⟨y107, hy107⟩ : ∃ y_ : List Bool, y_ = (x5_2.set (x16_1 : Int).toNat false) := ⟨_, rfl⟩
      replace H : (ice_game_before.l1 k2 l1 y107 x16_1 (wrap64 (x7_2 + 1)) (y101.length : Int) x16_1 s0_0 s0_1 t106) = some (r1, r2) := by first | (rw [hy107]; with_reducible exact H) | (have H2_ := (Option.bind_some _ _).symm.trans H; rw [hy107]; with_reducible exact H2_) | (have H2_ := (Option.bind_some _ _).symm.trans H; with_reducible exact H2_) | with_reducible exact H | (rw [hy107]; exact H) | exact H
      have Ny107 := A_ hy107; clear hy107; have H' := A_ H; clear H; obtain ⟨ASz19_0, cSz19_0, ASz19_1, cSz19_1, HGz19, hgz19, ⟨HSz19_0, HSLz19_0⟩, ⟨HSz19_1, HSLz19_1⟩⟩ := HI0.out; have hcz19_0 := cellS87_0 HGz19; have hcz19_1 := cellS87_1 HGz19; have hcz19_2 := cellS87_2 HGz19; have hfz19_2 := blk_frozen HGz19 2; clear HGz19 hgz19; have p104 : 0 ≤ (x16_1 : Int) := oD; have q104 : x16_1 < (x5_2.length : Int) := oD; obtain ⟨ad104, e104, hx104_0⟩ := Kd.at_bool (Kd.R_reads' HO_5.out).2.2 x16_1 p104 q104
      (try rw [← Nbq13.out] at hx104_0)
      cases e104
      replace p104 := eq_true p104; replace q104 := eq_true q104
      go_wp2_with (first | ((with_reducible refine gate_callee (f := 61) rfl ?_); refine goesW_ (some 38) Try.func61 #[.pointer (some ⟨g, 0, none⟩), .int .i64 x16_1, .int .i64 x7_2] ?_; (with_reducible refine (ice_game_tonight.calls k2 g s0_0 s0_1 x1002_2 x16_1 x7_2 t105 t106 w0 _ ?side1 ?side2 A16.out).mono ?_); (case side1 => repeat (first | (with_reducible first | exact HI0.out | apply IsS87.alloc | apply IsS87.drewN | apply IsS87.drew | apply IsS87.set_2) | exact HI0.out)); (case side2 => repeat (first | (with_reducible first | exact HB.out | apply below_alloc | apply pw_below_drewN | apply below_drew1 | refine below_set ?_ (IsS87.ge HI0.out)) | exact HB.out)); rintro e w20 ⟨rfl, hi, hb, hk⟩; refine ⟨_, rfl, ?_⟩; have n0_ := A_ (Kd.R_mono (Kd.R_keep (IsS87.apart (show IsS87 w0 _ g s0_0 s0_1 x1002_2 from by repeat (first | (with_reducible first | exact HI0.out | apply IsS87.alloc | apply IsS87.drewN | apply IsS87.drew | apply IsS87.set_2) | exact HI0.out)) (rU HO_5.out) (by decide)) hk (fun _ h => h.2)) (fun _ h => h.1)); have n1_ := A_ (KeepBut.trans (by repeat (first | (with_reducible first | exact HK.out | apply KeepBut.set_ | apply keep_drewN | apply keep_drew | apply keep_alloc) | exact HK.out)) hk (.inl rfl)); have n2_ := A_ (hb); have n3_ := A_ (hi); clear HO_5; clear HK; clear HB; clear HI0; have HO_5 := n0_; have HK := n1_; have HB := n2_; have HI0 := n3_; clear n0_ n1_ n2_ n3_; (try clear hb); (try clear hk); (try clear hi); have p18 : 0 ≤ (x16_1 : Int) := oD; have q18 : (x16_1 : Int) < ((x5_2.length : Int) : Int) := oD; obtain ⟨go18, co18, eo18, gb18, gl18, cl18, HG18⟩ := Kd.R_form HO_5.out (by omega); (first | cases eo18 | (injection eo18 with ea_ en_ ec_; (first | subst ea_ | (injection ea_ with ea_; subst ea_)); subst ec_; clear en_)); have GB18 := A_ gb18; have GG18 := A_ HG18; clear gb18 gl18 HG18; (first | simp only [add_plain] at hx104_0 | skip); obtain ⟨hx18_0, hf18_0⟩ := Kd.R_celln false HO_5.out (x16_1 : Int) p18 q18; replace p18 := eq_true p18; replace q18 := eq_true q18; obtain ⟨hy21_, hz21_⟩ := Kd.R_celln false HO_5.out (x16_1 : Int) (oD) (oD); have HP21 := Kd.R_putg HO_5.out (x16_1 : Int) false) | ((with_reducible refine gate_store (t := 4) (p := 49) rfl ?_); refine store_event (t := 4) (p := 49) (v := ?vo_w22) (w1 := (w20.setCell ⟨go18, (x16_1 : Int).toNat, none⟩ (.bool false))) ?hg ?ho ?hn ?hr ?_; (case ho => rfl); (case hg => rfl); (case hn => rfl); (case hr => first | (go_simp; done) | (go_simp; rfl)); intro w22 hw; have hg : w20.grownBy w22 (some go18) := (by rw [hw]; exact HP21.2); have hp_ : Kd.R Kd.bool 4 w22 w.heap.size (fun _ => True) (.slice (some ⟨go18, 0, none⟩) x5_2.length co8) y107 := (by rw [hw, Ny107.out]; exact HP21.1); clear HP21; have n0_ := A_ (hp_); have n1_ := A_ (IsS87.grown (by repeat (first | (with_reducible first | exact HI0.out | apply IsS87.alloc | apply IsS87.drewN | apply IsS87.drew | apply IsS87.set_2) | exact HI0.out)) hg (IsS87.own_ne HI0.out HO_5.out (by decide))); have n2_ := A_ ((by rw [hw]; exact below_set (HB.out) (Nat.le_trans HL.out GB18.out) : Below w0.heap.size w0 w22)); have n3_ := A_ (KeepBut.trans (by repeat (first | (with_reducible first | exact HK.out | apply KeepBut.set_ | apply keep_drewN | apply keep_drew | apply keep_alloc) | exact HK.out)) (KeepBut.of_grown hg g) (Kd.R_base2 HO_5.out)); clear HO_5; clear HI0; clear HB; clear HK; have HO_5 := n0_; have HI0 := n1_; have HB := n2_; have HK := n3_; clear n0_ n1_ n2_ n3_; clear hg hw hp_))
      (try simp only [← hl5_2])
      go_roundg k2
      case measure => have := HK1.out; have := HK2.out; omega
      case rel => exact ⟨(y107), (wrap64 (x7_2 + 1)), (t106), eS, H', ⟨by have := HK1.out; have := HK2.out; omega⟩, ⟨by (try simp only [hl5_1]); (try simp only [hl5_2]); (with_reducible repeat (first | apply Kd.R_alloc | apply Kd.R_drewN | apply Kd.R_drew)); exact HO_5.out⟩, ⟨by repeat (first | (with_reducible first | exact HI0.out | apply IsS87.alloc | apply IsS87.drewN | apply IsS87.drew | apply IsS87.set_2) | exact HI0.out)⟩, ⟨by repeat (first | (with_reducible first | exact HK.out | apply KeepBut.set_ | apply keep_drewN | apply keep_drew | apply keep_alloc) | exact HK.out)⟩, ⟨by repeat (first | (with_reducible first | exact HB.out | apply below_alloc | apply pw_below_drewN | apply below_drew1 | refine below_set ?_ (IsS87.ge HI0.out)) | exact HB.out)⟩⟩
     rw [if_neg c17] at H; have c17b0 : (t105 == (-1)) = false := beq_eq_false_iff_ne.mpr c17; have c17b1 : (t105 != (-1)) = true := bne_iff_ne.mpr c17; by_cases c23 : 0 ≤ t105; rotate_left
     ·rw [if_neg c23] at H
      exact absurd H (by simp)
     rw [if_pos c23] at H; have c23b0 : decide (0 ≤ t105) = true := decide_eq_true c23; clear c23; by_cases c24 : t105 < (l1.length : Int); rotate_left
     ·rw [if_neg c24] at H
      exact absurd H (by simp)
     rw [if_pos c24] at H; have c24b0 : decide (t105 < (l1.length : Int)) = true := decide_eq_true c24
     (try (have c24b0h := c24b0; simp only [hl5_1, hl5_2] at c24b0h))
     clear c24; obtain ⟨y109, hy109⟩ : ∃ y_ : List Bool, y_ = (x5_2.set (x16_1 : Int).toNat (rdOf false l1 t105)) := ⟨_, rfl⟩
     replace H : (ice_game_before.l1 k2 l1 y109 x16_1 (wrap64 (x7_2 + 1)) (y101.length : Int) x16_1 s0_0 s0_1 t106) = some (r1, r2) := by first | (rw [hy109]; with_reducible exact H) | (have H2_ := (Option.bind_some _ _).symm.trans H; rw [hy109]; with_reducible exact H2_) | (have H2_ := (Option.bind_some _ _).symm.trans H; with_reducible exact H2_) | with_reducible exact H | (rw [hy109]; exact H) | exact H
     have Ny109 := A_ hy109; clear hy109; have H' := A_ H; clear H; obtain ⟨ASz26_0, cSz26_0, ASz26_1, cSz26_1, HGz26, hgz26, ⟨HSz26_0, HSLz26_0⟩, ⟨HSz26_1, HSLz26_1⟩⟩ := HI0.out; have hcz26_0 := cellS87_0 HGz26; have hcz26_1 := cellS87_1 HGz26; have hcz26_2 := cellS87_2 HGz26; have hfz26_2 := blk_frozen HGz26 2; clear HGz26 hgz26; have p104 : 0 ≤ (x16_1 : Int) := oD; have q104 : x16_1 < (x5_2.length : Int) := oD; obtain ⟨ad104, e104, hx104_0⟩ := Kd.at_bool (Kd.R_reads' HO_5.out).2.2 x16_1 p104 q104
     (try rw [← Nbq13.out] at hx104_0)
     cases e104
     replace p104 := eq_true p104; replace q104 := eq_true q104
     go_wp2_with (first | ((with_reducible refine gate_callee (f := 61) rfl ?_); refine goesW_ (some 38) Try.func61 #[.pointer (some ⟨g, 0, none⟩), .int .i64 x16_1, .int .i64 x7_2] ?_; (with_reducible refine (ice_game_tonight.calls k2 g s0_0 s0_1 x1002_2 x16_1 x7_2 t105 t106 w0 _ ?side1 ?side2 A16.out).mono ?_); (case side1 => repeat (first | (with_reducible first | exact HI0.out | apply IsS87.alloc | apply IsS87.drewN | apply IsS87.drew | apply IsS87.set_2) | exact HI0.out)); (case side2 => repeat (first | (with_reducible first | exact HB.out | apply below_alloc | apply pw_below_drewN | apply below_drew1 | refine below_set ?_ (IsS87.ge HI0.out)) | exact HB.out)); rintro e w27 ⟨rfl, hi, hb, hk⟩; refine ⟨_, rfl, ?_⟩; have n0_ := A_ (Kd.R_mono (Kd.R_keep (IsS87.apart (show IsS87 w0 _ g s0_0 s0_1 x1002_2 from by repeat (first | (with_reducible first | exact HI0.out | apply IsS87.alloc | apply IsS87.drewN | apply IsS87.drew | apply IsS87.set_2) | exact HI0.out)) (rU HO_5.out) (by decide)) hk (fun _ h => h.2)) (fun _ h => h.1)); have n1_ := A_ (KeepBut.trans (by repeat (first | (with_reducible first | exact HK.out | apply KeepBut.set_ | apply keep_drewN | apply keep_drew | apply keep_alloc) | exact HK.out)) hk (.inl rfl)); have n2_ := A_ (hb); have n3_ := A_ (hi); clear HO_5; clear HK; clear HB; clear HI0; have HO_5 := n0_; have HK := n1_; have HB := n2_; have HI0 := n3_; clear n0_ n1_ n2_ n3_; (try clear hb); (try clear hk); (try clear hi); have p108 : 0 ≤ (t105 : Int) := oD; have q108 : t105 < (l1.length : Int) := oD; obtain ⟨ad108, e108, hx108_0⟩ := Kd.at_bool HR1.out t105 p108 q108; (try rw [← Nbq13.out] at hx108_0); cases e108; replace hx108_0 := keep_cell HK.out hx108_0 (by first | (rw [add_block]; exact hf1 _ rfl (by omega)) | exact hf1 _ rfl (by omega) | exact hf1 ad108 rfl (by omega)); replace p108 := eq_true p108; replace q108 := eq_true q108; have p25 : 0 ≤ (x16_1 : Int) := oD; have q25 : (x16_1 : Int) < ((x5_2.length : Int) : Int) := oD; obtain ⟨go25, co25, eo25, gb25, gl25, cl25, HG25⟩ := Kd.R_form HO_5.out (by omega); (first | cases eo25 | (injection eo25 with ea_ en_ ec_; (first | subst ea_ | (injection ea_ with ea_; subst ea_)); subst ec_; clear en_)); have GB25 := A_ gb25; have GG25 := A_ HG25; clear gb25 gl25 HG25; (first | simp only [add_plain] at hx104_0 | skip); obtain ⟨hx25_0, hf25_0⟩ := Kd.R_celln false HO_5.out (x16_1 : Int) p25 q25; replace p25 := eq_true p25; replace q25 := eq_true q25; obtain ⟨hy28_, hz28_⟩ := Kd.R_celln false HO_5.out (x16_1 : Int) (oD) (oD); have HP28 := Kd.R_putg HO_5.out (x16_1 : Int) (rdOf false l1 t105)) | ((with_reducible refine gate_store (t := 4) (p := 49) rfl ?_); refine store_event (t := 4) (p := 49) (v := ?vo_w29) (w1 := (w27.setCell ⟨go25, (x16_1 : Int).toNat, none⟩ (.bool (rdOf false l1 t105)))) ?hg ?ho ?hn ?hr ?_; (case ho => rfl); (case hg => rfl); (case hn => rfl); (case hr => first | (go_simp; done) | (go_simp; rfl)); intro w29 hw; have hg : w27.grownBy w29 (some go25) := (by rw [hw]; exact HP28.2); have hp_ : Kd.R Kd.bool 4 w29 w.heap.size (fun _ => True) (.slice (some ⟨go25, 0, none⟩) x5_2.length co8) y109 := (by rw [hw, Ny109.out]; exact HP28.1); clear HP28; have n0_ := A_ (hp_); have n1_ := A_ (IsS87.grown (by repeat (first | (with_reducible first | exact HI0.out | apply IsS87.alloc | apply IsS87.drewN | apply IsS87.drew | apply IsS87.set_2) | exact HI0.out)) hg (IsS87.own_ne HI0.out HO_5.out (by decide))); have n2_ := A_ ((by rw [hw]; exact below_set (HB.out) (Nat.le_trans HL.out GB25.out) : Below w0.heap.size w0 w29)); have n3_ := A_ (KeepBut.trans (by repeat (first | (with_reducible first | exact HK.out | apply KeepBut.set_ | apply keep_drewN | apply keep_drew | apply keep_alloc) | exact HK.out)) (KeepBut.of_grown hg g) (Kd.R_base2 HO_5.out)); clear HO_5; clear HI0; clear HB; clear HK; have HO_5 := n0_; have HI0 := n1_; have HB := n2_; have HK := n3_; clear n0_ n1_ n2_ n3_; clear hg hw hp_))
     (try simp only [← hl5_2])
     go_roundg k2
     case measure => have := HK1.out; have := HK2.out; omega
     case rel => exact ⟨(y109), (wrap64 (x7_2 + 1)), (t106), eS, H', ⟨by have := HK1.out; have := HK2.out; omega⟩, ⟨by (try simp only [hl5_1]); (try simp only [hl5_2]); (with_reducible repeat (first | apply Kd.R_alloc | apply Kd.R_drewN | apply Kd.R_drew)); exact HO_5.out⟩, ⟨by repeat (first | (with_reducible first | exact HI0.out | apply IsS87.alloc | apply IsS87.drewN | apply IsS87.drew | apply IsS87.set_2) | exact HI0.out)⟩, ⟨by repeat (first | (with_reducible first | exact HK.out | apply KeepBut.set_ | apply keep_drewN | apply keep_drew | apply keep_alloc) | exact HK.out)⟩, ⟨by repeat (first | (with_reducible first | exact HB.out | apply below_alloc | apply pw_below_drewN | apply below_drew1 | refine below_set ?_ (IsS87.ge HI0.out)) | exact HB.out)⟩⟩
def slices_Equal_bool_bool.l0 : Nat → List Bool → List Bool → Int → Int → Option (Bool)
 | 0, _, _, _, _ => none
 | k + 1, x0, x1, x12, x13 => if x13 < x12 then (if 0 ≤ x13 then (if x13 < (x0.length : Int) then (if x13 < (x1.length : Int) then (if ((rdOf false x0 x13) != (rdOf false x1 x13)) = true then (some false) else (slices_Equal_bool_bool.l0 k x0 x1 x12 (wrap64 (x13 + 1)))) else (none)) else (none)) else (none)) else (some true)
def slices_Equal_bool_bool.f (k : Nat) (l0 : List Bool) (l1 : List Bool) : Option (Bool) := if (l0.length : Int) = (l1.length : Int) then (slices_Equal_bool_bool.l0 k l0 l1 (l0.length : Int) 0) else (some false)
theorem slices_Equal_bool_bool.mono_l : ∀ k, (∀ y0 y1 y2 y3, LeO (slices_Equal_bool_bool.l0 k y0 y1 y2 y3) (slices_Equal_bool_bool.l0 (k + 1) y0 y1 y2 y3))
 | 0 => fun _ _ _ _ r h => by simp [slices_Equal_bool_bool.l0] at h
 | k + 1 => by
  have ih0 := slices_Equal_bool_bool.mono_l k
  ·intro y0 y1 y2 y3
   unfold slices_Equal_bool_bool.l0
   repeat' first
   | (with_reducible exact ih0 _ _ _ _)
   | (with_reducible exact LeO.refl _)
   | (with_reducible exact LeO.none _)
   | (with_reducible refine LeO.ite ?_ ?_)
   | (with_reducible refine LeO.bind ?_ (fun _ => ?_))
   | exact ih0 _ _ _ _
   | exact LeO.none _
   | refine LeO.ite ?_ ?_
   | refine LeO.bind ?_ (fun _ => ?_)
theorem slices_Equal_bool_bool.mono : ∀ a0 a1 k, LeO (slices_Equal_bool_bool.f k a0 a1) (slices_Equal_bool_bool.f (k + 1) a0 a1) := by
 intro a0 a1 k
 have ih0 := slices_Equal_bool_bool.mono_l k
 unfold slices_Equal_bool_bool.f
 repeat' first
   | (with_reducible exact ih0 _ _ _ _)
   | (with_reducible exact LeO.refl _)
   | (with_reducible exact LeO.none _)
   | (with_reducible refine LeO.ite ?_ ?_)
   | (with_reducible refine LeO.bind ?_ (fun _ => ?_))
   | exact ih0 _ _ _ _
   | exact LeO.none _
   | refine LeO.ite ?_ ?_
   | refine LeO.bind ?_ (fun _ => ?_)
set_option maxHeartbeats 8000000 in
set_option maxRecDepth 100000 in
theorem slices_Equal_bool_bool.calls (k : Nat) (A0 : Option Addr) (c0 : Nat) (l0 : List Bool) (A1 : Option Addr) (c1 : Nat) (l1 : List Bool) (r : Bool) (w : World) (hr0 : Kd.C Kd.bool w A0 l0.length l0) (hc0 : l0.length ≤ c0) (hr1 : Kd.C Kd.bool w A1 l1.length l1) (hc1 : l1.length ≤ c1) (h : slices_Equal_bool_bool.f k l0 l1 = some r) :
  Calls Try.prog 58 #[.slice A0 l0.length c0, .slice A1 l1.length c1] w fun e w' => e = .returned (.bool r) ∧ Drawn0 w w' := by
 have HR0 := A_ hr0
 have HC0 := A_ hc0
 clear hr0 hc0
 have HR1 := A_ hr1
 have HC1 := A_ hc1
 clear hr1 hc1
 have H : (if (l0.length : Int) = (l1.length : Int) then (slices_Equal_bool_bool.l0 k l0 l1 (l0.length : Int) 0) else (some false)) = some r := h
 clear h
 by_cases c3 : (l0.length : Int) = (l1.length : Int)
 rotate_left
 ·rw [if_neg c3] at H
  have c3b0 : ((l0.length : Int) == (l1.length : Int)) = false := beq_eq_false_iff_ne.mpr c3
  have c3b1 : ((l0.length : Int) != (l1.length : Int)) = true := bne_iff_ne.mpr c3
  have c3b2 : (l0.length == l1.length) = false := by first | simpa using c3 | (simp at c3 ⊢; omega)
  obtain rfl := Option.some.inj H
  go_enter Try.func58, Try.ntmps58
  go_wp2
  repeat (go_quiet (fail); try go_wp2)
  go_ret
  exact ⟨by first | rfl | (simp; done) | (simp [*]; done), by repeat (first | exact Drawn0.refl _ | apply Drawn0.step)⟩
 rw [if_pos c3] at H
 have c3b0 : ((l0.length : Int) == (l1.length : Int)) = true := beq_iff_eq.mpr c3
 have c3b1 : ((l0.length : Int) != (l1.length : Int)) = false := bne_eq_false_iff_eq.mpr c3
 have c3b2 : (l0.length == l1.length) = true := by first | simpa using c3 | (simp at c3 ⊢; omega)
 clear c3
 have H' := A_ H
 clear H
 go_enter Try.func58, Try.ntmps58
 go_wp2
 repeat (go_quiet (fail); try go_wp2)
 go_loopg [13] k (fun kq v13 w' => ∃ (x13_1 : Int), v13 = .int .i64 x13_1 ∧ Aside0 (slices_Equal_bool_bool.l0 kq l0 l1 (l0.length : Int) x13_1 = some r) ∧ Aside0 (kq ≤ k) ∧ Drawn0 w w')
 case atStart => exact ⟨(0), eS, H', ⟨Nat.le_refl _⟩, by repeat (first | exact Drawn0.refl _ | apply Drawn0.step)⟩
 case round =>
  clear H'
  try clear c1; try clear p2; try clear c3; try clear c3b0; try clear c3b1; try clear c3b2
  obtain ⟨x13_1, rfl, HA, HK1, ⟨m1, rfl⟩⟩ := hrel
  cases gk with
  | zero => exact absurd HA.out (by simp [slices_Equal_bool_bool.l0])
  | succ k1 =>
   have H := HA.out
   clear HA
   simp only [slices_Equal_bool_bool.l0] at H
   by_cases c4 : x13_1 < (l0.length : Int)
   rotate_left
   ·rw [if_neg c4] at H
    have c4b0 : decide (x13_1 < (l0.length : Int)) = false := decide_eq_false c4
    clear c4
    obtain rfl := Option.some.inj H
    go_wp2
    repeat (go_quiet (fail); try go_wp2)
    go_ret
    exact ⟨by first | rfl | (simp; done) | (simp [*]; done), by repeat (first | exact Drawn0.refl _ | apply Drawn0.step)⟩
   rw [if_pos c4] at H
   have c4b0 : decide (x13_1 < (l0.length : Int)) = true := decide_eq_true c4
   clear c4
   by_cases c5 : 0 ≤ x13_1
   rotate_left
   ·rw [if_neg c5] at H
    exact absurd H (by simp)
   rw [if_pos c5] at H
   have c5b0 : decide (0 ≤ x13_1) = true := decide_eq_true c5
   clear c5
   by_cases c6 : x13_1 < (l0.length : Int)
   rotate_left
   ·rw [if_neg c6] at H
    exact absurd H (by simp)
   rw [if_pos c6] at H
   have c6b0 : decide (x13_1 < (l0.length : Int)) = true := decide_eq_true c6
   clear c6
   by_cases c7 : x13_1 < (l1.length : Int)
   rotate_left
   ·rw [if_neg c7] at H
    exact absurd H (by simp)
   rw [if_pos c7] at H
   have c7b0 : decide (x13_1 < (l1.length : Int)) = true := decide_eq_true c7
   clear c7
   by_cases c8 : ((rdOf false l0 x13_1) != (rdOf false l1 x13_1)) = true
   ·rw [if_pos c8] at H
    have c8b0 : ((rdOf false l0 x13_1) != (rdOf false l1 x13_1)) = true := c8
    (try (have c8b1 : decide ((rdOf false l0 x13_1) = (rdOf false l1 x13_1)) = false := by simpa using c8))
    (try (have c8b2 : ((rdOf false l0 x13_1) == (rdOf false l1 x13_1)) = false := by simpa using c8))
    (try (have c8b3 : ¬ ((rdOf false l0 x13_1) = (rdOf false l1 x13_1)) := by simpa using c8))
    clear c8
    obtain rfl := Option.some.inj H
    have p101 : 0 ≤ (x13_1 : Int) := oD
    have q101 : x13_1 < (l0.length : Int) := oD
    obtain ⟨ad101, e101, hx101_0⟩ := Kd.at_bool HR0.out x13_1 p101 q101
    cases e101
    replace p101 := eq_true p101
    replace q101 := eq_true q101
    have p102 : 0 ≤ (x13_1 : Int) := oD
    have q102 : x13_1 < (l1.length : Int) := oD
    obtain ⟨ad102, e102, hx102_0⟩ := Kd.at_bool HR1.out x13_1 p102 q102
    cases e102
    replace p102 := eq_true p102
    replace q102 := eq_true q102
    go_wp2
    repeat (go_quiet (fail); try go_wp2)
    go_ret
    exact ⟨by first | rfl | (simp; done) | (simp [*]; done), by repeat (first | exact Drawn0.refl _ | apply Drawn0.step)⟩
   rw [if_neg c8] at H
   have c8b0 : ((rdOf false l0 x13_1) != (rdOf false l1 x13_1)) = false := by simpa using c8
   (try (have c8b1 : decide ((rdOf false l0 x13_1) = (rdOf false l1 x13_1)) = true := by simpa using c8))
   (try (have c8b2 : ((rdOf false l0 x13_1) == (rdOf false l1 x13_1)) = true := by simpa using c8))
   clear c8
   have H' := A_ H
   clear H
   have p101 : 0 ≤ (x13_1 : Int) := oD
   have q101 : x13_1 < (l0.length : Int) := oD
   obtain ⟨ad101, e101, hx101_0⟩ := Kd.at_bool HR0.out x13_1 p101 q101
   cases e101
   replace p101 := eq_true p101
   replace q101 := eq_true q101
   have p102 : 0 ≤ (x13_1 : Int) := oD
   have q102 : x13_1 < (l1.length : Int) := oD
   obtain ⟨ad102, e102, hx102_0⟩ := Kd.at_bool HR1.out x13_1 p102 q102
   cases e102
   replace p102 := eq_true p102
   replace q102 := eq_true q102
   go_wp2
   repeat (go_quiet (fail); try go_wp2)
   go_roundg k1
   case measure => have := HK1.out; omega
   case rel => exact ⟨(wrap64 (x13_1 + 1)), eS, H', ⟨by have := HK1.out; omega⟩, by repeat (first | exact Drawn0.refl _ | apply Drawn0.step)⟩
def ice_game_first.f (s0_0 : List Int) (s0_1 : List Int) (s0_2 : Int) : Option (Int × Int) := some (wrap64 (s0_2 - 1), s0_2)
set_option maxHeartbeats 8000000 in
set_option maxRecDepth 100000 in
theorem ice_game_first.calls (g : Nat) (s0_0 : List Int) (s0_1 : List Int) (s0_2 : Int) (r1 : Int) (r2 : Int) (w0 w : World) (hI : IsS87 w0 w g s0_0 s0_1 s0_2) (hB : Below w0.heap.size w0 w) (h : ice_game_first.f s0_0 s0_1 s0_2 = some (r1, r2)) :
  Calls Try.prog 59 #[.pointer (some ⟨g, 0, none⟩)] w fun e w' => e = .returned (.int .i64 r1) ∧ IsS87 w0 w' g s0_0 s0_1 r2 ∧ Below w0.heap.size w0 w' ∧ KeepBut w w' g none := by
 have HI0 := A_ hI
 have HK := A_ (KeepBut.refl w g none)
 have HL := A_ hB.size
 clear hI
 have HW0 := A_ hB.size
 have HB := A_ hB
 clear hB
 have H : (some (wrap64 (s0_2 - 1), s0_2)) = some (r1, r2) := h
 clear h
 simp only [Option.some.injEq, Prod.mk.injEq] at H
 obtain ⟨rfl, rfl⟩ := H
 obtain ⟨ASz2_0, cSz2_0, ASz2_1, cSz2_1, HGz2, hgz2, ⟨HSz2_0, HSLz2_0⟩, ⟨HSz2_1, HSLz2_1⟩⟩ := HI0.out
 have hcz2_0 := cellS87_0 HGz2
 have hcz2_1 := cellS87_1 HGz2
 have hcz2_2 := cellS87_2 HGz2
 have hfz2_2 := blk_frozen HGz2 2
 clear HGz2 hgz2
 go_enter Try.func59, Try.ntmps59
 go_wp2
 go_ret
 exact ⟨eQ, by repeat (first | (with_reducible first | exact HI0.out | apply IsS87.alloc | apply IsS87.drewN | apply IsS87.drew | apply IsS87.set_2) | exact HI0.out), by repeat (first | (with_reducible first | exact HB.out | apply below_alloc | apply pw_below_drewN | apply below_drew1 | refine below_set ?_ (IsS87.ge HI0.out)) | exact HB.out), by repeat (first | (with_reducible first | exact HK.out | apply KeepBut.set_ | apply keep_drewN | apply keep_drew | apply keep_alloc) | exact HK.out)⟩
end Go.Proofs.Ythbpibdfookbmaa.G
end
