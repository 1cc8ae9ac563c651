/- Functions of the seat and plain laws about them: GF87, GF73, GF74, GF35. -/
import Derived.Test.YthbpibdfookbmaaGBase
import Derived.Test.YthbpibdfookbmaaZT2
import Derived.Test.YthbpibdfookbmaaZT0
import Derived.Test.YthbpibdfookbmaaZT3
section
namespace Go.Proofs.Ythbpibdfookbmaa.G
open Go.RowKit Go.Proofs.YthbpibdfookbmaaW.PrintWords Go.Proofs.YthbpibdfookbmaaW.PrintLast Go.Proofs.YthbpibdfookbmaaW.PrintMore
attribute [local go_sem] max2_int min2_int max_two min_two max_three min_three max_four min_four
set_option linter.unusedVariables false
set_option linter.unusedSimpArgs false
def ice_game_number.l0 : Nat → Int → List Int → Int → Int → List Int → List Int → Int → Option (Int × Int)
 | 0, _, _, _, _, _, _, _ => none
 | k + 1, x5, x8, x9, x10, x1000, x1001, x1002 => if x10 < x9 then (if 0 ≤ x10 then (if x10 < (x8.length : Int) then (if x10 < (x1001.length : Int) then (ice_game_number.l0 k (wrap64 (x5 + (wrap64 ((wrap64 ((rd x8 x10) - 1)) * (rd x1001 x10))))) x8 x9 (wrap64 (x10 + 1)) x1000 x1001 x1002) else (none)) else (none)) else (none)) else (some (x5, x1002))
def ice_game_number.f (k : Nat) (s0_0 : List Int) (s0_1 : List Int) (s0_2 : Int) (l1 : List Int) : Option (Int × Int) := ice_game_number.l0 k 0 l1 (l1.length : Int) 0 s0_0 s0_1 s0_2
theorem ice_game_number.mono_l : ∀ k, (∀ y0 y1 y2 y3 y4 y5 y6, LeO (ice_game_number.l0 k y0 y1 y2 y3 y4 y5 y6) (ice_game_number.l0 (k + 1) y0 y1 y2 y3 y4 y5 y6))
 | 0 => fun _ _ _ _ _ _ _ r h => by simp [ice_game_number.l0] at h
 | k + 1 => by
  have ih0 := ice_game_number.mono_l k
  ·intro y0 y1 y2 y3 y4 y5 y6
   unfold ice_game_number.l0
   repeat' first
   | (with_reducible exact ih0 _ _ _ _ _ _ _)
   | (with_reducible exact LeO.refl _)
   | (with_reducible exact LeO.none _)
   | (with_reducible refine LeO.ite ?_ ?_)
   | (with_reducible refine LeO.bind ?_ (fun _ => ?_))
   | exact ih0 _ _ _ _ _ _ _
   | exact LeO.none _
   | refine LeO.ite ?_ ?_
   | refine LeO.bind ?_ (fun _ => ?_)
theorem ice_game_number.mono : ∀ a0 a1 a2 a3 k, LeO (ice_game_number.f k a0 a1 a2 a3) (ice_game_number.f (k + 1) a0 a1 a2 a3) := by
 intro a0 a1 a2 a3 k
 have ih0 := ice_game_number.mono_l k
 unfold ice_game_number.f
 repeat' first
   | (with_reducible exact ih0 _ _ _ _ _ _ _)
   | (with_reducible exact LeO.refl _)
   | (with_reducible exact LeO.none _)
   | (with_reducible refine LeO.ite ?_ ?_)
   | (with_reducible refine LeO.bind ?_ (fun _ => ?_))
   | exact ih0 _ _ _ _ _ _ _
   | exact LeO.none _
   | refine LeO.ite ?_ ?_
   | refine LeO.bind ?_ (fun _ => ?_)
set_option maxHeartbeats 8000000 in
set_option maxRecDepth 100000 in
theorem ice_game_number.calls (k : Nat) (g : Nat) (s0_0 : List Int) (s0_1 : List Int) (s0_2 : Int) (A1 : Option Addr) (c1 : Nat) (l1 : List Int) (r1 : Int) (r2 : Int) (w0 w : World) (hI : IsS87 w0 w g s0_0 s0_1 s0_2) (hB : Below w0.heap.size w0 w) (hr1 : Kd.C (Kd.int .i64) w A1 l1.length l1) (hc1 : l1.length ≤ c1) (hf1 : ∀ ad, A1 = some ad → 0 < l1.length → ad.block ≠ g) (h : ice_game_number.f k s0_0 s0_1 s0_2 l1 = some (r1, r2)) :
  Calls Try.prog 87 #[.pointer (some ⟨g, 0, none⟩), .slice A1 l1.length c1] w fun e w' => e = .returned (.int .i64 r1) ∧ IsS87 w0 w' g s0_0 s0_1 r2 ∧ Below w0.heap.size w0 w' ∧ KeepBut w w' g none := by
 have HR1 := A_ hr1
 have HC1 := A_ hc1
 clear hr1 hc1
 have HI0 := A_ hI
 have HK := A_ (KeepBut.refl w g none)
 have HL := A_ hB.size
 clear hI
 have HW0 := A_ hB.size
 have HB := A_ hB
 clear hB
 have H : (ice_game_number.l0 k 0 l1 (l1.length : Int) 0 s0_0 s0_1 s0_2) = some (r1, r2) := h
 clear h
 have H' := A_ H
 clear H
 go_enter Try.func87, Try.ntmps87
 go_wp2
 go_loopg [5, 10] k (fun kq v5 v10 w' => ∃ (x5_1 : Int) (x10_1 : Int), v5 = .int .i64 x5_1 ∧ v10 = .int .i64 x10_1 ∧ Aside0 (ice_game_number.l0 kq x5_1 l1 (l1.length : Int) x10_1 s0_0 s0_1 s0_2 = some (r1, r2)) ∧ Aside0 (kq ≤ k) ∧ Aside0 (IsS87 w0 w' g s0_0 s0_1 s0_2) ∧ Aside0 (KeepBut w w' g none) ∧ Aside0 (Below w0.heap.size w0 w'))
 case atStart => exact ⟨(0), (0), eS, eS, H', ⟨Nat.le_refl _⟩, ⟨by repeat (first | (with_reducible first | exact HI0.out | apply IsS87.alloc | apply IsS87.drewN | apply IsS87.drew | apply IsS87.set_2) | exact HI0.out)⟩, ⟨by repeat (first | (with_reducible first | exact HK.out | apply KeepBut.set_ | apply keep_drewN | apply keep_drew | apply keep_alloc) | exact HK.out)⟩, ⟨by repeat (first | (with_reducible first | exact HB.out | apply below_alloc | apply pw_below_drewN | apply below_drew1 | refine below_set ?_ (IsS87.ge HI0.out)) | exact HB.out)⟩⟩
 case round =>
  clear H'
  try clear c1; try clear p2
  obtain ⟨x5_1, x10_1, rfl, rfl, HA, HK1, HI0, HK, HB⟩ := hrel
  cases gk with
  | zero => exact absurd HA.out (by simp [ice_game_number.l0])
  | succ k1 =>
   have H := HA.out
   clear HA
   simp only [ice_game_number.l0] at H
   by_cases c3 : x10_1 < (l1.length : Int)
   rotate_left
   ·rw [if_neg c3] at H
    have c3b0 : decide (x10_1 < (l1.length : Int)) = false := decide_eq_false c3
    clear c3
    simp only [Option.some.injEq, Prod.mk.injEq] at H
    obtain ⟨rfl, rfl⟩ := H
    go_wp2
    go_ret
    exact ⟨eQ, by repeat (first | (with_reducible first | exact HI0.out | apply IsS87.alloc | apply IsS87.drewN | apply IsS87.drew | apply IsS87.set_2) | exact HI0.out), by repeat (first | (with_reducible first | exact HB.out | apply below_alloc | apply pw_below_drewN | apply below_drew1 | refine below_set ?_ (IsS87.ge HI0.out)) | exact HB.out), by repeat (first | (with_reducible first | exact HK.out | apply KeepBut.set_ | apply keep_drewN | apply keep_drew | apply keep_alloc) | exact HK.out)⟩
   rw [if_pos c3] at H
   have c3b0 : decide (x10_1 < (l1.length : Int)) = true := decide_eq_true c3
   clear c3
   by_cases c4 : 0 ≤ x10_1
   rotate_left
   ·rw [if_neg c4] at H
    exact absurd H (by simp)
   rw [if_pos c4] at H
   have c4b0 : decide (0 ≤ x10_1) = true := decide_eq_true c4
   clear c4
   by_cases c5 : x10_1 < (l1.length : Int)
   rotate_left
   ·rw [if_neg c5] at H
    exact absurd H (by simp)
   rw [if_pos c5] at H
   have c5b0 : decide (x10_1 < (l1.length : Int)) = true := decide_eq_true c5
   clear c5
   by_cases c6 : x10_1 < (s0_1.length : Int)
   rotate_left
   ·rw [if_neg c6] at H
    exact absurd H (by simp)
   rw [if_pos c6] at H
   have c6b0 : decide (x10_1 < (s0_1.length : Int)) = true := decide_eq_true c6
   clear c6
   have H' := A_ H
   clear H
   have p101 : 0 ≤ (x10_1 : Int) := oD
   have q101 : x10_1 < (l1.length : Int) := oD
   obtain ⟨ad101, e101, hx101_0⟩ := Kd.at_int HR1.out x10_1 p101 q101
   cases e101
   replace hx101_0 := keep_cell HK.out hx101_0 (by first | (rw [add_block]; exact hf1 _ rfl (by omega)) | exact hf1 _ rfl (by omega) | exact hf1 ad101 rfl (by omega))
   replace p101 := eq_true p101
   replace q101 := eq_true q101
   obtain ⟨ASz7_0, cSz7_0, ASz7_1, cSz7_1, HGz7, hgz7, ⟨HSz7_0, HSLz7_0⟩, ⟨HSz7_1, HSLz7_1⟩⟩ := HI0.out
   have hcz7_0 := cellS87_0 HGz7
   have hcz7_1 := cellS87_1 HGz7
   have hcz7_2 := cellS87_2 HGz7
   have hfz7_2 := blk_frozen HGz7 2
   clear HGz7 hgz7
   have p102 : 0 ≤ (x10_1 : Int) := oD
   have q102 : x10_1 < (s0_1.length : Int) := oD
   obtain ⟨ad102, e102, hx102_0⟩ := Kd.at_int HSz7_1 x10_1 p102 q102
   cases e102
   replace hx102_0 := pw_cell_below HB.out hx102_0
   replace p102 := eq_true p102
   replace q102 := eq_true q102
   go_wp2
   go_roundg k1
   case measure => have := HK1.out; omega
   case rel => exact ⟨(wrap64 (x5_1 + (wrap64 ((wrap64 ((rd l1 x10_1) - 1)) * (rd s0_1 x10_1))))), (wrap64 (x10_1 + 1)), eS, eS, H', ⟨by have := HK1.out; omega⟩, ⟨by repeat (first | (with_reducible first | exact HI0.out | apply IsS87.alloc | apply IsS87.drewN | apply IsS87.drew | apply IsS87.set_2) | exact HI0.out)⟩, ⟨by repeat (first | (with_reducible first | exact HK.out | apply KeepBut.set_ | apply keep_drewN | apply keep_drew | apply keep_alloc) | exact HK.out)⟩, ⟨by repeat (first | (with_reducible first | exact HB.out | apply below_alloc | apply pw_below_drewN | apply below_drew1 | refine below_set ?_ (IsS87.ge HI0.out)) | exact HB.out)⟩⟩
def ice_open.l0 : Nat → List Int → List Int → List Int → Int → Int → Option (List Int × List Int × Int × Int × Int)
 | 0, _, _, _, _, _ => none
 | k + 1, x0, x1, x18, x19, x20 => if x20 < x19 then (if 0 ≤ x20 then (if x20 < (x18.length : Int) then (if x20 < (x0.length : Int) then ((ice_within.f 1 (rd x18 x20) (rd x0 x20)).bind fun t104 => (if t104 = true then (ice_open.l0 k x0 x1 x18 x19 (wrap64 (x20 + 1))) else (some (([] : List Int), ([] : List Int), 0, 0, 2)))) else (none)) else (none)) else (none)) else ((ice_gameOf.f k x0).bind fun bt105 => ((ice_game_number.f k bt105.1 bt105.2.1 bt105.2.2 x1).bind fun bt109 => (some (bt105.1, bt105.2.1, bt109.2, bt109.1, 0))))
def ice_open.f (k : Nat) (l0 : List Int) (l1 : List Int) : Option (List Int × List Int × Int × Int × Int) := (ice_Valid.f k l0).bind fun t101 => (if t101 = true then (if (l1.length : Int) = (l0.length : Int) then (ice_open.l0 k l0 l1 l1 (l1.length : Int) 0) else (some (([] : List Int), ([] : List Int), 0, 0, 2))) else (some (([] : List Int), ([] : List Int), 0, 0, 80)))
theorem ice_open.mono_l : ∀ k, (∀ y0 y1 y2 y3 y4, LeO (ice_open.l0 k y0 y1 y2 y3 y4) (ice_open.l0 (k + 1) y0 y1 y2 y3 y4))
 | 0 => fun _ _ _ _ _ r h => by simp [ice_open.l0] at h
 | k + 1 => by
  have ih0 := ice_open.mono_l k
  ·intro y0 y1 y2 y3 y4
   unfold ice_open.l0
   repeat' first
   | (with_reducible exact ih0 _ _ _ _ _)
   | (with_reducible exact ice_Valid.mono _ _)
   | (with_reducible exact ice_gameOf.mono _ _)
   | (with_reducible exact ice_game_number.mono _ _ _ _ _)
   | (with_reducible exact LeO.refl _)
   | (with_reducible exact LeO.none _)
   | (with_reducible refine LeO.ite ?_ ?_)
   | (with_reducible refine LeO.bind ?_ (fun _ => ?_))
   | exact ih0 _ _ _ _ _
   | exact ice_Valid.mono _ _
   | exact ice_gameOf.mono _ _
   | exact ice_game_number.mono _ _ _ _ _
   | exact LeO.none _
   | refine LeO.ite ?_ ?_
   | refine LeO.bind ?_ (fun _ => ?_)
theorem ice_open.mono : ∀ a0 a1 k, LeO (ice_open.f k a0 a1) (ice_open.f (k + 1) a0 a1) := by
 intro a0 a1 k
 have ih0 := ice_open.mono_l k
 unfold ice_open.f
 repeat' first
   | (with_reducible exact ih0 _ _ _ _ _)
   | (with_reducible exact ice_Valid.mono _ _)
   | (with_reducible exact ice_gameOf.mono _ _)
   | (with_reducible exact ice_game_number.mono _ _ _ _ _)
   | (with_reducible exact LeO.refl _)
   | (with_reducible exact LeO.none _)
   | (with_reducible refine LeO.ite ?_ ?_)
   | (with_reducible refine LeO.bind ?_ (fun _ => ?_))
   | exact ih0 _ _ _ _ _
   | exact ice_Valid.mono _ _
   | exact ice_gameOf.mono _ _
   | exact ice_game_number.mono _ _ _ _ _
   | exact LeO.none _
   | refine LeO.ite ?_ ?_
   | refine LeO.bind ?_ (fun _ => ?_)
theorem IsS87.rebase {w0 W : World} {g : Nat} {f0 : List Int} {f1 : List Int} {f2 : Int} (h : IsS87 w0 W g f0 f1 f2) (hb : Below w0.heap.size w0 W) : IsS87 W W g f0 f1 f2 := by
 obtain ⟨A0, c0, A1, c1, h1, h2, h3, h4⟩ := h; exact ⟨A0, c0, A1, c1, h1, h2, ⟨Kd.C_below h3.1 hb, h3.2⟩, ⟨Kd.C_below h4.1 hb, h4.2⟩⟩
set_option maxHeartbeats 8000000 in
set_option maxRecDepth 100000 in
theorem ice_open.calls_err (k : Nat) (A0 : Option Addr) (c0 : Nat) (l0 : List Int) (A1 : Option Addr) (c1 : Nat) (l1 : List Int) (r1 r2 : List Int) (r3 r4 r5 : Int) (w : World) (hr0 : Kd.C (Kd.int .i64) w A0 l0.length l0) (hc0 : l0.length ≤ c0) (hr1 : Kd.C (Kd.int .i64) w A1 l1.length l1) (hc1 : l1.length ≤ c1) (h : ice_open.f k l0 l1 = some (r1, r2, r3, r4, r5)) (he : ¬ (r5 = 0)) :
  Calls Try.prog 73 #[.slice A0 l0.length c0, .slice A1 l1.length c1] w fun e w' => e = .returned (.tuple #[.pointer none, .int .i64 r4, .int .i64 r5]) ∧ Below w.heap.size w w' := by
 have HR0 := A_ hr0; have HC0 := A_ hc0; clear hr0 hc0; have HR1 := A_ hr1; have HC1 := A_ hc1; clear hr1 hc1; have HE := A_ he; clear he; have HB := A_ (Below.refl w.heap.size w); have HB00 := A_ (Below.refl w.heap.size w)
 have H : ((ice_Valid.f k l0).bind fun t101 => (if t101 = true then (if (l1.length : Int) = (l0.length : Int) then (ice_open.l0 k l0 l1 l1 (l1.length : Int) 0) else (some (([] : List Int), ([] : List Int), 0, 0, 2))) else (some (([] : List Int), ([] : List Int), 0, 0, 80)))) = some (r1, r2, r3, r4, r5) := h
 clear h; replace H := Option.bind_eq_some_iff.mp H; obtain ⟨t101, A30, H⟩ := H; (try dsimp only at H); have A3 := A_ A30; clear A30; by_cases c4 : t101 = true; rotate_left
 ·replace c4 := Bool.eq_false_iff.mpr c4
  subst c4; rw [if_neg (show ¬ (false = true) by decide)] at H; simp only [Option.some.injEq, Prod.mk.injEq] at H; obtain ⟨rfl, rfl, rfl, rfl, rfl⟩ := H
  go_enter Try.func73, Try.ntmps73
  go_wp2_with (first | ((with_reducible refine gate_callee (f := 29) rfl ?_); refine goesW_ (some 11) Try.func29 #[.slice A0 l0.length c0] ?_; (with_reducible refine (ice_Valid.calls k _ _ l0 false _ ?side1 ?side2 A3.out).mono ?_); (case side1 => exact cU HR0.out); (case side2 => exact HC0.out); rintro e w18 ⟨rfl, hb⟩; refine ⟨_, rfl, ?_⟩; have n0_ := A_ (below_step (bW0 HB.out) hb); clear HB; have HB := n0_; clear n0_; (try clear hb)))
  go_ret3
  exact ⟨by first | rfl | (simp; done), (bW0 HB.out)⟩
 subst c4; rw [if_pos rfl] at H; by_cases c5 : (l1.length : Int) = (l0.length : Int); rotate_left
 ·rw [if_neg c5] at H
  have c5b0 : ((l1.length : Int) == (l0.length : Int)) = false := beq_eq_false_iff_ne.mpr c5; have c5b1 : ((l1.length : Int) != (l0.length : Int)) = true := bne_iff_ne.mpr c5
  have c5b2 : (l1.length == l0.length) = false := by first | simpa using c5 | (simp at c5 ⊢; omega)
  simp only [Option.some.injEq, Prod.mk.injEq] at H; obtain ⟨rfl, rfl, rfl, rfl, rfl⟩ := H
  go_enter Try.func73, Try.ntmps73
  go_wp2_with (first | ((with_reducible refine gate_callee (f := 29) rfl ?_); refine goesW_ (some 11) Try.func29 #[.slice A0 l0.length c0] ?_; (with_reducible refine (ice_Valid.calls k _ _ l0 true _ ?side1 ?side2 A3.out).mono ?_); (case side1 => exact cU HR0.out); (case side2 => exact HC0.out); rintro e w17 ⟨rfl, hb⟩; refine ⟨_, rfl, ?_⟩; have n0_ := A_ (below_step (bW0 HB.out) hb); clear HB; have HB := n0_; clear n0_; (try clear hb)))
  go_ret3
  exact ⟨by first | rfl | (simp; done), (bW0 HB.out)⟩
 rw [if_pos c5] at H; have c5b0 : ((l1.length : Int) == (l0.length : Int)) = true := beq_iff_eq.mpr c5; have c5b1 : ((l1.length : Int) != (l0.length : Int)) = false := bne_eq_false_iff_eq.mpr c5
 have c5b2 : (l1.length == l0.length) = true := by first | simpa using c5 | (simp at c5 ⊢; omega)
 clear c5; have H' := A_ H; clear H
 go_enter Try.func73, Try.ntmps73
 go_wp2_with (first | ((with_reducible refine gate_callee (f := 29) rfl ?_); refine goesW_ (some 11) Try.func29 #[.slice A0 l0.length c0] ?_; (with_reducible refine (ice_Valid.calls k _ _ l0 true _ ?side1 ?side2 A3.out).mono ?_); (case side1 => exact cU HR0.out); (case side2 => exact HC0.out); rintro e w6 ⟨rfl, hb⟩; refine ⟨_, rfl, ?_⟩; have n0_ := A_ (below_step (bW0 HB.out) hb); clear HB; have HB := n0_; clear n0_; (try clear hb)))
 go_loopg [20] k (fun kq v20 w' => ∃ (x20_1 : Int), v20 = .int .i64 x20_1 ∧ Aside0 (ice_open.l0 kq l0 l1 l1 (l1.length : Int) x20_1 = some (r1, r2, r3, r4, r5)) ∧ Aside0 (kq ≤ k) ∧ Aside0 (Below w.heap.size w w'))
 case atStart => exact ⟨(0), eS, H', ⟨Nat.le_refl _⟩, ⟨by repeat (first | (with_reducible first | exact HB.out | apply below_alloc | apply pw_below_drewN | apply below_drew1) | exact HB.out)⟩⟩
 case round =>
  clear H'
  try clear c1; try clear c2; try clear p2; try clear c4; try clear c5; try clear c5b0; try clear c5b1; try clear c5b2
  obtain ⟨x20_1, rfl, HA, HK1, HB⟩ := hrel
  cases gk with
  | zero => exact absurd HA.out (by simp [ice_open.l0])
  | succ k1 =>
   have H := HA.out; clear HA; simp only [ice_open.l0] at H; by_cases c7 : x20_1 < (l1.length : Int); rotate_left
   ·rw [if_neg c7] at H
    have c7b0 : decide (x20_1 < (l1.length : Int)) = false := decide_eq_false c7; clear c7; replace H := Option.bind_eq_some_iff.mp H; obtain ⟨⟨t105, t106, t107⟩, A130, H⟩ := H; (try dsimp only at H); have A13 := A_ A130; clear A130; replace H := Option.bind_eq_some_iff.mp H; obtain ⟨⟨t109, t110⟩, A140, H⟩ := H; (try dsimp only at H); have A14 := A_ A140; clear A140; simp only [Option.some.injEq, Prod.mk.injEq] at H; obtain ⟨rfl, rfl, rfl, rfl, rfl⟩ := H; exact absurd rfl HE.out
   rw [if_pos c7] at H; have c7b0 : decide (x20_1 < (l1.length : Int)) = true := decide_eq_true c7; clear c7; by_cases c8 : 0 ≤ x20_1; rotate_left
   ·rw [if_neg c8] at H
    exact absurd H (by simp)
   rw [if_pos c8] at H; have c8b0 : decide (0 ≤ x20_1) = true := decide_eq_true c8; clear c8; by_cases c9 : x20_1 < (l1.length : Int); rotate_left
   ·rw [if_neg c9] at H
    exact absurd H (by simp)
   rw [if_pos c9] at H; have c9b0 : decide (x20_1 < (l1.length : Int)) = true := decide_eq_true c9; clear c9; by_cases c10 : x20_1 < (l0.length : Int); rotate_left
   ·rw [if_neg c10] at H
    exact absurd H (by simp)
   rw [if_pos c10] at H; have c10b0 : decide (x20_1 < (l0.length : Int)) = true := decide_eq_true c10; clear c10; replace H := Option.bind_eq_some_iff.mp H; obtain ⟨t104, A110, H⟩ := H; (try dsimp only at H); have A11 := A_ A110; clear A110; by_cases c12 : t104 = true; rotate_left
   ·replace c12 := Bool.eq_false_iff.mpr c12
    subst c12; rw [if_neg (show ¬ (false = true) by decide)] at H; simp only [Option.some.injEq, Prod.mk.injEq] at H; obtain ⟨rfl, rfl, rfl, rfl, rfl⟩ := H; have p102 : 0 ≤ (x20_1 : Int) := oD; have q102 : x20_1 < (l1.length : Int) := oD; obtain ⟨ad102, e102, hx102_0⟩ := Kd.at_int HR1.out x20_1 p102 q102
    cases e102
    replace hx102_0 := (HB.out.cell (World.block_lt_of_cell? w _ hx102_0)).trans hx102_0; replace p102 := eq_true p102; replace q102 := eq_true q102; have p103 : 0 ≤ (x20_1 : Int) := oD; have q103 : x20_1 < (l0.length : Int) := oD; obtain ⟨ad103, e103, hx103_0⟩ := Kd.at_int HR0.out x20_1 p103 q103
    cases e103
    replace hx103_0 := (HB.out.cell (World.block_lt_of_cell? w _ hx103_0)).trans hx103_0; replace p103 := eq_true p103; replace q103 := eq_true q103
    go_wp2_with (first | ((with_reducible refine gate_callee (f := 50) rfl ?_); refine goesW_ (some 30) Try.func50 #[.int .i64 1, .int .i64 (rd l1 x20_1), .int .i64 (rd l0 x20_1)] ?_; (with_reducible refine (ice_within.calls 1 (rd l1 x20_1) (rd l0 x20_1) false _ A11.out).mono ?_); rintro e w' ⟨rfl, ⟨nd, rfl⟩⟩; refine ⟨_, rfl, ?_⟩))
    go_ret3
    exact ⟨by first | rfl | (simp; done), (bW0 HB.out)⟩
   subst c12; rw [if_pos rfl] at H; have H' := A_ H; clear H; have p102 : 0 ≤ (x20_1 : Int) := oD; have q102 : x20_1 < (l1.length : Int) := oD; obtain ⟨ad102, e102, hx102_0⟩ := Kd.at_int HR1.out x20_1 p102 q102
   cases e102
   replace hx102_0 := (HB.out.cell (World.block_lt_of_cell? w _ hx102_0)).trans hx102_0; replace p102 := eq_true p102; replace q102 := eq_true q102; have p103 : 0 ≤ (x20_1 : Int) := oD; have q103 : x20_1 < (l0.length : Int) := oD; obtain ⟨ad103, e103, hx103_0⟩ := Kd.at_int HR0.out x20_1 p103 q103
   cases e103
   replace hx103_0 := (HB.out.cell (World.block_lt_of_cell? w _ hx103_0)).trans hx103_0; replace p103 := eq_true p103; replace q103 := eq_true q103
   go_wp2_with (first | ((with_reducible refine gate_callee (f := 50) rfl ?_); refine goesW_ (some 30) Try.func50 #[.int .i64 1, .int .i64 (rd l1 x20_1), .int .i64 (rd l0 x20_1)] ?_; (with_reducible refine (ice_within.calls 1 (rd l1 x20_1) (rd l0 x20_1) true _ A11.out).mono ?_); rintro e w' ⟨rfl, ⟨nd, rfl⟩⟩; refine ⟨_, rfl, ?_⟩))
   go_roundg k1
   case measure => have := HK1.out; omega
   case rel => exact ⟨(wrap64 (x20_1 + 1)), eS, H', ⟨by have := HK1.out; omega⟩, ⟨by repeat (first | (with_reducible first | exact HB.out | apply below_alloc | apply pw_below_drewN | apply below_drew1) | exact HB.out)⟩⟩
set_option maxHeartbeats 8000000 in
set_option maxRecDepth 100000 in
theorem ice_open.calls_ok (k : Nat) (A0 : Option Addr) (c0 : Nat) (l0 : List Int) (A1 : Option Addr) (c1 : Nat) (l1 : List Int) (r1 r2 : List Int) (r3 r4 r5 : Int) (w0 w : World) (hB : Below w0.heap.size w0 w) (hr0 : Kd.C (Kd.int .i64) w0 A0 l0.length l0) (hc0 : l0.length ≤ c0) (hr1 : Kd.C (Kd.int .i64) w0 A1 l1.length l1) (hc1 : l1.length ≤ c1) (h : ice_open.f k l0 l1 = some (r1, r2, r3, r4, r5)) (he : r5 = 0) :
  Calls Try.prog 73 #[.slice A0 l0.length c0, .slice A1 l1.length c1] w fun e w' => ∃ g_ : Nat, e = .returned (.tuple #[.pointer (some ⟨g_, 0, none⟩), .int .i64 r4, .int .i64 r5]) ∧ IsS87 w' w' g_ r1 r2 r3 ∧ Below w0.heap.size w0 w' ∧ Below w.heap.size w w' := by
 have HR0 := A_ hr0; have HC0 := A_ hc0; clear hr0 hc0; have HR1 := A_ hr1; have HC1 := A_ hc1; clear hr1 hc1; have n_ := A_ (Kd.C_below HR0.out hB); clear HR0; have HR0 := n_; clear n_; have n_ := A_ (Kd.C_below HR1.out hB); clear HR1; have HR1 := n_; clear n_; have HB0 := A_ hB; clear hB; have HE := A_ he; clear he; have HB := A_ (Below.refl w.heap.size w); have HB00 := A_ (Below.refl w.heap.size w)
 have H : ((ice_Valid.f k l0).bind fun t101 => (if t101 = true then (if (l1.length : Int) = (l0.length : Int) then (ice_open.l0 k l0 l1 l1 (l1.length : Int) 0) else (some (([] : List Int), ([] : List Int), 0, 0, 2))) else (some (([] : List Int), ([] : List Int), 0, 0, 80)))) = some (r1, r2, r3, r4, r5) := h
 clear h; replace H := Option.bind_eq_some_iff.mp H; obtain ⟨t101, A30, H⟩ := H; (try dsimp only at H); have A3 := A_ A30; clear A30; by_cases c4 : t101 = true; rotate_left
 ·replace c4 := Bool.eq_false_iff.mpr c4
  subst c4; rw [if_neg (show ¬ (false = true) by decide)] at H; simp only [Option.some.injEq, Prod.mk.injEq] at H; obtain ⟨rfl, rfl, rfl, rfl, rfl⟩ := H
  exact absurd HE.out (by decide)
 subst c4; rw [if_pos rfl] at H; by_cases c5 : (l1.length : Int) = (l0.length : Int); rotate_left
 ·rw [if_neg c5] at H
  have c5b0 : ((l1.length : Int) == (l0.length : Int)) = false := beq_eq_false_iff_ne.mpr c5; have c5b1 : ((l1.length : Int) != (l0.length : Int)) = true := bne_iff_ne.mpr c5
  have c5b2 : (l1.length == l0.length) = false := by first | simpa using c5 | (simp at c5 ⊢; omega)
  simp only [Option.some.injEq, Prod.mk.injEq] at H; obtain ⟨rfl, rfl, rfl, rfl, rfl⟩ := H
  exact absurd HE.out (by decide)
 rw [if_pos c5] at H; have c5b0 : ((l1.length : Int) == (l0.length : Int)) = true := beq_iff_eq.mpr c5; have c5b1 : ((l1.length : Int) != (l0.length : Int)) = false := bne_eq_false_iff_eq.mpr c5
 have c5b2 : (l1.length == l0.length) = true := by first | simpa using c5 | (simp at c5 ⊢; omega)
 clear c5; have H' := A_ H; clear H
 go_enter Try.func73, Try.ntmps73
 go_wp2_with (first | ((with_reducible refine gate_callee (f := 29) rfl ?_); refine goesW_ (some 11) Try.func29 #[.slice A0 l0.length c0] ?_; (with_reducible refine (ice_Valid.calls k _ _ l0 true _ ?side1 ?side2 A3.out).mono ?_); (case side1 => exact cU HR0.out); (case side2 => exact HC0.out); rintro e w6 ⟨rfl, hb⟩; refine ⟨_, rfl, ?_⟩; have n0_ := A_ (below_step (bW0 HB.out) hb); clear HB; have HB := n0_; clear n0_; (try clear hb)))
 go_loopg [20] k (fun kq v20 w' => ∃ (x20_1 : Int), v20 = .int .i64 x20_1 ∧ Aside0 (ice_open.l0 kq l0 l1 l1 (l1.length : Int) x20_1 = some (r1, r2, r3, r4, r5)) ∧ Aside0 (kq ≤ k) ∧ Aside0 (Below w.heap.size w w'))
 case atStart => exact ⟨(0), eS, H', ⟨Nat.le_refl _⟩, ⟨by repeat (first | (with_reducible first | exact HB.out | apply below_alloc | apply pw_below_drewN | apply below_drew1) | exact HB.out)⟩⟩
 case round =>
  clear H'
  try clear c1; try clear c2; try clear p2; try clear c4; try clear c5; try clear c5b0; try clear c5b1; try clear c5b2
  obtain ⟨x20_1, rfl, HA, HK1, HB⟩ := hrel
  cases gk with
  | zero => exact absurd HA.out (by simp [ice_open.l0])
  | succ k1 =>
   have H := HA.out; clear HA; simp only [ice_open.l0] at H; by_cases c7 : x20_1 < (l1.length : Int); rotate_left
   ·rw [if_neg c7] at H
    have c7b0 : decide (x20_1 < (l1.length : Int)) = false := decide_eq_false c7; clear c7; replace H := Option.bind_eq_some_iff.mp H; obtain ⟨⟨t105, t106, t107⟩, A130, H⟩ := H; (try dsimp only at H); have A13 := A_ A130; clear A130; replace H := Option.bind_eq_some_iff.mp H; obtain ⟨⟨t109, t110⟩, A140, H⟩ := H; (try dsimp only at H); have A14 := A_ A140; clear A140; simp only [Option.some.injEq, Prod.mk.injEq] at H; obtain ⟨rfl, rfl, rfl, rfl, rfl⟩ := H
    go_wp2_with (first | ((with_reducible refine gate_callee (f := 53) rfl ?_); refine goesW_ (some 34) Try.func53 #[.slice A0 l0.length c0] ?_; (with_reducible refine (ice_gameOf.calls k1 _ _ l0 t105 t106 t107 w _ ?side1 ?side2 ?side3 A13.out).mono ?_); (case side1 => repeat (first | (with_reducible first | exact HB.out | apply below_alloc | apply pw_below_drewN | apply below_drew1) | exact HB.out)); (case side2 => exact HR0.out); (case side3 => exact HC0.out); rintro e w ⟨g108, rfl, hi, hb, hb2, hge⟩; refine ⟨_, rfl, ?_⟩; have HF1 := A_ (Kd.far_C 0 HR1.out (Nat.le_trans (below_size (bW0 HB.out)) hge)); clear hge; have n0_ := A_ (hb); have n1_ := A_ (hi); clear HB; have HB := n0_; have HI108 := n1_; clear n0_ n1_; have HB00_ := A_ (below_step HB00.out HB.out); have n_ := A_ (Kd.C_below HR0.out HB.out); clear HR0; have HR0 := n_; clear n_; have n_ := A_ (Kd.C_below HR1.out HB.out); clear HR1; have HR1 := n_; clear n_; clear HB00 HB; have HB00 := HB00_; clear HB00_; have HB := A_ (Below.refl w.heap.size w); (try clear hb); (try clear hb2); (try clear hk); (try clear hi)) | ((with_reducible refine gate_callee (f := 87) rfl ?_); refine goesW_ (some 38) Try.func87 #[.pointer (some ⟨g108, 0, none⟩), .slice A1 l1.length c1] ?_; (with_reducible refine (ice_game_number.calls k1 g108 t105 t106 t107 _ _ l1 t109 t110 w _ ?side1 ?side2 ?side3 ?side4 ?side5 A14.out).mono ?_); (case side1 => repeat (first | (with_reducible first | exact HI108.out | apply IsS87.alloc | apply IsS87.drewN | apply IsS87.drew | apply IsS87.set_2) | exact HI108.out)); (case side2 => repeat (first | (with_reducible first | exact HB.out | apply below_alloc | apply pw_below_drewN | apply below_drew1 | refine below_set ?_ (IsS87.ge HI108.out)) | exact HB.out)); (case side3 => exact cU (Kd.C_below HR1.out HB.out)); (case side4 => exact HC1.out); (case side5 => exact HF1.out); rintro e w16 ⟨rfl, hi, hb, hk⟩; refine ⟨_, rfl, ?_⟩; have n0_ := A_ (hb); have n1_ := A_ (hi); clear HB; clear HI108; have HB := n0_; have HI108 := n1_; clear n0_ n1_; (try clear hb); (try clear hk); (try clear hi)))
    go_ret3
    exact ⟨g108, by first | rfl | (simp; done), IsS87.rebase (by repeat (first | (with_reducible first | exact HI108.out | apply IsS87.alloc | apply IsS87.drewN | apply IsS87.drew) | exact HI108.out)) (bW0 HB.out), below_step HB0.out (below_step HB00.out (bW0 HB.out)), below_step HB00.out (bW0 HB.out)⟩
   rw [if_pos c7] at H; have c7b0 : decide (x20_1 < (l1.length : Int)) = true := decide_eq_true c7; clear c7; by_cases c8 : 0 ≤ x20_1; rotate_left
   ·rw [if_neg c8] at H
    exact absurd H (by simp)
   rw [if_pos c8] at H; have c8b0 : decide (0 ≤ x20_1) = true := decide_eq_true c8; clear c8; by_cases c9 : x20_1 < (l1.length : Int); rotate_left
   ·rw [if_neg c9] at H
    exact absurd H (by simp)
   rw [if_pos c9] at H; have c9b0 : decide (x20_1 < (l1.length : Int)) = true := decide_eq_true c9; clear c9; by_cases c10 : x20_1 < (l0.length : Int); rotate_left
   ·rw [if_neg c10] at H
    exact absurd H (by simp)
   rw [if_pos c10] at H; have c10b0 : decide (x20_1 < (l0.length : Int)) = true := decide_eq_true c10; clear c10; replace H := Option.bind_eq_some_iff.mp H; obtain ⟨t104, A110, H⟩ := H; (try dsimp only at H); have A11 := A_ A110; clear A110; by_cases c12 : t104 = true; rotate_left
   ·replace c12 := Bool.eq_false_iff.mpr c12
    subst c12; rw [if_neg (show ¬ (false = true) by decide)] at H; simp only [Option.some.injEq, Prod.mk.injEq] at H; obtain ⟨rfl, rfl, rfl, rfl, rfl⟩ := H
    exact absurd HE.out (by decide)
   subst c12; rw [if_pos rfl] at H; have H' := A_ H; clear H; have p102 : 0 ≤ (x20_1 : Int) := oD; have q102 : x20_1 < (l1.length : Int) := oD; obtain ⟨ad102, e102, hx102_0⟩ := Kd.at_int HR1.out x20_1 p102 q102
   cases e102
   replace hx102_0 := (HB.out.cell (World.block_lt_of_cell? w _ hx102_0)).trans hx102_0; replace p102 := eq_true p102; replace q102 := eq_true q102; have p103 : 0 ≤ (x20_1 : Int) := oD; have q103 : x20_1 < (l0.length : Int) := oD; obtain ⟨ad103, e103, hx103_0⟩ := Kd.at_int HR0.out x20_1 p103 q103
   cases e103
   replace hx103_0 := (HB.out.cell (World.block_lt_of_cell? w _ hx103_0)).trans hx103_0; replace p103 := eq_true p103; replace q103 := eq_true q103
   go_wp2_with (first | ((with_reducible refine gate_callee (f := 50) rfl ?_); refine goesW_ (some 30) Try.func50 #[.int .i64 1, .int .i64 (rd l1 x20_1), .int .i64 (rd l0 x20_1)] ?_; (with_reducible refine (ice_within.calls 1 (rd l1 x20_1) (rd l0 x20_1) true _ A11.out).mono ?_); rintro e w' ⟨rfl, ⟨nd, rfl⟩⟩; refine ⟨_, rfl, ?_⟩))
   go_roundg k1
   case measure => have := HK1.out; omega
   case rel => exact ⟨(wrap64 (x20_1 + 1)), eS, H', ⟨by have := HK1.out; omega⟩, ⟨by repeat (first | (with_reducible first | exact HB.out | apply below_alloc | apply pw_below_drewN | apply below_drew1) | exact HB.out)⟩⟩
def ice_game_list.l0 : Nat → Int → List Int → Int → Int → List Int → List Int → Int → Option (List Int × Int)
 | 0, _, _, _, _, _, _, _ => none
 | k + 1, x1, x5, x11, x12, x1000, x1001, x1002 => if x12 < x11 then ((ice_game_digit.f x1000 x1001 x1002 x1 x12).bind fun bt101 => (if x5.length < 17592186044416 then (ice_game_list.l0 k x1 (x5 ++ [bt101.1]) x11 (wrap64 (x12 + 1)) x1000 x1001 bt101.2) else (none))) else (some (x5, x1002))
def ice_game_list.f (k : Nat) (s0_0 : List Int) (s0_1 : List Int) (s0_2 : Int) (a1 : Int) : Option (List Int × Int) := ice_game_list.l0 k a1 ([] : List Int) (s0_0.length : Int) 0 s0_0 s0_1 s0_2
theorem ice_game_list.mono_l : ∀ k, (∀ y0 y1 y2 y3 y4 y5 y6, LeO (ice_game_list.l0 k y0 y1 y2 y3 y4 y5 y6) (ice_game_list.l0 (k + 1) y0 y1 y2 y3 y4 y5 y6))
 | 0 => fun _ _ _ _ _ _ _ r h => by simp [ice_game_list.l0] at h
 | k + 1 => by
  have ih0 := ice_game_list.mono_l k
  ·intro y0 y1 y2 y3 y4 y5 y6
   unfold ice_game_list.l0
   repeat' first
   | (with_reducible exact ih0 _ _ _ _ _ _ _)
   | (with_reducible exact LeO.refl _)
   | (with_reducible exact LeO.none _)
   | (with_reducible refine LeO.ite ?_ ?_)
   | (with_reducible refine LeO.bind ?_ (fun _ => ?_))
   | exact ih0 _ _ _ _ _ _ _
   | exact LeO.none _
   | refine LeO.ite ?_ ?_
   | refine LeO.bind ?_ (fun _ => ?_)
theorem ice_game_list.mono : ∀ a0 a1 a2 a3 k, LeO (ice_game_list.f k a0 a1 a2 a3) (ice_game_list.f (k + 1) a0 a1 a2 a3) := by
 intro a0 a1 a2 a3 k
 have ih0 := ice_game_list.mono_l k
 unfold ice_game_list.f
 repeat' first
   | (with_reducible exact ih0 _ _ _ _ _ _ _)
   | (with_reducible exact LeO.refl _)
   | (with_reducible exact LeO.none _)
   | (with_reducible refine LeO.ite ?_ ?_)
   | (with_reducible refine LeO.bind ?_ (fun _ => ?_))
   | exact ih0 _ _ _ _ _ _ _
   | exact LeO.none _
   | refine LeO.ite ?_ ?_
   | refine LeO.bind ?_ (fun _ => ?_)
set_option maxHeartbeats 8000000 in
set_option maxRecDepth 100000 in
theorem ice_game_list.calls (k : Nat) (g : Nat) (s0_0 : List Int) (s0_1 : List Int) (s0_2 : Int) (a1 : Int) (r1 : List Int) (r2 : Int) (w0 w : World) (hI : IsS87 w0 w g s0_0 s0_1 s0_2) (hB : Below w0.heap.size w0 w) (h : ice_game_list.f k s0_0 s0_1 s0_2 a1 = some (r1, r2)) :
  Calls Try.prog 74 #[.pointer (some ⟨g, 0, none⟩), .int .i64 a1] w fun e w' => ∃ v0_ : Value, e = .returned (v0_) ∧ Kd.R (Kd.int .i64) 3 w' w.heap.size (fun _ => True) v0_ r1 ∧ IsS87 w0 w' g s0_0 s0_1 r2 ∧ Below w0.heap.size w0 w' ∧ KeepBut w w' g none := by
 have HI0 := A_ hI
 have HK := A_ (KeepBut.refl w g none)
 have HL := A_ hB.size
 clear hI
 have HW0 := A_ hB.size
 have HB := A_ hB
 clear hB
 have H : (ice_game_list.l0 k a1 ([] : List Int) (s0_0.length : Int) 0 s0_0 s0_1 s0_2) = some (r1, r2) := h
 clear h
 have H' := A_ H
 clear H
 obtain ⟨ASz3_0, cSz3_0, ASz3_1, cSz3_1, HGz3, hgz3, ⟨HSz3_0, HSLz3_0⟩, ⟨HSz3_1, HSLz3_1⟩⟩ := HI0.out
 have hcz3_0 := cellS87_0 HGz3
 have hcz3_1 := cellS87_1 HGz3
 have hcz3_2 := cellS87_2 HGz3
 have hfz3_2 := blk_frozen HGz3 2
 clear HGz3 hgz3
 go_enter Try.func74, Try.ntmps74
 go_wp2
 go_loopg [5, 12] k (fun kq v5 v12 w' => ∃ (x5_1 : List Int) (x12_1 : Int) (x1002_1 : Int), v12 = .int .i64 x12_1 ∧ Aside0 (ice_game_list.l0 kq a1 x5_1 (s0_0.length : Int) x12_1 s0_0 s0_1 x1002_1 = some (r1, r2)) ∧ Aside0 (kq ≤ k) ∧ Aside0 (Kd.R (Kd.int .i64) 3 w' w.heap.size (fun _ => True) v5 x5_1) ∧ Aside0 (IsS87 w0 w' g s0_0 s0_1 x1002_1) ∧ Aside0 (KeepBut w w' g none) ∧ Aside0 (Below w0.heap.size w0 w'))
 case atStart => exact ⟨(([] : List Int)), (0), (s0_2), eS, H', ⟨Nat.le_refl _⟩, ⟨by first | exact Kd.R_nil _ _ _ _ _ | exact Kd.N_nil _ _ _ _ _ | exact Kd.V_nil _ _ _ _ _ | exact Kd.Q_nil _ _ _ _ _ | exact Kd.S_nil _ _ _ _ _⟩, ⟨by repeat (first | (with_reducible first | exact HI0.out | apply IsS87.alloc | apply IsS87.drewN | apply IsS87.drew | apply IsS87.set_2) | exact HI0.out)⟩, ⟨by repeat (first | (with_reducible first | exact HK.out | apply KeepBut.set_ | apply keep_drewN | apply keep_drew | apply keep_alloc) | exact HK.out)⟩, ⟨by repeat (first | (with_reducible first | exact HB.out | apply below_alloc | apply pw_below_drewN | apply below_drew1 | refine below_set ?_ (IsS87.ge HI0.out)) | exact HB.out)⟩⟩
 case round =>
  clear H'
  try clear p2; try clear hcz3_0; try clear hcz3_1; try clear hcz3_2; try clear hfz3_2
  obtain ⟨x5_1, x12_1, x1002_1, rfl, HA, HK1, HO_5, HI0, HK, HB⟩ := hrel
  cases gk with
  | zero => exact absurd HA.out (by simp [ice_game_list.l0])
  | succ k1 =>
   have H := HA.out
   clear HA
   simp only [ice_game_list.l0] at H
   by_cases c4 : x12_1 < (s0_0.length : Int)
   rotate_left
   ·rw [if_neg c4] at H
    have c4b0 : decide (x12_1 < (s0_0.length : Int)) = false := decide_eq_false c4
    clear c4
    simp only [Option.some.injEq, Prod.mk.injEq] at H
    obtain ⟨rfl, rfl⟩ := H
    go_wp2
    go_ret
    exact ⟨_, by first | rfl | (simp [errW_none, errW_some] <;> rfl) | (simp [*, errW_none, errW_some] <;> rfl), by (with_reducible repeat (first | apply Kd.R_alloc | apply Kd.R_drewN | apply Kd.R_drew)); exact HO_5.out, by repeat (first | (with_reducible first | exact HI0.out | apply IsS87.alloc | apply IsS87.drewN | apply IsS87.drew | apply IsS87.set_2) | exact HI0.out), by repeat (first | (with_reducible first | exact HB.out | apply below_alloc | apply pw_below_drewN | apply below_drew1 | refine below_set ?_ (IsS87.ge HI0.out)) | exact HB.out), by repeat (first | (with_reducible first | exact HK.out | apply KeepBut.set_ | apply keep_drewN | apply keep_drew | apply keep_alloc) | exact HK.out)⟩
   rw [if_pos c4] at H
   have c4b0 : decide (x12_1 < (s0_0.length : Int)) = true := decide_eq_true c4
   clear c4
   replace H := Option.bind_eq_some_iff.mp H
   obtain ⟨⟨t101, t102⟩, A50, H⟩ := H
   replace H : (if x5_1.length < 17592186044416 then (ice_game_list.l0 k1 a1 (x5_1 ++ [t101]) (s0_0.length : Int) (wrap64 (x12_1 + 1)) s0_0 s0_1 t102) else (none)) = some (r1, r2) := H
   have A5 := A_ A50
   clear A50
   by_cases c6 : x5_1.length < 17592186044416
   rotate_left
   ·rw [if_neg c6] at H
    exact absurd H (by simp)
   rw [if_pos c6] at H
   have LMc6 := A_ c6
   clear c6
   obtain ⟨y103, hy103⟩ : ∃ y_ : List Int, y_ = (x5_1 ++ [t101]) := ⟨_, rfl⟩
   replace H : (ice_game_list.l0 k1 a1 y103 (s0_0.length : Int) (wrap64 (x12_1 + 1)) s0_0 s0_1 t102) = some (r1, r2) := by first | (rw [hy103]; with_reducible exact H) | (have H2_ := (Option.bind_some _ _).symm.trans H; rw [hy103]; with_reducible exact H2_) | (have H2_ := (Option.bind_some _ _).symm.trans H; with_reducible exact H2_) | with_reducible exact H | (rw [hy103]; exact H) | exact H
   have Ny103 := A_ hy103
   clear hy103
   have H' := A_ H
   clear H
   go_wp2_with (first | ((with_reducible refine gate_callee (f := 83) rfl ?_); refine goesW_ (some 19) Try.func83 #[.pointer (some ⟨g, 0, none⟩), .int .i64 a1, .int .i64 x12_1] ?_; (with_reducible refine (ice_game_digit.calls g s0_0 s0_1 x1002_1 a1 x12_1 t101 t102 w0 _ ?side1 ?side2 A5.out).mono ?_); (case side1 => repeat (first | (with_reducible first | exact HI0.out | apply IsS87.alloc | apply IsS87.drewN | apply IsS87.drew | apply IsS87.set_2) | exact HI0.out)); (case side2 => repeat (first | (with_reducible first | exact HB.out | apply below_alloc | apply pw_below_drewN | apply below_drew1 | refine below_set ?_ (IsS87.ge HI0.out)) | exact HB.out)); rintro e w7 ⟨rfl, hi, hb, hk⟩; refine ⟨_, rfl, ?_⟩; have n0_ := A_ (Kd.R_mono (Kd.R_keep (IsS87.apart (show IsS87 w0 _ g s0_0 s0_1 x1002_1 from by repeat (first | (with_reducible first | exact HI0.out | apply IsS87.alloc | apply IsS87.drewN | apply IsS87.drew | apply IsS87.set_2) | exact HI0.out)) (rU HO_5.out) (by decide)) hk (fun _ h => h.2)) (fun _ h => h.1)); have n1_ := A_ (KeepBut.trans (by repeat (first | (with_reducible first | exact HK.out | apply KeepBut.set_ | apply keep_drewN | apply keep_drew | apply keep_alloc) | exact HK.out)) hk (.inl rfl)); have n2_ := A_ (hb); have n3_ := A_ (hi); clear HO_5; clear HK; clear HB; clear HI0; have HO_5 := n0_; have HK := n1_; have HB := n2_; have HI0 := n3_; clear n0_ n1_ n2_ n3_; (try clear hb); (try clear hk); (try clear hi)) | ((with_reducible refine gate_builtin (b := .append) (xs := #[.tmp 15, .tmp 20]) rfl ?_); at_builtin; refine Kd.R_append (Kd.int .i64) w.heap.size rfl (.tmp 15) (.tmp 20) 22 3 (.int .i64 0) 8 rfl Try.underlying22 info3 rfl (by decide) (by omega) u5 x5_1 t101 [.int .i64 t101] (fun _ => True) (fun _ => False) rfl rfl ?aP (fun _ hk => hk.elim) ?aF ?aO (Below.refl _ _) ?aS ?aL ?_; (case aP => exact rfl); (case aF => exact (fun _ _ => trivial)); (case aO => exact (rU HO_5.out)); (case aS => exact (keep_size (w := w) (g := g) (row := none) (by repeat (first | (with_reducible first | exact HK.out | apply KeepBut.set_ | apply keep_drewN | apply keep_drew | apply keep_alloc) | exact HK.out)))); (case aL => have := LMc6.out; omega); intro v104 w8 ho hb hg hat; rw [← Ny103.out] at ho; have n0_ := A_ (IsS87.grown (by repeat (first | (with_reducible first | exact HI0.out | apply IsS87.alloc | apply IsS87.drewN | apply IsS87.drew | apply IsS87.set_2) | exact HI0.out)) hg (IsS87.own_ne HI0.out HO_5.out (by decide))); have n1_ := A_ (below_weaken (by repeat (first | (with_reducible first | exact HB.out | apply below_alloc | apply pw_below_drewN | apply below_drew1 | refine below_set ?_ (IsS87.ge HI0.out)) | exact HB.out)) HL.out hb); have n2_ := A_ (KeepBut.trans (by repeat (first | (with_reducible first | exact HK.out | apply KeepBut.set_ | apply keep_drewN | apply keep_drew | apply keep_alloc) | exact HK.out)) (KeepBut.of_grown hg g) (Kd.R_base2 HO_5.out)); have n3_ := A_ (ho); clear HI0; clear HB; clear HK; clear HO_5; have HI0 := n0_; have HB := n1_; have HK := n2_; have HO105 := n3_; clear n0_ n1_ n2_ n3_; clear ho hb hg hat))
   go_roundg k1
   case measure => have := HK1.out; omega
   case rel => exact ⟨(y103), (wrap64 (x12_1 + 1)), (t102), eS, H', ⟨by have := HK1.out; omega⟩, ⟨rU HO105.out⟩, ⟨by repeat (first | (with_reducible first | exact HI0.out | apply IsS87.alloc | apply IsS87.drewN | apply IsS87.drew | apply IsS87.set_2) | exact HI0.out)⟩, ⟨by repeat (first | (with_reducible first | exact HK.out | apply KeepBut.set_ | apply keep_drewN | apply keep_drew | apply keep_alloc) | exact HK.out)⟩, ⟨by repeat (first | (with_reducible first | exact HB.out | apply below_alloc | apply pw_below_drewN | apply below_drew1 | refine below_set ?_ (IsS87.ge HI0.out)) | exact HB.out)⟩⟩
def ice_Tonight.f (k : Nat) (l0 : List Int) (l1 : List Int) (a2 : Int) : Option (List Int × Int) := (ice_open.f k l0 l1).bind fun bt101 => (if bt101.2.2.2.2 = 0 then ((ice_within.f (-1) a2 (wrap64 ((l0.length : Int) - 1))).bind fun t107 => (if t107 = true then ((ice_game_tonight.f k bt101.1 bt101.2.1 bt101.2.2.1 bt101.2.2.2.1 a2).bind fun bt108 => (if bt108.1 = (-1) then (some (([] : List Int), 5)) else ((ice_game_list.f k bt101.1 bt101.2.1 bt108.2 bt108.1).bind fun bt110 => (some (bt110.1, 0))))) else (some (([] : List Int), 2)))) else (some (([] : List Int), bt101.2.2.2.2)))
theorem ice_Tonight.mono : ∀ a0 a1 a2 k, LeO (ice_Tonight.f k a0 a1 a2) (ice_Tonight.f (k + 1) a0 a1 a2) := by
 intro a0 a1 a2 k
 unfold ice_Tonight.f
 repeat' first
   | (with_reducible exact ice_game_list.mono _ _ _ _ _)
   | (with_reducible exact ice_game_tonight.mono _ _ _ _ _ _)
   | (with_reducible exact ice_open.mono _ _ _)
   | (with_reducible exact LeO.refl _)
   | (with_reducible exact LeO.none _)
   | (with_reducible refine LeO.ite ?_ ?_)
   | (with_reducible refine LeO.bind ?_ (fun _ => ?_))
   | exact ice_game_list.mono _ _ _ _ _
   | exact ice_game_tonight.mono _ _ _ _ _ _
   | exact ice_open.mono _ _ _
   | exact LeO.none _
   | refine LeO.ite ?_ ?_
   | refine LeO.bind ?_ (fun _ => ?_)
set_option maxHeartbeats 8000000 in
set_option maxRecDepth 100000 in
theorem ice_Tonight.calls (k : Nat) (A0 : Option Addr) (c0 : Nat) (l0 : List Int) (A1 : Option Addr) (c1 : Nat) (l1 : List Int) (a2 : Int) (r1 : List Int) (r2 : Int) (w : World) (hr0 : Kd.C (Kd.int .i64) w A0 l0.length l0) (hc0 : l0.length ≤ c0) (hr1 : Kd.C (Kd.int .i64) w A1 l1.length l1) (hc1 : l1.length ≤ c1) (h : ice_Tonight.f k l0 l1 a2 = some (r1, r2)) :
  Calls Try.prog 35 #[.slice A0 l0.length c0, .slice A1 l1.length c1, .int .i64 a2] w fun e w' => ∃ v0_ : Value, e = .returned (.tuple #[v0_, .int .i64 r2]) ∧ Kd.R (Kd.int .i64) 3 w' w.heap.size (fun _ => True) v0_ r1 ∧ Below w.heap.size w w' := by
 have HR0 := A_ hr0; have HC0 := A_ hc0; clear hr0 hc0; have HR1 := A_ hr1; have HC1 := A_ hc1; clear hr1 hc1; have HB := A_ (Below.refl w.heap.size w); have HB00 := A_ (Below.refl w.heap.size w)
 have H : ((ice_open.f k l0 l1).bind fun bt101 => (if bt101.2.2.2.2 = 0 then ((ice_within.f (-1) a2 (wrap64 ((l0.length : Int) - 1))).bind fun t107 => (if t107 = true then ((ice_game_tonight.f k bt101.1 bt101.2.1 bt101.2.2.1 bt101.2.2.2.1 a2).bind fun bt108 => (if bt108.1 = (-1) then (some (([] : List Int), 5)) else ((ice_game_list.f k bt101.1 bt101.2.1 bt108.2 bt108.1).bind fun bt110 => (some (bt110.1, 0))))) else (some (([] : List Int), 2)))) else (some (([] : List Int), bt101.2.2.2.2)))) = some (r1, r2) := h
 clear h; replace H := Option.bind_eq_some_iff.mp H; obtain ⟨⟨t101, t102, t103, t104, t105⟩, A40, H⟩ := H; (try dsimp only at H); have A4 := A_ A40; clear A40; by_cases c5 : t105 = 0; rotate_left
 ·rw [if_neg c5] at H
  have c5b0 : (t105 == 0) = false := beq_eq_false_iff_ne.mpr c5; have c5b1 : (t105 != 0) = true := bne_iff_ne.mpr c5
  have NE106 := A_ (show ¬ (t105 = 0) from by first | assumption | exact beq_eq_false_iff_ne.mp (by assumption))
  simp only [Option.some.injEq, Prod.mk.injEq] at H; obtain ⟨rfl, rfl⟩ := H
  go_enter Try.func35, Try.ntmps35
  go_wp2_with (first | ((with_reducible refine gate_callee (f := 73) rfl ?_); refine goesW_ (some 15) Try.func73 #[.slice A0 l0.length c0, .slice A1 l1.length c1] ?_; (with_reducible refine (ice_open.calls_err k _ _ l0 _ _ l1 t101 t102 t103 t104 t105 _ ?side1 ?side2 ?side3 ?side4 A4.out NE106.out).mono ?_); (case side1 => exact cU HR0.out); (case side2 => exact HC0.out); (case side3 => exact cU HR1.out); (case side4 => exact HC1.out); rintro e w17 ⟨rfl, hb⟩; refine ⟨_, rfl, ?_⟩; have n0_ := A_ (below_step (bW0 HB.out) hb); clear HB; have HB := n0_; clear n0_; (try clear hb)))
  go_ret2
  exact ⟨_, by first | rfl | (simp [errW_none, errW_some] <;> rfl) | (simp [*, errW_none, errW_some] <;> rfl), by first | exact Kd.R_nil _ _ _ _ _ | exact Kd.N_nil _ _ _ _ _ | exact Kd.V_nil _ _ _ _ _ | exact Kd.Q_nil _ _ _ _ _ | exact Kd.S_nil _ _ _ _ _, below_step HB00.out (bW0 HB.out)⟩
 rw [if_pos c5] at H; have c5b0 : (t105 == 0) = true := beq_iff_eq.mpr c5; have c5b1 : (t105 != 0) = false := bne_eq_false_iff_eq.mpr c5; clear c5
 have NE106 := A_ (show t105 = 0 from by first | assumption | rfl | exact beq_iff_eq.mp (by assumption))
 replace H := Option.bind_eq_some_iff.mp H; obtain ⟨t107, A60, H⟩ := H; (try dsimp only at H); have A6 := A_ A60; clear A60; by_cases c7 : t107 = true; rotate_left
 ·replace c7 := Bool.eq_false_iff.mpr c7
  subst c7; rw [if_neg (show ¬ (false = true) by decide)] at H; simp only [Option.some.injEq, Prod.mk.injEq] at H; obtain ⟨rfl, rfl⟩ := H
  go_enter Try.func35, Try.ntmps35
  go_wp2_with (first | ((with_reducible refine gate_callee (f := 73) rfl ?_); refine goesW_ (some 15) Try.func73 #[.slice A0 l0.length c0, .slice A1 l1.length c1] ?_; (with_reducible refine (ice_open.calls_ok k _ _ l0 _ _ l1 t101 t102 t103 t104 t105 w _ ?side1 ?side2 ?side3 ?side4 ?side5 A4.out NE106.out).mono ?_); (case side1 => repeat (first | (with_reducible first | exact HB.out | apply below_alloc | apply pw_below_drewN | apply below_drew1) | exact HB.out)); (case side2 => exact HR0.out); (case side3 => exact HC0.out); (case side4 => exact HR1.out); (case side5 => exact HC1.out); rintro e w ⟨g106, rfl, hi, hb, hb2⟩; refine ⟨_, rfl, ?_⟩; have n0_ := A_ (hb); have n1_ := A_ (hi); clear HB; have HB := n0_; have HI106 := n1_; clear n0_ n1_; have HB00_ := A_ (below_step HB00.out HB.out); have n_ := A_ (Kd.C_below HR0.out HB.out); clear HR0; have HR0 := n_; clear n_; have n_ := A_ (Kd.C_below HR1.out HB.out); clear HR1; have HR1 := n_; clear n_; clear HB00 HB; have HB00 := HB00_; clear HB00_; have HB := A_ (Below.refl w.heap.size w); (try clear hb); (try clear hb2); (try clear hk); (try clear hi)) | ((with_reducible refine gate_callee (f := 50) rfl ?_); refine goesW_ (some 28) Try.func50 #[.int .i64 (-1), .int .i64 a2, .int .i64 (wrap64 ((l0.length : Int) - 1))] ?_; (with_reducible refine (ice_within.calls (-1) a2 (wrap64 ((l0.length : Int) - 1)) false _ A6.out).mono ?_); rintro e w' ⟨rfl, ⟨nd, rfl⟩⟩; refine ⟨_, rfl, ?_⟩))
  go_ret2
  exact ⟨_, by first | rfl | (simp [errW_none, errW_some] <;> rfl) | (simp [*, errW_none, errW_some] <;> rfl), by first | exact Kd.R_nil _ _ _ _ _ | exact Kd.N_nil _ _ _ _ _ | exact Kd.V_nil _ _ _ _ _ | exact Kd.Q_nil _ _ _ _ _ | exact Kd.S_nil _ _ _ _ _, below_step HB00.out (by repeat (first | (with_reducible first | exact HB.out | apply below_alloc | apply pw_below_drewN | apply below_drew1 | refine below_set ?_ (IsS87.ge HI106.out)) | exact HB.out))⟩
 subst c7; rw [if_pos rfl] at H; replace H := Option.bind_eq_some_iff.mp H; obtain ⟨⟨t108, t109⟩, A80, H⟩ := H; (try dsimp only at H); have A8 := A_ A80; clear A80; by_cases c9 : t108 = (-1)
 ·rw [if_pos c9] at H
  have c9b0 : (t108 == (-1)) = true := beq_iff_eq.mpr c9; have c9b1 : (t108 != (-1)) = false := bne_eq_false_iff_eq.mpr c9; clear c9; simp only [Option.some.injEq, Prod.mk.injEq] at H; obtain ⟨rfl, rfl⟩ := H
  go_enter Try.func35, Try.ntmps35
  go_wp2_with (first | ((with_reducible refine gate_callee (f := 73) rfl ?_); refine goesW_ (some 15) Try.func73 #[.slice A0 l0.length c0, .slice A1 l1.length c1] ?_; (with_reducible refine (ice_open.calls_ok k _ _ l0 _ _ l1 t101 t102 t103 t104 t105 w _ ?side1 ?side2 ?side3 ?side4 ?side5 A4.out NE106.out).mono ?_); (case side1 => repeat (first | (with_reducible first | exact HB.out | apply below_alloc | apply pw_below_drewN | apply below_drew1) | exact HB.out)); (case side2 => exact HR0.out); (case side3 => exact HC0.out); (case side4 => exact HR1.out); (case side5 => exact HC1.out); rintro e w ⟨g106, rfl, hi, hb, hb2⟩; refine ⟨_, rfl, ?_⟩; have n0_ := A_ (hb); have n1_ := A_ (hi); clear HB; have HB := n0_; have HI106 := n1_; clear n0_ n1_; have HB00_ := A_ (below_step HB00.out HB.out); have n_ := A_ (Kd.C_below HR0.out HB.out); clear HR0; have HR0 := n_; clear n_; have n_ := A_ (Kd.C_below HR1.out HB.out); clear HR1; have HR1 := n_; clear n_; clear HB00 HB; have HB00 := HB00_; clear HB00_; have HB := A_ (Below.refl w.heap.size w); (try clear hb); (try clear hb2); (try clear hk); (try clear hi)) | ((with_reducible refine gate_callee (f := 50) rfl ?_); refine goesW_ (some 28) Try.func50 #[.int .i64 (-1), .int .i64 a2, .int .i64 (wrap64 ((l0.length : Int) - 1))] ?_; (with_reducible refine (ice_within.calls (-1) a2 (wrap64 ((l0.length : Int) - 1)) true _ A6.out).mono ?_); rintro e w' ⟨rfl, ⟨nd, rfl⟩⟩; refine ⟨_, rfl, ?_⟩) | ((with_reducible refine gate_callee (f := 61) rfl ?_); refine goesW_ (some 33) Try.func61 #[.pointer (some ⟨g106, 0, none⟩), .int .i64 t104, .int .i64 a2] ?_; (with_reducible refine (ice_game_tonight.calls k g106 t101 t102 t103 t104 a2 t108 t109 w _ ?side1 ?side2 A8.out).mono ?_); (case side1 => repeat (first | (with_reducible first | exact HI106.out | apply IsS87.alloc | apply IsS87.drewN | apply IsS87.drew | apply IsS87.set_2) | exact HI106.out)); (case side2 => repeat (first | (with_reducible first | exact HB.out | apply below_alloc | apply pw_below_drewN | apply below_drew1 | refine below_set ?_ (IsS87.ge HI106.out)) | exact HB.out)); rintro e w11 ⟨rfl, hi, hb, hk⟩; refine ⟨_, rfl, ?_⟩; have n0_ := A_ (hb); have n1_ := A_ (hi); clear HB; clear HI106; have HB := n0_; have HI106 := n1_; clear n0_ n1_; (try clear hb); (try clear hk); (try clear hi)))
  go_ret2
  exact ⟨_, by first | rfl | (simp [errW_none, errW_some] <;> rfl) | (simp [*, errW_none, errW_some] <;> rfl), by first | exact Kd.R_nil _ _ _ _ _ | exact Kd.N_nil _ _ _ _ _ | exact Kd.V_nil _ _ _ _ _ | exact Kd.Q_nil _ _ _ _ _ | exact Kd.S_nil _ _ _ _ _, below_step HB00.out (by repeat (first | (with_reducible first | exact HB.out | apply below_alloc | apply pw_below_drewN | apply below_drew1 | refine below_set ?_ (IsS87.ge HI106.out)) | exact HB.out))⟩
 rw [if_neg c9] at H; have c9b0 : (t108 == (-1)) = false := beq_eq_false_iff_ne.mpr c9; have c9b1 : (t108 != (-1)) = true := bne_iff_ne.mpr c9; replace H := Option.bind_eq_some_iff.mp H; obtain ⟨⟨t110, t113⟩, A120, H⟩ := H; (try dsimp only at H); have A12 := A_ A120; clear A120; simp only [Option.some.injEq, Prod.mk.injEq] at H; obtain ⟨rfl, rfl⟩ := H
 go_enter Try.func35, Try.ntmps35
 go_wp2_with (first | ((with_reducible refine gate_callee (f := 73) rfl ?_); refine goesW_ (some 15) Try.func73 #[.slice A0 l0.length c0, .slice A1 l1.length c1] ?_; (with_reducible refine (ice_open.calls_ok k _ _ l0 _ _ l1 t101 t102 t103 t104 t105 w _ ?side1 ?side2 ?side3 ?side4 ?side5 A4.out NE106.out).mono ?_); (case side1 => repeat (first | (with_reducible first | exact HB.out | apply below_alloc | apply pw_below_drewN | apply below_drew1) | exact HB.out)); (case side2 => exact HR0.out); (case side3 => exact HC0.out); (case side4 => exact HR1.out); (case side5 => exact HC1.out); rintro e w ⟨g106, rfl, hi, hb, hb2⟩; refine ⟨_, rfl, ?_⟩; have n0_ := A_ (hb); have n1_ := A_ (hi); clear HB; have HB := n0_; have HI106 := n1_; clear n0_ n1_; have HB00_ := A_ (below_step HB00.out HB.out); have n_ := A_ (Kd.C_below HR0.out HB.out); clear HR0; have HR0 := n_; clear n_; have n_ := A_ (Kd.C_below HR1.out HB.out); clear HR1; have HR1 := n_; clear n_; clear HB00 HB; have HB00 := HB00_; clear HB00_; have HB := A_ (Below.refl w.heap.size w); (try clear hb); (try clear hb2); (try clear hk); (try clear hi)) | ((with_reducible refine gate_callee (f := 50) rfl ?_); refine goesW_ (some 28) Try.func50 #[.int .i64 (-1), .int .i64 a2, .int .i64 (wrap64 ((l0.length : Int) - 1))] ?_; (with_reducible refine (ice_within.calls (-1) a2 (wrap64 ((l0.length : Int) - 1)) true _ A6.out).mono ?_); rintro e w' ⟨rfl, ⟨nd, rfl⟩⟩; refine ⟨_, rfl, ?_⟩) | ((with_reducible refine gate_callee (f := 61) rfl ?_); refine goesW_ (some 33) Try.func61 #[.pointer (some ⟨g106, 0, none⟩), .int .i64 t104, .int .i64 a2] ?_; (with_reducible refine (ice_game_tonight.calls k g106 t101 t102 t103 t104 a2 t108 t109 w _ ?side1 ?side2 A8.out).mono ?_); (case side1 => repeat (first | (with_reducible first | exact HI106.out | apply IsS87.alloc | apply IsS87.drewN | apply IsS87.drew | apply IsS87.set_2) | exact HI106.out)); (case side2 => repeat (first | (with_reducible first | exact HB.out | apply below_alloc | apply pw_below_drewN | apply below_drew1 | refine below_set ?_ (IsS87.ge HI106.out)) | exact HB.out)); rintro e w14 ⟨rfl, hi, hb, hk⟩; refine ⟨_, rfl, ?_⟩; have n0_ := A_ (hb); have n1_ := A_ (hi); clear HB; clear HI106; have HB := n0_; have HI106 := n1_; clear n0_ n1_; (try clear hb); (try clear hk); (try clear hi)) | ((with_reducible refine gate_callee (f := 74) rfl ?_); refine goesW_ (some 38) Try.func74 #[.pointer (some ⟨g106, 0, none⟩), .int .i64 t108] ?_; (with_reducible refine (ice_game_list.calls k g106 t101 t102 t109 t108 t110 t113 w _ ?side1 ?side2 A12.out).mono ?_); (case side1 => repeat (first | (with_reducible first | exact HI106.out | apply IsS87.alloc | apply IsS87.drewN | apply IsS87.drew | apply IsS87.set_2) | exact HI106.out)); (case side2 => repeat (first | (with_reducible first | exact HB.out | apply below_alloc | apply pw_below_drewN | apply below_drew1 | refine below_set ?_ (IsS87.ge HI106.out)) | exact HB.out)); rintro e w15 ⟨v111, rfl, ho0, hi, hb, hk⟩; refine ⟨_, rfl, ?_⟩; have n0_ := A_ (Kd.R_lower ho0 (below_size (by repeat (first | (with_reducible first | exact HB.out | apply below_alloc | apply pw_below_drewN | apply below_drew1 | refine below_set ?_ (IsS87.ge HI106.out)) | exact HB.out)))); have n1_ := A_ (hb); have n2_ := A_ (hi); clear HB; clear HI106; have HO112 := n0_; have HB := n1_; have HI106 := n2_; clear n0_ n1_ n2_; (try clear hb); (try clear hk); (try clear hi); (try clear ho0)))
 go_ret2
 exact ⟨_, by first | rfl | (simp [errW_none, errW_some] <;> rfl) | (simp [*, errW_none, errW_some] <;> rfl), Kd.R_lower (rU HO112.out) (below_size HB00.out), below_step HB00.out (by repeat (first | (with_reducible first | exact HB.out | apply below_alloc | apply pw_below_drewN | apply below_drew1 | refine below_set ?_ (IsS87.ge HI106.out)) | exact HB.out))⟩
end Go.Proofs.Ythbpibdfookbmaa.G
end
