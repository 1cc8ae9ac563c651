/- Functions of the seat and plain laws about them: GF60. -/
import Derived.Test.YthbpibdfookbmaaGBase
import Derived.Test.YthbpibdfookbmaaZT2
import Derived.Test.YthbpibdfookbmaaZT3
section
namespace Go.Proofs.Ythbpibdfookbmaa.G
open Go.RowKit Go.Proofs.YthbpibdfookbmaaW.PrintWords Go.Proofs.YthbpibdfookbmaaW.PrintLast Go.Proofs.YthbpibdfookbmaaW.PrintMore
attribute [local go_sem] max2_int min2_int max_two min_two max_three min_three max_four min_four
set_option linter.unusedVariables false
set_option linter.unusedSimpArgs false
def ice_game_choices.l0 : Nat → Int → List Bool → List Int → Int → List Int → List Int → Int → Option (List Int × Int)
 | 0, _, _, _, _, _, _, _ => none
 | k + 1, x1, x2, x7, x8, x1000, x1001, x1002 => if x8 < (x1000.length : Int) then ((ice_game_tonight.f k x1000 x1001 x1002 x1 x8).bind fun bt101 => (if bt101.1 = (-1) then (ice_game_choices.l0 k x1 x2 x7 (wrap64 (x8 + 1)) x1000 x1001 bt101.2) else (if 0 ≤ bt101.1 then (if bt101.1 < (x2.length : Int) then (if rdOf false x2 bt101.1 = true then (if x7.length < 17592186044416 then (ice_game_choices.l0 k x1 x2 (x7 ++ [x8]) (wrap64 (x8 + 1)) x1000 x1001 bt101.2) else (none)) else (ice_game_choices.l0 k x1 x2 x7 (wrap64 (x8 + 1)) x1000 x1001 bt101.2)) else (none)) else (none)))) else (some (x7, x1002))
def ice_game_choices.f (k : Nat) (s0_0 : List Int) (s0_1 : List Int) (s0_2 : Int) (a1 : Int) (l2 : List Bool) : Option (List Int × Int) := ice_game_choices.l0 k a1 l2 ([] : List Int) (-1) s0_0 s0_1 s0_2
theorem ice_game_choices.mono_l : ∀ k, (∀ y0 y1 y2 y3 y4 y5 y6, LeO (ice_game_choices.l0 k y0 y1 y2 y3 y4 y5 y6) (ice_game_choices.l0 (k + 1) y0 y1 y2 y3 y4 y5 y6))
 | 0 => fun _ _ _ _ _ _ _ r h => by simp [ice_game_choices.l0] at h
 | k + 1 => by
  have ih0 := ice_game_choices.mono_l k
  ·intro y0 y1 y2 y3 y4 y5 y6
   unfold ice_game_choices.l0
   repeat' first
   | (with_reducible exact ih0 _ _ _ _ _ _ _)
   | (with_reducible exact ice_game_tonight.mono _ _ _ _ _ _)
   | (with_reducible exact LeO.refl _)
   | (with_reducible exact LeO.none _)
   | (with_reducible refine LeO.ite ?_ ?_)
   | (with_reducible refine LeO.bind ?_ (fun _ => ?_))
   | exact ih0 _ _ _ _ _ _ _
   | exact ice_game_tonight.mono _ _ _ _ _ _
   | exact LeO.none _
   | refine LeO.ite ?_ ?_
   | refine LeO.bind ?_ (fun _ => ?_)
theorem ice_game_choices.mono : ∀ a0 a1 a2 a3 a4 k, LeO (ice_game_choices.f k a0 a1 a2 a3 a4) (ice_game_choices.f (k + 1) a0 a1 a2 a3 a4) := by
 intro a0 a1 a2 a3 a4 k
 have ih0 := ice_game_choices.mono_l k
 unfold ice_game_choices.f
 repeat' first
   | (with_reducible exact ih0 _ _ _ _ _ _ _)
   | (with_reducible exact ice_game_tonight.mono _ _ _ _ _ _)
   | (with_reducible exact LeO.refl _)
   | (with_reducible exact LeO.none _)
   | (with_reducible refine LeO.ite ?_ ?_)
   | (with_reducible refine LeO.bind ?_ (fun _ => ?_))
   | exact ih0 _ _ _ _ _ _ _
   | exact ice_game_tonight.mono _ _ _ _ _ _
   | exact LeO.none _
   | refine LeO.ite ?_ ?_
   | refine LeO.bind ?_ (fun _ => ?_)
set_option maxHeartbeats 8000000 in
set_option maxRecDepth 100000 in
theorem ice_game_choices.calls (k : Nat) (g : Nat) (s0_0 : List Int) (s0_1 : List Int) (s0_2 : Int) (a1 : Int) (A2 : Option Addr) (c2 : Nat) (l2 : List Bool) (r1 : List Int) (r2 : Int) (w0 w : World) (hI : IsS87 w0 w g s0_0 s0_1 s0_2) (hB : Below w0.heap.size w0 w) (hr2 : Kd.C Kd.bool w A2 l2.length l2) (hc2 : l2.length ≤ c2) (hf2 : ∀ ad, A2 = some ad → 0 < l2.length → ad.block ≠ g) (h : ice_game_choices.f k s0_0 s0_1 s0_2 a1 l2 = some (r1, r2)) :
  Calls Try.prog 60 #[.pointer (some ⟨g, 0, none⟩), .int .i64 a1, .slice A2 l2.length c2] w fun e w' => ∃ v0_ : Value, e = .returned (v0_) ∧ Kd.R (Kd.int .i64) 3 w' w.heap.size (fun _ => True) v0_ r1 ∧ IsS87 w0 w' g s0_0 s0_1 r2 ∧ Below w0.heap.size w0 w' ∧ KeepBut w w' g none := by
 have HR2 := A_ hr2; have HC2 := A_ hc2; clear hr2 hc2; have HI0 := A_ hI; have HK := A_ (KeepBut.refl w g none); have HL := A_ hB.size; clear hI; have HW0 := A_ hB.size; have HB := A_ hB; clear hB; have H : (ice_game_choices.l0 k a1 l2 ([] : List Int) (-1) s0_0 s0_1 s0_2) = some (r1, r2) := h; clear h; have H' := A_ H; clear H
 go_enter Try.func60, Try.ntmps60
 go_wp2
 go_loopg [7, 8] k (fun kq v7 v8 w' => ∃ (x7_1 : List Int) (x8_1 : Int) (x1002_1 : Int), v8 = .int .i64 x8_1 ∧ Aside0 (ice_game_choices.l0 kq a1 l2 x7_1 x8_1 s0_0 s0_1 x1002_1 = some (r1, r2)) ∧ Aside0 (kq ≤ k) ∧ Aside0 (Kd.R (Kd.int .i64) 3 w' w.heap.size (fun _ => True) v7 x7_1) ∧ Aside0 (IsS87 w0 w' g s0_0 s0_1 x1002_1) ∧ Aside0 (KeepBut w w' g none) ∧ Aside0 (Below w0.heap.size w0 w'))
 case atStart => exact ⟨(([] : List Int)), ((-1)), (s0_2), eS, H', ⟨Nat.le_refl _⟩, ⟨by first | exact Kd.R_nil _ _ _ _ _ | exact Kd.N_nil _ _ _ _ _ | exact Kd.V_nil _ _ _ _ _ | exact Kd.Q_nil _ _ _ _ _ | exact Kd.S_nil _ _ _ _ _⟩, ⟨by repeat (first | (with_reducible first | exact HI0.out | apply IsS87.alloc | apply IsS87.drewN | apply IsS87.drew | apply IsS87.set_2) | exact HI0.out)⟩, ⟨by repeat (first | (with_reducible first | exact HK.out | apply KeepBut.set_ | apply keep_drewN | apply keep_drew | apply keep_alloc) | exact HK.out)⟩, ⟨by repeat (first | (with_reducible first | exact HB.out | apply below_alloc | apply pw_below_drewN | apply below_drew1 | refine below_set ?_ (IsS87.ge HI0.out)) | exact HB.out)⟩⟩
 case round =>
  clear H'
  try clear c2; try clear p2
  obtain ⟨x7_1, x8_1, x1002_1, rfl, HA, HK1, HO_7, HI0, HK, HB⟩ := hrel
  cases gk with
  | zero => exact absurd HA.out (by simp [ice_game_choices.l0])
  | succ k1 =>
   have H := HA.out; clear HA; simp only [ice_game_choices.l0] at H; by_cases c4 : x8_1 < (s0_0.length : Int); rotate_left
   ·rw [if_neg c4] at H
    have c4b0 : decide (x8_1 < (s0_0.length : Int)) = false := decide_eq_false c4; clear c4; simp only [Option.some.injEq, Prod.mk.injEq] at H; obtain ⟨rfl, rfl⟩ := H; obtain ⟨ASz19_0, cSz19_0, ASz19_1, cSz19_1, HGz19, hgz19, ⟨HSz19_0, HSLz19_0⟩, ⟨HSz19_1, HSLz19_1⟩⟩ := HI0.out; have hcz19_0 := cellS87_0 HGz19; have hcz19_1 := cellS87_1 HGz19; have hcz19_2 := cellS87_2 HGz19; have hfz19_2 := blk_frozen HGz19 2; clear HGz19 hgz19
    go_wp2
    go_ret
    exact ⟨_, by first | rfl | (simp [errW_none, errW_some] <;> rfl) | (simp [*, errW_none, errW_some] <;> rfl), by (with_reducible repeat (first | apply Kd.R_alloc | apply Kd.R_drewN | apply Kd.R_drew)); exact HO_7.out, by repeat (first | (with_reducible first | exact HI0.out | apply IsS87.alloc | apply IsS87.drewN | apply IsS87.drew | apply IsS87.set_2) | exact HI0.out), by repeat (first | (with_reducible first | exact HB.out | apply below_alloc | apply pw_below_drewN | apply below_drew1 | refine below_set ?_ (IsS87.ge HI0.out)) | exact HB.out), by repeat (first | (with_reducible first | exact HK.out | apply KeepBut.set_ | apply keep_drewN | apply keep_drew | apply keep_alloc) | exact HK.out)⟩
   rw [if_pos c4] at H; have c4b0 : decide (x8_1 < (s0_0.length : Int)) = true := decide_eq_true c4; clear c4; replace H := Option.bind_eq_some_iff.mp H; obtain ⟨⟨t101, t102⟩, A50, H⟩ := H; (try dsimp only at H); have A5 := A_ A50; clear A50; by_cases c6 : t101 = (-1)
   ·rw [if_pos c6] at H
    have c6b0 : (t101 == (-1)) = true := beq_iff_eq.mpr c6; have c6b1 : (t101 != (-1)) = false := bne_eq_false_iff_eq.mpr c6; clear c6; have H' := A_ H; clear H; obtain ⟨ASz7_0, cSz7_0, ASz7_1, cSz7_1, HGz7, hgz7, ⟨HSz7_0, HSLz7_0⟩, ⟨HSz7_1, HSLz7_1⟩⟩ := HI0.out; have hcz7_0 := cellS87_0 HGz7; have hcz7_1 := cellS87_1 HGz7; have hcz7_2 := cellS87_2 HGz7; have hfz7_2 := blk_frozen HGz7 2; clear HGz7 hgz7
    go_wp2_with (first | ((with_reducible refine gate_callee (f := 61) rfl ?_); refine goesW_ (some 22) Try.func61 #[.pointer (some ⟨g, 0, none⟩), .int .i64 a1, .int .i64 x8_1] ?_; (with_reducible refine (ice_game_tonight.calls k1 g s0_0 s0_1 x1002_1 a1 x8_1 t101 t102 w0 _ ?side1 ?side2 A5.out).mono ?_); (case side1 => repeat (first | (with_reducible first | exact HI0.out | apply IsS87.alloc | apply IsS87.drewN | apply IsS87.drew | apply IsS87.set_2) | exact HI0.out)); (case side2 => repeat (first | (with_reducible first | exact HB.out | apply below_alloc | apply pw_below_drewN | apply below_drew1 | refine below_set ?_ (IsS87.ge HI0.out)) | exact HB.out)); rintro e w8 ⟨rfl, hi, hb, hk⟩; refine ⟨_, rfl, ?_⟩; have n0_ := A_ (Kd.R_mono (Kd.R_keep (IsS87.apart (show IsS87 w0 _ g s0_0 s0_1 x1002_1 from by repeat (first | (with_reducible first | exact HI0.out | apply IsS87.alloc | apply IsS87.drewN | apply IsS87.drew | apply IsS87.set_2) | exact HI0.out)) (rU HO_7.out) (by decide)) hk (fun _ h => h.2)) (fun _ h => h.1)); have n1_ := A_ (KeepBut.trans (by repeat (first | (with_reducible first | exact HK.out | apply KeepBut.set_ | apply keep_drewN | apply keep_drew | apply keep_alloc) | exact HK.out)) hk (.inl rfl)); have n2_ := A_ (hb); have n3_ := A_ (hi); clear HO_7; clear HK; clear HB; clear HI0; have HO_7 := n0_; have HK := n1_; have HB := n2_; have HI0 := n3_; clear n0_ n1_ n2_ n3_; (try clear hb); (try clear hk); (try clear hi)))
    go_roundg k1
    case measure => have := HK1.out; omega
    case rel => exact ⟨(x7_1), (wrap64 (x8_1 + 1)), (t102), eS, H', ⟨by have := HK1.out; omega⟩, ⟨rU HO_7.out⟩, ⟨by repeat (first | (with_reducible first | exact HI0.out | apply IsS87.alloc | apply IsS87.drewN | apply IsS87.drew | apply IsS87.set_2) | exact HI0.out)⟩, ⟨by repeat (first | (with_reducible first | exact HK.out | apply KeepBut.set_ | apply keep_drewN | apply keep_drew | apply keep_alloc) | exact HK.out)⟩, ⟨by repeat (first | (with_reducible first | exact HB.out | apply below_alloc | apply pw_below_drewN | apply below_drew1 | refine below_set ?_ (IsS87.ge HI0.out)) | exact HB.out)⟩⟩
   rw [if_neg c6] at H; have c6b0 : (t101 == (-1)) = false := beq_eq_false_iff_ne.mpr c6; have c6b1 : (t101 != (-1)) = true := bne_iff_ne.mpr c6; by_cases c9 : 0 ≤ t101; rotate_left
   ·rw [if_neg c9] at H
    exact absurd H (by simp)
   rw [if_pos c9] at H; have c9b0 : decide (0 ≤ t101) = true := decide_eq_true c9; clear c9; by_cases c10 : t101 < (l2.length : Int); rotate_left
   ·rw [if_neg c10] at H
    exact absurd H (by simp)
   rw [if_pos c10] at H; have c10b0 : decide (t101 < (l2.length : Int)) = true := decide_eq_true c10; clear c10; obtain ⟨bq11, hbq11⟩ : ∃ b_ : Bool, b_ = (rdOf false l2 t101) := ⟨_, rfl⟩
   replace H : (if bq11 = true then (if x7_1.length < 17592186044416 then (ice_game_choices.l0 k1 a1 l2 (x7_1 ++ [x8_1]) (wrap64 (x8_1 + 1)) s0_0 s0_1 t102) else (none)) else (ice_game_choices.l0 k1 a1 l2 x7_1 (wrap64 (x8_1 + 1)) s0_0 s0_1 t102)) = some (r1, r2) := by rw [← hbq11] at H; exact H
   have Nbq11 := A_ hbq11; clear hbq11; by_cases c12 : bq11 = true; rotate_left
   ·replace c12 := Bool.eq_false_iff.mpr c12
    subst c12; rw [if_neg (show ¬ (false = true) by decide)] at H; have H' := A_ H; clear H; obtain ⟨ASz17_0, cSz17_0, ASz17_1, cSz17_1, HGz17, hgz17, ⟨HSz17_0, HSLz17_0⟩, ⟨HSz17_1, HSLz17_1⟩⟩ := HI0.out; have hcz17_0 := cellS87_0 HGz17; have hcz17_1 := cellS87_1 HGz17; have hcz17_2 := cellS87_2 HGz17; have hfz17_2 := blk_frozen HGz17 2; clear HGz17 hgz17
    go_wp2_with (first | ((with_reducible refine gate_callee (f := 61) rfl ?_); refine goesW_ (some 22) Try.func61 #[.pointer (some ⟨g, 0, none⟩), .int .i64 a1, .int .i64 x8_1] ?_; (with_reducible refine (ice_game_tonight.calls k1 g s0_0 s0_1 x1002_1 a1 x8_1 t101 t102 w0 _ ?side1 ?side2 A5.out).mono ?_); (case side1 => repeat (first | (with_reducible first | exact HI0.out | apply IsS87.alloc | apply IsS87.drewN | apply IsS87.drew | apply IsS87.set_2) | exact HI0.out)); (case side2 => repeat (first | (with_reducible first | exact HB.out | apply below_alloc | apply pw_below_drewN | apply below_drew1 | refine below_set ?_ (IsS87.ge HI0.out)) | exact HB.out)); rintro e w18 ⟨rfl, hi, hb, hk⟩; refine ⟨_, rfl, ?_⟩; have n0_ := A_ (Kd.R_mono (Kd.R_keep (IsS87.apart (show IsS87 w0 _ g s0_0 s0_1 x1002_1 from by repeat (first | (with_reducible first | exact HI0.out | apply IsS87.alloc | apply IsS87.drewN | apply IsS87.drew | apply IsS87.set_2) | exact HI0.out)) (rU HO_7.out) (by decide)) hk (fun _ h => h.2)) (fun _ h => h.1)); have n1_ := A_ (KeepBut.trans (by repeat (first | (with_reducible first | exact HK.out | apply KeepBut.set_ | apply keep_drewN | apply keep_drew | apply keep_alloc) | exact HK.out)) hk (.inl rfl)); have n2_ := A_ (hb); have n3_ := A_ (hi); clear HO_7; clear HK; clear HB; clear HI0; have HO_7 := n0_; have HK := n1_; have HB := n2_; have HI0 := n3_; clear n0_ n1_ n2_ n3_; (try clear hb); (try clear hk); (try clear hi); have p103 : 0 ≤ (t101 : Int) := oD; have q103 : t101 < (l2.length : Int) := oD; obtain ⟨ad103, e103, hx103_0⟩ := Kd.at_bool HR2.out t101 p103 q103; (try rw [← Nbq11.out] at hx103_0); cases e103; replace hx103_0 := keep_cell HK.out hx103_0 (by first | (rw [add_block]; exact hf2 _ rfl (by omega)) | exact hf2 _ rfl (by omega) | exact hf2 ad103 rfl (by omega)); replace p103 := eq_true p103; replace q103 := eq_true q103))
    go_roundg k1
    case measure => have := HK1.out; omega
    case rel => exact ⟨(x7_1), (wrap64 (x8_1 + 1)), (t102), eS, H', ⟨by have := HK1.out; omega⟩, ⟨rU HO_7.out⟩, ⟨by repeat (first | (with_reducible first | exact HI0.out | apply IsS87.alloc | apply IsS87.drewN | apply IsS87.drew | apply IsS87.set_2) | exact HI0.out)⟩, ⟨by repeat (first | (with_reducible first | exact HK.out | apply KeepBut.set_ | apply keep_drewN | apply keep_drew | apply keep_alloc) | exact HK.out)⟩, ⟨by repeat (first | (with_reducible first | exact HB.out | apply below_alloc | apply pw_below_drewN | apply below_drew1 | refine below_set ?_ (IsS87.ge HI0.out)) | exact HB.out)⟩⟩
   subst c12; rw [if_pos rfl] at H; by_cases c13 : x7_1.length < 17592186044416; rotate_left
   ·rw [if_neg c13] at H
    exact absurd H (by simp)
   rw [if_pos c13] at H; have LMc13 := A_ c13; clear c13; obtain ⟨y104, hy104⟩ : ∃ y_ : List Int, y_ = (x7_1 ++ [x8_1]) := ⟨_, rfl⟩
   replace H : (ice_game_choices.l0 k1 a1 l2 y104 (wrap64 (x8_1 + 1)) s0_0 s0_1 t102) = some (r1, r2) := by first | (rw [hy104]; with_reducible exact H) | (have H2_ := (Option.bind_some _ _).symm.trans H; rw [hy104]; with_reducible exact H2_) | (have H2_ := (Option.bind_some _ _).symm.trans H; with_reducible exact H2_) | with_reducible exact H | (rw [hy104]; exact H) | exact H
   have Ny104 := A_ hy104; clear hy104; have H' := A_ H; clear H; obtain ⟨ASz14_0, cSz14_0, ASz14_1, cSz14_1, HGz14, hgz14, ⟨HSz14_0, HSLz14_0⟩, ⟨HSz14_1, HSLz14_1⟩⟩ := HI0.out; have hcz14_0 := cellS87_0 HGz14; have hcz14_1 := cellS87_1 HGz14; have hcz14_2 := cellS87_2 HGz14; have hfz14_2 := blk_frozen HGz14 2; clear HGz14 hgz14
   go_wp2_with (first | ((with_reducible refine gate_callee (f := 61) rfl ?_); refine goesW_ (some 22) Try.func61 #[.pointer (some ⟨g, 0, none⟩), .int .i64 a1, .int .i64 x8_1] ?_; (with_reducible refine (ice_game_tonight.calls k1 g s0_0 s0_1 x1002_1 a1 x8_1 t101 t102 w0 _ ?side1 ?side2 A5.out).mono ?_); (case side1 => repeat (first | (with_reducible first | exact HI0.out | apply IsS87.alloc | apply IsS87.drewN | apply IsS87.drew | apply IsS87.set_2) | exact HI0.out)); (case side2 => repeat (first | (with_reducible first | exact HB.out | apply below_alloc | apply pw_below_drewN | apply below_drew1 | refine below_set ?_ (IsS87.ge HI0.out)) | exact HB.out)); rintro e w15 ⟨rfl, hi, hb, hk⟩; refine ⟨_, rfl, ?_⟩; have n0_ := A_ (Kd.R_mono (Kd.R_keep (IsS87.apart (show IsS87 w0 _ g s0_0 s0_1 x1002_1 from by repeat (first | (with_reducible first | exact HI0.out | apply IsS87.alloc | apply IsS87.drewN | apply IsS87.drew | apply IsS87.set_2) | exact HI0.out)) (rU HO_7.out) (by decide)) hk (fun _ h => h.2)) (fun _ h => h.1)); have n1_ := A_ (KeepBut.trans (by repeat (first | (with_reducible first | exact HK.out | apply KeepBut.set_ | apply keep_drewN | apply keep_drew | apply keep_alloc) | exact HK.out)) hk (.inl rfl)); have n2_ := A_ (hb); have n3_ := A_ (hi); clear HO_7; clear HK; clear HB; clear HI0; have HO_7 := n0_; have HK := n1_; have HB := n2_; have HI0 := n3_; clear n0_ n1_ n2_ n3_; (try clear hb); (try clear hk); (try clear hi); have p103 : 0 ≤ (t101 : Int) := oD; have q103 : t101 < (l2.length : Int) := oD; obtain ⟨ad103, e103, hx103_0⟩ := Kd.at_bool HR2.out t101 p103 q103; (try rw [← Nbq11.out] at hx103_0); cases e103; replace hx103_0 := keep_cell HK.out hx103_0 (by first | (rw [add_block]; exact hf2 _ rfl (by omega)) | exact hf2 _ rfl (by omega) | exact hf2 ad103 rfl (by omega)); replace p103 := eq_true p103; replace q103 := eq_true q103) | ((with_reducible refine gate_builtin (b := .append) (xs := #[.tmp 31, .tmp 33]) rfl ?_); at_builtin; refine Kd.R_append (Kd.int .i64) w.heap.size rfl (.tmp 31) (.tmp 33) 22 3 (.int .i64 0) 8 rfl Try.underlying22 info3 rfl (by decide) (by omega) u7 x7_1 x8_1 [.int .i64 x8_1] (fun _ => True) (fun _ => False) rfl rfl ?aP (fun _ hk => hk.elim) ?aF ?aO (Below.refl _ _) ?aS ?aL ?_; (case aP => exact rfl); (case aF => exact (fun _ _ => trivial)); (case aO => exact (rU HO_7.out)); (case aS => exact (keep_size (w := w) (g := g) (row := none) (by repeat (first | (with_reducible first | exact HK.out | apply KeepBut.set_ | apply keep_drewN | apply keep_drew | apply keep_alloc) | exact HK.out)))); (case aL => have := LMc13.out; omega); intro v105 w16 ho hb hg hat; rw [← Ny104.out] at ho; have n0_ := A_ (IsS87.grown (by repeat (first | (with_reducible first | exact HI0.out | apply IsS87.alloc | apply IsS87.drewN | apply IsS87.drew | apply IsS87.set_2) | exact HI0.out)) hg (IsS87.own_ne HI0.out HO_7.out (by decide))); have n1_ := A_ (below_weaken (by repeat (first | (with_reducible first | exact HB.out | apply below_alloc | apply pw_below_drewN | apply below_drew1 | refine below_set ?_ (IsS87.ge HI0.out)) | exact HB.out)) HL.out hb); have n2_ := A_ (KeepBut.trans (by repeat (first | (with_reducible first | exact HK.out | apply KeepBut.set_ | apply keep_drewN | apply keep_drew | apply keep_alloc) | exact HK.out)) (KeepBut.of_grown hg g) (Kd.R_base2 HO_7.out)); have n3_ := A_ (ho); clear HI0; clear HB; clear HK; clear HO_7; have HI0 := n0_; have HB := n1_; have HK := n2_; have HO106 := n3_; clear n0_ n1_ n2_ n3_; clear ho hb hg hat))
   go_roundg k1
   case measure => have := HK1.out; omega
   case rel => exact ⟨(y104), (wrap64 (x8_1 + 1)), (t102), eS, H', ⟨by have := HK1.out; omega⟩, ⟨rU HO106.out⟩, ⟨by repeat (first | (with_reducible first | exact HI0.out | apply IsS87.alloc | apply IsS87.drewN | apply IsS87.drew | apply IsS87.set_2) | exact HI0.out)⟩, ⟨by repeat (first | (with_reducible first | exact HK.out | apply KeepBut.set_ | apply keep_drewN | apply keep_drew | apply keep_alloc) | exact HK.out)⟩, ⟨by repeat (first | (with_reducible first | exact HB.out | apply below_alloc | apply pw_below_drewN | apply below_drew1 | refine below_set ?_ (IsS87.ge HI0.out)) | exact HB.out)⟩⟩
end Go.Proofs.Ythbpibdfookbmaa.G
end
