-- Written by this session's driver (wip/tools/printmore.py) over the kit's print, with hand-written parts.
import Derived.Test.YtiapmkndgalgnaaGBase
import Derived.Test.YtiapmkndgalgnaaGF23
import Derived.Test.YtiapmkndgalgnaaGF60
namespace Go.Proofs.Ytiapmkndgalgnaa.G
open Go.RowKit Go.Proofs.YtiapmkndgalgnaaW.PrintWords Go.Proofs.YtiapmkndgalgnaaW.PrintLast Go.Proofs.YtiapmkndgalgnaaW.PrintMore
attribute [local go_sem] max2_int min2_int max_two min_two max_three min_three max_four min_four   -- for this text's walks alone
set_option linter.unusedVariables false
set_option linter.unusedSimpArgs false

/-! ### arm_Blocks: function 46 -/
def arm_Blocks.l0 : Nat → List (S84) → Int → List Int → Int → Int → Option ((List (S84)) × Int)
 | 0, _, _, _, _, _ => none
 | k + 1, x4, x5, x13, x14, x15 => if x15 < x14 then (if 0 ≤ x15 then (if x15 < (x13.length : Int) then (if x4.length < 8796093022208 then (arm_Blocks.l0 k (x4 ++ [(⟨x5, rd x13 x15⟩ : S84)]) (rd x13 x15) x13 x14 (wrap64 (x15 + 1))) else (none)) else (none)) else (none)) else (some (x4, 0))
def arm_Blocks.f (k : Nat) (l0 : List (S73)) : Option ((List (S84)) × Int) := (arm_Valid.f k l0).bind fun t101 => (if t101 = true then ((arm_pieces.f k l0).bind fun t102 => (if 1 ≤ (t102.length : Int) then ((some (t102.drop 1 : List Int)).bind fun y105 => (arm_Blocks.l0 k ([] : List (S84)) 0 y105 (y105.length : Int) 0)) else (none))) else (some (([] : List (S84)), 20)))
theorem arm_Blocks.mono_l : ∀ k, (∀ y0 y1 y2 y3 y4, LeO (arm_Blocks.l0 k y0 y1 y2 y3 y4) (arm_Blocks.l0 (k + 1) y0 y1 y2 y3 y4))
 | 0 => fun _ _ _ _ _ r h => by simp [arm_Blocks.l0] at h
 | k + 1 => by
  have ih0 := arm_Blocks.mono_l k
  ·intro y0 y1 y2 y3 y4
   unfold arm_Blocks.l0
   repeat' first
   | (with_reducible exact ih0 _ _ _ _ _)
   | (with_reducible exact arm_Valid.mono _ _)
   | (with_reducible exact arm_pieces.mono _ _)
   | (with_reducible exact LeO.refl _)
   | (with_reducible exact LeO.none _)
   | (with_reducible refine LeO.ite ?_ ?_)
   | (with_reducible refine LeO.bind ?_ (fun _ => ?_))
   | exact ih0 _ _ _ _ _
   | exact arm_Valid.mono _ _
   | exact arm_pieces.mono _ _
   | exact LeO.none _
   | refine LeO.ite ?_ ?_
   | refine LeO.bind ?_ (fun _ => ?_)
theorem arm_Blocks.mono : ∀ a0 k, LeO (arm_Blocks.f k a0) (arm_Blocks.f (k + 1) a0) := by
 intro a0 k
 have ih0 := arm_Blocks.mono_l k
 unfold arm_Blocks.f
 repeat' first
   | (with_reducible exact ih0 _ _ _ _ _)
   | (with_reducible exact arm_Valid.mono _ _)
   | (with_reducible exact arm_pieces.mono _ _)
   | (with_reducible exact LeO.refl _)
   | (with_reducible exact LeO.none _)
   | (with_reducible refine LeO.ite ?_ ?_)
   | (with_reducible refine LeO.bind ?_ (fun _ => ?_))
   | exact ih0 _ _ _ _ _
   | exact arm_Valid.mono _ _
   | exact arm_pieces.mono _ _
   | exact LeO.none _
   | refine LeO.ite ?_ ?_
   | refine LeO.bind ?_ (fun _ => ?_)
set_option maxHeartbeats 8000000 in
set_option maxRecDepth 100000 in
theorem arm_Blocks.calls (k : Nat) (A0 : Option Addr) (c0 : Nat) (l0 : List (S73)) (r1 : List (S84)) (r2 : Int) (w : World) (hr0 : Kd.C k73 w A0 l0.length l0) (hc0 : l0.length ≤ c0) (h : arm_Blocks.f k l0 = some (r1, r2)) :
  Calls Try.prog 46 #[.slice A0 l0.length c0] w fun e w' => ∃ v0_ : Value, e = .returned (.tuple #[v0_, .int .i64 r2]) ∧ Kd.R k84 84 w' w.heap.size (fun _ => True) v0_ r1 ∧ Below w.heap.size w w' := by
 have hu84 := Try.underlying84
 have HR0 := A_ hr0
 have HC0 := A_ hc0
 clear hr0 hc0
 have HB := A_ (Below.refl w.heap.size w)
 have H : ((arm_Valid.f k l0).bind fun t101 => (if t101 = true then ((arm_pieces.f k l0).bind fun t102 => (if 1 ≤ (t102.length : Int) then ((some (t102.drop 1 : List Int)).bind fun y105 => (arm_Blocks.l0 k ([] : List (S84)) 0 y105 (y105.length : Int) 0)) else (none))) else (some (([] : List (S84)), 20)))) = some (r1, r2) := h
 clear h
 replace H := Option.bind_eq_some_iff.mp H
 obtain ⟨t101, A20, H⟩ := H
 replace H : (if t101 = true then ((arm_pieces.f k l0).bind fun t102 => (if 1 ≤ (t102.length : Int) then ((some (t102.drop 1 : List Int)).bind fun y105 => (arm_Blocks.l0 k ([] : List (S84)) 0 y105 (y105.length : Int) 0)) else (none))) else (some (([] : List (S84)), 20))) = some (r1, r2) := H
 have A2 := A_ A20
 clear A20
 by_cases c3 : t101 = true
 rotate_left
 ·replace c3 := Bool.eq_false_iff.mpr c3
  subst c3
  have H1 : (some (([] : List (S84)), 20)) = some (r1, r2) := by rw [if_neg (show ¬ (false = true) by decide)] at H; exact H
  clear H
  have H := H1
  clear H1
  simp only [Option.some.injEq, Prod.mk.injEq] at H
  obtain ⟨rfl, rfl⟩ := H
  go_enter Try.func46, Try.ntmps46
  go_wp2_with (first | ((with_reducible refine gate_callee (f := 23) rfl ?_); refine goesW_ (some 9) Try.func23 #[.slice A0 l0.length c0] ?_; (with_reducible refine (arm_Valid.calls k _ _ l0 false _ ?side1 ?side2 A2.out).mono ?_); (case side1 => exact cU HR0.out); (case side2 => exact HC0.out); rintro e w15 ⟨rfl, hb⟩; refine ⟨_, rfl, ?_⟩; have n0_ := A_ (below_step (bW0 HB.out) hb); clear HB; have HB := n0_; clear n0_; (try clear hb)))
  go_ret2
  exact ⟨_, by first | rfl | (simp [errW_none, errW_some] <;> rfl) | (simp [*, errW_none, errW_some] <;> rfl), by first | exact Kd.R_nil _ _ _ _ _ | exact Kd.N_nil _ _ _ _ _ | exact Kd.V_nil _ _ _ _ _ | exact Kd.Q_nil _ _ _ _ _ | exact Kd.S_nil _ _ _ _ _, by repeat (first | (with_reducible first | exact HB.out | apply below_alloc | apply pw_below_drewN | apply below_drew1) | exact HB.out)⟩

 subst c3
 have H1 : ((arm_pieces.f k l0).bind fun t102 => (if 1 ≤ (t102.length : Int) then ((some (t102.drop 1 : List Int)).bind fun y105 => (arm_Blocks.l0 k ([] : List (S84)) 0 y105 (y105.length : Int) 0)) else (none))) = some (r1, r2) := by rw [if_pos rfl] at H; exact H
 clear H
 have H := H1
 clear H1
 replace H := Option.bind_eq_some_iff.mp H
 obtain ⟨t102, A40, H⟩ := H
 replace H : (if 1 ≤ (t102.length : Int) then ((some (t102.drop 1 : List Int)).bind fun y105 => (arm_Blocks.l0 k ([] : List (S84)) 0 y105 (y105.length : Int) 0)) else (none)) = some (r1, r2) := H
 have A4 := A_ A40
 clear A40
 by_cases c5 : 1 ≤ (t102.length : Int)
 rotate_left
 ·rw [if_neg c5] at H
  exact absurd H (by simp)
 rw [if_pos c5] at H
 have c5b0 := eq_true c5
 have c5b1 : decide (1 ≤ (t102.length : Int)) = true := decide_eq_true c5
 clear c5
 obtain ⟨y105, hy105⟩ : ∃ y_ : List Int, y_ = (t102.drop 1) := ⟨_, rfl⟩
 replace H : (arm_Blocks.l0 k ([] : List (S84)) 0 y105 (y105.length : Int) 0) = some (r1, r2) := by first | (rw [hy105]; with_reducible exact H) | (have H2_ := (Option.bind_some _ _).symm.trans H; rw [hy105]; with_reducible exact H2_) | (have H2_ := (Option.bind_some _ _).symm.trans H; with_reducible exact H2_) | with_reducible exact H | (rw [hy105]; exact H) | exact H
 have Ny105 := A_ hy105
 clear hy105
 have H' := A_ H
 clear H
 go_enter Try.func46, Try.ntmps46
 go_wp2_with (first | ((with_reducible refine gate_callee (f := 23) rfl ?_); refine goesW_ (some 9) Try.func23 #[.slice A0 l0.length c0] ?_; (with_reducible refine (arm_Valid.calls k _ _ l0 true _ ?side1 ?side2 A2.out).mono ?_); (case side1 => exact cU HR0.out); (case side2 => exact HC0.out); rintro e w6 ⟨rfl, hb⟩; refine ⟨_, rfl, ?_⟩; have n0_ := A_ (below_step (bW0 HB.out) hb); clear HB; have HB := n0_; clear n0_; (try clear hb)) | ((with_reducible refine gate_callee (f := 60) rfl ?_); refine goesW_ (some 12) Try.func60 #[.slice A0 l0.length c0] ?_; (with_reducible refine (arm_pieces.calls k _ _ l0 t102 _ ?side1 ?side2 A4.out).mono ?_); (case side1 => exact cU (Kd.C_below HR0.out HB.out)); (case side2 => exact HC0.out); rintro e w7 ⟨v103, rfl, ho0, hb⟩; refine ⟨_, rfl, ?_⟩; have n0_ := A_ (Kd.R_lower ho0 (below_size (bW0 HB.out))); have n1_ := A_ (below_step (bW0 HB.out) hb); clear HB; have HO104 := n0_; have HB := n1_; clear n0_ n1_; (try clear hb); (try clear ho0); obtain ⟨Ao9, co9, eo9⟩ := Kd.R_slice HO104.out; subst eo9; have q8 : (1 : Int) ≤ ((t102.length : Int) : Int) := oD; obtain ⟨i08, hi08, _, hsz8, _⟩ := info_parts info3; have hroom8 : t102.length ≤ co9 := (Kd.R_reads' HO104.out).2.1; have hC8 : Kd.C (Kd.int .i64) _ Ao9 t102.length t102 := (Kd.R_reads' HO104.out).2.2; have hcut8 := cut_from (P := Try.prog) 45 3 .i64 Try.underlying45 hi08 1 hsz8 Ao9 t102.length co9 1 (by omega) q8; have hr8 := Kd.C_drop (m := (1 : Int).toNat) (c := co9) hC8 (by omega) hroom8; obtain ⟨A8, hA8⟩ : ∃ A1, A1 = (if co9 = (1 : Int).toNat then Ao9 else (Ao9 : Option Addr).map (·.add ((1 : Int).toNat * 1))) := ⟨_, rfl⟩; obtain ⟨c8, hc8⟩ : ∃ c1, c1 = co9 - (1 : Int).toNat := ⟨_, rfl⟩; have hy8 : y105.length = t102.length - (1 : Int).toNat := (by rw [Ny105.out, List.length_drop] <;> omega); rw [show (t102).drop (1 : Int).toNat = y105 from Ny105.out.symm] at hr8; replace hr8 : Kd.C (Kd.int .i64) _ A8 y105.length y105 := (by rw [hA8]; exact hr8); rw [← hy8, ← hA8, ← hc8] at hcut8; have HR108 := A_ hr8; have HC108 := A_ (show y105.length ≤ c8 from by rw [hy8, hc8]; exact Nat.sub_le_sub_right hroom8 _); clear hr8 hC8 hroom8 hi08 hsz8 hc8; have KY8 := A_ hy8; have KA8 := A_ hA8; clear hy8 hA8; have KL8 := A_ (show 1 ≤ t102.length from by omega); replace q8 := eq_true q8))
 have HB7 := HB
 go_loopg [4, 5, 15] k (fun kq v4 v5 v15 w' => ∃ (x4_1 : List (S84)) (x5_1 : Int) (x15_1 : Int), v5 = .int .i64 x5_1 ∧ v15 = .int .i64 x15_1 ∧ Aside0 (arm_Blocks.l0 kq x4_1 x5_1 y105 (y105.length : Int) x15_1 = some (r1, r2)) ∧ Aside0 (kq ≤ k) ∧ Aside0 (Kd.R k84 84 w' w7.heap.size (fun _ => True) v4 x4_1) ∧ Aside0 (Below w7.heap.size w7 w'))
 case atStart => exact ⟨(([] : List (S84))), (0), (0), eS, eS, H', ⟨Nat.le_refl _⟩, ⟨by first | exact Kd.R_nil _ _ _ _ _ | exact Kd.N_nil _ _ _ _ _ | exact Kd.V_nil _ _ _ _ _ | exact Kd.Q_nil _ _ _ _ _ | exact Kd.S_nil _ _ _ _ _⟩, ⟨by repeat (first | exact Below.refl _ _ | apply below_alloc | apply pw_below_drewN | apply below_drew1)⟩⟩
 case round =>
  clear H'
  try clear c1; try clear c2; try clear p2; try clear c3; try clear c4; try clear c5; try clear c5b0; try clear c5b1; try clear c6; try clear c8; try clear q8; try clear q8
  obtain ⟨x4_1, x5_1, x15_1, rfl, rfl, HA, HK1, HO_4, HB⟩ := hrel
  cases gk with
  | zero => exact absurd HA.out (by simp [arm_Blocks.l0])
  | succ k1 =>
   have H := HA.out
   clear HA
   simp only [arm_Blocks.l0] at H
   by_cases c10 : x15_1 < (y105.length : Int)
   rotate_left
   ·rw [if_neg c10] at H
    have c10b0 : decide (x15_1 < (y105.length : Int)) = false := decide_eq_false c10
    clear c10
    simp only [Option.some.injEq, Prod.mk.injEq] at H
    obtain ⟨rfl, rfl⟩ := H
    go_wp2
    go_ret2
    exact ⟨_, by first | rfl | (simp [errW_none, errW_some] <;> rfl), by (with_reducible repeat (first | apply Kd.R_alloc | apply Kd.R_drewN | apply Kd.R_drew)); exact Kd.R_lower HO_4.out (below_size HB7.out), by repeat (first | exact below_step HB7.out HB.out | apply below_alloc | apply pw_below_drewN | apply below_drew1)⟩
   rw [if_pos c10] at H
   have c10b0 : decide (x15_1 < (y105.length : Int)) = true := decide_eq_true c10
   clear c10
   by_cases c11 : 0 ≤ x15_1
   rotate_left
   ·rw [if_neg c11] at H
    exact absurd H (by simp)
   rw [if_pos c11] at H
   have c11b0 : decide (0 ≤ x15_1) = true := decide_eq_true c11
   clear c11
   by_cases c12 : x15_1 < (y105.length : Int)
   rotate_left
   ·rw [if_neg c12] at H
    exact absurd H (by simp)
   rw [if_pos c12] at H
   have c12b0 : decide (x15_1 < (y105.length : Int)) = true := decide_eq_true c12
   clear c12
   by_cases c13 : x4_1.length < 8796093022208
   rotate_left
   ·rw [if_neg c13] at H
    exact absurd H (by simp)
   rw [if_pos c13] at H
   have LMc13 := A_ c13
   clear c13
   obtain ⟨y110, hy110⟩ : ∃ y_ : List (S84), y_ = (x4_1 ++ [(⟨x5_1, rd y105 x15_1⟩ : S84)]) := ⟨_, rfl⟩
   replace H : (arm_Blocks.l0 k1 y110 (rd y105 x15_1) y105 (y105.length : Int) (wrap64 (x15_1 + 1))) = some (r1, r2) := by first | (rw [hy110]; with_reducible exact H) | (have H2_ := (Option.bind_some _ _).symm.trans H; rw [hy110]; with_reducible exact H2_) | (have H2_ := (Option.bind_some _ _).symm.trans H; with_reducible exact H2_) | with_reducible exact H | (rw [hy110]; exact H) | exact H
   have Ny110 := A_ hy110
   clear hy110
   have H' := A_ H
   clear H
   have p109 : 0 ≤ (x15_1 : Int) := oD
   have q109 : x15_1 < (y105.length : Int) := oD
   obtain ⟨ad109, e109, hx109_0⟩ := Kd.at_int HR108.out x15_1 p109 q109
   cases e109
   replace hx109_0 := (HB.out.cell (World.block_lt_of_cell? w7 _ hx109_0)).trans hx109_0
   replace p109 := eq_true p109
   replace q109 := eq_true q109
   go_wp2_with (first | ((with_reducible refine gate_builtin (b := .append) (xs := #[.tmp 19, .tmp 23]) rfl ?_); at_builtin; refine Kd.R_append k84 (w0 := w7) w7.heap.size rfl (.tmp 19) (.tmp 23) 60 84 (.agg #[(.int .i64 0), (.int .i64 0)]) 16 rfl Try.underlying60 info84 rfl (by decide) (by omega) u4 x4_1 (⟨x5_1, rd y105 x15_1⟩ : S84) [.int .i64 x5_1, .int .i64 (rd y105 x15_1)] (fun _ => True) (fun _ => False) rfl rfl ?aP (fun _ hk => hk.elim) ?aF ?aO ?aB ?aS ?aL ?_; (case aP => exact k84_mkM _ _ _ (⟨x5_1, rd y105 x15_1⟩ : S84)); (case aB => exact (bW0 HB.out)); (case aF => exact (fun _ _ => trivial)); (case aO => exact (rU HO_4.out)); (case aS => exact (below_size (bW0 HB.out))); (case aL => have := LMc13.out; omega); intro v111 w14 ho hb hg hat; rw [← Ny110.out] at ho; have n0_ := A_ (hb); have n1_ := A_ (ho); clear HB; clear HO_4; have HB := n0_; have HO112 := n1_; clear n0_ n1_; clear ho hb hg hat))
   go_roundg k1
   case measure => have := HK1.out; omega
   case rel => exact ⟨(y110), (rd y105 x15_1), (wrap64 (x15_1 + 1)), eS, eS, H', ⟨by have := HK1.out; omega⟩, ⟨rU HO112.out⟩, ⟨by repeat (first | (with_reducible first | exact HB.out | apply below_alloc | apply pw_below_drewN | apply below_drew1) | exact HB.out)⟩⟩

end Go.Proofs.Ytiapmkndgalgnaa.G
