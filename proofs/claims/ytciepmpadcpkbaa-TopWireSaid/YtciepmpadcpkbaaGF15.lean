-- Written by this session's driver (wip/tools/printmore.py) over the kit's print, with hand-written parts.
import Derived.Test.YtciepmpadcpkbaaGBase
import Derived.Test.YtciepmpadcpkbaaGF50
import Derived.Test.YtciepmpadcpkbaaGF51
import Derived.Test.YtciepmpadcpkbaaGF52
import Derived.Test.YtciepmpadcpkbaaGF53
namespace Go.Proofs.Ytciepmpadcpkbaa.G
open Go.RowKit Go.Proofs.YtciepmpadcpkbaaW.PrintWords Go.Proofs.YtciepmpadcpkbaaW.PrintLast Go.Proofs.YtciepmpadcpkbaaW.PrintMore
attribute [local go_sem] max2_int min2_int max_two min_two max_three min_three max_four min_four   -- for this text's walks alone
set_option linter.unusedVariables false
set_option linter.unusedSimpArgs false

/-! ### wire_Clash: function 15 -/
mutual
def wire_Clash.l0 : Nat → List (S72) → List Int → List (S72) → Int → Int → Option (Int × Int × Int)
 | 0, _, _, _, _, _ => none
 | k + 1, x0, x9, x24, x25, x26 => if x26 < x25 then (if 0 ≤ x26 then (if x26 < (x24.length : Int) then ((api_Window.f k x0 (fun z0_ z1_ z2_ => wire_Clash_1.f z0_ z1_ z2_ ((rd_T72 x24 x26).f0) ((rd_T72 x24 x26).f1) ((rd_T72 x24 x26).f2))).bind fun t107 => (wire_Clash.l1 k x0 x9 x26 t107 x24 x25 x26 ((rd_T72 x24 x26).f0) ((rd_T72 x24 x26).f1) ((rd_T72 x24 x26).f2))) else (none)) else (none)) else (some (0, 0, 5))
def wire_Clash.l1 : Nat → List (S72) → List Int → Int → Int → List (S72) → Int → Int → Int → Int → Int → Option (Int × Int × Int)
 | 0, _, _, _, _, _, _, _, _, _, _ => none
 | k + 1, x0, x9, x11, x13, x24, x25, x26, x107000, x107001, x107002 => if x13 ≥ 0 then (wire_Clash.j2 k x0 x9 x11 x13 x24 x25 x26 (decide (x13 < (x0.length : Int))) x107000 x107001 x107002) else (wire_Clash.j2 k x0 x9 x11 x13 x24 x25 x26 false x107000 x107001 x107002)
def wire_Clash.j2 : Nat → List (S72) → List Int → Int → Int → List (S72) → Int → Int → Bool → Int → Int → Int → Option (Int × Int × Int)
 | 0, _, _, _, _, _, _, _, _, _, _, _ => none
 | k + 1, x0, x9, x11, x13, x24, x25, x26, x41, x107000, x107001, x107002 => if x41 = true then (if 0 ≤ x13 then (if x13 < (x0.length : Int) then ((wire_places_to.f x9 x11 x13).bind fun t109 => (if x107001 > (wrap64 (((rd_T72 x0 x13).f2) + t109)) then (some (x11, x13, 0)) else (wire_Clash.l1 k x0 x9 x11 (wrap64 (x13 + 1)) x24 x25 x26 x107000 x107001 x107002))) else (none)) else (none)) else (wire_Clash.l0 k x0 x9 x24 x25 (wrap64 (x26 + 1)))
end
def wire_Clash.f (k : Nat) (l0 : List (S72)) (a1 : Int) (a2 : Int) : Option (Int × Int × Int) := (wire_asked.f k l0 a1 a2).bind fun bt101 => (if bt101.2 = 0 then (wire_Clash.l0 k l0 bt101.1 l0 (l0.length : Int) 0) else (some (0, 0, bt101.2)))
theorem wire_Clash.mono_l : ∀ k, (∀ y0 y1 y2 y3 y4, LeO (wire_Clash.l0 k y0 y1 y2 y3 y4) (wire_Clash.l0 (k + 1) y0 y1 y2 y3 y4)) ∧ (∀ y0 y1 y2 y3 y4 y5 y6 y7 y8 y9, LeO (wire_Clash.l1 k y0 y1 y2 y3 y4 y5 y6 y7 y8 y9) (wire_Clash.l1 (k + 1) y0 y1 y2 y3 y4 y5 y6 y7 y8 y9)) ∧ (∀ y0 y1 y2 y3 y4 y5 y6 y7 y8 y9 y10, LeO (wire_Clash.j2 k y0 y1 y2 y3 y4 y5 y6 y7 y8 y9 y10) (wire_Clash.j2 (k + 1) y0 y1 y2 y3 y4 y5 y6 y7 y8 y9 y10))
 | 0 => ⟨fun _ _ _ _ _ r h => by simp [wire_Clash.l0] at h, fun _ _ _ _ _ _ _ _ _ _ r h => by simp [wire_Clash.l1] at h, fun _ _ _ _ _ _ _ _ _ _ _ r h => by simp [wire_Clash.j2] at h⟩
 | k + 1 => by
  obtain ⟨ih0, ih1, ih2⟩ := wire_Clash.mono_l k
  refine ⟨?_, ?_, ?_⟩
  ·intro y0 y1 y2 y3 y4
   unfold wire_Clash.l0
   repeat' first
   | (with_reducible exact ih0 _ _ _ _ _)
   | (with_reducible exact ih1 _ _ _ _ _ _ _ _ _ _)
   | (with_reducible exact ih2 _ _ _ _ _ _ _ _ _ _ _)
   | (with_reducible exact api_Window.mono _ _ _)
   | (with_reducible exact wire_asked.mono _ _ _ _)
   | (with_reducible exact LeO.refl _)
   | (with_reducible exact LeO.none _)
   | (with_reducible refine LeO.ite ?_ ?_)
   | (with_reducible refine LeO.bind ?_ (fun _ => ?_))
   | exact ih0 _ _ _ _ _
   | exact ih1 _ _ _ _ _ _ _ _ _ _
   | exact ih2 _ _ _ _ _ _ _ _ _ _ _
   | exact api_Window.mono _ _ _
   | exact wire_asked.mono _ _ _ _
   | exact LeO.none _
   | refine LeO.ite ?_ ?_
   | refine LeO.bind ?_ (fun _ => ?_)
  ·intro y0 y1 y2 y3 y4 y5 y6 y7 y8 y9
   unfold wire_Clash.l1
   repeat' first
   | (with_reducible exact ih0 _ _ _ _ _)
   | (with_reducible exact ih1 _ _ _ _ _ _ _ _ _ _)
   | (with_reducible exact ih2 _ _ _ _ _ _ _ _ _ _ _)
   | (with_reducible exact api_Window.mono _ _ _)
   | (with_reducible exact wire_asked.mono _ _ _ _)
   | (with_reducible exact LeO.refl _)
   | (with_reducible exact LeO.none _)
   | (with_reducible refine LeO.ite ?_ ?_)
   | (with_reducible refine LeO.bind ?_ (fun _ => ?_))
   | exact ih0 _ _ _ _ _
   | exact ih1 _ _ _ _ _ _ _ _ _ _
   | exact ih2 _ _ _ _ _ _ _ _ _ _ _
   | exact api_Window.mono _ _ _
   | exact wire_asked.mono _ _ _ _
   | exact LeO.none _
   | refine LeO.ite ?_ ?_
   | refine LeO.bind ?_ (fun _ => ?_)
  ·intro y0 y1 y2 y3 y4 y5 y6 y7 y8 y9 y10
   unfold wire_Clash.j2
   repeat' first
   | (with_reducible exact ih0 _ _ _ _ _)
   | (with_reducible exact ih1 _ _ _ _ _ _ _ _ _ _)
   | (with_reducible exact ih2 _ _ _ _ _ _ _ _ _ _ _)
   | (with_reducible exact api_Window.mono _ _ _)
   | (with_reducible exact wire_asked.mono _ _ _ _)
   | (with_reducible exact LeO.refl _)
   | (with_reducible exact LeO.none _)
   | (with_reducible refine LeO.ite ?_ ?_)
   | (with_reducible refine LeO.bind ?_ (fun _ => ?_))
   | exact ih0 _ _ _ _ _
   | exact ih1 _ _ _ _ _ _ _ _ _ _
   | exact ih2 _ _ _ _ _ _ _ _ _ _ _
   | exact api_Window.mono _ _ _
   | exact wire_asked.mono _ _ _ _
   | exact LeO.none _
   | refine LeO.ite ?_ ?_
   | refine LeO.bind ?_ (fun _ => ?_)
theorem wire_Clash.mono : ∀ a0 a1 a2 k, LeO (wire_Clash.f k a0 a1 a2) (wire_Clash.f (k + 1) a0 a1 a2) := by
 intro a0 a1 a2 k
 obtain ⟨ih0, ih1, ih2⟩ := wire_Clash.mono_l k
 unfold wire_Clash.f
 repeat' first
   | (with_reducible exact ih0 _ _ _ _ _)
   | (with_reducible exact ih1 _ _ _ _ _ _ _ _ _ _)
   | (with_reducible exact ih2 _ _ _ _ _ _ _ _ _ _ _)
   | (with_reducible exact api_Window.mono _ _ _)
   | (with_reducible exact wire_asked.mono _ _ _ _)
   | (with_reducible exact LeO.refl _)
   | (with_reducible exact LeO.none _)
   | (with_reducible refine LeO.ite ?_ ?_)
   | (with_reducible refine LeO.bind ?_ (fun _ => ?_))
   | exact ih0 _ _ _ _ _
   | exact ih1 _ _ _ _ _ _ _ _ _ _
   | exact ih2 _ _ _ _ _ _ _ _ _ _ _
   | exact api_Window.mono _ _ _
   | exact wire_asked.mono _ _ _ _
   | exact LeO.none _
   | refine LeO.ite ?_ ?_
   | refine LeO.bind ?_ (fun _ => ?_)
def wire_Clash.T10 : Bool × List (List Nat × List Nat) := (true, [([], []), ([0], [0]), ([], []), ([], []), ([2, 3], [2, 3]), ([4], [4]), ([5], [5]), ([], []), ([], []), ([], []), ([7, 8, 9], [7, 8, 9]), ([6, 10], [6, 10]), ([1, 11], [1, 11])])
def wire_Clash.B10 : List Nat := [0, 1, 0, 0, 12, 28, 60, 0, 0, 0, 896, 2044, 4095]
theorem wire_Clash.tab10 : rtab .any (opsOf Try.f15 10) = wire_Clash.T10 := by kernel_rfl
theorem wire_Clash.bits10 : waitsOk wire_Clash.T10.2 wire_Clash.B10 = true := by kernel_rfl
set_option maxHeartbeats 8000000 in
set_option maxRecDepth 100000 in
theorem wire_Clash.calls (k : Nat) (A0 : Option Addr) (c0 : Nat) (l0 : List (S72)) (a1 : Int) (a2 : Int) (r1 : Int) (r2 : Int) (r3 : Int) (w : World) (hr0 : Kd.C k72 w A0 l0.length l0) (hc0 : l0.length ≤ c0) (h : wire_Clash.f k l0 a1 a2 = some (r1, r2, r3)) :
  Calls Try.prog 15 #[.slice A0 l0.length c0, .int .i64 a1, .int .i64 a2] w fun e w' => e = .returned (.tuple #[.int .i64 r1, .int .i64 r2, .int .i64 r3]) ∧ Below w.heap.size w w' := by
 have hu72 := Try.underlying72
 have HR0 := A_ hr0
 have HC0 := A_ hc0
 clear hr0 hc0
 have HB := A_ (Below.refl w.heap.size w)
 have H : ((wire_asked.f k l0 a1 a2).bind fun bt101 => (if bt101.2 = 0 then (wire_Clash.l0 k l0 bt101.1 l0 (l0.length : Int) 0) else (some (0, 0, bt101.2)))) = some (r1, r2, r3) := h
 clear h
 replace H := Option.bind_eq_some_iff.mp H
 obtain ⟨⟨t101, t102⟩, A40, H⟩ := H
 replace H : (if t102 = 0 then (wire_Clash.l0 k l0 t101 l0 (l0.length : Int) 0) else (some (0, 0, t102))) = some (r1, r2, r3) := H
 have A4 := A_ A40
 clear A40
 by_cases c5 : t102 = 0
 rotate_left
 ·rw [if_neg c5] at H
  have c5b0 : (t102 == 0) = false := beq_eq_false_iff_ne.mpr c5
  have c5b1 : (t102 != 0) = true := bne_iff_ne.mpr c5
  simp only [Option.some.injEq, Prod.mk.injEq] at H
  obtain ⟨rfl, rfl, rfl⟩ := H
  go_enter Try.func15, Try.ntmps15
  go_wp2_with (first | ((with_reducible refine gate_callee (f := 50) rfl ?_); refine goesL_ (some 18) rfl rfl Try.func50 (by kernel_rfl) rfl #[.slice A0 l0.length c0, .int .i64 a1, .int .i64 a2] rfl (by (try simp only [List.map_toArray, List.map_cons, List.map_nil]); first | done | rfl | (simp only [List.length_drop, List.length_take]; rfl)) ?_; (with_reducible refine (wire_asked.calls k _ _ l0 a1 a2 t101 t102 _ ?side1 ?side2 A4.out).mono ?_); (case side1 => exact cU HR0.out); (case side2 => exact HC0.out); rintro e w27 ⟨v103, rfl, ho0, hb⟩; refine ⟨_, rfl, ?_⟩; have n0_ := A_ (Kd.R_lower ho0 (below_size (bW0 HB.out))); have n1_ := A_ (below_step (bW0 HB.out) hb); clear HB; have HO104 := n0_; have HB := n1_; clear n0_ n1_; (try clear hb); (try clear hb2); (try clear hk); (try clear hi); (try clear ho0)))
  go_ret3
  exact ⟨by first | rfl | (simp [errW_none, errW_some] <;> rfl) | (simp [*, errW_none, errW_some] <;> rfl), by repeat (first | (with_reducible first | exact HB.out | apply below_alloc | apply pw_below_drewN | apply below_drew1) | exact HB.out)⟩

 rw [if_pos c5] at H
 have c5b0 : (t102 == 0) = true := beq_iff_eq.mpr c5
 have c5b1 : (t102 != 0) = false := bne_eq_false_iff_eq.mpr c5
 clear c5
 have H' := A_ H
 clear H
 go_enter Try.func15, Try.ntmps15
 go_wp2_with (first | ((with_reducible refine gate_callee (f := 50) rfl ?_); refine goesL_ (some 18) rfl rfl Try.func50 (by kernel_rfl) rfl #[.slice A0 l0.length c0, .int .i64 a1, .int .i64 a2] rfl (by (try simp only [List.map_toArray, List.map_cons, List.map_nil]); first | done | rfl | (simp only [List.length_drop, List.length_take]; rfl)) ?_; (with_reducible refine (wire_asked.calls k _ _ l0 a1 a2 t101 t102 _ ?side1 ?side2 A4.out).mono ?_); (case side1 => exact cU HR0.out); (case side2 => exact HC0.out); rintro e w6 ⟨v103, rfl, ho0, hb⟩; refine ⟨_, rfl, ?_⟩; have n0_ := A_ (Kd.R_lower ho0 (below_size (bW0 HB.out))); have n1_ := A_ (below_step (bW0 HB.out) hb); clear HB; have HO104 := n0_; have HB := n1_; clear n0_ n1_; (try clear hb); (try clear hb2); (try clear hk); (try clear hi); (try clear ho0)))
 go_loopg [26] k (fun kq v26 w' => ∃ (x26_1 : Int), v26 = .int .i64 x26_1 ∧ Aside0 (wire_Clash.l0 kq l0 t101 l0 (l0.length : Int) x26_1 = some (r1, r2, r3)) ∧ Aside0 (kq ≤ k) ∧ Aside0 (Kd.R (Kd.int .i64) 3 w' w.heap.size (fun _ => True) v103 t101) ∧ Aside0 (Below w.heap.size w w'))
 case atStart => exact ⟨(0), (by first | rfl | (simp; done) | (simp [*]; done)), H', ⟨Nat.le_refl _⟩, ⟨rU HO104.out⟩, ⟨by repeat (first | (with_reducible first | exact HB.out | apply below_alloc | apply pw_below_drewN | apply below_drew1) | exact HB.out)⟩⟩
 case round =>
  clear H'
  try clear c1
  try clear p2
  try clear c5
  try clear c5b0
  try clear c5b1
  obtain ⟨x26_1, rfl, HA, HK1, HO_9, HB⟩ := hrel
  cases gk with
  | zero => exact absurd HA.out (by simp [wire_Clash.l0])
  | succ k1 =>
   have H := HA.out
   clear HA
   simp only [wire_Clash.l0] at H
   by_cases c7 : x26_1 < (l0.length : Int)
   rotate_left
   ·rw [if_neg c7] at H
    have c7b0 : decide (x26_1 < (l0.length : Int)) = false := decide_eq_false c7
    clear c7
    simp only [Option.some.injEq, Prod.mk.injEq] at H
    obtain ⟨rfl, rfl, rfl⟩ := H
    go_wp2
    go_ret3
    exact ⟨by first | rfl | (simp [errW_none, errW_some] <;> rfl) | (simp [*, errW_none, errW_some] <;> rfl), by repeat (first | (with_reducible first | exact HB.out | apply below_alloc | apply pw_below_drewN | apply below_drew1) | exact HB.out)⟩
   rw [if_pos c7] at H
   have c7b0 : decide (x26_1 < (l0.length : Int)) = true := decide_eq_true c7
   clear c7
   by_cases c8 : 0 ≤ x26_1
   rotate_left
   ·rw [if_neg c8] at H
    exact absurd H (by simp)
   rw [if_pos c8] at H
   have c8b0 : decide (0 ≤ x26_1) = true := decide_eq_true c8
   clear c8
   by_cases c9 : x26_1 < (l0.length : Int)
   rotate_left
   ·rw [if_neg c9] at H
    exact absurd H (by simp)
   rw [if_pos c9] at H
   have c9b0 : decide (x26_1 < (l0.length : Int)) = true := decide_eq_true c9
   clear c9
   replace H := Option.bind_eq_some_iff.mp H
   obtain ⟨t107, A100, H⟩ := H
   replace H : (wire_Clash.l1 k1 l0 t101 x26_1 t107 l0 (l0.length : Int) x26_1 ((rd_T72 l0 x26_1).f0) ((rd_T72 l0 x26_1).f1) ((rd_T72 l0 x26_1).f2)) = some (r1, r2, r3) := H
   have A10 := A_ A100
   clear A100
   have H' := A_ H
   clear H
   have p105 : 0 ≤ (x26_1 : Int) := of_decide_eq_true (by first | (with_reducible assumption) | assumption)
   have q105 : x26_1 < (l0.length : Int) := of_decide_eq_true (by first | (with_reducible assumption) | assumption)
   obtain ⟨ad105, e105, hx105_0, hx105_1, hx105_2⟩ := at_T72 HR0.out x26_1 p105 q105
   cases e105
   replace hx105_0 := (HB.out.cell (World.block_lt_of_cell? w _ hx105_0)).trans hx105_0
   replace hx105_1 := (HB.out.cell (World.block_lt_of_cell? w _ hx105_1)).trans hx105_1
   replace hx105_2 := (HB.out.cell (World.block_lt_of_cell? w _ hx105_2)).trans hx105_2
   replace p105 := eq_true p105
   replace q105 := eq_true q105
   go_wp2_with (first | ((with_reducible refine gate_dst (N := 12) rfl ?_); (try (refine gate_guard (by rfl) ?_; dsimp only)); refine box_event ?hg (N := 12) ?hd (cs := #[.int .i64 0, .int .i64 0, .int .i64 0]) (t := 72) ?hr ?_; (case hd => rfl); (case hg => rfl); (case hr => first | (go_simp; done) | (go_simp; rfl)); intro gb106 hg w11 hbox hb; have n0_ := A_ (Kd.R_below (rU HO_9.out) hb); have n1_ := A_ (below_step (bW0 HB.out) hb); have n2_ := A_ (hbox); have n3_ := A_ ((szG hg (bW0 HB.out))); have n4_ := A_ ((szG hg (bW0 HB.out))); clear HO_9; clear HB; have HO_9 := n0_; have HB := n1_; have BK106 := n2_; have GW106 := n3_; have GE106 := n4_; clear n0_ n1_ n2_ n3_ n4_; clear hb hbox hg; have hcz12_0 : w11.cell? ⟨gb106, 0, none⟩ = some (.int .i64 0) := (blk_cell BK106.out 0).trans rfl; have hcz12_1 : w11.cell? ⟨gb106, 1, none⟩ = some (.int .i64 0) := (blk_cell BK106.out 1).trans rfl; have hcz12_2 : w11.cell? ⟨gb106, 2, none⟩ = some (.int .i64 0) := (blk_cell BK106.out 2).trans rfl; have hfz12_0 := blk_frozen BK106.out 0; have hfz12_1 := blk_frozen BK106.out 1; have hfz12_2 := blk_frozen BK106.out 2) | ((with_reducible refine gate_callee (f := 51) rfl ?_); refine goesL_ (some 33) rfl rfl Try.func51 (by kernel_rfl) rfl #[.slice (some ad105) l0.length c0, .func (.func 52) #[] #[.pointer (some ⟨gb106, 0, none⟩)]] rfl (by (try simp only [List.map_toArray, List.map_cons, List.map_nil]); first | done | rfl | (simp only [List.length_drop, List.length_take]; rfl)) ?_; (with_reducible refine (api_Window.calls k1 _ _ l0 (enters_f Try.func52 (by kernel_rfl) rfl) (fun z0_ z1_ z2_ => wire_Clash_1.f z0_ z1_ z2_ ((rd_T72 l0 x26_1).f0) ((rd_T72 l0 x26_1).f1) ((rd_T72 l0 x26_1).f2)) t107 _ ?side1 ?side2 ?side3 A10.out).mono ?_); (case side1 => exact Kd.C_below HR0.out (bW1 HB.out GE106.out)); (case side2 => exact HC0.out); (case side3 => intro z0_ z1_ z2_ q0_ W_ hW_ hq_; have hc_ := wire_Clash_1.calls z0_ z1_ z2_ gb106 ((rd_T72 l0 x26_1).f0) ((rd_T72 l0 x26_1).f1) ((rd_T72 l0 x26_1).f2) q0_ W_ (blk_below (g := gb106) (o := .cells #[.int .i64 ((rd_T72 l0 x26_1).f0), .int .i64 ((rd_T72 l0 x26_1).f1), .int .i64 ((rd_T72 l0 x26_1).f2)] 72 (0, 0)) (by (with_reducible repeat (first | refine blk_drewN ?_ _ | refine blk_drew ?_ | refine blk_alloc ?_ _)); refine blk_put (cs := #[.int .i64 ((rd_T72 l0 x26_1).f0), .int .i64 ((rd_T72 l0 x26_1).f1), .int .i64 0]) ?_ 2 _ rfl; (with_reducible repeat (first | refine blk_drewN ?_ _ | refine blk_drew ?_ | refine blk_alloc ?_ _)); refine blk_put (cs := #[.int .i64 ((rd_T72 l0 x26_1).f0), .int .i64 0, .int .i64 0]) ?_ 1 _ rfl; (with_reducible repeat (first | refine blk_drewN ?_ _ | refine blk_drew ?_ | refine blk_alloc ?_ _)); refine blk_put (cs := #[.int .i64 0, .int .i64 0, .int .i64 0]) ?_ 0 _ rfl; exact bkU BK106) hW_) hq_; exact hc_.mono (fun e_ w_ h_ => h_)); rintro e w13 ⟨rfl, hb⟩; refine ⟨_, rfl, ?_⟩; have n0_ := A_ (Kd.R_below (by (with_reducible repeat (first | apply Kd.R_alloc | apply Kd.R_drewN | apply Kd.R_drew)); exact (Kd.R_mono (Kd.R_far (p := ⟨gb106, 2, none⟩) (Kd.R_far (p := ⟨gb106, 1, none⟩) (Kd.R_far (p := ⟨gb106, 0, none⟩) (Kd.R_types HO_9.out BK106.out (by decide)) (fun _ hk => hk.2) (.int .i64 ((rd_T72 l0 x26_1).f0))) (fun _ hk => hk.2) (.int .i64 ((rd_T72 l0 x26_1).f1))) (fun _ hk => hk.2) (.int .i64 ((rd_T72 l0 x26_1).f2))) (fun _ h_ => h_.1))) hb); have n1_ := A_ (blk_below (g := gb106) (o := .cells #[.int .i64 ((rd_T72 l0 x26_1).f0), .int .i64 ((rd_T72 l0 x26_1).f1), .int .i64 ((rd_T72 l0 x26_1).f2)] 72 (0, 0)) (by (with_reducible repeat (first | refine blk_drewN ?_ _ | refine blk_drew ?_ | refine blk_alloc ?_ _)); refine blk_put (cs := #[.int .i64 ((rd_T72 l0 x26_1).f0), .int .i64 ((rd_T72 l0 x26_1).f1), .int .i64 0]) ?_ 2 _ rfl; (with_reducible repeat (first | refine blk_drewN ?_ _ | refine blk_drew ?_ | refine blk_alloc ?_ _)); refine blk_put (cs := #[.int .i64 ((rd_T72 l0 x26_1).f0), .int .i64 0, .int .i64 0]) ?_ 1 _ rfl; (with_reducible repeat (first | refine blk_drewN ?_ _ | refine blk_drew ?_ | refine blk_alloc ?_ _)); refine blk_put (cs := #[.int .i64 0, .int .i64 0, .int .i64 0]) ?_ 0 _ rfl; exact bkU BK106) hb); have n2_ := A_ (below_step (bW1 HB.out GE106.out) hb); clear HO_9; clear BK106; clear HB; have HO_9 := n0_; have BK106 := n1_; have HB := n2_; clear n0_ n1_ n2_; (try clear hb); (try clear hb2); (try clear hk); (try clear hi)))
   go_loopg [13] k1 (fun kq v13 w' => ∃ (x13_2 : Int), v13 = .int .i64 x13_2 ∧ Aside0 (wire_Clash.l1 kq l0 t101 x26_1 x13_2 l0 (l0.length : Int) x26_1 ((rd_T72 l0 x26_1).f0) ((rd_T72 l0 x26_1).f1) ((rd_T72 l0 x26_1).f2) = some (r1, r2, r3)) ∧ Aside0 (kq ≤ k1) ∧ Aside0 (Kd.R (Kd.int .i64) 3 w' w.heap.size (fun _ => True) v103 t101) ∧ Aside0 (w'.heap[gb106]? = some (.cells #[.int .i64 ((rd_T72 l0 x26_1).f0), .int .i64 ((rd_T72 l0 x26_1).f1), .int .i64 ((rd_T72 l0 x26_1).f2)] 72 (0, 0))) ∧ Aside0 (Below w.heap.size w w'))
   case atStart => exact ⟨(t107), (by first | rfl | (simp; done) | (simp [*]; done)), H', ⟨Nat.le_refl _⟩, ⟨rU HO_9.out⟩, ⟨bkU BK106⟩, ⟨by repeat (first | (with_reducible first | exact HB.out | apply below_alloc | apply pw_below_drewN | apply below_drew1 | refine below_set ?_ GE106.out) | exact HB.out)⟩⟩
   case round =>
    clear H'
    try clear c1
    try clear p1
    try clear q1
    try clear hx1
    try clear p2
    try clear c5
    try clear c5b0
    try clear c5b1
    try clear c7
    try clear c7b0
    try clear c8
    try clear c8b0
    try clear c9
    try clear c9b0
    try clear p10
    try clear q10
    try clear hx10
    try clear hcz12_0
    try clear hcz12_1
    try clear hcz12_2
    try clear hfz12_0
    try clear hfz12_1
    try clear hfz12_2
    try clear hx105_0
    try clear hx105_1
    try clear hx105_2
    try clear p105
    try clear p2
    try clear q105
    obtain ⟨x13_2, rfl, HA, HK2, HO_9, BK106, HB⟩ := hrel
    cases gk with
    | zero => exact absurd HA.out (by simp [wire_Clash.l1])
    | succ k2 =>
     have H := HA.out
     clear HA
     simp only [wire_Clash.l1] at H
     have HC14 := A_ H
     clear H
     go_upto_region 8 with (fail)
     go_cut [41] (fun v41 wc => ∃ (kq : Nat) (x41_13 : Bool), v41 = .bool x41_13 ∧ Aside0 (wire_Clash.j2 kq l0 t101 x26_1 x13_2 l0 (l0.length : Int) x26_1 x41_13 ((rd_T72 l0 x26_1).f0) ((rd_T72 l0 x26_1).f1) ((rd_T72 l0 x26_1).f2) = some (r1, r2, r3)) ∧ Aside0 (kq ≤ k2) ∧ Aside0 (Kd.R (Kd.int .i64) 3 wc w.heap.size (fun _ => True) v103 t101) ∧ Aside0 (wc.heap[gb106]? = some (.cells #[.int .i64 ((rd_T72 l0 x26_1).f0), .int .i64 ((rd_T72 l0 x26_1).f1), .int .i64 ((rd_T72 l0 x26_1).f2)] 72 (0, 0))) ∧ Aside0 (Below w.heap.size w wc))
     case first =>
      have H := HC14.out
      clear HC14
      by_cases c15 : x13_2 ≥ 0
      rotate_left
      ·rw [if_neg c15] at H
       have c15b0 : decide (0 ≤ x13_2) = false := decide_eq_false c15
       clear c15
       (first | rw [c15b0] | (simp only [i64_w, i32_w]; rw [c15b0]) | skip)
       have H' := A_ H
       clear H
       go_wp2
       go_meet
       case rel => exact ⟨_, (false), (by first | rfl | (simp; done) | (simp [*]; done)), H', ⟨by have := HK1.out; have := HK2.out; first | omega | exact Nat.le_refl _⟩, ⟨rU HO_9.out⟩, ⟨bkU BK106⟩, ⟨by repeat (first | (with_reducible first | exact HB.out | apply below_alloc | apply pw_below_drewN | apply below_drew1 | refine below_set ?_ GE106.out) | exact HB.out)⟩⟩
      rw [if_pos c15] at H
      have c15b0 : decide (0 ≤ x13_2) = true := decide_eq_true c15
      clear c15
      (first | rw [c15b0] | (simp only [i64_w, i32_w]; rw [c15b0]) | skip)
      have H' := A_ H
      clear H
      go_wp2
      go_meet
      case rel => exact ⟨_, (decide (x13_2 < (l0.length : Int))), (by first | rfl | (simp; done) | (simp [*]; done)), H', ⟨by have := HK1.out; have := HK2.out; first | omega | exact Nat.le_refl _⟩, ⟨rU HO_9.out⟩, ⟨bkU BK106⟩, ⟨by repeat (first | (with_reducible first | exact HB.out | apply below_alloc | apply pw_below_drewN | apply below_drew1 | refine below_set ?_ GE106.out) | exact HB.out)⟩⟩
     case rest =>
      clear HC14
      try clear c1
      try clear p1
      try clear q1
      try clear hx1
      try clear p2
      try clear c5
      try clear c5b0
      try clear c5b1
      try clear c7
      try clear c7b0
      try clear c8
      try clear c8b0
      try clear c9
      try clear c9b0
      try clear p10
      try clear q10
      try clear hx10
      try clear c15
      try clear c15b0
      try clear hcz12_0
      try clear hcz12_1
      try clear hcz12_2
      try clear hfz12_0
      try clear hfz12_1
      try clear hfz12_2
      try clear hx105_0
      try clear hx105_1
      try clear hx105_2
      try clear p1
      try clear p10
      try clear p105
      try clear p2
      try clear q1
      try clear q10
      try clear q105
      obtain ⟨kq, x41_13, rfl, HA, HJ13, HO_9, BK106, HB⟩ := hcut
      cases kq with
      | zero => exact absurd HA.out (by simp [wire_Clash.j2])
      | succ kj13 =>
       have H := HA.out
       clear HA
       simp only [wire_Clash.j2] at H
       by_cases c16 : x41_13 = true
       rotate_left
       ·replace c16 := Bool.eq_false_iff.mpr c16
        subst c16
        have H1 : (wire_Clash.l0 kj13 l0 t101 l0 (l0.length : Int) (wrap64 (x26_1 + 1))) = some (r1, r2, r3) := by rw [if_neg (show ¬ (false = true) by decide)] at H; exact H
        clear H
        have H := H1
        clear H1
        have H' := A_ H
        clear H
        go_wp2
        go_roundg kj13
        case measure => have := HK1.out; have := HK2.out; have := HJ13.out; omega
        case rel => exact ⟨(wrap64 (x26_1 + 1)), (by first | rfl | (simp; done) | (simp [*]; done)), H', ⟨by have := HK1.out; have := HK2.out; have := HJ13.out; omega⟩, ⟨rU HO_9.out⟩, ⟨by repeat (first | (with_reducible first | exact HB.out | apply below_alloc | apply pw_below_drewN | apply below_drew1 | refine below_set ?_ GE106.out) | exact HB.out)⟩⟩
       subst c16
       have H1 : (if 0 ≤ x13_2 then (if x13_2 < (l0.length : Int) then ((wire_places_to.f t101 x26_1 x13_2).bind fun t109 => (if ((rd_T72 l0 x26_1).f1) > (wrap64 (((rd_T72 l0 x13_2).f2) + t109)) then (some (x26_1, x13_2, 0)) else (wire_Clash.l1 kj13 l0 t101 x26_1 (wrap64 (x13_2 + 1)) l0 (l0.length : Int) x26_1 ((rd_T72 l0 x26_1).f0) ((rd_T72 l0 x26_1).f1) ((rd_T72 l0 x26_1).f2)))) else (none)) else (none)) = some (r1, r2, r3) := by rw [if_pos rfl] at H; exact H
       clear H
       have H := H1
       clear H1
       by_cases c17 : 0 ≤ x13_2
       rotate_left
       ·rw [if_neg c17] at H
        exact absurd H (by simp)
       rw [if_pos c17] at H
       have c17b0 : decide (0 ≤ x13_2) = true := decide_eq_true c17
       clear c17
       by_cases c18 : x13_2 < (l0.length : Int)
       rotate_left
       ·rw [if_neg c18] at H
        exact absurd H (by simp)
       rw [if_pos c18] at H
       have c18b0 : decide (x13_2 < (l0.length : Int)) = true := decide_eq_true c18
       clear c18
       replace H := Option.bind_eq_some_iff.mp H
       obtain ⟨t109, A190, H⟩ := H
       replace H : (if ((rd_T72 l0 x26_1).f1) > (wrap64 (((rd_T72 l0 x13_2).f2) + t109)) then (some (x26_1, x13_2, 0)) else (wire_Clash.l1 kj13 l0 t101 x26_1 (wrap64 (x13_2 + 1)) l0 (l0.length : Int) x26_1 ((rd_T72 l0 x26_1).f0) ((rd_T72 l0 x26_1).f1) ((rd_T72 l0 x26_1).f2))) = some (r1, r2, r3) := H
       have A19 := A_ A190
       clear A190
       by_cases c20 : ((rd_T72 l0 x26_1).f1) > (wrap64 (((rd_T72 l0 x13_2).f2) + t109))
       ·rw [if_pos c20] at H
        have c20b0 : decide ((wrap64 (((rd_T72 l0 x13_2).f2) + t109)) < ((rd_T72 l0 x26_1).f1)) = true := decide_eq_true c20
        clear c20
        simp only [Option.some.injEq, Prod.mk.injEq] at H
        obtain ⟨rfl, rfl, rfl⟩ := H
        try go_wp2
        have n0_ := A_ (Kd.R_drew HO_9.out)
        have n1_ := A_ (blk_drew BK106.out)
        have n2_ := A_ (below_drew1 HB.out)
        clear HO_9
        clear BK106
        clear HB
        have HO_9 := n0_
        have BK106 := n1_
        have HB := n2_
        clear n0_ n1_ n2_
        have p108 : 0 ≤ (x13_2 : Int) := of_decide_eq_true (by first | (with_reducible assumption) | assumption)
        have q108 : x13_2 < (l0.length : Int) := of_decide_eq_true (by first | (with_reducible assumption) | assumption)
        obtain ⟨ad108, e108, hx108_0, hx108_1, hx108_2⟩ := at_T72 HR0.out x13_2 p108 q108
        have hw108_2 := hx108_2
        have hw108_1 := hx108_1
        have hw108_0 := hx108_0
        obtain rfl : ad105 = ad108 := (by injection e108)
        replace hx108_0 := (HB.out.cell (World.block_lt_of_cell? w _ hx108_0)).trans hx108_0
        replace hx108_1 := (HB.out.cell (World.block_lt_of_cell? w _ hx108_1)).trans hx108_1
        replace hx108_2 := (HB.out.cell (World.block_lt_of_cell? w _ hx108_2)).trans hx108_2
        replace p108 := eq_true p108
        replace q108 := eq_true q108
        obtain ⟨Ao22, co22, eo22⟩ := Kd.R_slice HO_9.out
        (first | subst eo22 | (injection eo22 with f1_ f2_ f3_; have f4_ := f1_.symm; have f5_ := f3_.symm; clear f1_ f2_ f3_; subst f4_; subst f5_))
        refine start_ (n := 13) (S := fun w' => w'.cell? ⟨gb106, 0, none⟩ = some (.int .i64 ((rd_T72 l0 x26_1).f0)) ∧ w'.cell? ⟨gb106, 1, none⟩ = some (.int .i64 ((rd_T72 l0 x26_1).f1)) ∧ w'.cell? ⟨gb106, 2, none⟩ = some (.int .i64 ((rd_T72 l0 x26_1).f2)) ∧ w'.cell? (ad105.add ((x13_2).toNat * 3)) = some (.int .i64 ((rd_T72 l0 x13_2).f0)) ∧ w'.cell? ⟨(ad105.add ((x13_2).toNat * 3)).block, (ad105.add ((x13_2).toNat * 3)).off + 1, none⟩ = some (.int .i64 ((rd_T72 l0 x13_2).f1)) ∧ w'.cell? ⟨(ad105.add ((x13_2).toNat * 3)).block, (ad105.add ((x13_2).toNat * 3)).off + 2, none⟩ = some (.int .i64 ((rd_T72 l0 x13_2).f2))) (ds := []) (mkB 13 0) (by kernel_rfl) rfl rfl ⟨(blk_cell BK106.out 0).trans rfl, (blk_cell BK106.out 1).trans rfl, (blk_cell BK106.out 2).trans rfl, (pw_cell_below HB.out hw108_0), (pw_cell_below HB.out hw108_1), (pw_cell_below HB.out hw108_2)⟩ (fun hHeld => ?_); refine with_tabW wire_Clash.tab10 wire_Clash.bits10 (fun HT_ HW_ => ?_)
        generalize wc.drew = w21 at HO_9 BK106 HB hx108_0 hx108_1 hx108_2 hHeld ⊢
        refine pr_ 0 (some 44) (mkB 13 1) HT_ ?_
        refine pr_ 2 (some 46) (mkB 13 5) HT_ ?_
        refine pr_ 3 (some 47) (mkB 13 13) HT_ ?_
        refine pr_ 4 (some 48) (mkB 13 29) HT_ ?_
        refine pr_ 5 (some 49) (mkB 13 61) HT_ ?_
        refine pr_ 7 (some 51) (mkB 13 189) HT_ ?_
        refine pr_ 8 (some 52) (mkB 13 445) HT_ ?_
        refine pr_ 9 (some 53) (mkB 13 957) HT_ ?_
        refine take_ (i := 1) (N := some 45) (v := ?_) (a' := ?_) (mkB 13 959) rfl rfl (take_ofW HT_.out HW_.out (by kernel_rfl)) (fun _ _ _ h => h) (Or.inl ⟨by rfl, ?_⟩) hHeld ?_ ?_
        rotate_left
        ·rintro w' ⟨s0, s1, s2, s3, s4, s5⟩
         go_simp
         with_reducible rfl
        rotate_left
        ·simp only [Act.put, List.setIfInBounds_toArray, List.set_cons_zero, List.set_cons_succ, i64_w, i32_w]
         rfl
        refine take_ (i := 6) (N := some 50) (v := ?_) (a' := ?_) (mkB 13 1023) rfl rfl (take_ofW HT_.out HW_.out (by kernel_rfl)) (fun _ _ _ h => h) (Or.inl ⟨by rfl, ?_⟩) hHeld ?_ ?_
        rotate_left
        ·rintro w' ⟨s0, s1, s2, s3, s4, s5⟩
         go_simp
         with_reducible rfl
        rotate_left
        ·simp only [Act.put, List.setIfInBounds_toArray, List.set_cons_zero, List.set_cons_succ, i64_w, i32_w]
         rfl
        refine one_ (i := 10) (N := some 54) (mkB 13 2047) rfl rfl (one_of HT_.out (by kernel_rfl)) (by decide) (fun K hK => ?_)
        refine goes_ Try.func53 (by kernel_rfl) rfl #[.slice Ao22 t101.length co22, .int .i64 x26_1, .int .i64 x13_2] (by rfl) rfl rfl (by (try simp only [List.map_toArray, List.map_cons, List.map_nil]); first | done | rfl | (simp only [List.length_drop, List.length_take]; rfl)) ?_
        with_reducible refine (wire_places_to.calls _ _ t101 x26_1 x13_2 t109 _ ?side1 ?side2 A19.out).mono ?_
        (case side1 => exact cU (Kd.R_reads' HO_9.out).2.2)
        (case side2 => exact (Kd.R_reads' HO_9.out).2.1)
        rintro e w23 ⟨rfl, hb⟩
        refine ⟨_, rfl, ?_⟩
        have n0_ := A_ (Kd.R_below (rU HO_9.out) hb)
        have n1_ := A_ (bkB BK106 hb)
        have n2_ := A_ (below_step (bW1 HB.out GE106.out) hb)
        clear HO_9
        clear BK106
        clear HB
        have HO_9 := n0_
        have BK106 := n1_
        have HB := n2_
        clear n0_ n1_ n2_
        (try clear hb)
        (try clear hb2)
        (try clear hk)
        (try clear hi)
        refine hK.out _ _ ⟨(blk_cell BK106.out 0).trans rfl, (blk_cell BK106.out 1).trans rfl, (blk_cell BK106.out 2).trans rfl, (pw_cell_below HB.out hw108_0), (pw_cell_below HB.out hw108_1), (pw_cell_below HB.out hw108_2)⟩ (fun hHeld => ?_)
        clear hK K
        refine norm_ (a' := ?_) ?_ ?_
        rotate_left
        ·show Act.put _ (some 54) _ = _
         simp only [Act.put, List.setIfInBounds_toArray, List.set_cons_zero, List.set_cons_succ, i64_w, i32_w]
         rfl
        refine pr_ 11 (some 55) (mkB 13 4095) HT_ ?_
        refine pr_ 12 (some 56) (mkB 13 8191) HT_ ?_
        refine done_ (done_of HT_.out (by kernel_rfl)) ?_
        try go_wp2
        go_ret3
        exact ⟨by first | rfl | (simp [errW_none, errW_some] <;> rfl) | (simp [*, errW_none, errW_some] <;> rfl), by repeat (first | (with_reducible first | exact HB.out | apply below_alloc | apply pw_below_drewN | apply below_drew1 | refine below_set ?_ GE106.out) | exact HB.out)⟩
       rw [if_neg c20] at H
       have c20b0 : decide ((wrap64 (((rd_T72 l0 x13_2).f2) + t109)) < ((rd_T72 l0 x26_1).f1)) = false := decide_eq_false c20
       clear c20
       have H' := A_ H
       clear H
       try go_wp2
       have n0_ := A_ (Kd.R_drew HO_9.out)
       have n1_ := A_ (blk_drew BK106.out)
       have n2_ := A_ (below_drew1 HB.out)
       clear HO_9
       clear BK106
       clear HB
       have HO_9 := n0_
       have BK106 := n1_
       have HB := n2_
       clear n0_ n1_ n2_
       have p108 : 0 ≤ (x13_2 : Int) := of_decide_eq_true (by first | (with_reducible assumption) | assumption)
       have q108 : x13_2 < (l0.length : Int) := of_decide_eq_true (by first | (with_reducible assumption) | assumption)
       obtain ⟨ad108, e108, hx108_0, hx108_1, hx108_2⟩ := at_T72 HR0.out x13_2 p108 q108
       have hw108_2 := hx108_2
       have hw108_1 := hx108_1
       have hw108_0 := hx108_0
       obtain rfl : ad105 = ad108 := (by injection e108)
       replace hx108_0 := (HB.out.cell (World.block_lt_of_cell? w _ hx108_0)).trans hx108_0
       replace hx108_1 := (HB.out.cell (World.block_lt_of_cell? w _ hx108_1)).trans hx108_1
       replace hx108_2 := (HB.out.cell (World.block_lt_of_cell? w _ hx108_2)).trans hx108_2
       replace p108 := eq_true p108
       replace q108 := eq_true q108
       obtain ⟨Ao25, co25, eo25⟩ := Kd.R_slice HO_9.out
       (first | subst eo25 | (injection eo25 with f1_ f2_ f3_; have f4_ := f1_.symm; have f5_ := f3_.symm; clear f1_ f2_ f3_; subst f4_; subst f5_))
       refine start_ (n := 13) (S := fun w' => w'.cell? ⟨gb106, 0, none⟩ = some (.int .i64 ((rd_T72 l0 x26_1).f0)) ∧ w'.cell? ⟨gb106, 1, none⟩ = some (.int .i64 ((rd_T72 l0 x26_1).f1)) ∧ w'.cell? ⟨gb106, 2, none⟩ = some (.int .i64 ((rd_T72 l0 x26_1).f2)) ∧ w'.cell? (ad105.add ((x13_2).toNat * 3)) = some (.int .i64 ((rd_T72 l0 x13_2).f0)) ∧ w'.cell? ⟨(ad105.add ((x13_2).toNat * 3)).block, (ad105.add ((x13_2).toNat * 3)).off + 1, none⟩ = some (.int .i64 ((rd_T72 l0 x13_2).f1)) ∧ w'.cell? ⟨(ad105.add ((x13_2).toNat * 3)).block, (ad105.add ((x13_2).toNat * 3)).off + 2, none⟩ = some (.int .i64 ((rd_T72 l0 x13_2).f2))) (ds := []) (mkB 13 0) (by kernel_rfl) rfl rfl ⟨(blk_cell BK106.out 0).trans rfl, (blk_cell BK106.out 1).trans rfl, (blk_cell BK106.out 2).trans rfl, (pw_cell_below HB.out hw108_0), (pw_cell_below HB.out hw108_1), (pw_cell_below HB.out hw108_2)⟩ (fun hHeld => ?_); refine with_tabW wire_Clash.tab10 wire_Clash.bits10 (fun HT_ HW_ => ?_)
       generalize wc.drew = w24 at HO_9 BK106 HB hx108_0 hx108_1 hx108_2 hHeld ⊢
       refine pr_ 0 (some 44) (mkB 13 1) HT_ ?_
       refine pr_ 2 (some 46) (mkB 13 5) HT_ ?_
       refine pr_ 3 (some 47) (mkB 13 13) HT_ ?_
       refine pr_ 4 (some 48) (mkB 13 29) HT_ ?_
       refine pr_ 5 (some 49) (mkB 13 61) HT_ ?_
       refine pr_ 7 (some 51) (mkB 13 189) HT_ ?_
       refine pr_ 8 (some 52) (mkB 13 445) HT_ ?_
       refine pr_ 9 (some 53) (mkB 13 957) HT_ ?_
       refine take_ (i := 1) (N := some 45) (v := ?_) (a' := ?_) (mkB 13 959) rfl rfl (take_ofW HT_.out HW_.out (by kernel_rfl)) (fun _ _ _ h => h) (Or.inl ⟨by rfl, ?_⟩) hHeld ?_ ?_
       rotate_left
       ·rintro w' ⟨s0, s1, s2, s3, s4, s5⟩
        go_simp
        with_reducible rfl
       rotate_left
       ·simp only [Act.put, List.setIfInBounds_toArray, List.set_cons_zero, List.set_cons_succ, i64_w, i32_w]
        rfl
       refine take_ (i := 6) (N := some 50) (v := ?_) (a' := ?_) (mkB 13 1023) rfl rfl (take_ofW HT_.out HW_.out (by kernel_rfl)) (fun _ _ _ h => h) (Or.inl ⟨by rfl, ?_⟩) hHeld ?_ ?_
       rotate_left
       ·rintro w' ⟨s0, s1, s2, s3, s4, s5⟩
        go_simp
        with_reducible rfl
       rotate_left
       ·simp only [Act.put, List.setIfInBounds_toArray, List.set_cons_zero, List.set_cons_succ, i64_w, i32_w]
        rfl
       refine one_ (i := 10) (N := some 54) (mkB 13 2047) rfl rfl (one_of HT_.out (by kernel_rfl)) (by decide) (fun K hK => ?_)
       refine goes_ Try.func53 (by kernel_rfl) rfl #[.slice Ao25 t101.length co25, .int .i64 x26_1, .int .i64 x13_2] (by rfl) rfl rfl (by (try simp only [List.map_toArray, List.map_cons, List.map_nil]); first | done | rfl | (simp only [List.length_drop, List.length_take]; rfl)) ?_
       with_reducible refine (wire_places_to.calls _ _ t101 x26_1 x13_2 t109 _ ?side1 ?side2 A19.out).mono ?_
       (case side1 => exact cU (Kd.R_reads' HO_9.out).2.2)
       (case side2 => exact (Kd.R_reads' HO_9.out).2.1)
       rintro e w26 ⟨rfl, hb⟩
       refine ⟨_, rfl, ?_⟩
       have n0_ := A_ (Kd.R_below (rU HO_9.out) hb)
       have n1_ := A_ (bkB BK106 hb)
       have n2_ := A_ (below_step (bW1 HB.out GE106.out) hb)
       clear HO_9
       clear BK106
       clear HB
       have HO_9 := n0_
       have BK106 := n1_
       have HB := n2_
       clear n0_ n1_ n2_
       (try clear hb)
       (try clear hb2)
       (try clear hk)
       (try clear hi)
       refine hK.out _ _ ⟨(blk_cell BK106.out 0).trans rfl, (blk_cell BK106.out 1).trans rfl, (blk_cell BK106.out 2).trans rfl, (pw_cell_below HB.out hw108_0), (pw_cell_below HB.out hw108_1), (pw_cell_below HB.out hw108_2)⟩ (fun hHeld => ?_)
       clear hK K
       refine norm_ (a' := ?_) ?_ ?_
       rotate_left
       ·show Act.put _ (some 54) _ = _
        simp only [Act.put, List.setIfInBounds_toArray, List.set_cons_zero, List.set_cons_succ, i64_w, i32_w]
        rfl
       refine pr_ 11 (some 55) (mkB 13 4095) HT_ ?_
       refine pr_ 12 (some 56) (mkB 13 8191) HT_ ?_
       refine done_ (done_of HT_.out (by kernel_rfl)) ?_
       try go_wp2
       go_roundg kj13
       case measure => have := HK1.out; have := HK2.out; have := HJ13.out; omega
       case rel => exact ⟨(wrap64 (x13_2 + 1)), (by first | rfl | (simp; done) | (simp [*]; done)), H', ⟨by have := HK1.out; have := HK2.out; have := HJ13.out; omega⟩, ⟨rU HO_9.out⟩, ⟨bkU BK106⟩, ⟨by repeat (first | (with_reducible first | exact HB.out | apply below_alloc | apply pw_below_drewN | apply below_drew1 | refine below_set ?_ GE106.out) | exact HB.out)⟩⟩
end Go.Proofs.Ytciepmpadcpkbaa.G
