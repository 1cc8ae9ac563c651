-- Written by this session's driver (wip/tools/printmore.py) over the kit's print, with hand-written parts.
import Derived.Test.YtciepmpadcpkbaaGBase
import Derived.Test.YtciepmpadcpkbaaGF56
namespace Go.Proofs.Ytciepmpadcpkbaa.G
open Go.RowKit Go.Proofs.YtciepmpadcpkbaaW.PrintWords Go.Proofs.YtciepmpadcpkbaaW.PrintLast Go.Proofs.YtciepmpadcpkbaaW.PrintMore
attribute [local go_sem] max2_int min2_int max_two min_two max_three min_three max_four min_four   -- for this text's walks alone
set_option linter.unusedVariables false
set_option linter.unusedSimpArgs false

/-! ### wire_Valid: function 49 -/
def wire_Valid.l0 : Nat → List (S72) → List (S72) → Int → Int → Option (Bool)
 | 0, _, _, _, _ => none
 | k + 1, x0, x5, x6, x7 => if x7 < x6 then (if 0 ≤ x7 then (if x7 < (x5.length : Int) then ((wire_within.f 0 ((rd_T72 x5 x7).f0) 100000).bind fun t104 => (if t104 = true then (if x7 > 0 then (if 0 ≤ (wrap64 (x7 - 1)) then (if (wrap64 (x7 - 1)) < (x0.length : Int) then (if ((rd_T72 x5 x7).f0) ≤ ((rd_T72 x0 (wrap64 (x7 - 1))).f0) then (some false) else ((wire_within.f (-10000) ((rd_T72 x5 x7).f1) ((rd_T72 x5 x7).f2)).bind fun t106 => (if t106 = true then (if ((rd_T72 x5 x7).f2) > 10000 then (some false) else (wire_Valid.l0 k x0 x5 x6 (wrap64 (x7 + 1)))) else (some false)))) else (none)) else (none)) else ((wire_within.f (-10000) ((rd_T72 x5 x7).f1) ((rd_T72 x5 x7).f2)).bind fun t107 => (if t107 = true then (if ((rd_T72 x5 x7).f2) > 10000 then (some false) else (wire_Valid.l0 k x0 x5 x6 (wrap64 (x7 + 1)))) else (some false)))) else (some false))) else (none)) else (none)) else ((wire_within.f 1 (x0.length : Int) 30).bind fun t101 => (some t101))
def wire_Valid.f (k : Nat) (l0 : List (S72)) : Option (Bool) := wire_Valid.l0 k l0 l0 (l0.length : Int) 0
theorem wire_Valid.mono_l : ∀ k, (∀ y0 y1 y2 y3, LeO (wire_Valid.l0 k y0 y1 y2 y3) (wire_Valid.l0 (k + 1) y0 y1 y2 y3))
 | 0 => fun _ _ _ _ r h => by simp [wire_Valid.l0] at h
 | k + 1 => by
  have ih0 := wire_Valid.mono_l k
  ·intro y0 y1 y2 y3
   unfold wire_Valid.l0
   repeat' first
   | (with_reducible exact ih0 _ _ _ _)
   | (with_reducible exact LeO.refl _)
   | (with_reducible exact LeO.none _)
   | (with_reducible refine LeO.ite ?_ ?_)
   | (with_reducible refine LeO.bind ?_ (fun _ => ?_))
   | exact ih0 _ _ _ _
   | exact LeO.none _
   | refine LeO.ite ?_ ?_
   | refine LeO.bind ?_ (fun _ => ?_)
theorem wire_Valid.mono : ∀ a0 k, LeO (wire_Valid.f k a0) (wire_Valid.f (k + 1) a0) := by
 intro a0 k
 have ih0 := wire_Valid.mono_l k
 unfold wire_Valid.f
 repeat' first
   | (with_reducible exact ih0 _ _ _ _)
   | (with_reducible exact LeO.refl _)
   | (with_reducible exact LeO.none _)
   | (with_reducible refine LeO.ite ?_ ?_)
   | (with_reducible refine LeO.bind ?_ (fun _ => ?_))
   | exact ih0 _ _ _ _
   | exact LeO.none _
   | refine LeO.ite ?_ ?_
   | refine LeO.bind ?_ (fun _ => ?_)
def wire_Valid.T4 : Bool × List (List Nat × List Nat) := (true, [([], []), ([0], [0]), ([1], [1]), ([2], [2]), ([3, 2], [3]), ([4], [4]), ([5, 4], [4, 5]), ([6, 4, 4], [4, 6]), ([7], [7]), ([8, 7], [7, 8]), ([7], [7]), ([7], [7]), ([11, 7], [7, 11]), ([10, 12, 7], [7, 10, 12]), ([13, 7], [7, 13]), ([14, 7], [7, 14]), ([9, 15, 7], [7, 9, 15]), ([7, 16, 4], [4, 7, 16]), ([4, 17], [4, 17]), ([18, 7], [18]), ([19], [19]), ([20, 19], [19, 20]), ([19], [19]), ([22, 19], [19, 22]), ([21, 23, 19, 19], [19, 21, 23]), ([24, 19], [19, 24]), ([19, 25], [19, 25]), ([26, 24], [26]), ([27], [27]), ([28, 27], [27, 28]), ([29, 27], [27, 29]), ([27, 30], [27, 30])])
def wire_Valid.B4 : List Nat := [0, 1, 3, 7, 15, 31, 63, 127, 255, 511, 255, 255, 2303, 7423, 15615, 31999, 65535, 131071, 262143, 524287, 1048575, 2097151, 1048575, 5242879, 16777215, 33554431, 67108863, 134217727, 268435455, 536870911, 1073741823, 2147483647]
theorem wire_Valid.tab4 : rtab .any (opsOf Try.f49 4) = wire_Valid.T4 := by kernel_rfl
theorem wire_Valid.bits4 : waitsOk wire_Valid.T4.2 wire_Valid.B4 = true := by kernel_rfl
set_option maxHeartbeats 8000000 in
set_option maxRecDepth 100000 in
theorem wire_Valid.calls (k : Nat) (A0 : Option Addr) (c0 : Nat) (l0 : List (S72)) (r : Bool) (w : World) (hr0 : Kd.C k72 w A0 l0.length l0) (hc0 : l0.length ≤ c0) (h : wire_Valid.f k l0 = some r) :
  Calls Try.prog 49 #[.slice A0 l0.length c0] w fun e w' => e = .returned (.bool r) ∧ Below w.heap.size w w' := by
 have hu72 := Try.underlying72
 have HR0 := A_ hr0
 have HC0 := A_ hc0
 clear hr0 hc0
 have HB := A_ (Below.refl w.heap.size w)
 have H : (wire_Valid.l0 k l0 l0 (l0.length : Int) 0) = some r := h
 clear h
 have H' := A_ H
 clear H
 go_enter Try.func49, Try.ntmps49
 go_wp2
 go_loopg [7] k (fun kq v7 w' => ∃ (x7_1 : Int), v7 = .int .i64 x7_1 ∧ Aside0 (wire_Valid.l0 kq l0 l0 (l0.length : Int) x7_1 = some r) ∧ Aside0 (kq ≤ k) ∧ Aside0 (Below w.heap.size w w'))
 case atStart => exact ⟨(0), (by first | rfl | (simp; done) | (simp [*]; done)), H', ⟨Nat.le_refl _⟩, ⟨by repeat (first | (with_reducible first | exact HB.out | apply below_alloc | apply pw_below_drewN | apply below_drew1) | exact HB.out)⟩⟩
 case round =>
  clear H'
  obtain ⟨x7_1, rfl, HA, HK1, HB⟩ := hrel
  cases gk with
  | zero => exact absurd HA.out (by simp [wire_Valid.l0])
  | succ k1 =>
   have H := HA.out
   clear HA
   simp only [wire_Valid.l0] at H
   by_cases c2 : x7_1 < (l0.length : Int)
   rotate_left
   ·rw [if_neg c2] at H
    have c2b0 : decide (x7_1 < (l0.length : Int)) = false := decide_eq_false c2
    clear c2
    replace H := Option.bind_eq_some_iff.mp H
    obtain ⟨t101, A500, H⟩ := H
    replace H : (some t101) = some r := H
    have A50 := A_ A500
    clear A500
    obtain rfl := Option.some.inj H
    go_wp2_with (first | ((with_reducible refine gate_callee (f := 56) rfl ?_); refine goesL_ (some 47) rfl rfl Try.func56 (by kernel_rfl) rfl #[.int .i64 1, .int .i64 (l0.length : Int), .int .i64 30] rfl (by (try simp only [List.map_toArray, List.map_cons, List.map_nil]); first | done | rfl | (simp only [List.length_drop, List.length_take]; rfl)) ?_; (with_reducible refine (wire_within.calls 1 (l0.length : Int) 30 t101 _ A50.out).mono ?_); rintro e w' ⟨rfl, ⟨nd, rfl⟩⟩; refine ⟨_, rfl, ?_⟩))
    go_ret
    exact ⟨by first | rfl | (simp [errW_none, errW_some] <;> rfl) | (simp [*, errW_none, errW_some] <;> rfl), by repeat (first | (with_reducible first | exact HB.out | apply below_alloc | apply pw_below_drewN | apply below_drew1) | exact HB.out)⟩

   rw [if_pos c2] at H
   have c2b0 : decide (x7_1 < (l0.length : Int)) = true := decide_eq_true c2
   clear c2
   by_cases c3 : 0 ≤ x7_1
   rotate_left
   ·rw [if_neg c3] at H
    exact absurd H (by simp)
   rw [if_pos c3] at H
   have c3b0 : decide (0 ≤ x7_1) = true := decide_eq_true c3
   clear c3
   by_cases c4 : x7_1 < (l0.length : Int)
   rotate_left
   ·rw [if_neg c4] at H
    exact absurd H (by simp)
   rw [if_pos c4] at H
   have c4b0 : decide (x7_1 < (l0.length : Int)) = true := decide_eq_true c4
   clear c4
   replace H := Option.bind_eq_some_iff.mp H
   obtain ⟨t104, A50, H⟩ := H
   replace H : (if t104 = true then (if x7_1 > 0 then (if 0 ≤ (wrap64 (x7_1 - 1)) then (if (wrap64 (x7_1 - 1)) < (l0.length : Int) then (if ((rd_T72 l0 x7_1).f0) ≤ ((rd_T72 l0 (wrap64 (x7_1 - 1))).f0) then (some false) else ((wire_within.f (-10000) ((rd_T72 l0 x7_1).f1) ((rd_T72 l0 x7_1).f2)).bind fun t106 => (if t106 = true then (if ((rd_T72 l0 x7_1).f2) > 10000 then (some false) else (wire_Valid.l0 k1 l0 l0 (l0.length : Int) (wrap64 (x7_1 + 1)))) else (some false)))) else (none)) else (none)) else ((wire_within.f (-10000) ((rd_T72 l0 x7_1).f1) ((rd_T72 l0 x7_1).f2)).bind fun t107 => (if t107 = true then (if ((rd_T72 l0 x7_1).f2) > 10000 then (some false) else (wire_Valid.l0 k1 l0 l0 (l0.length : Int) (wrap64 (x7_1 + 1)))) else (some false)))) else (some false)) = some r := H
   have A5 := A_ A50
   clear A50
   by_cases c6 : t104 = true
   rotate_left
   ·replace c6 := Bool.eq_false_iff.mpr c6
    subst c6
    have H1 : (some false) = some r := by rw [if_neg (show ¬ (false = true) by decide)] at H; exact H
    clear H
    have H := H1
    clear H1
    obtain rfl := Option.some.inj H
    have p102 : 0 ≤ (x7_1 : Int) := of_decide_eq_true (by first | (with_reducible assumption) | assumption)
    have q102 : x7_1 < (l0.length : Int) := of_decide_eq_true (by first | (with_reducible assumption) | assumption)
    obtain ⟨ad102, e102, hx102_0, hx102_1, hx102_2⟩ := at_T72 HR0.out x7_1 p102 q102
    cases e102
    replace hx102_0 := (HB.out.cell (World.block_lt_of_cell? w _ hx102_0)).trans hx102_0
    replace hx102_1 := (HB.out.cell (World.block_lt_of_cell? w _ hx102_1)).trans hx102_1
    replace hx102_2 := (HB.out.cell (World.block_lt_of_cell? w _ hx102_2)).trans hx102_2
    replace p102 := eq_true p102
    replace q102 := eq_true q102
    try go_wp2_with (first | ((with_reducible refine gate_dst (N := 4) rfl ?_); refine box_event ?hg (N := 4) ?hd (cs := #[.int .i64 0, .int .i64 0, .int .i64 0]) (t := 72) ?hr ?_; (case hd => rfl); (case hg => rfl); (case hr => first | (go_simp; done) | (go_simp; rfl)); intro gb103 hg w46 hbox hb; have n0_ := A_ (below_step (bW0 HB.out) hb); have n1_ := A_ (hbox); have n2_ := A_ ((szG hg (bW0 HB.out))); have n3_ := A_ ((szG hg (bW0 HB.out))); clear HB; have HB := n0_; have BK103 := n1_; have GW103 := n2_; have GE103 := n3_; clear n0_ n1_ n2_ n3_; clear hb hbox hg; have hcz47_0 : w46.cell? ⟨gb103, 0, none⟩ = some (.int .i64 0) := (blk_cell BK103.out 0).trans rfl; have hcz47_1 : w46.cell? ⟨gb103, 1, none⟩ = some (.int .i64 0) := (blk_cell BK103.out 1).trans rfl; have hcz47_2 : w46.cell? ⟨gb103, 2, none⟩ = some (.int .i64 0) := (blk_cell BK103.out 2).trans rfl; have hfz47_0 := blk_frozen BK103.out 0; have hfz47_1 := blk_frozen BK103.out 1; have hfz47_2 := blk_frozen BK103.out 2))
    have n0_ : Aside0 ((((w46.setCell ⟨gb103, 0, none⟩ (.int .i64 ((rd_T72 l0 x7_1).f0))).setCell ⟨gb103, 1, none⟩ (.int .i64 ((rd_T72 l0 x7_1).f1))).setCell ⟨gb103, 2, none⟩ (.int .i64 ((rd_T72 l0 x7_1).f2))).heap[gb103]? = some (.cells #[.int .i64 ((rd_T72 l0 x7_1).f0), .int .i64 ((rd_T72 l0 x7_1).f1), .int .i64 ((rd_T72 l0 x7_1).f2)] 72 (0, 0))) := ⟨by (with_reducible repeat (first | refine blk_drewN ?_ _ | refine blk_drew ?_ | refine blk_alloc ?_ _)); refine blk_put (cs := #[.int .i64 ((rd_T72 l0 x7_1).f0), .int .i64 ((rd_T72 l0 x7_1).f1), .int .i64 0]) ?_ 2 _ rfl; (with_reducible repeat (first | refine blk_drewN ?_ _ | refine blk_drew ?_ | refine blk_alloc ?_ _)); refine blk_put (cs := #[.int .i64 ((rd_T72 l0 x7_1).f0), .int .i64 0, .int .i64 0]) ?_ 1 _ rfl; (with_reducible repeat (first | refine blk_drewN ?_ _ | refine blk_drew ?_ | refine blk_alloc ?_ _)); refine blk_put (cs := #[.int .i64 0, .int .i64 0, .int .i64 0]) ?_ 0 _ rfl; exact bkU BK103⟩
    have n1_ : Aside0 (Below w.heap.size w (((w46.setCell ⟨gb103, 0, none⟩ (.int .i64 ((rd_T72 l0 x7_1).f0))).setCell ⟨gb103, 1, none⟩ (.int .i64 ((rd_T72 l0 x7_1).f1))).setCell ⟨gb103, 2, none⟩ (.int .i64 ((rd_T72 l0 x7_1).f2)))) := ⟨by repeat (first | (with_reducible first | exact HB.out | apply below_alloc | apply pw_below_drewN | apply below_drew1 | refine below_set ?_ GE103.out) | exact HB.out)⟩
    (try clear BK103)
    (try clear HB)
    generalize (((w46.setCell ⟨gb103, 0, none⟩ (.int .i64 ((rd_T72 l0 x7_1).f0))).setCell ⟨gb103, 1, none⟩ (.int .i64 ((rd_T72 l0 x7_1).f1))).setCell ⟨gb103, 2, none⟩ (.int .i64 ((rd_T72 l0 x7_1).f2))) = w48 at n0_ n1_ ⊢
    have BK103 := n0_
    have HB := n1_
    clear n0_ n1_
    have n0_ := A_ (blk_drew BK103.out)
    have n1_ := A_ (below_drew1 HB.out)
    clear BK103
    clear HB
    have BK103 := n0_
    have HB := n1_
    clear n0_ n1_
    refine start_ (n := 32) (S := fun w' => w'.cell? ⟨gb103, 0, none⟩ = some (.int .i64 ((rd_T72 l0 x7_1).f0)) ∧ w'.cell? ⟨gb103, 1, none⟩ = some (.int .i64 ((rd_T72 l0 x7_1).f1)) ∧ w'.cell? ⟨gb103, 2, none⟩ = some (.int .i64 ((rd_T72 l0 x7_1).f2))) (ds := []) (mkB 32 0) (by kernel_rfl) rfl rfl ⟨(blk_cell BK103.out 0).trans rfl, (blk_cell BK103.out 1).trans rfl, (blk_cell BK103.out 2).trans rfl⟩ (fun hHeld => ?_); refine with_tabW wire_Valid.tab4 wire_Valid.bits4 (fun HT_ HW_ => ?_)
    generalize w48.drew = w49 at BK103 HB hHeld ⊢
    refine pr_ 0 (some 12) (mkB 32 1) HT_ ?_
    refine take_ (i := 1) (N := some 13) (v := ?_) (a' := ?_) (mkB 32 3) rfl rfl (take_ofW HT_.out HW_.out (by kernel_rfl)) (fun _ _ _ h => h) (Or.inl ⟨by rfl, ?_⟩) hHeld ?_ ?_
    rotate_left
    ·rintro w' ⟨s0, s1, s2⟩
     go_simp
     with_reducible rfl
    rotate_left
    ·simp only [Act.put, List.setIfInBounds_toArray, List.set_cons_zero, List.set_cons_succ, i64_w, i32_w]
     rfl
    refine one_ (i := 2) (N := some 14) (mkB 32 7) rfl rfl (one_of HT_.out (by kernel_rfl)) (by decide) (fun K hK => ?_)
    refine goes_ Try.func56 (by kernel_rfl) rfl #[.int .i64 0, .int .i64 ((rd_T72 l0 x7_1).f0), .int .i64 100000] (by rfl) rfl rfl (by (try simp only [List.map_toArray, List.map_cons, List.map_nil]); first | done | rfl | (simp only [List.length_drop, List.length_take]; rfl)) ?_
    with_reducible refine (wire_within.calls 0 ((rd_T72 l0 x7_1).f0) 100000 false _ A5.out).mono ?_
    rintro e w' ⟨rfl, ⟨nd, rfl⟩⟩
    refine ⟨_, rfl, ?_⟩
    refine hK.out _ _ ⟨(blk_cell BK103.out 0).trans rfl, (blk_cell BK103.out 1).trans rfl, (blk_cell BK103.out 2).trans rfl⟩ (fun hHeld => ?_)
    clear hK K
    refine norm_ (a' := ?_) ?_ ?_
    rotate_left
    ·show Act.put _ (some 14) _ = _
     simp only [Act.put, List.setIfInBounds_toArray, List.set_cons_zero, List.set_cons_succ, i64_w, i32_w]
     rfl
    refine pr_ 3 (some 15) (mkB 32 15) HT_ ?_
    refine pr_ 4 (some 16) (mkB 32 31) HT_ ?_
    refine pu_ 5 (some 17) (mkB 32 63) HT_ ?_
    refine pu_ 6 (some 18) (mkB 32 127) HT_ ?_
    refine pu_ 7 (some 19) (mkB 32 255) HT_ ?_
    refine pu_ 8 (some 20) (mkB 32 511) HT_ ?_
    refine pu_ 9 (some 21) (mkB 32 1023) HT_ ?_
    refine pu_ 10 (some 22) (mkB 32 2047) HT_ ?_
    refine pu_ 11 (some 23) (mkB 32 4095) HT_ ?_
    refine pu_ 12 (some 24) (mkB 32 8191) HT_ ?_
    refine pu_ 13 (some 25) (mkB 32 16383) HT_ ?_
    refine pu_ 14 (some 26) (mkB 32 32767) HT_ ?_
    refine pu_ 15 (some 27) (mkB 32 65535) HT_ ?_
    refine pu_ 16 (some 28) (mkB 32 131071) HT_ ?_
    refine pu_ 17 (some 29) (mkB 32 262143) HT_ ?_
    refine pr_ 18 (some 30) (mkB 32 524287) HT_ ?_
    refine pr_ 19 (some 31) (mkB 32 1048575) HT_ ?_
    refine pu_ 20 (some 32) (mkB 32 2097151) HT_ ?_
    refine pu_ 21 (some 33) (mkB 32 4194303) HT_ ?_
    refine pu_ 22 (some 34) (mkB 32 8388607) HT_ ?_
    refine pu_ 23 (some 35) (mkB 32 16777215) HT_ ?_
    refine pu_ 24 (some 36) (mkB 32 33554431) HT_ ?_
    refine pu_ 25 (some 37) (mkB 32 67108863) HT_ ?_
    refine pr_ 26 (some 38) (mkB 32 134217727) HT_ ?_
    refine pr_ 27 (some 39) (mkB 32 268435455) HT_ ?_
    refine pu_ 28 (some 40) (mkB 32 536870911) HT_ ?_
    refine pu_ 29 (some 41) (mkB 32 1073741823) HT_ ?_
    refine pu_ 30 (some 42) (mkB 32 2147483647) HT_ ?_
    refine pr_ 31 (some 43) (mkB 32 4294967295) HT_ ?_
    refine done_ (done_of HT_.out (by kernel_rfl)) ?_
    try go_wp2
    go_ret
    exact ⟨by first | rfl | (simp [errW_none, errW_some] <;> rfl) | (simp [*, errW_none, errW_some] <;> rfl), by repeat (first | (with_reducible first | exact HB.out | apply below_alloc | apply pw_below_drewN | apply below_drew1 | refine below_set ?_ GE103.out) | exact HB.out)⟩
   subst c6
   have H1 : (if x7_1 > 0 then (if 0 ≤ (wrap64 (x7_1 - 1)) then (if (wrap64 (x7_1 - 1)) < (l0.length : Int) then (if ((rd_T72 l0 x7_1).f0) ≤ ((rd_T72 l0 (wrap64 (x7_1 - 1))).f0) then (some false) else ((wire_within.f (-10000) ((rd_T72 l0 x7_1).f1) ((rd_T72 l0 x7_1).f2)).bind fun t106 => (if t106 = true then (if ((rd_T72 l0 x7_1).f2) > 10000 then (some false) else (wire_Valid.l0 k1 l0 l0 (l0.length : Int) (wrap64 (x7_1 + 1)))) else (some false)))) else (none)) else (none)) else ((wire_within.f (-10000) ((rd_T72 l0 x7_1).f1) ((rd_T72 l0 x7_1).f2)).bind fun t107 => (if t107 = true then (if ((rd_T72 l0 x7_1).f2) > 10000 then (some false) else (wire_Valid.l0 k1 l0 l0 (l0.length : Int) (wrap64 (x7_1 + 1)))) else (some false)))) = some r := by rw [if_pos rfl] at H; exact H
   clear H
   have H := H1
   clear H1
   by_cases c7 : x7_1 > 0
   rotate_left
   ·rw [if_neg c7] at H
    have c7b0 : decide (0 < x7_1) = false := decide_eq_false c7
    clear c7
    replace H := Option.bind_eq_some_iff.mp H
    obtain ⟨t107, A310, H⟩ := H
    replace H : (if t107 = true then (if ((rd_T72 l0 x7_1).f2) > 10000 then (some false) else (wire_Valid.l0 k1 l0 l0 (l0.length : Int) (wrap64 (x7_1 + 1)))) else (some false)) = some r := H
    have A31 := A_ A310
    clear A310
    by_cases c32 : t107 = true
    rotate_left
    ·replace c32 := Bool.eq_false_iff.mpr c32
     subst c32
     have H1 : (some false) = some r := by rw [if_neg (show ¬ (false = true) by decide)] at H; exact H
     clear H
     have H := H1
     clear H1
     obtain rfl := Option.some.inj H
     have p102 : 0 ≤ (x7_1 : Int) := of_decide_eq_true (by first | (with_reducible assumption) | assumption)
     have q102 : x7_1 < (l0.length : Int) := of_decide_eq_true (by first | (with_reducible assumption) | assumption)
     obtain ⟨ad102, e102, hx102_0, hx102_1, hx102_2⟩ := at_T72 HR0.out x7_1 p102 q102
     cases e102
     replace hx102_0 := (HB.out.cell (World.block_lt_of_cell? w _ hx102_0)).trans hx102_0
     replace hx102_1 := (HB.out.cell (World.block_lt_of_cell? w _ hx102_1)).trans hx102_1
     replace hx102_2 := (HB.out.cell (World.block_lt_of_cell? w _ hx102_2)).trans hx102_2
     replace p102 := eq_true p102
     replace q102 := eq_true q102
     try go_wp2_with (first | ((with_reducible refine gate_dst (N := 4) rfl ?_); refine box_event ?hg (N := 4) ?hd (cs := #[.int .i64 0, .int .i64 0, .int .i64 0]) (t := 72) ?hr ?_; (case hd => rfl); (case hg => rfl); (case hr => first | (go_simp; done) | (go_simp; rfl)); intro gb103 hg w42 hbox hb; have n0_ := A_ (below_step (bW0 HB.out) hb); have n1_ := A_ (hbox); have n2_ := A_ ((szG hg (bW0 HB.out))); have n3_ := A_ ((szG hg (bW0 HB.out))); clear HB; have HB := n0_; have BK103 := n1_; have GW103 := n2_; have GE103 := n3_; clear n0_ n1_ n2_ n3_; clear hb hbox hg; have hcz43_0 : w42.cell? ⟨gb103, 0, none⟩ = some (.int .i64 0) := (blk_cell BK103.out 0).trans rfl; have hcz43_1 : w42.cell? ⟨gb103, 1, none⟩ = some (.int .i64 0) := (blk_cell BK103.out 1).trans rfl; have hcz43_2 : w42.cell? ⟨gb103, 2, none⟩ = some (.int .i64 0) := (blk_cell BK103.out 2).trans rfl; have hfz43_0 := blk_frozen BK103.out 0; have hfz43_1 := blk_frozen BK103.out 1; have hfz43_2 := blk_frozen BK103.out 2))
     have n0_ : Aside0 ((((w42.setCell ⟨gb103, 0, none⟩ (.int .i64 ((rd_T72 l0 x7_1).f0))).setCell ⟨gb103, 1, none⟩ (.int .i64 ((rd_T72 l0 x7_1).f1))).setCell ⟨gb103, 2, none⟩ (.int .i64 ((rd_T72 l0 x7_1).f2))).heap[gb103]? = some (.cells #[.int .i64 ((rd_T72 l0 x7_1).f0), .int .i64 ((rd_T72 l0 x7_1).f1), .int .i64 ((rd_T72 l0 x7_1).f2)] 72 (0, 0))) := ⟨by (with_reducible repeat (first | refine blk_drewN ?_ _ | refine blk_drew ?_ | refine blk_alloc ?_ _)); refine blk_put (cs := #[.int .i64 ((rd_T72 l0 x7_1).f0), .int .i64 ((rd_T72 l0 x7_1).f1), .int .i64 0]) ?_ 2 _ rfl; (with_reducible repeat (first | refine blk_drewN ?_ _ | refine blk_drew ?_ | refine blk_alloc ?_ _)); refine blk_put (cs := #[.int .i64 ((rd_T72 l0 x7_1).f0), .int .i64 0, .int .i64 0]) ?_ 1 _ rfl; (with_reducible repeat (first | refine blk_drewN ?_ _ | refine blk_drew ?_ | refine blk_alloc ?_ _)); refine blk_put (cs := #[.int .i64 0, .int .i64 0, .int .i64 0]) ?_ 0 _ rfl; exact bkU BK103⟩
     have n1_ : Aside0 (Below w.heap.size w (((w42.setCell ⟨gb103, 0, none⟩ (.int .i64 ((rd_T72 l0 x7_1).f0))).setCell ⟨gb103, 1, none⟩ (.int .i64 ((rd_T72 l0 x7_1).f1))).setCell ⟨gb103, 2, none⟩ (.int .i64 ((rd_T72 l0 x7_1).f2)))) := ⟨by repeat (first | (with_reducible first | exact HB.out | apply below_alloc | apply pw_below_drewN | apply below_drew1 | refine below_set ?_ GE103.out) | exact HB.out)⟩
     (try clear BK103)
     (try clear HB)
     generalize (((w42.setCell ⟨gb103, 0, none⟩ (.int .i64 ((rd_T72 l0 x7_1).f0))).setCell ⟨gb103, 1, none⟩ (.int .i64 ((rd_T72 l0 x7_1).f1))).setCell ⟨gb103, 2, none⟩ (.int .i64 ((rd_T72 l0 x7_1).f2))) = w44 at n0_ n1_ ⊢
     have BK103 := n0_
     have HB := n1_
     clear n0_ n1_
     have n0_ := A_ (blk_drew BK103.out)
     have n1_ := A_ (below_drew1 HB.out)
     clear BK103
     clear HB
     have BK103 := n0_
     have HB := n1_
     clear n0_ n1_
     refine start_ (n := 32) (S := fun w' => w'.cell? ⟨gb103, 0, none⟩ = some (.int .i64 ((rd_T72 l0 x7_1).f0)) ∧ w'.cell? ⟨gb103, 1, none⟩ = some (.int .i64 ((rd_T72 l0 x7_1).f1)) ∧ w'.cell? ⟨gb103, 2, none⟩ = some (.int .i64 ((rd_T72 l0 x7_1).f2))) (ds := []) (mkB 32 0) (by kernel_rfl) rfl rfl ⟨(blk_cell BK103.out 0).trans rfl, (blk_cell BK103.out 1).trans rfl, (blk_cell BK103.out 2).trans rfl⟩ (fun hHeld => ?_); refine with_tabW wire_Valid.tab4 wire_Valid.bits4 (fun HT_ HW_ => ?_)
     generalize w44.drew = w45 at BK103 HB hHeld ⊢
     refine pr_ 0 (some 12) (mkB 32 1) HT_ ?_
     refine take_ (i := 1) (N := some 13) (v := ?_) (a' := ?_) (mkB 32 3) rfl rfl (take_ofW HT_.out HW_.out (by kernel_rfl)) (fun _ _ _ h => h) (Or.inl ⟨by rfl, ?_⟩) hHeld ?_ ?_
     rotate_left
     ·rintro w' ⟨s0, s1, s2⟩
      go_simp
      with_reducible rfl
     rotate_left
     ·simp only [Act.put, List.setIfInBounds_toArray, List.set_cons_zero, List.set_cons_succ, i64_w, i32_w]
      rfl
     refine one_ (i := 2) (N := some 14) (mkB 32 7) rfl rfl (one_of HT_.out (by kernel_rfl)) (by decide) (fun K hK => ?_)
     refine goes_ Try.func56 (by kernel_rfl) rfl #[.int .i64 0, .int .i64 ((rd_T72 l0 x7_1).f0), .int .i64 100000] (by rfl) rfl rfl (by (try simp only [List.map_toArray, List.map_cons, List.map_nil]); first | done | rfl | (simp only [List.length_drop, List.length_take]; rfl)) ?_
     with_reducible refine (wire_within.calls 0 ((rd_T72 l0 x7_1).f0) 100000 true _ A5.out).mono ?_
     rintro e w' ⟨rfl, ⟨nd, rfl⟩⟩
     refine ⟨_, rfl, ?_⟩
     refine hK.out _ _ ⟨(blk_cell BK103.out 0).trans rfl, (blk_cell BK103.out 1).trans rfl, (blk_cell BK103.out 2).trans rfl⟩ (fun hHeld => ?_)
     clear hK K
     refine norm_ (a' := ?_) ?_ ?_
     rotate_left
     ·show Act.put _ (some 14) _ = _
      simp only [Act.put, List.setIfInBounds_toArray, List.set_cons_zero, List.set_cons_succ, i64_w, i32_w]
      rfl
     refine pr_ 3 (some 15) (mkB 32 15) HT_ ?_
     refine pr_ 4 (some 16) (mkB 32 31) HT_ ?_
     refine pr_ 5 (some 17) (mkB 32 63) HT_ ?_
     refine pr_ 6 (some 18) (mkB 32 127) HT_ ?_
     refine pr_ 7 (some 19) (mkB 32 255) HT_ ?_
     refine pu_ 8 (some 20) (mkB 32 511) HT_ ?_
     refine pu_ 9 (some 21) (mkB 32 1023) HT_ ?_
     refine pu_ 10 (some 22) (mkB 32 2047) HT_ ?_
     refine pu_ 11 (some 23) (mkB 32 4095) HT_ ?_
     refine pu_ 12 (some 24) (mkB 32 8191) HT_ ?_
     refine pu_ 13 (some 25) (mkB 32 16383) HT_ ?_
     refine pu_ 14 (some 26) (mkB 32 32767) HT_ ?_
     refine pu_ 15 (some 27) (mkB 32 65535) HT_ ?_
     refine pu_ 16 (some 28) (mkB 32 131071) HT_ ?_
     refine pr_ 17 (some 29) (mkB 32 262143) HT_ ?_
     refine pr_ 18 (some 30) (mkB 32 524287) HT_ ?_
     refine pr_ 19 (some 31) (mkB 32 1048575) HT_ ?_
     refine pr_ 20 (some 32) (mkB 32 2097151) HT_ ?_
     refine pr_ 22 (some 34) (mkB 32 6291455) HT_ ?_
     refine take_ (i := 21) (N := some 33) (v := ?_) (a' := ?_) (mkB 32 8388607) rfl rfl (take_ofW HT_.out HW_.out (by kernel_rfl)) (fun _ _ _ h => h) (Or.inl ⟨by rfl, ?_⟩) hHeld ?_ ?_
     rotate_left
     ·rintro w' ⟨s0, s1, s2⟩
      go_simp
      with_reducible rfl
     rotate_left
     ·simp only [Act.put, List.setIfInBounds_toArray, List.set_cons_zero, List.set_cons_succ, i64_w, i32_w]
      rfl
     refine take_ (i := 23) (N := some 35) (v := ?_) (a' := ?_) (mkB 32 16777215) rfl rfl (take_ofW HT_.out HW_.out (by kernel_rfl)) (fun _ _ _ h => h) (Or.inl ⟨by rfl, ?_⟩) hHeld ?_ ?_
     rotate_left
     ·rintro w' ⟨s0, s1, s2⟩
      go_simp
      with_reducible rfl
     rotate_left
     ·simp only [Act.put, List.setIfInBounds_toArray, List.set_cons_zero, List.set_cons_succ, i64_w, i32_w]
      rfl
     refine one_ (i := 24) (N := some 36) (mkB 32 33554431) rfl rfl (one_of HT_.out (by kernel_rfl)) (by decide) (fun K hK => ?_)
     refine goes_ Try.func56 (by kernel_rfl) rfl #[.int .i64 (-10000), .int .i64 ((rd_T72 l0 x7_1).f1), .int .i64 ((rd_T72 l0 x7_1).f2)] (by rfl) rfl rfl (by (try simp only [List.map_toArray, List.map_cons, List.map_nil]); first | done | rfl | (simp only [List.length_drop, List.length_take]; rfl)) ?_
     with_reducible refine (wire_within.calls (-10000) ((rd_T72 l0 x7_1).f1) ((rd_T72 l0 x7_1).f2) false _ A31.out).mono ?_
     rintro e w' ⟨rfl, ⟨nd, rfl⟩⟩
     refine ⟨_, rfl, ?_⟩
     refine hK.out _ _ ⟨(blk_cell BK103.out 0).trans rfl, (blk_cell BK103.out 1).trans rfl, (blk_cell BK103.out 2).trans rfl⟩ (fun hHeld => ?_)
     clear hK K
     refine norm_ (a' := ?_) ?_ ?_
     rotate_left
     ·show Act.put _ (some 36) _ = _
      simp only [Act.put, List.setIfInBounds_toArray, List.set_cons_zero, List.set_cons_succ, i64_w, i32_w]
      rfl
     refine pr_ 25 (some 37) (mkB 32 67108863) HT_ ?_
     refine pr_ 26 (some 38) (mkB 32 134217727) HT_ ?_
     refine pr_ 27 (some 39) (mkB 32 268435455) HT_ ?_
     refine pu_ 28 (some 40) (mkB 32 536870911) HT_ ?_
     refine pu_ 29 (some 41) (mkB 32 1073741823) HT_ ?_
     refine pu_ 30 (some 42) (mkB 32 2147483647) HT_ ?_
     refine pr_ 31 (some 43) (mkB 32 4294967295) HT_ ?_
     refine done_ (done_of HT_.out (by kernel_rfl)) ?_
     try go_wp2
     go_ret
     exact ⟨by first | rfl | (simp [errW_none, errW_some] <;> rfl) | (simp [*, errW_none, errW_some] <;> rfl), by repeat (first | (with_reducible first | exact HB.out | apply below_alloc | apply pw_below_drewN | apply below_drew1 | refine below_set ?_ GE103.out) | exact HB.out)⟩
    subst c32
    have H1 : (if ((rd_T72 l0 x7_1).f2) > 10000 then (some false) else (wire_Valid.l0 k1 l0 l0 (l0.length : Int) (wrap64 (x7_1 + 1)))) = some r := by rw [if_pos rfl] at H; exact H
    clear H
    have H := H1
    clear H1
    by_cases c33 : ((rd_T72 l0 x7_1).f2) > 10000
    ·rw [if_pos c33] at H
     have c33b0 : decide (10000 < ((rd_T72 l0 x7_1).f2)) = true := decide_eq_true c33
     clear c33
     obtain rfl := Option.some.inj H
     have p102 : 0 ≤ (x7_1 : Int) := of_decide_eq_true (by first | (with_reducible assumption) | assumption)
     have q102 : x7_1 < (l0.length : Int) := of_decide_eq_true (by first | (with_reducible assumption) | assumption)
     obtain ⟨ad102, e102, hx102_0, hx102_1, hx102_2⟩ := at_T72 HR0.out x7_1 p102 q102
     cases e102
     replace hx102_0 := (HB.out.cell (World.block_lt_of_cell? w _ hx102_0)).trans hx102_0
     replace hx102_1 := (HB.out.cell (World.block_lt_of_cell? w _ hx102_1)).trans hx102_1
     replace hx102_2 := (HB.out.cell (World.block_lt_of_cell? w _ hx102_2)).trans hx102_2
     replace p102 := eq_true p102
     replace q102 := eq_true q102
     try go_wp2_with (first | ((with_reducible refine gate_dst (N := 4) rfl ?_); refine box_event ?hg (N := 4) ?hd (cs := #[.int .i64 0, .int .i64 0, .int .i64 0]) (t := 72) ?hr ?_; (case hd => rfl); (case hg => rfl); (case hr => first | (go_simp; done) | (go_simp; rfl)); intro gb103 hg w34 hbox hb; have n0_ := A_ (below_step (bW0 HB.out) hb); have n1_ := A_ (hbox); have n2_ := A_ ((szG hg (bW0 HB.out))); have n3_ := A_ ((szG hg (bW0 HB.out))); clear HB; have HB := n0_; have BK103 := n1_; have GW103 := n2_; have GE103 := n3_; clear n0_ n1_ n2_ n3_; clear hb hbox hg; have hcz35_0 : w34.cell? ⟨gb103, 0, none⟩ = some (.int .i64 0) := (blk_cell BK103.out 0).trans rfl; have hcz35_1 : w34.cell? ⟨gb103, 1, none⟩ = some (.int .i64 0) := (blk_cell BK103.out 1).trans rfl; have hcz35_2 : w34.cell? ⟨gb103, 2, none⟩ = some (.int .i64 0) := (blk_cell BK103.out 2).trans rfl; have hfz35_0 := blk_frozen BK103.out 0; have hfz35_1 := blk_frozen BK103.out 1; have hfz35_2 := blk_frozen BK103.out 2))
     have n0_ : Aside0 ((((w34.setCell ⟨gb103, 0, none⟩ (.int .i64 ((rd_T72 l0 x7_1).f0))).setCell ⟨gb103, 1, none⟩ (.int .i64 ((rd_T72 l0 x7_1).f1))).setCell ⟨gb103, 2, none⟩ (.int .i64 ((rd_T72 l0 x7_1).f2))).heap[gb103]? = some (.cells #[.int .i64 ((rd_T72 l0 x7_1).f0), .int .i64 ((rd_T72 l0 x7_1).f1), .int .i64 ((rd_T72 l0 x7_1).f2)] 72 (0, 0))) := ⟨by (with_reducible repeat (first | refine blk_drewN ?_ _ | refine blk_drew ?_ | refine blk_alloc ?_ _)); refine blk_put (cs := #[.int .i64 ((rd_T72 l0 x7_1).f0), .int .i64 ((rd_T72 l0 x7_1).f1), .int .i64 0]) ?_ 2 _ rfl; (with_reducible repeat (first | refine blk_drewN ?_ _ | refine blk_drew ?_ | refine blk_alloc ?_ _)); refine blk_put (cs := #[.int .i64 ((rd_T72 l0 x7_1).f0), .int .i64 0, .int .i64 0]) ?_ 1 _ rfl; (with_reducible repeat (first | refine blk_drewN ?_ _ | refine blk_drew ?_ | refine blk_alloc ?_ _)); refine blk_put (cs := #[.int .i64 0, .int .i64 0, .int .i64 0]) ?_ 0 _ rfl; exact bkU BK103⟩
     have n1_ : Aside0 (Below w.heap.size w (((w34.setCell ⟨gb103, 0, none⟩ (.int .i64 ((rd_T72 l0 x7_1).f0))).setCell ⟨gb103, 1, none⟩ (.int .i64 ((rd_T72 l0 x7_1).f1))).setCell ⟨gb103, 2, none⟩ (.int .i64 ((rd_T72 l0 x7_1).f2)))) := ⟨by repeat (first | (with_reducible first | exact HB.out | apply below_alloc | apply pw_below_drewN | apply below_drew1 | refine below_set ?_ GE103.out) | exact HB.out)⟩
     (try clear BK103)
     (try clear HB)
     generalize (((w34.setCell ⟨gb103, 0, none⟩ (.int .i64 ((rd_T72 l0 x7_1).f0))).setCell ⟨gb103, 1, none⟩ (.int .i64 ((rd_T72 l0 x7_1).f1))).setCell ⟨gb103, 2, none⟩ (.int .i64 ((rd_T72 l0 x7_1).f2))) = w36 at n0_ n1_ ⊢
     have BK103 := n0_
     have HB := n1_
     clear n0_ n1_
     have n0_ := A_ (blk_drew BK103.out)
     have n1_ := A_ (below_drew1 HB.out)
     clear BK103
     clear HB
     have BK103 := n0_
     have HB := n1_
     clear n0_ n1_
     refine start_ (n := 32) (S := fun w' => w'.cell? ⟨gb103, 0, none⟩ = some (.int .i64 ((rd_T72 l0 x7_1).f0)) ∧ w'.cell? ⟨gb103, 1, none⟩ = some (.int .i64 ((rd_T72 l0 x7_1).f1)) ∧ w'.cell? ⟨gb103, 2, none⟩ = some (.int .i64 ((rd_T72 l0 x7_1).f2))) (ds := []) (mkB 32 0) (by kernel_rfl) rfl rfl ⟨(blk_cell BK103.out 0).trans rfl, (blk_cell BK103.out 1).trans rfl, (blk_cell BK103.out 2).trans rfl⟩ (fun hHeld => ?_); refine with_tabW wire_Valid.tab4 wire_Valid.bits4 (fun HT_ HW_ => ?_)
     generalize w36.drew = w37 at BK103 HB hHeld ⊢
     refine pr_ 0 (some 12) (mkB 32 1) HT_ ?_
     refine take_ (i := 1) (N := some 13) (v := ?_) (a' := ?_) (mkB 32 3) rfl rfl (take_ofW HT_.out HW_.out (by kernel_rfl)) (fun _ _ _ h => h) (Or.inl ⟨by rfl, ?_⟩) hHeld ?_ ?_
     rotate_left
     ·rintro w' ⟨s0, s1, s2⟩
      go_simp
      with_reducible rfl
     rotate_left
     ·simp only [Act.put, List.setIfInBounds_toArray, List.set_cons_zero, List.set_cons_succ, i64_w, i32_w]
      rfl
     refine one_ (i := 2) (N := some 14) (mkB 32 7) rfl rfl (one_of HT_.out (by kernel_rfl)) (by decide) (fun K hK => ?_)
     refine goes_ Try.func56 (by kernel_rfl) rfl #[.int .i64 0, .int .i64 ((rd_T72 l0 x7_1).f0), .int .i64 100000] (by rfl) rfl rfl (by (try simp only [List.map_toArray, List.map_cons, List.map_nil]); first | done | rfl | (simp only [List.length_drop, List.length_take]; rfl)) ?_
     with_reducible refine (wire_within.calls 0 ((rd_T72 l0 x7_1).f0) 100000 true _ A5.out).mono ?_
     rintro e w' ⟨rfl, ⟨nd, rfl⟩⟩
     refine ⟨_, rfl, ?_⟩
     refine hK.out _ _ ⟨(blk_cell BK103.out 0).trans rfl, (blk_cell BK103.out 1).trans rfl, (blk_cell BK103.out 2).trans rfl⟩ (fun hHeld => ?_)
     clear hK K
     refine norm_ (a' := ?_) ?_ ?_
     rotate_left
     ·show Act.put _ (some 14) _ = _
      simp only [Act.put, List.setIfInBounds_toArray, List.set_cons_zero, List.set_cons_succ, i64_w, i32_w]
      rfl
     refine pr_ 3 (some 15) (mkB 32 15) HT_ ?_
     refine pr_ 4 (some 16) (mkB 32 31) HT_ ?_
     refine pr_ 5 (some 17) (mkB 32 63) HT_ ?_
     refine pr_ 6 (some 18) (mkB 32 127) HT_ ?_
     refine pr_ 7 (some 19) (mkB 32 255) HT_ ?_
     refine pu_ 8 (some 20) (mkB 32 511) HT_ ?_
     refine pu_ 9 (some 21) (mkB 32 1023) HT_ ?_
     refine pu_ 10 (some 22) (mkB 32 2047) HT_ ?_
     refine pu_ 11 (some 23) (mkB 32 4095) HT_ ?_
     refine pu_ 12 (some 24) (mkB 32 8191) HT_ ?_
     refine pu_ 13 (some 25) (mkB 32 16383) HT_ ?_
     refine pu_ 14 (some 26) (mkB 32 32767) HT_ ?_
     refine pu_ 15 (some 27) (mkB 32 65535) HT_ ?_
     refine pu_ 16 (some 28) (mkB 32 131071) HT_ ?_
     refine pr_ 17 (some 29) (mkB 32 262143) HT_ ?_
     refine pr_ 18 (some 30) (mkB 32 524287) HT_ ?_
     refine pr_ 19 (some 31) (mkB 32 1048575) HT_ ?_
     refine pr_ 20 (some 32) (mkB 32 2097151) HT_ ?_
     refine pr_ 22 (some 34) (mkB 32 6291455) HT_ ?_
     refine take_ (i := 21) (N := some 33) (v := ?_) (a' := ?_) (mkB 32 8388607) rfl rfl (take_ofW HT_.out HW_.out (by kernel_rfl)) (fun _ _ _ h => h) (Or.inl ⟨by rfl, ?_⟩) hHeld ?_ ?_
     rotate_left
     ·rintro w' ⟨s0, s1, s2⟩
      go_simp
      with_reducible rfl
     rotate_left
     ·simp only [Act.put, List.setIfInBounds_toArray, List.set_cons_zero, List.set_cons_succ, i64_w, i32_w]
      rfl
     refine take_ (i := 23) (N := some 35) (v := ?_) (a' := ?_) (mkB 32 16777215) rfl rfl (take_ofW HT_.out HW_.out (by kernel_rfl)) (fun _ _ _ h => h) (Or.inl ⟨by rfl, ?_⟩) hHeld ?_ ?_
     rotate_left
     ·rintro w' ⟨s0, s1, s2⟩
      go_simp
      with_reducible rfl
     rotate_left
     ·simp only [Act.put, List.setIfInBounds_toArray, List.set_cons_zero, List.set_cons_succ, i64_w, i32_w]
      rfl
     refine one_ (i := 24) (N := some 36) (mkB 32 33554431) rfl rfl (one_of HT_.out (by kernel_rfl)) (by decide) (fun K hK => ?_)
     refine goes_ Try.func56 (by kernel_rfl) rfl #[.int .i64 (-10000), .int .i64 ((rd_T72 l0 x7_1).f1), .int .i64 ((rd_T72 l0 x7_1).f2)] (by rfl) rfl rfl (by (try simp only [List.map_toArray, List.map_cons, List.map_nil]); first | done | rfl | (simp only [List.length_drop, List.length_take]; rfl)) ?_
     with_reducible refine (wire_within.calls (-10000) ((rd_T72 l0 x7_1).f1) ((rd_T72 l0 x7_1).f2) true _ A31.out).mono ?_
     rintro e w' ⟨rfl, ⟨nd, rfl⟩⟩
     refine ⟨_, rfl, ?_⟩
     refine hK.out _ _ ⟨(blk_cell BK103.out 0).trans rfl, (blk_cell BK103.out 1).trans rfl, (blk_cell BK103.out 2).trans rfl⟩ (fun hHeld => ?_)
     clear hK K
     refine norm_ (a' := ?_) ?_ ?_
     rotate_left
     ·show Act.put _ (some 36) _ = _
      simp only [Act.put, List.setIfInBounds_toArray, List.set_cons_zero, List.set_cons_succ, i64_w, i32_w]
      rfl
     refine pr_ 25 (some 37) (mkB 32 67108863) HT_ ?_
     refine pr_ 26 (some 38) (mkB 32 134217727) HT_ ?_
     refine pr_ 27 (some 39) (mkB 32 268435455) HT_ ?_
     refine pr_ 28 (some 40) (mkB 32 536870911) HT_ ?_
     refine take_ (i := 29) (N := some 41) (v := ?_) (a' := ?_) (mkB 32 1073741823) rfl rfl (take_ofW HT_.out HW_.out (by kernel_rfl)) (fun _ _ _ h => h) (Or.inl ⟨by rfl, ?_⟩) hHeld ?_ ?_
     rotate_left
     ·rintro w' ⟨s0, s1, s2⟩
      go_simp
      with_reducible rfl
     rotate_left
     ·simp only [Act.put, List.setIfInBounds_toArray, List.set_cons_zero, List.set_cons_succ, i64_w, i32_w]
      rfl
     refine pr_ 30 (some 42) (mkB 32 2147483647) HT_ ?_
     refine pr_ 31 (some 43) (mkB 32 4294967295) HT_ ?_
     refine done_ (done_of HT_.out (by kernel_rfl)) ?_
     try go_wp2
     go_ret
     exact ⟨by first | rfl | (simp [errW_none, errW_some] <;> rfl) | (simp [*, errW_none, errW_some] <;> rfl), by repeat (first | (with_reducible first | exact HB.out | apply below_alloc | apply pw_below_drewN | apply below_drew1 | refine below_set ?_ GE103.out) | exact HB.out)⟩
    rw [if_neg c33] at H
    have c33b0 : decide (10000 < ((rd_T72 l0 x7_1).f2)) = false := decide_eq_false c33
    clear c33
    have H' := A_ H
    clear H
    have p102 : 0 ≤ (x7_1 : Int) := of_decide_eq_true (by first | (with_reducible assumption) | assumption)
    have q102 : x7_1 < (l0.length : Int) := of_decide_eq_true (by first | (with_reducible assumption) | assumption)
    obtain ⟨ad102, e102, hx102_0, hx102_1, hx102_2⟩ := at_T72 HR0.out x7_1 p102 q102
    cases e102
    replace hx102_0 := (HB.out.cell (World.block_lt_of_cell? w _ hx102_0)).trans hx102_0
    replace hx102_1 := (HB.out.cell (World.block_lt_of_cell? w _ hx102_1)).trans hx102_1
    replace hx102_2 := (HB.out.cell (World.block_lt_of_cell? w _ hx102_2)).trans hx102_2
    replace p102 := eq_true p102
    replace q102 := eq_true q102
    try go_wp2_with (first | ((with_reducible refine gate_dst (N := 4) rfl ?_); refine box_event ?hg (N := 4) ?hd (cs := #[.int .i64 0, .int .i64 0, .int .i64 0]) (t := 72) ?hr ?_; (case hd => rfl); (case hg => rfl); (case hr => first | (go_simp; done) | (go_simp; rfl)); intro gb103 hg w38 hbox hb; have n0_ := A_ (below_step (bW0 HB.out) hb); have n1_ := A_ (hbox); have n2_ := A_ ((szG hg (bW0 HB.out))); have n3_ := A_ ((szG hg (bW0 HB.out))); clear HB; have HB := n0_; have BK103 := n1_; have GW103 := n2_; have GE103 := n3_; clear n0_ n1_ n2_ n3_; clear hb hbox hg; have hcz39_0 : w38.cell? ⟨gb103, 0, none⟩ = some (.int .i64 0) := (blk_cell BK103.out 0).trans rfl; have hcz39_1 : w38.cell? ⟨gb103, 1, none⟩ = some (.int .i64 0) := (blk_cell BK103.out 1).trans rfl; have hcz39_2 : w38.cell? ⟨gb103, 2, none⟩ = some (.int .i64 0) := (blk_cell BK103.out 2).trans rfl; have hfz39_0 := blk_frozen BK103.out 0; have hfz39_1 := blk_frozen BK103.out 1; have hfz39_2 := blk_frozen BK103.out 2))
    have n0_ : Aside0 ((((w38.setCell ⟨gb103, 0, none⟩ (.int .i64 ((rd_T72 l0 x7_1).f0))).setCell ⟨gb103, 1, none⟩ (.int .i64 ((rd_T72 l0 x7_1).f1))).setCell ⟨gb103, 2, none⟩ (.int .i64 ((rd_T72 l0 x7_1).f2))).heap[gb103]? = some (.cells #[.int .i64 ((rd_T72 l0 x7_1).f0), .int .i64 ((rd_T72 l0 x7_1).f1), .int .i64 ((rd_T72 l0 x7_1).f2)] 72 (0, 0))) := ⟨by (with_reducible repeat (first | refine blk_drewN ?_ _ | refine blk_drew ?_ | refine blk_alloc ?_ _)); refine blk_put (cs := #[.int .i64 ((rd_T72 l0 x7_1).f0), .int .i64 ((rd_T72 l0 x7_1).f1), .int .i64 0]) ?_ 2 _ rfl; (with_reducible repeat (first | refine blk_drewN ?_ _ | refine blk_drew ?_ | refine blk_alloc ?_ _)); refine blk_put (cs := #[.int .i64 ((rd_T72 l0 x7_1).f0), .int .i64 0, .int .i64 0]) ?_ 1 _ rfl; (with_reducible repeat (first | refine blk_drewN ?_ _ | refine blk_drew ?_ | refine blk_alloc ?_ _)); refine blk_put (cs := #[.int .i64 0, .int .i64 0, .int .i64 0]) ?_ 0 _ rfl; exact bkU BK103⟩
    have n1_ : Aside0 (Below w.heap.size w (((w38.setCell ⟨gb103, 0, none⟩ (.int .i64 ((rd_T72 l0 x7_1).f0))).setCell ⟨gb103, 1, none⟩ (.int .i64 ((rd_T72 l0 x7_1).f1))).setCell ⟨gb103, 2, none⟩ (.int .i64 ((rd_T72 l0 x7_1).f2)))) := ⟨by repeat (first | (with_reducible first | exact HB.out | apply below_alloc | apply pw_below_drewN | apply below_drew1 | refine below_set ?_ GE103.out) | exact HB.out)⟩
    (try clear BK103)
    (try clear HB)
    generalize (((w38.setCell ⟨gb103, 0, none⟩ (.int .i64 ((rd_T72 l0 x7_1).f0))).setCell ⟨gb103, 1, none⟩ (.int .i64 ((rd_T72 l0 x7_1).f1))).setCell ⟨gb103, 2, none⟩ (.int .i64 ((rd_T72 l0 x7_1).f2))) = w40 at n0_ n1_ ⊢
    have BK103 := n0_
    have HB := n1_
    clear n0_ n1_
    have n0_ := A_ (blk_drew BK103.out)
    have n1_ := A_ (below_drew1 HB.out)
    clear BK103
    clear HB
    have BK103 := n0_
    have HB := n1_
    clear n0_ n1_
    refine start_ (n := 32) (S := fun w' => w'.cell? ⟨gb103, 0, none⟩ = some (.int .i64 ((rd_T72 l0 x7_1).f0)) ∧ w'.cell? ⟨gb103, 1, none⟩ = some (.int .i64 ((rd_T72 l0 x7_1).f1)) ∧ w'.cell? ⟨gb103, 2, none⟩ = some (.int .i64 ((rd_T72 l0 x7_1).f2))) (ds := []) (mkB 32 0) (by kernel_rfl) rfl rfl ⟨(blk_cell BK103.out 0).trans rfl, (blk_cell BK103.out 1).trans rfl, (blk_cell BK103.out 2).trans rfl⟩ (fun hHeld => ?_); refine with_tabW wire_Valid.tab4 wire_Valid.bits4 (fun HT_ HW_ => ?_)
    generalize w40.drew = w41 at BK103 HB hHeld ⊢
    refine pr_ 0 (some 12) (mkB 32 1) HT_ ?_
    refine take_ (i := 1) (N := some 13) (v := ?_) (a' := ?_) (mkB 32 3) rfl rfl (take_ofW HT_.out HW_.out (by kernel_rfl)) (fun _ _ _ h => h) (Or.inl ⟨by rfl, ?_⟩) hHeld ?_ ?_
    rotate_left
    ·rintro w' ⟨s0, s1, s2⟩
     go_simp
     with_reducible rfl
    rotate_left
    ·simp only [Act.put, List.setIfInBounds_toArray, List.set_cons_zero, List.set_cons_succ, i64_w, i32_w]
     rfl
    refine one_ (i := 2) (N := some 14) (mkB 32 7) rfl rfl (one_of HT_.out (by kernel_rfl)) (by decide) (fun K hK => ?_)
    refine goes_ Try.func56 (by kernel_rfl) rfl #[.int .i64 0, .int .i64 ((rd_T72 l0 x7_1).f0), .int .i64 100000] (by rfl) rfl rfl (by (try simp only [List.map_toArray, List.map_cons, List.map_nil]); first | done | rfl | (simp only [List.length_drop, List.length_take]; rfl)) ?_
    with_reducible refine (wire_within.calls 0 ((rd_T72 l0 x7_1).f0) 100000 true _ A5.out).mono ?_
    rintro e w' ⟨rfl, ⟨nd, rfl⟩⟩
    refine ⟨_, rfl, ?_⟩
    refine hK.out _ _ ⟨(blk_cell BK103.out 0).trans rfl, (blk_cell BK103.out 1).trans rfl, (blk_cell BK103.out 2).trans rfl⟩ (fun hHeld => ?_)
    clear hK K
    refine norm_ (a' := ?_) ?_ ?_
    rotate_left
    ·show Act.put _ (some 14) _ = _
     simp only [Act.put, List.setIfInBounds_toArray, List.set_cons_zero, List.set_cons_succ, i64_w, i32_w]
     rfl
    refine pr_ 3 (some 15) (mkB 32 15) HT_ ?_
    refine pr_ 4 (some 16) (mkB 32 31) HT_ ?_
    refine pr_ 5 (some 17) (mkB 32 63) HT_ ?_
    refine pr_ 6 (some 18) (mkB 32 127) HT_ ?_
    refine pr_ 7 (some 19) (mkB 32 255) HT_ ?_
    refine pu_ 8 (some 20) (mkB 32 511) HT_ ?_
    refine pu_ 9 (some 21) (mkB 32 1023) HT_ ?_
    refine pu_ 10 (some 22) (mkB 32 2047) HT_ ?_
    refine pu_ 11 (some 23) (mkB 32 4095) HT_ ?_
    refine pu_ 12 (some 24) (mkB 32 8191) HT_ ?_
    refine pu_ 13 (some 25) (mkB 32 16383) HT_ ?_
    refine pu_ 14 (some 26) (mkB 32 32767) HT_ ?_
    refine pu_ 15 (some 27) (mkB 32 65535) HT_ ?_
    refine pu_ 16 (some 28) (mkB 32 131071) HT_ ?_
    refine pr_ 17 (some 29) (mkB 32 262143) HT_ ?_
    refine pr_ 18 (some 30) (mkB 32 524287) HT_ ?_
    refine pr_ 19 (some 31) (mkB 32 1048575) HT_ ?_
    refine pr_ 20 (some 32) (mkB 32 2097151) HT_ ?_
    refine pr_ 22 (some 34) (mkB 32 6291455) HT_ ?_
    refine take_ (i := 21) (N := some 33) (v := ?_) (a' := ?_) (mkB 32 8388607) rfl rfl (take_ofW HT_.out HW_.out (by kernel_rfl)) (fun _ _ _ h => h) (Or.inl ⟨by rfl, ?_⟩) hHeld ?_ ?_
    rotate_left
    ·rintro w' ⟨s0, s1, s2⟩
     go_simp
     with_reducible rfl
    rotate_left
    ·simp only [Act.put, List.setIfInBounds_toArray, List.set_cons_zero, List.set_cons_succ, i64_w, i32_w]
     rfl
    refine take_ (i := 23) (N := some 35) (v := ?_) (a' := ?_) (mkB 32 16777215) rfl rfl (take_ofW HT_.out HW_.out (by kernel_rfl)) (fun _ _ _ h => h) (Or.inl ⟨by rfl, ?_⟩) hHeld ?_ ?_
    rotate_left
    ·rintro w' ⟨s0, s1, s2⟩
     go_simp
     with_reducible rfl
    rotate_left
    ·simp only [Act.put, List.setIfInBounds_toArray, List.set_cons_zero, List.set_cons_succ, i64_w, i32_w]
     rfl
    refine one_ (i := 24) (N := some 36) (mkB 32 33554431) rfl rfl (one_of HT_.out (by kernel_rfl)) (by decide) (fun K hK => ?_)
    refine goes_ Try.func56 (by kernel_rfl) rfl #[.int .i64 (-10000), .int .i64 ((rd_T72 l0 x7_1).f1), .int .i64 ((rd_T72 l0 x7_1).f2)] (by rfl) rfl rfl (by (try simp only [List.map_toArray, List.map_cons, List.map_nil]); first | done | rfl | (simp only [List.length_drop, List.length_take]; rfl)) ?_
    with_reducible refine (wire_within.calls (-10000) ((rd_T72 l0 x7_1).f1) ((rd_T72 l0 x7_1).f2) true _ A31.out).mono ?_
    rintro e w' ⟨rfl, ⟨nd, rfl⟩⟩
    refine ⟨_, rfl, ?_⟩
    refine hK.out _ _ ⟨(blk_cell BK103.out 0).trans rfl, (blk_cell BK103.out 1).trans rfl, (blk_cell BK103.out 2).trans rfl⟩ (fun hHeld => ?_)
    clear hK K
    refine norm_ (a' := ?_) ?_ ?_
    rotate_left
    ·show Act.put _ (some 36) _ = _
     simp only [Act.put, List.setIfInBounds_toArray, List.set_cons_zero, List.set_cons_succ, i64_w, i32_w]
     rfl
    refine pr_ 25 (some 37) (mkB 32 67108863) HT_ ?_
    refine pr_ 26 (some 38) (mkB 32 134217727) HT_ ?_
    refine pr_ 27 (some 39) (mkB 32 268435455) HT_ ?_
    refine pr_ 28 (some 40) (mkB 32 536870911) HT_ ?_
    refine take_ (i := 29) (N := some 41) (v := ?_) (a' := ?_) (mkB 32 1073741823) rfl rfl (take_ofW HT_.out HW_.out (by kernel_rfl)) (fun _ _ _ h => h) (Or.inl ⟨by rfl, ?_⟩) hHeld ?_ ?_
    rotate_left
    ·rintro w' ⟨s0, s1, s2⟩
     go_simp
     with_reducible rfl
    rotate_left
    ·simp only [Act.put, List.setIfInBounds_toArray, List.set_cons_zero, List.set_cons_succ, i64_w, i32_w]
     rfl
    refine pr_ 30 (some 42) (mkB 32 2147483647) HT_ ?_
    refine pr_ 31 (some 43) (mkB 32 4294967295) HT_ ?_
    refine done_ (done_of HT_.out (by kernel_rfl)) ?_
    try go_wp2
    go_roundg k1
    case measure => have := HK1.out; omega
    case rel => exact ⟨(wrap64 (x7_1 + 1)), (by first | rfl | (simp; done) | (simp [*]; done)), H', ⟨by have := HK1.out; omega⟩, ⟨by repeat (first | (with_reducible first | exact HB.out | apply below_alloc | apply pw_below_drewN | apply below_drew1 | refine below_set ?_ GE103.out) | exact HB.out)⟩⟩
   rw [if_pos c7] at H
   have c7b0 : decide (0 < x7_1) = true := decide_eq_true c7
   clear c7
   obtain ⟨ji8, hji8⟩ : ∃ j_ : Int, (wrap64 (x7_1 - 1)) = j_ := ⟨_, rfl⟩
   replace H : (if 0 ≤ (ji8) then (if (ji8) < (l0.length : Int) then (if ((rd_T72 l0 x7_1).f0) ≤ ((rd_T72 l0 (ji8)).f0) then (some false) else ((wire_within.f (-10000) ((rd_T72 l0 x7_1).f1) ((rd_T72 l0 x7_1).f2)).bind fun t106 => (if t106 = true then (if ((rd_T72 l0 x7_1).f2) > 10000 then (some false) else (wire_Valid.l0 k1 l0 l0 (l0.length : Int) (wrap64 (x7_1 + 1)))) else (some false)))) else (none)) else (none)) = some r := by first | (rw [hji8] at H; exact H) | (simp only [hji8] at H ⊢; exact H)
   (try rw [hji8] at A5)
   have hji8w : (IntKind.i64.wrap (x7_1 - 1)) = ji8 := (i64_w _).trans hji8
   by_cases c9 : 0 ≤ (ji8)
   rotate_left
   ·rw [if_neg c9] at H
    exact absurd H (by simp)
   rw [if_pos c9] at H
   have c9b0 : decide (0 ≤ (ji8)) = true := decide_eq_true c9
   clear c9
   by_cases c10 : (ji8) < (l0.length : Int)
   rotate_left
   ·rw [if_neg c10] at H
    exact absurd H (by simp)
   rw [if_pos c10] at H
   have c10b0 : decide ((ji8) < (l0.length : Int)) = true := decide_eq_true c10
   clear c10
   by_cases c11 : ((rd_T72 l0 x7_1).f0) ≤ ((rd_T72 l0 (ji8)).f0)
   ·rw [if_pos c11] at H
    have c11b0 : decide (((rd_T72 l0 x7_1).f0) ≤ ((rd_T72 l0 (ji8)).f0)) = true := decide_eq_true c11
    clear c11
    obtain rfl := Option.some.inj H
    have p102 : 0 ≤ (x7_1 : Int) := of_decide_eq_true (by first | (with_reducible assumption) | assumption)
    have q102 : x7_1 < (l0.length : Int) := of_decide_eq_true (by first | (with_reducible assumption) | assumption)
    obtain ⟨ad102, e102, hx102_0, hx102_1, hx102_2⟩ := at_T72 HR0.out x7_1 p102 q102
    cases e102
    replace hx102_0 := (HB.out.cell (World.block_lt_of_cell? w _ hx102_0)).trans hx102_0
    replace hx102_1 := (HB.out.cell (World.block_lt_of_cell? w _ hx102_1)).trans hx102_1
    replace hx102_2 := (HB.out.cell (World.block_lt_of_cell? w _ hx102_2)).trans hx102_2
    replace p102 := eq_true p102
    replace q102 := eq_true q102
    try go_wp2_with (first | ((with_reducible refine gate_dst (N := 4) rfl ?_); refine box_event ?hg (N := 4) ?hd (cs := #[.int .i64 0, .int .i64 0, .int .i64 0]) (t := 72) ?hr ?_; (case hd => rfl); (case hg => rfl); (case hr => first | (go_simp; done) | (go_simp; rfl)); intro gb103 hg w12 hbox hb; have n0_ := A_ (below_step (bW0 HB.out) hb); have n1_ := A_ (hbox); have n2_ := A_ ((szG hg (bW0 HB.out))); have n3_ := A_ ((szG hg (bW0 HB.out))); clear HB; have HB := n0_; have BK103 := n1_; have GW103 := n2_; have GE103 := n3_; clear n0_ n1_ n2_ n3_; clear hb hbox hg; have hcz13_0 : w12.cell? ⟨gb103, 0, none⟩ = some (.int .i64 0) := (blk_cell BK103.out 0).trans rfl; have hcz13_1 : w12.cell? ⟨gb103, 1, none⟩ = some (.int .i64 0) := (blk_cell BK103.out 1).trans rfl; have hcz13_2 : w12.cell? ⟨gb103, 2, none⟩ = some (.int .i64 0) := (blk_cell BK103.out 2).trans rfl; have hfz13_0 := blk_frozen BK103.out 0; have hfz13_1 := blk_frozen BK103.out 1; have hfz13_2 := blk_frozen BK103.out 2))
    have n0_ : Aside0 ((((w12.setCell ⟨gb103, 0, none⟩ (.int .i64 ((rd_T72 l0 x7_1).f0))).setCell ⟨gb103, 1, none⟩ (.int .i64 ((rd_T72 l0 x7_1).f1))).setCell ⟨gb103, 2, none⟩ (.int .i64 ((rd_T72 l0 x7_1).f2))).heap[gb103]? = some (.cells #[.int .i64 ((rd_T72 l0 x7_1).f0), .int .i64 ((rd_T72 l0 x7_1).f1), .int .i64 ((rd_T72 l0 x7_1).f2)] 72 (0, 0))) := ⟨by (with_reducible repeat (first | refine blk_drewN ?_ _ | refine blk_drew ?_ | refine blk_alloc ?_ _)); refine blk_put (cs := #[.int .i64 ((rd_T72 l0 x7_1).f0), .int .i64 ((rd_T72 l0 x7_1).f1), .int .i64 0]) ?_ 2 _ rfl; (with_reducible repeat (first | refine blk_drewN ?_ _ | refine blk_drew ?_ | refine blk_alloc ?_ _)); refine blk_put (cs := #[.int .i64 ((rd_T72 l0 x7_1).f0), .int .i64 0, .int .i64 0]) ?_ 1 _ rfl; (with_reducible repeat (first | refine blk_drewN ?_ _ | refine blk_drew ?_ | refine blk_alloc ?_ _)); refine blk_put (cs := #[.int .i64 0, .int .i64 0, .int .i64 0]) ?_ 0 _ rfl; exact bkU BK103⟩
    have n1_ : Aside0 (Below w.heap.size w (((w12.setCell ⟨gb103, 0, none⟩ (.int .i64 ((rd_T72 l0 x7_1).f0))).setCell ⟨gb103, 1, none⟩ (.int .i64 ((rd_T72 l0 x7_1).f1))).setCell ⟨gb103, 2, none⟩ (.int .i64 ((rd_T72 l0 x7_1).f2)))) := ⟨by repeat (first | (with_reducible first | exact HB.out | apply below_alloc | apply pw_below_drewN | apply below_drew1 | refine below_set ?_ GE103.out) | exact HB.out)⟩
    (try clear BK103)
    (try clear HB)
    generalize (((w12.setCell ⟨gb103, 0, none⟩ (.int .i64 ((rd_T72 l0 x7_1).f0))).setCell ⟨gb103, 1, none⟩ (.int .i64 ((rd_T72 l0 x7_1).f1))).setCell ⟨gb103, 2, none⟩ (.int .i64 ((rd_T72 l0 x7_1).f2))) = w14 at n0_ n1_ ⊢
    have BK103 := n0_
    have HB := n1_
    clear n0_ n1_
    have n0_ := A_ (blk_drew BK103.out)
    have n1_ := A_ (below_drew1 HB.out)
    clear BK103
    clear HB
    have BK103 := n0_
    have HB := n1_
    clear n0_ n1_
    have p105 : 0 ≤ ((ji8) : Int) := of_decide_eq_true (by first | (with_reducible assumption) | assumption)
    have q105 : (ji8) < (l0.length : Int) := of_decide_eq_true (by first | (with_reducible assumption) | assumption)
    obtain ⟨ad105, e105, hx105_0, hx105_1, hx105_2⟩ := at_T72 HR0.out (ji8) p105 q105
    have hw105_2 := hx105_2
    have hw105_1 := hx105_1
    have hw105_0 := hx105_0
    obtain rfl : ad102 = ad105 := (by injection e105)
    replace hx105_0 := (HB.out.cell (World.block_lt_of_cell? w _ hx105_0)).trans hx105_0
    replace hx105_1 := (HB.out.cell (World.block_lt_of_cell? w _ hx105_1)).trans hx105_1
    replace hx105_2 := (HB.out.cell (World.block_lt_of_cell? w _ hx105_2)).trans hx105_2
    replace p105 := eq_true p105
    replace q105 := eq_true q105
    refine start_ (n := 32) (S := fun w' => w'.cell? ⟨gb103, 0, none⟩ = some (.int .i64 ((rd_T72 l0 x7_1).f0)) ∧ w'.cell? ⟨gb103, 1, none⟩ = some (.int .i64 ((rd_T72 l0 x7_1).f1)) ∧ w'.cell? ⟨gb103, 2, none⟩ = some (.int .i64 ((rd_T72 l0 x7_1).f2)) ∧ w'.cell? (ad102.add (((ji8)).toNat * 3)) = some (.int .i64 ((rd_T72 l0 (ji8)).f0)) ∧ w'.cell? ⟨(ad102.add (((ji8)).toNat * 3)).block, (ad102.add (((ji8)).toNat * 3)).off + 1, none⟩ = some (.int .i64 ((rd_T72 l0 (ji8)).f1)) ∧ w'.cell? ⟨(ad102.add (((ji8)).toNat * 3)).block, (ad102.add (((ji8)).toNat * 3)).off + 2, none⟩ = some (.int .i64 ((rd_T72 l0 (ji8)).f2))) (ds := []) (mkB 32 0) (by kernel_rfl) rfl rfl ⟨(blk_cell BK103.out 0).trans rfl, (blk_cell BK103.out 1).trans rfl, (blk_cell BK103.out 2).trans rfl, (pw_cell_below HB.out hw105_0), (pw_cell_below HB.out hw105_1), (pw_cell_below HB.out hw105_2)⟩ (fun hHeld => ?_); refine with_tabW wire_Valid.tab4 wire_Valid.bits4 (fun HT_ HW_ => ?_)
    generalize w14.drew = w15 at BK103 HB hx105_0 hx105_1 hx105_2 hHeld ⊢
    refine pr_ 0 (some 12) (mkB 32 1) HT_ ?_
    refine take_ (i := 1) (N := some 13) (v := ?_) (a' := ?_) (mkB 32 3) rfl rfl (take_ofW HT_.out HW_.out (by kernel_rfl)) (fun _ _ _ h => h) (Or.inl ⟨by rfl, ?_⟩) hHeld ?_ ?_
    rotate_left
    ·rintro w' ⟨s0, s1, s2, s3, s4, s5⟩
     go_simp
     with_reducible rfl
    rotate_left
    ·simp only [Act.put, List.setIfInBounds_toArray, List.set_cons_zero, List.set_cons_succ, i64_w, i32_w]
     rfl
    refine one_ (i := 2) (N := some 14) (mkB 32 7) rfl rfl (one_of HT_.out (by kernel_rfl)) (by decide) (fun K hK => ?_)
    refine goes_ Try.func56 (by kernel_rfl) rfl #[.int .i64 0, .int .i64 ((rd_T72 l0 x7_1).f0), .int .i64 100000] (by rfl) rfl rfl (by (try simp only [List.map_toArray, List.map_cons, List.map_nil]); first | done | rfl | (simp only [List.length_drop, List.length_take]; rfl)) ?_
    with_reducible refine (wire_within.calls 0 ((rd_T72 l0 x7_1).f0) 100000 true _ A5.out).mono ?_
    rintro e w' ⟨rfl, ⟨nd, rfl⟩⟩
    refine ⟨_, rfl, ?_⟩
    refine hK.out _ _ ⟨(blk_cell BK103.out 0).trans rfl, (blk_cell BK103.out 1).trans rfl, (blk_cell BK103.out 2).trans rfl, (pw_cell_below HB.out hw105_0), (pw_cell_below HB.out hw105_1), (pw_cell_below HB.out hw105_2)⟩ (fun hHeld => ?_)
    clear hK K
    refine norm_ (a' := ?_) ?_ ?_
    rotate_left
    ·show Act.put _ (some 14) _ = _
     simp only [Act.put, List.setIfInBounds_toArray, List.set_cons_zero, List.set_cons_succ, i64_w, i32_w]
     rfl
    refine pr_ 3 (some 15) (mkB 32 15) HT_ ?_
    refine pr_ 4 (some 16) (mkB 32 31) HT_ ?_
    refine pr_ 5 (some 17) (mkB 32 63) HT_ ?_
    refine pr_ 6 (some 18) (mkB 32 127) HT_ ?_
    refine pr_ 7 (some 19) (mkB 32 255) HT_ ?_
    refine pr_ 8 (some 20) (mkB 32 511) HT_ ?_
    refine pr_ 10 (some 22) (mkB 32 1535) HT_ ?_
    refine pr_ 11 (some 23) (mkB 32 3583) HT_ ?_
    refine pr_ 12 (some 24) (mkB 32 7679) HT_ ?_
    refine pr_ 13 (some 25) (mkB 32 15871) HT_ ?_
    refine pr_ 14 (some 26) (mkB 32 32255) HT_ ?_
    refine take_ (i := 9) (N := some 21) (v := ?_) (a' := ?_) (mkB 32 32767) rfl rfl (take_ofW HT_.out HW_.out (by kernel_rfl)) (fun _ _ _ h => h) (Or.inl ⟨by rfl, ?_⟩) hHeld ?_ ?_
    rotate_left
    ·rintro w' ⟨s0, s1, s2, s3, s4, s5⟩
     go_simp
     with_reducible rfl
    rotate_left
    ·simp only [Act.put, List.setIfInBounds_toArray, List.set_cons_zero, List.set_cons_succ, i64_w, i32_w]
     rfl
    refine take_ (i := 15) (N := some 27) (v := ?_) (a' := ?_) (mkB 32 65535) rfl rfl (take_ofW HT_.out HW_.out (by kernel_rfl)) (fun _ _ _ h => h) (Or.inl ⟨by rfl, ?_⟩) hHeld ?_ ?_
    rotate_left
    ·rintro w' ⟨s0, s1, s2, s3, s4, s5⟩
     go_simp
     with_reducible rfl
    rotate_left
    ·simp only [Act.put, List.setIfInBounds_toArray, List.set_cons_zero, List.set_cons_succ, i64_w, i32_w]
     rfl
    refine pr_ 16 (some 28) (mkB 32 131071) HT_ ?_
    refine pr_ 17 (some 29) (mkB 32 262143) HT_ ?_
    refine pr_ 18 (some 30) (mkB 32 524287) HT_ ?_
    refine pr_ 19 (some 31) (mkB 32 1048575) HT_ ?_
    refine pu_ 20 (some 32) (mkB 32 2097151) HT_ ?_
    refine pu_ 21 (some 33) (mkB 32 4194303) HT_ ?_
    refine pu_ 22 (some 34) (mkB 32 8388607) HT_ ?_
    refine pu_ 23 (some 35) (mkB 32 16777215) HT_ ?_
    refine pu_ 24 (some 36) (mkB 32 33554431) HT_ ?_
    refine pu_ 25 (some 37) (mkB 32 67108863) HT_ ?_
    refine pr_ 26 (some 38) (mkB 32 134217727) HT_ ?_
    refine pr_ 27 (some 39) (mkB 32 268435455) HT_ ?_
    refine pu_ 28 (some 40) (mkB 32 536870911) HT_ ?_
    refine pu_ 29 (some 41) (mkB 32 1073741823) HT_ ?_
    refine pu_ 30 (some 42) (mkB 32 2147483647) HT_ ?_
    refine pr_ 31 (some 43) (mkB 32 4294967295) HT_ ?_
    refine done_ (done_of HT_.out (by kernel_rfl)) ?_
    try go_wp2
    go_ret
    exact ⟨by first | rfl | (simp [errW_none, errW_some] <;> rfl) | (simp only [← hji8]; first | rfl | (simp [errW_none, errW_some] <;> rfl)) | (simp [*, errW_none, errW_some] <;> rfl), by repeat (first | (with_reducible first | exact HB.out | apply below_alloc | apply pw_below_drewN | apply below_drew1 | refine below_set ?_ GE103.out) | exact HB.out)⟩
   rw [if_neg c11] at H
   have c11b0 : decide (((rd_T72 l0 x7_1).f0) ≤ ((rd_T72 l0 (ji8)).f0)) = false := decide_eq_false c11
   clear c11
   replace H := Option.bind_eq_some_iff.mp H
   obtain ⟨t106, A160, H⟩ := H
   replace H : (if t106 = true then (if ((rd_T72 l0 x7_1).f2) > 10000 then (some false) else (wire_Valid.l0 k1 l0 l0 (l0.length : Int) (wrap64 (x7_1 + 1)))) else (some false)) = some r := H
   have A16 := A_ A160
   clear A160
   by_cases c17 : t106 = true
   rotate_left
   ·replace c17 := Bool.eq_false_iff.mpr c17
    subst c17
    have H1 : (some false) = some r := by rw [if_neg (show ¬ (false = true) by decide)] at H; exact H
    clear H
    have H := H1
    clear H1
    obtain rfl := Option.some.inj H
    have p102 : 0 ≤ (x7_1 : Int) := of_decide_eq_true (by first | (with_reducible assumption) | assumption)
    have q102 : x7_1 < (l0.length : Int) := of_decide_eq_true (by first | (with_reducible assumption) | assumption)
    obtain ⟨ad102, e102, hx102_0, hx102_1, hx102_2⟩ := at_T72 HR0.out x7_1 p102 q102
    cases e102
    replace hx102_0 := (HB.out.cell (World.block_lt_of_cell? w _ hx102_0)).trans hx102_0
    replace hx102_1 := (HB.out.cell (World.block_lt_of_cell? w _ hx102_1)).trans hx102_1
    replace hx102_2 := (HB.out.cell (World.block_lt_of_cell? w _ hx102_2)).trans hx102_2
    replace p102 := eq_true p102
    replace q102 := eq_true q102
    try go_wp2_with (first | ((with_reducible refine gate_dst (N := 4) rfl ?_); refine box_event ?hg (N := 4) ?hd (cs := #[.int .i64 0, .int .i64 0, .int .i64 0]) (t := 72) ?hr ?_; (case hd => rfl); (case hg => rfl); (case hr => first | (go_simp; done) | (go_simp; rfl)); intro gb103 hg w27 hbox hb; have n0_ := A_ (below_step (bW0 HB.out) hb); have n1_ := A_ (hbox); have n2_ := A_ ((szG hg (bW0 HB.out))); have n3_ := A_ ((szG hg (bW0 HB.out))); clear HB; have HB := n0_; have BK103 := n1_; have GW103 := n2_; have GE103 := n3_; clear n0_ n1_ n2_ n3_; clear hb hbox hg; have hcz28_0 : w27.cell? ⟨gb103, 0, none⟩ = some (.int .i64 0) := (blk_cell BK103.out 0).trans rfl; have hcz28_1 : w27.cell? ⟨gb103, 1, none⟩ = some (.int .i64 0) := (blk_cell BK103.out 1).trans rfl; have hcz28_2 : w27.cell? ⟨gb103, 2, none⟩ = some (.int .i64 0) := (blk_cell BK103.out 2).trans rfl; have hfz28_0 := blk_frozen BK103.out 0; have hfz28_1 := blk_frozen BK103.out 1; have hfz28_2 := blk_frozen BK103.out 2))
    have n0_ : Aside0 ((((w27.setCell ⟨gb103, 0, none⟩ (.int .i64 ((rd_T72 l0 x7_1).f0))).setCell ⟨gb103, 1, none⟩ (.int .i64 ((rd_T72 l0 x7_1).f1))).setCell ⟨gb103, 2, none⟩ (.int .i64 ((rd_T72 l0 x7_1).f2))).heap[gb103]? = some (.cells #[.int .i64 ((rd_T72 l0 x7_1).f0), .int .i64 ((rd_T72 l0 x7_1).f1), .int .i64 ((rd_T72 l0 x7_1).f2)] 72 (0, 0))) := ⟨by (with_reducible repeat (first | refine blk_drewN ?_ _ | refine blk_drew ?_ | refine blk_alloc ?_ _)); refine blk_put (cs := #[.int .i64 ((rd_T72 l0 x7_1).f0), .int .i64 ((rd_T72 l0 x7_1).f1), .int .i64 0]) ?_ 2 _ rfl; (with_reducible repeat (first | refine blk_drewN ?_ _ | refine blk_drew ?_ | refine blk_alloc ?_ _)); refine blk_put (cs := #[.int .i64 ((rd_T72 l0 x7_1).f0), .int .i64 0, .int .i64 0]) ?_ 1 _ rfl; (with_reducible repeat (first | refine blk_drewN ?_ _ | refine blk_drew ?_ | refine blk_alloc ?_ _)); refine blk_put (cs := #[.int .i64 0, .int .i64 0, .int .i64 0]) ?_ 0 _ rfl; exact bkU BK103⟩
    have n1_ : Aside0 (Below w.heap.size w (((w27.setCell ⟨gb103, 0, none⟩ (.int .i64 ((rd_T72 l0 x7_1).f0))).setCell ⟨gb103, 1, none⟩ (.int .i64 ((rd_T72 l0 x7_1).f1))).setCell ⟨gb103, 2, none⟩ (.int .i64 ((rd_T72 l0 x7_1).f2)))) := ⟨by repeat (first | (with_reducible first | exact HB.out | apply below_alloc | apply pw_below_drewN | apply below_drew1 | refine below_set ?_ GE103.out) | exact HB.out)⟩
    (try clear BK103)
    (try clear HB)
    generalize (((w27.setCell ⟨gb103, 0, none⟩ (.int .i64 ((rd_T72 l0 x7_1).f0))).setCell ⟨gb103, 1, none⟩ (.int .i64 ((rd_T72 l0 x7_1).f1))).setCell ⟨gb103, 2, none⟩ (.int .i64 ((rd_T72 l0 x7_1).f2))) = w29 at n0_ n1_ ⊢
    have BK103 := n0_
    have HB := n1_
    clear n0_ n1_
    have n0_ := A_ (blk_drew BK103.out)
    have n1_ := A_ (below_drew1 HB.out)
    clear BK103
    clear HB
    have BK103 := n0_
    have HB := n1_
    clear n0_ n1_
    have p105 : 0 ≤ ((ji8) : Int) := of_decide_eq_true (by first | (with_reducible assumption) | assumption)
    have q105 : (ji8) < (l0.length : Int) := of_decide_eq_true (by first | (with_reducible assumption) | assumption)
    obtain ⟨ad105, e105, hx105_0, hx105_1, hx105_2⟩ := at_T72 HR0.out (ji8) p105 q105
    have hw105_2 := hx105_2
    have hw105_1 := hx105_1
    have hw105_0 := hx105_0
    obtain rfl : ad102 = ad105 := (by injection e105)
    replace hx105_0 := (HB.out.cell (World.block_lt_of_cell? w _ hx105_0)).trans hx105_0
    replace hx105_1 := (HB.out.cell (World.block_lt_of_cell? w _ hx105_1)).trans hx105_1
    replace hx105_2 := (HB.out.cell (World.block_lt_of_cell? w _ hx105_2)).trans hx105_2
    replace p105 := eq_true p105
    replace q105 := eq_true q105
    refine start_ (n := 32) (S := fun w' => w'.cell? ⟨gb103, 0, none⟩ = some (.int .i64 ((rd_T72 l0 x7_1).f0)) ∧ w'.cell? ⟨gb103, 1, none⟩ = some (.int .i64 ((rd_T72 l0 x7_1).f1)) ∧ w'.cell? ⟨gb103, 2, none⟩ = some (.int .i64 ((rd_T72 l0 x7_1).f2)) ∧ w'.cell? (ad102.add (((ji8)).toNat * 3)) = some (.int .i64 ((rd_T72 l0 (ji8)).f0)) ∧ w'.cell? ⟨(ad102.add (((ji8)).toNat * 3)).block, (ad102.add (((ji8)).toNat * 3)).off + 1, none⟩ = some (.int .i64 ((rd_T72 l0 (ji8)).f1)) ∧ w'.cell? ⟨(ad102.add (((ji8)).toNat * 3)).block, (ad102.add (((ji8)).toNat * 3)).off + 2, none⟩ = some (.int .i64 ((rd_T72 l0 (ji8)).f2))) (ds := []) (mkB 32 0) (by kernel_rfl) rfl rfl ⟨(blk_cell BK103.out 0).trans rfl, (blk_cell BK103.out 1).trans rfl, (blk_cell BK103.out 2).trans rfl, (pw_cell_below HB.out hw105_0), (pw_cell_below HB.out hw105_1), (pw_cell_below HB.out hw105_2)⟩ (fun hHeld => ?_); refine with_tabW wire_Valid.tab4 wire_Valid.bits4 (fun HT_ HW_ => ?_)
    generalize w29.drew = w30 at BK103 HB hx105_0 hx105_1 hx105_2 hHeld ⊢
    refine pr_ 0 (some 12) (mkB 32 1) HT_ ?_
    refine take_ (i := 1) (N := some 13) (v := ?_) (a' := ?_) (mkB 32 3) rfl rfl (take_ofW HT_.out HW_.out (by kernel_rfl)) (fun _ _ _ h => h) (Or.inl ⟨by rfl, ?_⟩) hHeld ?_ ?_
    rotate_left
    ·rintro w' ⟨s0, s1, s2, s3, s4, s5⟩
     go_simp
     with_reducible rfl
    rotate_left
    ·simp only [Act.put, List.setIfInBounds_toArray, List.set_cons_zero, List.set_cons_succ, i64_w, i32_w]
     rfl
    refine one_ (i := 2) (N := some 14) (mkB 32 7) rfl rfl (one_of HT_.out (by kernel_rfl)) (by decide) (fun K hK => ?_)
    refine goes_ Try.func56 (by kernel_rfl) rfl #[.int .i64 0, .int .i64 ((rd_T72 l0 x7_1).f0), .int .i64 100000] (by rfl) rfl rfl (by (try simp only [List.map_toArray, List.map_cons, List.map_nil]); first | done | rfl | (simp only [List.length_drop, List.length_take]; rfl)) ?_
    with_reducible refine (wire_within.calls 0 ((rd_T72 l0 x7_1).f0) 100000 true _ A5.out).mono ?_
    rintro e w' ⟨rfl, ⟨nd, rfl⟩⟩
    refine ⟨_, rfl, ?_⟩
    refine hK.out _ _ ⟨(blk_cell BK103.out 0).trans rfl, (blk_cell BK103.out 1).trans rfl, (blk_cell BK103.out 2).trans rfl, (pw_cell_below HB.out hw105_0), (pw_cell_below HB.out hw105_1), (pw_cell_below HB.out hw105_2)⟩ (fun hHeld => ?_)
    clear hK K
    refine norm_ (a' := ?_) ?_ ?_
    rotate_left
    ·show Act.put _ (some 14) _ = _
     simp only [Act.put, List.setIfInBounds_toArray, List.set_cons_zero, List.set_cons_succ, i64_w, i32_w]
     rfl
    refine pr_ 3 (some 15) (mkB 32 15) HT_ ?_
    refine pr_ 4 (some 16) (mkB 32 31) HT_ ?_
    refine pr_ 5 (some 17) (mkB 32 63) HT_ ?_
    refine pr_ 6 (some 18) (mkB 32 127) HT_ ?_
    refine pr_ 7 (some 19) (mkB 32 255) HT_ ?_
    refine pr_ 8 (some 20) (mkB 32 511) HT_ ?_
    refine pr_ 10 (some 22) (mkB 32 1535) HT_ ?_
    refine pr_ 11 (some 23) (mkB 32 3583) HT_ ?_
    refine pr_ 12 (some 24) (mkB 32 7679) HT_ ?_
    refine pr_ 13 (some 25) (mkB 32 15871) HT_ ?_
    refine pr_ 14 (some 26) (mkB 32 32255) HT_ ?_
    refine take_ (i := 9) (N := some 21) (v := ?_) (a' := ?_) (mkB 32 32767) rfl rfl (take_ofW HT_.out HW_.out (by kernel_rfl)) (fun _ _ _ h => h) (Or.inl ⟨by rfl, ?_⟩) hHeld ?_ ?_
    rotate_left
    ·rintro w' ⟨s0, s1, s2, s3, s4, s5⟩
     go_simp
     with_reducible rfl
    rotate_left
    ·simp only [Act.put, List.setIfInBounds_toArray, List.set_cons_zero, List.set_cons_succ, i64_w, i32_w]
     rfl
    refine take_ (i := 15) (N := some 27) (v := ?_) (a' := ?_) (mkB 32 65535) rfl rfl (take_ofW HT_.out HW_.out (by kernel_rfl)) (fun _ _ _ h => h) (Or.inl ⟨by rfl, ?_⟩) hHeld ?_ ?_
    rotate_left
    ·rintro w' ⟨s0, s1, s2, s3, s4, s5⟩
     go_simp
     with_reducible rfl
    rotate_left
    ·simp only [Act.put, List.setIfInBounds_toArray, List.set_cons_zero, List.set_cons_succ, i64_w, i32_w]
     rfl
    refine pr_ 16 (some 28) (mkB 32 131071) HT_ ?_
    refine pr_ 17 (some 29) (mkB 32 262143) HT_ ?_
    refine pr_ 18 (some 30) (mkB 32 524287) HT_ ?_
    refine pr_ 19 (some 31) (mkB 32 1048575) HT_ ?_
    refine pr_ 20 (some 32) (mkB 32 2097151) HT_ ?_
    refine pr_ 22 (some 34) (mkB 32 6291455) HT_ ?_
    refine take_ (i := 21) (N := some 33) (v := ?_) (a' := ?_) (mkB 32 8388607) rfl rfl (take_ofW HT_.out HW_.out (by kernel_rfl)) (fun _ _ _ h => h) (Or.inl ⟨by rfl, ?_⟩) hHeld ?_ ?_
    rotate_left
    ·rintro w' ⟨s0, s1, s2, s3, s4, s5⟩
     go_simp
     with_reducible rfl
    rotate_left
    ·simp only [Act.put, List.setIfInBounds_toArray, List.set_cons_zero, List.set_cons_succ, i64_w, i32_w]
     rfl
    refine take_ (i := 23) (N := some 35) (v := ?_) (a' := ?_) (mkB 32 16777215) rfl rfl (take_ofW HT_.out HW_.out (by kernel_rfl)) (fun _ _ _ h => h) (Or.inl ⟨by rfl, ?_⟩) hHeld ?_ ?_
    rotate_left
    ·rintro w' ⟨s0, s1, s2, s3, s4, s5⟩
     go_simp
     with_reducible rfl
    rotate_left
    ·simp only [Act.put, List.setIfInBounds_toArray, List.set_cons_zero, List.set_cons_succ, i64_w, i32_w]
     rfl
    refine one_ (i := 24) (N := some 36) (mkB 32 33554431) rfl rfl (one_of HT_.out (by kernel_rfl)) (by decide) (fun K hK => ?_)
    refine goes_ Try.func56 (by kernel_rfl) rfl #[.int .i64 (-10000), .int .i64 ((rd_T72 l0 x7_1).f1), .int .i64 ((rd_T72 l0 x7_1).f2)] (by rfl) rfl rfl (by (try simp only [List.map_toArray, List.map_cons, List.map_nil]); first | done | rfl | (simp only [List.length_drop, List.length_take]; rfl)) ?_
    with_reducible refine (wire_within.calls (-10000) ((rd_T72 l0 x7_1).f1) ((rd_T72 l0 x7_1).f2) false _ A16.out).mono ?_
    rintro e w' ⟨rfl, ⟨nd, rfl⟩⟩
    refine ⟨_, rfl, ?_⟩
    refine hK.out _ _ ⟨(blk_cell BK103.out 0).trans rfl, (blk_cell BK103.out 1).trans rfl, (blk_cell BK103.out 2).trans rfl, (pw_cell_below HB.out hw105_0), (pw_cell_below HB.out hw105_1), (pw_cell_below HB.out hw105_2)⟩ (fun hHeld => ?_)
    clear hK K
    refine norm_ (a' := ?_) ?_ ?_
    rotate_left
    ·show Act.put _ (some 36) _ = _
     simp only [Act.put, List.setIfInBounds_toArray, List.set_cons_zero, List.set_cons_succ, i64_w, i32_w]
     rfl
    refine pr_ 25 (some 37) (mkB 32 67108863) HT_ ?_
    refine pr_ 26 (some 38) (mkB 32 134217727) HT_ ?_
    refine pr_ 27 (some 39) (mkB 32 268435455) HT_ ?_
    refine pu_ 28 (some 40) (mkB 32 536870911) HT_ ?_
    refine pu_ 29 (some 41) (mkB 32 1073741823) HT_ ?_
    refine pu_ 30 (some 42) (mkB 32 2147483647) HT_ ?_
    refine pr_ 31 (some 43) (mkB 32 4294967295) HT_ ?_
    refine done_ (done_of HT_.out (by kernel_rfl)) ?_
    try go_wp2
    go_ret
    exact ⟨by first | rfl | (simp [errW_none, errW_some] <;> rfl) | (simp only [← hji8]; first | rfl | (simp [errW_none, errW_some] <;> rfl)) | (simp [*, errW_none, errW_some] <;> rfl), by repeat (first | (with_reducible first | exact HB.out | apply below_alloc | apply pw_below_drewN | apply below_drew1 | refine below_set ?_ GE103.out) | exact HB.out)⟩
   subst c17
   have H1 : (if ((rd_T72 l0 x7_1).f2) > 10000 then (some false) else (wire_Valid.l0 k1 l0 l0 (l0.length : Int) (wrap64 (x7_1 + 1)))) = some r := by rw [if_pos rfl] at H; exact H
   clear H
   have H := H1
   clear H1
   by_cases c18 : ((rd_T72 l0 x7_1).f2) > 10000
   ·rw [if_pos c18] at H
    have c18b0 : decide (10000 < ((rd_T72 l0 x7_1).f2)) = true := decide_eq_true c18
    clear c18
    obtain rfl := Option.some.inj H
    have p102 : 0 ≤ (x7_1 : Int) := of_decide_eq_true (by first | (with_reducible assumption) | assumption)
    have q102 : x7_1 < (l0.length : Int) := of_decide_eq_true (by first | (with_reducible assumption) | assumption)
    obtain ⟨ad102, e102, hx102_0, hx102_1, hx102_2⟩ := at_T72 HR0.out x7_1 p102 q102
    cases e102
    replace hx102_0 := (HB.out.cell (World.block_lt_of_cell? w _ hx102_0)).trans hx102_0
    replace hx102_1 := (HB.out.cell (World.block_lt_of_cell? w _ hx102_1)).trans hx102_1
    replace hx102_2 := (HB.out.cell (World.block_lt_of_cell? w _ hx102_2)).trans hx102_2
    replace p102 := eq_true p102
    replace q102 := eq_true q102
    try go_wp2_with (first | ((with_reducible refine gate_dst (N := 4) rfl ?_); refine box_event ?hg (N := 4) ?hd (cs := #[.int .i64 0, .int .i64 0, .int .i64 0]) (t := 72) ?hr ?_; (case hd => rfl); (case hg => rfl); (case hr => first | (go_simp; done) | (go_simp; rfl)); intro gb103 hg w19 hbox hb; have n0_ := A_ (below_step (bW0 HB.out) hb); have n1_ := A_ (hbox); have n2_ := A_ ((szG hg (bW0 HB.out))); have n3_ := A_ ((szG hg (bW0 HB.out))); clear HB; have HB := n0_; have BK103 := n1_; have GW103 := n2_; have GE103 := n3_; clear n0_ n1_ n2_ n3_; clear hb hbox hg; have hcz20_0 : w19.cell? ⟨gb103, 0, none⟩ = some (.int .i64 0) := (blk_cell BK103.out 0).trans rfl; have hcz20_1 : w19.cell? ⟨gb103, 1, none⟩ = some (.int .i64 0) := (blk_cell BK103.out 1).trans rfl; have hcz20_2 : w19.cell? ⟨gb103, 2, none⟩ = some (.int .i64 0) := (blk_cell BK103.out 2).trans rfl; have hfz20_0 := blk_frozen BK103.out 0; have hfz20_1 := blk_frozen BK103.out 1; have hfz20_2 := blk_frozen BK103.out 2))
    have n0_ : Aside0 ((((w19.setCell ⟨gb103, 0, none⟩ (.int .i64 ((rd_T72 l0 x7_1).f0))).setCell ⟨gb103, 1, none⟩ (.int .i64 ((rd_T72 l0 x7_1).f1))).setCell ⟨gb103, 2, none⟩ (.int .i64 ((rd_T72 l0 x7_1).f2))).heap[gb103]? = some (.cells #[.int .i64 ((rd_T72 l0 x7_1).f0), .int .i64 ((rd_T72 l0 x7_1).f1), .int .i64 ((rd_T72 l0 x7_1).f2)] 72 (0, 0))) := ⟨by (with_reducible repeat (first | refine blk_drewN ?_ _ | refine blk_drew ?_ | refine blk_alloc ?_ _)); refine blk_put (cs := #[.int .i64 ((rd_T72 l0 x7_1).f0), .int .i64 ((rd_T72 l0 x7_1).f1), .int .i64 0]) ?_ 2 _ rfl; (with_reducible repeat (first | refine blk_drewN ?_ _ | refine blk_drew ?_ | refine blk_alloc ?_ _)); refine blk_put (cs := #[.int .i64 ((rd_T72 l0 x7_1).f0), .int .i64 0, .int .i64 0]) ?_ 1 _ rfl; (with_reducible repeat (first | refine blk_drewN ?_ _ | refine blk_drew ?_ | refine blk_alloc ?_ _)); refine blk_put (cs := #[.int .i64 0, .int .i64 0, .int .i64 0]) ?_ 0 _ rfl; exact bkU BK103⟩
    have n1_ : Aside0 (Below w.heap.size w (((w19.setCell ⟨gb103, 0, none⟩ (.int .i64 ((rd_T72 l0 x7_1).f0))).setCell ⟨gb103, 1, none⟩ (.int .i64 ((rd_T72 l0 x7_1).f1))).setCell ⟨gb103, 2, none⟩ (.int .i64 ((rd_T72 l0 x7_1).f2)))) := ⟨by repeat (first | (with_reducible first | exact HB.out | apply below_alloc | apply pw_below_drewN | apply below_drew1 | refine below_set ?_ GE103.out) | exact HB.out)⟩
    (try clear BK103)
    (try clear HB)
    generalize (((w19.setCell ⟨gb103, 0, none⟩ (.int .i64 ((rd_T72 l0 x7_1).f0))).setCell ⟨gb103, 1, none⟩ (.int .i64 ((rd_T72 l0 x7_1).f1))).setCell ⟨gb103, 2, none⟩ (.int .i64 ((rd_T72 l0 x7_1).f2))) = w21 at n0_ n1_ ⊢
    have BK103 := n0_
    have HB := n1_
    clear n0_ n1_
    have n0_ := A_ (blk_drew BK103.out)
    have n1_ := A_ (below_drew1 HB.out)
    clear BK103
    clear HB
    have BK103 := n0_
    have HB := n1_
    clear n0_ n1_
    have p105 : 0 ≤ ((ji8) : Int) := of_decide_eq_true (by first | (with_reducible assumption) | assumption)
    have q105 : (ji8) < (l0.length : Int) := of_decide_eq_true (by first | (with_reducible assumption) | assumption)
    obtain ⟨ad105, e105, hx105_0, hx105_1, hx105_2⟩ := at_T72 HR0.out (ji8) p105 q105
    have hw105_2 := hx105_2
    have hw105_1 := hx105_1
    have hw105_0 := hx105_0
    obtain rfl : ad102 = ad105 := (by injection e105)
    replace hx105_0 := (HB.out.cell (World.block_lt_of_cell? w _ hx105_0)).trans hx105_0
    replace hx105_1 := (HB.out.cell (World.block_lt_of_cell? w _ hx105_1)).trans hx105_1
    replace hx105_2 := (HB.out.cell (World.block_lt_of_cell? w _ hx105_2)).trans hx105_2
    replace p105 := eq_true p105
    replace q105 := eq_true q105
    refine start_ (n := 32) (S := fun w' => w'.cell? ⟨gb103, 0, none⟩ = some (.int .i64 ((rd_T72 l0 x7_1).f0)) ∧ w'.cell? ⟨gb103, 1, none⟩ = some (.int .i64 ((rd_T72 l0 x7_1).f1)) ∧ w'.cell? ⟨gb103, 2, none⟩ = some (.int .i64 ((rd_T72 l0 x7_1).f2)) ∧ w'.cell? (ad102.add (((ji8)).toNat * 3)) = some (.int .i64 ((rd_T72 l0 (ji8)).f0)) ∧ w'.cell? ⟨(ad102.add (((ji8)).toNat * 3)).block, (ad102.add (((ji8)).toNat * 3)).off + 1, none⟩ = some (.int .i64 ((rd_T72 l0 (ji8)).f1)) ∧ w'.cell? ⟨(ad102.add (((ji8)).toNat * 3)).block, (ad102.add (((ji8)).toNat * 3)).off + 2, none⟩ = some (.int .i64 ((rd_T72 l0 (ji8)).f2))) (ds := []) (mkB 32 0) (by kernel_rfl) rfl rfl ⟨(blk_cell BK103.out 0).trans rfl, (blk_cell BK103.out 1).trans rfl, (blk_cell BK103.out 2).trans rfl, (pw_cell_below HB.out hw105_0), (pw_cell_below HB.out hw105_1), (pw_cell_below HB.out hw105_2)⟩ (fun hHeld => ?_); refine with_tabW wire_Valid.tab4 wire_Valid.bits4 (fun HT_ HW_ => ?_)
    generalize w21.drew = w22 at BK103 HB hx105_0 hx105_1 hx105_2 hHeld ⊢
    refine pr_ 0 (some 12) (mkB 32 1) HT_ ?_
    refine take_ (i := 1) (N := some 13) (v := ?_) (a' := ?_) (mkB 32 3) rfl rfl (take_ofW HT_.out HW_.out (by kernel_rfl)) (fun _ _ _ h => h) (Or.inl ⟨by rfl, ?_⟩) hHeld ?_ ?_
    rotate_left
    ·rintro w' ⟨s0, s1, s2, s3, s4, s5⟩
     go_simp
     with_reducible rfl
    rotate_left
    ·simp only [Act.put, List.setIfInBounds_toArray, List.set_cons_zero, List.set_cons_succ, i64_w, i32_w]
     rfl
    refine one_ (i := 2) (N := some 14) (mkB 32 7) rfl rfl (one_of HT_.out (by kernel_rfl)) (by decide) (fun K hK => ?_)
    refine goes_ Try.func56 (by kernel_rfl) rfl #[.int .i64 0, .int .i64 ((rd_T72 l0 x7_1).f0), .int .i64 100000] (by rfl) rfl rfl (by (try simp only [List.map_toArray, List.map_cons, List.map_nil]); first | done | rfl | (simp only [List.length_drop, List.length_take]; rfl)) ?_
    with_reducible refine (wire_within.calls 0 ((rd_T72 l0 x7_1).f0) 100000 true _ A5.out).mono ?_
    rintro e w' ⟨rfl, ⟨nd, rfl⟩⟩
    refine ⟨_, rfl, ?_⟩
    refine hK.out _ _ ⟨(blk_cell BK103.out 0).trans rfl, (blk_cell BK103.out 1).trans rfl, (blk_cell BK103.out 2).trans rfl, (pw_cell_below HB.out hw105_0), (pw_cell_below HB.out hw105_1), (pw_cell_below HB.out hw105_2)⟩ (fun hHeld => ?_)
    clear hK K
    refine norm_ (a' := ?_) ?_ ?_
    rotate_left
    ·show Act.put _ (some 14) _ = _
     simp only [Act.put, List.setIfInBounds_toArray, List.set_cons_zero, List.set_cons_succ, i64_w, i32_w]
     rfl
    refine pr_ 3 (some 15) (mkB 32 15) HT_ ?_
    refine pr_ 4 (some 16) (mkB 32 31) HT_ ?_
    refine pr_ 5 (some 17) (mkB 32 63) HT_ ?_
    refine pr_ 6 (some 18) (mkB 32 127) HT_ ?_
    refine pr_ 7 (some 19) (mkB 32 255) HT_ ?_
    refine pr_ 8 (some 20) (mkB 32 511) HT_ ?_
    refine pr_ 10 (some 22) (mkB 32 1535) HT_ ?_
    refine pr_ 11 (some 23) (mkB 32 3583) HT_ ?_
    refine pr_ 12 (some 24) (mkB 32 7679) HT_ ?_
    refine pr_ 13 (some 25) (mkB 32 15871) HT_ ?_
    refine pr_ 14 (some 26) (mkB 32 32255) HT_ ?_
    refine take_ (i := 9) (N := some 21) (v := ?_) (a' := ?_) (mkB 32 32767) rfl rfl (take_ofW HT_.out HW_.out (by kernel_rfl)) (fun _ _ _ h => h) (Or.inl ⟨by rfl, ?_⟩) hHeld ?_ ?_
    rotate_left
    ·rintro w' ⟨s0, s1, s2, s3, s4, s5⟩
     go_simp
     with_reducible rfl
    rotate_left
    ·simp only [Act.put, List.setIfInBounds_toArray, List.set_cons_zero, List.set_cons_succ, i64_w, i32_w]
     rfl
    refine take_ (i := 15) (N := some 27) (v := ?_) (a' := ?_) (mkB 32 65535) rfl rfl (take_ofW HT_.out HW_.out (by kernel_rfl)) (fun _ _ _ h => h) (Or.inl ⟨by rfl, ?_⟩) hHeld ?_ ?_
    rotate_left
    ·rintro w' ⟨s0, s1, s2, s3, s4, s5⟩
     go_simp
     with_reducible rfl
    rotate_left
    ·simp only [Act.put, List.setIfInBounds_toArray, List.set_cons_zero, List.set_cons_succ, i64_w, i32_w]
     rfl
    refine pr_ 16 (some 28) (mkB 32 131071) HT_ ?_
    refine pr_ 17 (some 29) (mkB 32 262143) HT_ ?_
    refine pr_ 18 (some 30) (mkB 32 524287) HT_ ?_
    refine pr_ 19 (some 31) (mkB 32 1048575) HT_ ?_
    refine pr_ 20 (some 32) (mkB 32 2097151) HT_ ?_
    refine pr_ 22 (some 34) (mkB 32 6291455) HT_ ?_
    refine take_ (i := 21) (N := some 33) (v := ?_) (a' := ?_) (mkB 32 8388607) rfl rfl (take_ofW HT_.out HW_.out (by kernel_rfl)) (fun _ _ _ h => h) (Or.inl ⟨by rfl, ?_⟩) hHeld ?_ ?_
    rotate_left
    ·rintro w' ⟨s0, s1, s2, s3, s4, s5⟩
     go_simp
     with_reducible rfl
    rotate_left
    ·simp only [Act.put, List.setIfInBounds_toArray, List.set_cons_zero, List.set_cons_succ, i64_w, i32_w]
     rfl
    refine take_ (i := 23) (N := some 35) (v := ?_) (a' := ?_) (mkB 32 16777215) rfl rfl (take_ofW HT_.out HW_.out (by kernel_rfl)) (fun _ _ _ h => h) (Or.inl ⟨by rfl, ?_⟩) hHeld ?_ ?_
    rotate_left
    ·rintro w' ⟨s0, s1, s2, s3, s4, s5⟩
     go_simp
     with_reducible rfl
    rotate_left
    ·simp only [Act.put, List.setIfInBounds_toArray, List.set_cons_zero, List.set_cons_succ, i64_w, i32_w]
     rfl
    refine one_ (i := 24) (N := some 36) (mkB 32 33554431) rfl rfl (one_of HT_.out (by kernel_rfl)) (by decide) (fun K hK => ?_)
    refine goes_ Try.func56 (by kernel_rfl) rfl #[.int .i64 (-10000), .int .i64 ((rd_T72 l0 x7_1).f1), .int .i64 ((rd_T72 l0 x7_1).f2)] (by rfl) rfl rfl (by (try simp only [List.map_toArray, List.map_cons, List.map_nil]); first | done | rfl | (simp only [List.length_drop, List.length_take]; rfl)) ?_
    with_reducible refine (wire_within.calls (-10000) ((rd_T72 l0 x7_1).f1) ((rd_T72 l0 x7_1).f2) true _ A16.out).mono ?_
    rintro e w' ⟨rfl, ⟨nd, rfl⟩⟩
    refine ⟨_, rfl, ?_⟩
    refine hK.out _ _ ⟨(blk_cell BK103.out 0).trans rfl, (blk_cell BK103.out 1).trans rfl, (blk_cell BK103.out 2).trans rfl, (pw_cell_below HB.out hw105_0), (pw_cell_below HB.out hw105_1), (pw_cell_below HB.out hw105_2)⟩ (fun hHeld => ?_)
    clear hK K
    refine norm_ (a' := ?_) ?_ ?_
    rotate_left
    ·show Act.put _ (some 36) _ = _
     simp only [Act.put, List.setIfInBounds_toArray, List.set_cons_zero, List.set_cons_succ, i64_w, i32_w]
     rfl
    refine pr_ 25 (some 37) (mkB 32 67108863) HT_ ?_
    refine pr_ 26 (some 38) (mkB 32 134217727) HT_ ?_
    refine pr_ 27 (some 39) (mkB 32 268435455) HT_ ?_
    refine pr_ 28 (some 40) (mkB 32 536870911) HT_ ?_
    refine take_ (i := 29) (N := some 41) (v := ?_) (a' := ?_) (mkB 32 1073741823) rfl rfl (take_ofW HT_.out HW_.out (by kernel_rfl)) (fun _ _ _ h => h) (Or.inl ⟨by rfl, ?_⟩) hHeld ?_ ?_
    rotate_left
    ·rintro w' ⟨s0, s1, s2, s3, s4, s5⟩
     go_simp
     with_reducible rfl
    rotate_left
    ·simp only [Act.put, List.setIfInBounds_toArray, List.set_cons_zero, List.set_cons_succ, i64_w, i32_w]
     rfl
    refine pr_ 30 (some 42) (mkB 32 2147483647) HT_ ?_
    refine pr_ 31 (some 43) (mkB 32 4294967295) HT_ ?_
    refine done_ (done_of HT_.out (by kernel_rfl)) ?_
    try go_wp2
    go_ret
    exact ⟨by first | rfl | (simp [errW_none, errW_some] <;> rfl) | (simp only [← hji8]; first | rfl | (simp [errW_none, errW_some] <;> rfl)) | (simp [*, errW_none, errW_some] <;> rfl), by repeat (first | (with_reducible first | exact HB.out | apply below_alloc | apply pw_below_drewN | apply below_drew1 | refine below_set ?_ GE103.out) | exact HB.out)⟩
   rw [if_neg c18] at H
   have c18b0 : decide (10000 < ((rd_T72 l0 x7_1).f2)) = false := decide_eq_false c18
   clear c18
   have H' := A_ H
   clear H
   have p102 : 0 ≤ (x7_1 : Int) := of_decide_eq_true (by first | (with_reducible assumption) | assumption)
   have q102 : x7_1 < (l0.length : Int) := of_decide_eq_true (by first | (with_reducible assumption) | assumption)
   obtain ⟨ad102, e102, hx102_0, hx102_1, hx102_2⟩ := at_T72 HR0.out x7_1 p102 q102
   cases e102
   replace hx102_0 := (HB.out.cell (World.block_lt_of_cell? w _ hx102_0)).trans hx102_0
   replace hx102_1 := (HB.out.cell (World.block_lt_of_cell? w _ hx102_1)).trans hx102_1
   replace hx102_2 := (HB.out.cell (World.block_lt_of_cell? w _ hx102_2)).trans hx102_2
   replace p102 := eq_true p102
   replace q102 := eq_true q102
   try go_wp2_with (first | ((with_reducible refine gate_dst (N := 4) rfl ?_); refine box_event ?hg (N := 4) ?hd (cs := #[.int .i64 0, .int .i64 0, .int .i64 0]) (t := 72) ?hr ?_; (case hd => rfl); (case hg => rfl); (case hr => first | (go_simp; done) | (go_simp; rfl)); intro gb103 hg w23 hbox hb; have n0_ := A_ (below_step (bW0 HB.out) hb); have n1_ := A_ (hbox); have n2_ := A_ ((szG hg (bW0 HB.out))); have n3_ := A_ ((szG hg (bW0 HB.out))); clear HB; have HB := n0_; have BK103 := n1_; have GW103 := n2_; have GE103 := n3_; clear n0_ n1_ n2_ n3_; clear hb hbox hg; have hcz24_0 : w23.cell? ⟨gb103, 0, none⟩ = some (.int .i64 0) := (blk_cell BK103.out 0).trans rfl; have hcz24_1 : w23.cell? ⟨gb103, 1, none⟩ = some (.int .i64 0) := (blk_cell BK103.out 1).trans rfl; have hcz24_2 : w23.cell? ⟨gb103, 2, none⟩ = some (.int .i64 0) := (blk_cell BK103.out 2).trans rfl; have hfz24_0 := blk_frozen BK103.out 0; have hfz24_1 := blk_frozen BK103.out 1; have hfz24_2 := blk_frozen BK103.out 2))
   have n0_ : Aside0 ((((w23.setCell ⟨gb103, 0, none⟩ (.int .i64 ((rd_T72 l0 x7_1).f0))).setCell ⟨gb103, 1, none⟩ (.int .i64 ((rd_T72 l0 x7_1).f1))).setCell ⟨gb103, 2, none⟩ (.int .i64 ((rd_T72 l0 x7_1).f2))).heap[gb103]? = some (.cells #[.int .i64 ((rd_T72 l0 x7_1).f0), .int .i64 ((rd_T72 l0 x7_1).f1), .int .i64 ((rd_T72 l0 x7_1).f2)] 72 (0, 0))) := ⟨by (with_reducible repeat (first | refine blk_drewN ?_ _ | refine blk_drew ?_ | refine blk_alloc ?_ _)); refine blk_put (cs := #[.int .i64 ((rd_T72 l0 x7_1).f0), .int .i64 ((rd_T72 l0 x7_1).f1), .int .i64 0]) ?_ 2 _ rfl; (with_reducible repeat (first | refine blk_drewN ?_ _ | refine blk_drew ?_ | refine blk_alloc ?_ _)); refine blk_put (cs := #[.int .i64 ((rd_T72 l0 x7_1).f0), .int .i64 0, .int .i64 0]) ?_ 1 _ rfl; (with_reducible repeat (first | refine blk_drewN ?_ _ | refine blk_drew ?_ | refine blk_alloc ?_ _)); refine blk_put (cs := #[.int .i64 0, .int .i64 0, .int .i64 0]) ?_ 0 _ rfl; exact bkU BK103⟩
   have n1_ : Aside0 (Below w.heap.size w (((w23.setCell ⟨gb103, 0, none⟩ (.int .i64 ((rd_T72 l0 x7_1).f0))).setCell ⟨gb103, 1, none⟩ (.int .i64 ((rd_T72 l0 x7_1).f1))).setCell ⟨gb103, 2, none⟩ (.int .i64 ((rd_T72 l0 x7_1).f2)))) := ⟨by repeat (first | (with_reducible first | exact HB.out | apply below_alloc | apply pw_below_drewN | apply below_drew1 | refine below_set ?_ GE103.out) | exact HB.out)⟩
   (try clear BK103)
   (try clear HB)
   generalize (((w23.setCell ⟨gb103, 0, none⟩ (.int .i64 ((rd_T72 l0 x7_1).f0))).setCell ⟨gb103, 1, none⟩ (.int .i64 ((rd_T72 l0 x7_1).f1))).setCell ⟨gb103, 2, none⟩ (.int .i64 ((rd_T72 l0 x7_1).f2))) = w25 at n0_ n1_ ⊢
   have BK103 := n0_
   have HB := n1_
   clear n0_ n1_
   have n0_ := A_ (blk_drew BK103.out)
   have n1_ := A_ (below_drew1 HB.out)
   clear BK103
   clear HB
   have BK103 := n0_
   have HB := n1_
   clear n0_ n1_
   have p105 : 0 ≤ ((ji8) : Int) := of_decide_eq_true (by first | (with_reducible assumption) | assumption)
   have q105 : (ji8) < (l0.length : Int) := of_decide_eq_true (by first | (with_reducible assumption) | assumption)
   obtain ⟨ad105, e105, hx105_0, hx105_1, hx105_2⟩ := at_T72 HR0.out (ji8) p105 q105
   have hw105_2 := hx105_2
   have hw105_1 := hx105_1
   have hw105_0 := hx105_0
   obtain rfl : ad102 = ad105 := (by injection e105)
   replace hx105_0 := (HB.out.cell (World.block_lt_of_cell? w _ hx105_0)).trans hx105_0
   replace hx105_1 := (HB.out.cell (World.block_lt_of_cell? w _ hx105_1)).trans hx105_1
   replace hx105_2 := (HB.out.cell (World.block_lt_of_cell? w _ hx105_2)).trans hx105_2
   replace p105 := eq_true p105
   replace q105 := eq_true q105
   refine start_ (n := 32) (S := fun w' => w'.cell? ⟨gb103, 0, none⟩ = some (.int .i64 ((rd_T72 l0 x7_1).f0)) ∧ w'.cell? ⟨gb103, 1, none⟩ = some (.int .i64 ((rd_T72 l0 x7_1).f1)) ∧ w'.cell? ⟨gb103, 2, none⟩ = some (.int .i64 ((rd_T72 l0 x7_1).f2)) ∧ w'.cell? (ad102.add (((ji8)).toNat * 3)) = some (.int .i64 ((rd_T72 l0 (ji8)).f0)) ∧ w'.cell? ⟨(ad102.add (((ji8)).toNat * 3)).block, (ad102.add (((ji8)).toNat * 3)).off + 1, none⟩ = some (.int .i64 ((rd_T72 l0 (ji8)).f1)) ∧ w'.cell? ⟨(ad102.add (((ji8)).toNat * 3)).block, (ad102.add (((ji8)).toNat * 3)).off + 2, none⟩ = some (.int .i64 ((rd_T72 l0 (ji8)).f2))) (ds := []) (mkB 32 0) (by kernel_rfl) rfl rfl ⟨(blk_cell BK103.out 0).trans rfl, (blk_cell BK103.out 1).trans rfl, (blk_cell BK103.out 2).trans rfl, (pw_cell_below HB.out hw105_0), (pw_cell_below HB.out hw105_1), (pw_cell_below HB.out hw105_2)⟩ (fun hHeld => ?_); refine with_tabW wire_Valid.tab4 wire_Valid.bits4 (fun HT_ HW_ => ?_)
   generalize w25.drew = w26 at BK103 HB hx105_0 hx105_1 hx105_2 hHeld ⊢
   refine pr_ 0 (some 12) (mkB 32 1) HT_ ?_
   refine take_ (i := 1) (N := some 13) (v := ?_) (a' := ?_) (mkB 32 3) rfl rfl (take_ofW HT_.out HW_.out (by kernel_rfl)) (fun _ _ _ h => h) (Or.inl ⟨by rfl, ?_⟩) hHeld ?_ ?_
   rotate_left
   ·rintro w' ⟨s0, s1, s2, s3, s4, s5⟩
    go_simp
    with_reducible rfl
   rotate_left
   ·simp only [Act.put, List.setIfInBounds_toArray, List.set_cons_zero, List.set_cons_succ, i64_w, i32_w]
    rfl
   refine one_ (i := 2) (N := some 14) (mkB 32 7) rfl rfl (one_of HT_.out (by kernel_rfl)) (by decide) (fun K hK => ?_)
   refine goes_ Try.func56 (by kernel_rfl) rfl #[.int .i64 0, .int .i64 ((rd_T72 l0 x7_1).f0), .int .i64 100000] (by rfl) rfl rfl (by (try simp only [List.map_toArray, List.map_cons, List.map_nil]); first | done | rfl | (simp only [List.length_drop, List.length_take]; rfl)) ?_
   with_reducible refine (wire_within.calls 0 ((rd_T72 l0 x7_1).f0) 100000 true _ A5.out).mono ?_
   rintro e w' ⟨rfl, ⟨nd, rfl⟩⟩
   refine ⟨_, rfl, ?_⟩
   refine hK.out _ _ ⟨(blk_cell BK103.out 0).trans rfl, (blk_cell BK103.out 1).trans rfl, (blk_cell BK103.out 2).trans rfl, (pw_cell_below HB.out hw105_0), (pw_cell_below HB.out hw105_1), (pw_cell_below HB.out hw105_2)⟩ (fun hHeld => ?_)
   clear hK K
   refine norm_ (a' := ?_) ?_ ?_
   rotate_left
   ·show Act.put _ (some 14) _ = _
    simp only [Act.put, List.setIfInBounds_toArray, List.set_cons_zero, List.set_cons_succ, i64_w, i32_w]
    rfl
   refine pr_ 3 (some 15) (mkB 32 15) HT_ ?_
   refine pr_ 4 (some 16) (mkB 32 31) HT_ ?_
   refine pr_ 5 (some 17) (mkB 32 63) HT_ ?_
   refine pr_ 6 (some 18) (mkB 32 127) HT_ ?_
   refine pr_ 7 (some 19) (mkB 32 255) HT_ ?_
   refine pr_ 8 (some 20) (mkB 32 511) HT_ ?_
   refine pr_ 10 (some 22) (mkB 32 1535) HT_ ?_
   refine pr_ 11 (some 23) (mkB 32 3583) HT_ ?_
   refine pr_ 12 (some 24) (mkB 32 7679) HT_ ?_
   refine pr_ 13 (some 25) (mkB 32 15871) HT_ ?_
   refine pr_ 14 (some 26) (mkB 32 32255) HT_ ?_
   refine take_ (i := 9) (N := some 21) (v := ?_) (a' := ?_) (mkB 32 32767) rfl rfl (take_ofW HT_.out HW_.out (by kernel_rfl)) (fun _ _ _ h => h) (Or.inl ⟨by rfl, ?_⟩) hHeld ?_ ?_
   rotate_left
   ·rintro w' ⟨s0, s1, s2, s3, s4, s5⟩
    go_simp
    with_reducible rfl
   rotate_left
   ·simp only [Act.put, List.setIfInBounds_toArray, List.set_cons_zero, List.set_cons_succ, i64_w, i32_w]
    rfl
   refine take_ (i := 15) (N := some 27) (v := ?_) (a' := ?_) (mkB 32 65535) rfl rfl (take_ofW HT_.out HW_.out (by kernel_rfl)) (fun _ _ _ h => h) (Or.inl ⟨by rfl, ?_⟩) hHeld ?_ ?_
   rotate_left
   ·rintro w' ⟨s0, s1, s2, s3, s4, s5⟩
    go_simp
    with_reducible rfl
   rotate_left
   ·simp only [Act.put, List.setIfInBounds_toArray, List.set_cons_zero, List.set_cons_succ, i64_w, i32_w]
    rfl
   refine pr_ 16 (some 28) (mkB 32 131071) HT_ ?_
   refine pr_ 17 (some 29) (mkB 32 262143) HT_ ?_
   refine pr_ 18 (some 30) (mkB 32 524287) HT_ ?_
   refine pr_ 19 (some 31) (mkB 32 1048575) HT_ ?_
   refine pr_ 20 (some 32) (mkB 32 2097151) HT_ ?_
   refine pr_ 22 (some 34) (mkB 32 6291455) HT_ ?_
   refine take_ (i := 21) (N := some 33) (v := ?_) (a' := ?_) (mkB 32 8388607) rfl rfl (take_ofW HT_.out HW_.out (by kernel_rfl)) (fun _ _ _ h => h) (Or.inl ⟨by rfl, ?_⟩) hHeld ?_ ?_
   rotate_left
   ·rintro w' ⟨s0, s1, s2, s3, s4, s5⟩
    go_simp
    with_reducible rfl
   rotate_left
   ·simp only [Act.put, List.setIfInBounds_toArray, List.set_cons_zero, List.set_cons_succ, i64_w, i32_w]
    rfl
   refine take_ (i := 23) (N := some 35) (v := ?_) (a' := ?_) (mkB 32 16777215) rfl rfl (take_ofW HT_.out HW_.out (by kernel_rfl)) (fun _ _ _ h => h) (Or.inl ⟨by rfl, ?_⟩) hHeld ?_ ?_
   rotate_left
   ·rintro w' ⟨s0, s1, s2, s3, s4, s5⟩
    go_simp
    with_reducible rfl
   rotate_left
   ·simp only [Act.put, List.setIfInBounds_toArray, List.set_cons_zero, List.set_cons_succ, i64_w, i32_w]
    rfl
   refine one_ (i := 24) (N := some 36) (mkB 32 33554431) rfl rfl (one_of HT_.out (by kernel_rfl)) (by decide) (fun K hK => ?_)
   refine goes_ Try.func56 (by kernel_rfl) rfl #[.int .i64 (-10000), .int .i64 ((rd_T72 l0 x7_1).f1), .int .i64 ((rd_T72 l0 x7_1).f2)] (by rfl) rfl rfl (by (try simp only [List.map_toArray, List.map_cons, List.map_nil]); first | done | rfl | (simp only [List.length_drop, List.length_take]; rfl)) ?_
   with_reducible refine (wire_within.calls (-10000) ((rd_T72 l0 x7_1).f1) ((rd_T72 l0 x7_1).f2) true _ A16.out).mono ?_
   rintro e w' ⟨rfl, ⟨nd, rfl⟩⟩
   refine ⟨_, rfl, ?_⟩
   refine hK.out _ _ ⟨(blk_cell BK103.out 0).trans rfl, (blk_cell BK103.out 1).trans rfl, (blk_cell BK103.out 2).trans rfl, (pw_cell_below HB.out hw105_0), (pw_cell_below HB.out hw105_1), (pw_cell_below HB.out hw105_2)⟩ (fun hHeld => ?_)
   clear hK K
   refine norm_ (a' := ?_) ?_ ?_
   rotate_left
   ·show Act.put _ (some 36) _ = _
    simp only [Act.put, List.setIfInBounds_toArray, List.set_cons_zero, List.set_cons_succ, i64_w, i32_w]
    rfl
   refine pr_ 25 (some 37) (mkB 32 67108863) HT_ ?_
   refine pr_ 26 (some 38) (mkB 32 134217727) HT_ ?_
   refine pr_ 27 (some 39) (mkB 32 268435455) HT_ ?_
   refine pr_ 28 (some 40) (mkB 32 536870911) HT_ ?_
   refine take_ (i := 29) (N := some 41) (v := ?_) (a' := ?_) (mkB 32 1073741823) rfl rfl (take_ofW HT_.out HW_.out (by kernel_rfl)) (fun _ _ _ h => h) (Or.inl ⟨by rfl, ?_⟩) hHeld ?_ ?_
   rotate_left
   ·rintro w' ⟨s0, s1, s2, s3, s4, s5⟩
    go_simp
    with_reducible rfl
   rotate_left
   ·simp only [Act.put, List.setIfInBounds_toArray, List.set_cons_zero, List.set_cons_succ, i64_w, i32_w]
    rfl
   refine pr_ 30 (some 42) (mkB 32 2147483647) HT_ ?_
   refine pr_ 31 (some 43) (mkB 32 4294967295) HT_ ?_
   refine done_ (done_of HT_.out (by kernel_rfl)) ?_
   try go_wp2
   go_roundg k1
   case measure => have := HK1.out; omega
   case rel => exact ⟨(wrap64 (x7_1 + 1)), (by first | rfl | (simp; done) | (simp [*]; done)), H', ⟨by have := HK1.out; omega⟩, ⟨by repeat (first | (with_reducible first | exact HB.out | apply below_alloc | apply pw_below_drewN | apply below_drew1 | refine below_set ?_ GE103.out) | exact HB.out)⟩⟩
end Go.Proofs.Ytciepmpadcpkbaa.G
