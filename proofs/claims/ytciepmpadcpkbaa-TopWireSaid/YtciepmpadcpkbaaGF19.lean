-- Written by this session's driver (wip/tools/printmore.py) over the kit's print, with hand-written parts.
import Derived.Test.YtciepmpadcpkbaaGBase
import Derived.Test.YtciepmpadcpkbaaGF57
namespace Go.Proofs.Ytciepmpadcpkbaa.G
open Go.RowKit Go.Proofs.YtciepmpadcpkbaaW.PrintWords Go.Proofs.YtciepmpadcpkbaaW.PrintLast Go.Proofs.YtciepmpadcpkbaaW.PrintMore
attribute [local go_sem] max2_int min2_int max_two min_two max_three min_three max_four min_four   -- for this text's walks alone
set_option linter.unusedVariables false
set_option linter.unusedSimpArgs false

/-! ### dropperref02_Valid: function 19 -/
def dropperref02_Valid.l0 : Nat → List (S72) → Int → Option (Bool)
 | 0, _, _ => none
 | k + 1, x0, x3 => if x3 < (x0.length : Int) then (if 0 ≤ x3 then ((dropperref02_from.f 0 ((rd_T72 x0 x3).f0) 100000).bind fun t104 => (if t104 = true then ((dropperref02_from.f (-10000) ((rd_T72 x0 x3).f1) 10000).bind fun t105 => (if t105 = true then ((dropperref02_from.f ((rd_T72 x0 x3).f1) ((rd_T72 x0 x3).f2) 10000).bind fun t106 => (if t106 = true then (if x3 > 0 then (if 0 ≤ (wrap64 (x3 - 1)) then (if (wrap64 (x3 - 1)) < (x0.length : Int) then (if ((rd_T72 x0 x3).f0) ≤ ((rd_T72 x0 (wrap64 (x3 - 1))).f0) then (some false) else (dropperref02_Valid.l0 k x0 (wrap64 (x3 + 1)))) else (none)) else (none)) else (dropperref02_Valid.l0 k x0 (wrap64 (x3 + 1)))) else (some false))) else (some false))) else (some false))) else (none)) else ((dropperref02_from.f 1 (x0.length : Int) 30).bind fun t101 => (some t101))
def dropperref02_Valid.f (k : Nat) (l0 : List (S72)) : Option (Bool) := dropperref02_Valid.l0 k l0 0
theorem dropperref02_Valid.mono_l : ∀ k, (∀ y0 y1, LeO (dropperref02_Valid.l0 k y0 y1) (dropperref02_Valid.l0 (k + 1) y0 y1))
 | 0 => fun _ _ r h => by simp [dropperref02_Valid.l0] at h
 | k + 1 => by
  have ih0 := dropperref02_Valid.mono_l k
  ·intro y0 y1
   unfold dropperref02_Valid.l0
   repeat' first
   | (with_reducible exact ih0 _ _)
   | (with_reducible exact LeO.refl _)
   | (with_reducible exact LeO.none _)
   | (with_reducible refine LeO.ite ?_ ?_)
   | (with_reducible refine LeO.bind ?_ (fun _ => ?_))
   | exact ih0 _ _
   | exact LeO.none _
   | refine LeO.ite ?_ ?_
   | refine LeO.bind ?_ (fun _ => ?_)
theorem dropperref02_Valid.mono : ∀ a0 k, LeO (dropperref02_Valid.f k a0) (dropperref02_Valid.f (k + 1) a0) := by
 intro a0 k
 have ih0 := dropperref02_Valid.mono_l k
 unfold dropperref02_Valid.f
 repeat' first
   | (with_reducible exact ih0 _ _)
   | (with_reducible exact LeO.refl _)
   | (with_reducible exact LeO.none _)
   | (with_reducible refine LeO.ite ?_ ?_)
   | (with_reducible refine LeO.bind ?_ (fun _ => ?_))
   | exact ih0 _ _
   | exact LeO.none _
   | refine LeO.ite ?_ ?_
   | refine LeO.bind ?_ (fun _ => ?_)
def dropperref02_Valid.T5 : Bool × List (List Nat × List Nat) := (true, [([], []), ([0], [0]), ([1], [1]), ([2], [2]), ([3, 2], [3]), ([4], [4]), ([5, 4], [4, 5]), ([6, 4, 4], [4, 6]), ([7, 4], [4, 7]), ([4, 8], [4, 8]), ([9, 7], [9]), ([10], [10]), ([11, 10], [10, 11]), ([10], [10]), ([13, 10], [10, 13]), ([12, 14, 10, 10], [10, 12, 14]), ([15, 10], [10, 15]), ([10, 16], [10, 16]), ([17, 15], [17]), ([18], [18]), ([19, 18], [18, 19]), ([20, 18, 18], [18, 20]), ([21], [21]), ([22, 21], [21, 22]), ([21], [21]), ([21], [21]), ([25, 21], [21, 25]), ([24, 26, 21], [21, 24, 26]), ([27, 21], [21, 27]), ([28, 21], [21, 28]), ([23, 29, 21], [21, 23, 29]), ([21, 30, 18], [18, 21, 30]), ([18, 31], [18, 31])])
def dropperref02_Valid.B5 : List Nat := [0, 1, 3, 7, 15, 31, 63, 127, 255, 511, 1023, 2047, 4095, 2047, 10239, 32767, 65535, 131071, 262143, 524287, 1048575, 2097151, 4194303, 8388607, 4194303, 4194303, 37748735, 121634815, 255852543, 524287999, 1073741823, 2147483647, 4294967295]
theorem dropperref02_Valid.tab5 : rtab .any (opsOf Try.f19 5) = dropperref02_Valid.T5 := by kernel_rfl
theorem dropperref02_Valid.bits5 : waitsOk dropperref02_Valid.T5.2 dropperref02_Valid.B5 = true := by kernel_rfl
set_option maxHeartbeats 8000000 in
set_option maxRecDepth 100000 in
theorem dropperref02_Valid.calls (k : Nat) (A0 : Option Addr) (c0 : Nat) (l0 : List (S72)) (r : Bool) (w : World) (hr0 : Kd.C k72 w A0 l0.length l0) (hc0 : l0.length ≤ c0) (h : dropperref02_Valid.f k l0 = some r) :
  Calls Try.prog 19 #[.slice A0 l0.length c0] w fun e w' => e = .returned (.bool r) ∧ Below w.heap.size w w' := by
 have hu72 := Try.underlying72
 have HR0 := A_ hr0
 have HC0 := A_ hc0
 clear hr0 hc0
 have HB := A_ (Below.refl w.heap.size w)
 have H : (dropperref02_Valid.l0 k l0 0) = some r := h
 clear h
 have H' := A_ H
 clear H
 go_enter Try.func19, Try.ntmps19
 go_wp2
 go_loopg [3] k (fun kq v3 w' => ∃ (x3_1 : Int), v3 = .int .i64 x3_1 ∧ Aside0 (dropperref02_Valid.l0 kq l0 x3_1 = some r) ∧ Aside0 (kq ≤ k) ∧ Aside0 (Below w.heap.size w w'))
 case atStart => exact ⟨(0), (by first | rfl | (simp; done) | (simp [*]; done)), H', ⟨Nat.le_refl _⟩, ⟨by repeat (first | (with_reducible first | exact HB.out | apply below_alloc | apply pw_below_drewN | apply below_drew1) | exact HB.out)⟩⟩
 case round =>
  clear H'
  try clear c1
  obtain ⟨x3_1, rfl, HA, HK1, HB⟩ := hrel
  cases gk with
  | zero => exact absurd HA.out (by simp [dropperref02_Valid.l0])
  | succ k1 =>
   have H := HA.out
   clear HA
   simp only [dropperref02_Valid.l0] at H
   by_cases c2 : x3_1 < (l0.length : Int)
   rotate_left
   ·rw [if_neg c2] at H
    have c2b0 : decide (x3_1 < (l0.length : Int)) = false := decide_eq_false c2
    clear c2
    replace H := Option.bind_eq_some_iff.mp H
    obtain ⟨t101, A390, H⟩ := H
    replace H : (some t101) = some r := H
    have A39 := A_ A390
    clear A390
    obtain rfl := Option.some.inj H
    go_wp2_with (first | ((with_reducible refine gate_callee (f := 57) rfl ?_); refine goesL_ (some 50) rfl rfl Try.func57 (by kernel_rfl) rfl #[.int .i64 1, .int .i64 (l0.length : Int), .int .i64 30] rfl (by (try simp only [List.map_toArray, List.map_cons, List.map_nil]); first | done | rfl | (simp only [List.length_drop, List.length_take]; rfl)) ?_; (with_reducible refine (dropperref02_from.calls 1 (l0.length : Int) 30 t101 _ A39.out).mono ?_); rintro e w' ⟨rfl, ⟨nd, rfl⟩⟩; refine ⟨_, rfl, ?_⟩))
    go_ret
    exact ⟨by first | rfl | (simp [errW_none, errW_some] <;> rfl) | (simp [*, errW_none, errW_some] <;> rfl), by repeat (first | (with_reducible first | exact HB.out | apply below_alloc | apply pw_below_drewN | apply below_drew1) | exact HB.out)⟩

   rw [if_pos c2] at H
   have c2b0 : decide (x3_1 < (l0.length : Int)) = true := decide_eq_true c2
   clear c2
   by_cases c3 : 0 ≤ x3_1
   rotate_left
   ·rw [if_neg c3] at H
    exact absurd H (by simp)
   rw [if_pos c3] at H
   have c3b0 : decide (0 ≤ x3_1) = true := decide_eq_true c3
   clear c3
   replace H := Option.bind_eq_some_iff.mp H
   obtain ⟨t104, A40, H⟩ := H
   replace H : (if t104 = true then ((dropperref02_from.f (-10000) ((rd_T72 l0 x3_1).f1) 10000).bind fun t105 => (if t105 = true then ((dropperref02_from.f ((rd_T72 l0 x3_1).f1) ((rd_T72 l0 x3_1).f2) 10000).bind fun t106 => (if t106 = true then (if x3_1 > 0 then (if 0 ≤ (wrap64 (x3_1 - 1)) then (if (wrap64 (x3_1 - 1)) < (l0.length : Int) then (if ((rd_T72 l0 x3_1).f0) ≤ ((rd_T72 l0 (wrap64 (x3_1 - 1))).f0) then (some false) else (dropperref02_Valid.l0 k1 l0 (wrap64 (x3_1 + 1)))) else (none)) else (none)) else (dropperref02_Valid.l0 k1 l0 (wrap64 (x3_1 + 1)))) else (some false))) else (some false))) else (some false)) = some r := H
   have A4 := A_ A40
   clear A40
   by_cases c5 : t104 = true
   rotate_left
   ·replace c5 := Bool.eq_false_iff.mpr c5
    subst c5
    have H1 : (some false) = some r := by rw [if_neg (show ¬ (false = true) by decide)] at H; exact H
    clear H
    have H := H1
    clear H1
    obtain rfl := Option.some.inj H
    have p102 : 0 ≤ (x3_1 : Int) := of_decide_eq_true (by first | (with_reducible assumption) | assumption)
    have q102 : x3_1 < (l0.length : Int) := of_decide_eq_true (by first | (with_reducible assumption) | assumption)
    obtain ⟨ad102, e102, hx102_0, hx102_1, hx102_2⟩ := at_T72 HR0.out x3_1 p102 q102
    cases e102
    replace hx102_0 := (HB.out.cell (World.block_lt_of_cell? w _ hx102_0)).trans hx102_0
    replace hx102_1 := (HB.out.cell (World.block_lt_of_cell? w _ hx102_1)).trans hx102_1
    replace hx102_2 := (HB.out.cell (World.block_lt_of_cell? w _ hx102_2)).trans hx102_2
    replace p102 := eq_true p102
    replace q102 := eq_true q102
    try go_wp2_with (first | ((with_reducible refine gate_dst (N := 4) rfl ?_); refine box_event ?hg (N := 4) ?hd (cs := #[.int .i64 0, .int .i64 0, .int .i64 0]) (t := 72) ?hr ?_; (case hd => rfl); (case hg => rfl); (case hr => first | (go_simp; done) | (go_simp; rfl)); intro gb103 hg w35 hbox hb; have n0_ := A_ (below_step (bW0 HB.out) hb); have n1_ := A_ (hbox); have n2_ := A_ ((szG hg (bW0 HB.out))); have n3_ := A_ ((szG hg (bW0 HB.out))); clear HB; have HB := n0_; have BK103 := n1_; have GW103 := n2_; have GE103 := n3_; clear n0_ n1_ n2_ n3_; clear hb hbox hg; have hcz36_0 : w35.cell? ⟨gb103, 0, none⟩ = some (.int .i64 0) := (blk_cell BK103.out 0).trans rfl; have hcz36_1 : w35.cell? ⟨gb103, 1, none⟩ = some (.int .i64 0) := (blk_cell BK103.out 1).trans rfl; have hcz36_2 : w35.cell? ⟨gb103, 2, none⟩ = some (.int .i64 0) := (blk_cell BK103.out 2).trans rfl; have hfz36_0 := blk_frozen BK103.out 0; have hfz36_1 := blk_frozen BK103.out 1; have hfz36_2 := blk_frozen BK103.out 2))
    have n0_ : Aside0 ((((w35.setCell ⟨gb103, 0, none⟩ (.int .i64 ((rd_T72 l0 x3_1).f0))).setCell ⟨gb103, 1, none⟩ (.int .i64 ((rd_T72 l0 x3_1).f1))).setCell ⟨gb103, 2, none⟩ (.int .i64 ((rd_T72 l0 x3_1).f2))).heap[gb103]? = some (.cells #[.int .i64 ((rd_T72 l0 x3_1).f0), .int .i64 ((rd_T72 l0 x3_1).f1), .int .i64 ((rd_T72 l0 x3_1).f2)] 72 (0, 0))) := ⟨by (with_reducible repeat (first | refine blk_drewN ?_ _ | refine blk_drew ?_ | refine blk_alloc ?_ _)); refine blk_put (cs := #[.int .i64 ((rd_T72 l0 x3_1).f0), .int .i64 ((rd_T72 l0 x3_1).f1), .int .i64 0]) ?_ 2 _ rfl; (with_reducible repeat (first | refine blk_drewN ?_ _ | refine blk_drew ?_ | refine blk_alloc ?_ _)); refine blk_put (cs := #[.int .i64 ((rd_T72 l0 x3_1).f0), .int .i64 0, .int .i64 0]) ?_ 1 _ rfl; (with_reducible repeat (first | refine blk_drewN ?_ _ | refine blk_drew ?_ | refine blk_alloc ?_ _)); refine blk_put (cs := #[.int .i64 0, .int .i64 0, .int .i64 0]) ?_ 0 _ rfl; exact bkU BK103⟩
    have n1_ : Aside0 (Below w.heap.size w (((w35.setCell ⟨gb103, 0, none⟩ (.int .i64 ((rd_T72 l0 x3_1).f0))).setCell ⟨gb103, 1, none⟩ (.int .i64 ((rd_T72 l0 x3_1).f1))).setCell ⟨gb103, 2, none⟩ (.int .i64 ((rd_T72 l0 x3_1).f2)))) := ⟨by repeat (first | (with_reducible first | exact HB.out | apply below_alloc | apply pw_below_drewN | apply below_drew1 | refine below_set ?_ GE103.out) | exact HB.out)⟩
    (try clear BK103)
    (try clear HB)
    generalize (((w35.setCell ⟨gb103, 0, none⟩ (.int .i64 ((rd_T72 l0 x3_1).f0))).setCell ⟨gb103, 1, none⟩ (.int .i64 ((rd_T72 l0 x3_1).f1))).setCell ⟨gb103, 2, none⟩ (.int .i64 ((rd_T72 l0 x3_1).f2))) = w37 at n0_ n1_ ⊢
    have BK103 := n0_
    have HB := n1_
    clear n0_ n1_
    have n0_ := A_ (blk_drew BK103.out)
    have n1_ := A_ (below_drew1 HB.out)
    clear BK103
    clear HB
    have BK103 := n0_
    have HB := n1_
    clear n0_ n1_
    refine start_ (n := 33) (S := fun w' => w'.cell? ⟨gb103, 0, none⟩ = some (.int .i64 ((rd_T72 l0 x3_1).f0)) ∧ w'.cell? ⟨gb103, 1, none⟩ = some (.int .i64 ((rd_T72 l0 x3_1).f1)) ∧ w'.cell? ⟨gb103, 2, none⟩ = some (.int .i64 ((rd_T72 l0 x3_1).f2))) (ds := []) (mkB 33 0) (by kernel_rfl) rfl rfl ⟨(blk_cell BK103.out 0).trans rfl, (blk_cell BK103.out 1).trans rfl, (blk_cell BK103.out 2).trans rfl⟩ (fun hHeld => ?_); refine with_tabW dropperref02_Valid.tab5 dropperref02_Valid.bits5 (fun HT_ HW_ => ?_)
    generalize w37.drew = w38 at BK103 HB hHeld ⊢
    refine pr_ 0 (some 15) (mkB 33 1) HT_ ?_
    refine take_ (i := 1) (N := some 16) (v := ?_) (a' := ?_) (mkB 33 3) rfl rfl (take_ofW HT_.out HW_.out (by kernel_rfl)) (fun _ _ _ h => h) (Or.inl ⟨by rfl, ?_⟩) hHeld ?_ ?_
    rotate_left
    ·rintro w' ⟨s0, s1, s2⟩
     go_simp
     with_reducible rfl
    rotate_left
    ·simp only [Act.put, List.setIfInBounds_toArray, List.set_cons_zero, List.set_cons_succ, i64_w, i32_w]
     rfl
    refine one_ (i := 2) (N := some 17) (mkB 33 7) rfl rfl (one_of HT_.out (by kernel_rfl)) (by decide) (fun K hK => ?_)
    refine goes_ Try.func57 (by kernel_rfl) rfl #[.int .i64 0, .int .i64 ((rd_T72 l0 x3_1).f0), .int .i64 100000] (by rfl) rfl rfl (by (try simp only [List.map_toArray, List.map_cons, List.map_nil]); first | done | rfl | (simp only [List.length_drop, List.length_take]; rfl)) ?_
    with_reducible refine (dropperref02_from.calls 0 ((rd_T72 l0 x3_1).f0) 100000 false _ A4.out).mono ?_
    rintro e w' ⟨rfl, ⟨nd, rfl⟩⟩
    refine ⟨_, rfl, ?_⟩
    refine hK.out _ _ ⟨(blk_cell BK103.out 0).trans rfl, (blk_cell BK103.out 1).trans rfl, (blk_cell BK103.out 2).trans rfl⟩ (fun hHeld => ?_)
    clear hK K
    refine norm_ (a' := ?_) ?_ ?_
    rotate_left
    ·show Act.put _ (some 17) _ = _
     simp only [Act.put, List.setIfInBounds_toArray, List.set_cons_zero, List.set_cons_succ, i64_w, i32_w]
     rfl
    refine pr_ 3 (some 18) (mkB 33 15) HT_ ?_
    refine pr_ 4 (some 19) (mkB 33 31) HT_ ?_
    refine pu_ 5 (some 20) (mkB 33 63) HT_ ?_
    refine pu_ 6 (some 21) (mkB 33 127) HT_ ?_
    refine pu_ 7 (some 22) (mkB 33 255) HT_ ?_
    refine pu_ 8 (some 23) (mkB 33 511) HT_ ?_
    refine pr_ 9 (some 24) (mkB 33 1023) HT_ ?_
    refine pr_ 10 (some 25) (mkB 33 2047) HT_ ?_
    refine pu_ 11 (some 26) (mkB 33 4095) HT_ ?_
    refine pu_ 12 (some 27) (mkB 33 8191) HT_ ?_
    refine pu_ 13 (some 28) (mkB 33 16383) HT_ ?_
    refine pu_ 14 (some 29) (mkB 33 32767) HT_ ?_
    refine pu_ 15 (some 30) (mkB 33 65535) HT_ ?_
    refine pu_ 16 (some 31) (mkB 33 131071) HT_ ?_
    refine pr_ 17 (some 32) (mkB 33 262143) HT_ ?_
    refine pr_ 18 (some 33) (mkB 33 524287) HT_ ?_
    refine pu_ 19 (some 34) (mkB 33 1048575) HT_ ?_
    refine pu_ 20 (some 35) (mkB 33 2097151) HT_ ?_
    refine pu_ 21 (some 36) (mkB 33 4194303) HT_ ?_
    refine pu_ 22 (some 37) (mkB 33 8388607) HT_ ?_
    refine pu_ 23 (some 38) (mkB 33 16777215) HT_ ?_
    refine pu_ 24 (some 39) (mkB 33 33554431) HT_ ?_
    refine pu_ 25 (some 40) (mkB 33 67108863) HT_ ?_
    refine pu_ 26 (some 41) (mkB 33 134217727) HT_ ?_
    refine pu_ 27 (some 42) (mkB 33 268435455) HT_ ?_
    refine pu_ 28 (some 43) (mkB 33 536870911) HT_ ?_
    refine pu_ 29 (some 44) (mkB 33 1073741823) HT_ ?_
    refine pu_ 30 (some 45) (mkB 33 2147483647) HT_ ?_
    refine pu_ 31 (some 46) (mkB 33 4294967295) HT_ ?_
    refine pr_ 32 (some 47) (mkB 33 8589934591) HT_ ?_
    refine done_ (done_of HT_.out (by kernel_rfl)) ?_
    try go_wp2
    go_ret
    exact ⟨by first | rfl | (simp [errW_none, errW_some] <;> rfl) | (simp [*, errW_none, errW_some] <;> rfl), by repeat (first | (with_reducible first | exact HB.out | apply below_alloc | apply pw_below_drewN | apply below_drew1 | refine below_set ?_ GE103.out) | exact HB.out)⟩
   subst c5
   have H1 : ((dropperref02_from.f (-10000) ((rd_T72 l0 x3_1).f1) 10000).bind fun t105 => (if t105 = true then ((dropperref02_from.f ((rd_T72 l0 x3_1).f1) ((rd_T72 l0 x3_1).f2) 10000).bind fun t106 => (if t106 = true then (if x3_1 > 0 then (if 0 ≤ (wrap64 (x3_1 - 1)) then (if (wrap64 (x3_1 - 1)) < (l0.length : Int) then (if ((rd_T72 l0 x3_1).f0) ≤ ((rd_T72 l0 (wrap64 (x3_1 - 1))).f0) then (some false) else (dropperref02_Valid.l0 k1 l0 (wrap64 (x3_1 + 1)))) else (none)) else (none)) else (dropperref02_Valid.l0 k1 l0 (wrap64 (x3_1 + 1)))) else (some false))) else (some false))) = some r := by rw [if_pos rfl] at H; exact H
   clear H
   have H := H1
   clear H1
   replace H := Option.bind_eq_some_iff.mp H
   obtain ⟨t105, A60, H⟩ := H
   replace H : (if t105 = true then ((dropperref02_from.f ((rd_T72 l0 x3_1).f1) ((rd_T72 l0 x3_1).f2) 10000).bind fun t106 => (if t106 = true then (if x3_1 > 0 then (if 0 ≤ (wrap64 (x3_1 - 1)) then (if (wrap64 (x3_1 - 1)) < (l0.length : Int) then (if ((rd_T72 l0 x3_1).f0) ≤ ((rd_T72 l0 (wrap64 (x3_1 - 1))).f0) then (some false) else (dropperref02_Valid.l0 k1 l0 (wrap64 (x3_1 + 1)))) else (none)) else (none)) else (dropperref02_Valid.l0 k1 l0 (wrap64 (x3_1 + 1)))) else (some false))) else (some false)) = some r := H
   have A6 := A_ A60
   clear A60
   by_cases c7 : t105 = true
   rotate_left
   ·replace c7 := Bool.eq_false_iff.mpr c7
    subst c7
    have H1 : (some false) = some r := by rw [if_neg (show ¬ (false = true) by decide)] at H; exact H
    clear H
    have H := H1
    clear H1
    obtain rfl := Option.some.inj H
    have p102 : 0 ≤ (x3_1 : Int) := of_decide_eq_true (by first | (with_reducible assumption) | assumption)
    have q102 : x3_1 < (l0.length : Int) := of_decide_eq_true (by first | (with_reducible assumption) | assumption)
    obtain ⟨ad102, e102, hx102_0, hx102_1, hx102_2⟩ := at_T72 HR0.out x3_1 p102 q102
    cases e102
    replace hx102_0 := (HB.out.cell (World.block_lt_of_cell? w _ hx102_0)).trans hx102_0
    replace hx102_1 := (HB.out.cell (World.block_lt_of_cell? w _ hx102_1)).trans hx102_1
    replace hx102_2 := (HB.out.cell (World.block_lt_of_cell? w _ hx102_2)).trans hx102_2
    replace p102 := eq_true p102
    replace q102 := eq_true q102
    try go_wp2_with (first | ((with_reducible refine gate_dst (N := 4) rfl ?_); refine box_event ?hg (N := 4) ?hd (cs := #[.int .i64 0, .int .i64 0, .int .i64 0]) (t := 72) ?hr ?_; (case hd => rfl); (case hg => rfl); (case hr => first | (go_simp; done) | (go_simp; rfl)); intro gb103 hg w31 hbox hb; have n0_ := A_ (below_step (bW0 HB.out) hb); have n1_ := A_ (hbox); have n2_ := A_ ((szG hg (bW0 HB.out))); have n3_ := A_ ((szG hg (bW0 HB.out))); clear HB; have HB := n0_; have BK103 := n1_; have GW103 := n2_; have GE103 := n3_; clear n0_ n1_ n2_ n3_; clear hb hbox hg; have hcz32_0 : w31.cell? ⟨gb103, 0, none⟩ = some (.int .i64 0) := (blk_cell BK103.out 0).trans rfl; have hcz32_1 : w31.cell? ⟨gb103, 1, none⟩ = some (.int .i64 0) := (blk_cell BK103.out 1).trans rfl; have hcz32_2 : w31.cell? ⟨gb103, 2, none⟩ = some (.int .i64 0) := (blk_cell BK103.out 2).trans rfl; have hfz32_0 := blk_frozen BK103.out 0; have hfz32_1 := blk_frozen BK103.out 1; have hfz32_2 := blk_frozen BK103.out 2))
    have n0_ : Aside0 ((((w31.setCell ⟨gb103, 0, none⟩ (.int .i64 ((rd_T72 l0 x3_1).f0))).setCell ⟨gb103, 1, none⟩ (.int .i64 ((rd_T72 l0 x3_1).f1))).setCell ⟨gb103, 2, none⟩ (.int .i64 ((rd_T72 l0 x3_1).f2))).heap[gb103]? = some (.cells #[.int .i64 ((rd_T72 l0 x3_1).f0), .int .i64 ((rd_T72 l0 x3_1).f1), .int .i64 ((rd_T72 l0 x3_1).f2)] 72 (0, 0))) := ⟨by (with_reducible repeat (first | refine blk_drewN ?_ _ | refine blk_drew ?_ | refine blk_alloc ?_ _)); refine blk_put (cs := #[.int .i64 ((rd_T72 l0 x3_1).f0), .int .i64 ((rd_T72 l0 x3_1).f1), .int .i64 0]) ?_ 2 _ rfl; (with_reducible repeat (first | refine blk_drewN ?_ _ | refine blk_drew ?_ | refine blk_alloc ?_ _)); refine blk_put (cs := #[.int .i64 ((rd_T72 l0 x3_1).f0), .int .i64 0, .int .i64 0]) ?_ 1 _ rfl; (with_reducible repeat (first | refine blk_drewN ?_ _ | refine blk_drew ?_ | refine blk_alloc ?_ _)); refine blk_put (cs := #[.int .i64 0, .int .i64 0, .int .i64 0]) ?_ 0 _ rfl; exact bkU BK103⟩
    have n1_ : Aside0 (Below w.heap.size w (((w31.setCell ⟨gb103, 0, none⟩ (.int .i64 ((rd_T72 l0 x3_1).f0))).setCell ⟨gb103, 1, none⟩ (.int .i64 ((rd_T72 l0 x3_1).f1))).setCell ⟨gb103, 2, none⟩ (.int .i64 ((rd_T72 l0 x3_1).f2)))) := ⟨by repeat (first | (with_reducible first | exact HB.out | apply below_alloc | apply pw_below_drewN | apply below_drew1 | refine below_set ?_ GE103.out) | exact HB.out)⟩
    (try clear BK103)
    (try clear HB)
    generalize (((w31.setCell ⟨gb103, 0, none⟩ (.int .i64 ((rd_T72 l0 x3_1).f0))).setCell ⟨gb103, 1, none⟩ (.int .i64 ((rd_T72 l0 x3_1).f1))).setCell ⟨gb103, 2, none⟩ (.int .i64 ((rd_T72 l0 x3_1).f2))) = w33 at n0_ n1_ ⊢
    have BK103 := n0_
    have HB := n1_
    clear n0_ n1_
    have n0_ := A_ (blk_drew BK103.out)
    have n1_ := A_ (below_drew1 HB.out)
    clear BK103
    clear HB
    have BK103 := n0_
    have HB := n1_
    clear n0_ n1_
    refine start_ (n := 33) (S := fun w' => w'.cell? ⟨gb103, 0, none⟩ = some (.int .i64 ((rd_T72 l0 x3_1).f0)) ∧ w'.cell? ⟨gb103, 1, none⟩ = some (.int .i64 ((rd_T72 l0 x3_1).f1)) ∧ w'.cell? ⟨gb103, 2, none⟩ = some (.int .i64 ((rd_T72 l0 x3_1).f2))) (ds := []) (mkB 33 0) (by kernel_rfl) rfl rfl ⟨(blk_cell BK103.out 0).trans rfl, (blk_cell BK103.out 1).trans rfl, (blk_cell BK103.out 2).trans rfl⟩ (fun hHeld => ?_); refine with_tabW dropperref02_Valid.tab5 dropperref02_Valid.bits5 (fun HT_ HW_ => ?_)
    generalize w33.drew = w34 at BK103 HB hHeld ⊢
    refine pr_ 0 (some 15) (mkB 33 1) HT_ ?_
    refine take_ (i := 1) (N := some 16) (v := ?_) (a' := ?_) (mkB 33 3) rfl rfl (take_ofW HT_.out HW_.out (by kernel_rfl)) (fun _ _ _ h => h) (Or.inl ⟨by rfl, ?_⟩) hHeld ?_ ?_
    rotate_left
    ·rintro w' ⟨s0, s1, s2⟩
     go_simp
     with_reducible rfl
    rotate_left
    ·simp only [Act.put, List.setIfInBounds_toArray, List.set_cons_zero, List.set_cons_succ, i64_w, i32_w]
     rfl
    refine one_ (i := 2) (N := some 17) (mkB 33 7) rfl rfl (one_of HT_.out (by kernel_rfl)) (by decide) (fun K hK => ?_)
    refine goes_ Try.func57 (by kernel_rfl) rfl #[.int .i64 0, .int .i64 ((rd_T72 l0 x3_1).f0), .int .i64 100000] (by rfl) rfl rfl (by (try simp only [List.map_toArray, List.map_cons, List.map_nil]); first | done | rfl | (simp only [List.length_drop, List.length_take]; rfl)) ?_
    with_reducible refine (dropperref02_from.calls 0 ((rd_T72 l0 x3_1).f0) 100000 true _ A4.out).mono ?_
    rintro e w' ⟨rfl, ⟨nd, rfl⟩⟩
    refine ⟨_, rfl, ?_⟩
    refine hK.out _ _ ⟨(blk_cell BK103.out 0).trans rfl, (blk_cell BK103.out 1).trans rfl, (blk_cell BK103.out 2).trans rfl⟩ (fun hHeld => ?_)
    clear hK K
    refine norm_ (a' := ?_) ?_ ?_
    rotate_left
    ·show Act.put _ (some 17) _ = _
     simp only [Act.put, List.setIfInBounds_toArray, List.set_cons_zero, List.set_cons_succ, i64_w, i32_w]
     rfl
    refine pr_ 3 (some 18) (mkB 33 15) HT_ ?_
    refine pr_ 4 (some 19) (mkB 33 31) HT_ ?_
    refine pr_ 5 (some 20) (mkB 33 63) HT_ ?_
    refine take_ (i := 6) (N := some 21) (v := ?_) (a' := ?_) (mkB 33 127) rfl rfl (take_ofW HT_.out HW_.out (by kernel_rfl)) (fun _ _ _ h => h) (Or.inl ⟨by rfl, ?_⟩) hHeld ?_ ?_
    rotate_left
    ·rintro w' ⟨s0, s1, s2⟩
     go_simp
     with_reducible rfl
    rotate_left
    ·simp only [Act.put, List.setIfInBounds_toArray, List.set_cons_zero, List.set_cons_succ, i64_w, i32_w]
     rfl
    refine one_ (i := 7) (N := some 22) (mkB 33 255) rfl rfl (one_of HT_.out (by kernel_rfl)) (by decide) (fun K hK => ?_)
    refine goes_ Try.func57 (by kernel_rfl) rfl #[.int .i64 (-10000), .int .i64 ((rd_T72 l0 x3_1).f1), .int .i64 10000] (by rfl) rfl rfl (by (try simp only [List.map_toArray, List.map_cons, List.map_nil]); first | done | rfl | (simp only [List.length_drop, List.length_take]; rfl)) ?_
    with_reducible refine (dropperref02_from.calls (-10000) ((rd_T72 l0 x3_1).f1) 10000 false _ A6.out).mono ?_
    rintro e w' ⟨rfl, ⟨nd, rfl⟩⟩
    refine ⟨_, rfl, ?_⟩
    refine hK.out _ _ ⟨(blk_cell BK103.out 0).trans rfl, (blk_cell BK103.out 1).trans rfl, (blk_cell BK103.out 2).trans rfl⟩ (fun hHeld => ?_)
    clear hK K
    refine norm_ (a' := ?_) ?_ ?_
    rotate_left
    ·show Act.put _ (some 22) _ = _
     simp only [Act.put, List.setIfInBounds_toArray, List.set_cons_zero, List.set_cons_succ, i64_w, i32_w]
     rfl
    refine pr_ 8 (some 23) (mkB 33 511) HT_ ?_
    refine pr_ 9 (some 24) (mkB 33 1023) HT_ ?_
    refine pr_ 10 (some 25) (mkB 33 2047) HT_ ?_
    refine pu_ 11 (some 26) (mkB 33 4095) HT_ ?_
    refine pu_ 12 (some 27) (mkB 33 8191) HT_ ?_
    refine pu_ 13 (some 28) (mkB 33 16383) HT_ ?_
    refine pu_ 14 (some 29) (mkB 33 32767) HT_ ?_
    refine pu_ 15 (some 30) (mkB 33 65535) HT_ ?_
    refine pu_ 16 (some 31) (mkB 33 131071) HT_ ?_
    refine pr_ 17 (some 32) (mkB 33 262143) HT_ ?_
    refine pr_ 18 (some 33) (mkB 33 524287) HT_ ?_
    refine pu_ 19 (some 34) (mkB 33 1048575) HT_ ?_
    refine pu_ 20 (some 35) (mkB 33 2097151) HT_ ?_
    refine pu_ 21 (some 36) (mkB 33 4194303) HT_ ?_
    refine pu_ 22 (some 37) (mkB 33 8388607) HT_ ?_
    refine pu_ 23 (some 38) (mkB 33 16777215) HT_ ?_
    refine pu_ 24 (some 39) (mkB 33 33554431) HT_ ?_
    refine pu_ 25 (some 40) (mkB 33 67108863) HT_ ?_
    refine pu_ 26 (some 41) (mkB 33 134217727) HT_ ?_
    refine pu_ 27 (some 42) (mkB 33 268435455) HT_ ?_
    refine pu_ 28 (some 43) (mkB 33 536870911) HT_ ?_
    refine pu_ 29 (some 44) (mkB 33 1073741823) HT_ ?_
    refine pu_ 30 (some 45) (mkB 33 2147483647) HT_ ?_
    refine pu_ 31 (some 46) (mkB 33 4294967295) HT_ ?_
    refine pr_ 32 (some 47) (mkB 33 8589934591) HT_ ?_
    refine done_ (done_of HT_.out (by kernel_rfl)) ?_
    try go_wp2
    go_ret
    exact ⟨by first | rfl | (simp [errW_none, errW_some] <;> rfl) | (simp [*, errW_none, errW_some] <;> rfl), by repeat (first | (with_reducible first | exact HB.out | apply below_alloc | apply pw_below_drewN | apply below_drew1 | refine below_set ?_ GE103.out) | exact HB.out)⟩
   subst c7
   have H1 : ((dropperref02_from.f ((rd_T72 l0 x3_1).f1) ((rd_T72 l0 x3_1).f2) 10000).bind fun t106 => (if t106 = true then (if x3_1 > 0 then (if 0 ≤ (wrap64 (x3_1 - 1)) then (if (wrap64 (x3_1 - 1)) < (l0.length : Int) then (if ((rd_T72 l0 x3_1).f0) ≤ ((rd_T72 l0 (wrap64 (x3_1 - 1))).f0) then (some false) else (dropperref02_Valid.l0 k1 l0 (wrap64 (x3_1 + 1)))) else (none)) else (none)) else (dropperref02_Valid.l0 k1 l0 (wrap64 (x3_1 + 1)))) else (some false))) = some r := by rw [if_pos rfl] at H; exact H
   clear H
   have H := H1
   clear H1
   replace H := Option.bind_eq_some_iff.mp H
   obtain ⟨t106, A80, H⟩ := H
   replace H : (if t106 = true then (if x3_1 > 0 then (if 0 ≤ (wrap64 (x3_1 - 1)) then (if (wrap64 (x3_1 - 1)) < (l0.length : Int) then (if ((rd_T72 l0 x3_1).f0) ≤ ((rd_T72 l0 (wrap64 (x3_1 - 1))).f0) then (some false) else (dropperref02_Valid.l0 k1 l0 (wrap64 (x3_1 + 1)))) else (none)) else (none)) else (dropperref02_Valid.l0 k1 l0 (wrap64 (x3_1 + 1)))) else (some false)) = some r := H
   have A8 := A_ A80
   clear A80
   by_cases c9 : t106 = true
   rotate_left
   ·replace c9 := Bool.eq_false_iff.mpr c9
    subst c9
    have H1 : (some false) = some r := by rw [if_neg (show ¬ (false = true) by decide)] at H; exact H
    clear H
    have H := H1
    clear H1
    obtain rfl := Option.some.inj H
    have p102 : 0 ≤ (x3_1 : Int) := of_decide_eq_true (by first | (with_reducible assumption) | assumption)
    have q102 : x3_1 < (l0.length : Int) := of_decide_eq_true (by first | (with_reducible assumption) | assumption)
    obtain ⟨ad102, e102, hx102_0, hx102_1, hx102_2⟩ := at_T72 HR0.out x3_1 p102 q102
    cases e102
    replace hx102_0 := (HB.out.cell (World.block_lt_of_cell? w _ hx102_0)).trans hx102_0
    replace hx102_1 := (HB.out.cell (World.block_lt_of_cell? w _ hx102_1)).trans hx102_1
    replace hx102_2 := (HB.out.cell (World.block_lt_of_cell? w _ hx102_2)).trans hx102_2
    replace p102 := eq_true p102
    replace q102 := eq_true q102
    try go_wp2_with (first | ((with_reducible refine gate_dst (N := 4) rfl ?_); refine box_event ?hg (N := 4) ?hd (cs := #[.int .i64 0, .int .i64 0, .int .i64 0]) (t := 72) ?hr ?_; (case hd => rfl); (case hg => rfl); (case hr => first | (go_simp; done) | (go_simp; rfl)); intro gb103 hg w27 hbox hb; have n0_ := A_ (below_step (bW0 HB.out) hb); have n1_ := A_ (hbox); have n2_ := A_ ((szG hg (bW0 HB.out))); have n3_ := A_ ((szG hg (bW0 HB.out))); clear HB; have HB := n0_; have BK103 := n1_; have GW103 := n2_; have GE103 := n3_; clear n0_ n1_ n2_ n3_; clear hb hbox hg; have hcz28_0 : w27.cell? ⟨gb103, 0, none⟩ = some (.int .i64 0) := (blk_cell BK103.out 0).trans rfl; have hcz28_1 : w27.cell? ⟨gb103, 1, none⟩ = some (.int .i64 0) := (blk_cell BK103.out 1).trans rfl; have hcz28_2 : w27.cell? ⟨gb103, 2, none⟩ = some (.int .i64 0) := (blk_cell BK103.out 2).trans rfl; have hfz28_0 := blk_frozen BK103.out 0; have hfz28_1 := blk_frozen BK103.out 1; have hfz28_2 := blk_frozen BK103.out 2))
    have n0_ : Aside0 ((((w27.setCell ⟨gb103, 0, none⟩ (.int .i64 ((rd_T72 l0 x3_1).f0))).setCell ⟨gb103, 1, none⟩ (.int .i64 ((rd_T72 l0 x3_1).f1))).setCell ⟨gb103, 2, none⟩ (.int .i64 ((rd_T72 l0 x3_1).f2))).heap[gb103]? = some (.cells #[.int .i64 ((rd_T72 l0 x3_1).f0), .int .i64 ((rd_T72 l0 x3_1).f1), .int .i64 ((rd_T72 l0 x3_1).f2)] 72 (0, 0))) := ⟨by (with_reducible repeat (first | refine blk_drewN ?_ _ | refine blk_drew ?_ | refine blk_alloc ?_ _)); refine blk_put (cs := #[.int .i64 ((rd_T72 l0 x3_1).f0), .int .i64 ((rd_T72 l0 x3_1).f1), .int .i64 0]) ?_ 2 _ rfl; (with_reducible repeat (first | refine blk_drewN ?_ _ | refine blk_drew ?_ | refine blk_alloc ?_ _)); refine blk_put (cs := #[.int .i64 ((rd_T72 l0 x3_1).f0), .int .i64 0, .int .i64 0]) ?_ 1 _ rfl; (with_reducible repeat (first | refine blk_drewN ?_ _ | refine blk_drew ?_ | refine blk_alloc ?_ _)); refine blk_put (cs := #[.int .i64 0, .int .i64 0, .int .i64 0]) ?_ 0 _ rfl; exact bkU BK103⟩
    have n1_ : Aside0 (Below w.heap.size w (((w27.setCell ⟨gb103, 0, none⟩ (.int .i64 ((rd_T72 l0 x3_1).f0))).setCell ⟨gb103, 1, none⟩ (.int .i64 ((rd_T72 l0 x3_1).f1))).setCell ⟨gb103, 2, none⟩ (.int .i64 ((rd_T72 l0 x3_1).f2)))) := ⟨by repeat (first | (with_reducible first | exact HB.out | apply below_alloc | apply pw_below_drewN | apply below_drew1 | refine below_set ?_ GE103.out) | exact HB.out)⟩
    (try clear BK103)
    (try clear HB)
    generalize (((w27.setCell ⟨gb103, 0, none⟩ (.int .i64 ((rd_T72 l0 x3_1).f0))).setCell ⟨gb103, 1, none⟩ (.int .i64 ((rd_T72 l0 x3_1).f1))).setCell ⟨gb103, 2, none⟩ (.int .i64 ((rd_T72 l0 x3_1).f2))) = w29 at n0_ n1_ ⊢
    have BK103 := n0_
    have HB := n1_
    clear n0_ n1_
    have n0_ := A_ (blk_drew BK103.out)
    have n1_ := A_ (below_drew1 HB.out)
    clear BK103
    clear HB
    have BK103 := n0_
    have HB := n1_
    clear n0_ n1_
    refine start_ (n := 33) (S := fun w' => w'.cell? ⟨gb103, 0, none⟩ = some (.int .i64 ((rd_T72 l0 x3_1).f0)) ∧ w'.cell? ⟨gb103, 1, none⟩ = some (.int .i64 ((rd_T72 l0 x3_1).f1)) ∧ w'.cell? ⟨gb103, 2, none⟩ = some (.int .i64 ((rd_T72 l0 x3_1).f2))) (ds := []) (mkB 33 0) (by kernel_rfl) rfl rfl ⟨(blk_cell BK103.out 0).trans rfl, (blk_cell BK103.out 1).trans rfl, (blk_cell BK103.out 2).trans rfl⟩ (fun hHeld => ?_); refine with_tabW dropperref02_Valid.tab5 dropperref02_Valid.bits5 (fun HT_ HW_ => ?_)
    generalize w29.drew = w30 at BK103 HB hHeld ⊢
    refine pr_ 0 (some 15) (mkB 33 1) HT_ ?_
    refine take_ (i := 1) (N := some 16) (v := ?_) (a' := ?_) (mkB 33 3) rfl rfl (take_ofW HT_.out HW_.out (by kernel_rfl)) (fun _ _ _ h => h) (Or.inl ⟨by rfl, ?_⟩) hHeld ?_ ?_
    rotate_left
    ·rintro w' ⟨s0, s1, s2⟩
     go_simp
     with_reducible rfl
    rotate_left
    ·simp only [Act.put, List.setIfInBounds_toArray, List.set_cons_zero, List.set_cons_succ, i64_w, i32_w]
     rfl
    refine one_ (i := 2) (N := some 17) (mkB 33 7) rfl rfl (one_of HT_.out (by kernel_rfl)) (by decide) (fun K hK => ?_)
    refine goes_ Try.func57 (by kernel_rfl) rfl #[.int .i64 0, .int .i64 ((rd_T72 l0 x3_1).f0), .int .i64 100000] (by rfl) rfl rfl (by (try simp only [List.map_toArray, List.map_cons, List.map_nil]); first | done | rfl | (simp only [List.length_drop, List.length_take]; rfl)) ?_
    with_reducible refine (dropperref02_from.calls 0 ((rd_T72 l0 x3_1).f0) 100000 true _ A4.out).mono ?_
    rintro e w' ⟨rfl, ⟨nd, rfl⟩⟩
    refine ⟨_, rfl, ?_⟩
    refine hK.out _ _ ⟨(blk_cell BK103.out 0).trans rfl, (blk_cell BK103.out 1).trans rfl, (blk_cell BK103.out 2).trans rfl⟩ (fun hHeld => ?_)
    clear hK K
    refine norm_ (a' := ?_) ?_ ?_
    rotate_left
    ·show Act.put _ (some 17) _ = _
     simp only [Act.put, List.setIfInBounds_toArray, List.set_cons_zero, List.set_cons_succ, i64_w, i32_w]
     rfl
    refine pr_ 3 (some 18) (mkB 33 15) HT_ ?_
    refine pr_ 4 (some 19) (mkB 33 31) HT_ ?_
    refine pr_ 5 (some 20) (mkB 33 63) HT_ ?_
    refine take_ (i := 6) (N := some 21) (v := ?_) (a' := ?_) (mkB 33 127) rfl rfl (take_ofW HT_.out HW_.out (by kernel_rfl)) (fun _ _ _ h => h) (Or.inl ⟨by rfl, ?_⟩) hHeld ?_ ?_
    rotate_left
    ·rintro w' ⟨s0, s1, s2⟩
     go_simp
     with_reducible rfl
    rotate_left
    ·simp only [Act.put, List.setIfInBounds_toArray, List.set_cons_zero, List.set_cons_succ, i64_w, i32_w]
     rfl
    refine one_ (i := 7) (N := some 22) (mkB 33 255) rfl rfl (one_of HT_.out (by kernel_rfl)) (by decide) (fun K hK => ?_)
    refine goes_ Try.func57 (by kernel_rfl) rfl #[.int .i64 (-10000), .int .i64 ((rd_T72 l0 x3_1).f1), .int .i64 10000] (by rfl) rfl rfl (by (try simp only [List.map_toArray, List.map_cons, List.map_nil]); first | done | rfl | (simp only [List.length_drop, List.length_take]; rfl)) ?_
    with_reducible refine (dropperref02_from.calls (-10000) ((rd_T72 l0 x3_1).f1) 10000 true _ A6.out).mono ?_
    rintro e w' ⟨rfl, ⟨nd, rfl⟩⟩
    refine ⟨_, rfl, ?_⟩
    refine hK.out _ _ ⟨(blk_cell BK103.out 0).trans rfl, (blk_cell BK103.out 1).trans rfl, (blk_cell BK103.out 2).trans rfl⟩ (fun hHeld => ?_)
    clear hK K
    refine norm_ (a' := ?_) ?_ ?_
    rotate_left
    ·show Act.put _ (some 22) _ = _
     simp only [Act.put, List.setIfInBounds_toArray, List.set_cons_zero, List.set_cons_succ, i64_w, i32_w]
     rfl
    refine pr_ 8 (some 23) (mkB 33 511) HT_ ?_
    refine pr_ 9 (some 24) (mkB 33 1023) HT_ ?_
    refine pr_ 10 (some 25) (mkB 33 2047) HT_ ?_
    refine pr_ 11 (some 26) (mkB 33 4095) HT_ ?_
    refine pr_ 13 (some 28) (mkB 33 12287) HT_ ?_
    refine take_ (i := 12) (N := some 27) (v := ?_) (a' := ?_) (mkB 33 16383) rfl rfl (take_ofW HT_.out HW_.out (by kernel_rfl)) (fun _ _ _ h => h) (Or.inl ⟨by rfl, ?_⟩) hHeld ?_ ?_
    rotate_left
    ·rintro w' ⟨s0, s1, s2⟩
     go_simp
     with_reducible rfl
    rotate_left
    ·simp only [Act.put, List.setIfInBounds_toArray, List.set_cons_zero, List.set_cons_succ, i64_w, i32_w]
     rfl
    refine take_ (i := 14) (N := some 29) (v := ?_) (a' := ?_) (mkB 33 32767) rfl rfl (take_ofW HT_.out HW_.out (by kernel_rfl)) (fun _ _ _ h => h) (Or.inl ⟨by rfl, ?_⟩) hHeld ?_ ?_
    rotate_left
    ·rintro w' ⟨s0, s1, s2⟩
     go_simp
     with_reducible rfl
    rotate_left
    ·simp only [Act.put, List.setIfInBounds_toArray, List.set_cons_zero, List.set_cons_succ, i64_w, i32_w]
     rfl
    refine one_ (i := 15) (N := some 30) (mkB 33 65535) rfl rfl (one_of HT_.out (by kernel_rfl)) (by decide) (fun K hK => ?_)
    refine goes_ Try.func57 (by kernel_rfl) rfl #[.int .i64 ((rd_T72 l0 x3_1).f1), .int .i64 ((rd_T72 l0 x3_1).f2), .int .i64 10000] (by rfl) rfl rfl (by (try simp only [List.map_toArray, List.map_cons, List.map_nil]); first | done | rfl | (simp only [List.length_drop, List.length_take]; rfl)) ?_
    with_reducible refine (dropperref02_from.calls ((rd_T72 l0 x3_1).f1) ((rd_T72 l0 x3_1).f2) 10000 false _ A8.out).mono ?_
    rintro e w' ⟨rfl, ⟨nd, rfl⟩⟩
    refine ⟨_, rfl, ?_⟩
    refine hK.out _ _ ⟨(blk_cell BK103.out 0).trans rfl, (blk_cell BK103.out 1).trans rfl, (blk_cell BK103.out 2).trans rfl⟩ (fun hHeld => ?_)
    clear hK K
    refine norm_ (a' := ?_) ?_ ?_
    rotate_left
    ·show Act.put _ (some 30) _ = _
     simp only [Act.put, List.setIfInBounds_toArray, List.set_cons_zero, List.set_cons_succ, i64_w, i32_w]
     rfl
    refine pr_ 16 (some 31) (mkB 33 131071) HT_ ?_
    refine pr_ 17 (some 32) (mkB 33 262143) HT_ ?_
    refine pr_ 18 (some 33) (mkB 33 524287) HT_ ?_
    refine pu_ 19 (some 34) (mkB 33 1048575) HT_ ?_
    refine pu_ 20 (some 35) (mkB 33 2097151) HT_ ?_
    refine pu_ 21 (some 36) (mkB 33 4194303) HT_ ?_
    refine pu_ 22 (some 37) (mkB 33 8388607) HT_ ?_
    refine pu_ 23 (some 38) (mkB 33 16777215) HT_ ?_
    refine pu_ 24 (some 39) (mkB 33 33554431) HT_ ?_
    refine pu_ 25 (some 40) (mkB 33 67108863) HT_ ?_
    refine pu_ 26 (some 41) (mkB 33 134217727) HT_ ?_
    refine pu_ 27 (some 42) (mkB 33 268435455) HT_ ?_
    refine pu_ 28 (some 43) (mkB 33 536870911) HT_ ?_
    refine pu_ 29 (some 44) (mkB 33 1073741823) HT_ ?_
    refine pu_ 30 (some 45) (mkB 33 2147483647) HT_ ?_
    refine pu_ 31 (some 46) (mkB 33 4294967295) HT_ ?_
    refine pr_ 32 (some 47) (mkB 33 8589934591) HT_ ?_
    refine done_ (done_of HT_.out (by kernel_rfl)) ?_
    try go_wp2
    go_ret
    exact ⟨by first | rfl | (simp [errW_none, errW_some] <;> rfl) | (simp [*, errW_none, errW_some] <;> rfl), by repeat (first | (with_reducible first | exact HB.out | apply below_alloc | apply pw_below_drewN | apply below_drew1 | refine below_set ?_ GE103.out) | exact HB.out)⟩
   subst c9
   have H1 : (if x3_1 > 0 then (if 0 ≤ (wrap64 (x3_1 - 1)) then (if (wrap64 (x3_1 - 1)) < (l0.length : Int) then (if ((rd_T72 l0 x3_1).f0) ≤ ((rd_T72 l0 (wrap64 (x3_1 - 1))).f0) then (some false) else (dropperref02_Valid.l0 k1 l0 (wrap64 (x3_1 + 1)))) else (none)) else (none)) else (dropperref02_Valid.l0 k1 l0 (wrap64 (x3_1 + 1)))) = some r := by rw [if_pos rfl] at H; exact H
   clear H
   have H := H1
   clear H1
   by_cases c10 : x3_1 > 0
   rotate_left
   ·rw [if_neg c10] at H
    have c10b0 : decide (0 < x3_1) = false := decide_eq_false c10
    clear c10
    have H' := A_ H
    clear H
    have p102 : 0 ≤ (x3_1 : Int) := of_decide_eq_true (by first | (with_reducible assumption) | assumption)
    have q102 : x3_1 < (l0.length : Int) := of_decide_eq_true (by first | (with_reducible assumption) | assumption)
    obtain ⟨ad102, e102, hx102_0, hx102_1, hx102_2⟩ := at_T72 HR0.out x3_1 p102 q102
    cases e102
    replace hx102_0 := (HB.out.cell (World.block_lt_of_cell? w _ hx102_0)).trans hx102_0
    replace hx102_1 := (HB.out.cell (World.block_lt_of_cell? w _ hx102_1)).trans hx102_1
    replace hx102_2 := (HB.out.cell (World.block_lt_of_cell? w _ hx102_2)).trans hx102_2
    replace p102 := eq_true p102
    replace q102 := eq_true q102
    try go_wp2_with (first | ((with_reducible refine gate_dst (N := 4) rfl ?_); refine box_event ?hg (N := 4) ?hd (cs := #[.int .i64 0, .int .i64 0, .int .i64 0]) (t := 72) ?hr ?_; (case hd => rfl); (case hg => rfl); (case hr => first | (go_simp; done) | (go_simp; rfl)); intro gb103 hg w23 hbox hb; have n0_ := A_ (below_step (bW0 HB.out) hb); have n1_ := A_ (hbox); have n2_ := A_ ((szG hg (bW0 HB.out))); have n3_ := A_ ((szG hg (bW0 HB.out))); clear HB; have HB := n0_; have BK103 := n1_; have GW103 := n2_; have GE103 := n3_; clear n0_ n1_ n2_ n3_; clear hb hbox hg; have hcz24_0 : w23.cell? ⟨gb103, 0, none⟩ = some (.int .i64 0) := (blk_cell BK103.out 0).trans rfl; have hcz24_1 : w23.cell? ⟨gb103, 1, none⟩ = some (.int .i64 0) := (blk_cell BK103.out 1).trans rfl; have hcz24_2 : w23.cell? ⟨gb103, 2, none⟩ = some (.int .i64 0) := (blk_cell BK103.out 2).trans rfl; have hfz24_0 := blk_frozen BK103.out 0; have hfz24_1 := blk_frozen BK103.out 1; have hfz24_2 := blk_frozen BK103.out 2))
    have n0_ : Aside0 ((((w23.setCell ⟨gb103, 0, none⟩ (.int .i64 ((rd_T72 l0 x3_1).f0))).setCell ⟨gb103, 1, none⟩ (.int .i64 ((rd_T72 l0 x3_1).f1))).setCell ⟨gb103, 2, none⟩ (.int .i64 ((rd_T72 l0 x3_1).f2))).heap[gb103]? = some (.cells #[.int .i64 ((rd_T72 l0 x3_1).f0), .int .i64 ((rd_T72 l0 x3_1).f1), .int .i64 ((rd_T72 l0 x3_1).f2)] 72 (0, 0))) := ⟨by (with_reducible repeat (first | refine blk_drewN ?_ _ | refine blk_drew ?_ | refine blk_alloc ?_ _)); refine blk_put (cs := #[.int .i64 ((rd_T72 l0 x3_1).f0), .int .i64 ((rd_T72 l0 x3_1).f1), .int .i64 0]) ?_ 2 _ rfl; (with_reducible repeat (first | refine blk_drewN ?_ _ | refine blk_drew ?_ | refine blk_alloc ?_ _)); refine blk_put (cs := #[.int .i64 ((rd_T72 l0 x3_1).f0), .int .i64 0, .int .i64 0]) ?_ 1 _ rfl; (with_reducible repeat (first | refine blk_drewN ?_ _ | refine blk_drew ?_ | refine blk_alloc ?_ _)); refine blk_put (cs := #[.int .i64 0, .int .i64 0, .int .i64 0]) ?_ 0 _ rfl; exact bkU BK103⟩
    have n1_ : Aside0 (Below w.heap.size w (((w23.setCell ⟨gb103, 0, none⟩ (.int .i64 ((rd_T72 l0 x3_1).f0))).setCell ⟨gb103, 1, none⟩ (.int .i64 ((rd_T72 l0 x3_1).f1))).setCell ⟨gb103, 2, none⟩ (.int .i64 ((rd_T72 l0 x3_1).f2)))) := ⟨by repeat (first | (with_reducible first | exact HB.out | apply below_alloc | apply pw_below_drewN | apply below_drew1 | refine below_set ?_ GE103.out) | exact HB.out)⟩
    (try clear BK103)
    (try clear HB)
    generalize (((w23.setCell ⟨gb103, 0, none⟩ (.int .i64 ((rd_T72 l0 x3_1).f0))).setCell ⟨gb103, 1, none⟩ (.int .i64 ((rd_T72 l0 x3_1).f1))).setCell ⟨gb103, 2, none⟩ (.int .i64 ((rd_T72 l0 x3_1).f2))) = w25 at n0_ n1_ ⊢
    have BK103 := n0_
    have HB := n1_
    clear n0_ n1_
    have n0_ := A_ (blk_drew BK103.out)
    have n1_ := A_ (below_drew1 HB.out)
    clear BK103
    clear HB
    have BK103 := n0_
    have HB := n1_
    clear n0_ n1_
    refine start_ (n := 33) (S := fun w' => w'.cell? ⟨gb103, 0, none⟩ = some (.int .i64 ((rd_T72 l0 x3_1).f0)) ∧ w'.cell? ⟨gb103, 1, none⟩ = some (.int .i64 ((rd_T72 l0 x3_1).f1)) ∧ w'.cell? ⟨gb103, 2, none⟩ = some (.int .i64 ((rd_T72 l0 x3_1).f2))) (ds := []) (mkB 33 0) (by kernel_rfl) rfl rfl ⟨(blk_cell BK103.out 0).trans rfl, (blk_cell BK103.out 1).trans rfl, (blk_cell BK103.out 2).trans rfl⟩ (fun hHeld => ?_); refine with_tabW dropperref02_Valid.tab5 dropperref02_Valid.bits5 (fun HT_ HW_ => ?_)
    generalize w25.drew = w26 at BK103 HB hHeld ⊢
    refine pr_ 0 (some 15) (mkB 33 1) HT_ ?_
    refine take_ (i := 1) (N := some 16) (v := ?_) (a' := ?_) (mkB 33 3) rfl rfl (take_ofW HT_.out HW_.out (by kernel_rfl)) (fun _ _ _ h => h) (Or.inl ⟨by rfl, ?_⟩) hHeld ?_ ?_
    rotate_left
    ·rintro w' ⟨s0, s1, s2⟩
     go_simp
     with_reducible rfl
    rotate_left
    ·simp only [Act.put, List.setIfInBounds_toArray, List.set_cons_zero, List.set_cons_succ, i64_w, i32_w]
     rfl
    refine one_ (i := 2) (N := some 17) (mkB 33 7) rfl rfl (one_of HT_.out (by kernel_rfl)) (by decide) (fun K hK => ?_)
    refine goes_ Try.func57 (by kernel_rfl) rfl #[.int .i64 0, .int .i64 ((rd_T72 l0 x3_1).f0), .int .i64 100000] (by rfl) rfl rfl (by (try simp only [List.map_toArray, List.map_cons, List.map_nil]); first | done | rfl | (simp only [List.length_drop, List.length_take]; rfl)) ?_
    with_reducible refine (dropperref02_from.calls 0 ((rd_T72 l0 x3_1).f0) 100000 true _ A4.out).mono ?_
    rintro e w' ⟨rfl, ⟨nd, rfl⟩⟩
    refine ⟨_, rfl, ?_⟩
    refine hK.out _ _ ⟨(blk_cell BK103.out 0).trans rfl, (blk_cell BK103.out 1).trans rfl, (blk_cell BK103.out 2).trans rfl⟩ (fun hHeld => ?_)
    clear hK K
    refine norm_ (a' := ?_) ?_ ?_
    rotate_left
    ·show Act.put _ (some 17) _ = _
     simp only [Act.put, List.setIfInBounds_toArray, List.set_cons_zero, List.set_cons_succ, i64_w, i32_w]
     rfl
    refine pr_ 3 (some 18) (mkB 33 15) HT_ ?_
    refine pr_ 4 (some 19) (mkB 33 31) HT_ ?_
    refine pr_ 5 (some 20) (mkB 33 63) HT_ ?_
    refine take_ (i := 6) (N := some 21) (v := ?_) (a' := ?_) (mkB 33 127) rfl rfl (take_ofW HT_.out HW_.out (by kernel_rfl)) (fun _ _ _ h => h) (Or.inl ⟨by rfl, ?_⟩) hHeld ?_ ?_
    rotate_left
    ·rintro w' ⟨s0, s1, s2⟩
     go_simp
     with_reducible rfl
    rotate_left
    ·simp only [Act.put, List.setIfInBounds_toArray, List.set_cons_zero, List.set_cons_succ, i64_w, i32_w]
     rfl
    refine one_ (i := 7) (N := some 22) (mkB 33 255) rfl rfl (one_of HT_.out (by kernel_rfl)) (by decide) (fun K hK => ?_)
    refine goes_ Try.func57 (by kernel_rfl) rfl #[.int .i64 (-10000), .int .i64 ((rd_T72 l0 x3_1).f1), .int .i64 10000] (by rfl) rfl rfl (by (try simp only [List.map_toArray, List.map_cons, List.map_nil]); first | done | rfl | (simp only [List.length_drop, List.length_take]; rfl)) ?_
    with_reducible refine (dropperref02_from.calls (-10000) ((rd_T72 l0 x3_1).f1) 10000 true _ A6.out).mono ?_
    rintro e w' ⟨rfl, ⟨nd, rfl⟩⟩
    refine ⟨_, rfl, ?_⟩
    refine hK.out _ _ ⟨(blk_cell BK103.out 0).trans rfl, (blk_cell BK103.out 1).trans rfl, (blk_cell BK103.out 2).trans rfl⟩ (fun hHeld => ?_)
    clear hK K
    refine norm_ (a' := ?_) ?_ ?_
    rotate_left
    ·show Act.put _ (some 22) _ = _
     simp only [Act.put, List.setIfInBounds_toArray, List.set_cons_zero, List.set_cons_succ, i64_w, i32_w]
     rfl
    refine pr_ 8 (some 23) (mkB 33 511) HT_ ?_
    refine pr_ 9 (some 24) (mkB 33 1023) HT_ ?_
    refine pr_ 10 (some 25) (mkB 33 2047) HT_ ?_
    refine pr_ 11 (some 26) (mkB 33 4095) HT_ ?_
    refine pr_ 13 (some 28) (mkB 33 12287) HT_ ?_
    refine take_ (i := 12) (N := some 27) (v := ?_) (a' := ?_) (mkB 33 16383) rfl rfl (take_ofW HT_.out HW_.out (by kernel_rfl)) (fun _ _ _ h => h) (Or.inl ⟨by rfl, ?_⟩) hHeld ?_ ?_
    rotate_left
    ·rintro w' ⟨s0, s1, s2⟩
     go_simp
     with_reducible rfl
    rotate_left
    ·simp only [Act.put, List.setIfInBounds_toArray, List.set_cons_zero, List.set_cons_succ, i64_w, i32_w]
     rfl
    refine take_ (i := 14) (N := some 29) (v := ?_) (a' := ?_) (mkB 33 32767) rfl rfl (take_ofW HT_.out HW_.out (by kernel_rfl)) (fun _ _ _ h => h) (Or.inl ⟨by rfl, ?_⟩) hHeld ?_ ?_
    rotate_left
    ·rintro w' ⟨s0, s1, s2⟩
     go_simp
     with_reducible rfl
    rotate_left
    ·simp only [Act.put, List.setIfInBounds_toArray, List.set_cons_zero, List.set_cons_succ, i64_w, i32_w]
     rfl
    refine one_ (i := 15) (N := some 30) (mkB 33 65535) rfl rfl (one_of HT_.out (by kernel_rfl)) (by decide) (fun K hK => ?_)
    refine goes_ Try.func57 (by kernel_rfl) rfl #[.int .i64 ((rd_T72 l0 x3_1).f1), .int .i64 ((rd_T72 l0 x3_1).f2), .int .i64 10000] (by rfl) rfl rfl (by (try simp only [List.map_toArray, List.map_cons, List.map_nil]); first | done | rfl | (simp only [List.length_drop, List.length_take]; rfl)) ?_
    with_reducible refine (dropperref02_from.calls ((rd_T72 l0 x3_1).f1) ((rd_T72 l0 x3_1).f2) 10000 true _ A8.out).mono ?_
    rintro e w' ⟨rfl, ⟨nd, rfl⟩⟩
    refine ⟨_, rfl, ?_⟩
    refine hK.out _ _ ⟨(blk_cell BK103.out 0).trans rfl, (blk_cell BK103.out 1).trans rfl, (blk_cell BK103.out 2).trans rfl⟩ (fun hHeld => ?_)
    clear hK K
    refine norm_ (a' := ?_) ?_ ?_
    rotate_left
    ·show Act.put _ (some 30) _ = _
     simp only [Act.put, List.setIfInBounds_toArray, List.set_cons_zero, List.set_cons_succ, i64_w, i32_w]
     rfl
    refine pr_ 16 (some 31) (mkB 33 131071) HT_ ?_
    refine pr_ 17 (some 32) (mkB 33 262143) HT_ ?_
    refine pr_ 18 (some 33) (mkB 33 524287) HT_ ?_
    refine pr_ 19 (some 34) (mkB 33 1048575) HT_ ?_
    refine pr_ 20 (some 35) (mkB 33 2097151) HT_ ?_
    refine pr_ 21 (some 36) (mkB 33 4194303) HT_ ?_
    refine pu_ 22 (some 37) (mkB 33 8388607) HT_ ?_
    refine pu_ 23 (some 38) (mkB 33 16777215) HT_ ?_
    refine pu_ 24 (some 39) (mkB 33 33554431) HT_ ?_
    refine pu_ 25 (some 40) (mkB 33 67108863) HT_ ?_
    refine pu_ 26 (some 41) (mkB 33 134217727) HT_ ?_
    refine pu_ 27 (some 42) (mkB 33 268435455) HT_ ?_
    refine pu_ 28 (some 43) (mkB 33 536870911) HT_ ?_
    refine pu_ 29 (some 44) (mkB 33 1073741823) HT_ ?_
    refine pu_ 30 (some 45) (mkB 33 2147483647) HT_ ?_
    refine pr_ 31 (some 46) (mkB 33 4294967295) HT_ ?_
    refine pr_ 32 (some 47) (mkB 33 8589934591) HT_ ?_
    refine done_ (done_of HT_.out (by kernel_rfl)) ?_
    try go_wp2
    go_roundg k1
    case measure => have := HK1.out; omega
    case rel => exact ⟨(wrap64 (x3_1 + 1)), (by first | rfl | (simp; done) | (simp [*]; done)), H', ⟨by have := HK1.out; omega⟩, ⟨by repeat (first | (with_reducible first | exact HB.out | apply below_alloc | apply pw_below_drewN | apply below_drew1 | refine below_set ?_ GE103.out) | exact HB.out)⟩⟩
   rw [if_pos c10] at H
   have c10b0 : decide (0 < x3_1) = true := decide_eq_true c10
   clear c10
   obtain ⟨ji11, hji11⟩ : ∃ j_ : Int, (wrap64 (x3_1 - 1)) = j_ := ⟨_, rfl⟩
   replace H : (if 0 ≤ (ji11) then (if (ji11) < (l0.length : Int) then (if ((rd_T72 l0 x3_1).f0) ≤ ((rd_T72 l0 (ji11)).f0) then (some false) else (dropperref02_Valid.l0 k1 l0 (wrap64 (x3_1 + 1)))) else (none)) else (none)) = some r := by first | (rw [hji11] at H; exact H) | (simp only [hji11] at H ⊢; exact H)
   (try rw [hji11] at A4)
   (try rw [hji11] at A6)
   (try rw [hji11] at A8)
   have hji11w : (IntKind.i64.wrap (x3_1 - 1)) = ji11 := (i64_w _).trans hji11
   by_cases c12 : 0 ≤ (ji11)
   rotate_left
   ·rw [if_neg c12] at H
    exact absurd H (by simp)
   rw [if_pos c12] at H
   have c12b0 : decide (0 ≤ (ji11)) = true := decide_eq_true c12
   clear c12
   by_cases c13 : (ji11) < (l0.length : Int)
   rotate_left
   ·rw [if_neg c13] at H
    exact absurd H (by simp)
   rw [if_pos c13] at H
   have c13b0 : decide ((ji11) < (l0.length : Int)) = true := decide_eq_true c13
   clear c13
   by_cases c14 : ((rd_T72 l0 x3_1).f0) ≤ ((rd_T72 l0 (ji11)).f0)
   ·rw [if_pos c14] at H
    have c14b0 : decide (((rd_T72 l0 x3_1).f0) ≤ ((rd_T72 l0 (ji11)).f0)) = true := decide_eq_true c14
    clear c14
    obtain rfl := Option.some.inj H
    have p102 : 0 ≤ (x3_1 : Int) := of_decide_eq_true (by first | (with_reducible assumption) | assumption)
    have q102 : x3_1 < (l0.length : Int) := of_decide_eq_true (by first | (with_reducible assumption) | assumption)
    obtain ⟨ad102, e102, hx102_0, hx102_1, hx102_2⟩ := at_T72 HR0.out x3_1 p102 q102
    cases e102
    replace hx102_0 := (HB.out.cell (World.block_lt_of_cell? w _ hx102_0)).trans hx102_0
    replace hx102_1 := (HB.out.cell (World.block_lt_of_cell? w _ hx102_1)).trans hx102_1
    replace hx102_2 := (HB.out.cell (World.block_lt_of_cell? w _ hx102_2)).trans hx102_2
    replace p102 := eq_true p102
    replace q102 := eq_true q102
    try go_wp2_with (first | ((with_reducible refine gate_dst (N := 4) rfl ?_); refine box_event ?hg (N := 4) ?hd (cs := #[.int .i64 0, .int .i64 0, .int .i64 0]) (t := 72) ?hr ?_; (case hd => rfl); (case hg => rfl); (case hr => first | (go_simp; done) | (go_simp; rfl)); intro gb103 hg w15 hbox hb; have n0_ := A_ (below_step (bW0 HB.out) hb); have n1_ := A_ (hbox); have n2_ := A_ ((szG hg (bW0 HB.out))); have n3_ := A_ ((szG hg (bW0 HB.out))); clear HB; have HB := n0_; have BK103 := n1_; have GW103 := n2_; have GE103 := n3_; clear n0_ n1_ n2_ n3_; clear hb hbox hg; have hcz16_0 : w15.cell? ⟨gb103, 0, none⟩ = some (.int .i64 0) := (blk_cell BK103.out 0).trans rfl; have hcz16_1 : w15.cell? ⟨gb103, 1, none⟩ = some (.int .i64 0) := (blk_cell BK103.out 1).trans rfl; have hcz16_2 : w15.cell? ⟨gb103, 2, none⟩ = some (.int .i64 0) := (blk_cell BK103.out 2).trans rfl; have hfz16_0 := blk_frozen BK103.out 0; have hfz16_1 := blk_frozen BK103.out 1; have hfz16_2 := blk_frozen BK103.out 2))
    have n0_ : Aside0 ((((w15.setCell ⟨gb103, 0, none⟩ (.int .i64 ((rd_T72 l0 x3_1).f0))).setCell ⟨gb103, 1, none⟩ (.int .i64 ((rd_T72 l0 x3_1).f1))).setCell ⟨gb103, 2, none⟩ (.int .i64 ((rd_T72 l0 x3_1).f2))).heap[gb103]? = some (.cells #[.int .i64 ((rd_T72 l0 x3_1).f0), .int .i64 ((rd_T72 l0 x3_1).f1), .int .i64 ((rd_T72 l0 x3_1).f2)] 72 (0, 0))) := ⟨by (with_reducible repeat (first | refine blk_drewN ?_ _ | refine blk_drew ?_ | refine blk_alloc ?_ _)); refine blk_put (cs := #[.int .i64 ((rd_T72 l0 x3_1).f0), .int .i64 ((rd_T72 l0 x3_1).f1), .int .i64 0]) ?_ 2 _ rfl; (with_reducible repeat (first | refine blk_drewN ?_ _ | refine blk_drew ?_ | refine blk_alloc ?_ _)); refine blk_put (cs := #[.int .i64 ((rd_T72 l0 x3_1).f0), .int .i64 0, .int .i64 0]) ?_ 1 _ rfl; (with_reducible repeat (first | refine blk_drewN ?_ _ | refine blk_drew ?_ | refine blk_alloc ?_ _)); refine blk_put (cs := #[.int .i64 0, .int .i64 0, .int .i64 0]) ?_ 0 _ rfl; exact bkU BK103⟩
    have n1_ : Aside0 (Below w.heap.size w (((w15.setCell ⟨gb103, 0, none⟩ (.int .i64 ((rd_T72 l0 x3_1).f0))).setCell ⟨gb103, 1, none⟩ (.int .i64 ((rd_T72 l0 x3_1).f1))).setCell ⟨gb103, 2, none⟩ (.int .i64 ((rd_T72 l0 x3_1).f2)))) := ⟨by repeat (first | (with_reducible first | exact HB.out | apply below_alloc | apply pw_below_drewN | apply below_drew1 | refine below_set ?_ GE103.out) | exact HB.out)⟩
    (try clear BK103)
    (try clear HB)
    generalize (((w15.setCell ⟨gb103, 0, none⟩ (.int .i64 ((rd_T72 l0 x3_1).f0))).setCell ⟨gb103, 1, none⟩ (.int .i64 ((rd_T72 l0 x3_1).f1))).setCell ⟨gb103, 2, none⟩ (.int .i64 ((rd_T72 l0 x3_1).f2))) = w17 at n0_ n1_ ⊢
    have BK103 := n0_
    have HB := n1_
    clear n0_ n1_
    have n0_ := A_ (blk_drew BK103.out)
    have n1_ := A_ (below_drew1 HB.out)
    clear BK103
    clear HB
    have BK103 := n0_
    have HB := n1_
    clear n0_ n1_
    have p107 : 0 ≤ ((ji11) : Int) := of_decide_eq_true (by first | (with_reducible assumption) | assumption)
    have q107 : (ji11) < (l0.length : Int) := of_decide_eq_true (by first | (with_reducible assumption) | assumption)
    obtain ⟨ad107, e107, hx107_0, hx107_1, hx107_2⟩ := at_T72 HR0.out (ji11) p107 q107
    have hw107_2 := hx107_2
    have hw107_1 := hx107_1
    have hw107_0 := hx107_0
    obtain rfl : ad102 = ad107 := (by injection e107)
    replace hx107_0 := (HB.out.cell (World.block_lt_of_cell? w _ hx107_0)).trans hx107_0
    replace hx107_1 := (HB.out.cell (World.block_lt_of_cell? w _ hx107_1)).trans hx107_1
    replace hx107_2 := (HB.out.cell (World.block_lt_of_cell? w _ hx107_2)).trans hx107_2
    replace p107 := eq_true p107
    replace q107 := eq_true q107
    refine start_ (n := 33) (S := fun w' => w'.cell? ⟨gb103, 0, none⟩ = some (.int .i64 ((rd_T72 l0 x3_1).f0)) ∧ w'.cell? ⟨gb103, 1, none⟩ = some (.int .i64 ((rd_T72 l0 x3_1).f1)) ∧ w'.cell? ⟨gb103, 2, none⟩ = some (.int .i64 ((rd_T72 l0 x3_1).f2)) ∧ w'.cell? (ad102.add (((ji11)).toNat * 3)) = some (.int .i64 ((rd_T72 l0 (ji11)).f0)) ∧ w'.cell? ⟨(ad102.add (((ji11)).toNat * 3)).block, (ad102.add (((ji11)).toNat * 3)).off + 1, none⟩ = some (.int .i64 ((rd_T72 l0 (ji11)).f1)) ∧ w'.cell? ⟨(ad102.add (((ji11)).toNat * 3)).block, (ad102.add (((ji11)).toNat * 3)).off + 2, none⟩ = some (.int .i64 ((rd_T72 l0 (ji11)).f2))) (ds := []) (mkB 33 0) (by kernel_rfl) rfl rfl ⟨(blk_cell BK103.out 0).trans rfl, (blk_cell BK103.out 1).trans rfl, (blk_cell BK103.out 2).trans rfl, (pw_cell_below HB.out hw107_0), (pw_cell_below HB.out hw107_1), (pw_cell_below HB.out hw107_2)⟩ (fun hHeld => ?_); refine with_tabW dropperref02_Valid.tab5 dropperref02_Valid.bits5 (fun HT_ HW_ => ?_)
    generalize w17.drew = w18 at BK103 HB hx107_0 hx107_1 hx107_2 hHeld ⊢
    refine pr_ 0 (some 15) (mkB 33 1) HT_ ?_
    refine take_ (i := 1) (N := some 16) (v := ?_) (a' := ?_) (mkB 33 3) rfl rfl (take_ofW HT_.out HW_.out (by kernel_rfl)) (fun _ _ _ h => h) (Or.inl ⟨by rfl, ?_⟩) hHeld ?_ ?_
    rotate_left
    ·rintro w' ⟨s0, s1, s2, s3, s4, s5⟩
     go_simp
     with_reducible rfl
    rotate_left
    ·simp only [Act.put, List.setIfInBounds_toArray, List.set_cons_zero, List.set_cons_succ, i64_w, i32_w]
     rfl
    refine one_ (i := 2) (N := some 17) (mkB 33 7) rfl rfl (one_of HT_.out (by kernel_rfl)) (by decide) (fun K hK => ?_)
    refine goes_ Try.func57 (by kernel_rfl) rfl #[.int .i64 0, .int .i64 ((rd_T72 l0 x3_1).f0), .int .i64 100000] (by rfl) rfl rfl (by (try simp only [List.map_toArray, List.map_cons, List.map_nil]); first | done | rfl | (simp only [List.length_drop, List.length_take]; rfl)) ?_
    with_reducible refine (dropperref02_from.calls 0 ((rd_T72 l0 x3_1).f0) 100000 true _ A4.out).mono ?_
    rintro e w' ⟨rfl, ⟨nd, rfl⟩⟩
    refine ⟨_, rfl, ?_⟩
    refine hK.out _ _ ⟨(blk_cell BK103.out 0).trans rfl, (blk_cell BK103.out 1).trans rfl, (blk_cell BK103.out 2).trans rfl, (pw_cell_below HB.out hw107_0), (pw_cell_below HB.out hw107_1), (pw_cell_below HB.out hw107_2)⟩ (fun hHeld => ?_)
    clear hK K
    refine norm_ (a' := ?_) ?_ ?_
    rotate_left
    ·show Act.put _ (some 17) _ = _
     simp only [Act.put, List.setIfInBounds_toArray, List.set_cons_zero, List.set_cons_succ, i64_w, i32_w]
     rfl
    refine pr_ 3 (some 18) (mkB 33 15) HT_ ?_
    refine pr_ 4 (some 19) (mkB 33 31) HT_ ?_
    refine pr_ 5 (some 20) (mkB 33 63) HT_ ?_
    refine take_ (i := 6) (N := some 21) (v := ?_) (a' := ?_) (mkB 33 127) rfl rfl (take_ofW HT_.out HW_.out (by kernel_rfl)) (fun _ _ _ h => h) (Or.inl ⟨by rfl, ?_⟩) hHeld ?_ ?_
    rotate_left
    ·rintro w' ⟨s0, s1, s2, s3, s4, s5⟩
     go_simp
     with_reducible rfl
    rotate_left
    ·simp only [Act.put, List.setIfInBounds_toArray, List.set_cons_zero, List.set_cons_succ, i64_w, i32_w]
     rfl
    refine one_ (i := 7) (N := some 22) (mkB 33 255) rfl rfl (one_of HT_.out (by kernel_rfl)) (by decide) (fun K hK => ?_)
    refine goes_ Try.func57 (by kernel_rfl) rfl #[.int .i64 (-10000), .int .i64 ((rd_T72 l0 x3_1).f1), .int .i64 10000] (by rfl) rfl rfl (by (try simp only [List.map_toArray, List.map_cons, List.map_nil]); first | done | rfl | (simp only [List.length_drop, List.length_take]; rfl)) ?_
    with_reducible refine (dropperref02_from.calls (-10000) ((rd_T72 l0 x3_1).f1) 10000 true _ A6.out).mono ?_
    rintro e w' ⟨rfl, ⟨nd, rfl⟩⟩
    refine ⟨_, rfl, ?_⟩
    refine hK.out _ _ ⟨(blk_cell BK103.out 0).trans rfl, (blk_cell BK103.out 1).trans rfl, (blk_cell BK103.out 2).trans rfl, (pw_cell_below HB.out hw107_0), (pw_cell_below HB.out hw107_1), (pw_cell_below HB.out hw107_2)⟩ (fun hHeld => ?_)
    clear hK K
    refine norm_ (a' := ?_) ?_ ?_
    rotate_left
    ·show Act.put _ (some 22) _ = _
     simp only [Act.put, List.setIfInBounds_toArray, List.set_cons_zero, List.set_cons_succ, i64_w, i32_w]
     rfl
    refine pr_ 8 (some 23) (mkB 33 511) HT_ ?_
    refine pr_ 9 (some 24) (mkB 33 1023) HT_ ?_
    refine pr_ 10 (some 25) (mkB 33 2047) HT_ ?_
    refine pr_ 11 (some 26) (mkB 33 4095) HT_ ?_
    refine pr_ 13 (some 28) (mkB 33 12287) HT_ ?_
    refine take_ (i := 12) (N := some 27) (v := ?_) (a' := ?_) (mkB 33 16383) rfl rfl (take_ofW HT_.out HW_.out (by kernel_rfl)) (fun _ _ _ h => h) (Or.inl ⟨by rfl, ?_⟩) hHeld ?_ ?_
    rotate_left
    ·rintro w' ⟨s0, s1, s2, s3, s4, s5⟩
     go_simp
     with_reducible rfl
    rotate_left
    ·simp only [Act.put, List.setIfInBounds_toArray, List.set_cons_zero, List.set_cons_succ, i64_w, i32_w]
     rfl
    refine take_ (i := 14) (N := some 29) (v := ?_) (a' := ?_) (mkB 33 32767) rfl rfl (take_ofW HT_.out HW_.out (by kernel_rfl)) (fun _ _ _ h => h) (Or.inl ⟨by rfl, ?_⟩) hHeld ?_ ?_
    rotate_left
    ·rintro w' ⟨s0, s1, s2, s3, s4, s5⟩
     go_simp
     with_reducible rfl
    rotate_left
    ·simp only [Act.put, List.setIfInBounds_toArray, List.set_cons_zero, List.set_cons_succ, i64_w, i32_w]
     rfl
    refine one_ (i := 15) (N := some 30) (mkB 33 65535) rfl rfl (one_of HT_.out (by kernel_rfl)) (by decide) (fun K hK => ?_)
    refine goes_ Try.func57 (by kernel_rfl) rfl #[.int .i64 ((rd_T72 l0 x3_1).f1), .int .i64 ((rd_T72 l0 x3_1).f2), .int .i64 10000] (by rfl) rfl rfl (by (try simp only [List.map_toArray, List.map_cons, List.map_nil]); first | done | rfl | (simp only [List.length_drop, List.length_take]; rfl)) ?_
    with_reducible refine (dropperref02_from.calls ((rd_T72 l0 x3_1).f1) ((rd_T72 l0 x3_1).f2) 10000 true _ A8.out).mono ?_
    rintro e w' ⟨rfl, ⟨nd, rfl⟩⟩
    refine ⟨_, rfl, ?_⟩
    refine hK.out _ _ ⟨(blk_cell BK103.out 0).trans rfl, (blk_cell BK103.out 1).trans rfl, (blk_cell BK103.out 2).trans rfl, (pw_cell_below HB.out hw107_0), (pw_cell_below HB.out hw107_1), (pw_cell_below HB.out hw107_2)⟩ (fun hHeld => ?_)
    clear hK K
    refine norm_ (a' := ?_) ?_ ?_
    rotate_left
    ·show Act.put _ (some 30) _ = _
     simp only [Act.put, List.setIfInBounds_toArray, List.set_cons_zero, List.set_cons_succ, i64_w, i32_w]
     rfl
    refine pr_ 16 (some 31) (mkB 33 131071) HT_ ?_
    refine pr_ 17 (some 32) (mkB 33 262143) HT_ ?_
    refine pr_ 18 (some 33) (mkB 33 524287) HT_ ?_
    refine pr_ 19 (some 34) (mkB 33 1048575) HT_ ?_
    refine pr_ 20 (some 35) (mkB 33 2097151) HT_ ?_
    refine pr_ 21 (some 36) (mkB 33 4194303) HT_ ?_
    refine pr_ 22 (some 37) (mkB 33 8388607) HT_ ?_
    refine pr_ 24 (some 39) (mkB 33 25165823) HT_ ?_
    refine pr_ 25 (some 40) (mkB 33 58720255) HT_ ?_
    refine pr_ 26 (some 41) (mkB 33 125829119) HT_ ?_
    refine pr_ 27 (some 42) (mkB 33 260046847) HT_ ?_
    refine pr_ 28 (some 43) (mkB 33 528482303) HT_ ?_
    refine take_ (i := 23) (N := some 38) (v := ?_) (a' := ?_) (mkB 33 536870911) rfl rfl (take_ofW HT_.out HW_.out (by kernel_rfl)) (fun _ _ _ h => h) (Or.inl ⟨by rfl, ?_⟩) hHeld ?_ ?_
    rotate_left
    ·rintro w' ⟨s0, s1, s2, s3, s4, s5⟩
     go_simp
     with_reducible rfl
    rotate_left
    ·simp only [Act.put, List.setIfInBounds_toArray, List.set_cons_zero, List.set_cons_succ, i64_w, i32_w]
     rfl
    refine take_ (i := 29) (N := some 44) (v := ?_) (a' := ?_) (mkB 33 1073741823) rfl rfl (take_ofW HT_.out HW_.out (by kernel_rfl)) (fun _ _ _ h => h) (Or.inl ⟨by rfl, ?_⟩) hHeld ?_ ?_
    rotate_left
    ·rintro w' ⟨s0, s1, s2, s3, s4, s5⟩
     go_simp
     with_reducible rfl
    rotate_left
    ·simp only [Act.put, List.setIfInBounds_toArray, List.set_cons_zero, List.set_cons_succ, i64_w, i32_w]
     rfl
    refine pr_ 30 (some 45) (mkB 33 2147483647) HT_ ?_
    refine pr_ 31 (some 46) (mkB 33 4294967295) HT_ ?_
    refine pr_ 32 (some 47) (mkB 33 8589934591) HT_ ?_
    refine done_ (done_of HT_.out (by kernel_rfl)) ?_
    try go_wp2
    go_ret
    exact ⟨by first | rfl | (simp [errW_none, errW_some] <;> rfl) | (simp only [← hji11]; first | rfl | (simp [errW_none, errW_some] <;> rfl)) | (simp [*, errW_none, errW_some] <;> rfl), by repeat (first | (with_reducible first | exact HB.out | apply below_alloc | apply pw_below_drewN | apply below_drew1 | refine below_set ?_ GE103.out) | exact HB.out)⟩
   rw [if_neg c14] at H
   have c14b0 : decide (((rd_T72 l0 x3_1).f0) ≤ ((rd_T72 l0 (ji11)).f0)) = false := decide_eq_false c14
   clear c14
   have H' := A_ H
   clear H
   have p102 : 0 ≤ (x3_1 : Int) := of_decide_eq_true (by first | (with_reducible assumption) | assumption)
   have q102 : x3_1 < (l0.length : Int) := of_decide_eq_true (by first | (with_reducible assumption) | assumption)
   obtain ⟨ad102, e102, hx102_0, hx102_1, hx102_2⟩ := at_T72 HR0.out x3_1 p102 q102
   cases e102
   replace hx102_0 := (HB.out.cell (World.block_lt_of_cell? w _ hx102_0)).trans hx102_0
   replace hx102_1 := (HB.out.cell (World.block_lt_of_cell? w _ hx102_1)).trans hx102_1
   replace hx102_2 := (HB.out.cell (World.block_lt_of_cell? w _ hx102_2)).trans hx102_2
   replace p102 := eq_true p102
   replace q102 := eq_true q102
   try go_wp2_with (first | ((with_reducible refine gate_dst (N := 4) rfl ?_); refine box_event ?hg (N := 4) ?hd (cs := #[.int .i64 0, .int .i64 0, .int .i64 0]) (t := 72) ?hr ?_; (case hd => rfl); (case hg => rfl); (case hr => first | (go_simp; done) | (go_simp; rfl)); intro gb103 hg w19 hbox hb; have n0_ := A_ (below_step (bW0 HB.out) hb); have n1_ := A_ (hbox); have n2_ := A_ ((szG hg (bW0 HB.out))); have n3_ := A_ ((szG hg (bW0 HB.out))); clear HB; have HB := n0_; have BK103 := n1_; have GW103 := n2_; have GE103 := n3_; clear n0_ n1_ n2_ n3_; clear hb hbox hg; have hcz20_0 : w19.cell? ⟨gb103, 0, none⟩ = some (.int .i64 0) := (blk_cell BK103.out 0).trans rfl; have hcz20_1 : w19.cell? ⟨gb103, 1, none⟩ = some (.int .i64 0) := (blk_cell BK103.out 1).trans rfl; have hcz20_2 : w19.cell? ⟨gb103, 2, none⟩ = some (.int .i64 0) := (blk_cell BK103.out 2).trans rfl; have hfz20_0 := blk_frozen BK103.out 0; have hfz20_1 := blk_frozen BK103.out 1; have hfz20_2 := blk_frozen BK103.out 2))
   have n0_ : Aside0 ((((w19.setCell ⟨gb103, 0, none⟩ (.int .i64 ((rd_T72 l0 x3_1).f0))).setCell ⟨gb103, 1, none⟩ (.int .i64 ((rd_T72 l0 x3_1).f1))).setCell ⟨gb103, 2, none⟩ (.int .i64 ((rd_T72 l0 x3_1).f2))).heap[gb103]? = some (.cells #[.int .i64 ((rd_T72 l0 x3_1).f0), .int .i64 ((rd_T72 l0 x3_1).f1), .int .i64 ((rd_T72 l0 x3_1).f2)] 72 (0, 0))) := ⟨by (with_reducible repeat (first | refine blk_drewN ?_ _ | refine blk_drew ?_ | refine blk_alloc ?_ _)); refine blk_put (cs := #[.int .i64 ((rd_T72 l0 x3_1).f0), .int .i64 ((rd_T72 l0 x3_1).f1), .int .i64 0]) ?_ 2 _ rfl; (with_reducible repeat (first | refine blk_drewN ?_ _ | refine blk_drew ?_ | refine blk_alloc ?_ _)); refine blk_put (cs := #[.int .i64 ((rd_T72 l0 x3_1).f0), .int .i64 0, .int .i64 0]) ?_ 1 _ rfl; (with_reducible repeat (first | refine blk_drewN ?_ _ | refine blk_drew ?_ | refine blk_alloc ?_ _)); refine blk_put (cs := #[.int .i64 0, .int .i64 0, .int .i64 0]) ?_ 0 _ rfl; exact bkU BK103⟩
   have n1_ : Aside0 (Below w.heap.size w (((w19.setCell ⟨gb103, 0, none⟩ (.int .i64 ((rd_T72 l0 x3_1).f0))).setCell ⟨gb103, 1, none⟩ (.int .i64 ((rd_T72 l0 x3_1).f1))).setCell ⟨gb103, 2, none⟩ (.int .i64 ((rd_T72 l0 x3_1).f2)))) := ⟨by repeat (first | (with_reducible first | exact HB.out | apply below_alloc | apply pw_below_drewN | apply below_drew1 | refine below_set ?_ GE103.out) | exact HB.out)⟩
   (try clear BK103)
   (try clear HB)
   generalize (((w19.setCell ⟨gb103, 0, none⟩ (.int .i64 ((rd_T72 l0 x3_1).f0))).setCell ⟨gb103, 1, none⟩ (.int .i64 ((rd_T72 l0 x3_1).f1))).setCell ⟨gb103, 2, none⟩ (.int .i64 ((rd_T72 l0 x3_1).f2))) = w21 at n0_ n1_ ⊢
   have BK103 := n0_
   have HB := n1_
   clear n0_ n1_
   have n0_ := A_ (blk_drew BK103.out)
   have n1_ := A_ (below_drew1 HB.out)
   clear BK103
   clear HB
   have BK103 := n0_
   have HB := n1_
   clear n0_ n1_
   have p107 : 0 ≤ ((ji11) : Int) := of_decide_eq_true (by first | (with_reducible assumption) | assumption)
   have q107 : (ji11) < (l0.length : Int) := of_decide_eq_true (by first | (with_reducible assumption) | assumption)
   obtain ⟨ad107, e107, hx107_0, hx107_1, hx107_2⟩ := at_T72 HR0.out (ji11) p107 q107
   have hw107_2 := hx107_2
   have hw107_1 := hx107_1
   have hw107_0 := hx107_0
   obtain rfl : ad102 = ad107 := (by injection e107)
   replace hx107_0 := (HB.out.cell (World.block_lt_of_cell? w _ hx107_0)).trans hx107_0
   replace hx107_1 := (HB.out.cell (World.block_lt_of_cell? w _ hx107_1)).trans hx107_1
   replace hx107_2 := (HB.out.cell (World.block_lt_of_cell? w _ hx107_2)).trans hx107_2
   replace p107 := eq_true p107
   replace q107 := eq_true q107
   refine start_ (n := 33) (S := fun w' => w'.cell? ⟨gb103, 0, none⟩ = some (.int .i64 ((rd_T72 l0 x3_1).f0)) ∧ w'.cell? ⟨gb103, 1, none⟩ = some (.int .i64 ((rd_T72 l0 x3_1).f1)) ∧ w'.cell? ⟨gb103, 2, none⟩ = some (.int .i64 ((rd_T72 l0 x3_1).f2)) ∧ w'.cell? (ad102.add (((ji11)).toNat * 3)) = some (.int .i64 ((rd_T72 l0 (ji11)).f0)) ∧ w'.cell? ⟨(ad102.add (((ji11)).toNat * 3)).block, (ad102.add (((ji11)).toNat * 3)).off + 1, none⟩ = some (.int .i64 ((rd_T72 l0 (ji11)).f1)) ∧ w'.cell? ⟨(ad102.add (((ji11)).toNat * 3)).block, (ad102.add (((ji11)).toNat * 3)).off + 2, none⟩ = some (.int .i64 ((rd_T72 l0 (ji11)).f2))) (ds := []) (mkB 33 0) (by kernel_rfl) rfl rfl ⟨(blk_cell BK103.out 0).trans rfl, (blk_cell BK103.out 1).trans rfl, (blk_cell BK103.out 2).trans rfl, (pw_cell_below HB.out hw107_0), (pw_cell_below HB.out hw107_1), (pw_cell_below HB.out hw107_2)⟩ (fun hHeld => ?_); refine with_tabW dropperref02_Valid.tab5 dropperref02_Valid.bits5 (fun HT_ HW_ => ?_)
   generalize w21.drew = w22 at BK103 HB hx107_0 hx107_1 hx107_2 hHeld ⊢
   refine pr_ 0 (some 15) (mkB 33 1) HT_ ?_
   refine take_ (i := 1) (N := some 16) (v := ?_) (a' := ?_) (mkB 33 3) rfl rfl (take_ofW HT_.out HW_.out (by kernel_rfl)) (fun _ _ _ h => h) (Or.inl ⟨by rfl, ?_⟩) hHeld ?_ ?_
   rotate_left
   ·rintro w' ⟨s0, s1, s2, s3, s4, s5⟩
    go_simp
    with_reducible rfl
   rotate_left
   ·simp only [Act.put, List.setIfInBounds_toArray, List.set_cons_zero, List.set_cons_succ, i64_w, i32_w]
    rfl
   refine one_ (i := 2) (N := some 17) (mkB 33 7) rfl rfl (one_of HT_.out (by kernel_rfl)) (by decide) (fun K hK => ?_)
   refine goes_ Try.func57 (by kernel_rfl) rfl #[.int .i64 0, .int .i64 ((rd_T72 l0 x3_1).f0), .int .i64 100000] (by rfl) rfl rfl (by (try simp only [List.map_toArray, List.map_cons, List.map_nil]); first | done | rfl | (simp only [List.length_drop, List.length_take]; rfl)) ?_
   with_reducible refine (dropperref02_from.calls 0 ((rd_T72 l0 x3_1).f0) 100000 true _ A4.out).mono ?_
   rintro e w' ⟨rfl, ⟨nd, rfl⟩⟩
   refine ⟨_, rfl, ?_⟩
   refine hK.out _ _ ⟨(blk_cell BK103.out 0).trans rfl, (blk_cell BK103.out 1).trans rfl, (blk_cell BK103.out 2).trans rfl, (pw_cell_below HB.out hw107_0), (pw_cell_below HB.out hw107_1), (pw_cell_below HB.out hw107_2)⟩ (fun hHeld => ?_)
   clear hK K
   refine norm_ (a' := ?_) ?_ ?_
   rotate_left
   ·show Act.put _ (some 17) _ = _
    simp only [Act.put, List.setIfInBounds_toArray, List.set_cons_zero, List.set_cons_succ, i64_w, i32_w]
    rfl
   refine pr_ 3 (some 18) (mkB 33 15) HT_ ?_
   refine pr_ 4 (some 19) (mkB 33 31) HT_ ?_
   refine pr_ 5 (some 20) (mkB 33 63) HT_ ?_
   refine take_ (i := 6) (N := some 21) (v := ?_) (a' := ?_) (mkB 33 127) rfl rfl (take_ofW HT_.out HW_.out (by kernel_rfl)) (fun _ _ _ h => h) (Or.inl ⟨by rfl, ?_⟩) hHeld ?_ ?_
   rotate_left
   ·rintro w' ⟨s0, s1, s2, s3, s4, s5⟩
    go_simp
    with_reducible rfl
   rotate_left
   ·simp only [Act.put, List.setIfInBounds_toArray, List.set_cons_zero, List.set_cons_succ, i64_w, i32_w]
    rfl
   refine one_ (i := 7) (N := some 22) (mkB 33 255) rfl rfl (one_of HT_.out (by kernel_rfl)) (by decide) (fun K hK => ?_)
   refine goes_ Try.func57 (by kernel_rfl) rfl #[.int .i64 (-10000), .int .i64 ((rd_T72 l0 x3_1).f1), .int .i64 10000] (by rfl) rfl rfl (by (try simp only [List.map_toArray, List.map_cons, List.map_nil]); first | done | rfl | (simp only [List.length_drop, List.length_take]; rfl)) ?_
   with_reducible refine (dropperref02_from.calls (-10000) ((rd_T72 l0 x3_1).f1) 10000 true _ A6.out).mono ?_
   rintro e w' ⟨rfl, ⟨nd, rfl⟩⟩
   refine ⟨_, rfl, ?_⟩
   refine hK.out _ _ ⟨(blk_cell BK103.out 0).trans rfl, (blk_cell BK103.out 1).trans rfl, (blk_cell BK103.out 2).trans rfl, (pw_cell_below HB.out hw107_0), (pw_cell_below HB.out hw107_1), (pw_cell_below HB.out hw107_2)⟩ (fun hHeld => ?_)
   clear hK K
   refine norm_ (a' := ?_) ?_ ?_
   rotate_left
   ·show Act.put _ (some 22) _ = _
    simp only [Act.put, List.setIfInBounds_toArray, List.set_cons_zero, List.set_cons_succ, i64_w, i32_w]
    rfl
   refine pr_ 8 (some 23) (mkB 33 511) HT_ ?_
   refine pr_ 9 (some 24) (mkB 33 1023) HT_ ?_
   refine pr_ 10 (some 25) (mkB 33 2047) HT_ ?_
   refine pr_ 11 (some 26) (mkB 33 4095) HT_ ?_
   refine pr_ 13 (some 28) (mkB 33 12287) HT_ ?_
   refine take_ (i := 12) (N := some 27) (v := ?_) (a' := ?_) (mkB 33 16383) rfl rfl (take_ofW HT_.out HW_.out (by kernel_rfl)) (fun _ _ _ h => h) (Or.inl ⟨by rfl, ?_⟩) hHeld ?_ ?_
   rotate_left
   ·rintro w' ⟨s0, s1, s2, s3, s4, s5⟩
    go_simp
    with_reducible rfl
   rotate_left
   ·simp only [Act.put, List.setIfInBounds_toArray, List.set_cons_zero, List.set_cons_succ, i64_w, i32_w]
    rfl
   refine take_ (i := 14) (N := some 29) (v := ?_) (a' := ?_) (mkB 33 32767) rfl rfl (take_ofW HT_.out HW_.out (by kernel_rfl)) (fun _ _ _ h => h) (Or.inl ⟨by rfl, ?_⟩) hHeld ?_ ?_
   rotate_left
   ·rintro w' ⟨s0, s1, s2, s3, s4, s5⟩
    go_simp
    with_reducible rfl
   rotate_left
   ·simp only [Act.put, List.setIfInBounds_toArray, List.set_cons_zero, List.set_cons_succ, i64_w, i32_w]
    rfl
   refine one_ (i := 15) (N := some 30) (mkB 33 65535) rfl rfl (one_of HT_.out (by kernel_rfl)) (by decide) (fun K hK => ?_)
   refine goes_ Try.func57 (by kernel_rfl) rfl #[.int .i64 ((rd_T72 l0 x3_1).f1), .int .i64 ((rd_T72 l0 x3_1).f2), .int .i64 10000] (by rfl) rfl rfl (by (try simp only [List.map_toArray, List.map_cons, List.map_nil]); first | done | rfl | (simp only [List.length_drop, List.length_take]; rfl)) ?_
   with_reducible refine (dropperref02_from.calls ((rd_T72 l0 x3_1).f1) ((rd_T72 l0 x3_1).f2) 10000 true _ A8.out).mono ?_
   rintro e w' ⟨rfl, ⟨nd, rfl⟩⟩
   refine ⟨_, rfl, ?_⟩
   refine hK.out _ _ ⟨(blk_cell BK103.out 0).trans rfl, (blk_cell BK103.out 1).trans rfl, (blk_cell BK103.out 2).trans rfl, (pw_cell_below HB.out hw107_0), (pw_cell_below HB.out hw107_1), (pw_cell_below HB.out hw107_2)⟩ (fun hHeld => ?_)
   clear hK K
   refine norm_ (a' := ?_) ?_ ?_
   rotate_left
   ·show Act.put _ (some 30) _ = _
    simp only [Act.put, List.setIfInBounds_toArray, List.set_cons_zero, List.set_cons_succ, i64_w, i32_w]
    rfl
   refine pr_ 16 (some 31) (mkB 33 131071) HT_ ?_
   refine pr_ 17 (some 32) (mkB 33 262143) HT_ ?_
   refine pr_ 18 (some 33) (mkB 33 524287) HT_ ?_
   refine pr_ 19 (some 34) (mkB 33 1048575) HT_ ?_
   refine pr_ 20 (some 35) (mkB 33 2097151) HT_ ?_
   refine pr_ 21 (some 36) (mkB 33 4194303) HT_ ?_
   refine pr_ 22 (some 37) (mkB 33 8388607) HT_ ?_
   refine pr_ 24 (some 39) (mkB 33 25165823) HT_ ?_
   refine pr_ 25 (some 40) (mkB 33 58720255) HT_ ?_
   refine pr_ 26 (some 41) (mkB 33 125829119) HT_ ?_
   refine pr_ 27 (some 42) (mkB 33 260046847) HT_ ?_
   refine pr_ 28 (some 43) (mkB 33 528482303) HT_ ?_
   refine take_ (i := 23) (N := some 38) (v := ?_) (a' := ?_) (mkB 33 536870911) rfl rfl (take_ofW HT_.out HW_.out (by kernel_rfl)) (fun _ _ _ h => h) (Or.inl ⟨by rfl, ?_⟩) hHeld ?_ ?_
   rotate_left
   ·rintro w' ⟨s0, s1, s2, s3, s4, s5⟩
    go_simp
    with_reducible rfl
   rotate_left
   ·simp only [Act.put, List.setIfInBounds_toArray, List.set_cons_zero, List.set_cons_succ, i64_w, i32_w]
    rfl
   refine take_ (i := 29) (N := some 44) (v := ?_) (a' := ?_) (mkB 33 1073741823) rfl rfl (take_ofW HT_.out HW_.out (by kernel_rfl)) (fun _ _ _ h => h) (Or.inl ⟨by rfl, ?_⟩) hHeld ?_ ?_
   rotate_left
   ·rintro w' ⟨s0, s1, s2, s3, s4, s5⟩
    go_simp
    with_reducible rfl
   rotate_left
   ·simp only [Act.put, List.setIfInBounds_toArray, List.set_cons_zero, List.set_cons_succ, i64_w, i32_w]
    rfl
   refine pr_ 30 (some 45) (mkB 33 2147483647) HT_ ?_
   refine pr_ 31 (some 46) (mkB 33 4294967295) HT_ ?_
   refine pr_ 32 (some 47) (mkB 33 8589934591) HT_ ?_
   refine done_ (done_of HT_.out (by kernel_rfl)) ?_
   try go_wp2
   go_roundg k1
   case measure => have := HK1.out; omega
   case rel => exact ⟨(wrap64 (x3_1 + 1)), (by first | rfl | (simp; done) | (simp [*]; done)), H', ⟨by have := HK1.out; omega⟩, ⟨by repeat (first | (with_reducible first | exact HB.out | apply below_alloc | apply pw_below_drewN | apply below_drew1 | refine below_set ?_ GE103.out) | exact HB.out)⟩⟩
end Go.Proofs.Ytciepmpadcpkbaa.G
