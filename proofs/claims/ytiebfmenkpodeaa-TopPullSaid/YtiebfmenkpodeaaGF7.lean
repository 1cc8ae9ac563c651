-- Written by this session's driver (wip/tools/printmore.py) over the kit's print, with hand-written parts.
import Derived.Test.YtiebfmenkpodeaaGF7D
import Derived.Test.YtiebfmenkpodeaaGBase
import Derived.Test.YtiebfmenkpodeaaGF24
import Derived.Test.YtiebfmenkpodeaaGF28
import Derived.Test.YtiebfmenkpodeaaGF31
import Derived.Test.YtiebfmenkpodeaaGF18
import Derived.Test.YtiebfmenkpodeaaGF29
import Derived.Test.YtiebfmenkpodeaaGF26
import Derived.Test.YtiebfmenkpodeaaGF30
import Derived.Test.YtiebfmenkpodeaaGF32
import Derived.Test.YtiebfmenkpodeaaGF38
import Derived.Test.YtiebfmenkpodeaaGF33
import Derived.Test.YtiebfmenkpodeaaGF34
import Derived.Test.YtiebfmenkpodeaaGF35
import Derived.Test.YtiebfmenkpodeaaGF36
import Derived.Test.YtiebfmenkpodeaaGF37
import Derived.Test.YtiebfmenkpodeaaGF39
import Derived.Test.YtiebfmenkpodeaaGF40
namespace Go.Proofs.Ytiebfmenkpodeaa.G
open Go.RowKit Go.Proofs.YtiebfmenkpodeaaW.PrintWords Go.Proofs.YtiebfmenkpodeaaW.PrintLast Go.Proofs.YtiebfmenkpodeaaW.PrintMore
attribute [local go_sem] max2_int min2_int max_two min_two max_three min_three max_four min_four   -- for this text's walks alone
set_option linter.unusedVariables false
set_option linter.unusedSimpArgs false

/-! ### droppertop_TopPull: function 7 -/
theorem droppertop_TopPull.j1_no (k : Nat) (y0_ : List Int) (y7_ : Int) (y9_ : List Int) (y10_ : Int) (y11_ : List Int) (y12_ : Int) (y13_ : List Int) (y14_ : Int) (y15_ : List Int) (y16_ : Int) (y17_ : List Int) (y19_ : Bool) (y602000_ : Int) (y602001_ : Int) (y603000_ : List Int) (y603001_ : Int) : droppertop_TopPull.j1 k y0_ y7_ y9_ y10_ y11_ y12_ y13_ y14_ y15_ y16_ y17_ y19_ true y602000_ y602001_ y603000_ y603001_ ≠ some true := by
  cases k with
  | zero => simp [droppertop_TopPull.j1]
  | succ k => rw [droppertop_TopPull.j1]; simp
theorem droppertop_TopPull.j2_no (k : Nat) (y0_ : List Int) (y7_ : Int) (y9_ : List Int) (y11_ : List Int) (y13_ : List Int) (y15_ : List Int) (y17_ : List Int) (y19_ : Bool) (y602000_ : Int) (y602001_ : Int) (y603000_ : List Int) (y603001_ : Int) : droppertop_TopPull.j2 k y0_ y7_ y9_ y11_ y13_ y15_ y17_ y19_ true y602000_ y602001_ y603000_ y603001_ ≠ some true := by
  cases k with
  | zero => simp [droppertop_TopPull.j2]
  | succ k => rw [droppertop_TopPull.j2]; simp
theorem droppertop_TopPull.j3_no (k : Nat) (y0_ : List Int) (y7_ : Int) (y9_ : List Int) (y11_ : List Int) (y13_ : List Int) (y15_ : List Int) (y17_ : List Int) (y19_ : Bool) (y21_ : List Int) (y602000_ : Int) (y602001_ : Int) (y603000_ : List Int) (y603001_ : Int) : droppertop_TopPull.j3 k y0_ y7_ y9_ y11_ y13_ y15_ y17_ y19_ y21_ true y602000_ y602001_ y603000_ y603001_ ≠ some true := by
  cases k with
  | zero => simp [droppertop_TopPull.j3]
  | succ k => rw [droppertop_TopPull.j3]; simp
theorem droppertop_TopPull.j6_no (k : Nat) (y0_ : List Int) (y7_ : Int) (y9_ : List Int) (y11_ : List Int) (y15_ : List Int) (y17_ : List Int) (y23_ : List (List Int)) (y24_ : Int) (y25_ : Int) (y26_ : List Int) (y29_ : Int) (y602000_ : Int) (y602001_ : Int) : droppertop_TopPull.j6 k y0_ y7_ y9_ y11_ y15_ y17_ y23_ y24_ y25_ y26_ y29_ true y602000_ y602001_ ≠ some true := by
  cases k with
  | zero => simp [droppertop_TopPull.j6]
  | succ k => rw [droppertop_TopPull.j6]; simp
theorem droppertop_TopPull.j7_no (k : Nat) (y0_ : List Int) (y7_ : Int) (y9_ : List Int) (y11_ : List Int) (y15_ : List Int) (y17_ : List Int) (y23_ : List (List Int)) (y24_ : Int) (y25_ : Int) (y26_ : List Int) (y602000_ : Int) (y602001_ : Int) : droppertop_TopPull.j7 k y0_ y7_ y9_ y11_ y15_ y17_ y23_ y24_ y25_ y26_ true y602000_ y602001_ ≠ some true := by
  cases k with
  | zero => simp [droppertop_TopPull.j7]
  | succ k => rw [droppertop_TopPull.j7]; simp
def droppertop_TopPull.T16 : Bool × List (List Nat × List Nat) := (true, [([], []), ([], []), ([1], [1]), ([], []), ([3], [3]), ([], []), ([5], [5]), ([6], [6]), ([], []), ([7, 8], [7, 8]), ([0, 2, 4, 9], [0, 2, 4, 9]), ([10], [10]), ([11], [11]), ([11], [11]), ([12, 10, 0, 1, 2, 3, 4, 5, 6, 7, 8, 9, 10, 11, 12], [12]), ([13, 14, 0, 1, 2, 3, 4, 5, 6, 7, 8, 9, 10, 11, 12, 13, 14], [13])])
def droppertop_TopPull.B16 : List Nat := [0, 0, 2, 0, 8, 0, 32, 96, 0, 480, 1023, 2047, 4095, 4095, 8191, 32767]
theorem droppertop_TopPull.tab16 : rtab .any (opsOf Try.f7 16) = droppertop_TopPull.T16 := by kernel_rfl
theorem droppertop_TopPull.bits16 : waitsOk droppertop_TopPull.T16.2 droppertop_TopPull.B16 = true := by kernel_rfl
def droppertop_TopPull.T34 : Bool × List (List Nat × List Nat) := (true, [([], []), ([0], [0]), ([1], [1]), ([2], [2]), ([3, 2], [2, 3]), ([2, 4], [2, 4]), ([5, 2], [5]), ([6], [6]), ([6], [6]), ([7, 8, 6, 6], [6, 7, 8]), ([9, 6], [6, 9]), ([6, 10], [6, 10]), ([11, 9], [11]), ([12], [12]), ([13, 12, 12], [12, 13]), ([12], [12]), ([12], [12]), ([16, 12], [12, 16]), ([17, 12], [12, 17]), ([15, 18, 12], [12, 15, 18]), ([19, 12], [12, 19]), ([12], [12]), ([21, 12], [12, 21]), ([22, 12], [12, 22]), ([20, 23, 12], [12, 20, 23]), ([14, 24, 12], [12, 14, 24]), ([12, 25], [12, 25]), ([26, 14], [26]), ([27], [27]), ([28, 27], [27, 28]), ([27], [27]), ([30, 27], [27, 30]), ([31, 27], [27, 31]), ([29, 32, 27], [27, 29, 32]), ([27, 33], [27, 33])])
def droppertop_TopPull.B34 : List Nat := [0, 1, 3, 7, 15, 31, 63, 127, 127, 511, 1023, 2047, 4095, 8191, 16383, 8191, 8191, 73727, 204799, 499711, 1023999, 8191, 2105343, 6299647, 16752639, 33554431, 67108863, 134217727, 268435455, 536870911, 268435455, 1342177279, 3489660927, 8589934591, 17179869183]
theorem droppertop_TopPull.tab34 : rtab .any (opsOf Try.f7 34) = droppertop_TopPull.T34 := by kernel_rfl
theorem droppertop_TopPull.bits34 : waitsOk droppertop_TopPull.T34.2 droppertop_TopPull.B34 = true := by kernel_rfl
set_option maxHeartbeats 40000000 in
set_option maxRecDepth 100000 in
theorem droppertop_TopPull.calls (k : Nat) (A0 : Option Addr) (c0 : Nat) (l0 : List Int) (a1_0 : Int) (a1_1 : Int) (P2_0_ : Nat → Prop) (A2_0 : Option Addr) (c2_0 : Nat) (l2_0 : List Int) (a2_1 : Int) (r : Bool) (w : World) (hr0 : Kd.C (Kd.int .i64) w A0 l0.length l0) (hc0 : l0.length ≤ c0) (hs2_0 : Kd.V (Kd.int .i64) 3 w w.heap.size (fun k_ => P2_0_ k_) (.slice A2_0 l2_0.length c2_0) l2_0) (h : droppertop_TopPull.f k l0 a1_0 a1_1 l2_0 a2_1 = some r) (hT : r = true) :
    Calls Try.prog 7 #[.slice A0 l0.length c0, .agg #[.int .i64 a1_0, .int .i64 a1_1], .agg #[.slice A2_0 l2_0.length c2_0, .int .u32 a2_1]] w fun e w' => e = .returned (.bool r) ∧ Below w.heap.size w w' := by
  have hu39 := Try.underlying39; have hu52 := Try.underlying52; have HR0 := Aside0.mk hr0; have HC0 := Aside0.mk hc0; clear hr0 hc0
  have HO2_0 := Aside0.mk (show Kd.V (Kd.int .i64) 3 w w.heap.size (fun k_ => (P2_0_ k_ ∨ w.heap.size ≤ k_)) (.slice A2_0 l2_0.length c2_0) l2_0 from Kd.V_mono hs2_0 (fun k_ hk => .inl hk))
  have HB := Aside0.mk (Below.refl w.heap.size w)
  have H : ((dropperref04_Valid.f k l0 a1_0 a1_1).bind fun t603 => (if t603 = true then (droppertop_TopPull.j0 k l0 (decide ((l2_0.length : Int) > 50)) a1_0 a1_1 l2_0 a2_1) else (droppertop_TopPull.j0 k l0 true a1_0 a1_1 l2_0 a2_1))) = some r := h
  clear h; have HC4 := Aside0.mk H; clear H
  go_enter Try.func7, Try.ntmps7
  go_upto_region 1 with (first | ((with_reducible refine gate_dst (N := 4) rfl ?_); (try (refine gate_guard (by rfl) ?_; dsimp only)); refine box_event ?hg (N := 4) ?hd (cs := #[.int .i64 a1_0, .int .i64 a1_1]) (t := 39) ?hr ?_; (case hd => rfl); (case hg => rfl); (case hr => first | (go_simp; done) | (go_simp; rfl)); intro gb601 hg w5 hbox hb; have n0_ := Aside0.mk (Kd.V_below (Kd.V_elderB (by (with_reducible repeat (first | apply Kd.V_alloc | apply Kd.V_drewN | apply Kd.V_drew)); exact HO2_0.out) gb601 (Nat.le_of_eq hg.symm)) hb); have n1_ := Aside0.mk (below_step (by repeat (first | (with_reducible first | exact HB.out | apply below_alloc | apply pw_below_drewN | apply below_drew1) | exact HB.out)) hb); have n2_ := Aside0.mk (hbox); have n3_ := Aside0.mk ((by rw [hg]; exact (below_size (by repeat (first | (with_reducible first | exact HB.out | apply below_alloc | apply pw_below_drewN | apply below_drew1) | exact HB.out))) : w.heap.size ≤ gb601)); have n4_ := Aside0.mk ((by rw [hg]; exact (below_size (by repeat (first | (with_reducible first | exact HB.out | apply below_alloc | apply pw_below_drewN | apply below_drew1) | exact HB.out))) : w.heap.size ≤ gb601)); clear HO2_0; clear HB; have HO2_0 := n0_; have HB := n1_; have BK601 := n2_; have GW601 := n3_; have GE601 := n4_; clear n0_ n1_ n2_ n3_ n4_; clear hb hbox hg) | ((with_reducible refine gate_dst (N := 5) rfl ?_); (try (refine gate_guard (by rfl) ?_; dsimp only)); refine box_event ?hg (N := 5) ?hd (cs := #[.slice A2_0 l2_0.length c2_0, .int .u32 a2_1]) (t := 52) ?hr ?_; (case hd => rfl); (case hg => rfl); (case hr => first | (go_simp; done) | (go_simp; rfl)); intro gb602 hg w6 hbox hb; have n0_ := Aside0.mk (Kd.V_below (Kd.V_elderB (by (with_reducible repeat (first | apply Kd.V_alloc | apply Kd.V_drewN | apply Kd.V_drew)); exact HO2_0.out) gb602 (Nat.le_of_eq hg.symm)) hb); have n1_ := Aside0.mk (bkB BK601 hb); have n2_ := Aside0.mk (below_step (by repeat (first | (with_reducible first | exact HB.out | apply below_alloc | apply pw_below_drewN | apply below_drew1 | refine below_set ?_ GE601.out) | exact HB.out)) hb); have n3_ := Aside0.mk (hbox); have n4_ := Aside0.mk ((by rw [hg]; exact (below_size (by repeat (first | (with_reducible first | exact HB.out | apply below_alloc | apply pw_below_drewN | apply below_drew1 | refine below_set ?_ GE601.out) | exact HB.out))) : w.heap.size ≤ gb602)); have n5_ := Aside0.mk ((by rw [hg]; exact (below_size (by repeat (first | (with_reducible first | exact HB.out | apply below_alloc | apply pw_below_drewN | apply below_drew1 | refine below_set ?_ GE601.out) | exact HB.out))) : w.heap.size ≤ gb602)); have n6_ := Aside0.mk ((bkL BK601 hg : gb601 ≠ gb602)); have n7_ := Aside0.mk ((bkG BK601 hg : gb602 ≠ gb601)); clear HO2_0; clear BK601; clear HB; have HO2_0 := n0_; have BK601 := n1_; have HB := n2_; have BK602 := n3_; have GW602 := n4_; have GE602 := n5_; have NB601_602 := n6_; have NB602_601 := n7_; clear n0_ n1_ n2_ n3_ n4_ n5_ n6_ n7_; clear hb hbox hg))
  (try simp only [Act.put, List.setIfInBounds_toArray, List.set_cons_zero, List.set_cons_succ])
  go_cut [45] (fun v45 wc => ∃ (kq : Nat) (x45_3 : Bool), v45 = .bool x45_3 ∧ Aside0 (droppertop_TopPull.j0 kq l0 x45_3 a1_0 a1_1 l2_0 a2_1 = some r) ∧ Aside0 (kq ≤ k) ∧ Aside0 (Kd.V (Kd.int .i64) 3 wc w.heap.size (fun k_ => (P2_0_ k_ ∨ w.heap.size ≤ k_) ∧ k_ ≠ gb601 ∧ k_ ≠ gb602) (.slice A2_0 l2_0.length c2_0) l2_0) ∧ Aside0 (wc.heap[gb601]? = some (.cells #[.int .i64 a1_0, .int .i64 a1_1] 39 (0, 0))) ∧ Aside0 (wc.heap[gb602]? = some (.cells #[(.slice A2_0 l2_0.length c2_0), .int .u32 a2_1] 52 (0, 0))) ∧ Aside0 (Below w.heap.size w wc))
  case first => as_aux_lemma =>
    have H := HC4.out; clear HC4; replace H := Option.bind_eq_some_iff.mp H; obtain ⟨t603, A70, H⟩ := H; (try dsimp only at H); have A7 := Aside0.mk A70; clear A70; by_cases c8 : t603 = true; rotate_left
    · replace c8 := Bool.eq_false_iff.mpr c8; subst c8; rw [if_neg (show ¬ (false = true) by decide)] at H; have H' := Aside0.mk H; clear H; have hnb12 := NB601_602.out; have hnc12 := NB602_601.out; have hcz13_0 : w6.cell? ⟨gb601, 0, none⟩ = some (.int .i64 a1_0) := (blk_cell BK601.out 0).trans rfl; have hcz13_1 : w6.cell? ⟨gb601, 1, none⟩ = some (.int .i64 a1_1) := (blk_cell BK601.out 1).trans rfl; have hfz13_0 := blk_frozen BK601.out 0; have hfz13_1 := blk_frozen BK601.out 1
      go_wp2_with (first | ((with_reducible refine gate_callee (f := 29) rfl ?_); refine goesL_ (some 38) rfl rfl Try.func29 (by kernel_rfl) rfl #[.slice A0 l0.length c0, .int .i64 a1_0, .int .i64 a1_1] rfl (by (try simp only [List.map_toArray, List.map_cons, List.map_nil]); first | done | rfl | (simp only [List.length_drop, List.length_take]; rfl)) ?_; (with_reducible refine (dropperref04_Valid.calls k _ _ l0 a1_0 a1_1 false _ ?side1 ?side2 A7.out).mono ?_); (case side1 => repeat (first | exact (Kd.C_below HR0.out HB.out) | (with_reducible refine Kd.C_alloc ?_ _) | (with_reducible refine Kd.C_drewN ?_ _) | (with_reducible refine Kd.C_drew ?_))); (case side2 => exact HC0.out); rintro e w' ⟨rfl, ⟨nd, rfl⟩⟩; refine ⟨_, rfl, ?_⟩))
      go_meet
      case rel => exact ⟨_, (true), (by first | rfl | (simp; done) | (simp [*]; done)), H', ⟨by first | omega | exact Nat.le_refl _⟩, ⟨by (with_reducible repeat (first | apply Kd.V_alloc | apply Kd.V_drewN | apply Kd.V_drew)); exact Kd.V_mono HO2_0.out (fun _ hk => ⟨hk.1.1, ⟨hk.1.2, hk.2⟩⟩)⟩, ⟨bkU BK601⟩, ⟨bkU BK602⟩, ⟨by repeat (first | (with_reducible first | exact HB.out | apply below_alloc | apply pw_below_drewN | apply below_drew1 | refine below_set ?_ GE601.out | refine below_set ?_ GE602.out) | exact HB.out)⟩⟩
    subst c8; rw [if_pos rfl] at H; have H' := Aside0.mk H; clear H; have hnb9 := NB601_602.out; have hnc9 := NB602_601.out; have hcz10_0 : w6.cell? ⟨gb601, 0, none⟩ = some (.int .i64 a1_0) := (blk_cell BK601.out 0).trans rfl; have hcz10_1 : w6.cell? ⟨gb601, 1, none⟩ = some (.int .i64 a1_1) := (blk_cell BK601.out 1).trans rfl; have hfz10_0 := blk_frozen BK601.out 0; have hfz10_1 := blk_frozen BK601.out 1
    go_wp2_with (first | ((with_reducible refine gate_callee (f := 29) rfl ?_); refine goesL_ (some 38) rfl rfl Try.func29 (by kernel_rfl) rfl #[.slice A0 l0.length c0, .int .i64 a1_0, .int .i64 a1_1] rfl (by (try simp only [List.map_toArray, List.map_cons, List.map_nil]); first | done | rfl | (simp only [List.length_drop, List.length_take]; rfl)) ?_; (with_reducible refine (dropperref04_Valid.calls k _ _ l0 a1_0 a1_1 true _ ?side1 ?side2 A7.out).mono ?_); (case side1 => repeat (first | exact (Kd.C_below HR0.out HB.out) | (with_reducible refine Kd.C_alloc ?_ _) | (with_reducible refine Kd.C_drewN ?_ _) | (with_reducible refine Kd.C_drew ?_))); (case side2 => exact HC0.out); rintro e w' ⟨rfl, ⟨nd, rfl⟩⟩; refine ⟨_, rfl, ?_⟩; have hcz11_0 : w6.cell? ⟨gb602, 0, none⟩ = some (.slice A2_0 l2_0.length c2_0) := (blk_cell BK602.out 0).trans rfl; have hcz11_1 : w6.cell? ⟨gb602, 1, none⟩ = some (.int .u32 a2_1) := (blk_cell BK602.out 1).trans rfl; have hfz11_0 := blk_frozen BK602.out 0; have hfz11_1 := blk_frozen BK602.out 1))
    go_meet
    case rel => exact ⟨_, (decide ((l2_0.length : Int) > 50)), (by first | rfl | (simp; done) | (simp [*]; done)), H', ⟨by first | omega | exact Nat.le_refl _⟩, ⟨by (with_reducible repeat (first | apply Kd.V_alloc | apply Kd.V_drewN | apply Kd.V_drew)); exact Kd.V_mono HO2_0.out (fun _ hk => ⟨hk.1.1, ⟨hk.1.2, hk.2⟩⟩)⟩, ⟨bkU BK601⟩, ⟨bkU BK602⟩, ⟨by repeat (first | (with_reducible first | exact HB.out | apply below_alloc | apply pw_below_drewN | apply below_drew1 | refine below_set ?_ GE601.out | refine below_set ?_ GE602.out) | exact HB.out)⟩⟩
  case rest => as_aux_lemma =>
    clear HC4
    try clear c1
    try clear c2
    try clear p2
    try clear c7
    try clear c8
    try clear c9
    try clear c12
    try clear hcz10_0
    try clear hcz10_1
    try clear hcz11_0
    try clear hcz11_1
    try clear hcz13_0
    try clear hcz13_1
    try clear hfz10_0
    try clear hfz10_1
    try clear hfz11_0
    try clear hfz11_1
    try clear hfz13_0
    try clear hfz13_1
    obtain ⟨kq, x45_3, rfl, HA, HJ3, HO_603000, BK601, BK602, HB⟩ := hcut
    cases kq with
    | zero => exact absurd HA.out (by simp [droppertop_TopPull.j0])
    | succ kj3 =>
      have H := HA.out; clear HA; simp only [droppertop_TopPull.j0] at H; by_cases c14 : x45_3 = true
      · subst c14; rw [if_pos rfl] at H; replace H := Option.bind_eq_some_iff.mp H; obtain ⟨t604, A150, H⟩ := H; (try dsimp only at H); have A15 := Aside0.mk A150; clear A150 hT; obtain rfl := Option.some.inj H
        go_wp2_with (first | ((with_reducible refine gate_callee (f := 18) rfl ?_); refine goesL_ (some 46) rfl rfl Try.func18 (by kernel_rfl) rfl #[] rfl (by (try simp only [List.map_toArray, List.map_cons, List.map_nil]); first | done | rfl | (simp only [List.length_drop, List.length_take]; rfl)) ?_; (with_reducible refine (dropperlaw04_Awake.calls kj3  t604 _ A15.out).mono ?_); rintro e w16 ⟨rfl, hb⟩; refine ⟨_, rfl, ?_⟩; have n0_ := Aside0.mk (Kd.V_below (by (with_reducible repeat (first | apply Kd.V_alloc | apply Kd.V_drewN | apply Kd.V_drew)); exact HO_603000.out) hb); have n1_ := Aside0.mk (bkB BK601 hb); have n2_ := Aside0.mk (bkB BK602 hb); have n3_ := Aside0.mk (below_step (by repeat (first | (with_reducible first | exact HB.out | apply below_alloc | apply pw_below_drewN | apply below_drew1 | refine below_set ?_ GE601.out | refine below_set ?_ GE602.out) | exact HB.out)) hb); clear HO_603000; clear BK601; clear BK602; clear HB; have HO_603000 := n0_; have BK601 := n1_; have BK602 := n2_; have HB := n3_; clear n0_ n1_ n2_ n3_; (try clear hb); (try clear hb2); (try clear hk); (try clear hi)))
        go_ret
        exact ⟨by first | rfl | (simp [errW_none, errW_some] <;> rfl) | (simp [*, errW_none, errW_some] <;> rfl), by repeat (first | (with_reducible first | exact HB.out | apply below_alloc | apply pw_below_drewN | apply below_drew1 | refine below_set ?_ GE601.out | refine below_set ?_ GE602.out) | exact HB.out)⟩
      replace c14 := Bool.eq_false_iff.mpr c14; subst c14; rw [if_neg (show ¬ (false = true) by decide)] at H; replace H := Option.bind_eq_some_iff.mp H; obtain ⟨⟨t605, t606⟩, A170, H⟩ := H; (try dsimp only at H); have A17 := Aside0.mk A170; clear A170; replace H := Option.bind_eq_some_iff.mp H; obtain ⟨⟨t607, t608⟩, A180, H⟩ := H; (try dsimp only at H); have A18 := Aside0.mk A180; clear A180; replace H := Option.bind_eq_some_iff.mp H; obtain ⟨⟨t611, t612⟩, A190, H⟩ := H; (try dsimp only at H); have A19 := Aside0.mk A190; clear A190; replace H := Option.bind_eq_some_iff.mp H; obtain ⟨⟨t615, t616⟩, A200, H⟩ := H; (try dsimp only at H); have A20 := Aside0.mk A200; clear A200; replace H := Option.bind_eq_some_iff.mp H; obtain ⟨⟨t619, t620⟩, A210, H⟩ := H; (try dsimp only at H); have A21 := Aside0.mk A210; clear A210; replace H := Option.bind_eq_some_iff.mp H; obtain ⟨⟨t623, t624⟩, A220, H⟩ := H; (try dsimp only at H); have A22 := Aside0.mk A220; clear A220; replace H := Option.bind_eq_some_iff.mp H; obtain ⟨⟨t627, t628⟩, A230, H⟩ := H; (try dsimp only at H); have A23 := Aside0.mk A230; clear A230; have HC24 := Aside0.mk H; clear H; have hnb25 := NB601_602.out; have hnc25 := NB602_601.out; have hcz26_0 : wc.cell? ⟨gb601, 0, none⟩ = some (.int .i64 a1_0) := (blk_cell BK601.out 0).trans rfl; have hcz26_1 : wc.cell? ⟨gb601, 1, none⟩ = some (.int .i64 a1_1) := (blk_cell BK601.out 1).trans rfl; have hfz26_0 := blk_frozen BK601.out 0; have hfz26_1 := blk_frozen BK601.out 1
      go_upto_region 10 with (first | ((with_reducible refine gate_callee (f := 24) rfl ?_); refine goesL_ (some 53) rfl rfl Try.func24 (by kernel_rfl) rfl #[.slice A0 l0.length c0, .int .i64 a1_0, .int .i64 a1_1] rfl (by (try simp only [List.map_toArray, List.map_cons, List.map_nil]); first | done | rfl | (simp only [List.length_drop, List.length_take]; rfl)) ?_; (with_reducible refine (pull_Number.calls kj3 _ _ l0 a1_0 a1_1 t605 t606 _ ?side1 ?side2 A17.out).mono ?_); (case side1 => repeat (first | exact (Kd.C_below HR0.out HB.out) | (with_reducible refine Kd.C_alloc ?_ _) | (with_reducible refine Kd.C_drewN ?_ _) | (with_reducible refine Kd.C_drew ?_))); (case side2 => exact HC0.out); rintro e w27 ⟨rfl, hb⟩; refine ⟨_, rfl, ?_⟩; have n0_ := Aside0.mk (Kd.V_below (by (with_reducible repeat (first | apply Kd.V_alloc | apply Kd.V_drewN | apply Kd.V_drew)); exact HO_603000.out) hb); have n1_ := Aside0.mk (bkB BK601 hb); have n2_ := Aside0.mk (bkB BK602 hb); have n3_ := Aside0.mk (below_step (by repeat (first | (with_reducible first | exact HB.out | apply below_alloc | apply pw_below_drewN | apply below_drew1 | refine below_set ?_ GE601.out | refine below_set ?_ GE602.out) | exact HB.out)) hb); clear HO_603000; clear BK601; clear BK602; clear HB; have HO_603000 := n0_; have BK601 := n1_; have BK602 := n2_; have HB := n3_; clear n0_ n1_ n2_ n3_; (try clear hb); (try clear hb2); (try clear hk); (try clear hi); have hcz28_0 : w27.cell? ⟨gb601, 0, none⟩ = some (.int .i64 a1_0) := (blk_cell BK601.out 0).trans rfl; have hcz28_1 : w27.cell? ⟨gb601, 1, none⟩ = some (.int .i64 a1_1) := (blk_cell BK601.out 1).trans rfl; have hfz28_0 := blk_frozen BK601.out 0; have hfz28_1 := blk_frozen BK601.out 1) | ((with_reducible refine gate_callee (f := 31) rfl ?_); refine goesL_ (some 62) rfl rfl Try.func31 (by kernel_rfl) rfl #[.slice A0 l0.length c0, .int .i64 a1_0, .int .i64 a1_1] rfl (by (try simp only [List.map_toArray, List.map_cons, List.map_nil]); first | done | rfl | (simp only [List.length_drop, List.length_take]; rfl)) ?_; (with_reducible refine (pull_Fewest.calls kj3 _ _ l0 a1_0 a1_1 t607 t608 _ ?side1 ?side2 A18.out).mono ?_); (case side1 => repeat (first | exact (Kd.C_below HR0.out HB.out) | (with_reducible refine Kd.C_alloc ?_ _) | (with_reducible refine Kd.C_drewN ?_ _) | (with_reducible refine Kd.C_drew ?_))); (case side2 => exact HC0.out); rintro e w29 ⟨v609, rfl, ho0, hb⟩; refine ⟨_, rfl, ?_⟩; have n0_ := Aside0.mk (Kd.V_elder' (by (with_reducible repeat (first | apply Kd.V_alloc | apply Kd.V_drewN | apply Kd.V_drew)); exact HO_603000.out) (Kd.R_base ho0) hb); have n1_ := Aside0.mk (Kd.R_lower (Kd.R_newM (M := fun k_ => (w.heap.size ≤ k_)) ho0 (below_size (by repeat (first | (with_reducible first | exact HB.out | apply below_alloc | apply pw_below_drewN | apply below_drew1 | refine below_set ?_ GE601.out | refine below_set ?_ GE602.out) | exact HB.out))) (fun k_ h_ => h_)) (below_size (by repeat (first | (with_reducible first | exact HB.out | apply below_alloc | apply pw_below_drewN | apply below_drew1 | refine below_set ?_ GE601.out | refine below_set ?_ GE602.out) | exact HB.out)))); have n2_ := Aside0.mk (bkB BK601 hb); have n3_ := Aside0.mk (bkB BK602 hb); have n4_ := Aside0.mk (below_step (by repeat (first | (with_reducible first | exact HB.out | apply below_alloc | apply pw_below_drewN | apply below_drew1 | refine below_set ?_ GE601.out | refine below_set ?_ GE602.out) | exact HB.out)) hb); clear HO_603000; clear BK601; clear BK602; clear HB; have HO_603000 := n0_; have HO610 := n1_; have BK601 := n2_; have BK602 := n3_; have HB := n4_; clear n0_ n1_ n2_ n3_ n4_; (try clear hb); (try clear hb2); (try clear hk); (try clear hi); (try clear ho0); have hcz30_0 : w29.cell? ⟨gb601, 0, none⟩ = some (.int .i64 a1_0) := (blk_cell BK601.out 0).trans rfl; have hcz30_1 : w29.cell? ⟨gb601, 1, none⟩ = some (.int .i64 a1_1) := (blk_cell BK601.out 1).trans rfl; have hfz30_0 := blk_frozen BK601.out 0; have hfz30_1 := blk_frozen BK601.out 1) | ((with_reducible refine gate_callee (f := 32) rfl ?_); refine goesL_ (some 71) rfl rfl Try.func32 (by kernel_rfl) rfl #[.slice A0 l0.length c0, .int .i64 a1_0, .int .i64 a1_1] rfl (by (try simp only [List.map_toArray, List.map_cons, List.map_nil]); first | done | rfl | (simp only [List.length_drop, List.length_take]; rfl)) ?_; (with_reducible refine (pull_Most.calls kj3 _ _ l0 a1_0 a1_1 t611 t612 _ ?side1 ?side2 A19.out).mono ?_); (case side1 => repeat (first | exact (Kd.C_below HR0.out HB.out) | (with_reducible refine Kd.C_alloc ?_ _) | (with_reducible refine Kd.C_drewN ?_ _) | (with_reducible refine Kd.C_drew ?_))); (case side2 => exact HC0.out); rintro e w31 ⟨v613, rfl, ho0, hb⟩; refine ⟨_, rfl, ?_⟩; have n0_ := Aside0.mk (Kd.V_elder' (by (with_reducible repeat (first | apply Kd.V_alloc | apply Kd.V_drewN | apply Kd.V_drew)); exact HO_603000.out) (Kd.R_base ho0) hb); have n1_ := Aside0.mk (Kd.R_elder' (by (with_reducible repeat (first | apply Kd.R_alloc | apply Kd.R_drewN | apply Kd.R_drew)); exact HO610.out) (Kd.R_base ho0) hb); have n2_ := Aside0.mk (Kd.R_lower (Kd.R_new' (Kd.R_newM (M := fun k_ => (w.heap.size ≤ k_)) ho0 (below_size (by repeat (first | (with_reducible first | exact HB.out | apply below_alloc | apply pw_below_drewN | apply below_drew1 | refine below_set ?_ GE601.out | refine below_set ?_ GE602.out) | exact HB.out))) (fun k_ h_ => h_)) (Kd.R_lt (by (with_reducible repeat (first | apply Kd.R_alloc | apply Kd.R_drewN | apply Kd.R_drew)); exact HO610.out))) (below_size (by repeat (first | (with_reducible first | exact HB.out | apply below_alloc | apply pw_below_drewN | apply below_drew1 | refine below_set ?_ GE601.out | refine below_set ?_ GE602.out) | exact HB.out)))); have n3_ := Aside0.mk (bkB BK601 hb); have n4_ := Aside0.mk (bkB BK602 hb); have n5_ := Aside0.mk (below_step (by repeat (first | (with_reducible first | exact HB.out | apply below_alloc | apply pw_below_drewN | apply below_drew1 | refine below_set ?_ GE601.out | refine below_set ?_ GE602.out) | exact HB.out)) hb); clear HO_603000; clear HO610; clear BK601; clear BK602; clear HB; have HO_603000 := n0_; have HO610 := n1_; have HO614 := n2_; have BK601 := n3_; have BK602 := n4_; have HB := n5_; clear n0_ n1_ n2_ n3_ n4_ n5_; (try clear hb); (try clear hb2); (try clear hk); (try clear hi); (try clear ho0); have hcz32_0 : w31.cell? ⟨gb601, 0, none⟩ = some (.int .i64 a1_0) := (blk_cell BK601.out 0).trans rfl; have hcz32_1 : w31.cell? ⟨gb601, 1, none⟩ = some (.int .i64 a1_1) := (blk_cell BK601.out 1).trans rfl; have hfz32_0 := blk_frozen BK601.out 0; have hfz32_1 := blk_frozen BK601.out 1) | ((with_reducible refine gate_callee (f := 33) rfl ?_); refine goesL_ (some 80) rfl rfl Try.func33 (by kernel_rfl) rfl #[.slice A0 l0.length c0, .int .i64 a1_0, .int .i64 a1_1] rfl (by (try simp only [List.map_toArray, List.map_cons, List.map_nil]); first | done | rfl | (simp only [List.length_drop, List.length_take]; rfl)) ?_; (with_reducible refine (pull_Evenest.calls kj3 _ _ l0 a1_0 a1_1 t615 t616 _ ?side1 ?side2 A20.out).mono ?_); (case side1 => repeat (first | exact (Kd.C_below HR0.out HB.out) | (with_reducible refine Kd.C_alloc ?_ _) | (with_reducible refine Kd.C_drewN ?_ _) | (with_reducible refine Kd.C_drew ?_))); (case side2 => exact HC0.out); rintro e w33 ⟨v617, rfl, ho0, hb⟩; refine ⟨_, rfl, ?_⟩; have n0_ := Aside0.mk (Kd.V_elder' (by (with_reducible repeat (first | apply Kd.V_alloc | apply Kd.V_drewN | apply Kd.V_drew)); exact HO_603000.out) (Kd.R_base ho0) hb); have n1_ := Aside0.mk (Kd.R_elder' (by (with_reducible repeat (first | apply Kd.R_alloc | apply Kd.R_drewN | apply Kd.R_drew)); exact HO610.out) (Kd.R_base ho0) hb); have n2_ := Aside0.mk (Kd.R_elder' (by (with_reducible repeat (first | apply Kd.R_alloc | apply Kd.R_drewN | apply Kd.R_drew)); exact HO614.out) (Kd.R_base ho0) hb); have n3_ := Aside0.mk (Kd.R_lower (Kd.R_new' (Kd.R_new' (Kd.R_newM (M := fun k_ => (w.heap.size ≤ k_)) ho0 (below_size (by repeat (first | (with_reducible first | exact HB.out | apply below_alloc | apply pw_below_drewN | apply below_drew1 | refine below_set ?_ GE601.out | refine below_set ?_ GE602.out) | exact HB.out))) (fun k_ h_ => h_)) (Kd.R_lt (by (with_reducible repeat (first | apply Kd.R_alloc | apply Kd.R_drewN | apply Kd.R_drew)); exact HO610.out))) (Kd.R_lt (by (with_reducible repeat (first | apply Kd.R_alloc | apply Kd.R_drewN | apply Kd.R_drew)); exact HO614.out))) (below_size (by repeat (first | (with_reducible first | exact HB.out | apply below_alloc | apply pw_below_drewN | apply below_drew1 | refine below_set ?_ GE601.out | refine below_set ?_ GE602.out) | exact HB.out)))); have n4_ := Aside0.mk (bkB BK601 hb); have n5_ := Aside0.mk (bkB BK602 hb); have n6_ := Aside0.mk (below_step (by repeat (first | (with_reducible first | exact HB.out | apply below_alloc | apply pw_below_drewN | apply below_drew1 | refine below_set ?_ GE601.out | refine below_set ?_ GE602.out) | exact HB.out)) hb); clear HO_603000; clear HO610; clear HO614; clear BK601; clear BK602; clear HB; have HO_603000 := n0_; have HO610 := n1_; have HO614 := n2_; have HO618 := n3_; have BK601 := n4_; have BK602 := n5_; have HB := n6_; clear n0_ n1_ n2_ n3_ n4_ n5_ n6_; (try clear hb); (try clear hb2); (try clear hk); (try clear hi); (try clear ho0); have hcz34_0 : w33.cell? ⟨gb601, 0, none⟩ = some (.int .i64 a1_0) := (blk_cell BK601.out 0).trans rfl; have hcz34_1 : w33.cell? ⟨gb601, 1, none⟩ = some (.int .i64 a1_1) := (blk_cell BK601.out 1).trans rfl; have hfz34_0 := blk_frozen BK601.out 0; have hfz34_1 := blk_frozen BK601.out 1) | ((with_reducible refine gate_callee (f := 34) rfl ?_); refine goesL_ (some 89) rfl rfl Try.func34 (by kernel_rfl) rfl #[.slice A0 l0.length c0, .int .i64 a1_0, .int .i64 a1_1] rfl (by (try simp only [List.map_toArray, List.map_cons, List.map_nil]); first | done | rfl | (simp only [List.length_drop, List.length_take]; rfl)) ?_; (with_reducible refine (pull_Must.calls kj3 _ _ l0 a1_0 a1_1 t619 t620 _ ?side1 ?side2 A21.out).mono ?_); (case side1 => repeat (first | exact (Kd.C_below HR0.out HB.out) | (with_reducible refine Kd.C_alloc ?_ _) | (with_reducible refine Kd.C_drewN ?_ _) | (with_reducible refine Kd.C_drew ?_))); (case side2 => exact HC0.out); rintro e w35 ⟨v621, rfl, ho0, hb⟩; refine ⟨_, rfl, ?_⟩; have n0_ := Aside0.mk (Kd.V_elder' (by (with_reducible repeat (first | apply Kd.V_alloc | apply Kd.V_drewN | apply Kd.V_drew)); exact HO_603000.out) (Kd.R_base ho0) hb); have n1_ := Aside0.mk (Kd.R_elder' (by (with_reducible repeat (first | apply Kd.R_alloc | apply Kd.R_drewN | apply Kd.R_drew)); exact HO610.out) (Kd.R_base ho0) hb); have n2_ := Aside0.mk (Kd.R_elder' (by (with_reducible repeat (first | apply Kd.R_alloc | apply Kd.R_drewN | apply Kd.R_drew)); exact HO614.out) (Kd.R_base ho0) hb); have n3_ := Aside0.mk (Kd.R_elder' (by (with_reducible repeat (first | apply Kd.R_alloc | apply Kd.R_drewN | apply Kd.R_drew)); exact HO618.out) (Kd.R_base ho0) hb); have n4_ := Aside0.mk (Kd.R_lower (Kd.R_new' (Kd.R_new' (Kd.R_new' (Kd.R_newM (M := fun k_ => (w.heap.size ≤ k_)) ho0 (below_size (by repeat (first | (with_reducible first | exact HB.out | apply below_alloc | apply pw_below_drewN | apply below_drew1 | refine below_set ?_ GE601.out | refine below_set ?_ GE602.out) | exact HB.out))) (fun k_ h_ => h_)) (Kd.R_lt (by (with_reducible repeat (first | apply Kd.R_alloc | apply Kd.R_drewN | apply Kd.R_drew)); exact HO610.out))) (Kd.R_lt (by (with_reducible repeat (first | apply Kd.R_alloc | apply Kd.R_drewN | apply Kd.R_drew)); exact HO614.out))) (Kd.R_lt (by (with_reducible repeat (first | apply Kd.R_alloc | apply Kd.R_drewN | apply Kd.R_drew)); exact HO618.out))) (below_size (by repeat (first | (with_reducible first | exact HB.out | apply below_alloc | apply pw_below_drewN | apply below_drew1 | refine below_set ?_ GE601.out | refine below_set ?_ GE602.out) | exact HB.out)))); have n5_ := Aside0.mk (bkB BK601 hb); have n6_ := Aside0.mk (bkB BK602 hb); have n7_ := Aside0.mk (below_step (by repeat (first | (with_reducible first | exact HB.out | apply below_alloc | apply pw_below_drewN | apply below_drew1 | refine below_set ?_ GE601.out | refine below_set ?_ GE602.out) | exact HB.out)) hb); clear HO_603000; clear HO610; clear HO614; clear HO618; clear BK601; clear BK602; clear HB; have HO_603000 := n0_; have HO610 := n1_; have HO614 := n2_; have HO618 := n3_; have HO622 := n4_; have BK601 := n5_; have BK602 := n6_; have HB := n7_; clear n0_ n1_ n2_ n3_ n4_ n5_ n6_ n7_; (try clear hb); (try clear hb2); (try clear hk); (try clear hi); (try clear ho0); have hcz36_0 : w35.cell? ⟨gb601, 0, none⟩ = some (.int .i64 a1_0) := (blk_cell BK601.out 0).trans rfl; have hcz36_1 : w35.cell? ⟨gb601, 1, none⟩ = some (.int .i64 a1_1) := (blk_cell BK601.out 1).trans rfl; have hfz36_0 := blk_frozen BK601.out 0; have hfz36_1 := blk_frozen BK601.out 1) | ((with_reducible refine gate_callee (f := 30) rfl ?_); refine goesL_ (some 98) rfl rfl Try.func30 (by kernel_rfl) rfl #[.slice A0 l0.length c0, .int .i64 a1_0, .int .i64 a1_1] rfl (by (try simp only [List.map_toArray, List.map_cons, List.map_nil]); first | done | rfl | (simp only [List.length_drop, List.length_take]; rfl)) ?_; (with_reducible refine (pull_Anchors.calls kj3 _ _ l0 a1_0 a1_1 t623 t624 _ ?side1 ?side2 A22.out).mono ?_); (case side1 => repeat (first | exact (Kd.C_below HR0.out HB.out) | (with_reducible refine Kd.C_alloc ?_ _) | (with_reducible refine Kd.C_drewN ?_ _) | (with_reducible refine Kd.C_drew ?_))); (case side2 => exact HC0.out); rintro e w37 ⟨v625, rfl, ho0, hb⟩; refine ⟨_, rfl, ?_⟩; have n0_ := Aside0.mk (Kd.V_elder' (by (with_reducible repeat (first | apply Kd.V_alloc | apply Kd.V_drewN | apply Kd.V_drew)); exact HO_603000.out) (Kd.R_base ho0) hb); have n1_ := Aside0.mk (Kd.R_elder' (by (with_reducible repeat (first | apply Kd.R_alloc | apply Kd.R_drewN | apply Kd.R_drew)); exact HO610.out) (Kd.R_base ho0) hb); have n2_ := Aside0.mk (Kd.R_elder' (by (with_reducible repeat (first | apply Kd.R_alloc | apply Kd.R_drewN | apply Kd.R_drew)); exact HO614.out) (Kd.R_base ho0) hb); have n3_ := Aside0.mk (Kd.R_elder' (by (with_reducible repeat (first | apply Kd.R_alloc | apply Kd.R_drewN | apply Kd.R_drew)); exact HO618.out) (Kd.R_base ho0) hb); have n4_ := Aside0.mk (Kd.R_elder' (by (with_reducible repeat (first | apply Kd.R_alloc | apply Kd.R_drewN | apply Kd.R_drew)); exact HO622.out) (Kd.R_base ho0) hb); have n5_ := Aside0.mk (Kd.R_lower (Kd.R_new' (Kd.R_new' (Kd.R_new' (Kd.R_new' (Kd.R_newM (M := fun k_ => (w.heap.size ≤ k_)) ho0 (below_size (by repeat (first | (with_reducible first | exact HB.out | apply below_alloc | apply pw_below_drewN | apply below_drew1 | refine below_set ?_ GE601.out | refine below_set ?_ GE602.out) | exact HB.out))) (fun k_ h_ => h_)) (Kd.R_lt (by (with_reducible repeat (first | apply Kd.R_alloc | apply Kd.R_drewN | apply Kd.R_drew)); exact HO610.out))) (Kd.R_lt (by (with_reducible repeat (first | apply Kd.R_alloc | apply Kd.R_drewN | apply Kd.R_drew)); exact HO614.out))) (Kd.R_lt (by (with_reducible repeat (first | apply Kd.R_alloc | apply Kd.R_drewN | apply Kd.R_drew)); exact HO618.out))) (Kd.R_lt (by (with_reducible repeat (first | apply Kd.R_alloc | apply Kd.R_drewN | apply Kd.R_drew)); exact HO622.out))) (below_size (by repeat (first | (with_reducible first | exact HB.out | apply below_alloc | apply pw_below_drewN | apply below_drew1 | refine below_set ?_ GE601.out | refine below_set ?_ GE602.out) | exact HB.out)))); have n6_ := Aside0.mk (bkB BK601 hb); have n7_ := Aside0.mk (bkB BK602 hb); have n8_ := Aside0.mk (below_step (by repeat (first | (with_reducible first | exact HB.out | apply below_alloc | apply pw_below_drewN | apply below_drew1 | refine below_set ?_ GE601.out | refine below_set ?_ GE602.out) | exact HB.out)) hb); clear HO_603000; clear HO610; clear HO614; clear HO618; clear HO622; clear BK601; clear BK602; clear HB; have HO_603000 := n0_; have HO610 := n1_; have HO614 := n2_; have HO618 := n3_; have HO622 := n4_; have HO626 := n5_; have BK601 := n6_; have BK602 := n7_; have HB := n8_; clear n0_ n1_ n2_ n3_ n4_ n5_ n6_ n7_ n8_; (try clear hb); (try clear hb2); (try clear hk); (try clear hi); (try clear ho0); have hcz38_0 : w37.cell? ⟨gb601, 0, none⟩ = some (.int .i64 a1_0) := (blk_cell BK601.out 0).trans rfl; have hcz38_1 : w37.cell? ⟨gb601, 1, none⟩ = some (.int .i64 a1_1) := (blk_cell BK601.out 1).trans rfl; have hfz38_0 := blk_frozen BK601.out 0; have hfz38_1 := blk_frozen BK601.out 1; have hcz39_0 : w37.cell? ⟨gb602, 0, none⟩ = some (.slice A2_0 l2_0.length c2_0) := (blk_cell BK602.out 0).trans rfl; have hcz39_1 : w37.cell? ⟨gb602, 1, none⟩ = some (.int .u32 a2_1) := (blk_cell BK602.out 1).trans rfl; have hfz39_0 := blk_frozen BK602.out 0; have hfz39_1 := blk_frozen BK602.out 1) | ((with_reducible refine gate_callee (f := 35) rfl ?_); refine goesL_ (some 109) rfl rfl Try.func35 (by kernel_rfl) rfl #[.slice A0 l0.length c0, .int .i64 a1_0, .int .i64 a1_1, .slice A2_0 l2_0.length c2_0] rfl (by (try simp only [List.map_toArray, List.map_cons, List.map_nil]); first | done | rfl | (simp only [List.length_drop, List.length_take]; rfl)) ?_; (with_reducible refine (pull_IsPlan.calls kj3 _ _ l0 a1_0 a1_1 _ _ l2_0 t627 t628 _ ?side1 ?side2 ?side3 ?side4 A23.out).mono ?_); (case side1 => repeat (first | exact (Kd.C_below HR0.out HB.out) | (with_reducible refine Kd.C_alloc ?_ _) | (with_reducible refine Kd.C_drewN ?_ _) | (with_reducible refine Kd.C_drew ?_))); (case side2 => exact HC0.out); (case side3 => repeat (first | exact (Kd.V_reads' HO_603000.out).2.2 | (with_reducible refine Kd.C_alloc ?_ _) | (with_reducible refine Kd.C_drewN ?_ _) | (with_reducible refine Kd.C_drew ?_))); (case side4 => exact (Kd.V_reads' HO_603000.out).2.1); rintro e w40 ⟨rfl, hb⟩; refine ⟨_, rfl, ?_⟩; have n0_ := Aside0.mk (Kd.V_below (by (with_reducible repeat (first | apply Kd.V_alloc | apply Kd.V_drewN | apply Kd.V_drew)); exact HO_603000.out) hb); have n1_ := Aside0.mk (Kd.R_below (by (with_reducible repeat (first | apply Kd.R_alloc | apply Kd.R_drewN | apply Kd.R_drew)); exact HO610.out) hb); have n2_ := Aside0.mk (Kd.R_below (by (with_reducible repeat (first | apply Kd.R_alloc | apply Kd.R_drewN | apply Kd.R_drew)); exact HO614.out) hb); have n3_ := Aside0.mk (Kd.R_below (by (with_reducible repeat (first | apply Kd.R_alloc | apply Kd.R_drewN | apply Kd.R_drew)); exact HO618.out) hb); have n4_ := Aside0.mk (Kd.R_below (by (with_reducible repeat (first | apply Kd.R_alloc | apply Kd.R_drewN | apply Kd.R_drew)); exact HO622.out) hb); have n5_ := Aside0.mk (Kd.R_below (by (with_reducible repeat (first | apply Kd.R_alloc | apply Kd.R_drewN | apply Kd.R_drew)); exact HO626.out) hb); have n6_ := Aside0.mk (bkB BK601 hb); have n7_ := Aside0.mk (bkB BK602 hb); have n8_ := Aside0.mk (below_step (by repeat (first | (with_reducible first | exact HB.out | apply below_alloc | apply pw_below_drewN | apply below_drew1 | refine below_set ?_ GE601.out | refine below_set ?_ GE602.out) | exact HB.out)) hb); clear HO_603000; clear HO610; clear HO614; clear HO618; clear HO622; clear HO626; clear BK601; clear BK602; clear HB; have HO_603000 := n0_; have HO610 := n1_; have HO614 := n2_; have HO618 := n3_; have HO622 := n4_; have HO626 := n5_; have BK601 := n6_; have BK602 := n7_; have HB := n8_; clear n0_ n1_ n2_ n3_ n4_ n5_ n6_ n7_ n8_; (try clear hb); (try clear hb2); (try clear hk); (try clear hi)))
      (try simp only [Act.put, List.setIfInBounds_toArray, List.set_cons_zero, List.set_cons_succ])
      go_cut [125] (fun v125 wc => ∃ (kq : Nat) (x125_23 : Bool), v125 = .bool x125_23 ∧ Aside0 (droppertop_TopPull.j1 kq l0 t605 t607 t608 t611 t612 t615 t616 t619 t620 t623 t627 x125_23 a1_0 a1_1 l2_0 a2_1 = some r) ∧ Aside0 (kq ≤ kj3) ∧ Aside0 (Kd.R (Kd.int .i64) 3 wc w.heap.size (fun k_ => (w.heap.size ≤ k_) ∧ some k_ ≠ (v613 : Value).ownBlock ∧ some k_ ≠ (v617 : Value).ownBlock ∧ some k_ ≠ (v621 : Value).ownBlock ∧ some k_ ≠ (v625 : Value).ownBlock) v609 t607) ∧ Aside0 (Kd.R (Kd.int .i64) 3 wc w.heap.size (fun k_ => (w.heap.size ≤ k_) ∧ some k_ ≠ (v609 : Value).ownBlock ∧ some k_ ≠ (v617 : Value).ownBlock ∧ some k_ ≠ (v621 : Value).ownBlock ∧ some k_ ≠ (v625 : Value).ownBlock) v613 t611) ∧ Aside0 (Kd.R (Kd.int .i64) 3 wc w.heap.size (fun k_ => (w.heap.size ≤ k_) ∧ some k_ ≠ (v609 : Value).ownBlock ∧ some k_ ≠ (v613 : Value).ownBlock ∧ some k_ ≠ (v621 : Value).ownBlock ∧ some k_ ≠ (v625 : Value).ownBlock) v617 t615) ∧ Aside0 (Kd.R (Kd.int .i64) 3 wc w.heap.size (fun k_ => (w.heap.size ≤ k_) ∧ some k_ ≠ (v609 : Value).ownBlock ∧ some k_ ≠ (v613 : Value).ownBlock ∧ some k_ ≠ (v617 : Value).ownBlock ∧ some k_ ≠ (v625 : Value).ownBlock) v621 t619) ∧ Aside0 (Kd.R (Kd.int .i64) 3 wc w.heap.size (fun k_ => (w.heap.size ≤ k_) ∧ some k_ ≠ (v609 : Value).ownBlock ∧ some k_ ≠ (v613 : Value).ownBlock ∧ some k_ ≠ (v617 : Value).ownBlock ∧ some k_ ≠ (v621 : Value).ownBlock) v625 t623) ∧ Aside0 (Kd.V (Kd.int .i64) 3 wc w.heap.size (fun k_ => (P2_0_ k_ ∨ w.heap.size ≤ k_) ∧ some k_ ≠ (v609 : Value).ownBlock ∧ some k_ ≠ (v613 : Value).ownBlock ∧ some k_ ≠ (v617 : Value).ownBlock ∧ some k_ ≠ (v621 : Value).ownBlock ∧ some k_ ≠ (v625 : Value).ownBlock ∧ k_ ≠ gb601 ∧ k_ ≠ gb602) (.slice A2_0 l2_0.length c2_0) l2_0) ∧ Aside0 (wc.heap[gb601]? = some (.cells #[.int .i64 a1_0, .int .i64 a1_1] 39 (0, 0))) ∧ Aside0 (wc.heap[gb602]? = some (.cells #[(.slice A2_0 l2_0.length c2_0), .int .u32 a2_1] 52 (0, 0))) ∧ Aside0 (Below w.heap.size w wc))
      case first => as_aux_lemma =>
        have H := HC24.out; clear HC24; by_cases c41 : t606 = 0; rotate_left
        · rw [if_neg c41] at H; have c41b0 : (t606 == 0) = false := beq_eq_false_iff_ne.mpr c41; have c41b1 : (t606 != 0) = true := bne_iff_ne.mpr c41
          (first | rw [c41b0] | (simp only [i64_w, i32_w]; rw [c41b0]) | skip)
          exact absurd (H.trans (congrArg some hT)) (droppertop_TopPull.j1_no _ _ _ _ _ _ _ _ _ _ _ _ _ _ _ _ _)
        rw [if_pos c41] at H; have c41b0 : (t606 == 0) = true := beq_iff_eq.mpr c41; have c41b1 : (t606 != 0) = false := bne_eq_false_iff_eq.mpr c41; clear c41
        (first | rw [c41b0] | (simp only [i64_w, i32_w]; rw [c41b0]) | skip)
        by_cases c42 : t624 = 0; rotate_left
        · rw [if_neg c42] at H; have c42b0 : (t624 == 0) = false := beq_eq_false_iff_ne.mpr c42; have c42b1 : (t624 != 0) = true := bne_iff_ne.mpr c42; exact absurd (H.trans (congrArg some hT)) (droppertop_TopPull.j1_no _ _ _ _ _ _ _ _ _ _ _ _ _ _ _ _ _)
        rw [if_pos c42] at H; have c42b0 : (t624 == 0) = true := beq_iff_eq.mpr c42; have c42b1 : (t624 != 0) = false := bne_eq_false_iff_eq.mpr c42; clear c42; by_cases c43 : t628 = 0; rotate_left
        · rw [if_neg c43] at H; have c43b0 : (t628 == 0) = false := beq_eq_false_iff_ne.mpr c43; have c43b1 : (t628 != 0) = true := bne_iff_ne.mpr c43; exact absurd (H.trans (congrArg some hT)) (droppertop_TopPull.j1_no _ _ _ _ _ _ _ _ _ _ _ _ _ _ _ _ _)
        rw [if_pos c43] at H; have c43b0 : (t628 == 0) = true := beq_iff_eq.mpr c43; have c43b1 : (t628 != 0) = false := bne_eq_false_iff_eq.mpr c43; clear c43; have H' := Aside0.mk H; clear H
        go_wp2
        go_meet
        case rel => exact ⟨_, (decide (t605 < 0)), (by first | rfl | (simp; done) | (simp [*]; done)), H', ⟨by have := HJ3.out; first | omega | exact Nat.le_refl _⟩, ⟨by (with_reducible repeat (first | apply Kd.R_alloc | apply Kd.R_drewN | apply Kd.R_drew)); exact Kd.R_mono HO610.out (fun _ hk => ⟨hk.1.1.1.1.1, ⟨hk.1.1.1.2, ⟨hk.1.1.2, ⟨hk.1.2, hk.2⟩⟩⟩⟩)⟩, ⟨by (with_reducible repeat (first | apply Kd.R_alloc | apply Kd.R_drewN | apply Kd.R_drew)); exact Kd.R_mono HO614.out (fun _ hk => ⟨hk.1.1.1.1.1, ⟨hk.1.1.1.2, ⟨hk.1.1.2, ⟨hk.1.2, hk.2⟩⟩⟩⟩)⟩, ⟨by (with_reducible repeat (first | apply Kd.R_alloc | apply Kd.R_drewN | apply Kd.R_drew)); exact Kd.R_mono HO618.out (fun _ hk => ⟨hk.1.1.1.1.1, ⟨hk.1.1.1.2, ⟨hk.1.1.2, ⟨hk.1.2, hk.2⟩⟩⟩⟩)⟩, ⟨by (with_reducible repeat (first | apply Kd.R_alloc | apply Kd.R_drewN | apply Kd.R_drew)); exact Kd.R_mono HO622.out (fun _ hk => ⟨hk.1.1.1.1.1, ⟨hk.1.1.1.2, ⟨hk.1.1.2, ⟨hk.1.2, hk.2⟩⟩⟩⟩)⟩, ⟨by (with_reducible repeat (first | apply Kd.R_alloc | apply Kd.R_drewN | apply Kd.R_drew)); exact Kd.R_mono HO626.out (fun _ hk => ⟨hk.1.1.1.1.1, ⟨hk.1.1.1.2, ⟨hk.1.1.2, ⟨hk.1.2, hk.2⟩⟩⟩⟩)⟩, ⟨by (with_reducible repeat (first | apply Kd.V_alloc | apply Kd.V_drewN | apply Kd.V_drew)); exact Kd.V_mono HO_603000.out (fun _ hk => ⟨hk.1.1.1.1.1.1, ⟨hk.1.1.1.1.2, ⟨hk.1.1.1.2, ⟨hk.1.1.2, ⟨hk.1.2, ⟨hk.2, ⟨hk.1.1.1.1.1.2.1, hk.1.1.1.1.1.2.2⟩⟩⟩⟩⟩⟩⟩)⟩, ⟨bkU BK601⟩, ⟨bkU BK602⟩, ⟨by repeat (first | (with_reducible first | exact HB.out | apply below_alloc | apply pw_below_drewN | apply below_drew1 | refine below_set ?_ GE601.out | refine below_set ?_ GE602.out) | exact HB.out)⟩⟩
      case rest => as_aux_lemma =>
        clear HC24
        try clear c1
        try clear c2
        try clear p2
        try clear c3
        try clear c4
        try clear c7
        try clear c8
        try clear c9
        try clear c12
        try clear c14
        try clear c18
        try clear c24
        try clear c25
        try clear c29
        try clear c30
        try clear c31
        try clear c32
        try clear c33
        try clear c34
        try clear c35
        try clear c41
        try clear c41b0
        try clear c41b1
        try clear c42
        try clear c42b0
        try clear c42b1
        try clear c43
        try clear c43b0
        try clear c43b1
        try clear hcz10_0
        try clear hcz10_1
        try clear hcz11_0
        try clear hcz11_1
        try clear hcz13_0
        try clear hcz13_1
        try clear hcz26_0
        try clear hcz26_1
        try clear hcz28_0
        try clear hcz28_1
        try clear hcz30_0
        try clear hcz30_1
        try clear hcz32_0
        try clear hcz32_1
        try clear hcz34_0
        try clear hcz34_1
        try clear hcz36_0
        try clear hcz36_1
        try clear hcz38_0
        try clear hcz38_1
        try clear hcz39_0
        try clear hcz39_1
        try clear hfz10_0
        try clear hfz10_1
        try clear hfz11_0
        try clear hfz11_1
        try clear hfz13_0
        try clear hfz13_1
        try clear hfz26_0
        try clear hfz26_1
        try clear hfz28_0
        try clear hfz28_1
        try clear hfz30_0
        try clear hfz30_1
        try clear hfz32_0
        try clear hfz32_1
        try clear hfz34_0
        try clear hfz34_1
        try clear hfz36_0
        try clear hfz36_1
        try clear hfz38_0
        try clear hfz38_1
        try clear hfz39_0
        try clear hfz39_1
        try clear p2
        obtain ⟨kq, x125_23, rfl, HA, HJ23, HO_9, HO_11, HO_13, HO_15, HO_17, HO_603000, BK601, BK602, HB⟩ := hcut
        cases kq with
        | zero => exact absurd HA.out (by simp [droppertop_TopPull.j1])
        | succ kj23 =>
          have H := HA.out; clear HA; simp only [droppertop_TopPull.j1] at H; by_cases c44 : x125_23 = true
          · subst c44; rw [if_pos rfl] at H
            exact absurd (hT.symm.trans (Option.some.inj H).symm) (by decide)
          replace c44 := Bool.eq_false_iff.mpr c44; subst c44; rw [if_neg (show ¬ (false = true) by decide)] at H; by_cases c45 : t605 = 0
          · rw [if_pos c45] at H; have c45b0 : (t605 == 0) = true := beq_iff_eq.mpr c45; have c45b1 : (t605 != 0) = false := bne_eq_false_iff_eq.mpr c45; clear c45; by_cases c46 : t608 = 5; rotate_left
            · rw [if_neg c46] at H; have c46b0 : (t608 == 5) = false := beq_eq_false_iff_ne.mpr c46; have c46b1 : (t608 != 5) = true := bne_iff_ne.mpr c46
              exact absurd (hT.symm.trans (Option.some.inj H).symm) (by decide)
            rw [if_pos c46] at H; have c46b0 : (t608 == 5) = true := beq_iff_eq.mpr c46; have c46b1 : (t608 != 5) = false := bne_eq_false_iff_eq.mpr c46; clear c46; by_cases c47 : t612 = 5; rotate_left
            · rw [if_neg c47] at H; have c47b0 : (t612 == 5) = false := beq_eq_false_iff_ne.mpr c47; have c47b1 : (t612 != 5) = true := bne_iff_ne.mpr c47
              exact absurd (hT.symm.trans (Option.some.inj H).symm) (by decide)
            rw [if_pos c47] at H; have c47b0 : (t612 == 5) = true := beq_iff_eq.mpr c47; have c47b1 : (t612 != 5) = false := bne_eq_false_iff_eq.mpr c47; clear c47; by_cases c48 : t616 = 5; rotate_left
            · rw [if_neg c48] at H; have c48b0 : (t616 == 5) = false := beq_eq_false_iff_ne.mpr c48; have c48b1 : (t616 != 5) = true := bne_iff_ne.mpr c48
              exact absurd (hT.symm.trans (Option.some.inj H).symm) (by decide)
            rw [if_pos c48] at H; have c48b0 : (t616 == 5) = true := beq_iff_eq.mpr c48; have c48b1 : (t616 != 5) = false := bne_eq_false_iff_eq.mpr c48; clear c48; by_cases c49 : t620 = 5; rotate_left
            · rw [if_neg c49] at H; have c49b0 : (t620 == 5) = false := beq_eq_false_iff_ne.mpr c49; have c49b1 : (t620 != 5) = true := bne_iff_ne.mpr c49
              exact absurd (hT.symm.trans (Option.some.inj H).symm) (by decide)
            rw [if_pos c49] at H; have c49b0 : (t620 == 5) = true := beq_iff_eq.mpr c49; have c49b1 : (t620 != 5) = false := bne_eq_false_iff_eq.mpr c49; clear c49; by_cases c50 : (t623.length : Int) = 0; rotate_left
            · rw [if_neg c50] at H; have c50b0 : ((t623.length : Int) == 0) = false := beq_eq_false_iff_ne.mpr c50; have c50b1 : ((t623.length : Int) != 0) = true := bne_iff_ne.mpr c50
              have c50b2 : ¬ (t623 = []) := fun h_ => c50 (by rw [h_]; rfl)
              exact absurd (hT.symm.trans (Option.some.inj H).symm) (by decide)
            rw [if_pos c50] at H; have c50b0 : ((t623.length : Int) == 0) = true := beq_iff_eq.mpr c50; have c50b1 : ((t623.length : Int) != 0) = false := bne_eq_false_iff_eq.mpr c50; clear c50; by_cases c51 : t627 = true
            · subst c51; rw [if_pos rfl] at H
              exact absurd (hT.symm.trans (Option.some.inj H).symm) (by decide)
            replace c51 := Bool.eq_false_iff.mpr c51; subst c51; rw [if_neg (show ¬ (false = true) by decide)] at H; replace H := Option.bind_eq_some_iff.mp H; obtain ⟨t629, A520, H⟩ := H; (try dsimp only at H); have A52 := Aside0.mk A520; clear A520 hT; obtain rfl := Option.some.inj H; obtain ⟨Ao53, co53, eo53⟩ := Kd.R_slice HO_17.out; subst eo53
            go_wp2_with (first | (go_at_call 18; (with_reducible refine (dropperlaw04_Awake.calls kj23  t629 _ A52.out).mono ?_); rintro e w54 ⟨rfl, hb⟩; have n0_ := Aside0.mk (Kd.R_below (by (with_reducible repeat (first | apply Kd.R_alloc | apply Kd.R_drewN | apply Kd.R_drew)); exact HO_9.out) hb); have n1_ := Aside0.mk (Kd.R_below (by (with_reducible repeat (first | apply Kd.R_alloc | apply Kd.R_drewN | apply Kd.R_drew)); exact HO_11.out) hb); have n2_ := Aside0.mk (Kd.R_below (by (with_reducible repeat (first | apply Kd.R_alloc | apply Kd.R_drewN | apply Kd.R_drew)); exact HO_13.out) hb); have n3_ := Aside0.mk (Kd.R_below (by (with_reducible repeat (first | apply Kd.R_alloc | apply Kd.R_drewN | apply Kd.R_drew)); exact HO_15.out) hb); have n4_ := Aside0.mk (Kd.R_below (by (with_reducible repeat (first | apply Kd.R_alloc | apply Kd.R_drewN | apply Kd.R_drew)); exact HO_17.out) hb); have n5_ := Aside0.mk (Kd.V_below (by (with_reducible repeat (first | apply Kd.V_alloc | apply Kd.V_drewN | apply Kd.V_drew)); exact HO_603000.out) hb); have n6_ := Aside0.mk (bkB BK601 hb); have n7_ := Aside0.mk (bkB BK602 hb); have n8_ := Aside0.mk (below_step (by repeat (first | (with_reducible first | exact HB.out | apply below_alloc | apply pw_below_drewN | apply below_drew1 | refine below_set ?_ GE601.out | refine below_set ?_ GE602.out) | exact HB.out)) hb); clear HO_9; clear HO_11; clear HO_13; clear HO_15; clear HO_17; clear HO_603000; clear BK601; clear BK602; clear HB; have HO_9 := n0_; have HO_11 := n1_; have HO_13 := n2_; have HO_15 := n3_; have HO_17 := n4_; have HO_603000 := n5_; have BK601 := n6_; have BK602 := n7_; have HB := n8_; clear n0_ n1_ n2_ n3_ n4_ n5_ n6_ n7_ n8_; (try clear hb); (try clear hb2); (try clear hk); (try clear hi)))
            go_ret
            exact ⟨by first | rfl | (simp [errW_none, errW_some] <;> rfl) | (simp [*, errW_none, errW_some] <;> rfl), by repeat (first | (with_reducible first | exact HB.out | apply below_alloc | apply pw_below_drewN | apply below_drew1 | refine below_set ?_ GE601.out | refine below_set ?_ GE602.out) | exact HB.out)⟩
          rw [if_neg c45] at H; have c45b0 : (t605 == 0) = false := beq_eq_false_iff_ne.mpr c45; have c45b1 : (t605 != 0) = true := bne_iff_ne.mpr c45; have HC55 := Aside0.mk H; clear H
          go_upto_region 14 with (fail)
          go_cut [167] (fun v167 wc => ∃ (kq : Nat) (x167_54 : Bool), v167 = .bool x167_54 ∧ Aside0 (droppertop_TopPull.j2 kq l0 t605 t607 t611 t615 t619 t623 t627 x167_54 a1_0 a1_1 l2_0 a2_1 = some r) ∧ Aside0 (kq ≤ kj23) ∧ Aside0 (Kd.R (Kd.int .i64) 3 wc w.heap.size (fun k_ => (w.heap.size ≤ k_) ∧ some k_ ≠ (v613 : Value).ownBlock ∧ some k_ ≠ (v617 : Value).ownBlock ∧ some k_ ≠ (v621 : Value).ownBlock ∧ some k_ ≠ (v625 : Value).ownBlock) v609 t607) ∧ Aside0 (Kd.R (Kd.int .i64) 3 wc w.heap.size (fun k_ => (w.heap.size ≤ k_) ∧ some k_ ≠ (v609 : Value).ownBlock ∧ some k_ ≠ (v617 : Value).ownBlock ∧ some k_ ≠ (v621 : Value).ownBlock ∧ some k_ ≠ (v625 : Value).ownBlock) v613 t611) ∧ Aside0 (Kd.R (Kd.int .i64) 3 wc w.heap.size (fun k_ => (w.heap.size ≤ k_) ∧ some k_ ≠ (v609 : Value).ownBlock ∧ some k_ ≠ (v613 : Value).ownBlock ∧ some k_ ≠ (v621 : Value).ownBlock ∧ some k_ ≠ (v625 : Value).ownBlock) v617 t615) ∧ Aside0 (Kd.R (Kd.int .i64) 3 wc w.heap.size (fun k_ => (w.heap.size ≤ k_) ∧ some k_ ≠ (v609 : Value).ownBlock ∧ some k_ ≠ (v613 : Value).ownBlock ∧ some k_ ≠ (v617 : Value).ownBlock ∧ some k_ ≠ (v625 : Value).ownBlock) v621 t619) ∧ Aside0 (Kd.R (Kd.int .i64) 3 wc w.heap.size (fun k_ => (w.heap.size ≤ k_) ∧ some k_ ≠ (v609 : Value).ownBlock ∧ some k_ ≠ (v613 : Value).ownBlock ∧ some k_ ≠ (v617 : Value).ownBlock ∧ some k_ ≠ (v621 : Value).ownBlock) v625 t623) ∧ Aside0 (Kd.V (Kd.int .i64) 3 wc w.heap.size (fun k_ => (P2_0_ k_ ∨ w.heap.size ≤ k_) ∧ some k_ ≠ (v609 : Value).ownBlock ∧ some k_ ≠ (v613 : Value).ownBlock ∧ some k_ ≠ (v617 : Value).ownBlock ∧ some k_ ≠ (v621 : Value).ownBlock ∧ some k_ ≠ (v625 : Value).ownBlock ∧ k_ ≠ gb601 ∧ k_ ≠ gb602) (.slice A2_0 l2_0.length c2_0) l2_0) ∧ Aside0 (wc.heap[gb601]? = some (.cells #[.int .i64 a1_0, .int .i64 a1_1] 39 (0, 0))) ∧ Aside0 (wc.heap[gb602]? = some (.cells #[(.slice A2_0 l2_0.length c2_0), .int .u32 a2_1] 52 (0, 0))) ∧ Aside0 (Below w.heap.size w wc))
          case first => as_aux_lemma =>
            have H := HC55.out; clear HC55; by_cases c56 : t608 = 0; rotate_left
            · rw [if_neg c56] at H; have c56b0 : (t608 == 0) = false := beq_eq_false_iff_ne.mpr c56; have c56b1 : (t608 != 0) = true := bne_iff_ne.mpr c56
              (first | rw [c56b0] | (simp only [i64_w, i32_w]; rw [c56b0]) | skip)
              exact absurd (H.trans (congrArg some hT)) (droppertop_TopPull.j2_no _ _ _ _ _ _ _ _ _ _ _ _ _)
            rw [if_pos c56] at H; have c56b0 : (t608 == 0) = true := beq_iff_eq.mpr c56; have c56b1 : (t608 != 0) = false := bne_eq_false_iff_eq.mpr c56; clear c56
            (first | rw [c56b0] | (simp only [i64_w, i32_w]; rw [c56b0]) | skip)
            by_cases c57 : t612 = 0; rotate_left
            · rw [if_neg c57] at H; have c57b0 : (t612 == 0) = false := beq_eq_false_iff_ne.mpr c57; have c57b1 : (t612 != 0) = true := bne_iff_ne.mpr c57; exact absurd (H.trans (congrArg some hT)) (droppertop_TopPull.j2_no _ _ _ _ _ _ _ _ _ _ _ _ _)
            rw [if_pos c57] at H; have c57b0 : (t612 == 0) = true := beq_iff_eq.mpr c57; have c57b1 : (t612 != 0) = false := bne_eq_false_iff_eq.mpr c57; clear c57; by_cases c58 : t616 = 0; rotate_left
            · rw [if_neg c58] at H; have c58b0 : (t616 == 0) = false := beq_eq_false_iff_ne.mpr c58; have c58b1 : (t616 != 0) = true := bne_iff_ne.mpr c58; exact absurd (H.trans (congrArg some hT)) (droppertop_TopPull.j2_no _ _ _ _ _ _ _ _ _ _ _ _ _)
            rw [if_pos c58] at H; have c58b0 : (t616 == 0) = true := beq_iff_eq.mpr c58; have c58b1 : (t616 != 0) = false := bne_eq_false_iff_eq.mpr c58; clear c58; have H' := Aside0.mk H; clear H
            go_wp2
            go_meet
            case rel => exact ⟨_, ((t620 != 0)), (by first | rfl | (simp; done) | (simp [*]; done)), H', ⟨by have := HJ3.out; have := HJ23.out; first | omega | exact Nat.le_refl _⟩, ⟨by (with_reducible repeat (first | apply Kd.R_alloc | apply Kd.R_drewN | apply Kd.R_drew)); exact HO_9.out⟩, ⟨by (with_reducible repeat (first | apply Kd.R_alloc | apply Kd.R_drewN | apply Kd.R_drew)); exact HO_11.out⟩, ⟨by (with_reducible repeat (first | apply Kd.R_alloc | apply Kd.R_drewN | apply Kd.R_drew)); exact HO_13.out⟩, ⟨by (with_reducible repeat (first | apply Kd.R_alloc | apply Kd.R_drewN | apply Kd.R_drew)); exact HO_15.out⟩, ⟨by (with_reducible repeat (first | apply Kd.R_alloc | apply Kd.R_drewN | apply Kd.R_drew)); exact HO_17.out⟩, ⟨by (with_reducible repeat (first | apply Kd.V_alloc | apply Kd.V_drewN | apply Kd.V_drew)); exact HO_603000.out⟩, ⟨bkU BK601⟩, ⟨bkU BK602⟩, ⟨by repeat (first | (with_reducible first | exact HB.out | apply below_alloc | apply pw_below_drewN | apply below_drew1 | refine below_set ?_ GE601.out | refine below_set ?_ GE602.out) | exact HB.out)⟩⟩
          case rest => as_aux_lemma =>
            clear HC55
            try clear c1
            try clear c2
            try clear p2
            try clear c3
            try clear c4
            try clear c5
            try clear c7
            try clear c8
            try clear c9
            try clear c12
            try clear c14
            try clear c18
            try clear c24
            try clear c25
            try clear c29
            try clear c30
            try clear c31
            try clear c32
            try clear c33
            try clear c34
            try clear c35
            try clear c41
            try clear c41b0
            try clear c41b1
            try clear c42
            try clear c42b0
            try clear c42b1
            try clear c43
            try clear c43b0
            try clear c43b1
            try clear c44
            try clear c45
            try clear c45b0
            try clear c45b1
            try clear c46
            try clear c46b0
            try clear c46b1
            try clear c47
            try clear c47b0
            try clear c47b1
            try clear c48
            try clear c48b0
            try clear c48b1
            try clear c49
            try clear c49b0
            try clear c49b1
            try clear c50
            try clear c50b0
            try clear c50b1
            try clear c50b2
            try clear c51
            try clear c56
            try clear c56b0
            try clear c56b1
            try clear c57
            try clear c57b0
            try clear c57b1
            try clear c58
            try clear c58b0
            try clear c58b1
            try clear hcz10_0
            try clear hcz10_1
            try clear hcz11_0
            try clear hcz11_1
            try clear hcz13_0
            try clear hcz13_1
            try clear hcz26_0
            try clear hcz26_1
            try clear hcz28_0
            try clear hcz28_1
            try clear hcz30_0
            try clear hcz30_1
            try clear hcz32_0
            try clear hcz32_1
            try clear hcz34_0
            try clear hcz34_1
            try clear hcz36_0
            try clear hcz36_1
            try clear hcz38_0
            try clear hcz38_1
            try clear hcz39_0
            try clear hcz39_1
            try clear hfz10_0
            try clear hfz10_1
            try clear hfz11_0
            try clear hfz11_1
            try clear hfz13_0
            try clear hfz13_1
            try clear hfz26_0
            try clear hfz26_1
            try clear hfz28_0
            try clear hfz28_1
            try clear hfz30_0
            try clear hfz30_1
            try clear hfz32_0
            try clear hfz32_1
            try clear hfz34_0
            try clear hfz34_1
            try clear hfz36_0
            try clear hfz36_1
            try clear hfz38_0
            try clear hfz38_1
            try clear hfz39_0
            try clear hfz39_1
            try clear p2
            obtain ⟨kq, x167_54, rfl, HA, HJ54, HO_9, HO_11, HO_13, HO_15, HO_17, HO_603000, BK601, BK602, HB⟩ := hcut
            cases kq with
            | zero => exact absurd HA.out (by simp [droppertop_TopPull.j2])
            | succ kj54 =>
              have H := HA.out; clear HA; simp only [droppertop_TopPull.j2] at H; by_cases c59 : x167_54 = true
              · subst c59; rw [if_pos rfl] at H
                exact absurd (hT.symm.trans (Option.some.inj H).symm) (by decide)
              replace c59 := Bool.eq_false_iff.mpr c59; subst c59; rw [if_neg (show ¬ (false = true) by decide)] at H; by_cases c60 : t605 = 0
              · rw [if_pos c60] at H
                exact absurd H (by simp)
              rw [if_neg c60] at H; have c60b0 : (t605 == 0) = false := beq_eq_false_iff_ne.mpr c60; have c60b1 : (t605 != 0) = true := bne_iff_ne.mpr c60; replace H := Option.bind_eq_some_iff.mp H; obtain ⟨⟨t630, t631⟩, A610, H⟩ := H; (try dsimp only at H); have A61 := Aside0.mk A610; clear A610; replace H := Option.bind_eq_some_iff.mp H; obtain ⟨⟨t634, t635⟩, A620, H⟩ := H; (try dsimp only at H); have A62 := Aside0.mk A620; clear A620; have HC63 := Aside0.mk H; clear H
              try go_wp2
              have n0_ := Aside0.mk (Kd.R_drew HO_9.out); have n1_ := Aside0.mk (Kd.R_drew HO_11.out); have n2_ := Aside0.mk (Kd.R_drew HO_13.out); have n3_ := Aside0.mk (Kd.R_drew HO_15.out); have n4_ := Aside0.mk (Kd.R_drew HO_17.out); have n5_ := Aside0.mk (Kd.V_drew HO_603000.out); have n6_ := Aside0.mk (blk_drew BK601.out); have n7_ := Aside0.mk (blk_drew BK602.out); have n8_ := Aside0.mk (below_drew1 HB.out); clear HO_9 HO_11 HO_13 HO_15 HO_17 HO_603000 BK601 BK602 HB; have HO_9 := n0_; have HO_11 := n1_; have HO_13 := n2_; have HO_15 := n3_; have HO_17 := n4_; have HO_603000 := n5_; have BK601 := n6_; have BK602 := n7_; have HB := n8_; clear n0_ n1_ n2_ n3_ n4_ n5_ n6_ n7_ n8_
              refine start_ (n := 16) (S := fun w' => w'.cell? ⟨gb601, 0, none⟩ = some (.int .i64 a1_0) ∧ w'.cell? ⟨gb601, 1, none⟩ = some (.int .i64 a1_1) ∧ w'.cell? ⟨gb602, 0, none⟩ = some (.slice A2_0 l2_0.length c2_0) ∧ w'.cell? ⟨gb602, 1, none⟩ = some (.int .u32 a2_1)) (ds := []) (mkB 16 0) (by kernel_rfl) rfl rfl ⟨(blk_cell BK601.out 0).trans rfl, (blk_cell BK601.out 1).trans rfl, (blk_cell BK602.out 0).trans rfl, (blk_cell BK602.out 1).trans rfl⟩ (fun hHeld => ?_); refine with_tabW droppertop_TopPull.tab16 droppertop_TopPull.bits16 (fun HT_ HW_ => ?_)
              generalize wc.drew = w64 at HO_9 HO_11 HO_13 HO_15 HO_17 HO_603000 BK601 BK602 HB hHeld ⊢; refine pr_ 0 (some 169) (mkB 16 1) HT_ ?_; refine pr_ 1 (some 170) (mkB 16 3) HT_ ?_; refine pr_ 3 (some 172) (mkB 16 11) HT_ ?_; refine pr_ 5 (some 174) (mkB 16 43) HT_ ?_; refine pr_ 8 (some 177) (mkB 16 299) HT_ ?_
              refine take_ (i := 2) (N := some 171) (v := ?_) (a' := ?_) (mkB 16 303) rfl rfl (take_ofW HT_.out HW_.out (by kernel_rfl)) (fun _ _ _ h => h) (Or.inl ⟨by rfl, ?_⟩) hHeld ?_ ?_
              rotate_left
              · rintro w' ⟨s0, s1, s2, s3⟩
                go_simp
                with_reducible rfl
              rotate_left
              · simp only [Act.put, List.setIfInBounds_toArray, List.set_cons_zero, List.set_cons_succ, i64_w, i32_w]
                rfl
              refine take_ (i := 4) (N := some 173) (v := ?_) (a' := ?_) (mkB 16 319) rfl rfl (take_ofW HT_.out HW_.out (by kernel_rfl)) (fun _ _ _ h => h) (Or.inl ⟨by rfl, ?_⟩) hHeld ?_ ?_
              rotate_left
              · rintro w' ⟨s0, s1, s2, s3⟩
                go_simp
                with_reducible rfl
              rotate_left
              · simp only [Act.put, List.setIfInBounds_toArray, List.set_cons_zero, List.set_cons_succ, i64_w, i32_w]
                rfl
              refine take_ (i := 6) (N := some 175) (v := ?_) (a' := ?_) (mkB 16 383) rfl rfl (take_ofW HT_.out HW_.out (by kernel_rfl)) (fun _ _ _ h => h) (Or.inl ⟨by rfl, ?_⟩) hHeld ?_ ?_
              rotate_left
              · rintro w' ⟨s0, s1, s2, s3⟩
                go_simp
                with_reducible rfl
              rotate_left
              · simp only [Act.put, List.setIfInBounds_toArray, List.set_cons_zero, List.set_cons_succ, i64_w, i32_w]
                rfl
              refine pr_ 7 (some 176) (mkB 16 511) HT_ ?_; refine pr_ 9 (some 178) (mkB 16 1023) HT_ ?_
              refine one_ (i := 10) (N := some 179) (mkB 16 2047) rfl rfl (one_of HT_.out (by kernel_rfl)) (by decide) (fun K hK => ?_)
              refine goes_ Try.func26 (by kernel_rfl) rfl #[.slice A0 l0.length c0, .int .i64 a1_0, .int .i64 a1_1, .int .i64 (Int.tmod (wrap64 (a2_1)) t605)] (by rfl) rfl rfl (by (try simp only [List.map_toArray, List.map_cons, List.map_nil]); first | done | rfl | (simp only [List.length_drop, List.length_take]; rfl)) ?_
              with_reducible refine (pull_Plan.calls kj54 _ _ l0 a1_0 a1_1 (Int.tmod (wrap64 (a2_1)) t605) t630 t631 _ ?side1 ?side2 A61.out).mono ?_
              (case side1 => repeat (first | exact (Kd.C_below HR0.out HB.out) | (with_reducible refine Kd.C_alloc ?_ _) | (with_reducible refine Kd.C_drewN ?_ _) | (with_reducible refine Kd.C_drew ?_)))
              (case side2 => exact HC0.out)
              rintro e w65 ⟨v632, rfl, ho0, hb⟩
              refine ⟨_, rfl, ?_⟩
              have n0_ := Aside0.mk (Kd.R_elder' (by (with_reducible repeat (first | apply Kd.R_alloc | apply Kd.R_drewN | apply Kd.R_drew)); exact HO_9.out) (Kd.R_base ho0) hb)
              have n1_ := Aside0.mk (Kd.R_elder' (by (with_reducible repeat (first | apply Kd.R_alloc | apply Kd.R_drewN | apply Kd.R_drew)); exact HO_11.out) (Kd.R_base ho0) hb)
              have n2_ := Aside0.mk (Kd.R_elder' (by (with_reducible repeat (first | apply Kd.R_alloc | apply Kd.R_drewN | apply Kd.R_drew)); exact HO_13.out) (Kd.R_base ho0) hb)
              have n3_ := Aside0.mk (Kd.R_elder' (by (with_reducible repeat (first | apply Kd.R_alloc | apply Kd.R_drewN | apply Kd.R_drew)); exact HO_15.out) (Kd.R_base ho0) hb)
              have n4_ := Aside0.mk (Kd.R_elder' (by (with_reducible repeat (first | apply Kd.R_alloc | apply Kd.R_drewN | apply Kd.R_drew)); exact HO_17.out) (Kd.R_base ho0) hb)
              have n5_ := Aside0.mk (Kd.V_elder' (by (with_reducible repeat (first | apply Kd.V_alloc | apply Kd.V_drewN | apply Kd.V_drew)); exact HO_603000.out) (Kd.R_base ho0) hb)
              have n6_ := Aside0.mk (Kd.R_lower (Kd.R_new' (Kd.R_new' (Kd.R_new' (Kd.R_new' (Kd.R_new' (Kd.R_newM (M := fun k_ => (w.heap.size ≤ k_)) ho0 (below_size (by repeat (first | (with_reducible first | exact HB.out | apply below_alloc | apply pw_below_drewN | apply below_drew1 | refine below_set ?_ GE601.out | refine below_set ?_ GE602.out) | exact HB.out))) (fun k_ h_ => h_)) (Kd.R_lt (by (with_reducible repeat (first | apply Kd.R_alloc | apply Kd.R_drewN | apply Kd.R_drew)); exact HO_9.out))) (Kd.R_lt (by (with_reducible repeat (first | apply Kd.R_alloc | apply Kd.R_drewN | apply Kd.R_drew)); exact HO_11.out))) (Kd.R_lt (by (with_reducible repeat (first | apply Kd.R_alloc | apply Kd.R_drewN | apply Kd.R_drew)); exact HO_13.out))) (Kd.R_lt (by (with_reducible repeat (first | apply Kd.R_alloc | apply Kd.R_drewN | apply Kd.R_drew)); exact HO_15.out))) (Kd.R_lt (by (with_reducible repeat (first | apply Kd.R_alloc | apply Kd.R_drewN | apply Kd.R_drew)); exact HO_17.out))) (below_size (by repeat (first | (with_reducible first | exact HB.out | apply below_alloc | apply pw_below_drewN | apply below_drew1 | refine below_set ?_ GE601.out | refine below_set ?_ GE602.out) | exact HB.out))))
              have n7_ := Aside0.mk (bkB BK601 hb); have n8_ := Aside0.mk (bkB BK602 hb)
              have n9_ := Aside0.mk (below_step (by repeat (first | (with_reducible first | exact HB.out | apply below_alloc | apply pw_below_drewN | apply below_drew1 | refine below_set ?_ GE601.out | refine below_set ?_ GE602.out) | exact HB.out)) hb)
              clear HO_9; clear HO_11 HO_13 HO_15 HO_17 HO_603000 BK601 BK602 HB; have HO_9 := n0_; have HO_11 := n1_; have HO_13 := n2_; have HO_15 := n3_; have HO_17 := n4_; have HO_603000 := n5_; have HO633 := n6_; have BK601 := n7_; have BK602 := n8_; have HB := n9_; clear n0_ n1_ n2_ n3_ n4_ n5_ n6_ n7_ n8_ n9_
              (try clear hb)
              (try clear hb2)
              (try clear hk)
              (try clear hi)
              (try clear ho0)
              refine hK.out _ _ ⟨(blk_cell BK601.out 0).trans rfl, (blk_cell BK601.out 1).trans rfl, (blk_cell BK602.out 0).trans rfl, (blk_cell BK602.out 1).trans rfl⟩ (fun hHeld => ?_)
              clear hK K
              refine norm_ (a' := ?_) ?_ ?_
              rotate_left
              · show Act.put _ (some 179) _ = _
                simp only [Act.put, List.setIfInBounds_toArray, List.set_cons_zero, List.set_cons_succ, i64_w, i32_w]
                rfl
              refine pr_ 11 (some 168) (mkB 16 4095) HT_ ?_; refine pr_ 12 (some 180) (mkB 16 8191) HT_ ?_; refine pr_ 13 (some 181) (mkB 16 16383) HT_ ?_; refine pr_ 14 (some 21) (mkB 16 32767) HT_ ?_; refine pr_ 15 (some 8) (mkB 16 65535) HT_ ?_
              refine done_ (done_of HT_.out (by kernel_rfl)) ?_
              have hnb66 := NB601_602.out; have hnc66 := NB602_601.out; have hcz67_0 : w65.cell? ⟨gb601, 0, none⟩ = some (.int .i64 a1_0) := (blk_cell BK601.out 0).trans rfl; have hcz67_1 : w65.cell? ⟨gb601, 1, none⟩ = some (.int .i64 a1_1) := (blk_cell BK601.out 1).trans rfl; have hfz67_0 := blk_frozen BK601.out 0; have hfz67_1 := blk_frozen BK601.out 1; obtain ⟨Ao68, co68, eo68⟩ := Kd.R_slice HO633.out; subst eo68
              go_upto_region 18 with (first | ((with_reducible refine gate_callee (f := 36) rfl ?_); refine goesL_ (some 189) rfl rfl Try.func36 (by kernel_rfl) rfl #[.slice A0 l0.length c0, .int .i64 a1_0, .int .i64 a1_1, .slice Ao68 t630.length co68] rfl (by (try simp only [List.map_toArray, List.map_cons, List.map_nil]); first | done | rfl | (simp only [List.length_drop, List.length_take]; rfl)) ?_; (with_reducible refine (pull_Rank.calls kj54 _ _ l0 a1_0 a1_1 _ _ t630 t634 t635 _ ?side1 ?side2 ?side3 ?side4 A62.out).mono ?_); (case side1 => repeat (first | exact (Kd.C_below HR0.out HB.out) | (with_reducible refine Kd.C_alloc ?_ _) | (with_reducible refine Kd.C_drewN ?_ _) | (with_reducible refine Kd.C_drew ?_))); (case side2 => exact HC0.out); (case side3 => repeat (first | exact (Kd.R_reads' HO633.out).2.2 | (with_reducible refine Kd.C_alloc ?_ _) | (with_reducible refine Kd.C_drewN ?_ _) | (with_reducible refine Kd.C_drew ?_))); (case side4 => exact (Kd.R_reads' HO633.out).2.1); rintro e w69 ⟨rfl, hb⟩; refine ⟨_, rfl, ?_⟩; have n0_ := Aside0.mk (Kd.R_below (by (with_reducible repeat (first | apply Kd.R_alloc | apply Kd.R_drewN | apply Kd.R_drew)); exact HO_9.out) hb); have n1_ := Aside0.mk (Kd.R_below (by (with_reducible repeat (first | apply Kd.R_alloc | apply Kd.R_drewN | apply Kd.R_drew)); exact HO_11.out) hb); have n2_ := Aside0.mk (Kd.R_below (by (with_reducible repeat (first | apply Kd.R_alloc | apply Kd.R_drewN | apply Kd.R_drew)); exact HO_13.out) hb); have n3_ := Aside0.mk (Kd.R_below (by (with_reducible repeat (first | apply Kd.R_alloc | apply Kd.R_drewN | apply Kd.R_drew)); exact HO_15.out) hb); have n4_ := Aside0.mk (Kd.R_below (by (with_reducible repeat (first | apply Kd.R_alloc | apply Kd.R_drewN | apply Kd.R_drew)); exact HO_17.out) hb); have n5_ := Aside0.mk (Kd.V_below (by (with_reducible repeat (first | apply Kd.V_alloc | apply Kd.V_drewN | apply Kd.V_drew)); exact HO_603000.out) hb); have n6_ := Aside0.mk (Kd.R_below (by (with_reducible repeat (first | apply Kd.R_alloc | apply Kd.R_drewN | apply Kd.R_drew)); exact HO633.out) hb); have n7_ := Aside0.mk (bkB BK601 hb); have n8_ := Aside0.mk (bkB BK602 hb); have n9_ := Aside0.mk (below_step (by repeat (first | (with_reducible first | exact HB.out | apply below_alloc | apply pw_below_drewN | apply below_drew1 | refine below_set ?_ GE601.out | refine below_set ?_ GE602.out) | exact HB.out)) hb); clear HO_9; clear HO_11; clear HO_13; clear HO_15; clear HO_17; clear HO_603000; clear HO633; clear BK601; clear BK602; clear HB; have HO_9 := n0_; have HO_11 := n1_; have HO_13 := n2_; have HO_15 := n3_; have HO_17 := n4_; have HO_603000 := n5_; have HO633 := n6_; have BK601 := n7_; have BK602 := n8_; have HB := n9_; clear n0_ n1_ n2_ n3_ n4_ n5_ n6_ n7_ n8_ n9_; (try clear hb); (try clear hb2); (try clear hk); (try clear hi)))
              (try simp only [Act.put, List.setIfInBounds_toArray, List.set_cons_zero, List.set_cons_succ])
              go_cut [206] (fun v206 wc => ∃ (kq : Nat) (x206_62 : Bool), v206 = .bool x206_62 ∧ Aside0 (droppertop_TopPull.j3 kq l0 t605 t607 t611 t615 t619 t623 t627 t630 x206_62 a1_0 a1_1 l2_0 a2_1 = some r) ∧ Aside0 (kq ≤ kj54) ∧ Aside0 (Kd.R (Kd.int .i64) 3 wc w.heap.size (fun k_ => (w.heap.size ≤ k_) ∧ some k_ ≠ (v613 : Value).ownBlock ∧ some k_ ≠ (v617 : Value).ownBlock ∧ some k_ ≠ (v621 : Value).ownBlock ∧ some k_ ≠ (v625 : Value).ownBlock ∧ some k_ ≠ ((.slice Ao68 t630.length co68) : Value).ownBlock) v609 t607) ∧ Aside0 (Kd.R (Kd.int .i64) 3 wc w.heap.size (fun k_ => (w.heap.size ≤ k_) ∧ some k_ ≠ (v609 : Value).ownBlock ∧ some k_ ≠ (v617 : Value).ownBlock ∧ some k_ ≠ (v621 : Value).ownBlock ∧ some k_ ≠ (v625 : Value).ownBlock ∧ some k_ ≠ ((.slice Ao68 t630.length co68) : Value).ownBlock) v613 t611) ∧ Aside0 (Kd.R (Kd.int .i64) 3 wc w.heap.size (fun k_ => (w.heap.size ≤ k_) ∧ some k_ ≠ (v609 : Value).ownBlock ∧ some k_ ≠ (v613 : Value).ownBlock ∧ some k_ ≠ (v621 : Value).ownBlock ∧ some k_ ≠ (v625 : Value).ownBlock ∧ some k_ ≠ ((.slice Ao68 t630.length co68) : Value).ownBlock) v617 t615) ∧ Aside0 (Kd.R (Kd.int .i64) 3 wc w.heap.size (fun k_ => (w.heap.size ≤ k_) ∧ some k_ ≠ (v609 : Value).ownBlock ∧ some k_ ≠ (v613 : Value).ownBlock ∧ some k_ ≠ (v617 : Value).ownBlock ∧ some k_ ≠ (v625 : Value).ownBlock ∧ some k_ ≠ ((.slice Ao68 t630.length co68) : Value).ownBlock) v621 t619) ∧ Aside0 (Kd.R (Kd.int .i64) 3 wc w.heap.size (fun k_ => (w.heap.size ≤ k_) ∧ some k_ ≠ (v609 : Value).ownBlock ∧ some k_ ≠ (v613 : Value).ownBlock ∧ some k_ ≠ (v617 : Value).ownBlock ∧ some k_ ≠ (v621 : Value).ownBlock ∧ some k_ ≠ ((.slice Ao68 t630.length co68) : Value).ownBlock) v625 t623) ∧ Aside0 (Kd.R (Kd.int .i64) 3 wc w.heap.size (fun k_ => (w.heap.size ≤ k_) ∧ some k_ ≠ (v609 : Value).ownBlock ∧ some k_ ≠ (v613 : Value).ownBlock ∧ some k_ ≠ (v617 : Value).ownBlock ∧ some k_ ≠ (v621 : Value).ownBlock ∧ some k_ ≠ (v625 : Value).ownBlock) (.slice Ao68 t630.length co68) t630) ∧ Aside0 (Kd.V (Kd.int .i64) 3 wc w.heap.size (fun k_ => (P2_0_ k_ ∨ w.heap.size ≤ k_) ∧ some k_ ≠ (v609 : Value).ownBlock ∧ some k_ ≠ (v613 : Value).ownBlock ∧ some k_ ≠ (v617 : Value).ownBlock ∧ some k_ ≠ (v621 : Value).ownBlock ∧ some k_ ≠ (v625 : Value).ownBlock ∧ some k_ ≠ ((.slice Ao68 t630.length co68) : Value).ownBlock ∧ k_ ≠ gb601 ∧ k_ ≠ gb602) (.slice A2_0 l2_0.length c2_0) l2_0) ∧ Aside0 (wc.heap[gb601]? = some (.cells #[.int .i64 a1_0, .int .i64 a1_1] 39 (0, 0))) ∧ Aside0 (wc.heap[gb602]? = some (.cells #[(.slice A2_0 l2_0.length c2_0), .int .u32 a2_1] 52 (0, 0))) ∧ Aside0 (Below w.heap.size w wc))
              case first => as_aux_lemma =>
                have H := HC63.out; clear HC63; by_cases c70 : t631 = 0; rotate_left
                · rw [if_neg c70] at H; have c70b0 : (t631 == 0) = false := beq_eq_false_iff_ne.mpr c70; have c70b1 : (t631 != 0) = true := bne_iff_ne.mpr c70
                  (first | rw [c70b0] | (simp only [i64_w, i32_w]; rw [c70b0]) | skip)
                  exact absurd (H.trans (congrArg some hT)) (droppertop_TopPull.j3_no _ _ _ _ _ _ _ _ _ _ _ _ _ _)
                rw [if_pos c70] at H; have c70b0 : (t631 == 0) = true := beq_iff_eq.mpr c70; have c70b1 : (t631 != 0) = false := bne_eq_false_iff_eq.mpr c70; clear c70
                (first | rw [c70b0] | (simp only [i64_w, i32_w]; rw [c70b0]) | skip)
                by_cases c71 : t635 = 0; rotate_left
                · rw [if_neg c71] at H; have c71b0 : (t635 == 0) = false := beq_eq_false_iff_ne.mpr c71; have c71b1 : (t635 != 0) = true := bne_iff_ne.mpr c71; exact absurd (H.trans (congrArg some hT)) (droppertop_TopPull.j3_no _ _ _ _ _ _ _ _ _ _ _ _ _ _)
                rw [if_pos c71] at H; have c71b0 : (t635 == 0) = true := beq_iff_eq.mpr c71; have c71b1 : (t635 != 0) = false := bne_eq_false_iff_eq.mpr c71; clear c71; have H' := Aside0.mk H; clear H; have hnb72 := NB602_601.out; have hnc72 := NB601_602.out; have hcz73_0 : w69.cell? ⟨gb602, 0, none⟩ = some (.slice A2_0 l2_0.length c2_0) := (blk_cell BK602.out 0).trans rfl; have hcz73_1 : w69.cell? ⟨gb602, 1, none⟩ = some (.int .u32 a2_1) := (blk_cell BK602.out 1).trans rfl; have hfz73_0 := blk_frozen BK602.out 0; have hfz73_1 := blk_frozen BK602.out 1
                go_wp2
                go_meet
                case rel => exact ⟨_, ((t634 != (Int.tmod (wrap64 (a2_1)) t605))), (by first | rfl | (simp; done) | (simp [*]; done)), H', ⟨by have := HJ3.out; have := HJ23.out; have := HJ54.out; first | omega | exact Nat.le_refl _⟩, ⟨by (with_reducible repeat (first | apply Kd.R_alloc | apply Kd.R_drewN | apply Kd.R_drew)); exact Kd.R_mono HO_9.out (fun _ hk => ⟨hk.1.1, ⟨hk.1.2.1, ⟨hk.1.2.2.1, ⟨hk.1.2.2.2.1, ⟨hk.1.2.2.2.2, hk.2⟩⟩⟩⟩⟩)⟩, ⟨by (with_reducible repeat (first | apply Kd.R_alloc | apply Kd.R_drewN | apply Kd.R_drew)); exact Kd.R_mono HO_11.out (fun _ hk => ⟨hk.1.1, ⟨hk.1.2.1, ⟨hk.1.2.2.1, ⟨hk.1.2.2.2.1, ⟨hk.1.2.2.2.2, hk.2⟩⟩⟩⟩⟩)⟩, ⟨by (with_reducible repeat (first | apply Kd.R_alloc | apply Kd.R_drewN | apply Kd.R_drew)); exact Kd.R_mono HO_13.out (fun _ hk => ⟨hk.1.1, ⟨hk.1.2.1, ⟨hk.1.2.2.1, ⟨hk.1.2.2.2.1, ⟨hk.1.2.2.2.2, hk.2⟩⟩⟩⟩⟩)⟩, ⟨by (with_reducible repeat (first | apply Kd.R_alloc | apply Kd.R_drewN | apply Kd.R_drew)); exact Kd.R_mono HO_15.out (fun _ hk => ⟨hk.1.1, ⟨hk.1.2.1, ⟨hk.1.2.2.1, ⟨hk.1.2.2.2.1, ⟨hk.1.2.2.2.2, hk.2⟩⟩⟩⟩⟩)⟩, ⟨by (with_reducible repeat (first | apply Kd.R_alloc | apply Kd.R_drewN | apply Kd.R_drew)); exact Kd.R_mono HO_17.out (fun _ hk => ⟨hk.1.1, ⟨hk.1.2.1, ⟨hk.1.2.2.1, ⟨hk.1.2.2.2.1, ⟨hk.1.2.2.2.2, hk.2⟩⟩⟩⟩⟩)⟩, ⟨by (with_reducible repeat (first | apply Kd.R_alloc | apply Kd.R_drewN | apply Kd.R_drew)); exact Kd.R_mono HO633.out (fun _ hk => ⟨hk.1.1.1.1.1.1, ⟨hk.1.1.1.1.2, ⟨hk.1.1.1.2, ⟨hk.1.1.2, ⟨hk.1.2, hk.2⟩⟩⟩⟩⟩)⟩, ⟨by (with_reducible repeat (first | apply Kd.V_alloc | apply Kd.V_drewN | apply Kd.V_drew)); exact Kd.V_mono HO_603000.out (fun _ hk => ⟨hk.1.1, ⟨hk.1.2.1, ⟨hk.1.2.2.1, ⟨hk.1.2.2.2.1, ⟨hk.1.2.2.2.2.1, ⟨hk.1.2.2.2.2.2.1, ⟨hk.2, ⟨hk.1.2.2.2.2.2.2.1, hk.1.2.2.2.2.2.2.2⟩⟩⟩⟩⟩⟩⟩⟩)⟩, ⟨bkU BK601⟩, ⟨bkU BK602⟩, ⟨by repeat (first | (with_reducible first | exact HB.out | apply below_alloc | apply pw_below_drewN | apply below_drew1 | refine below_set ?_ GE601.out | refine below_set ?_ GE602.out) | exact HB.out)⟩⟩
              case rest => as_aux_lemma =>
                clear HC63
                try clear c1
                try clear c2
                try clear p2
                try clear c3
                try clear c4
                try clear c5
                try clear c6
                try clear p6
                try clear c7
                try clear c8
                try clear c9
                try clear c12
                try clear c14
                try clear c18
                try clear c24
                try clear c25
                try clear c26
                try clear c29
                try clear c30
                try clear c31
                try clear c32
                try clear c33
                try clear c34
                try clear c35
                try clear c36
                try clear c41
                try clear c41b0
                try clear c41b1
                try clear c42
                try clear c42b0
                try clear c42b1
                try clear c43
                try clear c43b0
                try clear c43b1
                try clear c44
                try clear c45
                try clear c45b0
                try clear c45b1
                try clear c46
                try clear c46b0
                try clear c46b1
                try clear c47
                try clear c47b0
                try clear c47b1
                try clear c48
                try clear c48b0
                try clear c48b1
                try clear c49
                try clear c49b0
                try clear c49b1
                try clear c50
                try clear c50b0
                try clear c50b1
                try clear c50b2
                try clear c51
                try clear c56
                try clear c56b0
                try clear c56b1
                try clear c57
                try clear c57b0
                try clear c57b1
                try clear c58
                try clear c58b0
                try clear c58b1
                try clear c59
                try clear c60
                try clear c60b0
                try clear c60b1
                try clear p64
                try clear c66
                try clear c70
                try clear c70b0
                try clear c70b1
                try clear c71
                try clear c71b0
                try clear c71b1
                try clear c72
                try clear hcz10_0
                try clear hcz10_1
                try clear hcz11_0
                try clear hcz11_1
                try clear hcz13_0
                try clear hcz13_1
                try clear hcz26_0
                try clear hcz26_1
                try clear hcz28_0
                try clear hcz28_1
                try clear hcz30_0
                try clear hcz30_1
                try clear hcz32_0
                try clear hcz32_1
                try clear hcz34_0
                try clear hcz34_1
                try clear hcz36_0
                try clear hcz36_1
                try clear hcz38_0
                try clear hcz38_1
                try clear hcz39_0
                try clear hcz39_1
                try clear hcz67_0
                try clear hcz67_1
                try clear hcz73_0
                try clear hcz73_1
                try clear hfz10_0
                try clear hfz10_1
                try clear hfz11_0
                try clear hfz11_1
                try clear hfz13_0
                try clear hfz13_1
                try clear hfz26_0
                try clear hfz26_1
                try clear hfz28_0
                try clear hfz28_1
                try clear hfz30_0
                try clear hfz30_1
                try clear hfz32_0
                try clear hfz32_1
                try clear hfz34_0
                try clear hfz34_1
                try clear hfz36_0
                try clear hfz36_1
                try clear hfz38_0
                try clear hfz38_1
                try clear hfz39_0
                try clear hfz39_1
                try clear hfz67_0
                try clear hfz67_1
                try clear hfz73_0
                try clear hfz73_1
                try clear p2
                obtain ⟨kq, x206_62, rfl, HA, HJ62, HO_9, HO_11, HO_13, HO_15, HO_17, HO_21, HO_603000, BK601, BK602, HB⟩ := hcut
                cases kq with
                | zero => exact absurd HA.out (by simp [droppertop_TopPull.j3])
                | succ kj62 =>
                  have H := HA.out; clear HA; simp only [droppertop_TopPull.j3] at H; by_cases c74 : x206_62 = true
                  · subst c74; rw [if_pos rfl] at H
                    exact absurd (hT.symm.trans (Option.some.inj H).symm) (by decide)
                  replace c74 := Bool.eq_false_iff.mpr c74; subst c74; rw [if_neg (show ¬ (false = true) by decide)] at H; obtain ⟨y636, hy636⟩ : ∃ y_ : List (List Int), y_ = (([t607, t611, t615, t630] : List (List Int))) := ⟨_, rfl⟩
                  replace H : (if t627 = true then (if y636.length < 5864062014805 then (droppertop_TopPull.j4 kj62 l0 t605 t607 t611 t615 t619 t623 (y636 ++ [l2_0]) a1_0 a1_1) else (none)) else (droppertop_TopPull.j4 kj62 l0 t605 t607 t611 t615 t619 t623 y636 a1_0 a1_1)) = some r := by first | (rw [hy636]; with_reducible exact H) | (have H2_ := (Option.bind_some _ _).symm.trans H; rw [hy636]; with_reducible exact H2_) | (have H2_ := (Option.bind_some _ _).symm.trans H; with_reducible exact H2_) | with_reducible exact H | (rw [hy636]; exact H) | exact H
                  have Ny636 := Aside0.mk hy636; clear hy636; have HC75 := Aside0.mk H; clear H; obtain ⟨Ao76, co76, eo76⟩ := Kd.R_slice HO_9.out; subst eo76
                  have n_ := Aside0.mk (Kd.V_mono (ok' := fun k_ => ((((P2_0_ k_ ∨ w.heap.size ≤ k_) ∧ (some k_ ≠ (v613 : Value).ownBlock ∧ (some k_ ≠ (v617 : Value).ownBlock ∧ (some k_ ≠ (v621 : Value).ownBlock ∧ (some k_ ≠ (v625 : Value).ownBlock ∧ some k_ ≠ (.slice Ao68 t630.length co68 : Value).ownBlock))))) ∧ k_ ≠ gb601) ∧ k_ ≠ gb602)) (Kd.R_V (base' := w.heap.size) (Kd.R_types (Kd.R_types HO_9.out BK601.out (by decide)) BK602.out (by decide))) (fun k_ hk => ⟨⟨⟨(.inr (hk.1.1.1)), ⟨hk.1.1.2.1, ⟨hk.1.1.2.2.1, ⟨hk.1.1.2.2.2.1, ⟨hk.1.1.2.2.2.2.1, hk.1.1.2.2.2.2.2⟩⟩⟩⟩⟩, hk.1.2⟩, hk.2⟩))
                  clear HO_9; have HO_9 := n_; clear n_; obtain ⟨Ao77, co77, eo77⟩ := Kd.R_slice HO_11.out; subst eo77
                  have n_ := Aside0.mk (Kd.V_mono (ok' := fun k_ => ((((P2_0_ k_ ∨ w.heap.size ≤ k_) ∧ (some k_ ≠ (.slice Ao76 t607.length co76 : Value).ownBlock ∧ (some k_ ≠ (v617 : Value).ownBlock ∧ (some k_ ≠ (v621 : Value).ownBlock ∧ (some k_ ≠ (v625 : Value).ownBlock ∧ some k_ ≠ (.slice Ao68 t630.length co68 : Value).ownBlock))))) ∧ k_ ≠ gb601) ∧ k_ ≠ gb602)) (Kd.R_V (base' := w.heap.size) (Kd.R_types (Kd.R_types HO_11.out BK601.out (by decide)) BK602.out (by decide))) (fun k_ hk => ⟨⟨⟨(.inr (hk.1.1.1)), ⟨hk.1.1.2.1, ⟨hk.1.1.2.2.1, ⟨hk.1.1.2.2.2.1, ⟨hk.1.1.2.2.2.2.1, hk.1.1.2.2.2.2.2⟩⟩⟩⟩⟩, hk.1.2⟩, hk.2⟩))
                  clear HO_11; have HO_11 := n_; clear n_; obtain ⟨Ao78, co78, eo78⟩ := Kd.R_slice HO_13.out; subst eo78
                  have n_ := Aside0.mk (Kd.V_mono (ok' := fun k_ => ((((P2_0_ k_ ∨ w.heap.size ≤ k_) ∧ (some k_ ≠ (.slice Ao76 t607.length co76 : Value).ownBlock ∧ (some k_ ≠ (.slice Ao77 t611.length co77 : Value).ownBlock ∧ (some k_ ≠ (v621 : Value).ownBlock ∧ (some k_ ≠ (v625 : Value).ownBlock ∧ some k_ ≠ (.slice Ao68 t630.length co68 : Value).ownBlock))))) ∧ k_ ≠ gb601) ∧ k_ ≠ gb602)) (Kd.R_V (base' := w.heap.size) (Kd.R_types (Kd.R_types HO_13.out BK601.out (by decide)) BK602.out (by decide))) (fun k_ hk => ⟨⟨⟨(.inr (hk.1.1.1)), ⟨hk.1.1.2.1, ⟨hk.1.1.2.2.1, ⟨hk.1.1.2.2.2.1, ⟨hk.1.1.2.2.2.2.1, hk.1.1.2.2.2.2.2⟩⟩⟩⟩⟩, hk.1.2⟩, hk.2⟩))
                  clear HO_13; have HO_13 := n_; clear n_
                  have n_ := Aside0.mk (Kd.V_mono (ok' := fun k_ => ((((P2_0_ k_ ∨ w.heap.size ≤ k_) ∧ (some k_ ≠ (.slice Ao76 t607.length co76 : Value).ownBlock ∧ (some k_ ≠ (.slice Ao77 t611.length co77 : Value).ownBlock ∧ (some k_ ≠ (.slice Ao78 t615.length co78 : Value).ownBlock ∧ (some k_ ≠ (v621 : Value).ownBlock ∧ some k_ ≠ (v625 : Value).ownBlock))))) ∧ k_ ≠ gb601) ∧ k_ ≠ gb602)) (Kd.R_V (base' := w.heap.size) (Kd.R_types (Kd.R_types HO_21.out BK601.out (by decide)) BK602.out (by decide))) (fun k_ hk => ⟨⟨⟨(.inr (hk.1.1.1)), ⟨hk.1.1.2.1, ⟨hk.1.1.2.2.1, ⟨hk.1.1.2.2.2.1, ⟨hk.1.1.2.2.2.2.1, hk.1.1.2.2.2.2.2⟩⟩⟩⟩⟩, hk.1.2⟩, hk.2⟩))
                  clear HO_21; have HO_21 := n_; clear n_
                  go_upto_if 212 with (first | ((with_reducible refine gate_dst (N := 211) rfl ?_); (try (refine gate_guard (by rfl) ?_; dsimp only)); refine Kd.N_lit (Kd.slice 3 (Kd.int .i64)) _ 37 ?hg (N' := 211) ?hd (xs := ([t607, t611, t615, t630] : List (List Int))) (inner := [.slice Ao76 t607.length co76, .slice Ao77 t611.length co77, .slice Ao78 t615.length co78, .slice Ao68 t630.length co68]) (ok := (fun k_ => (P2_0_ k_ ∨ w.heap.size ≤ k_) ∧ some k_ ≠ (v621 : Value).ownBlock ∧ some k_ ≠ (v625 : Value).ownBlock ∧ k_ ≠ gb601 ∧ k_ ≠ gb602)) (okp := (fun k_ => (P2_0_ k_ ∨ w.heap.size ≤ k_) ∧ some k_ ≠ (v621 : Value).ownBlock ∧ some k_ ≠ (v625 : Value).ownBlock ∧ k_ ≠ gb601 ∧ k_ ≠ gb602)) ?hr ?hp (fun _ hk => hk) ((show ∀ k_, wc.heap.size ≤ k_ → (fun k_ => (P2_0_ k_ ∨ w.heap.size ≤ k_) ∧ some k_ ≠ (v621 : Value).ownBlock ∧ some k_ ≠ (v625 : Value).ownBlock ∧ k_ ≠ gb601 ∧ k_ ≠ gb602) k_ from fun k_ hk => ⟨(.inr (Nat.le_trans (below_size (by repeat (first | (with_reducible first | exact HB.out | apply below_alloc | apply pw_below_drewN | apply below_drew1 | refine below_set ?_ GE601.out | refine below_set ?_ GE602.out) | exact HB.out))) hk)), Kd.fresh' (Kd.R_lt (by (with_reducible repeat (first | apply Kd.R_alloc | apply Kd.R_drewN | apply Kd.R_drew)); exact HO_15.out)) k_ hk, Kd.fresh' (Kd.R_lt (by (with_reducible repeat (first | apply Kd.R_alloc | apply Kd.R_drewN | apply Kd.R_drew)); exact HO_17.out)) k_ hk, Kd.freshB (g := gb601) (o := .cells #[.int .i64 a1_0, .int .i64 a1_1] 39 (0, 0)) (bkU BK601) k_ hk, Kd.freshB (g := gb602) (o := .cells #[.slice A2_0 l2_0.length c2_0, .int .u32 a2_1] 52 (0, 0)) (bkU BK602) k_ hk⟩) _ (Nat.le_refl _)) (Below.refl _ _) (Nat.le_refl _) (by simp) ?_; (case hd => rfl); (case hg => rfl); (case hr => first | (go_simp; done) | (go_simp; rfl)); (case hp => exact (Reps.one (show Kd.FK (Kd.slice 3 (Kd.int .i64)) _ _ t607 [.slice Ao76 t607.length co76] from (Kd.FK_slice_mk (Kd.V_reads' HO_9.out).2.1 (Kd.V_F (Kd.V_mono (ok' := (fun k_ => (P2_0_ k_ ∨ w.heap.size ≤ k_) ∧ some k_ ≠ (v621 : Value).ownBlock ∧ some k_ ≠ (v625 : Value).ownBlock ∧ k_ ≠ gb601 ∧ k_ ≠ gb602)) ((show Kd.V (Kd.int .i64) 3 _ _ (fun k_ => ((((P2_0_ k_ ∨ w.heap.size ≤ k_) ∧ (some k_ ≠ (.slice Ao77 t611.length co77 : Value).ownBlock ∧ (some k_ ≠ (.slice Ao78 t615.length co78 : Value).ownBlock ∧ (some k_ ≠ (v621 : Value).ownBlock ∧ (some k_ ≠ (v625 : Value).ownBlock ∧ some k_ ≠ (.slice Ao68 t630.length co68 : Value).ownBlock))))) ∧ k_ ≠ gb601) ∧ k_ ≠ gb602)) (.slice Ao76 t607.length co76) t607 from by (with_reducible repeat (first | apply Kd.V_alloc | apply Kd.V_drewN | apply Kd.V_drew)); exact HO_9.out)) (fun k_ hk => ⟨hk.1.1.1, ⟨hk.1.1.2.2.2.1, ⟨hk.1.1.2.2.2.2.1, ⟨hk.1.2, hk.2⟩⟩⟩⟩))))) (Reps.one (show Kd.FK (Kd.slice 3 (Kd.int .i64)) _ _ t611 [.slice Ao77 t611.length co77] from (Kd.FK_slice_mk (Kd.V_reads' HO_11.out).2.1 (Kd.V_F (Kd.V_mono (ok' := (fun k_ => (P2_0_ k_ ∨ w.heap.size ≤ k_) ∧ some k_ ≠ (v621 : Value).ownBlock ∧ some k_ ≠ (v625 : Value).ownBlock ∧ k_ ≠ gb601 ∧ k_ ≠ gb602)) ((show Kd.V (Kd.int .i64) 3 _ _ (fun k_ => ((((P2_0_ k_ ∨ w.heap.size ≤ k_) ∧ (some k_ ≠ (.slice Ao76 t607.length co76 : Value).ownBlock ∧ (some k_ ≠ (.slice Ao78 t615.length co78 : Value).ownBlock ∧ (some k_ ≠ (v621 : Value).ownBlock ∧ (some k_ ≠ (v625 : Value).ownBlock ∧ some k_ ≠ (.slice Ao68 t630.length co68 : Value).ownBlock))))) ∧ k_ ≠ gb601) ∧ k_ ≠ gb602)) (.slice Ao77 t611.length co77) t611 from by (with_reducible repeat (first | apply Kd.V_alloc | apply Kd.V_drewN | apply Kd.V_drew)); exact HO_11.out)) (fun k_ hk => ⟨hk.1.1.1, ⟨hk.1.1.2.2.2.1, ⟨hk.1.1.2.2.2.2.1, ⟨hk.1.2, hk.2⟩⟩⟩⟩))))) (Reps.one (show Kd.FK (Kd.slice 3 (Kd.int .i64)) _ _ t615 [.slice Ao78 t615.length co78] from (Kd.FK_slice_mk (Kd.V_reads' HO_13.out).2.1 (Kd.V_F (Kd.V_mono (ok' := (fun k_ => (P2_0_ k_ ∨ w.heap.size ≤ k_) ∧ some k_ ≠ (v621 : Value).ownBlock ∧ some k_ ≠ (v625 : Value).ownBlock ∧ k_ ≠ gb601 ∧ k_ ≠ gb602)) ((show Kd.V (Kd.int .i64) 3 _ _ (fun k_ => ((((P2_0_ k_ ∨ w.heap.size ≤ k_) ∧ (some k_ ≠ (.slice Ao76 t607.length co76 : Value).ownBlock ∧ (some k_ ≠ (.slice Ao77 t611.length co77 : Value).ownBlock ∧ (some k_ ≠ (v621 : Value).ownBlock ∧ (some k_ ≠ (v625 : Value).ownBlock ∧ some k_ ≠ (.slice Ao68 t630.length co68 : Value).ownBlock))))) ∧ k_ ≠ gb601) ∧ k_ ≠ gb602)) (.slice Ao78 t615.length co78) t615 from by (with_reducible repeat (first | apply Kd.V_alloc | apply Kd.V_drewN | apply Kd.V_drew)); exact HO_13.out)) (fun k_ hk => ⟨hk.1.1.1, ⟨hk.1.1.2.2.2.1, ⟨hk.1.1.2.2.2.2.1, ⟨hk.1.2, hk.2⟩⟩⟩⟩))))) (Reps.one (show Kd.FK (Kd.slice 3 (Kd.int .i64)) _ _ t630 [.slice Ao68 t630.length co68] from (Kd.FK_slice_mk (Kd.V_reads' HO_21.out).2.1 (Kd.V_F (Kd.V_mono (ok' := (fun k_ => (P2_0_ k_ ∨ w.heap.size ≤ k_) ∧ some k_ ≠ (v621 : Value).ownBlock ∧ some k_ ≠ (v625 : Value).ownBlock ∧ k_ ≠ gb601 ∧ k_ ≠ gb602)) ((show Kd.V (Kd.int .i64) 3 _ _ (fun k_ => ((((P2_0_ k_ ∨ w.heap.size ≤ k_) ∧ (some k_ ≠ (.slice Ao76 t607.length co76 : Value).ownBlock ∧ (some k_ ≠ (.slice Ao77 t611.length co77 : Value).ownBlock ∧ (some k_ ≠ (.slice Ao78 t615.length co78 : Value).ownBlock ∧ (some k_ ≠ (v621 : Value).ownBlock ∧ some k_ ≠ (v625 : Value).ownBlock))))) ∧ k_ ≠ gb601) ∧ k_ ≠ gb602)) (.slice Ao68 t630.length co68) t630 from by (with_reducible repeat (first | apply Kd.V_alloc | apply Kd.V_drewN | apply Kd.V_drew)); exact HO_21.out)) (fun k_ hk => ⟨hk.1.1.1, ⟨hk.1.1.2.2.2.2.1, ⟨hk.1.1.2.2.2.2.2, ⟨hk.1.2, hk.2⟩⟩⟩⟩))))) (Reps.none _ _)))))); intro v637 w79 ho80 hb hg_ hnew_; clear hg_ hnew_; (first | rw [← Ny636.out] at ho80 | (simp only [Int.reduceToNat] at ho80; rw [← Ny636.out] at ho80)); have n0_ := Aside0.mk (Kd.V_elder' (by (with_reducible repeat (first | apply Kd.V_alloc | apply Kd.V_drewN | apply Kd.V_drew)); exact HO_9.out) (Kd.N_base ho80) hb); have n1_ := Aside0.mk (Kd.V_elder' (by (with_reducible repeat (first | apply Kd.V_alloc | apply Kd.V_drewN | apply Kd.V_drew)); exact HO_11.out) (Kd.N_base ho80) hb); have n2_ := Aside0.mk (Kd.V_elder' (by (with_reducible repeat (first | apply Kd.V_alloc | apply Kd.V_drewN | apply Kd.V_drew)); exact HO_13.out) (Kd.N_base ho80) hb); have n3_ := Aside0.mk (Kd.R_below (by (with_reducible repeat (first | apply Kd.R_alloc | apply Kd.R_drewN | apply Kd.R_drew)); exact HO_15.out) hb); have n4_ := Aside0.mk (Kd.R_below (by (with_reducible repeat (first | apply Kd.R_alloc | apply Kd.R_drewN | apply Kd.R_drew)); exact HO_17.out) hb); have n5_ := Aside0.mk (Kd.V_elder' (by (with_reducible repeat (first | apply Kd.V_alloc | apply Kd.V_drewN | apply Kd.V_drew)); exact HO_21.out) (Kd.N_base ho80) hb); have n6_ := Aside0.mk (Kd.V_elder' (by (with_reducible repeat (first | apply Kd.V_alloc | apply Kd.V_drewN | apply Kd.V_drew)); exact HO_603000.out) (Kd.N_base ho80) hb); have n7_ := Aside0.mk (Kd.N_lower ho80 (below_size (by repeat (first | (with_reducible first | exact HB.out | apply below_alloc | apply pw_below_drewN | apply below_drew1 | refine below_set ?_ GE601.out | refine below_set ?_ GE602.out) | exact HB.out)))); have n8_ := Aside0.mk (bkB BK601 hb); have n9_ := Aside0.mk (bkB BK602 hb); have n10_ := Aside0.mk (below_step (by repeat (first | (with_reducible first | exact HB.out | apply below_alloc | apply pw_below_drewN | apply below_drew1 | refine below_set ?_ GE601.out | refine below_set ?_ GE602.out) | exact HB.out)) hb); clear HO_9; clear HO_11; clear HO_13; clear HO_15; clear HO_17; clear HO_21; clear HO_603000; clear BK601; clear BK602; clear HB; have HO_9 := n0_; have HO_11 := n1_; have HO_13 := n2_; have HO_15 := n3_; have HO_17 := n4_; have HO_21 := n5_; have HO_603000 := n6_; have HO638 := n7_; have BK601 := n8_; have BK602 := n9_; have HB := n10_; clear n0_ n1_ n2_ n3_ n4_ n5_ n6_ n7_ n8_ n9_ n10_; clear hb ho80))
                  (try simp only [Act.put, List.setIfInBounds_toArray, List.set_cons_zero, List.set_cons_succ])
                  go_cut [23] (fun v23 wc => ∃ (kq : Nat) (x23_74 : List (List Int)), Aside0 (droppertop_TopPull.j4 kq l0 t605 t607 t611 t615 t619 t623 x23_74 a1_0 a1_1 = some r) ∧ Aside0 (kq ≤ kj62) ∧ Aside0 (Kd.V (Kd.int .i64) 3 wc w.heap.size (fun k_ => (P2_0_ k_ ∨ w.heap.size ≤ k_) ∧ some k_ ≠ (v621 : Value).ownBlock ∧ some k_ ≠ (v625 : Value).ownBlock ∧ some k_ ≠ (v23 : Value).ownBlock ∧ k_ ≠ gb601 ∧ k_ ≠ gb602) (.slice Ao76 t607.length co76) t607) ∧ Aside0 (Kd.V (Kd.int .i64) 3 wc w.heap.size (fun k_ => (P2_0_ k_ ∨ w.heap.size ≤ k_) ∧ some k_ ≠ (v621 : Value).ownBlock ∧ some k_ ≠ (v625 : Value).ownBlock ∧ some k_ ≠ (v23 : Value).ownBlock ∧ k_ ≠ gb601 ∧ k_ ≠ gb602) (.slice Ao77 t611.length co77) t611) ∧ Aside0 (Kd.V (Kd.int .i64) 3 wc w.heap.size (fun k_ => (P2_0_ k_ ∨ w.heap.size ≤ k_) ∧ some k_ ≠ (v621 : Value).ownBlock ∧ some k_ ≠ (v625 : Value).ownBlock ∧ some k_ ≠ (v23 : Value).ownBlock ∧ k_ ≠ gb601 ∧ k_ ≠ gb602) (.slice Ao78 t615.length co78) t615) ∧ Aside0 (Kd.R (Kd.int .i64) 3 wc w.heap.size (fun k_ => (w.heap.size ≤ k_) ∧ some k_ ≠ (v625 : Value).ownBlock) v621 t619) ∧ Aside0 (Kd.R (Kd.int .i64) 3 wc w.heap.size (fun k_ => (w.heap.size ≤ k_) ∧ some k_ ≠ (v621 : Value).ownBlock) v625 t623) ∧ Aside0 (Kd.N (Kd.slice 3 (Kd.int .i64)) 37 wc w.heap.size (fun k_ => (P2_0_ k_ ∨ w.heap.size ≤ k_) ∧ some k_ ≠ (v621 : Value).ownBlock ∧ some k_ ≠ (v625 : Value).ownBlock ∧ k_ ≠ gb601 ∧ k_ ≠ gb602) v23 x23_74) ∧ Aside0 (Kd.V (Kd.int .i64) 3 wc w.heap.size (fun k_ => (P2_0_ k_ ∨ w.heap.size ≤ k_) ∧ some k_ ≠ (v621 : Value).ownBlock ∧ some k_ ≠ (v625 : Value).ownBlock ∧ some k_ ≠ (v23 : Value).ownBlock ∧ k_ ≠ gb601 ∧ k_ ≠ gb602) (.slice A2_0 l2_0.length c2_0) l2_0) ∧ Aside0 (wc.heap[gb601]? = some (.cells #[.int .i64 a1_0, .int .i64 a1_1] 39 (0, 0))) ∧ Aside0 (wc.heap[gb602]? = some (.cells #[(.slice A2_0 l2_0.length c2_0), .int .u32 a2_1] 52 (0, 0))) ∧ Aside0 (Below w.heap.size w wc))
                  case first => as_aux_lemma =>
                    have H := HC75.out; clear HC75; by_cases c81 : t627 = true; rotate_left
                    · replace c81 := Bool.eq_false_iff.mpr c81; subst c81; rw [if_neg (show ¬ (false = true) by decide)] at H; have H' := Aside0.mk H; clear H
                      go_wp2
                      go_meet
                      case rel => exact ⟨_, (y636), H', ⟨by have := HJ3.out; have := HJ23.out; have := HJ54.out; have := HJ62.out; first | omega | exact Nat.le_refl _⟩, ⟨by (with_reducible repeat (first | apply Kd.V_alloc | apply Kd.V_drewN | apply Kd.V_drew)); exact Kd.V_mono HO_9.out (fun _ hk => ⟨hk.1.1.1.1, ⟨hk.1.1.1.2.2.2.1, ⟨hk.1.1.1.2.2.2.2.1, ⟨hk.2, ⟨hk.1.1.2, hk.1.2⟩⟩⟩⟩⟩)⟩, ⟨by (with_reducible repeat (first | apply Kd.V_alloc | apply Kd.V_drewN | apply Kd.V_drew)); exact Kd.V_mono HO_11.out (fun _ hk => ⟨hk.1.1.1.1, ⟨hk.1.1.1.2.2.2.1, ⟨hk.1.1.1.2.2.2.2.1, ⟨hk.2, ⟨hk.1.1.2, hk.1.2⟩⟩⟩⟩⟩)⟩, ⟨by (with_reducible repeat (first | apply Kd.V_alloc | apply Kd.V_drewN | apply Kd.V_drew)); exact Kd.V_mono HO_13.out (fun _ hk => ⟨hk.1.1.1.1, ⟨hk.1.1.1.2.2.2.1, ⟨hk.1.1.1.2.2.2.2.1, ⟨hk.2, ⟨hk.1.1.2, hk.1.2⟩⟩⟩⟩⟩)⟩, ⟨by (with_reducible repeat (first | apply Kd.R_alloc | apply Kd.R_drewN | apply Kd.R_drew)); exact Kd.R_mono HO_15.out (fun _ hk => ⟨hk.1, hk.2.2.2.2.1⟩)⟩, ⟨by (with_reducible repeat (first | apply Kd.R_alloc | apply Kd.R_drewN | apply Kd.R_drew)); exact Kd.R_mono HO_17.out (fun _ hk => ⟨hk.1, hk.2.2.2.2.1⟩)⟩, ⟨by (with_reducible repeat (first | apply Kd.N_alloc | apply Kd.N_drewN | apply Kd.N_drew)); exact HO638.out⟩, ⟨by (with_reducible repeat (first | apply Kd.V_alloc | apply Kd.V_drewN | apply Kd.V_drew)); exact Kd.V_mono HO_603000.out (fun _ hk => ⟨hk.1.1, ⟨hk.1.2.2.2.2.1, ⟨hk.1.2.2.2.2.2.1, ⟨hk.2, ⟨hk.1.2.2.2.2.2.2.2.1, hk.1.2.2.2.2.2.2.2.2⟩⟩⟩⟩⟩)⟩, ⟨bkU BK601⟩, ⟨bkU BK602⟩, ⟨by repeat (first | (with_reducible first | exact HB.out | apply below_alloc | apply pw_below_drewN | apply below_drew1 | refine below_set ?_ GE601.out | refine below_set ?_ GE602.out) | exact HB.out)⟩⟩
                    subst c81; rw [if_pos rfl] at H; by_cases c82 : y636.length < 5864062014805; rotate_left
                    · rw [if_neg c82] at H
                      exact absurd H (by simp)
                    rw [if_pos c82] at H; have LMc82 := Aside0.mk c82; clear c82; obtain ⟨y639, hy639⟩ : ∃ y_ : List (List Int), y_ = (y636 ++ [l2_0]) := ⟨_, rfl⟩
                    replace H : (droppertop_TopPull.j4 kj62 l0 t605 t607 t611 t615 t619 t623 y639 a1_0 a1_1) = some r := by first | (rw [hy639]; with_reducible exact H) | (have H2_ := (Option.bind_some _ _).symm.trans H; rw [hy639]; with_reducible exact H2_) | (have H2_ := (Option.bind_some _ _).symm.trans H; with_reducible exact H2_) | with_reducible exact H | (rw [hy639]; exact H) | exact H
                    have Ny639 := Aside0.mk hy639; clear hy639; have H' := Aside0.mk H; clear H; have hnb83 := NB602_601.out; have hnc83 := NB601_602.out; have hcz84_0 : w79.cell? ⟨gb602, 0, none⟩ = some (.slice A2_0 l2_0.length c2_0) := (blk_cell BK602.out 0).trans rfl; have hcz84_1 : w79.cell? ⟨gb602, 1, none⟩ = some (.int .u32 a2_1) := (blk_cell BK602.out 1).trans rfl; have hfz84_0 := blk_frozen BK602.out 0; have hfz84_1 := blk_frozen BK602.out 1
                    go_wp2_with (first | ((with_reducible refine gate_builtin (b := .append) (xs := #[.tmp 213, .tmp 216]) rfl ?_); (try (refine gate_guard (by rfl) ?_; dsimp only)); at_builtin; refine Kd.N_append (Kd.slice 3 (Kd.int .i64)) (w0 := w) w.heap.size rfl (.tmp 213) (.tmp 216) 56 37 (.slice none 0 0) 24 rfl Try.underlying56 info37 rfl (by decide) (by omega) v637 y636 l2_0 [.slice A2_0 l2_0.length c2_0] (fun k_ => (P2_0_ k_ ∨ w.heap.size ≤ k_) ∧ some k_ ≠ (v621 : Value).ownBlock ∧ some k_ ≠ (v625 : Value).ownBlock ∧ k_ ≠ gb601 ∧ k_ ≠ gb602) (fun k_ => ((fun k_ => (P2_0_ k_ ∨ w.heap.size ≤ k_) ∧ some k_ ≠ (v621 : Value).ownBlock ∧ some k_ ≠ (v625 : Value).ownBlock ∧ k_ ≠ gb601 ∧ k_ ≠ gb602)) k_ ∧ some k_ ≠ (v637 : Value).ownBlock) rfl rfl ?aP (fun _ hk => hk) ?aF ?aO ?aB ?aS ?aL ?_; (case aP => exact (Kd.FK_slice_mk (Kd.V_reads' HO_603000.out).2.1 (Kd.V_F (Kd.V_mono (ok' := (fun k_ => ((fun k_ => (P2_0_ k_ ∨ w.heap.size ≤ k_) ∧ some k_ ≠ (v621 : Value).ownBlock ∧ some k_ ≠ (v625 : Value).ownBlock ∧ k_ ≠ gb601 ∧ k_ ≠ gb602)) k_ ∧ some k_ ≠ (v637 : Value).ownBlock)) ((show Kd.V (Kd.int .i64) 3 _ _ (fun k_ => (((P2_0_ k_ ∨ w.heap.size ≤ k_) ∧ (some k_ ≠ (.slice Ao76 t607.length co76 : Value).ownBlock ∧ (some k_ ≠ (.slice Ao77 t611.length co77 : Value).ownBlock ∧ (some k_ ≠ (.slice Ao78 t615.length co78 : Value).ownBlock ∧ (some k_ ≠ (v621 : Value).ownBlock ∧ (some k_ ≠ (v625 : Value).ownBlock ∧ (some k_ ≠ (.slice Ao68 t630.length co68 : Value).ownBlock ∧ (k_ ≠ gb601 ∧ k_ ≠ gb602)))))))) ∧ some k_ ≠ (v637 : Value).ownBlock)) (.slice A2_0 l2_0.length c2_0) l2_0 from by (with_reducible repeat (first | apply Kd.V_alloc | apply Kd.V_drewN | apply Kd.V_drew)); exact HO_603000.out)) (fun k_ hk => ⟨⟨hk.1.1, ⟨hk.1.2.2.2.2.1, ⟨hk.1.2.2.2.2.2.1, ⟨hk.1.2.2.2.2.2.2.2.1, hk.1.2.2.2.2.2.2.2.2⟩⟩⟩⟩, hk.2⟩))))); (case aB => exact (by repeat (first | (with_reducible first | exact HB.out | apply below_alloc | apply pw_below_drewN | apply below_drew1 | refine below_set ?_ GE601.out | refine below_set ?_ GE602.out) | exact HB.out))); (case aF => exact (fun k_ hk => ⟨(.inr (Nat.le_trans (below_size (by repeat (first | (with_reducible first | exact HB.out | apply below_alloc | apply pw_below_drewN | apply below_drew1 | refine below_set ?_ GE601.out | refine below_set ?_ GE602.out) | exact HB.out))) hk)), Kd.fresh' (Kd.R_lt (by (with_reducible repeat (first | apply Kd.R_alloc | apply Kd.R_drewN | apply Kd.R_drew)); exact HO_15.out)) k_ hk, Kd.fresh' (Kd.R_lt (by (with_reducible repeat (first | apply Kd.R_alloc | apply Kd.R_drewN | apply Kd.R_drew)); exact HO_17.out)) k_ hk, Kd.freshB (g := gb601) (o := .cells #[.int .i64 a1_0, .int .i64 a1_1] 39 (0, 0)) (bkU BK601) k_ hk, Kd.freshB (g := gb602) (o := .cells #[.slice A2_0 l2_0.length c2_0, .int .u32 a2_1] 52 (0, 0)) (bkU BK602) k_ hk⟩)); (case aO => exact (by (with_reducible repeat (first | apply Kd.N_alloc | apply Kd.N_drewN | apply Kd.N_drew)); exact HO638.out)); (case aS => exact (below_size (by repeat (first | (with_reducible first | exact HB.out | apply below_alloc | apply pw_below_drewN | apply below_drew1 | refine below_set ?_ GE601.out | refine below_set ?_ GE602.out) | exact HB.out)))); (case aL => have := LMc82.out; omega); intro v640 w85 ho hb hg hat; rw [← Ny639.out] at ho; have n0_ := Aside0.mk (Kd.V_afterv (ok := (fun k_ => (P2_0_ k_ ∨ w.heap.size ≤ k_) ∧ some k_ ≠ (.slice Ao77 t611.length co77 : Value).ownBlock ∧ some k_ ≠ (.slice Ao78 t615.length co78 : Value).ownBlock ∧ some k_ ≠ (v621 : Value).ownBlock ∧ some k_ ≠ (v625 : Value).ownBlock ∧ some k_ ≠ (.slice Ao68 t630.length co68 : Value).ownBlock ∧ k_ ≠ gb601 ∧ k_ ≠ gb602)) (by (with_reducible repeat (first | apply Kd.V_alloc | apply Kd.V_drewN | apply Kd.V_drew)); exact Kd.V_mono HO_9.out (fun _ hk => ⟨⟨hk.1.1.1.1, ⟨hk.1.1.1.2.1, ⟨hk.1.1.1.2.2.1, ⟨hk.1.1.1.2.2.2.1, ⟨hk.1.1.1.2.2.2.2.1, ⟨hk.1.1.1.2.2.2.2.2, ⟨hk.1.1.2, hk.1.2⟩⟩⟩⟩⟩⟩⟩, hk.2⟩)) hg hat); have n1_ := Aside0.mk (Kd.V_afterv (ok := (fun k_ => (P2_0_ k_ ∨ w.heap.size ≤ k_) ∧ some k_ ≠ (.slice Ao76 t607.length co76 : Value).ownBlock ∧ some k_ ≠ (.slice Ao78 t615.length co78 : Value).ownBlock ∧ some k_ ≠ (v621 : Value).ownBlock ∧ some k_ ≠ (v625 : Value).ownBlock ∧ some k_ ≠ (.slice Ao68 t630.length co68 : Value).ownBlock ∧ k_ ≠ gb601 ∧ k_ ≠ gb602)) (by (with_reducible repeat (first | apply Kd.V_alloc | apply Kd.V_drewN | apply Kd.V_drew)); exact Kd.V_mono HO_11.out (fun _ hk => ⟨⟨hk.1.1.1.1, ⟨hk.1.1.1.2.1, ⟨hk.1.1.1.2.2.1, ⟨hk.1.1.1.2.2.2.1, ⟨hk.1.1.1.2.2.2.2.1, ⟨hk.1.1.1.2.2.2.2.2, ⟨hk.1.1.2, hk.1.2⟩⟩⟩⟩⟩⟩⟩, hk.2⟩)) hg hat); have n2_ := Aside0.mk (Kd.V_afterv (ok := (fun k_ => (P2_0_ k_ ∨ w.heap.size ≤ k_) ∧ some k_ ≠ (.slice Ao76 t607.length co76 : Value).ownBlock ∧ some k_ ≠ (.slice Ao77 t611.length co77 : Value).ownBlock ∧ some k_ ≠ (v621 : Value).ownBlock ∧ some k_ ≠ (v625 : Value).ownBlock ∧ some k_ ≠ (.slice Ao68 t630.length co68 : Value).ownBlock ∧ k_ ≠ gb601 ∧ k_ ≠ gb602)) (by (with_reducible repeat (first | apply Kd.V_alloc | apply Kd.V_drewN | apply Kd.V_drew)); exact Kd.V_mono HO_13.out (fun _ hk => ⟨⟨hk.1.1.1.1, ⟨hk.1.1.1.2.1, ⟨hk.1.1.1.2.2.1, ⟨hk.1.1.1.2.2.2.1, ⟨hk.1.1.1.2.2.2.2.1, ⟨hk.1.1.1.2.2.2.2.2, ⟨hk.1.1.2, hk.1.2⟩⟩⟩⟩⟩⟩⟩, hk.2⟩)) hg hat); have n3_ := Aside0.mk (Kd.R_over' (by (with_reducible repeat (first | apply Kd.R_alloc | apply Kd.R_drewN | apply Kd.R_drew)); exact HO_15.out) (Kd.N_typed (by (with_reducible repeat (first | apply Kd.N_alloc | apply Kd.N_drewN | apply Kd.N_drew)); exact HO638.out)) (by decide) hg); have n4_ := Aside0.mk (Kd.R_over' (by (with_reducible repeat (first | apply Kd.R_alloc | apply Kd.R_drewN | apply Kd.R_drew)); exact HO_17.out) (Kd.N_typed (by (with_reducible repeat (first | apply Kd.N_alloc | apply Kd.N_drewN | apply Kd.N_drew)); exact HO638.out)) (by decide) hg); have n5_ := Aside0.mk (Kd.V_afterv (ok := (fun k_ => (P2_0_ k_ ∨ w.heap.size ≤ k_) ∧ some k_ ≠ (.slice Ao76 t607.length co76 : Value).ownBlock ∧ some k_ ≠ (.slice Ao77 t611.length co77 : Value).ownBlock ∧ some k_ ≠ (.slice Ao78 t615.length co78 : Value).ownBlock ∧ some k_ ≠ (v621 : Value).ownBlock ∧ some k_ ≠ (v625 : Value).ownBlock ∧ k_ ≠ gb601 ∧ k_ ≠ gb602)) (by (with_reducible repeat (first | apply Kd.V_alloc | apply Kd.V_drewN | apply Kd.V_drew)); exact Kd.V_mono HO_21.out (fun _ hk => ⟨⟨hk.1.1.1.1, ⟨hk.1.1.1.2.1, ⟨hk.1.1.1.2.2.1, ⟨hk.1.1.1.2.2.2.1, ⟨hk.1.1.1.2.2.2.2.1, ⟨hk.1.1.1.2.2.2.2.2, ⟨hk.1.1.2, hk.1.2⟩⟩⟩⟩⟩⟩⟩, hk.2⟩)) hg hat); have n6_ := Aside0.mk (Kd.V_afterv (ok := (fun k_ => (P2_0_ k_ ∨ w.heap.size ≤ k_) ∧ some k_ ≠ (.slice Ao76 t607.length co76 : Value).ownBlock ∧ some k_ ≠ (.slice Ao77 t611.length co77 : Value).ownBlock ∧ some k_ ≠ (.slice Ao78 t615.length co78 : Value).ownBlock ∧ some k_ ≠ (v621 : Value).ownBlock ∧ some k_ ≠ (v625 : Value).ownBlock ∧ some k_ ≠ (.slice Ao68 t630.length co68 : Value).ownBlock ∧ k_ ≠ gb601 ∧ k_ ≠ gb602)) (by (with_reducible repeat (first | apply Kd.V_alloc | apply Kd.V_drewN | apply Kd.V_drew)); exact HO_603000.out) hg hat); have n7_ := Aside0.mk (blk_grown (g := gb601) (o := .cells #[.int .i64 a1_0, .int .i64 a1_1] 39 (0, 0)) (bkU BK601) hg (Kd.N_ne HO638.out BK601.out (by decide))); have n8_ := Aside0.mk (blk_grown (g := gb602) (o := .cells #[.slice A2_0 l2_0.length c2_0, .int .u32 a2_1] 52 (0, 0)) (bkU BK602) hg (Kd.N_ne HO638.out BK602.out (by decide))); have n9_ := Aside0.mk (hb); have n10_ := Aside0.mk (ho); clear HO_9; clear HO_11; clear HO_13; clear HO_15; clear HO_17; clear HO_21; clear HO_603000; clear BK601; clear BK602; clear HB; clear HO638; have HO_9 := n0_; have HO_11 := n1_; have HO_13 := n2_; have HO_15 := n3_; have HO_17 := n4_; have HO_21 := n5_; have HO_603000 := n6_; have BK601 := n7_; have BK602 := n8_; have HB := n9_; have HO641 := n10_; clear n0_ n1_ n2_ n3_ n4_ n5_ n6_ n7_ n8_ n9_ n10_; clear ho hb hg hat))
                    go_meet
                    case rel => exact ⟨_, (y639), H', ⟨by have := HJ3.out; have := HJ23.out; have := HJ54.out; have := HJ62.out; first | omega | exact Nat.le_refl _⟩, ⟨by (with_reducible repeat (first | apply Kd.V_alloc | apply Kd.V_drewN | apply Kd.V_drew)); exact Kd.V_mono HO_9.out (fun _ hk => ⟨hk.1.1, ⟨hk.1.2.2.2.1, ⟨hk.1.2.2.2.2.1, ⟨hk.2, ⟨hk.1.2.2.2.2.2.2.1, hk.1.2.2.2.2.2.2.2⟩⟩⟩⟩⟩)⟩, ⟨by (with_reducible repeat (first | apply Kd.V_alloc | apply Kd.V_drewN | apply Kd.V_drew)); exact Kd.V_mono HO_11.out (fun _ hk => ⟨hk.1.1, ⟨hk.1.2.2.2.1, ⟨hk.1.2.2.2.2.1, ⟨hk.2, ⟨hk.1.2.2.2.2.2.2.1, hk.1.2.2.2.2.2.2.2⟩⟩⟩⟩⟩)⟩, ⟨by (with_reducible repeat (first | apply Kd.V_alloc | apply Kd.V_drewN | apply Kd.V_drew)); exact Kd.V_mono HO_13.out (fun _ hk => ⟨hk.1.1, ⟨hk.1.2.2.2.1, ⟨hk.1.2.2.2.2.1, ⟨hk.2, ⟨hk.1.2.2.2.2.2.2.1, hk.1.2.2.2.2.2.2.2⟩⟩⟩⟩⟩)⟩, ⟨by (with_reducible repeat (first | apply Kd.R_alloc | apply Kd.R_drewN | apply Kd.R_drew)); exact Kd.R_mono HO_15.out (fun _ hk => ⟨hk.1, hk.2.2.2.2.1⟩)⟩, ⟨by (with_reducible repeat (first | apply Kd.R_alloc | apply Kd.R_drewN | apply Kd.R_drew)); exact Kd.R_mono HO_17.out (fun _ hk => ⟨hk.1, hk.2.2.2.2.1⟩)⟩, ⟨by (with_reducible repeat (first | apply Kd.N_alloc | apply Kd.N_drewN | apply Kd.N_drew)); exact HO641.out⟩, ⟨by (with_reducible repeat (first | apply Kd.V_alloc | apply Kd.V_drewN | apply Kd.V_drew)); exact Kd.V_mono HO_603000.out (fun _ hk => ⟨hk.1.1, ⟨hk.1.2.2.2.2.1, ⟨hk.1.2.2.2.2.2.1, ⟨hk.2, ⟨hk.1.2.2.2.2.2.2.2.1, hk.1.2.2.2.2.2.2.2.2⟩⟩⟩⟩⟩)⟩, ⟨bkU BK601⟩, ⟨bkU BK602⟩, ⟨by repeat (first | (with_reducible first | exact HB.out | apply below_alloc | apply pw_below_drewN | apply below_drew1 | refine below_set ?_ GE601.out | refine below_set ?_ GE602.out) | exact HB.out)⟩⟩
                  case rest => as_aux_lemma =>
                    clear HC75
                    try clear c1
                    try clear c2
                    try clear p2
                    try clear c3
                    try clear c4
                    try clear c5
                    try clear c6
                    try clear p6
                    try clear c7
                    try clear c8
                    try clear c9
                    try clear c12
                    try clear c14
                    try clear c18
                    try clear c24
                    try clear c25
                    try clear c26
                    try clear c29
                    try clear c30
                    try clear c31
                    try clear c32
                    try clear c33
                    try clear c34
                    try clear c35
                    try clear c36
                    try clear c41
                    try clear c41b0
                    try clear c41b1
                    try clear c42
                    try clear c42b0
                    try clear c42b1
                    try clear c43
                    try clear c43b0
                    try clear c43b1
                    try clear c44
                    try clear c45
                    try clear c45b0
                    try clear c45b1
                    try clear c46
                    try clear c46b0
                    try clear c46b1
                    try clear c47
                    try clear c47b0
                    try clear c47b1
                    try clear c48
                    try clear c48b0
                    try clear c48b1
                    try clear c49
                    try clear c49b0
                    try clear c49b1
                    try clear c50
                    try clear c50b0
                    try clear c50b1
                    try clear c50b2
                    try clear c51
                    try clear c56
                    try clear c56b0
                    try clear c56b1
                    try clear c57
                    try clear c57b0
                    try clear c57b1
                    try clear c58
                    try clear c58b0
                    try clear c58b1
                    try clear c59
                    try clear c60
                    try clear c60b0
                    try clear c60b1
                    try clear p64
                    try clear c66
                    try clear c70
                    try clear c70b0
                    try clear c70b1
                    try clear c71
                    try clear c71b0
                    try clear c71b1
                    try clear c72
                    try clear c74
                    try clear c81
                    try clear c82
                    try clear c83
                    try clear hcz10_0
                    try clear hcz10_1
                    try clear hcz11_0
                    try clear hcz11_1
                    try clear hcz13_0
                    try clear hcz13_1
                    try clear hcz26_0
                    try clear hcz26_1
                    try clear hcz28_0
                    try clear hcz28_1
                    try clear hcz30_0
                    try clear hcz30_1
                    try clear hcz32_0
                    try clear hcz32_1
                    try clear hcz34_0
                    try clear hcz34_1
                    try clear hcz36_0
                    try clear hcz36_1
                    try clear hcz38_0
                    try clear hcz38_1
                    try clear hcz39_0
                    try clear hcz39_1
                    try clear hcz67_0
                    try clear hcz67_1
                    try clear hcz73_0
                    try clear hcz73_1
                    try clear hcz84_0
                    try clear hcz84_1
                    try clear hfz10_0
                    try clear hfz10_1
                    try clear hfz11_0
                    try clear hfz11_1
                    try clear hfz13_0
                    try clear hfz13_1
                    try clear hfz26_0
                    try clear hfz26_1
                    try clear hfz28_0
                    try clear hfz28_1
                    try clear hfz30_0
                    try clear hfz30_1
                    try clear hfz32_0
                    try clear hfz32_1
                    try clear hfz34_0
                    try clear hfz34_1
                    try clear hfz36_0
                    try clear hfz36_1
                    try clear hfz38_0
                    try clear hfz38_1
                    try clear hfz39_0
                    try clear hfz39_1
                    try clear hfz67_0
                    try clear hfz67_1
                    try clear hfz73_0
                    try clear hfz73_1
                    try clear hfz84_0
                    try clear hfz84_1
                    try clear p2
                    try clear p6
                    try clear p64
                    obtain ⟨kq, x23_74, HA, HJ74, HO_9, HO_11, HO_13, HO_15, HO_17, HO_23, HO_603000, BK601, BK602, HB⟩ := hcut
                    cases kq with
                    | zero => exact absurd HA.out (by simp [droppertop_TopPull.j4])
                    | succ kj74 =>
                      have H := HA.out; clear HA; simp only [droppertop_TopPull.j4] at H; replace H := Option.bind_eq_some_iff.mp H; obtain ⟨t642, A860, H⟩ := H; (try dsimp only at H); have A86 := Aside0.mk A860; clear A860; have H' := Aside0.mk H; clear H
                      go_wp2_with (first | ((with_reducible refine gate_callee (f := 37) rfl ?_); refine goesL_ (some 220) rfl rfl Try.func37 (by kernel_rfl) rfl #[.slice A0 l0.length c0, .slice Ao78 t615.length co78] rfl (by (try simp only [List.map_toArray, List.map_cons, List.map_nil]); first | done | rfl | (simp only [List.length_drop, List.length_take]; rfl)) ?_; (with_reducible refine (droppertop_longest.calls kj74 _ _ l0 _ _ t615 t642 _ ?side1 ?side2 ?side3 ?side4 A86.out).mono ?_); (case side1 => repeat (first | exact (Kd.C_below HR0.out HB.out) | (with_reducible refine Kd.C_alloc ?_ _) | (with_reducible refine Kd.C_drewN ?_ _) | (with_reducible refine Kd.C_drew ?_))); (case side2 => exact HC0.out); (case side3 => repeat (first | exact (Kd.V_reads' HO_13.out).2.2 | (with_reducible refine Kd.C_alloc ?_ _) | (with_reducible refine Kd.C_drewN ?_ _) | (with_reducible refine Kd.C_drew ?_))); (case side4 => exact (Kd.V_reads' HO_13.out).2.1); rintro e w87 ⟨rfl, hb⟩; refine ⟨_, rfl, ?_⟩; have n0_ := Aside0.mk (Kd.V_below (by (with_reducible repeat (first | apply Kd.V_alloc | apply Kd.V_drewN | apply Kd.V_drew)); exact HO_9.out) hb); have n1_ := Aside0.mk (Kd.V_below (by (with_reducible repeat (first | apply Kd.V_alloc | apply Kd.V_drewN | apply Kd.V_drew)); exact HO_11.out) hb); have n2_ := Aside0.mk (Kd.V_below (by (with_reducible repeat (first | apply Kd.V_alloc | apply Kd.V_drewN | apply Kd.V_drew)); exact HO_13.out) hb); have n3_ := Aside0.mk (Kd.R_below (by (with_reducible repeat (first | apply Kd.R_alloc | apply Kd.R_drewN | apply Kd.R_drew)); exact HO_15.out) hb); have n4_ := Aside0.mk (Kd.R_below (by (with_reducible repeat (first | apply Kd.R_alloc | apply Kd.R_drewN | apply Kd.R_drew)); exact HO_17.out) hb); have n5_ := Aside0.mk (Kd.N_below (by (with_reducible repeat (first | apply Kd.N_alloc | apply Kd.N_drewN | apply Kd.N_drew)); exact HO_23.out) hb); have n6_ := Aside0.mk (Kd.V_below (by (with_reducible repeat (first | apply Kd.V_alloc | apply Kd.V_drewN | apply Kd.V_drew)); exact HO_603000.out) hb); have n7_ := Aside0.mk (bkB BK601 hb); have n8_ := Aside0.mk (bkB BK602 hb); have n9_ := Aside0.mk (below_step (by repeat (first | (with_reducible first | exact HB.out | apply below_alloc | apply pw_below_drewN | apply below_drew1 | refine below_set ?_ GE601.out | refine below_set ?_ GE602.out) | exact HB.out)) hb); clear HO_9; clear HO_11; clear HO_13; clear HO_15; clear HO_17; clear HO_23; clear HO_603000; clear BK601; clear BK602; clear HB; have HO_9 := n0_; have HO_11 := n1_; have HO_13 := n2_; have HO_15 := n3_; have HO_17 := n4_; have HO_23 := n5_; have HO_603000 := n6_; have BK601 := n7_; have BK602 := n8_; have HB := n9_; clear n0_ n1_ n2_ n3_ n4_ n5_ n6_ n7_ n8_ n9_; (try clear hb); (try clear hb2); (try clear hk); (try clear hi)))
                      go_loopg [25] kj74 (fun kq v25 w' => ∃ (x25_6 : Int), v25 = .int .i64 x25_6 ∧ Aside0 (droppertop_TopPull.l0 kq l0 t605 t607 t611 t619 t623 x23_74 t642 x25_6 a1_0 a1_1 = some r) ∧ Aside0 (kq ≤ kj74) ∧ Aside0 (Kd.V (Kd.int .i64) 3 w' w.heap.size (fun k_ => (P2_0_ k_ ∨ w.heap.size ≤ k_) ∧ some k_ ≠ (v621 : Value).ownBlock ∧ some k_ ≠ (v625 : Value).ownBlock ∧ some k_ ≠ (u23 : Value).ownBlock ∧ k_ ≠ gb601 ∧ k_ ≠ gb602) (.slice Ao76 t607.length co76) t607) ∧ Aside0 (Kd.V (Kd.int .i64) 3 w' w.heap.size (fun k_ => (P2_0_ k_ ∨ w.heap.size ≤ k_) ∧ some k_ ≠ (v621 : Value).ownBlock ∧ some k_ ≠ (v625 : Value).ownBlock ∧ some k_ ≠ (u23 : Value).ownBlock ∧ k_ ≠ gb601 ∧ k_ ≠ gb602) (.slice Ao77 t611.length co77) t611) ∧ Aside0 (Kd.R (Kd.int .i64) 3 w' w.heap.size (fun k_ => (w.heap.size ≤ k_) ∧ some k_ ≠ (v625 : Value).ownBlock) v621 t619) ∧ Aside0 (Kd.R (Kd.int .i64) 3 w' w.heap.size (fun k_ => (w.heap.size ≤ k_) ∧ some k_ ≠ (v621 : Value).ownBlock) v625 t623) ∧ Aside0 (Kd.N (Kd.slice 3 (Kd.int .i64)) 37 w' w.heap.size (fun k_ => (P2_0_ k_ ∨ w.heap.size ≤ k_) ∧ some k_ ≠ (v621 : Value).ownBlock ∧ some k_ ≠ (v625 : Value).ownBlock ∧ k_ ≠ gb601 ∧ k_ ≠ gb602) u23 x23_74) ∧ Aside0 (Kd.V (Kd.int .i64) 3 w' w.heap.size (fun k_ => (P2_0_ k_ ∨ w.heap.size ≤ k_) ∧ some k_ ≠ (v621 : Value).ownBlock ∧ some k_ ≠ (v625 : Value).ownBlock ∧ some k_ ≠ (u23 : Value).ownBlock ∧ k_ ≠ gb601 ∧ k_ ≠ gb602) (.slice A2_0 l2_0.length c2_0) l2_0) ∧ Aside0 (w'.heap[gb601]? = some (.cells #[.int .i64 a1_0, .int .i64 a1_1] 39 (0, 0))) ∧ Aside0 (w'.heap[gb602]? = some (.cells #[(.slice A2_0 l2_0.length c2_0), .int .u32 a2_1] 52 (0, 0))) ∧ Aside0 (Below w.heap.size w w'))
                      case atStart => exact ⟨(0), (by first | rfl | (simp; done) | (simp [*]; done)), H', ⟨Nat.le_refl _⟩, ⟨by (with_reducible repeat (first | apply Kd.V_alloc | apply Kd.V_drewN | apply Kd.V_drew)); exact HO_9.out⟩, ⟨by (with_reducible repeat (first | apply Kd.V_alloc | apply Kd.V_drewN | apply Kd.V_drew)); exact HO_11.out⟩, ⟨by (with_reducible repeat (first | apply Kd.R_alloc | apply Kd.R_drewN | apply Kd.R_drew)); exact HO_15.out⟩, ⟨by (with_reducible repeat (first | apply Kd.R_alloc | apply Kd.R_drewN | apply Kd.R_drew)); exact HO_17.out⟩, ⟨by (with_reducible repeat (first | apply Kd.N_alloc | apply Kd.N_drewN | apply Kd.N_drew)); exact HO_23.out⟩, ⟨by (with_reducible repeat (first | apply Kd.V_alloc | apply Kd.V_drewN | apply Kd.V_drew)); exact HO_603000.out⟩, ⟨bkU BK601⟩, ⟨bkU BK602⟩, ⟨by repeat (first | (with_reducible first | exact HB.out | apply below_alloc | apply pw_below_drewN | apply below_drew1 | refine below_set ?_ GE601.out | refine below_set ?_ GE602.out) | exact HB.out)⟩⟩
                      case round =>
                        clear H'
                        try clear c1
                        try clear c2
                        try clear p2
                        try clear c3
                        try clear c4
                        try clear c5
                        try clear c6
                        try clear p6
                        try clear c7
                        try clear c8
                        try clear c9
                        try clear c12
                        try clear c14
                        try clear c18
                        try clear c24
                        try clear c25
                        try clear c26
                        try clear c29
                        try clear c30
                        try clear c31
                        try clear c32
                        try clear c33
                        try clear c34
                        try clear c35
                        try clear c36
                        try clear c37
                        try clear c41
                        try clear c41b0
                        try clear c41b1
                        try clear c42
                        try clear c42b0
                        try clear c42b1
                        try clear c43
                        try clear c43b0
                        try clear c43b1
                        try clear c44
                        try clear c45
                        try clear c45b0
                        try clear c45b1
                        try clear c46
                        try clear c46b0
                        try clear c46b1
                        try clear c47
                        try clear c47b0
                        try clear c47b1
                        try clear c48
                        try clear c48b0
                        try clear c48b1
                        try clear c49
                        try clear c49b0
                        try clear c49b1
                        try clear c50
                        try clear c50b0
                        try clear c50b1
                        try clear c50b2
                        try clear c51
                        try clear c56
                        try clear c56b0
                        try clear c56b1
                        try clear c57
                        try clear c57b0
                        try clear c57b1
                        try clear c58
                        try clear c58b0
                        try clear c58b1
                        try clear c59
                        try clear c60
                        try clear c60b0
                        try clear c60b1
                        try clear p64
                        try clear c66
                        try clear c70
                        try clear c70b0
                        try clear c70b1
                        try clear c71
                        try clear c71b0
                        try clear c71b1
                        try clear c72
                        try clear c74
                        try clear c81
                        try clear c82
                        try clear c83
                        try clear hcz10_0
                        try clear hcz10_1
                        try clear hcz11_0
                        try clear hcz11_1
                        try clear hcz13_0
                        try clear hcz13_1
                        try clear hcz26_0
                        try clear hcz26_1
                        try clear hcz28_0
                        try clear hcz28_1
                        try clear hcz30_0
                        try clear hcz30_1
                        try clear hcz32_0
                        try clear hcz32_1
                        try clear hcz34_0
                        try clear hcz34_1
                        try clear hcz36_0
                        try clear hcz36_1
                        try clear hcz38_0
                        try clear hcz38_1
                        try clear hcz39_0
                        try clear hcz39_1
                        try clear hcz67_0
                        try clear hcz67_1
                        try clear hcz73_0
                        try clear hcz73_1
                        try clear hcz84_0
                        try clear hcz84_1
                        try clear hfz10_0
                        try clear hfz10_1
                        try clear hfz11_0
                        try clear hfz11_1
                        try clear hfz13_0
                        try clear hfz13_1
                        try clear hfz26_0
                        try clear hfz26_1
                        try clear hfz28_0
                        try clear hfz28_1
                        try clear hfz30_0
                        try clear hfz30_1
                        try clear hfz32_0
                        try clear hfz32_1
                        try clear hfz34_0
                        try clear hfz34_1
                        try clear hfz36_0
                        try clear hfz36_1
                        try clear hfz38_0
                        try clear hfz38_1
                        try clear hfz39_0
                        try clear hfz39_1
                        try clear hfz67_0
                        try clear hfz67_1
                        try clear hfz73_0
                        try clear hfz73_1
                        try clear hfz84_0
                        try clear hfz84_1
                        try clear p2
                        try clear p6
                        try clear p64
                        obtain ⟨x25_6, rfl, HA, HK6, HO_9, HO_11, HO_15, HO_17, HO_23, HO_603000, BK601, BK602, HB⟩ := hrel
                        cases gk with
                        | zero => exact absurd HA.out (by simp [droppertop_TopPull.l0])
                        | succ k6 =>
                          have H := HA.out; clear HA; simp only [droppertop_TopPull.l0] at H; by_cases c88 : x25_6 < (x23_74.length : Int); rotate_left
                          · rw [if_neg c88] at H; have c88b0 : decide (x25_6 < (x23_74.length : Int)) = false := decide_eq_false c88; clear c88; replace H := Option.bind_eq_some_iff.mp H; obtain ⟨t643, A1360, H⟩ := H; (try dsimp only at H); have A136 := Aside0.mk A1360; clear A1360; by_cases c137 : t643 = true; rotate_left
                            · replace c137 := Bool.eq_false_iff.mpr c137; subst c137; rw [if_neg (show ¬ (false = true) by decide)] at H
                              exact absurd (hT.symm.trans (Option.some.inj H).symm) (by decide)

                            subst c137; rw [if_pos rfl] at H; replace H := Option.bind_eq_some_iff.mp H; obtain ⟨t644, A1380, H⟩ := H; (try dsimp only at H); have A138 := Aside0.mk A1380; clear A1380 hT; obtain rfl := Option.some.inj H; obtain ⟨Ao139, co139, eo139⟩ := Kd.N_slice HO_23.out; subst eo139; obtain ⟨Ao140, co140, eo140⟩ := Kd.R_slice HO_15.out; subst eo140; obtain ⟨Ao141, co141, eo141⟩ := Kd.R_slice HO_17.out; subst eo141
                            go_wp2_with (first | ((with_reducible refine gate_callee (f := 40) rfl ?_); refine goesL_ (some 354) rfl rfl Try.func40 (by kernel_rfl) rfl #[.slice Ao140 t619.length co140, .slice Ao141 t623.length co141] rfl (by (try simp only [List.map_toArray, List.map_cons, List.map_nil]); first | done | rfl | (simp only [List.length_drop, List.length_take]; rfl)) ?_; (with_reducible refine (droppertop_within.calls k6 _ _ t619 _ _ t623 true _ ?side1 ?side2 ?side3 ?side4 A136.out).mono ?_); (case side1 => repeat (first | exact (Kd.R_reads' HO_15.out).2.2 | (with_reducible refine Kd.C_alloc ?_ _) | (with_reducible refine Kd.C_drewN ?_ _) | (with_reducible refine Kd.C_drew ?_))); (case side2 => exact (Kd.R_reads' HO_15.out).2.1); (case side3 => repeat (first | exact (Kd.R_reads' HO_17.out).2.2 | (with_reducible refine Kd.C_alloc ?_ _) | (with_reducible refine Kd.C_drewN ?_ _) | (with_reducible refine Kd.C_drew ?_))); (case side4 => exact (Kd.R_reads' HO_17.out).2.1); rintro e w' ⟨rfl, ⟨nd, rfl⟩⟩; refine ⟨_, rfl, ?_⟩) | (go_at_call 18; (with_reducible refine (dropperlaw04_Awake.calls k6  t644 _ A138.out).mono ?_); rintro e w142 ⟨rfl, hb⟩; have n0_ := Aside0.mk (Kd.V_below (by (with_reducible repeat (first | apply Kd.V_alloc | apply Kd.V_drewN | apply Kd.V_drew)); exact HO_9.out) hb); have n1_ := Aside0.mk (Kd.V_below (by (with_reducible repeat (first | apply Kd.V_alloc | apply Kd.V_drewN | apply Kd.V_drew)); exact HO_11.out) hb); have n2_ := Aside0.mk (Kd.R_below (by (with_reducible repeat (first | apply Kd.R_alloc | apply Kd.R_drewN | apply Kd.R_drew)); exact HO_15.out) hb); have n3_ := Aside0.mk (Kd.R_below (by (with_reducible repeat (first | apply Kd.R_alloc | apply Kd.R_drewN | apply Kd.R_drew)); exact HO_17.out) hb); have n4_ := Aside0.mk (Kd.N_below (by (with_reducible repeat (first | apply Kd.N_alloc | apply Kd.N_drewN | apply Kd.N_drew)); exact HO_23.out) hb); have n5_ := Aside0.mk (Kd.V_below (by (with_reducible repeat (first | apply Kd.V_alloc | apply Kd.V_drewN | apply Kd.V_drew)); exact HO_603000.out) hb); have n6_ := Aside0.mk (bkB BK601 hb); have n7_ := Aside0.mk (bkB BK602 hb); have n8_ := Aside0.mk (below_step (by repeat (first | (with_reducible first | exact HB.out | apply below_alloc | apply pw_below_drewN | apply below_drew1 | refine below_set ?_ GE601.out | refine below_set ?_ GE602.out) | exact HB.out)) hb); clear HO_9; clear HO_11; clear HO_15; clear HO_17; clear HO_23; clear HO_603000; clear BK601; clear BK602; clear HB; have HO_9 := n0_; have HO_11 := n1_; have HO_15 := n2_; have HO_17 := n3_; have HO_23 := n4_; have HO_603000 := n5_; have BK601 := n6_; have BK602 := n7_; have HB := n8_; clear n0_ n1_ n2_ n3_ n4_ n5_ n6_ n7_ n8_; (try clear hb); (try clear hb2); (try clear hk); (try clear hi)))
                            go_ret
                            exact ⟨by first | rfl | (simp [errW_none, errW_some] <;> rfl) | (simp [*, errW_none, errW_some] <;> rfl), by repeat (first | (with_reducible first | exact HB.out | apply below_alloc | apply pw_below_drewN | apply below_drew1 | refine below_set ?_ GE601.out | refine below_set ?_ GE602.out) | exact HB.out)⟩
                          rw [if_pos c88] at H; have c88b0 : decide (x25_6 < (x23_74.length : Int)) = true := decide_eq_true c88; clear c88; by_cases c89 : 0 ≤ x25_6; rotate_left
                          · rw [if_neg c89] at H
                            exact absurd H (by simp)
                          rw [if_pos c89] at H; have c89b0 : decide (0 ≤ x25_6) = true := decide_eq_true c89; clear c89; replace H := Option.bind_eq_some_iff.mp H; obtain ⟨⟨t646, t647⟩, A900, H⟩ := H; (try dsimp only at H); have A90 := Aside0.mk A900; clear A900; replace H := Option.bind_eq_some_iff.mp H; obtain ⟨⟨t648, t649⟩, A910, H⟩ := H; (try dsimp only at H); have A91 := Aside0.mk A910; clear A910; have HC92 := Aside0.mk H; clear H; obtain ⟨Ao93, co93, eo93⟩ := Kd.N_slice HO_23.out; subst eo93
                          have p645 : 0 ≤ (x25_6 : Int) := of_decide_eq_true (by first | (with_reducible assumption) | assumption)
                          have q645 : x25_6 < (x23_74.length : Int) := of_decide_eq_true (by first | (with_reducible assumption) | assumption)
                          obtain ⟨ad645, A645_0, c645_0, e645, hx645_0, hl645_0, hi645_0⟩ := at_L1 (Kd.N_reads' HO_23.out).2.2 x25_6 p645 q645
                          cases e645
                          obtain ⟨ce645, hce645, hMe645, hcc645⟩ := Kd.N_get HO_23.out [] x25_6 p645 (by first | exact q645 | exact of_decide_eq_true (by first | (with_reducible assumption) | assumption) | (have e_ := (Kd.N_reads' HO_23.out).1; omega))
                          obtain ⟨ua645_0, uc645_0, rfl, ul645_0, ge645_0⟩ := Kd.FK_slice_open hMe645; have hv645_0 := hcc645 0 _ rfl; rw [Nat.add_zero, show ((Kd.slice 3 (Kd.int .i64))).sz = 1 from rfl, Nat.mul_one] at hv645_0; replace hv645_0 := Option.some.inj (hv645_0.symm.trans hx645_0)
                          injection hv645_0 with hva_ hvn_ hvc_
                          rw [hva_] at ge645_0; rw [hvc_] at ul645_0
                          have HL645_0 := Aside0.mk (show Kd.V (Kd.int .i64) 3 _ w.heap.size _ _ (rd_L1 x23_74 x25_6) from Kd.V_mk ul645_0 ge645_0)
                          clear hva_ hvn_ hvc_ ge645_0 ul645_0; clear hcc645 hce645; have HR645_0 := Aside0.mk hi645_0; have HC645_0 := Aside0.mk hl645_0; clear hi645_0 hl645_0; replace p645 := eq_true p645; replace q645 := eq_true q645; have hnb94 := NB601_602.out; have hnc94 := NB602_601.out; have hcz95_0 : wr.cell? ⟨gb601, 0, none⟩ = some (.int .i64 a1_0) := (blk_cell BK601.out 0).trans rfl; have hcz95_1 : wr.cell? ⟨gb601, 1, none⟩ = some (.int .i64 a1_1) := (blk_cell BK601.out 1).trans rfl; have hfz95_0 := blk_frozen BK601.out 0; have hfz95_1 := blk_frozen BK601.out 1
                          go_upto_region 30 with (first | ((with_reducible refine gate_callee (f := 35) rfl ?_); refine goesL_ (some 238) rfl rfl Try.func35 (by kernel_rfl) rfl #[.slice A0 l0.length c0, .int .i64 a1_0, .int .i64 a1_1, .slice A645_0 (rd_L1 x23_74 x25_6).length c645_0] rfl (by (try simp only [List.map_toArray, List.map_cons, List.map_nil]); first | done | rfl | (simp only [List.length_drop, List.length_take]; rfl)) ?_; (with_reducible refine (pull_IsPlan.calls k6 _ _ l0 a1_0 a1_1 _ _ (rd_L1 x23_74 x25_6) t646 t647 _ ?side1 ?side2 ?side3 ?side4 A90.out).mono ?_); (case side1 => repeat (first | exact (Kd.C_below HR0.out HB.out) | (with_reducible refine Kd.C_alloc ?_ _) | (with_reducible refine Kd.C_drewN ?_ _) | (with_reducible refine Kd.C_drew ?_))); (case side2 => exact HC0.out); (case side3 => repeat (first | exact (by repeat (first | (with_reducible exact HR645_0.out) | (with_reducible refine Kd.C_alloc ?_ _) | (with_reducible refine Kd.C_drewN ?_ _) | (with_reducible refine Kd.C_drew ?_) | exact HR645_0.out)) | (with_reducible refine Kd.C_alloc ?_ _) | (with_reducible refine Kd.C_drewN ?_ _) | (with_reducible refine Kd.C_drew ?_))); (case side4 => exact HC645_0.out); rintro e w96 ⟨rfl, hb⟩; refine ⟨_, rfl, ?_⟩; have n0_ := Aside0.mk (Kd.V_below (by (with_reducible repeat (first | apply Kd.V_alloc | apply Kd.V_drewN | apply Kd.V_drew)); exact HO_9.out) hb); have n1_ := Aside0.mk (Kd.V_below (by (with_reducible repeat (first | apply Kd.V_alloc | apply Kd.V_drewN | apply Kd.V_drew)); exact HO_11.out) hb); have n2_ := Aside0.mk (Kd.R_below (by (with_reducible repeat (first | apply Kd.R_alloc | apply Kd.R_drewN | apply Kd.R_drew)); exact HO_15.out) hb); have n3_ := Aside0.mk (Kd.R_below (by (with_reducible repeat (first | apply Kd.R_alloc | apply Kd.R_drewN | apply Kd.R_drew)); exact HO_17.out) hb); have n4_ := Aside0.mk (Kd.N_below (by (with_reducible repeat (first | apply Kd.N_alloc | apply Kd.N_drewN | apply Kd.N_drew)); exact HO_23.out) hb); have n5_ := Aside0.mk (Kd.V_below (by (with_reducible repeat (first | apply Kd.V_alloc | apply Kd.V_drewN | apply Kd.V_drew)); exact HO_603000.out) hb); have n6_ := Aside0.mk (Kd.V_below (by (with_reducible repeat (first | apply Kd.V_alloc | apply Kd.V_drewN | apply Kd.V_drew)); exact HL645_0.out) hb); have n7_ := Aside0.mk (bkB BK601 hb); have n8_ := Aside0.mk (bkB BK602 hb); have n9_ := Aside0.mk (Kd.C_below (by repeat (first | (with_reducible exact HR645_0.out) | (with_reducible refine Kd.C_alloc ?_ _) | (with_reducible refine Kd.C_drewN ?_ _) | (with_reducible refine Kd.C_drew ?_) | exact HR645_0.out)) hb); have n10_ := Aside0.mk (below_step (by repeat (first | (with_reducible first | exact HB.out | apply below_alloc | apply pw_below_drewN | apply below_drew1 | refine below_set ?_ GE601.out | refine below_set ?_ GE602.out) | exact HB.out)) hb); clear HO_9; clear HO_11; clear HO_15; clear HO_17; clear HO_23; clear HO_603000; clear HL645_0; clear BK601; clear BK602; clear HR645_0; clear HB; have HO_9 := n0_; have HO_11 := n1_; have HO_15 := n2_; have HO_17 := n3_; have HO_23 := n4_; have HO_603000 := n5_; have HL645_0 := n6_; have BK601 := n7_; have BK602 := n8_; have HR645_0 := n9_; have HB := n10_; clear n0_ n1_ n2_ n3_ n4_ n5_ n6_ n7_ n8_ n9_ n10_; (try clear hb); (try clear hb2); (try clear hk); (try clear hi); have hcz97_0 : w96.cell? ⟨gb601, 0, none⟩ = some (.int .i64 a1_0) := (blk_cell BK601.out 0).trans rfl; have hcz97_1 : w96.cell? ⟨gb601, 1, none⟩ = some (.int .i64 a1_1) := (blk_cell BK601.out 1).trans rfl; have hfz97_0 := blk_frozen BK601.out 0; have hfz97_1 := blk_frozen BK601.out 1) | ((with_reducible refine gate_callee (f := 36) rfl ?_); refine goesL_ (some 248) rfl rfl Try.func36 (by kernel_rfl) rfl #[.slice A0 l0.length c0, .int .i64 a1_0, .int .i64 a1_1, .slice A645_0 (rd_L1 x23_74 x25_6).length c645_0] rfl (by (try simp only [List.map_toArray, List.map_cons, List.map_nil]); first | done | rfl | (simp only [List.length_drop, List.length_take]; rfl)) ?_; (with_reducible refine (pull_Rank.calls k6 _ _ l0 a1_0 a1_1 _ _ (rd_L1 x23_74 x25_6) t648 t649 _ ?side1 ?side2 ?side3 ?side4 A91.out).mono ?_); (case side1 => repeat (first | exact (Kd.C_below HR0.out HB.out) | (with_reducible refine Kd.C_alloc ?_ _) | (with_reducible refine Kd.C_drewN ?_ _) | (with_reducible refine Kd.C_drew ?_))); (case side2 => exact HC0.out); (case side3 => repeat (first | exact (by repeat (first | (with_reducible exact HR645_0.out) | (with_reducible refine Kd.C_alloc ?_ _) | (with_reducible refine Kd.C_drewN ?_ _) | (with_reducible refine Kd.C_drew ?_) | exact HR645_0.out)) | (with_reducible refine Kd.C_alloc ?_ _) | (with_reducible refine Kd.C_drewN ?_ _) | (with_reducible refine Kd.C_drew ?_))); (case side4 => exact HC645_0.out); rintro e w98 ⟨rfl, hb⟩; refine ⟨_, rfl, ?_⟩; have n0_ := Aside0.mk (Kd.V_below (by (with_reducible repeat (first | apply Kd.V_alloc | apply Kd.V_drewN | apply Kd.V_drew)); exact HO_9.out) hb); have n1_ := Aside0.mk (Kd.V_below (by (with_reducible repeat (first | apply Kd.V_alloc | apply Kd.V_drewN | apply Kd.V_drew)); exact HO_11.out) hb); have n2_ := Aside0.mk (Kd.R_below (by (with_reducible repeat (first | apply Kd.R_alloc | apply Kd.R_drewN | apply Kd.R_drew)); exact HO_15.out) hb); have n3_ := Aside0.mk (Kd.R_below (by (with_reducible repeat (first | apply Kd.R_alloc | apply Kd.R_drewN | apply Kd.R_drew)); exact HO_17.out) hb); have n4_ := Aside0.mk (Kd.N_below (by (with_reducible repeat (first | apply Kd.N_alloc | apply Kd.N_drewN | apply Kd.N_drew)); exact HO_23.out) hb); have n5_ := Aside0.mk (Kd.V_below (by (with_reducible repeat (first | apply Kd.V_alloc | apply Kd.V_drewN | apply Kd.V_drew)); exact HO_603000.out) hb); have n6_ := Aside0.mk (Kd.V_below (by (with_reducible repeat (first | apply Kd.V_alloc | apply Kd.V_drewN | apply Kd.V_drew)); exact HL645_0.out) hb); have n7_ := Aside0.mk (bkB BK601 hb); have n8_ := Aside0.mk (bkB BK602 hb); have n9_ := Aside0.mk (Kd.C_below (by repeat (first | (with_reducible exact HR645_0.out) | (with_reducible refine Kd.C_alloc ?_ _) | (with_reducible refine Kd.C_drewN ?_ _) | (with_reducible refine Kd.C_drew ?_) | exact HR645_0.out)) hb); have n10_ := Aside0.mk (below_step (by repeat (first | (with_reducible first | exact HB.out | apply below_alloc | apply pw_below_drewN | apply below_drew1 | refine below_set ?_ GE601.out | refine below_set ?_ GE602.out) | exact HB.out)) hb); clear HO_9; clear HO_11; clear HO_15; clear HO_17; clear HO_23; clear HO_603000; clear HL645_0; clear BK601; clear BK602; clear HR645_0; clear HB; have HO_9 := n0_; have HO_11 := n1_; have HO_15 := n2_; have HO_17 := n3_; have HO_23 := n4_; have HO_603000 := n5_; have HL645_0 := n6_; have BK601 := n7_; have BK602 := n8_; have HR645_0 := n9_; have HB := n10_; clear n0_ n1_ n2_ n3_ n4_ n5_ n6_ n7_ n8_ n9_ n10_; (try clear hb); (try clear hb2); (try clear hk); (try clear hi)))
                          (try simp only [Act.put, List.setIfInBounds_toArray, List.set_cons_zero, List.set_cons_succ])
                          go_cut [269] (fun v269 wc => ∃ (kq : Nat) (x269_91 : Bool), v269 = .bool x269_91 ∧ Aside0 (droppertop_TopPull.j6 kq l0 t605 t607 t611 t619 t623 x23_74 t642 x25_6 (rd_L1 x23_74 x25_6) t648 x269_91 a1_0 a1_1 = some r) ∧ Aside0 (kq ≤ k6) ∧ Aside0 (Kd.V (Kd.int .i64) 3 wc w.heap.size (fun k_ => (P2_0_ k_ ∨ w.heap.size ≤ k_) ∧ some k_ ≠ (v621 : Value).ownBlock ∧ some k_ ≠ (v625 : Value).ownBlock ∧ some k_ ≠ ((.slice (some ad645) x23_74.length co93) : Value).ownBlock ∧ k_ ≠ gb601 ∧ k_ ≠ gb602) (.slice Ao76 t607.length co76) t607) ∧ Aside0 (Kd.V (Kd.int .i64) 3 wc w.heap.size (fun k_ => (P2_0_ k_ ∨ w.heap.size ≤ k_) ∧ some k_ ≠ (v621 : Value).ownBlock ∧ some k_ ≠ (v625 : Value).ownBlock ∧ some k_ ≠ ((.slice (some ad645) x23_74.length co93) : Value).ownBlock ∧ k_ ≠ gb601 ∧ k_ ≠ gb602) (.slice Ao77 t611.length co77) t611) ∧ Aside0 (Kd.R (Kd.int .i64) 3 wc w.heap.size (fun k_ => (w.heap.size ≤ k_) ∧ some k_ ≠ (v625 : Value).ownBlock) v621 t619) ∧ Aside0 (Kd.R (Kd.int .i64) 3 wc w.heap.size (fun k_ => (w.heap.size ≤ k_) ∧ some k_ ≠ (v621 : Value).ownBlock) v625 t623) ∧ Aside0 (Kd.N (Kd.slice 3 (Kd.int .i64)) 37 wc w.heap.size (fun k_ => (P2_0_ k_ ∨ w.heap.size ≤ k_) ∧ some k_ ≠ (v621 : Value).ownBlock ∧ some k_ ≠ (v625 : Value).ownBlock ∧ k_ ≠ gb601 ∧ k_ ≠ gb602) (.slice (some ad645) x23_74.length co93) x23_74) ∧ Aside0 (Kd.V (Kd.int .i64) 3 wc w.heap.size (fun k_ => (P2_0_ k_ ∨ w.heap.size ≤ k_) ∧ some k_ ≠ (v621 : Value).ownBlock ∧ some k_ ≠ (v625 : Value).ownBlock ∧ some k_ ≠ ((.slice (some ad645) x23_74.length co93) : Value).ownBlock ∧ k_ ≠ gb601 ∧ k_ ≠ gb602) (.slice A2_0 l2_0.length c2_0) l2_0) ∧ Aside0 (wc.heap[gb601]? = some (.cells #[.int .i64 a1_0, .int .i64 a1_1] 39 (0, 0))) ∧ Aside0 (wc.heap[gb602]? = some (.cells #[(.slice A2_0 l2_0.length c2_0), .int .u32 a2_1] 52 (0, 0))) ∧ Aside0 (Kd.C (Kd.int .i64) wc A645_0 (rd_L1 x23_74 x25_6).length (rd_L1 x23_74 x25_6)) ∧ Aside0 (Below w.heap.size w wc))
                          case first => as_aux_lemma =>
                            have H := HC92.out; clear HC92; by_cases c99 : t647 = 0; rotate_left
                            · rw [if_neg c99] at H; have c99b0 : (t647 == 0) = false := beq_eq_false_iff_ne.mpr c99; have c99b1 : (t647 != 0) = true := bne_iff_ne.mpr c99
                              (first | rw [c99b0] | (simp only [i64_w, i32_w]; rw [c99b0]) | skip)
                              exact absurd (H.trans (congrArg some hT)) (droppertop_TopPull.j6_no _ _ _ _ _ _ _ _ _ _ _ _ _ _)
                            rw [if_pos c99] at H; have c99b0 : (t647 == 0) = true := beq_iff_eq.mpr c99; have c99b1 : (t647 != 0) = false := bne_eq_false_iff_eq.mpr c99; clear c99
                            (first | rw [c99b0] | (simp only [i64_w, i32_w]; rw [c99b0]) | skip)
                            by_cases c100 : t649 = 0; rotate_left
                            · rw [if_neg c100] at H; have c100b0 : (t649 == 0) = false := beq_eq_false_iff_ne.mpr c100; have c100b1 : (t649 != 0) = true := bne_iff_ne.mpr c100; exact absurd (H.trans (congrArg some hT)) (droppertop_TopPull.j6_no _ _ _ _ _ _ _ _ _ _ _ _ _ _)
                            rw [if_pos c100] at H; have c100b0 : (t649 == 0) = true := beq_iff_eq.mpr c100; have c100b1 : (t649 != 0) = false := bne_eq_false_iff_eq.mpr c100; clear c100; by_cases c101 : t646 = true; rotate_left
                            · replace c101 := Bool.eq_false_iff.mpr c101; subst c101; rw [if_neg (show ¬ (false = true) by decide)] at H; exact absurd (H.trans (congrArg some hT)) (droppertop_TopPull.j6_no _ _ _ _ _ _ _ _ _ _ _ _ _ _)
                            subst c101; rw [if_pos rfl] at H; by_cases c102 : t648 < 0
                            · rw [if_pos c102] at H; have c102b0 : decide (t648 < 0) = true := decide_eq_true c102; clear c102; exact absurd (H.trans (congrArg some hT)) (droppertop_TopPull.j6_no _ _ _ _ _ _ _ _ _ _ _ _ _ _)
                            rw [if_neg c102] at H; have c102b0 : decide (t648 < 0) = false := decide_eq_false c102; clear c102; have H' := Aside0.mk H; clear H
                            go_wp2
                            go_meet
                            case rel => exact ⟨_, (decide (t648 ≥ t605)), (by first | rfl | (simp; done) | (simp [*]; done)), H', ⟨by have := HJ3.out; have := HJ23.out; have := HJ54.out; have := HJ62.out; have := HJ74.out; have := HK6.out; first | omega | exact Nat.le_refl _⟩, ⟨by (with_reducible repeat (first | apply Kd.V_alloc | apply Kd.V_drewN | apply Kd.V_drew)); exact HO_9.out⟩, ⟨by (with_reducible repeat (first | apply Kd.V_alloc | apply Kd.V_drewN | apply Kd.V_drew)); exact HO_11.out⟩, ⟨by (with_reducible repeat (first | apply Kd.R_alloc | apply Kd.R_drewN | apply Kd.R_drew)); exact HO_15.out⟩, ⟨by (with_reducible repeat (first | apply Kd.R_alloc | apply Kd.R_drewN | apply Kd.R_drew)); exact HO_17.out⟩, ⟨by (with_reducible repeat (first | apply Kd.N_alloc | apply Kd.N_drewN | apply Kd.N_drew)); exact HO_23.out⟩, ⟨by (with_reducible repeat (first | apply Kd.V_alloc | apply Kd.V_drewN | apply Kd.V_drew)); exact HO_603000.out⟩, ⟨bkU BK601⟩, ⟨bkU BK602⟩, ⟨by repeat (first | (with_reducible exact HR645_0.out) | (with_reducible refine Kd.C_alloc ?_ _) | (with_reducible refine Kd.C_drewN ?_ _) | (with_reducible refine Kd.C_drew ?_) | exact HR645_0.out)⟩, ⟨by repeat (first | (with_reducible first | exact HB.out | apply below_alloc | apply pw_below_drewN | apply below_drew1 | refine below_set ?_ GE601.out | refine below_set ?_ GE602.out) | exact HB.out)⟩⟩
                          case rest => as_aux_lemma =>
                            clear HC92
                            try clear c1
                            try clear c2
                            try clear p2
                            try clear c3
                            try clear c4
                            try clear c5
                            try clear c6
                            try clear p6
                            try clear q6
                            try clear hx6
                            try clear c7
                            try clear c8
                            try clear c9
                            try clear c10
                            try clear c12
                            try clear c14
                            try clear c18
                            try clear c24
                            try clear c25
                            try clear c26
                            try clear c29
                            try clear c30
                            try clear c31
                            try clear c32
                            try clear c33
                            try clear c34
                            try clear c35
                            try clear c36
                            try clear c37
                            try clear c41
                            try clear c41b0
                            try clear c41b1
                            try clear c42
                            try clear c42b0
                            try clear c42b1
                            try clear c43
                            try clear c43b0
                            try clear c43b1
                            try clear c44
                            try clear c45
                            try clear c45b0
                            try clear c45b1
                            try clear c46
                            try clear c46b0
                            try clear c46b1
                            try clear c47
                            try clear c47b0
                            try clear c47b1
                            try clear c48
                            try clear c48b0
                            try clear c48b1
                            try clear c49
                            try clear c49b0
                            try clear c49b1
                            try clear c50
                            try clear c50b0
                            try clear c50b1
                            try clear c50b2
                            try clear c51
                            try clear c56
                            try clear c56b0
                            try clear c56b1
                            try clear c57
                            try clear c57b0
                            try clear c57b1
                            try clear c58
                            try clear c58b0
                            try clear c58b1
                            try clear c59
                            try clear c60
                            try clear c60b0
                            try clear c60b1
                            try clear c64
                            try clear p64
                            try clear q64
                            try clear hx64
                            try clear c66
                            try clear c70
                            try clear c70b0
                            try clear c70b1
                            try clear c71
                            try clear c71b0
                            try clear c71b1
                            try clear c72
                            try clear c74
                            try clear c81
                            try clear c82
                            try clear c83
                            try clear c88
                            try clear c88b0
                            try clear c89
                            try clear c89b0
                            try clear c94
                            try clear c99
                            try clear c99b0
                            try clear c99b1
                            try clear c100
                            try clear c100b0
                            try clear c100b1
                            try clear c101
                            try clear c102
                            try clear c102b0
                            try clear hcz10_0
                            try clear hcz10_1
                            try clear hcz11_0
                            try clear hcz11_1
                            try clear hcz13_0
                            try clear hcz13_1
                            try clear hcz26_0
                            try clear hcz26_1
                            try clear hcz28_0
                            try clear hcz28_1
                            try clear hcz30_0
                            try clear hcz30_1
                            try clear hcz32_0
                            try clear hcz32_1
                            try clear hcz34_0
                            try clear hcz34_1
                            try clear hcz36_0
                            try clear hcz36_1
                            try clear hcz38_0
                            try clear hcz38_1
                            try clear hcz39_0
                            try clear hcz39_1
                            try clear hcz67_0
                            try clear hcz67_1
                            try clear hcz73_0
                            try clear hcz73_1
                            try clear hcz84_0
                            try clear hcz84_1
                            try clear hcz95_0
                            try clear hcz95_1
                            try clear hcz97_0
                            try clear hcz97_1
                            try clear hfz10_0
                            try clear hfz10_1
                            try clear hfz11_0
                            try clear hfz11_1
                            try clear hfz13_0
                            try clear hfz13_1
                            try clear hfz26_0
                            try clear hfz26_1
                            try clear hfz28_0
                            try clear hfz28_1
                            try clear hfz30_0
                            try clear hfz30_1
                            try clear hfz32_0
                            try clear hfz32_1
                            try clear hfz34_0
                            try clear hfz34_1
                            try clear hfz36_0
                            try clear hfz36_1
                            try clear hfz38_0
                            try clear hfz38_1
                            try clear hfz39_0
                            try clear hfz39_1
                            try clear hfz67_0
                            try clear hfz67_1
                            try clear hfz73_0
                            try clear hfz73_1
                            try clear hfz84_0
                            try clear hfz84_1
                            try clear hfz95_0
                            try clear hfz95_1
                            try clear hfz97_0
                            try clear hfz97_1
                            try clear hx645_0
                            try clear p2
                            try clear p6
                            try clear p64
                            try clear p645
                            try clear q645
                            obtain ⟨kq, x269_91, rfl, HA, HJ91, HO_9, HO_11, HO_15, HO_17, HO_23, HO_603000, BK601, BK602, HR645_0, HB⟩ := hcut
                            cases kq with
                            | zero => exact absurd HA.out (by simp [droppertop_TopPull.j6])
                            | succ kj91 =>
                              have H := HA.out; clear HA; simp only [droppertop_TopPull.j6] at H; by_cases c103 : x269_91 = true
                              · subst c103; rw [if_pos rfl] at H
                                exact absurd (hT.symm.trans (Option.some.inj H).symm) (by decide)
                              replace c103 := Bool.eq_false_iff.mpr c103; subst c103; rw [if_neg (show ¬ (false = true) by decide)] at H; replace H := Option.bind_eq_some_iff.mp H; obtain ⟨⟨t650, t651⟩, A1040, H⟩ := H; (try dsimp only at H); have A104 := Aside0.mk A1040; clear A1040; replace H := Option.bind_eq_some_iff.mp H; obtain ⟨⟨t654, t655⟩, A1050, H⟩ := H; (try dsimp only at H); have A105 := Aside0.mk A1050; clear A1050; have HC106 := Aside0.mk H; clear H; have hnb107 := NB601_602.out; have hnc107 := NB602_601.out; have hcz108_0 : wc.cell? ⟨gb601, 0, none⟩ = some (.int .i64 a1_0) := (blk_cell BK601.out 0).trans rfl; have hcz108_1 : wc.cell? ⟨gb601, 1, none⟩ = some (.int .i64 a1_1) := (blk_cell BK601.out 1).trans rfl; have hfz108_0 := blk_frozen BK601.out 0; have hfz108_1 := blk_frozen BK601.out 1
                              go_upto_region 34 with (first | ((with_reducible refine gate_callee (f := 26) rfl ?_); refine goesL_ (some 277) rfl rfl Try.func26 (by kernel_rfl) rfl #[.slice A0 l0.length c0, .int .i64 a1_0, .int .i64 a1_1, .int .i64 t648] rfl (by (try simp only [List.map_toArray, List.map_cons, List.map_nil]); first | done | rfl | (simp only [List.length_drop, List.length_take]; rfl)) ?_; (with_reducible refine (pull_Plan.calls kj91 _ _ l0 a1_0 a1_1 t648 t650 t651 _ ?side1 ?side2 A104.out).mono ?_); (case side1 => repeat (first | exact (Kd.C_below HR0.out HB.out) | (with_reducible refine Kd.C_alloc ?_ _) | (with_reducible refine Kd.C_drewN ?_ _) | (with_reducible refine Kd.C_drew ?_))); (case side2 => exact HC0.out); rintro e w109 ⟨v652, rfl, ho0, hb⟩; refine ⟨_, rfl, ?_⟩; have n0_ := Aside0.mk (Kd.V_elder' (by (with_reducible repeat (first | apply Kd.V_alloc | apply Kd.V_drewN | apply Kd.V_drew)); exact HO_9.out) (Kd.R_base ho0) hb); have n1_ := Aside0.mk (Kd.V_elder' (by (with_reducible repeat (first | apply Kd.V_alloc | apply Kd.V_drewN | apply Kd.V_drew)); exact HO_11.out) (Kd.R_base ho0) hb); have n2_ := Aside0.mk (Kd.R_elder' (by (with_reducible repeat (first | apply Kd.R_alloc | apply Kd.R_drewN | apply Kd.R_drew)); exact HO_15.out) (Kd.R_base ho0) hb); have n3_ := Aside0.mk (Kd.R_elder' (by (with_reducible repeat (first | apply Kd.R_alloc | apply Kd.R_drewN | apply Kd.R_drew)); exact HO_17.out) (Kd.R_base ho0) hb); have n4_ := Aside0.mk (Kd.N_elder' (by (with_reducible repeat (first | apply Kd.N_alloc | apply Kd.N_drewN | apply Kd.N_drew)); exact HO_23.out) (Kd.R_base ho0) hb); have n5_ := Aside0.mk (Kd.V_elder' (by (with_reducible repeat (first | apply Kd.V_alloc | apply Kd.V_drewN | apply Kd.V_drew)); exact HO_603000.out) (Kd.R_base ho0) hb); have n6_ := Aside0.mk (Kd.R_lower (Kd.R_new' (Kd.R_new' (Kd.R_newM (M := fun k_ => (w.heap.size ≤ k_)) ho0 (below_size (by repeat (first | (with_reducible first | exact HB.out | apply below_alloc | apply pw_below_drewN | apply below_drew1 | refine below_set ?_ GE601.out | refine below_set ?_ GE602.out) | exact HB.out))) (fun k_ h_ => h_)) (Kd.R_lt (by (with_reducible repeat (first | apply Kd.R_alloc | apply Kd.R_drewN | apply Kd.R_drew)); exact HO_15.out))) (Kd.R_lt (by (with_reducible repeat (first | apply Kd.R_alloc | apply Kd.R_drewN | apply Kd.R_drew)); exact HO_17.out))) (below_size (by repeat (first | (with_reducible first | exact HB.out | apply below_alloc | apply pw_below_drewN | apply below_drew1 | refine below_set ?_ GE601.out | refine below_set ?_ GE602.out) | exact HB.out)))); have n7_ := Aside0.mk (bkB BK601 hb); have n8_ := Aside0.mk (bkB BK602 hb); have n9_ := Aside0.mk (Kd.C_below (by repeat (first | (with_reducible exact HR645_0.out) | (with_reducible refine Kd.C_alloc ?_ _) | (with_reducible refine Kd.C_drewN ?_ _) | (with_reducible refine Kd.C_drew ?_) | exact HR645_0.out)) hb); have n10_ := Aside0.mk (below_step (by repeat (first | (with_reducible first | exact HB.out | apply below_alloc | apply pw_below_drewN | apply below_drew1 | refine below_set ?_ GE601.out | refine below_set ?_ GE602.out) | exact HB.out)) hb); clear HO_9; clear HO_11; clear HO_15; clear HO_17; clear HO_23; clear HO_603000; clear BK601; clear BK602; clear HR645_0; clear HB; have HO_9 := n0_; have HO_11 := n1_; have HO_15 := n2_; have HO_17 := n3_; have HO_23 := n4_; have HO_603000 := n5_; have HO653 := n6_; have BK601 := n7_; have BK602 := n8_; have HR645_0 := n9_; have HB := n10_; clear n0_ n1_ n2_ n3_ n4_ n5_ n6_ n7_ n8_ n9_ n10_; (try clear hb); (try clear hb2); (try clear hk); (try clear hi); (try clear ho0)) | ((with_reducible refine gate_callee (f := 38) rfl ?_); refine goesL_ (some 283) rfl rfl Try.func38 (by kernel_rfl) rfl #[.slice A0 l0.length c0, .slice A645_0 (rd_L1 x23_74 x25_6).length c645_0] rfl (by (try simp only [List.map_toArray, List.map_cons, List.map_nil]); first | done | rfl | (simp only [List.length_drop, List.length_take]; rfl)) ?_; (with_reducible refine (pull_Lengths.calls kj91 _ _ l0 _ _ (rd_L1 x23_74 x25_6) t654 t655 _ ?side1 ?side2 ?side3 ?side4 A105.out).mono ?_); (case side1 => repeat (first | exact (Kd.C_below HR0.out HB.out) | (with_reducible refine Kd.C_alloc ?_ _) | (with_reducible refine Kd.C_drewN ?_ _) | (with_reducible refine Kd.C_drew ?_))); (case side2 => exact HC0.out); (case side3 => repeat (first | exact (by repeat (first | (with_reducible exact HR645_0.out) | (with_reducible refine Kd.C_alloc ?_ _) | (with_reducible refine Kd.C_drewN ?_ _) | (with_reducible refine Kd.C_drew ?_) | exact HR645_0.out)) | (with_reducible refine Kd.C_alloc ?_ _) | (with_reducible refine Kd.C_drewN ?_ _) | (with_reducible refine Kd.C_drew ?_))); (case side4 => exact HC645_0.out); rintro e w110 ⟨v656, rfl, ho0, hb⟩; refine ⟨_, rfl, ?_⟩; have n0_ := Aside0.mk (Kd.V_elder' (by (with_reducible repeat (first | apply Kd.V_alloc | apply Kd.V_drewN | apply Kd.V_drew)); exact HO_9.out) (Kd.R_base ho0) hb); have n1_ := Aside0.mk (Kd.V_elder' (by (with_reducible repeat (first | apply Kd.V_alloc | apply Kd.V_drewN | apply Kd.V_drew)); exact HO_11.out) (Kd.R_base ho0) hb); have n2_ := Aside0.mk (Kd.R_elder' (by (with_reducible repeat (first | apply Kd.R_alloc | apply Kd.R_drewN | apply Kd.R_drew)); exact HO_15.out) (Kd.R_base ho0) hb); have n3_ := Aside0.mk (Kd.R_elder' (by (with_reducible repeat (first | apply Kd.R_alloc | apply Kd.R_drewN | apply Kd.R_drew)); exact HO_17.out) (Kd.R_base ho0) hb); have n4_ := Aside0.mk (Kd.N_elder' (by (with_reducible repeat (first | apply Kd.N_alloc | apply Kd.N_drewN | apply Kd.N_drew)); exact HO_23.out) (Kd.R_base ho0) hb); have n5_ := Aside0.mk (Kd.V_elder' (by (with_reducible repeat (first | apply Kd.V_alloc | apply Kd.V_drewN | apply Kd.V_drew)); exact HO_603000.out) (Kd.R_base ho0) hb); have n6_ := Aside0.mk (Kd.R_elder' (by (with_reducible repeat (first | apply Kd.R_alloc | apply Kd.R_drewN | apply Kd.R_drew)); exact HO653.out) (Kd.R_base ho0) hb); have n7_ := Aside0.mk (Kd.R_lower (Kd.R_new' (Kd.R_new' (Kd.R_new' (Kd.R_newM (M := fun k_ => (w.heap.size ≤ k_)) ho0 (below_size (by repeat (first | (with_reducible first | exact HB.out | apply below_alloc | apply pw_below_drewN | apply below_drew1 | refine below_set ?_ GE601.out | refine below_set ?_ GE602.out) | exact HB.out))) (fun k_ h_ => h_)) (Kd.R_lt (by (with_reducible repeat (first | apply Kd.R_alloc | apply Kd.R_drewN | apply Kd.R_drew)); exact HO_15.out))) (Kd.R_lt (by (with_reducible repeat (first | apply Kd.R_alloc | apply Kd.R_drewN | apply Kd.R_drew)); exact HO_17.out))) (Kd.R_lt (by (with_reducible repeat (first | apply Kd.R_alloc | apply Kd.R_drewN | apply Kd.R_drew)); exact HO653.out))) (below_size (by repeat (first | (with_reducible first | exact HB.out | apply below_alloc | apply pw_below_drewN | apply below_drew1 | refine below_set ?_ GE601.out | refine below_set ?_ GE602.out) | exact HB.out)))); have n8_ := Aside0.mk (bkB BK601 hb); have n9_ := Aside0.mk (bkB BK602 hb); have n10_ := Aside0.mk (Kd.C_below (by repeat (first | (with_reducible exact HR645_0.out) | (with_reducible refine Kd.C_alloc ?_ _) | (with_reducible refine Kd.C_drewN ?_ _) | (with_reducible refine Kd.C_drew ?_) | exact HR645_0.out)) hb); have n11_ := Aside0.mk (below_step (by repeat (first | (with_reducible first | exact HB.out | apply below_alloc | apply pw_below_drewN | apply below_drew1 | refine below_set ?_ GE601.out | refine below_set ?_ GE602.out) | exact HB.out)) hb); clear HO_9; clear HO_11; clear HO_15; clear HO_17; clear HO_23; clear HO_603000; clear HO653; clear BK601; clear BK602; clear HR645_0; clear HB; have HO_9 := n0_; have HO_11 := n1_; have HO_15 := n2_; have HO_17 := n3_; have HO_23 := n4_; have HO_603000 := n5_; have HO653 := n6_; have HO657 := n7_; have BK601 := n8_; have BK602 := n9_; have HR645_0 := n10_; have HB := n11_; clear n0_ n1_ n2_ n3_ n4_ n5_ n6_ n7_ n8_ n9_ n10_ n11_; (try clear hb); (try clear hb2); (try clear hk); (try clear hi); (try clear ho0)))
                              (try simp only [Act.put, List.setIfInBounds_toArray, List.set_cons_zero, List.set_cons_succ])
                              go_cut [320] (fun v320 wc => ∃ (kq : Nat) (x320_105 : Bool), v320 = .bool x320_105 ∧ Aside0 (droppertop_TopPull.j7 kq l0 t605 t607 t611 t619 t623 x23_74 t642 x25_6 (rd_L1 x23_74 x25_6) x320_105 a1_0 a1_1 = some r) ∧ Aside0 (kq ≤ kj91) ∧ Aside0 (Kd.V (Kd.int .i64) 3 wc w.heap.size (fun k_ => (P2_0_ k_ ∨ w.heap.size ≤ k_) ∧ some k_ ≠ (v621 : Value).ownBlock ∧ some k_ ≠ (v625 : Value).ownBlock ∧ some k_ ≠ ((.slice (some ad645) x23_74.length co93) : Value).ownBlock ∧ k_ ≠ gb601 ∧ k_ ≠ gb602) (.slice Ao76 t607.length co76) t607) ∧ Aside0 (Kd.V (Kd.int .i64) 3 wc w.heap.size (fun k_ => (P2_0_ k_ ∨ w.heap.size ≤ k_) ∧ some k_ ≠ (v621 : Value).ownBlock ∧ some k_ ≠ (v625 : Value).ownBlock ∧ some k_ ≠ ((.slice (some ad645) x23_74.length co93) : Value).ownBlock ∧ k_ ≠ gb601 ∧ k_ ≠ gb602) (.slice Ao77 t611.length co77) t611) ∧ Aside0 (Kd.R (Kd.int .i64) 3 wc w.heap.size (fun k_ => (w.heap.size ≤ k_) ∧ some k_ ≠ (v625 : Value).ownBlock) v621 t619) ∧ Aside0 (Kd.R (Kd.int .i64) 3 wc w.heap.size (fun k_ => (w.heap.size ≤ k_) ∧ some k_ ≠ (v621 : Value).ownBlock) v625 t623) ∧ Aside0 (Kd.N (Kd.slice 3 (Kd.int .i64)) 37 wc w.heap.size (fun k_ => (P2_0_ k_ ∨ w.heap.size ≤ k_) ∧ some k_ ≠ (v621 : Value).ownBlock ∧ some k_ ≠ (v625 : Value).ownBlock ∧ k_ ≠ gb601 ∧ k_ ≠ gb602) (.slice (some ad645) x23_74.length co93) x23_74) ∧ Aside0 (Kd.V (Kd.int .i64) 3 wc w.heap.size (fun k_ => (P2_0_ k_ ∨ w.heap.size ≤ k_) ∧ some k_ ≠ (v621 : Value).ownBlock ∧ some k_ ≠ (v625 : Value).ownBlock ∧ some k_ ≠ ((.slice (some ad645) x23_74.length co93) : Value).ownBlock ∧ k_ ≠ gb601 ∧ k_ ≠ gb602) (.slice A2_0 l2_0.length c2_0) l2_0) ∧ Aside0 (wc.heap[gb601]? = some (.cells #[.int .i64 a1_0, .int .i64 a1_1] 39 (0, 0))) ∧ Aside0 (wc.heap[gb602]? = some (.cells #[(.slice A2_0 l2_0.length c2_0), .int .u32 a2_1] 52 (0, 0))) ∧ Aside0 (Kd.C (Kd.int .i64) wc A645_0 (rd_L1 x23_74 x25_6).length (rd_L1 x23_74 x25_6)) ∧ Aside0 (Below w.heap.size w wc))
                              case first => as_aux_lemma =>
                                have H := HC106.out; clear HC106; by_cases c111 : t651 = 0; rotate_left
                                · rw [if_neg c111] at H; have c111b0 : (t651 == 0) = false := beq_eq_false_iff_ne.mpr c111; have c111b1 : (t651 != 0) = true := bne_iff_ne.mpr c111
                                  (first | rw [c111b0] | (simp only [i64_w, i32_w]; rw [c111b0]) | skip)
                                  exact absurd (H.trans (congrArg some hT)) (droppertop_TopPull.j7_no _ _ _ _ _ _ _ _ _ _ _ _ _)
                                rw [if_pos c111] at H; have c111b0 : (t651 == 0) = true := beq_iff_eq.mpr c111; have c111b1 : (t651 != 0) = false := bne_eq_false_iff_eq.mpr c111; clear c111
                                (first | rw [c111b0] | (simp only [i64_w, i32_w]; rw [c111b0]) | skip)
                                by_cases c112 : t655 = 0; rotate_left
                                · rw [if_neg c112] at H; have c112b0 : (t655 == 0) = false := beq_eq_false_iff_ne.mpr c112; have c112b1 : (t655 != 0) = true := bne_iff_ne.mpr c112; exact absurd (H.trans (congrArg some hT)) (droppertop_TopPull.j7_no _ _ _ _ _ _ _ _ _ _ _ _ _)
                                rw [if_pos c112] at H; have c112b0 : (t655 == 0) = true := beq_iff_eq.mpr c112; have c112b1 : (t655 != 0) = false := bne_eq_false_iff_eq.mpr c112; clear c112; replace H := Option.bind_eq_some_iff.mp H; obtain ⟨t658, A1130, H⟩ := H; (try dsimp only at H); have A113 := Aside0.mk A1130; clear A1130; by_cases c114 : t658 = true; rotate_left
                                · replace c114 := Bool.eq_false_iff.mpr c114; subst c114; rw [if_neg (show ¬ (false = true) by decide)] at H; exact absurd (H.trans (congrArg some hT)) (droppertop_TopPull.j7_no _ _ _ _ _ _ _ _ _ _ _ _ _)
                                subst c114; rw [if_pos rfl] at H; replace H := Option.bind_eq_some_iff.mp H; obtain ⟨t659, A1150, H⟩ := H; (try dsimp only at H); have A115 := Aside0.mk A1150; clear A1150; obtain ⟨ji116, hji116⟩ : ∃ j_ : Int, (wrap64 ((l0.length : Int) - 1)) = j_ := ⟨_, rfl⟩
                                replace H : (if 0 ≤ (ji116) then (if (ji116) < (l0.length : Int) then (if 0 < (l0.length : Int) then (if t659 = (wrap64 ((rd l0 (ji116)) - (rd l0 0))) then (droppertop_TopPull.j7 kj91 l0 t605 t607 t611 t619 t623 x23_74 t642 x25_6 (rd_L1 x23_74 x25_6) ((t654.length : Int) != (wrap64 (((rd_L1 x23_74 x25_6).length : Int) - 1))) a1_0 a1_1) else (droppertop_TopPull.j7 kj91 l0 t605 t607 t611 t619 t623 x23_74 t642 x25_6 (rd_L1 x23_74 x25_6) true a1_0 a1_1)) else (none)) else (none)) else (none)) = some r := by first | (rw [hji116] at H; exact H) | (simp only [hji116] at H ⊢; exact H)
                                (try rw [hji116] at A113)
                                (try rw [hji116] at A115)
                                have hji116w : (IntKind.i64.wrap ((l0.length : Int) - 1)) = ji116 := (i64_w _).trans hji116; by_cases c117 : 0 ≤ (ji116); rotate_left
                                · rw [if_neg c117] at H
                                  exact absurd H (by simp)
                                rw [if_pos c117] at H; have c117b0 : decide (0 ≤ (ji116)) = true := decide_eq_true c117; clear c117; by_cases c118 : (ji116) < (l0.length : Int); rotate_left
                                · rw [if_neg c118] at H
                                  exact absurd H (by simp)
                                rw [if_pos c118] at H; have c118b0 : decide ((ji116) < (l0.length : Int)) = true := decide_eq_true c118; clear c118; by_cases c119 : 0 < (l0.length : Int); rotate_left
                                · rw [if_neg c119] at H
                                  exact absurd H (by simp)
                                rw [if_pos c119] at H; have c119b0 : decide (0 < (l0.length : Int)) = true := decide_eq_true c119
                                have c119b1 : decide (0 < l0.length) = true := decide_eq_true (by omega)
                                clear c119; by_cases c120 : t659 = (wrap64 ((rd l0 (ji116)) - (rd l0 0))); rotate_left
                                · rw [if_neg c120] at H; have c120b0 : (t659 == (wrap64 ((rd l0 (ji116)) - (rd l0 0)))) = false := beq_eq_false_iff_ne.mpr c120; have c120b1 : (t659 != (wrap64 ((rd l0 (ji116)) - (rd l0 0)))) = true := bne_iff_ne.mpr c120; exact absurd (H.trans (congrArg some hT)) (droppertop_TopPull.j7_no _ _ _ _ _ _ _ _ _ _ _ _ _)
                                rw [if_pos c120] at H; have c120b0 : (t659 == (wrap64 ((rd l0 (ji116)) - (rd l0 0)))) = true := beq_iff_eq.mpr c120; have c120b1 : (t659 != (wrap64 ((rd l0 (ji116)) - (rd l0 0)))) = false := bne_eq_false_iff_eq.mpr c120; clear c120; have H' := Aside0.mk H; clear H
                                try go_wp2
                                have n0_ := Aside0.mk (Kd.V_drew HO_9.out); have n1_ := Aside0.mk (Kd.V_drew HO_11.out); have n2_ := Aside0.mk (Kd.R_drew HO_15.out); have n3_ := Aside0.mk (Kd.R_drew HO_17.out); have n4_ := Aside0.mk (Kd.N_drew HO_23.out); have n5_ := Aside0.mk (Kd.V_drew HO_603000.out); have n6_ := Aside0.mk (Kd.R_drew HO653.out); have n7_ := Aside0.mk (Kd.R_drew HO657.out); have n8_ := Aside0.mk (blk_drew BK601.out); have n9_ := Aside0.mk (blk_drew BK602.out); have n10_ := Aside0.mk (Kd.C_drew HR645_0.out); have n11_ := Aside0.mk (below_drew1 HB.out); clear HO_9 HO_11 HO_15 HO_17 HO_23 HO_603000 HO653 HO657 BK601 BK602 HR645_0 HB; have HO_9 := n0_; have HO_11 := n1_; have HO_15 := n2_; have HO_17 := n3_; have HO_23 := n4_; have HO_603000 := n5_; have HO653 := n6_; have HO657 := n7_; have BK601 := n8_; have BK602 := n9_; have HR645_0 := n10_; have HB := n11_; clear n0_ n1_ n2_ n3_ n4_ n5_ n6_ n7_ n8_ n9_ n10_ n11_; obtain ⟨Ao122, co122, eo122⟩ := Kd.R_slice HO653.out
                                (first | subst eo122 | (injection eo122 with f1_ f2_ f3_; have f4_ := f1_.symm; have f5_ := f3_.symm; clear f1_ f2_ f3_; subst f4_; subst f5_))
                                have p660 : 0 ≤ ((ji116) : Int) := of_decide_eq_true (by first | (with_reducible assumption) | assumption)
                                have q660 : (ji116) < (l0.length : Int) := of_decide_eq_true (by first | (with_reducible assumption) | assumption)
                                obtain ⟨ad660, e660, hx660_0⟩ := Kd.at_int HR0.out (ji116) p660 q660; have hw660_0 := hx660_0
                                cases e660
                                replace hx660_0 := (HB.out.cell (World.block_lt_of_cell? w _ hx660_0)).trans hx660_0; replace p660 := eq_true p660; replace q660 := eq_true q660
                                have p661 : 0 ≤ (0 : Int) := (by omega)
                                have q661 : 0 < (l0.length : Int) := of_decide_eq_true (by first | (with_reducible assumption) | assumption)
                                obtain ⟨ad661, e661, hx661_0⟩ := Kd.at_int HR0.out 0 p661 q661; have hw661_0 := hx661_0
                                (try rw [show ((0 : Int)).toNat = 0 from rfl] at hw661_0)
                                (try rw [show 0 * 1 = 0 from rfl] at hw661_0)
                                (try rw [Addr.add_zero'] at hw661_0)
                                obtain rfl : ad660 = ad661 := (by injection e661)
                                have qi661 : (0 < l0.length) = True := eq_true (by omega)
                                (try rw [show ((0 : Int)).toNat = 0 from rfl] at hx661_0)
                                (try rw [Addr.add_zero'] at hx661_0)
                                replace hx661_0 := (HB.out.cell (World.block_lt_of_cell? w _ hx661_0)).trans hx661_0; replace p661 := eq_true p661; replace q661 := eq_true q661
                                refine start_ (n := 35) (S := fun w' => w'.cell? (ad660.add ((ji116)).toNat) = some (.int .i64 (rd l0 (ji116))) ∧ w'.cell? ad660 = some (.int .i64 (rd l0 0))) (ds := []) (mkB 35 0) (by kernel_rfl) rfl rfl ⟨(pw_cell_below HB.out hw660_0), (pw_cell_below HB.out hw661_0)⟩ (fun hHeld => ?_); refine with_tabW droppertop_TopPull.tab34 droppertop_TopPull.bits34 (fun HT_ HW_ => ?_)
                                generalize w110.drew = w121 at HO_9 HO_11 HO_15 HO_17 HO_23 HO_603000 HO653 HO657 BK601 BK602 HR645_0 HB hx660_0 hx661_0 hHeld ⊢; refine pr_ 0 (some 286) (mkB 35 1) HT_ ?_; refine pr_ 1 (some 287) (mkB 35 3) HT_ ?_; refine pr_ 2 (some 288) (mkB 35 7) HT_ ?_; refine pr_ 3 (some 289) (mkB 35 15) HT_ ?_; refine pr_ 4 (some 290) (mkB 35 31) HT_ ?_; refine pr_ 5 (some 291) (mkB 35 63) HT_ ?_; refine pr_ 6 (some 292) (mkB 35 127) HT_ ?_; refine pr_ 7 (some 293) (mkB 35 255) HT_ ?_; refine pr_ 8 (some 294) (mkB 35 511) HT_ ?_
                                refine one_ (i := 9) (N := some 295) (mkB 35 1023) rfl rfl (one_of HT_.out (by kernel_rfl)) (by decide) (fun K hK => ?_)
                                refine goes_ Try.func28 (by kernel_rfl) rfl #[.slice Ao122 t650.length co122, .slice A645_0 (rd_L1 x23_74 x25_6).length c645_0] (by rfl) rfl rfl (by (try simp only [List.map_toArray, List.map_cons, List.map_nil]); first | done | rfl | (simp only [List.length_drop, List.length_take]; rfl)) ?_
                                with_reducible refine (dropperlaw04_SameInts.calls kj91 _ _ t650 _ _ (rd_L1 x23_74 x25_6) true _ ?side1 ?side2 ?side3 ?side4 A113.out).mono ?_
                                (case side1 => repeat (first | exact (Kd.R_reads' HO653.out).2.2 | (with_reducible refine Kd.C_alloc ?_ _) | (with_reducible refine Kd.C_drewN ?_ _) | (with_reducible refine Kd.C_drew ?_)))
                                (case side2 => exact (Kd.R_reads' HO653.out).2.1)
                                (case side3 => repeat (first | exact (by repeat (first | (with_reducible exact HR645_0.out) | (with_reducible refine Kd.C_alloc ?_ _) | (with_reducible refine Kd.C_drewN ?_ _) | (with_reducible refine Kd.C_drew ?_) | exact HR645_0.out)) | (with_reducible refine Kd.C_alloc ?_ _) | (with_reducible refine Kd.C_drewN ?_ _) | (with_reducible refine Kd.C_drew ?_)))
                                (case side4 => exact HC645_0.out)
                                rintro e w' ⟨rfl, ⟨nd, rfl⟩⟩
                                refine ⟨_, rfl, ?_⟩
                                obtain ⟨Ao123, co123, eo123⟩ := Kd.R_slice HO657.out
                                (first | subst eo123 | (injection eo123 with f1_ f2_ f3_; have f4_ := f1_.symm; have f5_ := f3_.symm; clear f1_ f2_ f3_; subst f4_; subst f5_))
                                refine hK.out _ _ ⟨(pw_cell_below HB.out hw660_0), (pw_cell_below HB.out hw661_0)⟩ (fun hHeld => ?_)
                                clear hK K
                                refine norm_ (a' := ?_) ?_ ?_
                                rotate_left
                                · show Act.put _ (some 295) _ = _
                                  simp only [Act.put, List.setIfInBounds_toArray, List.set_cons_zero, List.set_cons_succ, i64_w, i32_w]
                                  rfl
                                refine pr_ 10 (some 296) (mkB 35 2047) HT_ ?_; refine pr_ 11 (some 297) (mkB 35 4095) HT_ ?_; refine pr_ 12 (some 298) (mkB 35 8191) HT_ ?_; refine pr_ 13 (some 299) (mkB 35 16383) HT_ ?_; refine pr_ 15 (some 301) (mkB 35 49151) HT_ ?_; refine pr_ 16 (some 302) (mkB 35 114687) HT_ ?_; refine pr_ 17 (some 303) (mkB 35 245759) HT_ ?_; refine pr_ 18 (some 304) (mkB 35 507903) HT_ ?_; refine pr_ 19 (some 305) (mkB 35 1032191) HT_ ?_; refine pr_ 21 (some 307) (mkB 35 3129343) HT_ ?_; refine pr_ 22 (some 308) (mkB 35 7323647) HT_ ?_
                                refine take_ (i := 20) (N := some 306) (v := ?_) (a' := ?_) (mkB 35 8372223) rfl rfl (take_ofW HT_.out HW_.out (by kernel_rfl)) (fun _ _ _ h => h) (Or.inl ⟨by rfl, ?_⟩) hHeld ?_ ?_
                                rotate_left
                                · rintro w' ⟨s0, s1⟩
                                  go_simp
                                  with_reducible rfl
                                rotate_left
                                · simp only [Act.put, List.setIfInBounds_toArray, List.set_cons_zero, List.set_cons_succ, i64_w, i32_w]
                                  rfl
                                refine take_ (i := 23) (N := some 309) (v := ?_) (a' := ?_) (mkB 35 16760831) rfl rfl (take_ofW HT_.out HW_.out (by kernel_rfl)) (fun _ _ _ h => h) (Or.inl ⟨by rfl, ?_⟩) hHeld ?_ ?_
                                rotate_left
                                · rintro w' ⟨s0, s1⟩
                                  go_simp
                                  with_reducible rfl
                                rotate_left
                                · simp only [Act.put, List.setIfInBounds_toArray, List.set_cons_zero, List.set_cons_succ, i64_w, i32_w]
                                  rfl
                                refine pr_ 24 (some 310) (mkB 35 33538047) HT_ ?_
                                refine one_ (i := 14) (N := some 300) (mkB 35 33554431) rfl rfl (one_of HT_.out (by kernel_rfl)) (by decide) (fun K hK => ?_)
                                refine goes_ Try.func39 (by kernel_rfl) rfl #[.slice Ao123 t654.length co123] (by rfl) rfl rfl (by (try simp only [List.map_toArray, List.map_cons, List.map_nil]); first | done | rfl | (simp only [List.length_drop, List.length_take]; rfl)) ?_
                                with_reducible refine (droppertop_sum.calls kj91 _ _ t654 t659 _ ?side1 ?side2 A115.out).mono ?_
                                (case side1 => repeat (first | exact (Kd.R_reads' HO657.out).2.2 | (with_reducible refine Kd.C_alloc ?_ _) | (with_reducible refine Kd.C_drewN ?_ _) | (with_reducible refine Kd.C_drew ?_)))
                                (case side2 => exact (Kd.R_reads' HO657.out).2.1)
                                rintro e w' ⟨rfl, ⟨nd, rfl⟩⟩
                                refine ⟨_, rfl, ?_⟩
                                refine hK.out _ _ ⟨(pw_cell_below HB.out hw660_0), (pw_cell_below HB.out hw661_0)⟩ (fun hHeld => ?_)
                                clear hK K
                                refine norm_ (a' := ?_) ?_ ?_
                                rotate_left
                                · show Act.put _ (some 300) _ = _
                                  simp only [Act.put, List.setIfInBounds_toArray, List.set_cons_zero, List.set_cons_succ, i64_w, i32_w]
                                  rfl
                                refine pr_ 25 (some 311) (mkB 35 67108863) HT_ ?_; refine pr_ 26 (some 312) (mkB 35 134217727) HT_ ?_; refine pr_ 27 (some 313) (mkB 35 268435455) HT_ ?_; refine pr_ 28 (some 314) (mkB 35 536870911) HT_ ?_; refine pr_ 29 (some 315) (mkB 35 1073741823) HT_ ?_; refine pr_ 30 (some 316) (mkB 35 2147483647) HT_ ?_; refine pr_ 31 (some 317) (mkB 35 4294967295) HT_ ?_; refine pr_ 32 (some 318) (mkB 35 8589934591) HT_ ?_; refine pr_ 33 (some 319) (mkB 35 17179869183) HT_ ?_; refine pr_ 34 (some 320) (mkB 35 34359738367) HT_ ?_
                                refine done_ (done_of HT_.out (by kernel_rfl)) ?_
                                try go_wp2
                                go_meet
                                case rel => exact ⟨_, (((t654.length : Int) != (wrap64 (((rd_L1 x23_74 x25_6).length : Int) - 1)))), (by first | rfl | (simp; done) | (simp [*]; done)), H', ⟨by have := HJ3.out; have := HJ23.out; have := HJ54.out; have := HJ62.out; have := HJ74.out; have := HK6.out; have := HJ91.out; first | omega | exact Nat.le_refl _⟩, ⟨by (with_reducible repeat (first | apply Kd.V_alloc | apply Kd.V_drewN | apply Kd.V_drew)); exact Kd.V_mono HO_9.out (fun _ hk => ⟨hk.1.1.1, ⟨hk.1.1.2.1, ⟨hk.1.1.2.2.1, ⟨hk.1.1.2.2.2.1, ⟨hk.1.1.2.2.2.2.1, hk.1.1.2.2.2.2.2⟩⟩⟩⟩⟩)⟩, ⟨by (with_reducible repeat (first | apply Kd.V_alloc | apply Kd.V_drewN | apply Kd.V_drew)); exact Kd.V_mono HO_11.out (fun _ hk => ⟨hk.1.1.1, ⟨hk.1.1.2.1, ⟨hk.1.1.2.2.1, ⟨hk.1.1.2.2.2.1, ⟨hk.1.1.2.2.2.2.1, hk.1.1.2.2.2.2.2⟩⟩⟩⟩⟩)⟩, ⟨by (with_reducible repeat (first | apply Kd.R_alloc | apply Kd.R_drewN | apply Kd.R_drew)); exact Kd.R_mono HO_15.out (fun _ hk => ⟨hk.1.1.1, hk.1.1.2⟩)⟩, ⟨by (with_reducible repeat (first | apply Kd.R_alloc | apply Kd.R_drewN | apply Kd.R_drew)); exact Kd.R_mono HO_17.out (fun _ hk => ⟨hk.1.1.1, hk.1.1.2⟩)⟩, ⟨by (with_reducible repeat (first | apply Kd.N_alloc | apply Kd.N_drewN | apply Kd.N_drew)); exact Kd.N_mono HO_23.out (fun _ hk => ⟨hk.1.1.1, ⟨hk.1.1.2.1, ⟨hk.1.1.2.2.1, ⟨hk.1.1.2.2.2.1, hk.1.1.2.2.2.2⟩⟩⟩⟩)⟩, ⟨by (with_reducible repeat (first | apply Kd.V_alloc | apply Kd.V_drewN | apply Kd.V_drew)); exact Kd.V_mono HO_603000.out (fun _ hk => ⟨hk.1.1.1, ⟨hk.1.1.2.1, ⟨hk.1.1.2.2.1, ⟨hk.1.1.2.2.2.1, ⟨hk.1.1.2.2.2.2.1, hk.1.1.2.2.2.2.2⟩⟩⟩⟩⟩)⟩, ⟨bkU BK601⟩, ⟨bkU BK602⟩, ⟨by repeat (first | (with_reducible exact HR645_0.out) | (with_reducible refine Kd.C_alloc ?_ _) | (with_reducible refine Kd.C_drewN ?_ _) | (with_reducible refine Kd.C_drew ?_) | exact HR645_0.out)⟩, ⟨by repeat (first | (with_reducible first | exact HB.out | apply below_alloc | apply pw_below_drewN | apply below_drew1 | refine below_set ?_ GE601.out | refine below_set ?_ GE602.out) | exact HB.out)⟩⟩
                              case rest => as_aux_lemma =>
                                clear HC106
                                try clear c1
                                try clear c2
                                try clear p2
                                try clear c3
                                try clear c5
                                try clear c6
                                try clear p6
                                try clear q6
                                try clear hx6
                                try clear qi6
                                try clear c7
                                try clear c8
                                try clear c9
                                try clear c10
                                try clear c11
                                try clear c12
                                try clear c26
                                try clear c28
                                try clear c38
                                try clear c39
                                try clear c56
                                try clear c56b0
                                try clear c56b1
                                try clear c57
                                try clear c57b0
                                try clear c57b1
                                try clear c58
                                try clear c58b0
                                try clear c58b1
                                try clear c59
                                try clear c60
                                try clear c60b0
                                try clear c60b1
                                try clear c64
                                try clear p64
                                try clear q64
                                try clear hx64
                                try clear c66
                                try clear p66
                                try clear q66
                                try clear hx66
                                try clear qi66
                                try clear c70
                                try clear c70b0
                                try clear c70b1
                                try clear c71
                                try clear c71b0
                                try clear c71b1
                                try clear c72
                                try clear c74
                                try clear c81
                                try clear c82
                                try clear c83
                                try clear c88
                                try clear c88b0
                                try clear c89
                                try clear c89b0
                                try clear c94
                                try clear c99
                                try clear c99b0
                                try clear c99b1
                                try clear c100
                                try clear c100b0
                                try clear c100b1
                                try clear c101
                                try clear c102
                                try clear c102b0
                                try clear c103
                                try clear c107
                                try clear c111
                                try clear c111b0
                                try clear c111b1
                                try clear c112
                                try clear c112b0
                                try clear c112b1
                                try clear c114
                                try clear c117
                                try clear c117b0
                                try clear c118
                                try clear c118b0
                                try clear c119
                                try clear c119b0
                                try clear c119b1
                                try clear c120
                                try clear c120b0
                                try clear c120b1
                                try clear hcz108_0
                                try clear hcz108_1
                                try clear hcz10_0
                                try clear hcz10_1
                                try clear hcz11_0
                                try clear hcz11_1
                                try clear hcz13_0
                                try clear hcz13_1
                                try clear hcz26_0
                                try clear hcz26_1
                                try clear hcz28_0
                                try clear hcz28_1
                                try clear hcz30_0
                                try clear hcz30_1
                                try clear hcz32_0
                                try clear hcz32_1
                                try clear hcz34_0
                                try clear hcz34_1
                                try clear hcz36_0
                                try clear hcz36_1
                                try clear hcz38_0
                                try clear hcz38_1
                                try clear hcz39_0
                                try clear hcz39_1
                                try clear hcz67_0
                                try clear hcz67_1
                                try clear hcz73_0
                                try clear hcz73_1
                                try clear hcz84_0
                                try clear hcz84_1
                                try clear hcz95_0
                                try clear hcz95_1
                                try clear hcz97_0
                                try clear hcz97_1
                                try clear hfz108_0
                                try clear hfz108_1
                                try clear hfz10_0
                                try clear hfz10_1
                                try clear hfz11_0
                                try clear hfz11_1
                                try clear hfz13_0
                                try clear hfz13_1
                                try clear hfz26_0
                                try clear hfz26_1
                                try clear hfz28_0
                                try clear hfz28_1
                                try clear hfz30_0
                                try clear hfz30_1
                                try clear hfz32_0
                                try clear hfz32_1
                                try clear hfz34_0
                                try clear hfz34_1
                                try clear hfz36_0
                                try clear hfz36_1
                                try clear hfz38_0
                                try clear hfz38_1
                                try clear hfz39_0
                                try clear hfz39_1
                                try clear hfz67_0
                                try clear hfz67_1
                                try clear hfz73_0
                                try clear hfz73_1
                                try clear hfz84_0
                                try clear hfz84_1
                                try clear hfz95_0
                                try clear hfz95_1
                                try clear hfz97_0
                                try clear hfz97_1
                                try clear hx645_0
                                try clear hx660_0
                                try clear hx661_0
                                try clear p2
                                try clear p6
                                try clear p64
                                try clear p645
                                try clear p660
                                try clear p661
                                try clear q64
                                try clear q645
                                try clear q660
                                try clear q661
                                obtain ⟨kq, x320_105, rfl, HA, HJ105, HO_9, HO_11, HO_15, HO_17, HO_23, HO_603000, BK601, BK602, HR645_0, HB⟩ := hcut
                                cases kq with
                                | zero => exact absurd HA.out (by simp [droppertop_TopPull.j7])
                                | succ kj105 =>
                                  have H := HA.out; clear HA; simp only [droppertop_TopPull.j7] at H; by_cases c124 : x320_105 = true
                                  · subst c124; rw [if_pos rfl] at H
                                    exact absurd (hT.symm.trans (Option.some.inj H).symm) (by decide)
                                  replace c124 := Bool.eq_false_iff.mpr c124; subst c124; rw [if_neg (show ¬ (false = true) by decide)] at H; by_cases c125 : ((rd_L1 x23_74 x25_6).length : Int) < (t607.length : Int)
                                  · rw [if_pos c125] at H; have c125b0 : decide (((rd_L1 x23_74 x25_6).length : Int) < (t607.length : Int)) = true := decide_eq_true c125; have c125b1 : decide ((rd_L1 x23_74 x25_6).length < t607.length) = true := decide_eq_true (Int.ofNat_lt.mp c125); clear c125
                                    exact absurd (hT.symm.trans (Option.some.inj H).symm) (by decide)
                                  rw [if_neg c125] at H; have c125b0 : decide (((rd_L1 x23_74 x25_6).length : Int) < (t607.length : Int)) = false := decide_eq_false c125
                                  have c125b1 : decide ((rd_L1 x23_74 x25_6).length < t607.length) = false := decide_eq_false (fun h => c125 (Int.ofNat_lt.mpr h))
                                  clear c125; by_cases c126 : ((rd_L1 x23_74 x25_6).length : Int) > (t611.length : Int)
                                  · rw [if_pos c126] at H; have c126b0 : decide ((t611.length : Int) < ((rd_L1 x23_74 x25_6).length : Int)) = true := decide_eq_true c126; have c126b1 : decide (t611.length < (rd_L1 x23_74 x25_6).length) = true := decide_eq_true (Int.ofNat_lt.mp c126); clear c126
                                    exact absurd (hT.symm.trans (Option.some.inj H).symm) (by decide)
                                  rw [if_neg c126] at H; have c126b0 : decide ((t611.length : Int) < ((rd_L1 x23_74 x25_6).length : Int)) = false := decide_eq_false c126
                                  have c126b1 : decide (t611.length < (rd_L1 x23_74 x25_6).length) = false := decide_eq_false (fun h => c126 (Int.ofNat_lt.mpr h))
                                  clear c126; replace H := Option.bind_eq_some_iff.mp H; obtain ⟨t662, A1270, H⟩ := H; (try dsimp only at H); have A127 := Aside0.mk A1270; clear A1270; by_cases c128 : t662 < t642
                                  · rw [if_pos c128] at H; have c128b0 : decide (t662 < t642) = true := decide_eq_true c128; clear c128
                                    exact absurd (hT.symm.trans (Option.some.inj H).symm) (by decide)
                                  rw [if_neg c128] at H; have c128b0 : decide (t662 < t642) = false := decide_eq_false c128; clear c128; replace H := Option.bind_eq_some_iff.mp H; obtain ⟨t663, A1290, H⟩ := H; (try dsimp only at H); have A129 := Aside0.mk A1290; clear A1290; by_cases c130 : t663 = true; rotate_left
                                  · replace c130 := Bool.eq_false_iff.mpr c130; subst c130; rw [if_neg (show ¬ (false = true) by decide)] at H
                                    exact absurd (hT.symm.trans (Option.some.inj H).symm) (by decide)
                                  subst c130; rw [if_pos rfl] at H; replace H := Option.bind_eq_some_iff.mp H; obtain ⟨t664, A1310, H⟩ := H; (try dsimp only at H); have A131 := Aside0.mk A1310; clear A1310; by_cases c132 : t664 = true; rotate_left
                                  · replace c132 := Bool.eq_false_iff.mpr c132; subst c132; rw [if_neg (show ¬ (false = true) by decide)] at H
                                    exact absurd (hT.symm.trans (Option.some.inj H).symm) (by decide)
                                  subst c132; rw [if_pos rfl] at H; have H' := Aside0.mk H; clear H
                                  go_wp2_with (first | (go_at_call 37; (with_reducible refine (droppertop_longest.calls kj105 _ _ l0 _ _ (rd_L1 x23_74 x25_6) t662 _ ?side1 ?side2 ?side3 ?side4 A127.out).mono ?_); (case side1 => repeat (first | exact (Kd.C_below HR0.out HB.out) | (with_reducible refine Kd.C_alloc ?_ _) | (with_reducible refine Kd.C_drewN ?_ _) | (with_reducible refine Kd.C_drew ?_))); (case side2 => exact HC0.out); (case side3 => repeat (first | exact (by repeat (first | (with_reducible exact HR645_0.out) | (with_reducible refine Kd.C_alloc ?_ _) | (with_reducible refine Kd.C_drewN ?_ _) | (with_reducible refine Kd.C_drew ?_) | exact HR645_0.out)) | (with_reducible refine Kd.C_alloc ?_ _) | (with_reducible refine Kd.C_drewN ?_ _) | (with_reducible refine Kd.C_drew ?_))); (case side4 => exact HC645_0.out); rintro e w133 ⟨rfl, hb⟩; have n0_ := Aside0.mk (Kd.V_below (by (with_reducible repeat (first | apply Kd.V_alloc | apply Kd.V_drewN | apply Kd.V_drew)); exact HO_9.out) hb); have n1_ := Aside0.mk (Kd.V_below (by (with_reducible repeat (first | apply Kd.V_alloc | apply Kd.V_drewN | apply Kd.V_drew)); exact HO_11.out) hb); have n2_ := Aside0.mk (Kd.R_below (by (with_reducible repeat (first | apply Kd.R_alloc | apply Kd.R_drewN | apply Kd.R_drew)); exact HO_15.out) hb); have n3_ := Aside0.mk (Kd.R_below (by (with_reducible repeat (first | apply Kd.R_alloc | apply Kd.R_drewN | apply Kd.R_drew)); exact HO_17.out) hb); have n4_ := Aside0.mk (Kd.N_below (by (with_reducible repeat (first | apply Kd.N_alloc | apply Kd.N_drewN | apply Kd.N_drew)); exact HO_23.out) hb); have n5_ := Aside0.mk (Kd.V_below (by (with_reducible repeat (first | apply Kd.V_alloc | apply Kd.V_drewN | apply Kd.V_drew)); exact HO_603000.out) hb); have n6_ := Aside0.mk (bkB BK601 hb); have n7_ := Aside0.mk (bkB BK602 hb); have n8_ := Aside0.mk (Kd.C_below (by repeat (first | (with_reducible exact HR645_0.out) | (with_reducible refine Kd.C_alloc ?_ _) | (with_reducible refine Kd.C_drewN ?_ _) | (with_reducible refine Kd.C_drew ?_) | exact HR645_0.out)) hb); have n9_ := Aside0.mk (below_step (by repeat (first | (with_reducible first | exact HB.out | apply below_alloc | apply pw_below_drewN | apply below_drew1 | refine below_set ?_ GE601.out | refine below_set ?_ GE602.out) | exact HB.out)) hb); clear HO_9; clear HO_11; clear HO_15; clear HO_17; clear HO_23; clear HO_603000; clear BK601; clear BK602; clear HR645_0; clear HB; have HO_9 := n0_; have HO_11 := n1_; have HO_15 := n2_; have HO_17 := n3_; have HO_23 := n4_; have HO_603000 := n5_; have BK601 := n6_; have BK602 := n7_; have HR645_0 := n8_; have HB := n9_; clear n0_ n1_ n2_ n3_ n4_ n5_ n6_ n7_ n8_ n9_; (try clear hb); (try clear hb2); (try clear hk); (try clear hi); obtain ⟨Ao134, co134, eo134⟩ := Kd.R_slice HO_15.out; subst eo134) | (go_at_call 40; (with_reducible refine (droppertop_within.calls kj105 _ _ t619 _ _ (rd_L1 x23_74 x25_6) true _ ?side1 ?side2 ?side3 ?side4 A129.out).mono ?_); (case side1 => repeat (first | exact (Kd.R_reads' HO_15.out).2.2 | (with_reducible refine Kd.C_alloc ?_ _) | (with_reducible refine Kd.C_drewN ?_ _) | (with_reducible refine Kd.C_drew ?_))); (case side2 => exact (Kd.R_reads' HO_15.out).2.1); (case side3 => repeat (first | exact (by repeat (first | (with_reducible exact HR645_0.out) | (with_reducible refine Kd.C_alloc ?_ _) | (with_reducible refine Kd.C_drewN ?_ _) | (with_reducible refine Kd.C_drew ?_) | exact HR645_0.out)) | (with_reducible refine Kd.C_alloc ?_ _) | (with_reducible refine Kd.C_drewN ?_ _) | (with_reducible refine Kd.C_drew ?_))); (case side4 => exact HC645_0.out); rintro e w' ⟨rfl, ⟨nd, rfl⟩⟩; obtain ⟨Ao135, co135, eo135⟩ := Kd.R_slice HO_17.out; subst eo135) | (go_at_call 40; (with_reducible refine (droppertop_within.calls kj105 _ _ (rd_L1 x23_74 x25_6) _ _ t623 true _ ?side1 ?side2 ?side3 ?side4 A131.out).mono ?_); (case side1 => repeat (first | exact (by repeat (first | (with_reducible exact HR645_0.out) | (with_reducible refine Kd.C_alloc ?_ _) | (with_reducible refine Kd.C_drewN ?_ _) | (with_reducible refine Kd.C_drew ?_) | exact HR645_0.out)) | (with_reducible refine Kd.C_alloc ?_ _) | (with_reducible refine Kd.C_drewN ?_ _) | (with_reducible refine Kd.C_drew ?_))); (case side2 => exact HC645_0.out); (case side3 => repeat (first | exact (Kd.R_reads' HO_17.out).2.2 | (with_reducible refine Kd.C_alloc ?_ _) | (with_reducible refine Kd.C_drewN ?_ _) | (with_reducible refine Kd.C_drew ?_))); (case side4 => exact (Kd.R_reads' HO_17.out).2.1); rintro e w' ⟨rfl, ⟨nd, rfl⟩⟩))
                                  go_roundg kj105
                                  case measure => have := HJ3.out; have := HJ23.out; have := HJ54.out; have := HJ62.out; have := HJ74.out; have := HK6.out; have := HJ91.out; have := HJ105.out; omega
                                  case rel => exact ⟨(wrap64 (x25_6 + 1)), (by first | rfl | (simp; done) | (simp [*]; done)), H', ⟨by have := HJ3.out; have := HJ23.out; have := HJ54.out; have := HJ62.out; have := HJ74.out; have := HK6.out; have := HJ91.out; have := HJ105.out; omega⟩, ⟨by (with_reducible repeat (first | apply Kd.V_alloc | apply Kd.V_drewN | apply Kd.V_drew)); exact HO_9.out⟩, ⟨by (with_reducible repeat (first | apply Kd.V_alloc | apply Kd.V_drewN | apply Kd.V_drew)); exact HO_11.out⟩, ⟨by (with_reducible repeat (first | apply Kd.R_alloc | apply Kd.R_drewN | apply Kd.R_drew)); exact HO_15.out⟩, ⟨by (with_reducible repeat (first | apply Kd.R_alloc | apply Kd.R_drewN | apply Kd.R_drew)); exact HO_17.out⟩, ⟨by (with_reducible repeat (first | apply Kd.N_alloc | apply Kd.N_drewN | apply Kd.N_drew)); exact HO_23.out⟩, ⟨by (with_reducible repeat (first | apply Kd.V_alloc | apply Kd.V_drewN | apply Kd.V_drew)); exact HO_603000.out⟩, ⟨bkU BK601⟩, ⟨bkU BK602⟩, ⟨by repeat (first | (with_reducible first | exact HB.out | apply below_alloc | apply pw_below_drewN | apply below_drew1 | refine below_set ?_ GE601.out | refine below_set ?_ GE602.out) | exact HB.out)⟩⟩
end Go.Proofs.Ytiebfmenkpodeaa.G
