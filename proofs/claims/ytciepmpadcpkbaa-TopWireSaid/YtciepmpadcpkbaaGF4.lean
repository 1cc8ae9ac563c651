-- Written by this session's driver (wip/tools/printmore.py) over the kit's print, with hand-written parts.
import Derived.Test.YtciepmpadcpkbaaGF4D
import Derived.Test.YtciepmpadcpkbaaGBase
import Derived.Test.YtciepmpadcpkbaaGF13
import Derived.Test.YtciepmpadcpkbaaGF15
import Derived.Test.YtciepmpadcpkbaaGF21
import Derived.Test.YtciepmpadcpkbaaGF14
import Derived.Test.YtciepmpadcpkbaaGF19
import Derived.Test.YtciepmpadcpkbaaGF20
import Derived.Test.YtciepmpadcpkbaaGF17
import Derived.Test.YtciepmpadcpkbaaGF22
import Derived.Test.YtciepmpadcpkbaaGF23
import Derived.Test.YtciepmpadcpkbaaGF24
import Derived.Test.YtciepmpadcpkbaaGF25
import Derived.Test.YtciepmpadcpkbaaGF26
import Derived.Test.YtciepmpadcpkbaaGF27
namespace Go.Proofs.Ytciepmpadcpkbaa.G
open Go.RowKit Go.Proofs.YtciepmpadcpkbaaW.PrintWords Go.Proofs.YtciepmpadcpkbaaW.PrintLast Go.Proofs.YtciepmpadcpkbaaW.PrintMore
attribute [local go_sem] max2_int min2_int max_two min_two max_three min_three max_four min_four   -- for this text's walks alone
set_option linter.unusedVariables false
set_option linter.unusedSimpArgs false

/-! ### droppertop_TopWire: function 4 -/
theorem droppertop_TopWire.j1_no (k : Nat) (y0_ : List (S72)) (y7_ : List Int) (y9_ : List Int) (y14_ : Int) (y15_ : List Int) (y16_ : Int) (y602000_ : Int) (y602001_ : Int) (y603000_ : List Int) (y603001_ : List Int) (y603002_ : Int) (y603003_ : Int) : droppertop_TopWire.j1 k y0_ y7_ y9_ y14_ y15_ y16_ true y602000_ y602001_ y603000_ y603001_ y603002_ y603003_ ≠ some true := by
 cases k with
 | zero => simp [droppertop_TopWire.j1]
 | succ k => rw [droppertop_TopWire.j1]; simp
theorem droppertop_TopWire.j4_no (k : Nat) (y0_ : List (S72)) (y7_ : List Int) (y9_ : List Int) (y14_ : Int) (y15_ : List Int) (y16_ : Int) (y19_ : List (List Int)) (y602000_ : Int) (y602001_ : Int) (y603000_ : List Int) (y603001_ : List Int) (y603002_ : Int) (y603003_ : Int) : droppertop_TopWire.j4 k y0_ y7_ y9_ y14_ y15_ y16_ y19_ true y602000_ y602001_ y603000_ y603001_ y603002_ y603003_ ≠ some true := by
 cases k with
 | zero => simp [droppertop_TopWire.j4]
 | succ k => rw [droppertop_TopWire.j4]; simp
theorem droppertop_TopWire.j6_no (k : Nat) (y0_ : List (S72)) (y7_ : List Int) (y9_ : List Int) (y14_ : Int) (y15_ : List Int) (y16_ : Int) (y19_ : List (List Int)) (y22_ : Int) (y602000_ : Int) (y602001_ : Int) (y603000_ : List Int) (y603001_ : List Int) (y603002_ : Int) (y603003_ : Int) : droppertop_TopWire.j6 k y0_ y7_ y9_ y14_ y15_ y16_ y19_ y22_ true y602000_ y602001_ y603000_ y603001_ y603002_ y603003_ ≠ some true := by
 cases k with
 | zero => simp [droppertop_TopWire.j6]
 | succ k => rw [droppertop_TopWire.j6]; simp
def droppertop_TopWire.T21 : Bool × List (List Nat × List Nat) := (true, [([], []), ([0], [0]), ([], []), ([2], [2]), ([1, 3], [1, 3]), ([4], [4]), ([5], [5]), ([5], [5]), ([6, 7, 5], [5, 6, 7]), ([8, 5], [5, 8]), ([5], [5]), ([10, 5], [5, 10]), ([9, 11, 5], [5, 9, 11]), ([5, 12], [5, 12])])
def droppertop_TopWire.B21 : List Nat := [0, 1, 0, 4, 15, 31, 63, 63, 255, 511, 63, 1087, 4095, 8191]
theorem droppertop_TopWire.tab21 : rtab .any (opsOf Try.f4 21) = droppertop_TopWire.T21 := by kernel_rfl
theorem droppertop_TopWire.bits21 : waitsOk droppertop_TopWire.T21.2 droppertop_TopWire.B21 = true := by kernel_rfl
def droppertop_TopWire.T24 : Bool × List (List Nat × List Nat) := (true, [([], []), ([0], [0]), ([], []), ([], []), ([2, 3], [2, 3]), ([4], [4]), ([], []), ([6], [6]), ([5, 7], [5, 7]), ([8], [8]), ([9], [9]), ([10, 9], [9, 10]), ([9], [9]), ([9], [9]), ([12, 13, 9], [9, 12, 13]), ([14, 9], [9, 14]), ([11, 15, 9], [9, 11, 15]), ([9, 16], [9, 16]), ([1, 17], [1, 17]), ([18, 9], [18]), ([19], [19]), ([20, 19], [19, 20]), ([21, 19, 19], [19, 21]), ([22], [22]), ([23, 22], [22, 23]), ([22, 24, 19], [19, 22, 24]), ([19, 25], [19, 25])])
def droppertop_TopWire.B24 : List Nat := [0, 1, 0, 0, 12, 28, 0, 64, 252, 508, 1020, 2044, 1020, 1020, 13308, 29692, 65532, 131068, 262143, 524287, 1048575, 2097151, 4194303, 8388607, 16777215, 33554431, 67108863]
theorem droppertop_TopWire.tab24 : rtab .any (opsOf Try.f4 24) = droppertop_TopWire.T24 := by kernel_rfl
theorem droppertop_TopWire.bits24 : waitsOk droppertop_TopWire.T24.2 droppertop_TopWire.B24 = true := by kernel_rfl
def droppertop_TopWire.T29 : Bool × List (List Nat × List Nat) := (true, [([], []), ([], []), ([], []), ([], []), ([2, 3], [2, 3]), ([4], [4]), ([0, 1, 5], [0, 1, 5]), ([6], [6]), ([7, 6], [7]), ([8], [8]), ([8], [8]), ([8], [8]), ([10, 11, 8], [8, 10, 11]), ([12, 8], [8, 12]), ([8], [8]), ([9, 13, 14, 8, 8], [8, 9, 13, 14]), ([15, 8], [8, 15]), ([8, 16], [8, 16])])
def droppertop_TopWire.B29 : List Nat := [0, 0, 0, 0, 12, 28, 63, 127, 255, 511, 511, 511, 3583, 7679, 511, 32767, 65535, 131071]
theorem droppertop_TopWire.tab29 : rtab .any (opsOf Try.f4 29) = droppertop_TopWire.T29 := by kernel_rfl
theorem droppertop_TopWire.bits29 : waitsOk droppertop_TopWire.T29.2 droppertop_TopWire.B29 = true := by kernel_rfl
def droppertop_TopWire.T31 : Bool × List (List Nat × List Nat) := (true, [([], []), ([0], [0]), ([1], [1]), ([2], [2]), ([2], [2]), ([3, 4, 2], [2, 3, 4]), ([5, 2], [2, 5]), ([2], [2]), ([6, 7, 2], [2, 6, 7]), ([8, 2], [2, 8]), ([2], [2]), ([10, 2], [2, 10]), ([9, 11, 2], [2, 9, 11]), ([2, 12], [2, 12]), ([13, 2], [13]), ([14], [14]), ([14], [14]), ([14], [14]), ([16, 17, 14], [14, 16, 17]), ([18, 14], [14, 18]), ([14], [14]), ([15, 19, 20, 14, 14], [14, 15, 19, 20]), ([21, 14], [14, 21]), ([14, 22], [14, 22])])
def droppertop_TopWire.B31 : List Nat := [0, 1, 3, 7, 7, 31, 63, 7, 255, 511, 7, 1031, 4095, 8191, 16383, 32767, 32767, 32767, 229375, 491519, 32767, 2097151, 4194303, 8388607]
theorem droppertop_TopWire.tab31 : rtab .any (opsOf Try.f4 31) = droppertop_TopWire.T31 := by kernel_rfl
theorem droppertop_TopWire.bits31 : waitsOk droppertop_TopWire.T31.2 droppertop_TopWire.B31 = true := by kernel_rfl
def droppertop_TopWire.T36 : Bool × List (List Nat × List Nat) := (true, [([], []), ([], []), ([0, 1], [0, 1]), ([2], [2]), ([], []), ([], []), ([4, 5], [4, 5]), ([6], [6]), ([3, 7], [3, 7]), ([8], [8]), ([9], [9]), ([9], [9]), ([10, 8, 0, 1, 2, 3, 4, 5, 6, 7, 8, 9, 10], [10]), ([11, 12, 0, 1, 2, 3, 4, 5, 6, 7, 8, 9, 10, 11, 12], [11])])
def droppertop_TopWire.B36 : List Nat := [0, 0, 3, 7, 0, 0, 48, 112, 255, 511, 1023, 1023, 2047, 8191]
theorem droppertop_TopWire.tab36 : rtab .any (opsOf Try.f4 36) = droppertop_TopWire.T36 := by kernel_rfl
theorem droppertop_TopWire.bits36 : waitsOk droppertop_TopWire.T36.2 droppertop_TopWire.B36 = true := by kernel_rfl
def droppertop_TopWire.T37 : Bool × List (List Nat × List Nat) := (true, [([], []), ([], []), ([0, 1], [0, 1]), ([2], [2]), ([], []), ([], []), ([4, 5], [4, 5]), ([6], [6]), ([3, 7], [3, 7]), ([8], [8]), ([9], [9]), ([9], [9]), ([10, 8, 0, 1, 2, 3, 4, 5, 6, 7, 8, 9, 10], [10]), ([11, 12, 0, 1, 2, 3, 4, 5, 6, 7, 8, 9, 10, 11, 12], [11])])
def droppertop_TopWire.B37 : List Nat := [0, 0, 3, 7, 0, 0, 48, 112, 255, 511, 1023, 1023, 2047, 8191]
theorem droppertop_TopWire.tab37 : rtab .any (opsOf Try.f4 37) = droppertop_TopWire.T37 := by kernel_rfl
theorem droppertop_TopWire.bits37 : waitsOk droppertop_TopWire.T37.2 droppertop_TopWire.B37 = true := by kernel_rfl
set_option maxHeartbeats 40000000 in
set_option maxRecDepth 100000 in
theorem droppertop_TopWire.calls (k : Nat) (A0 : Option Addr) (c0 : Nat) (l0 : List (S72)) (a1_0 : Int) (a1_1 : Int) (P2_0_ : Nat → Prop) (A2_0 : Option Addr) (c2_0 : Nat) (l2_0 : List Int) (P2_1_ : Nat → Prop) (A2_1 : Option Addr) (c2_1 : Nat) (l2_1 : List Int) (a2_2 : Int) (a2_3 : Int) (r : Bool) (w : World) (hr0 : Kd.C k72 w A0 l0.length l0) (hc0 : l0.length ≤ c0) (hs2_0 : Kd.V (Kd.int .i64) 3 w w.heap.size (fun k_ => P2_0_ k_) (.slice A2_0 l2_0.length c2_0) l2_0) (hs2_1 : Kd.V (Kd.int .i64) 3 w w.heap.size (fun k_ => P2_1_ k_) (.slice A2_1 l2_1.length c2_1) l2_1) (h : droppertop_TopWire.f k l0 a1_0 a1_1 l2_0 l2_1 a2_2 a2_3 = some r) (hT : r = true) :
  Calls Try.prog 4 #[.slice A0 l0.length c0, .agg #[.int .i64 a1_0, .int .i64 a1_1], .agg #[.slice A2_0 l2_0.length c2_0, .slice A2_1 l2_1.length c2_1, .int .i64 a2_2, .int .i64 a2_3]] w fun e w' => e = .returned (.bool r) ∧ Below w.heap.size w w' := by
 have hu24 := Try.underlying24; have hu36 := Try.underlying36; have HR0 := A_ hr0; have HC0 := A_ hc0; clear hr0 hc0
 have HO2_0 := A_ (show Kd.V (Kd.int .i64) 3 w w.heap.size (fun k_ => ((P2_0_ k_ ∨ P2_1_ k_) ∨ w.heap.size ≤ k_)) (.slice A2_0 l2_0.length c2_0) l2_0 from Kd.V_mono hs2_0 (fun k_ hk => .inl (.inl hk)))
 have HO2_1 := A_ (show Kd.V (Kd.int .i64) 3 w w.heap.size (fun k_ => ((P2_0_ k_ ∨ P2_1_ k_) ∨ w.heap.size ≤ k_)) (.slice A2_1 l2_1.length c2_1) l2_1 from Kd.V_mono hs2_1 (fun k_ hk => .inl (.inr hk)))
 have HB := A_ (Below.refl w.heap.size w)
 have H : ((dropperref02_Valid.f k l0).bind fun t603 => (if t603 = true then ((dropperref02_Slope.f a1_0 a1_1).bind fun t604 => (if t604 = true then ((dropperlaw02_Large.f k ([] : List (S72)) (([l2_0, l2_1] : List (List Int)))).bind fun t608 => (droppertop_TopWire.j0 k l0 t608 a1_0 a1_1 l2_0 l2_1 a2_2 a2_3)) else (droppertop_TopWire.j0 k l0 true a1_0 a1_1 l2_0 l2_1 a2_2 a2_3))) else (droppertop_TopWire.j0 k l0 true a1_0 a1_1 l2_0 l2_1 a2_2 a2_3))) = some r := h
 clear h; have HC4 := A_ H; clear H
 go_enter Try.func4, Try.ntmps4
 go_upto_region 1 with (first | ((with_reducible refine gate_dst (N := 4) rfl ?_); (try (refine gate_guard (by rfl) ?_; dsimp only)); refine box_event ?hg (N := 4) ?hd (cs := #[.int .i64 a1_0, .int .i64 a1_1]) (t := 24) ?hr ?_; (case hd => rfl); (case hg => rfl); (case hr => first | (go_simp; done) | (go_simp; rfl)); intro gb601 hg w5 hbox hb; have n0_ := A_ (Kd.V_below (Kd.V_elderB (vU HO2_0.out) gb601 (Nat.le_of_eq hg.symm)) hb); have n1_ := A_ (Kd.V_below (Kd.V_elderB (vU HO2_1.out) gb601 (Nat.le_of_eq hg.symm)) hb); have n2_ := A_ (below_step (bW0 HB.out) hb); have n3_ := A_ (hbox); have n4_ := A_ ((szG hg (bW0 HB.out))); have n5_ := A_ ((szG hg (bW0 HB.out))); clear HO2_0; clear HO2_1; clear HB; have HO2_0 := n0_; have HO2_1 := n1_; have HB := n2_; have BK601 := n3_; have GW601 := n4_; have GE601 := n5_; clear n0_ n1_ n2_ n3_ n4_ n5_; clear hb hbox hg) | ((with_reducible refine gate_dst (N := 5) rfl ?_); (try (refine gate_guard (by rfl) ?_; dsimp only)); refine box_event ?hg (N := 5) ?hd (cs := #[.slice A2_0 l2_0.length c2_0, .slice A2_1 l2_1.length c2_1, .int .i64 a2_2, .int .i64 a2_3]) (t := 36) ?hr ?_; (case hd => rfl); (case hg => rfl); (case hr => first | (go_simp; done) | (go_simp; rfl)); intro gb602 hg w6 hbox hb; have n0_ := A_ (Kd.V_below (Kd.V_elderB (vU HO2_0.out) gb602 (Nat.le_of_eq hg.symm)) hb); have n1_ := A_ (Kd.V_below (Kd.V_elderB (vU HO2_1.out) gb602 (Nat.le_of_eq hg.symm)) hb); have n2_ := A_ (bkB BK601 hb); have n3_ := A_ (below_step (bW1 HB.out GE601.out) hb); have n4_ := A_ (hbox); have n5_ := A_ ((szG hg (bW1 HB.out GE601.out))); have n6_ := A_ ((szG hg (bW1 HB.out GE601.out))); have n7_ := A_ ((bkL BK601 hg : gb601 ≠ gb602)); have n8_ := A_ ((bkG BK601 hg : gb602 ≠ gb601)); clear HO2_0; clear HO2_1; clear BK601; clear HB; have HO2_0 := n0_; have HO2_1 := n1_; have BK601 := n2_; have HB := n3_; have BK602 := n4_; have GW602 := n5_; have GE602 := n6_; have NB601_602 := n7_; have NB602_601 := n8_; clear n0_ n1_ n2_ n3_ n4_ n5_ n6_ n7_ n8_; clear hb hbox hg))
 (try simp only [Act.put, List.setIfInBounds_toArray, List.set_cons_zero, List.set_cons_succ])
 go_cut [46] (fun v46 wc => ∃ (kq : Nat) (x46_3 : Bool), v46 = .bool x46_3 ∧ Aside0 (droppertop_TopWire.j0 kq l0 x46_3 a1_0 a1_1 l2_0 l2_1 a2_2 a2_3 = some r) ∧ Aside0 (kq ≤ k) ∧ Aside0 (Kd.V (Kd.int .i64) 3 wc w.heap.size (fun k_ => ((P2_0_ k_ ∨ P2_1_ k_) ∨ w.heap.size ≤ k_) ∧ k_ ≠ gb601 ∧ k_ ≠ gb602) (.slice A2_0 l2_0.length c2_0) l2_0) ∧ Aside0 (Kd.V (Kd.int .i64) 3 wc w.heap.size (fun k_ => ((P2_0_ k_ ∨ P2_1_ k_) ∨ w.heap.size ≤ k_) ∧ k_ ≠ gb601 ∧ k_ ≠ gb602) (.slice A2_1 l2_1.length c2_1) l2_1) ∧ Aside0 (wc.heap[gb601]? = some (.cells #[.int .i64 a1_0, .int .i64 a1_1] 24 (0, 0))) ∧ Aside0 (wc.heap[gb602]? = some (.cells #[(.slice A2_0 l2_0.length c2_0), (.slice A2_1 l2_1.length c2_1), .int .i64 a2_2, .int .i64 a2_3] 36 (0, 0))) ∧ Aside0 (Below w.heap.size w wc))
 case first => as_aux_lemma =>
  have H := HC4.out; clear HC4; replace H := Option.bind_eq_some_iff.mp H; obtain ⟨t603, A70, H⟩ := H; (try dsimp only at H); have A7 := A_ A70; clear A70; by_cases c8 : t603 = true; rotate_left
  ·replace c8 := Bool.eq_false_iff.mpr c8; subst c8; rw [if_neg (show ¬ (false = true) by decide)] at H; have H' := A_ H; clear H
   go_wp2_with (first | ((with_reducible refine gate_callee (f := 19) rfl ?_); refine goesL_ (some 29) rfl rfl Try.func19 (by kernel_rfl) rfl #[.slice A0 l0.length c0] rfl (by (try simp only [List.map_toArray, List.map_cons, List.map_nil]); first | done | rfl | (simp only [List.length_drop, List.length_take]; rfl)) ?_; (with_reducible refine (dropperref02_Valid.calls k _ _ l0 false _ ?side1 ?side2 A7.out).mono ?_); (case side1 => exact cU (Kd.C_below HR0.out HB.out)); (case side2 => exact HC0.out); rintro e w22 ⟨rfl, hb⟩; refine ⟨_, rfl, ?_⟩; have n0_ := A_ (Kd.V_below (vU HO2_0.out) hb); have n1_ := A_ (Kd.V_below (vU HO2_1.out) hb); have n2_ := A_ (bkB BK601 hb); have n3_ := A_ (bkB BK602 hb); have n4_ := A_ (below_step (bW2 HB.out GE601.out GE602.out) hb); clear HO2_0; clear HO2_1; clear BK601; clear BK602; clear HB; have HO2_0 := n0_; have HO2_1 := n1_; have BK601 := n2_; have BK602 := n3_; have HB := n4_; clear n0_ n1_ n2_ n3_ n4_; (try clear hb); (try clear hb2); (try clear hk); (try clear hi)))
   go_meet
   case rel => exact ⟨_, (true), (by first | rfl | (simp; done) | (simp [*]; done)), H', ⟨by first | omega | exact Nat.le_refl _⟩, ⟨by (with_reducible repeat (first | apply Kd.V_alloc | apply Kd.V_drewN | apply Kd.V_drew)); exact Kd.V_mono HO2_0.out (fun _ hk => ⟨hk.1.1, ⟨hk.1.2, hk.2⟩⟩)⟩, ⟨by (with_reducible repeat (first | apply Kd.V_alloc | apply Kd.V_drewN | apply Kd.V_drew)); exact Kd.V_mono HO2_1.out (fun _ hk => ⟨hk.1.1, ⟨hk.1.2, hk.2⟩⟩)⟩, ⟨bkU BK601⟩, ⟨bkU BK602⟩, ⟨by repeat (first | (with_reducible first | exact HB.out | apply below_alloc | apply pw_below_drewN | apply below_drew1 | refine below_set ?_ GE601.out | refine below_set ?_ GE602.out) | exact HB.out)⟩⟩
  subst c8; rw [if_pos rfl] at H; replace H := Option.bind_eq_some_iff.mp H; obtain ⟨t604, A90, H⟩ := H; (try dsimp only at H); have A9 := A_ A90; clear A90; by_cases c10 : t604 = true; rotate_left
  ·replace c10 := Bool.eq_false_iff.mpr c10; subst c10; rw [if_neg (show ¬ (false = true) by decide)] at H; have H' := A_ H; clear H
   go_wp2_with (first | ((with_reducible refine gate_callee (f := 19) rfl ?_); refine goesL_ (some 29) rfl rfl Try.func19 (by kernel_rfl) rfl #[.slice A0 l0.length c0] rfl (by (try simp only [List.map_toArray, List.map_cons, List.map_nil]); first | done | rfl | (simp only [List.length_drop, List.length_take]; rfl)) ?_; (with_reducible refine (dropperref02_Valid.calls k _ _ l0 true _ ?side1 ?side2 A7.out).mono ?_); (case side1 => exact cU (Kd.C_below HR0.out HB.out)); (case side2 => exact HC0.out); rintro e w19 ⟨rfl, hb⟩; refine ⟨_, rfl, ?_⟩; have n0_ := A_ (Kd.V_below (vU HO2_0.out) hb); have n1_ := A_ (Kd.V_below (vU HO2_1.out) hb); have n2_ := A_ (bkB BK601 hb); have n3_ := A_ (bkB BK602 hb); have n4_ := A_ (below_step (bW2 HB.out GE601.out GE602.out) hb); clear HO2_0; clear HO2_1; clear BK601; clear BK602; clear HB; have HO2_0 := n0_; have HO2_1 := n1_; have BK601 := n2_; have BK602 := n3_; have HB := n4_; clear n0_ n1_ n2_ n3_ n4_; (try clear hb); (try clear hb2); (try clear hk); (try clear hi); have hnb20 := NB601_602.out; have hnc20 := NB602_601.out; have hcz21_0 : w19.cell? ⟨gb601, 0, none⟩ = some (.int .i64 a1_0) := (blk_cell BK601.out 0).trans rfl; have hcz21_1 : w19.cell? ⟨gb601, 1, none⟩ = some (.int .i64 a1_1) := (blk_cell BK601.out 1).trans rfl; have hfz21_0 := blk_frozen BK601.out 0; have hfz21_1 := blk_frozen BK601.out 1) | (go_at_call 20; (with_reducible refine (dropperref02_Slope.calls a1_0 a1_1 false _ A9.out).mono ?_); rintro e w' ⟨rfl, ⟨nd, rfl⟩⟩))
   go_meet
   case rel => exact ⟨_, (true), (by first | rfl | (simp; done) | (simp [*]; done)), H', ⟨by first | omega | exact Nat.le_refl _⟩, ⟨by (with_reducible repeat (first | apply Kd.V_alloc | apply Kd.V_drewN | apply Kd.V_drew)); exact Kd.V_mono HO2_0.out (fun _ hk => ⟨hk.1.1, ⟨hk.1.2, hk.2⟩⟩)⟩, ⟨by (with_reducible repeat (first | apply Kd.V_alloc | apply Kd.V_drewN | apply Kd.V_drew)); exact Kd.V_mono HO2_1.out (fun _ hk => ⟨hk.1.1, ⟨hk.1.2, hk.2⟩⟩)⟩, ⟨bkU BK601⟩, ⟨bkU BK602⟩, ⟨by repeat (first | (with_reducible first | exact HB.out | apply below_alloc | apply pw_below_drewN | apply below_drew1 | refine below_set ?_ GE601.out | refine below_set ?_ GE602.out) | exact HB.out)⟩⟩
  subst c10; rw [if_pos rfl] at H; obtain ⟨y605, hy605⟩ : ∃ y_ : List (List Int), y_ = (([l2_0, l2_1] : List (List Int))) := ⟨_, rfl⟩
  replace H : ((dropperlaw02_Large.f k ([] : List (S72)) y605).bind fun t608 => (droppertop_TopWire.j0 k l0 t608 a1_0 a1_1 l2_0 l2_1 a2_2 a2_3)) = some r := by first | (rw [hy605]; with_reducible exact H) | (have H2_ := (Option.bind_some _ _).symm.trans H; rw [hy605]; with_reducible exact H2_) | (have H2_ := (Option.bind_some _ _).symm.trans H; with_reducible exact H2_) | with_reducible exact H | (rw [hy605]; exact H) | exact H
  have Ny605 := A_ hy605; clear hy605; replace H := Option.bind_eq_some_iff.mp H; obtain ⟨t608, A110, H⟩ := H; (try dsimp only at H); have A11 := A_ A110; clear A110; have H' := A_ H; clear H
  go_wp2_with (first | ((with_reducible refine gate_callee (f := 19) rfl ?_); refine goesL_ (some 29) rfl rfl Try.func19 (by kernel_rfl) rfl #[.slice A0 l0.length c0] rfl (by (try simp only [List.map_toArray, List.map_cons, List.map_nil]); first | done | rfl | (simp only [List.length_drop, List.length_take]; rfl)) ?_; (with_reducible refine (dropperref02_Valid.calls k _ _ l0 true _ ?side1 ?side2 A7.out).mono ?_); (case side1 => exact cU (Kd.C_below HR0.out HB.out)); (case side2 => exact HC0.out); rintro e w12 ⟨rfl, hb⟩; refine ⟨_, rfl, ?_⟩; have n0_ := A_ (Kd.V_below (vU HO2_0.out) hb); have n1_ := A_ (Kd.V_below (vU HO2_1.out) hb); have n2_ := A_ (bkB BK601 hb); have n3_ := A_ (bkB BK602 hb); have n4_ := A_ (below_step (bW2 HB.out GE601.out GE602.out) hb); clear HO2_0; clear HO2_1; clear BK601; clear BK602; clear HB; have HO2_0 := n0_; have HO2_1 := n1_; have BK601 := n2_; have BK602 := n3_; have HB := n4_; clear n0_ n1_ n2_ n3_ n4_; (try clear hb); (try clear hb2); (try clear hk); (try clear hi); have hnb13 := NB601_602.out; have hnc13 := NB602_601.out; have hcz14_0 : w12.cell? ⟨gb601, 0, none⟩ = some (.int .i64 a1_0) := (blk_cell BK601.out 0).trans rfl; have hcz14_1 : w12.cell? ⟨gb601, 1, none⟩ = some (.int .i64 a1_1) := (blk_cell BK601.out 1).trans rfl; have hfz14_0 := blk_frozen BK601.out 0; have hfz14_1 := blk_frozen BK601.out 1) | (go_at_call 20; (with_reducible refine (dropperref02_Slope.calls a1_0 a1_1 true _ A9.out).mono ?_); rintro e w' ⟨rfl, ⟨nd, rfl⟩⟩; have hcz15_0 : w12.cell? ⟨gb602, 0, none⟩ = some (.slice A2_0 l2_0.length c2_0) := (blk_cell BK602.out 0).trans rfl; have hcz15_1 : w12.cell? ⟨gb602, 1, none⟩ = some (.slice A2_1 l2_1.length c2_1) := (blk_cell BK602.out 1).trans rfl; have hcz15_2 : w12.cell? ⟨gb602, 2, none⟩ = some (.int .i64 a2_2) := (blk_cell BK602.out 2).trans rfl; have hcz15_3 : w12.cell? ⟨gb602, 3, none⟩ = some (.int .i64 a2_3) := (blk_cell BK602.out 3).trans rfl; have hfz15_0 := blk_frozen BK602.out 0; have hfz15_1 := blk_frozen BK602.out 1; have hfz15_2 := blk_frozen BK602.out 2; have hfz15_3 := blk_frozen BK602.out 3) | ((with_reducible refine gate_dst (N := 44) rfl ?_); (try (refine gate_guard (by rfl) ?_; dsimp only)); refine Kd.N_lit (Kd.slice 3 (Kd.int .i64)) _ 34 ?hg (N' := 44) ?hd (xs := ([l2_0, l2_1] : List (List Int))) (inner := [.slice A2_0 l2_0.length c2_0, .slice A2_1 l2_1.length c2_1]) (ok := (fun k_ => ((P2_0_ k_ ∨ P2_1_ k_) ∨ w.heap.size ≤ k_) ∧ k_ ≠ gb601 ∧ k_ ≠ gb602)) (okp := (fun k_ => ((P2_0_ k_ ∨ P2_1_ k_) ∨ w.heap.size ≤ k_) ∧ k_ ≠ gb601 ∧ k_ ≠ gb602)) ?hr ?hp (fun _ hk => hk) ((show ∀ k_, w12.heap.size ≤ k_ → (fun k_ => ((P2_0_ k_ ∨ P2_1_ k_) ∨ w.heap.size ≤ k_) ∧ k_ ≠ gb601 ∧ k_ ≠ gb602) k_ from fun k_ hk => ⟨(.inr (Nat.le_trans (below_size (bW2 HB.out GE601.out GE602.out)) hk)), Kd.freshB (g := gb601) (o := .cells #[.int .i64 a1_0, .int .i64 a1_1] 24 (0, 0)) (bkU BK601) k_ hk, Kd.freshB (g := gb602) (o := .cells #[.slice A2_0 l2_0.length c2_0, .slice A2_1 l2_1.length c2_1, .int .i64 a2_2, .int .i64 a2_3] 36 (0, 0)) (bkU BK602) k_ hk⟩) _ (Nat.le_refl _)) (Below.refl _ _) (Nat.le_refl _) (by simp) ?_; (case hd => rfl); (case hg => rfl); (case hr => first | (go_simp; done) | (go_simp; rfl)); (case hp => exact (Reps.one (show Kd.FK (Kd.slice 3 (Kd.int .i64)) _ _ l2_0 [.slice A2_0 l2_0.length c2_0] from (Kd.FK_slice_mk (Kd.V_reads' HO2_0.out).2.1 (Kd.V_F (Kd.V_mono (ok' := (fun k_ => ((P2_0_ k_ ∨ P2_1_ k_) ∨ w.heap.size ≤ k_) ∧ k_ ≠ gb601 ∧ k_ ≠ gb602)) ((show Kd.V (Kd.int .i64) 3 _ _ (fun k_ => ((((P2_0_ k_ ∨ P2_1_ k_) ∨ w.heap.size ≤ k_) ∧ k_ ≠ gb601) ∧ k_ ≠ gb602)) (.slice A2_0 l2_0.length c2_0) l2_0 from by (with_reducible repeat (first | apply Kd.V_alloc | apply Kd.V_drewN | apply Kd.V_drew)); exact HO2_0.out)) (fun k_ hk => ⟨hk.1.1, ⟨hk.1.2, hk.2⟩⟩))))) (Reps.one (show Kd.FK (Kd.slice 3 (Kd.int .i64)) _ _ l2_1 [.slice A2_1 l2_1.length c2_1] from (Kd.FK_slice_mk (Kd.V_reads' HO2_1.out).2.1 (Kd.V_F (Kd.V_mono (ok' := (fun k_ => ((P2_0_ k_ ∨ P2_1_ k_) ∨ w.heap.size ≤ k_) ∧ k_ ≠ gb601 ∧ k_ ≠ gb602)) ((show Kd.V (Kd.int .i64) 3 _ _ (fun k_ => ((((P2_0_ k_ ∨ P2_1_ k_) ∨ w.heap.size ≤ k_) ∧ k_ ≠ gb601) ∧ k_ ≠ gb602)) (.slice A2_1 l2_1.length c2_1) l2_1 from by (with_reducible repeat (first | apply Kd.V_alloc | apply Kd.V_drewN | apply Kd.V_drew)); exact HO2_1.out)) (fun k_ hk => ⟨hk.1.1, ⟨hk.1.2, hk.2⟩⟩))))) (Reps.none _ _)))); intro v606 w16 ho17 hb hg_ hnew_; clear hg_ hnew_; (first | rw [← Ny605.out] at ho17 | (simp only [Int.reduceToNat] at ho17; rw [← Ny605.out] at ho17)); have n0_ := A_ (Kd.V_elder' (vU HO2_0.out) (Kd.N_base ho17) hb); have n1_ := A_ (Kd.V_elder' (vU HO2_1.out) (Kd.N_base ho17) hb); have n2_ := A_ (Kd.N_lower ho17 (below_size (bW2 HB.out GE601.out GE602.out))); have n3_ := A_ (bkB BK601 hb); have n4_ := A_ (bkB BK602 hb); have n5_ := A_ (below_step (bW2 HB.out GE601.out GE602.out) hb); clear HO2_0; clear HO2_1; clear BK601; clear BK602; clear HB; have HO2_0 := n0_; have HO2_1 := n1_; have HO607 := n2_; have BK601 := n3_; have BK602 := n4_; have HB := n5_; clear n0_ n1_ n2_ n3_ n4_ n5_; clear hb ho17; obtain ⟨Ao18, co18, eo18⟩ := Kd.N_slice HO607.out; subst eo18) | (go_at_call 13; (refine (dropperlaw02_Large.calls k _ _ ([] : List (S72)) _ _ y605 t608 _ ?side1 ?side2 ?side3 ?side4 A11.out).mono ?_); (case side1 => exact Kd.C_nil _ _); (case side2 => exact Nat.le_refl _); (case side3 => repeat (first | exact (Kd.N_reads' HO607.out).2.2 | (with_reducible refine Kd.C_alloc ?_ _) | (with_reducible refine Kd.C_drewN ?_ _) | (with_reducible refine Kd.C_drew ?_))); (case side4 => exact (Kd.N_reads' HO607.out).2.1); rintro e w' ⟨rfl, ⟨nd, rfl⟩⟩))
  go_meet
  case rel => exact ⟨_, (t608), (by first | rfl | (simp; done) | (simp [*]; done)), H', ⟨by first | omega | exact Nat.le_refl _⟩, ⟨by (with_reducible repeat (first | apply Kd.V_alloc | apply Kd.V_drewN | apply Kd.V_drew)); exact Kd.V_mono HO2_0.out (fun _ hk => ⟨hk.1.1.1, ⟨hk.1.1.2, hk.1.2⟩⟩)⟩, ⟨by (with_reducible repeat (first | apply Kd.V_alloc | apply Kd.V_drewN | apply Kd.V_drew)); exact Kd.V_mono HO2_1.out (fun _ hk => ⟨hk.1.1.1, ⟨hk.1.1.2, hk.1.2⟩⟩)⟩, ⟨bkU BK601⟩, ⟨bkU BK602⟩, ⟨by repeat (first | (with_reducible first | exact HB.out | apply below_alloc | apply pw_below_drewN | apply below_drew1 | refine below_set ?_ GE601.out | refine below_set ?_ GE602.out) | exact HB.out)⟩⟩
 case rest => as_aux_lemma =>
  clear HC4
  try clear c1
  try clear c2
  try clear p2
  try clear c4
  try clear c8
  try clear c10
  try clear c13
  try clear c19
  try clear c20
  try clear hcz14_0
  try clear hcz14_1
  try clear hcz15_0
  try clear hcz15_1
  try clear hcz15_2
  try clear hcz15_3
  try clear hcz21_0
  try clear hcz21_1
  try clear hfz14_0
  try clear hfz14_1
  try clear hfz15_0
  try clear hfz15_1
  try clear hfz15_2
  try clear hfz15_3
  try clear hfz21_0
  try clear hfz21_1
  (try clear HO_603000); (try clear HO_603001); (try clear BK601); (try clear BK602); (try clear HB); skip
  obtain ⟨kq, x46_3, rfl, HA, HJ3, HO_603000, HO_603001, BK601, BK602, HB⟩ := hcut
  cases kq with
  | zero => exact absurd HA.out (by simp [droppertop_TopWire.j0])
  | succ kj3 =>
   have H := HA.out; clear HA; simp only [droppertop_TopWire.j0] at H; by_cases c23 : x46_3 = true
   ·subst c23; rw [if_pos rfl] at H; replace H := Option.bind_eq_some_iff.mp H; obtain ⟨t609, A240, H⟩ := H; (try dsimp only at H); have A24 := A_ A240; clear A240 hT; obtain rfl := Option.some.inj H
    go_wp2_with (first | ((with_reducible refine gate_callee (f := 14) rfl ?_); refine goesL_ (some 47) rfl rfl Try.func14 (by kernel_rfl) rfl #[] rfl (by (try simp only [List.map_toArray, List.map_cons, List.map_nil]); first | done | rfl | (simp only [List.length_drop, List.length_take]; rfl)) ?_; (with_reducible refine (dropperlaw02_Awake.calls kj3  t609 _ A24.out).mono ?_); rintro e w25 ⟨rfl, hb⟩; refine ⟨_, rfl, ?_⟩; have n0_ := A_ (Kd.V_below (vU HO_603000.out) hb); have n1_ := A_ (Kd.V_below (vU HO_603001.out) hb); have n2_ := A_ (bkB BK601 hb); have n3_ := A_ (bkB BK602 hb); have n4_ := A_ (below_step (bW2 HB.out GE601.out GE602.out) hb); clear HO_603000; clear HO_603001; clear BK601; clear BK602; clear HB; have HO_603000 := n0_; have HO_603001 := n1_; have BK601 := n2_; have BK602 := n3_; have HB := n4_; clear n0_ n1_ n2_ n3_ n4_; (try clear hb); (try clear hb2); (try clear hk); (try clear hi)))
    go_ret
    exact ⟨by first | rfl | (simp [errW_none, errW_some] <;> rfl) | (simp [*, errW_none, errW_some] <;> rfl), by repeat (first | (with_reducible first | exact HB.out | apply below_alloc | apply pw_below_drewN | apply below_drew1 | refine below_set ?_ GE601.out | refine below_set ?_ GE602.out) | exact HB.out)⟩
   replace c23 := Bool.eq_false_iff.mpr c23; subst c23; rw [if_neg (show ¬ (false = true) by decide)] at H; replace H := Option.bind_eq_some_iff.mp H; obtain ⟨⟨t610, t611⟩, A260, H⟩ := H; (try dsimp only at H); have A26 := A_ A260; clear A260; replace H := Option.bind_eq_some_iff.mp H; obtain ⟨⟨t614, t615⟩, A270, H⟩ := H; (try dsimp only at H); have A27 := A_ A270; clear A270; replace H := Option.bind_eq_some_iff.mp H; obtain ⟨⟨t618, t619, t620⟩, A280, H⟩ := H; (try dsimp only at H); have A28 := A_ A280; clear A280; by_cases c29 : (IntKind.u64.wrap ((l0.length : Int))) = 0
   ·rw [if_pos c29] at H
    exact absurd H (by simp)
   rw [if_neg c29] at H; have c29b0 : ((IntKind.u64.wrap ((l0.length : Int))) == 0) = false := beq_eq_false_iff_ne.mpr c29; have c29b1 : ((IntKind.u64.wrap ((l0.length : Int))) != 0) = true := bne_iff_ne.mpr c29; replace H := Option.bind_eq_some_iff.mp H; obtain ⟨⟨t621, t622⟩, A300, H⟩ := H; (try dsimp only at H); have A30 := A_ A300; clear A300; by_cases c31 : t620 = 0
   ·rw [if_pos c31] at H; have c31b0 : (t620 == 0) = true := beq_iff_eq.mpr c31; have c31b1 : (t620 != 0) = false := bne_eq_false_iff_eq.mpr c31; clear c31; replace H := Option.bind_eq_some_iff.mp H; obtain ⟨⟨t625, t626⟩, A320, H⟩ := H; (try dsimp only at H); have A32 := A_ A320; clear A320; by_cases c33 : t626 = 0; rotate_left
    ·rw [if_neg c33] at H; have c33b0 : (t626 == 0) = false := beq_eq_false_iff_ne.mpr c33; have c33b1 : (t626 != 0) = true := bne_iff_ne.mpr c33
     exact absurd (hT.symm.trans (Option.some.inj H).symm) (by decide)
    rw [if_pos c33] at H; have c33b0 : (t626 == 0) = true := beq_iff_eq.mpr c33; have c33b1 : (t626 != 0) = false := bne_eq_false_iff_eq.mpr c33; clear c33; by_cases c34 : t625 = true; rotate_left
    ·replace c34 := Bool.eq_false_iff.mpr c34; subst c34; rw [if_neg (show ¬ (false = true) by decide)] at H
     exact absurd (hT.symm.trans (Option.some.inj H).symm) (by decide)
    subst c34; rw [if_pos rfl] at H; by_cases c35 : t611 = 5; rotate_left
    ·rw [if_neg c35] at H; have c35b0 : (t611 == 5) = false := beq_eq_false_iff_ne.mpr c35; have c35b1 : (t611 != 5) = true := bne_iff_ne.mpr c35
     exact absurd (hT.symm.trans (Option.some.inj H).symm) (by decide)
    rw [if_pos c35] at H; have c35b0 : (t611 == 5) = true := beq_iff_eq.mpr c35; have c35b1 : (t611 != 5) = false := bne_eq_false_iff_eq.mpr c35; clear c35; by_cases c36 : t615 = 5; rotate_left
    ·rw [if_neg c36] at H; have c36b0 : (t615 == 5) = false := beq_eq_false_iff_ne.mpr c36; have c36b1 : (t615 != 5) = true := bne_iff_ne.mpr c36
     exact absurd (hT.symm.trans (Option.some.inj H).symm) (by decide)
    rw [if_pos c36] at H; have c36b0 : (t615 == 5) = true := beq_iff_eq.mpr c36; have c36b1 : (t615 != 5) = false := bne_eq_false_iff_eq.mpr c36; clear c36; by_cases c37 : t622 = 5; rotate_left
    ·rw [if_neg c37] at H; have c37b0 : (t622 == 5) = false := beq_eq_false_iff_ne.mpr c37; have c37b1 : (t622 != 5) = true := bne_iff_ne.mpr c37
     exact absurd (hT.symm.trans (Option.some.inj H).symm) (by decide)
    rw [if_pos c37] at H; have c37b0 : (t622 == 5) = true := beq_iff_eq.mpr c37; have c37b1 : (t622 != 5) = false := bne_eq_false_iff_eq.mpr c37; clear c37; replace H := Option.bind_eq_some_iff.mp H; obtain ⟨t627, A380, H⟩ := H; (try dsimp only at H); have A38 := A_ A380; clear A380; by_cases c39 : t627 = true
    ·subst c39; rw [if_pos rfl] at H
     exact absurd (hT.symm.trans (Option.some.inj H).symm) (by decide)
    replace c39 := Bool.eq_false_iff.mpr c39; subst c39; rw [if_neg (show ¬ (false = true) by decide)] at H; replace H := Option.bind_eq_some_iff.mp H; obtain ⟨t628, A400, H⟩ := H; (try dsimp only at H); have A40 := A_ A400; clear A400; by_cases c41 : t628 = true
    ·subst c41; rw [if_pos rfl] at H
     exact absurd (hT.symm.trans (Option.some.inj H).symm) (by decide)
    replace c41 := Bool.eq_false_iff.mpr c41; subst c41; rw [if_neg (show ¬ (false = true) by decide)] at H; replace H := Option.bind_eq_some_iff.mp H; obtain ⟨t629, A420, H⟩ := H; (try dsimp only at H); have A42 := A_ A420; clear A420 hT; obtain rfl := Option.some.inj H; have hnb43 := NB601_602.out; have hnc43 := NB602_601.out; have hcz44_0 : wc.cell? ⟨gb601, 0, none⟩ = some (.int .i64 a1_0) := (blk_cell BK601.out 0).trans rfl; have hcz44_1 : wc.cell? ⟨gb601, 1, none⟩ = some (.int .i64 a1_1) := (blk_cell BK601.out 1).trans rfl; have hfz44_0 := blk_frozen BK601.out 0; have hfz44_1 := blk_frozen BK601.out 1
    go_wp2_with (first | ((with_reducible refine gate_callee (f := 21) rfl ?_); refine goesL_ (some 54) rfl rfl Try.func21 (by kernel_rfl) rfl #[.slice A0 l0.length c0, .int .i64 a1_0, .int .i64 a1_1] rfl (by (try simp only [List.map_toArray, List.map_cons, List.map_nil]); first | done | rfl | (simp only [List.length_drop, List.length_take]; rfl)) ?_; (with_reducible refine (wire_Lowest.calls kj3 _ _ l0 a1_0 a1_1 t610 t611 _ ?side1 ?side2 A26.out).mono ?_); (case side1 => exact cU (Kd.C_below HR0.out HB.out)); (case side2 => exact HC0.out); rintro e w45 ⟨v612, rfl, ho0, hb⟩; refine ⟨_, rfl, ?_⟩; have n0_ := A_ (Kd.V_elder' (vU HO_603000.out) (Kd.R_base ho0) hb); have n1_ := A_ (Kd.V_elder' (vU HO_603001.out) (Kd.R_base ho0) hb); have n2_ := A_ (Kd.R_lower (Kd.R_newM (M := fun k_ => (w.heap.size ≤ k_)) ho0 (below_size (bW2 HB.out GE601.out GE602.out)) (fun k_ h_ => h_)) (below_size (bW2 HB.out GE601.out GE602.out))); have n3_ := A_ (bkB BK601 hb); have n4_ := A_ (bkB BK602 hb); have n5_ := A_ (below_step (bW2 HB.out GE601.out GE602.out) hb); clear HO_603000; clear HO_603001; clear BK601; clear BK602; clear HB; have HO_603000 := n0_; have HO_603001 := n1_; have HO613 := n2_; have BK601 := n3_; have BK602 := n4_; have HB := n5_; clear n0_ n1_ n2_ n3_ n4_ n5_; (try clear hb); (try clear hb2); (try clear hk); (try clear hi); (try clear ho0); have hcz46_0 : w45.cell? ⟨gb601, 0, none⟩ = some (.int .i64 a1_0) := (blk_cell BK601.out 0).trans rfl; have hcz46_1 : w45.cell? ⟨gb601, 1, none⟩ = some (.int .i64 a1_1) := (blk_cell BK601.out 1).trans rfl; have hfz46_0 := blk_frozen BK601.out 0; have hfz46_1 := blk_frozen BK601.out 1) | ((with_reducible refine gate_callee (f := 22) rfl ?_); refine goesL_ (some 63) rfl rfl Try.func22 (by kernel_rfl) rfl #[.slice A0 l0.length c0, .int .i64 a1_0, .int .i64 a1_1] rfl (by (try simp only [List.map_toArray, List.map_cons, List.map_nil]); first | done | rfl | (simp only [List.length_drop, List.length_take]; rfl)) ?_; (with_reducible refine (wire_Highest.calls kj3 _ _ l0 a1_0 a1_1 t614 t615 _ ?side1 ?side2 A27.out).mono ?_); (case side1 => exact cU (Kd.C_below HR0.out HB.out)); (case side2 => exact HC0.out); rintro e w47 ⟨v616, rfl, ho0, hb⟩; refine ⟨_, rfl, ?_⟩; have n0_ := A_ (Kd.V_elder' (vU HO_603000.out) (Kd.R_base ho0) hb); have n1_ := A_ (Kd.V_elder' (vU HO_603001.out) (Kd.R_base ho0) hb); have n2_ := A_ (Kd.R_elder' (rU HO613.out) (Kd.R_base ho0) hb); have n3_ := A_ (Kd.R_lower (Kd.R_new' (Kd.R_newM (M := fun k_ => (w.heap.size ≤ k_)) ho0 (below_size (bW2 HB.out GE601.out GE602.out)) (fun k_ h_ => h_)) (Kd.R_lt (rU HO613.out))) (below_size (bW2 HB.out GE601.out GE602.out))); have n4_ := A_ (bkB BK601 hb); have n5_ := A_ (bkB BK602 hb); have n6_ := A_ (below_step (bW2 HB.out GE601.out GE602.out) hb); clear HO_603000; clear HO_603001; clear HO613; clear BK601; clear BK602; clear HB; have HO_603000 := n0_; have HO_603001 := n1_; have HO613 := n2_; have HO617 := n3_; have BK601 := n4_; have BK602 := n5_; have HB := n6_; clear n0_ n1_ n2_ n3_ n4_ n5_ n6_; (try clear hb); (try clear hb2); (try clear hk); (try clear hi); (try clear ho0); have hcz48_0 : w47.cell? ⟨gb601, 0, none⟩ = some (.int .i64 a1_0) := (blk_cell BK601.out 0).trans rfl; have hcz48_1 : w47.cell? ⟨gb601, 1, none⟩ = some (.int .i64 a1_1) := (blk_cell BK601.out 1).trans rfl; have hfz48_0 := blk_frozen BK601.out 0; have hfz48_1 := blk_frozen BK601.out 1) | ((with_reducible refine gate_callee (f := 15) rfl ?_); refine goesL_ (some 72) rfl rfl Try.func15 (by kernel_rfl) rfl #[.slice A0 l0.length c0, .int .i64 a1_0, .int .i64 a1_1] rfl (by (try simp only [List.map_toArray, List.map_cons, List.map_nil]); first | done | rfl | (simp only [List.length_drop, List.length_take]; rfl)) ?_; (with_reducible refine (wire_Clash.calls kj3 _ _ l0 a1_0 a1_1 t618 t619 t620 _ ?side1 ?side2 A28.out).mono ?_); (case side1 => exact cU (Kd.C_below HR0.out HB.out)); (case side2 => exact HC0.out); rintro e w49 ⟨rfl, hb⟩; refine ⟨_, rfl, ?_⟩; have n0_ := A_ (Kd.V_below (vU HO_603000.out) hb); have n1_ := A_ (Kd.V_below (vU HO_603001.out) hb); have n2_ := A_ (Kd.R_below (rU HO613.out) hb); have n3_ := A_ (Kd.R_below (rU HO617.out) hb); have n4_ := A_ (bkB BK601 hb); have n5_ := A_ (bkB BK602 hb); have n6_ := A_ (below_step (bW2 HB.out GE601.out GE602.out) hb); clear HO_603000; clear HO_603001; clear HO613; clear HO617; clear BK601; clear BK602; clear HB; have HO_603000 := n0_; have HO_603001 := n1_; have HO613 := n2_; have HO617 := n3_; have BK601 := n4_; have BK602 := n5_; have HB := n6_; clear n0_ n1_ n2_ n3_ n4_ n5_ n6_; (try clear hb); (try clear hb2); (try clear hk); (try clear hi); have hcz50_0 : w49.cell? ⟨gb602, 0, none⟩ = some (.slice A2_0 l2_0.length c2_0) := (blk_cell BK602.out 0).trans rfl; have hcz50_1 : w49.cell? ⟨gb602, 1, none⟩ = some (.slice A2_1 l2_1.length c2_1) := (blk_cell BK602.out 1).trans rfl; have hcz50_2 : w49.cell? ⟨gb602, 2, none⟩ = some (.int .i64 a2_2) := (blk_cell BK602.out 2).trans rfl; have hcz50_3 : w49.cell? ⟨gb602, 3, none⟩ = some (.int .i64 a2_3) := (blk_cell BK602.out 3).trans rfl; have hfz50_0 := blk_frozen BK602.out 0; have hfz50_1 := blk_frozen BK602.out 1; have hfz50_2 := blk_frozen BK602.out 2; have hfz50_3 := blk_frozen BK602.out 3; have hcz51_0 : w49.cell? ⟨gb601, 0, none⟩ = some (.int .i64 a1_0) := (blk_cell BK601.out 0).trans rfl; have hcz51_1 : w49.cell? ⟨gb601, 1, none⟩ = some (.int .i64 a1_1) := (blk_cell BK601.out 1).trans rfl; have hfz51_0 := blk_frozen BK601.out 0; have hfz51_1 := blk_frozen BK601.out 1) | ((with_reducible refine gate_callee (f := 23) rfl ?_); refine goesL_ (some 93) rfl rfl Try.func23 (by kernel_rfl) rfl #[.slice A0 l0.length c0, .int .i64 a1_0, .int .i64 a1_1, .int .i64 (wrap64 (Int.tmod (IntKind.u64.wrap (a2_2)) (IntKind.u64.wrap ((l0.length : Int))))), .int .i64 a2_3] rfl (by (try simp only [List.map_toArray, List.map_cons, List.map_nil]); first | done | rfl | (simp only [List.length_drop, List.length_take]; rfl)) ?_; (with_reducible refine (wire_Through.calls kj3 _ _ l0 a1_0 a1_1 (wrap64 (Int.tmod (IntKind.u64.wrap (a2_2)) (IntKind.u64.wrap ((l0.length : Int))))) a2_3 t621 t622 _ ?side1 ?side2 A30.out).mono ?_); (case side1 => exact cU (Kd.C_below HR0.out HB.out)); (case side2 => exact HC0.out); rintro e w52 ⟨v623, rfl, ho0, hb⟩; refine ⟨_, rfl, ?_⟩; have n0_ := A_ (Kd.V_elder' (vU HO_603000.out) (Kd.R_base ho0) hb); have n1_ := A_ (Kd.V_elder' (vU HO_603001.out) (Kd.R_base ho0) hb); have n2_ := A_ (Kd.R_elder' (rU HO613.out) (Kd.R_base ho0) hb); have n3_ := A_ (Kd.R_elder' (rU HO617.out) (Kd.R_base ho0) hb); have n4_ := A_ (Kd.R_lower (Kd.R_new' (Kd.R_new' (Kd.R_newM (M := fun k_ => (w.heap.size ≤ k_)) ho0 (below_size (bW2 HB.out GE601.out GE602.out)) (fun k_ h_ => h_)) (Kd.R_lt (rU HO613.out))) (Kd.R_lt (rU HO617.out))) (below_size (bW2 HB.out GE601.out GE602.out))); have n5_ := A_ (bkB BK601 hb); have n6_ := A_ (bkB BK602 hb); have n7_ := A_ (below_step (bW2 HB.out GE601.out GE602.out) hb); clear HO_603000; clear HO_603001; clear HO613; clear HO617; clear BK601; clear BK602; clear HB; have HO_603000 := n0_; have HO_603001 := n1_; have HO613 := n2_; have HO617 := n3_; have HO624 := n4_; have BK601 := n5_; have BK602 := n6_; have HB := n7_; clear n0_ n1_ n2_ n3_ n4_ n5_ n6_ n7_; (try clear hb); (try clear hb2); (try clear hk); (try clear hi); (try clear ho0); have hcz53_0 : w52.cell? ⟨gb601, 0, none⟩ = some (.int .i64 a1_0) := (blk_cell BK601.out 0).trans rfl; have hcz53_1 : w52.cell? ⟨gb601, 1, none⟩ = some (.int .i64 a1_1) := (blk_cell BK601.out 1).trans rfl; have hfz53_0 := blk_frozen BK601.out 0; have hfz53_1 := blk_frozen BK601.out 1) | ((with_reducible refine gate_callee (f := 17) rfl ?_); refine goesL_ (some 106) rfl rfl Try.func17 (by kernel_rfl) rfl #[.slice A0 l0.length c0, .int .i64 a1_0, .int .i64 a1_1, .int .i64 t618, .int .i64 t619] rfl (by (try simp only [List.map_toArray, List.map_cons, List.map_nil]); first | done | rfl | (simp only [List.length_drop, List.length_take]; rfl)) ?_; (with_reducible refine (wire_Clashes.calls kj3 _ _ l0 a1_0 a1_1 t618 t619 true t626 _ ?side1 ?side2 A32.out).mono ?_); (case side1 => exact cU (Kd.C_below HR0.out HB.out)); (case side2 => exact HC0.out); rintro e w54 ⟨rfl, hb⟩; refine ⟨_, rfl, ?_⟩; have n0_ := A_ (Kd.V_below (vU HO_603000.out) hb); have n1_ := A_ (Kd.V_below (vU HO_603001.out) hb); have n2_ := A_ (Kd.R_below (rU HO613.out) hb); have n3_ := A_ (Kd.R_below (rU HO617.out) hb); have n4_ := A_ (Kd.R_below (rU HO624.out) hb); have n5_ := A_ (bkB BK601 hb); have n6_ := A_ (bkB BK602 hb); have n7_ := A_ (below_step (bW2 HB.out GE601.out GE602.out) hb); clear HO_603000; clear HO_603001; clear HO613; clear HO617; clear HO624; clear BK601; clear BK602; clear HB; have HO_603000 := n0_; have HO_603001 := n1_; have HO613 := n2_; have HO617 := n3_; have HO624 := n4_; have BK601 := n5_; have BK602 := n6_; have HB := n7_; clear n0_ n1_ n2_ n3_ n4_ n5_ n6_ n7_; (try clear hb); (try clear hb2); (try clear hk); (try clear hi); have hcz55_0 : w54.cell? ⟨gb601, 0, none⟩ = some (.int .i64 a1_0) := (blk_cell BK601.out 0).trans rfl; have hcz55_1 : w54.cell? ⟨gb601, 1, none⟩ = some (.int .i64 a1_1) := (blk_cell BK601.out 1).trans rfl; have hfz55_0 := blk_frozen BK601.out 0; have hfz55_1 := blk_frozen BK601.out 1; have hcz56_0 : w54.cell? ⟨gb602, 0, none⟩ = some (.slice A2_0 l2_0.length c2_0) := (blk_cell BK602.out 0).trans rfl; have hcz56_1 : w54.cell? ⟨gb602, 1, none⟩ = some (.slice A2_1 l2_1.length c2_1) := (blk_cell BK602.out 1).trans rfl; have hcz56_2 : w54.cell? ⟨gb602, 2, none⟩ = some (.int .i64 a2_2) := (blk_cell BK602.out 2).trans rfl; have hcz56_3 : w54.cell? ⟨gb602, 3, none⟩ = some (.int .i64 a2_3) := (blk_cell BK602.out 3).trans rfl; have hfz56_0 := blk_frozen BK602.out 0; have hfz56_1 := blk_frozen BK602.out 1; have hfz56_2 := blk_frozen BK602.out 2; have hfz56_3 := blk_frozen BK602.out 3) | (go_at_call 24; (with_reducible refine (droppertop_fits.calls kj3 _ _ l0 a1_0 a1_1 _ _ l2_0 false _ ?side1 ?side2 ?side3 ?side4 A38.out).mono ?_); (case side1 => exact cU (Kd.C_below HR0.out HB.out)); (case side2 => exact HC0.out); (case side3 => repeat (first | exact (Kd.V_reads' HO_603000.out).2.2 | (with_reducible refine Kd.C_alloc ?_ _) | (with_reducible refine Kd.C_drewN ?_ _) | (with_reducible refine Kd.C_drew ?_))); (case side4 => exact (Kd.V_reads' HO_603000.out).2.1); rintro e w57 ⟨rfl, hb⟩; have n0_ := A_ (Kd.V_below (vU HO_603000.out) hb); have n1_ := A_ (Kd.V_below (vU HO_603001.out) hb); have n2_ := A_ (Kd.R_below (rU HO613.out) hb); have n3_ := A_ (Kd.R_below (rU HO617.out) hb); have n4_ := A_ (Kd.R_below (rU HO624.out) hb); have n5_ := A_ (bkB BK601 hb); have n6_ := A_ (bkB BK602 hb); have n7_ := A_ (below_step (bW2 HB.out GE601.out GE602.out) hb); clear HO_603000; clear HO_603001; clear HO613; clear HO617; clear HO624; clear BK601; clear BK602; clear HB; have HO_603000 := n0_; have HO_603001 := n1_; have HO613 := n2_; have HO617 := n3_; have HO624 := n4_; have BK601 := n5_; have BK602 := n6_; have HB := n7_; clear n0_ n1_ n2_ n3_ n4_ n5_ n6_ n7_; (try clear hb); (try clear hb2); (try clear hk); (try clear hi); have hcz58_0 : w57.cell? ⟨gb601, 0, none⟩ = some (.int .i64 a1_0) := (blk_cell BK601.out 0).trans rfl; have hcz58_1 : w57.cell? ⟨gb601, 1, none⟩ = some (.int .i64 a1_1) := (blk_cell BK601.out 1).trans rfl; have hfz58_0 := blk_frozen BK601.out 0; have hfz58_1 := blk_frozen BK601.out 1; have hcz59_0 : w57.cell? ⟨gb602, 0, none⟩ = some (.slice A2_0 l2_0.length c2_0) := (blk_cell BK602.out 0).trans rfl; have hcz59_1 : w57.cell? ⟨gb602, 1, none⟩ = some (.slice A2_1 l2_1.length c2_1) := (blk_cell BK602.out 1).trans rfl; have hcz59_2 : w57.cell? ⟨gb602, 2, none⟩ = some (.int .i64 a2_2) := (blk_cell BK602.out 2).trans rfl; have hcz59_3 : w57.cell? ⟨gb602, 3, none⟩ = some (.int .i64 a2_3) := (blk_cell BK602.out 3).trans rfl; have hfz59_0 := blk_frozen BK602.out 0; have hfz59_1 := blk_frozen BK602.out 1; have hfz59_2 := blk_frozen BK602.out 2; have hfz59_3 := blk_frozen BK602.out 3) | (go_at_call 24; (with_reducible refine (droppertop_fits.calls kj3 _ _ l0 a1_0 a1_1 _ _ l2_1 false _ ?side1 ?side2 ?side3 ?side4 A40.out).mono ?_); (case side1 => exact cU (Kd.C_below HR0.out HB.out)); (case side2 => exact HC0.out); (case side3 => repeat (first | exact (Kd.V_reads' HO_603001.out).2.2 | (with_reducible refine Kd.C_alloc ?_ _) | (with_reducible refine Kd.C_drewN ?_ _) | (with_reducible refine Kd.C_drew ?_))); (case side4 => exact (Kd.V_reads' HO_603001.out).2.1); rintro e w60 ⟨rfl, hb⟩; have n0_ := A_ (Kd.V_below (vU HO_603000.out) hb); have n1_ := A_ (Kd.V_below (vU HO_603001.out) hb); have n2_ := A_ (Kd.R_below (rU HO613.out) hb); have n3_ := A_ (Kd.R_below (rU HO617.out) hb); have n4_ := A_ (Kd.R_below (rU HO624.out) hb); have n5_ := A_ (bkB BK601 hb); have n6_ := A_ (bkB BK602 hb); have n7_ := A_ (below_step (bW2 HB.out GE601.out GE602.out) hb); clear HO_603000; clear HO_603001; clear HO613; clear HO617; clear HO624; clear BK601; clear BK602; clear HB; have HO_603000 := n0_; have HO_603001 := n1_; have HO613 := n2_; have HO617 := n3_; have HO624 := n4_; have BK601 := n5_; have BK602 := n6_; have HB := n7_; clear n0_ n1_ n2_ n3_ n4_ n5_ n6_ n7_; (try clear hb); (try clear hb2); (try clear hk); (try clear hi)) | (go_at_call 14; (with_reducible refine (dropperlaw02_Awake.calls kj3  t629 _ A42.out).mono ?_); rintro e w61 ⟨rfl, hb⟩; have n0_ := A_ (Kd.V_below (vU HO_603000.out) hb); have n1_ := A_ (Kd.V_below (vU HO_603001.out) hb); have n2_ := A_ (Kd.R_below (rU HO613.out) hb); have n3_ := A_ (Kd.R_below (rU HO617.out) hb); have n4_ := A_ (Kd.R_below (rU HO624.out) hb); have n5_ := A_ (bkB BK601 hb); have n6_ := A_ (bkB BK602 hb); have n7_ := A_ (below_step (bW2 HB.out GE601.out GE602.out) hb); clear HO_603000; clear HO_603001; clear HO613; clear HO617; clear HO624; clear BK601; clear BK602; clear HB; have HO_603000 := n0_; have HO_603001 := n1_; have HO613 := n2_; have HO617 := n3_; have HO624 := n4_; have BK601 := n5_; have BK602 := n6_; have HB := n7_; clear n0_ n1_ n2_ n3_ n4_ n5_ n6_ n7_; (try clear hb); (try clear hb2); (try clear hk); (try clear hi)))
    go_ret
    exact ⟨by first | rfl | (simp [errW_none, errW_some] <;> rfl) | (simp [*, errW_none, errW_some] <;> rfl), by repeat (first | (with_reducible first | exact HB.out | apply below_alloc | apply pw_below_drewN | apply below_drew1 | refine below_set ?_ GE601.out | refine below_set ?_ GE602.out) | exact HB.out)⟩
   rw [if_neg c31] at H; have c31b0 : (t620 == 0) = false := beq_eq_false_iff_ne.mpr c31; have c31b1 : (t620 != 0) = true := bne_iff_ne.mpr c31; have HC62 := A_ H; clear H; have hnb63 := NB601_602.out; have hnc63 := NB602_601.out; have hcz64_0 : wc.cell? ⟨gb601, 0, none⟩ = some (.int .i64 a1_0) := (blk_cell BK601.out 0).trans rfl; have hcz64_1 : wc.cell? ⟨gb601, 1, none⟩ = some (.int .i64 a1_1) := (blk_cell BK601.out 1).trans rfl; have hfz64_0 := blk_frozen BK601.out 0; have hfz64_1 := blk_frozen BK601.out 1
   go_upto_region 11 with (first | ((with_reducible refine gate_callee (f := 21) rfl ?_); refine goesL_ (some 54) rfl rfl Try.func21 (by kernel_rfl) rfl #[.slice A0 l0.length c0, .int .i64 a1_0, .int .i64 a1_1] rfl (by (try simp only [List.map_toArray, List.map_cons, List.map_nil]); first | done | rfl | (simp only [List.length_drop, List.length_take]; rfl)) ?_; (with_reducible refine (wire_Lowest.calls kj3 _ _ l0 a1_0 a1_1 t610 t611 _ ?side1 ?side2 A26.out).mono ?_); (case side1 => exact cU (Kd.C_below HR0.out HB.out)); (case side2 => exact HC0.out); rintro e w65 ⟨v612, rfl, ho0, hb⟩; refine ⟨_, rfl, ?_⟩; have n0_ := A_ (Kd.V_elder' (vU HO_603000.out) (Kd.R_base ho0) hb); have n1_ := A_ (Kd.V_elder' (vU HO_603001.out) (Kd.R_base ho0) hb); have n2_ := A_ (Kd.R_lower (Kd.R_newM (M := fun k_ => (w.heap.size ≤ k_)) ho0 (below_size (bW2 HB.out GE601.out GE602.out)) (fun k_ h_ => h_)) (below_size (bW2 HB.out GE601.out GE602.out))); have n3_ := A_ (bkB BK601 hb); have n4_ := A_ (bkB BK602 hb); have n5_ := A_ (below_step (bW2 HB.out GE601.out GE602.out) hb); clear HO_603000; clear HO_603001; clear BK601; clear BK602; clear HB; have HO_603000 := n0_; have HO_603001 := n1_; have HO613 := n2_; have BK601 := n3_; have BK602 := n4_; have HB := n5_; clear n0_ n1_ n2_ n3_ n4_ n5_; (try clear hb); (try clear hb2); (try clear hk); (try clear hi); (try clear ho0); have hcz66_0 : w65.cell? ⟨gb601, 0, none⟩ = some (.int .i64 a1_0) := (blk_cell BK601.out 0).trans rfl; have hcz66_1 : w65.cell? ⟨gb601, 1, none⟩ = some (.int .i64 a1_1) := (blk_cell BK601.out 1).trans rfl; have hfz66_0 := blk_frozen BK601.out 0; have hfz66_1 := blk_frozen BK601.out 1) | ((with_reducible refine gate_callee (f := 22) rfl ?_); refine goesL_ (some 63) rfl rfl Try.func22 (by kernel_rfl) rfl #[.slice A0 l0.length c0, .int .i64 a1_0, .int .i64 a1_1] rfl (by (try simp only [List.map_toArray, List.map_cons, List.map_nil]); first | done | rfl | (simp only [List.length_drop, List.length_take]; rfl)) ?_; (with_reducible refine (wire_Highest.calls kj3 _ _ l0 a1_0 a1_1 t614 t615 _ ?side1 ?side2 A27.out).mono ?_); (case side1 => exact cU (Kd.C_below HR0.out HB.out)); (case side2 => exact HC0.out); rintro e w67 ⟨v616, rfl, ho0, hb⟩; refine ⟨_, rfl, ?_⟩; have n0_ := A_ (Kd.V_elder' (vU HO_603000.out) (Kd.R_base ho0) hb); have n1_ := A_ (Kd.V_elder' (vU HO_603001.out) (Kd.R_base ho0) hb); have n2_ := A_ (Kd.R_elder' (rU HO613.out) (Kd.R_base ho0) hb); have n3_ := A_ (Kd.R_lower (Kd.R_new' (Kd.R_newM (M := fun k_ => (w.heap.size ≤ k_)) ho0 (below_size (bW2 HB.out GE601.out GE602.out)) (fun k_ h_ => h_)) (Kd.R_lt (rU HO613.out))) (below_size (bW2 HB.out GE601.out GE602.out))); have n4_ := A_ (bkB BK601 hb); have n5_ := A_ (bkB BK602 hb); have n6_ := A_ (below_step (bW2 HB.out GE601.out GE602.out) hb); clear HO_603000; clear HO_603001; clear HO613; clear BK601; clear BK602; clear HB; have HO_603000 := n0_; have HO_603001 := n1_; have HO613 := n2_; have HO617 := n3_; have BK601 := n4_; have BK602 := n5_; have HB := n6_; clear n0_ n1_ n2_ n3_ n4_ n5_ n6_; (try clear hb); (try clear hb2); (try clear hk); (try clear hi); (try clear ho0); have hcz68_0 : w67.cell? ⟨gb601, 0, none⟩ = some (.int .i64 a1_0) := (blk_cell BK601.out 0).trans rfl; have hcz68_1 : w67.cell? ⟨gb601, 1, none⟩ = some (.int .i64 a1_1) := (blk_cell BK601.out 1).trans rfl; have hfz68_0 := blk_frozen BK601.out 0; have hfz68_1 := blk_frozen BK601.out 1) | ((with_reducible refine gate_callee (f := 15) rfl ?_); refine goesL_ (some 72) rfl rfl Try.func15 (by kernel_rfl) rfl #[.slice A0 l0.length c0, .int .i64 a1_0, .int .i64 a1_1] rfl (by (try simp only [List.map_toArray, List.map_cons, List.map_nil]); first | done | rfl | (simp only [List.length_drop, List.length_take]; rfl)) ?_; (with_reducible refine (wire_Clash.calls kj3 _ _ l0 a1_0 a1_1 t618 t619 t620 _ ?side1 ?side2 A28.out).mono ?_); (case side1 => exact cU (Kd.C_below HR0.out HB.out)); (case side2 => exact HC0.out); rintro e w69 ⟨rfl, hb⟩; refine ⟨_, rfl, ?_⟩; have n0_ := A_ (Kd.V_below (vU HO_603000.out) hb); have n1_ := A_ (Kd.V_below (vU HO_603001.out) hb); have n2_ := A_ (Kd.R_below (rU HO613.out) hb); have n3_ := A_ (Kd.R_below (rU HO617.out) hb); have n4_ := A_ (bkB BK601 hb); have n5_ := A_ (bkB BK602 hb); have n6_ := A_ (below_step (bW2 HB.out GE601.out GE602.out) hb); clear HO_603000; clear HO_603001; clear HO613; clear HO617; clear BK601; clear BK602; clear HB; have HO_603000 := n0_; have HO_603001 := n1_; have HO613 := n2_; have HO617 := n3_; have BK601 := n4_; have BK602 := n5_; have HB := n6_; clear n0_ n1_ n2_ n3_ n4_ n5_ n6_; (try clear hb); (try clear hb2); (try clear hk); (try clear hi); have hcz70_0 : w69.cell? ⟨gb602, 0, none⟩ = some (.slice A2_0 l2_0.length c2_0) := (blk_cell BK602.out 0).trans rfl; have hcz70_1 : w69.cell? ⟨gb602, 1, none⟩ = some (.slice A2_1 l2_1.length c2_1) := (blk_cell BK602.out 1).trans rfl; have hcz70_2 : w69.cell? ⟨gb602, 2, none⟩ = some (.int .i64 a2_2) := (blk_cell BK602.out 2).trans rfl; have hcz70_3 : w69.cell? ⟨gb602, 3, none⟩ = some (.int .i64 a2_3) := (blk_cell BK602.out 3).trans rfl; have hfz70_0 := blk_frozen BK602.out 0; have hfz70_1 := blk_frozen BK602.out 1; have hfz70_2 := blk_frozen BK602.out 2; have hfz70_3 := blk_frozen BK602.out 3; have hcz71_0 : w69.cell? ⟨gb601, 0, none⟩ = some (.int .i64 a1_0) := (blk_cell BK601.out 0).trans rfl; have hcz71_1 : w69.cell? ⟨gb601, 1, none⟩ = some (.int .i64 a1_1) := (blk_cell BK601.out 1).trans rfl; have hfz71_0 := blk_frozen BK601.out 0; have hfz71_1 := blk_frozen BK601.out 1) | ((with_reducible refine gate_callee (f := 23) rfl ?_); refine goesL_ (some 93) rfl rfl Try.func23 (by kernel_rfl) rfl #[.slice A0 l0.length c0, .int .i64 a1_0, .int .i64 a1_1, .int .i64 (wrap64 (Int.tmod (IntKind.u64.wrap (a2_2)) (IntKind.u64.wrap ((l0.length : Int))))), .int .i64 a2_3] rfl (by (try simp only [List.map_toArray, List.map_cons, List.map_nil]); first | done | rfl | (simp only [List.length_drop, List.length_take]; rfl)) ?_; (with_reducible refine (wire_Through.calls kj3 _ _ l0 a1_0 a1_1 (wrap64 (Int.tmod (IntKind.u64.wrap (a2_2)) (IntKind.u64.wrap ((l0.length : Int))))) a2_3 t621 t622 _ ?side1 ?side2 A30.out).mono ?_); (case side1 => exact cU (Kd.C_below HR0.out HB.out)); (case side2 => exact HC0.out); rintro e w72 ⟨v623, rfl, ho0, hb⟩; refine ⟨_, rfl, ?_⟩; have n0_ := A_ (Kd.V_elder' (vU HO_603000.out) (Kd.R_base ho0) hb); have n1_ := A_ (Kd.V_elder' (vU HO_603001.out) (Kd.R_base ho0) hb); have n2_ := A_ (Kd.R_elder' (rU HO613.out) (Kd.R_base ho0) hb); have n3_ := A_ (Kd.R_elder' (rU HO617.out) (Kd.R_base ho0) hb); have n4_ := A_ (Kd.R_lower (Kd.R_new' (Kd.R_new' (Kd.R_newM (M := fun k_ => (w.heap.size ≤ k_)) ho0 (below_size (bW2 HB.out GE601.out GE602.out)) (fun k_ h_ => h_)) (Kd.R_lt (rU HO613.out))) (Kd.R_lt (rU HO617.out))) (below_size (bW2 HB.out GE601.out GE602.out))); have n5_ := A_ (bkB BK601 hb); have n6_ := A_ (bkB BK602 hb); have n7_ := A_ (below_step (bW2 HB.out GE601.out GE602.out) hb); clear HO_603000; clear HO_603001; clear HO613; clear HO617; clear BK601; clear BK602; clear HB; have HO_603000 := n0_; have HO_603001 := n1_; have HO613 := n2_; have HO617 := n3_; have HO624 := n4_; have BK601 := n5_; have BK602 := n6_; have HB := n7_; clear n0_ n1_ n2_ n3_ n4_ n5_ n6_ n7_; (try clear hb); (try clear hb2); (try clear hk); (try clear hi); (try clear ho0)))
   (try simp only [Act.put, List.setIfInBounds_toArray, List.set_cons_zero, List.set_cons_succ])
   go_cut [175] (fun v175 wc => ∃ (kq : Nat) (x175_61 : Bool), v175 = .bool x175_61 ∧ Aside0 (droppertop_TopWire.j1 kq l0 t610 t614 (wrap64 (Int.tmod (IntKind.u64.wrap (a2_2)) (IntKind.u64.wrap ((l0.length : Int))))) t621 t622 x175_61 a1_0 a1_1 l2_0 l2_1 a2_2 a2_3 = some r) ∧ Aside0 (kq ≤ kj3) ∧ Aside0 (Kd.R (Kd.int .i64) 3 wc w.heap.size (fun k_ => (w.heap.size ≤ k_) ∧ some k_ ≠ (v616 : Value).ownBlock ∧ some k_ ≠ (v623 : Value).ownBlock) v612 t610) ∧ Aside0 (Kd.R (Kd.int .i64) 3 wc w.heap.size (fun k_ => (w.heap.size ≤ k_) ∧ some k_ ≠ (v612 : Value).ownBlock ∧ some k_ ≠ (v623 : Value).ownBlock) v616 t614) ∧ Aside0 (Kd.R (Kd.int .i64) 3 wc w.heap.size (fun k_ => (w.heap.size ≤ k_) ∧ some k_ ≠ (v612 : Value).ownBlock ∧ some k_ ≠ (v616 : Value).ownBlock) v623 t621) ∧ Aside0 (Kd.V (Kd.int .i64) 3 wc w.heap.size (fun k_ => ((P2_0_ k_ ∨ P2_1_ k_) ∨ w.heap.size ≤ k_) ∧ some k_ ≠ (v612 : Value).ownBlock ∧ some k_ ≠ (v616 : Value).ownBlock ∧ some k_ ≠ (v623 : Value).ownBlock ∧ k_ ≠ gb601 ∧ k_ ≠ gb602) (.slice A2_0 l2_0.length c2_0) l2_0) ∧ Aside0 (Kd.V (Kd.int .i64) 3 wc w.heap.size (fun k_ => ((P2_0_ k_ ∨ P2_1_ k_) ∨ w.heap.size ≤ k_) ∧ some k_ ≠ (v612 : Value).ownBlock ∧ some k_ ≠ (v616 : Value).ownBlock ∧ some k_ ≠ (v623 : Value).ownBlock ∧ k_ ≠ gb601 ∧ k_ ≠ gb602) (.slice A2_1 l2_1.length c2_1) l2_1) ∧ Aside0 (wc.heap[gb601]? = some (.cells #[.int .i64 a1_0, .int .i64 a1_1] 24 (0, 0))) ∧ Aside0 (wc.heap[gb602]? = some (.cells #[(.slice A2_0 l2_0.length c2_0), (.slice A2_1 l2_1.length c2_1), .int .i64 a2_2, .int .i64 a2_3] 36 (0, 0))) ∧ Aside0 (Below w.heap.size w wc))
   case first => as_aux_lemma =>
    have H := HC62.out; clear HC62; by_cases c73 : t620 = 5; rotate_left
    ·rw [if_neg c73] at H; have c73b0 : (t620 == 5) = false := beq_eq_false_iff_ne.mpr c73; have c73b1 : (t620 != 5) = true := bne_iff_ne.mpr c73
     (first | rw [c73b0] | (simp only [i64_w, i32_w]; rw [c73b0]) | skip)
     exact absurd (H.trans (congrArg some hT)) (droppertop_TopWire.j1_no _ _ _ _ _ _ _ _ _ _ _ _ _)
    rw [if_pos c73] at H; have c73b0 : (t620 == 5) = true := beq_iff_eq.mpr c73; have c73b1 : (t620 != 5) = false := bne_eq_false_iff_eq.mpr c73; clear c73
    (first | rw [c73b0] | (simp only [i64_w, i32_w]; rw [c73b0]) | skip)
    by_cases c74 : t611 = 0; rotate_left
    ·rw [if_neg c74] at H; have c74b0 : (t611 == 0) = false := beq_eq_false_iff_ne.mpr c74; have c74b1 : (t611 != 0) = true := bne_iff_ne.mpr c74; exact absurd (H.trans (congrArg some hT)) (droppertop_TopWire.j1_no _ _ _ _ _ _ _ _ _ _ _ _ _)
    rw [if_pos c74] at H; have c74b0 : (t611 == 0) = true := beq_iff_eq.mpr c74; have c74b1 : (t611 != 0) = false := bne_eq_false_iff_eq.mpr c74; clear c74; by_cases c75 : t615 = 0; rotate_left
    ·rw [if_neg c75] at H; have c75b0 : (t615 == 0) = false := beq_eq_false_iff_ne.mpr c75; have c75b1 : (t615 != 0) = true := bne_iff_ne.mpr c75; exact absurd (H.trans (congrArg some hT)) (droppertop_TopWire.j1_no _ _ _ _ _ _ _ _ _ _ _ _ _)
    rw [if_pos c75] at H; have c75b0 : (t615 == 0) = true := beq_iff_eq.mpr c75; have c75b1 : (t615 != 0) = false := bne_eq_false_iff_eq.mpr c75; clear c75; replace H := Option.bind_eq_some_iff.mp H; obtain ⟨t630, A760, H⟩ := H; (try dsimp only at H); have A76 := A_ A760; clear A760; by_cases c77 : t630 = true; rotate_left
    ·replace c77 := Bool.eq_false_iff.mpr c77; subst c77; rw [if_neg (show ¬ (false = true) by decide)] at H; exact absurd (H.trans (congrArg some hT)) (droppertop_TopWire.j1_no _ _ _ _ _ _ _ _ _ _ _ _ _)
    subst c77; rw [if_pos rfl] at H; replace H := Option.bind_eq_some_iff.mp H; obtain ⟨t631, A780, H⟩ := H; (try dsimp only at H); have A78 := A_ A780; clear A780; by_cases c79 : t631 = true; rotate_left
    ·replace c79 := Bool.eq_false_iff.mpr c79; subst c79; rw [if_neg (show ¬ (false = true) by decide)] at H; exact absurd (H.trans (congrArg some hT)) (droppertop_TopWire.j1_no _ _ _ _ _ _ _ _ _ _ _ _ _)
    subst c79; rw [if_pos rfl] at H; replace H := Option.bind_eq_some_iff.mp H; obtain ⟨t632, A800, H⟩ := H; (try dsimp only at H); have A80 := A_ A800; clear A800; have H' := A_ H; clear H; have hnb81 := NB601_602.out; have hnc81 := NB602_601.out; have hcz82_0 : w72.cell? ⟨gb601, 0, none⟩ = some (.int .i64 a1_0) := (blk_cell BK601.out 0).trans rfl; have hcz82_1 : w72.cell? ⟨gb601, 1, none⟩ = some (.int .i64 a1_1) := (blk_cell BK601.out 1).trans rfl; have hfz82_0 := blk_frozen BK601.out 0; have hfz82_1 := blk_frozen BK601.out 1; obtain ⟨Ao83, co83, eo83⟩ := Kd.R_slice HO613.out; subst eo83
    go_wp2_with (first | (go_at_call 24; (with_reducible refine (droppertop_fits.calls kj3 _ _ l0 a1_0 a1_1 _ _ t610 true _ ?side1 ?side2 ?side3 ?side4 A76.out).mono ?_); (case side1 => exact cU (Kd.C_below HR0.out HB.out)); (case side2 => exact HC0.out); (case side3 => exact cU (Kd.R_reads' HO613.out).2.2); (case side4 => exact (Kd.R_reads' HO613.out).2.1); rintro e w84 ⟨rfl, hb⟩; have n0_ := A_ (Kd.V_below (vU HO_603000.out) hb); have n1_ := A_ (Kd.V_below (vU HO_603001.out) hb); have n2_ := A_ (Kd.R_below (rU HO613.out) hb); have n3_ := A_ (Kd.R_below (rU HO617.out) hb); have n4_ := A_ (Kd.R_below (rU HO624.out) hb); have n5_ := A_ (bkB BK601 hb); have n6_ := A_ (bkB BK602 hb); have n7_ := A_ (below_step (bW2 HB.out GE601.out GE602.out) hb); clear HO_603000; clear HO_603001; clear HO613; clear HO617; clear HO624; clear BK601; clear BK602; clear HB; have HO_603000 := n0_; have HO_603001 := n1_; have HO613 := n2_; have HO617 := n3_; have HO624 := n4_; have BK601 := n5_; have BK602 := n6_; have HB := n7_; clear n0_ n1_ n2_ n3_ n4_ n5_ n6_ n7_; (try clear hb); (try clear hb2); (try clear hk); (try clear hi); have hcz85_0 : w84.cell? ⟨gb601, 0, none⟩ = some (.int .i64 a1_0) := (blk_cell BK601.out 0).trans rfl; have hcz85_1 : w84.cell? ⟨gb601, 1, none⟩ = some (.int .i64 a1_1) := (blk_cell BK601.out 1).trans rfl; have hfz85_0 := blk_frozen BK601.out 0; have hfz85_1 := blk_frozen BK601.out 1; obtain ⟨Ao86, co86, eo86⟩ := Kd.R_slice HO617.out; subst eo86) | (go_at_call 24; (with_reducible refine (droppertop_fits.calls kj3 _ _ l0 a1_0 a1_1 _ _ t614 true _ ?side1 ?side2 ?side3 ?side4 A78.out).mono ?_); (case side1 => exact cU (Kd.C_below HR0.out HB.out)); (case side2 => exact HC0.out); (case side3 => exact cU (Kd.R_reads' HO617.out).2.2); (case side4 => exact (Kd.R_reads' HO617.out).2.1); rintro e w87 ⟨rfl, hb⟩; have n0_ := A_ (Kd.V_below (vU HO_603000.out) hb); have n1_ := A_ (Kd.V_below (vU HO_603001.out) hb); have n2_ := A_ (Kd.R_below (rU HO613.out) hb); have n3_ := A_ (Kd.R_below (rU HO617.out) hb); have n4_ := A_ (Kd.R_below (rU HO624.out) hb); have n5_ := A_ (bkB BK601 hb); have n6_ := A_ (bkB BK602 hb); have n7_ := A_ (below_step (bW2 HB.out GE601.out GE602.out) hb); clear HO_603000; clear HO_603001; clear HO613; clear HO617; clear HO624; clear BK601; clear BK602; clear HB; have HO_603000 := n0_; have HO_603001 := n1_; have HO613 := n2_; have HO617 := n3_; have HO624 := n4_; have BK601 := n5_; have BK602 := n6_; have HB := n7_; clear n0_ n1_ n2_ n3_ n4_ n5_ n6_ n7_; (try clear hb); (try clear hb2); (try clear hk); (try clear hi)) | (go_at_call 25; (with_reducible refine (droppertop_lies.calls kj3 _ _ t610 _ _ t610 _ _ t614 t632 _ ?side1 ?side2 ?side3 ?side4 ?side5 ?side6 A80.out).mono ?_); (case side1 => exact cU (Kd.R_reads' HO613.out).2.2); (case side2 => exact (Kd.R_reads' HO613.out).2.1); (case side3 => exact cU (Kd.R_reads' HO613.out).2.2); (case side4 => exact (Kd.R_reads' HO613.out).2.1); (case side5 => exact cU (Kd.R_reads' HO617.out).2.2); (case side6 => exact (Kd.R_reads' HO617.out).2.1); rintro e w' ⟨rfl, ⟨nd, rfl⟩⟩))
    go_meet
    case rel => exact ⟨_, (!t632), (by first | rfl | (simp; done) | (simp [*]; done)), H', ⟨by have := HJ3.out; first | omega | exact Nat.le_refl _⟩, ⟨by (with_reducible repeat (first | apply Kd.R_alloc | apply Kd.R_drewN | apply Kd.R_drew)); exact Kd.R_mono HO613.out (fun _ hk => ⟨hk.1.1.1, ⟨hk.1.2, hk.2⟩⟩)⟩, ⟨by (with_reducible repeat (first | apply Kd.R_alloc | apply Kd.R_drewN | apply Kd.R_drew)); exact Kd.R_mono HO617.out (fun _ hk => ⟨hk.1.1.1, ⟨hk.1.2, hk.2⟩⟩)⟩, ⟨by (with_reducible repeat (first | apply Kd.R_alloc | apply Kd.R_drewN | apply Kd.R_drew)); exact Kd.R_mono HO624.out (fun _ hk => ⟨hk.1.1.1, ⟨hk.1.2, hk.2⟩⟩)⟩, ⟨by (with_reducible repeat (first | apply Kd.V_alloc | apply Kd.V_drewN | apply Kd.V_drew)); exact Kd.V_mono HO_603000.out (fun _ hk => ⟨hk.1.1.1.1, ⟨hk.1.1.2, ⟨hk.1.2, ⟨hk.2, ⟨hk.1.1.1.2.1, hk.1.1.1.2.2⟩⟩⟩⟩⟩)⟩, ⟨by (with_reducible repeat (first | apply Kd.V_alloc | apply Kd.V_drewN | apply Kd.V_drew)); exact Kd.V_mono HO_603001.out (fun _ hk => ⟨hk.1.1.1.1, ⟨hk.1.1.2, ⟨hk.1.2, ⟨hk.2, ⟨hk.1.1.1.2.1, hk.1.1.1.2.2⟩⟩⟩⟩⟩)⟩, ⟨bkU BK601⟩, ⟨bkU BK602⟩, ⟨by repeat (first | (with_reducible first | exact HB.out | apply below_alloc | apply pw_below_drewN | apply below_drew1 | refine below_set ?_ GE601.out | refine below_set ?_ GE602.out) | exact HB.out)⟩⟩
   case rest => as_aux_lemma =>
    clear HC62
    try clear c1
    try clear c2
    try clear p2
    try clear c3
    try clear c4
    try clear c6
    try clear p6
    try clear c7
    try clear c8
    try clear c10
    try clear c13
    try clear c14
    try clear c15
    try clear c17
    try clear c19
    try clear c20
    try clear c21
    try clear c22
    try clear c23
    try clear c29
    try clear c29b0
    try clear c29b1
    try clear c31
    try clear c31b0
    try clear c31b1
    try clear c33
    try clear c33b0
    try clear c33b1
    try clear c34
    try clear c35
    try clear c35b0
    try clear c35b1
    try clear c36
    try clear c36b0
    try clear c36b1
    try clear c37
    try clear c37b0
    try clear c37b1
    try clear c39
    try clear c41
    try clear c43
    try clear c63
    try clear p64
    try clear c73
    try clear c73b0
    try clear c73b1
    try clear c74
    try clear c74b0
    try clear c74b1
    try clear c75
    try clear c75b0
    try clear c75b1
    try clear c77
    try clear c79
    try clear c81
    try clear hcz14_0
    try clear hcz14_1
    try clear hcz15_0
    try clear hcz15_1
    try clear hcz15_2
    try clear hcz15_3
    try clear hcz21_0
    try clear hcz21_1
    try clear hcz44_0
    try clear hcz44_1
    try clear hcz46_0
    try clear hcz46_1
    try clear hcz48_0
    try clear hcz48_1
    try clear hcz50_0
    try clear hcz50_1
    try clear hcz50_2
    try clear hcz50_3
    try clear hcz51_0
    try clear hcz51_1
    try clear hcz53_0
    try clear hcz53_1
    try clear hcz55_0
    try clear hcz55_1
    try clear hcz56_0
    try clear hcz56_1
    try clear hcz56_2
    try clear hcz56_3
    try clear hcz58_0
    try clear hcz58_1
    try clear hcz59_0
    try clear hcz59_1
    try clear hcz59_2
    try clear hcz59_3
    try clear hcz64_0
    try clear hcz64_1
    try clear hcz66_0
    try clear hcz66_1
    try clear hcz68_0
    try clear hcz68_1
    try clear hcz70_0
    try clear hcz70_1
    try clear hcz70_2
    try clear hcz70_3
    try clear hcz71_0
    try clear hcz71_1
    try clear hcz82_0
    try clear hcz82_1
    try clear hcz85_0
    try clear hcz85_1
    try clear hfz14_0
    try clear hfz14_1
    try clear hfz15_0
    try clear hfz15_1
    try clear hfz15_2
    try clear hfz15_3
    try clear hfz21_0
    try clear hfz21_1
    try clear hfz44_0
    try clear hfz44_1
    try clear hfz46_0
    try clear hfz46_1
    try clear hfz48_0
    try clear hfz48_1
    try clear hfz50_0
    try clear hfz50_1
    try clear hfz50_2
    try clear hfz50_3
    try clear hfz51_0
    try clear hfz51_1
    try clear hfz53_0
    try clear hfz53_1
    try clear hfz55_0
    try clear hfz55_1
    try clear hfz56_0
    try clear hfz56_1
    try clear hfz56_2
    try clear hfz56_3
    try clear hfz58_0
    try clear hfz58_1
    try clear hfz59_0
    try clear hfz59_1
    try clear hfz59_2
    try clear hfz59_3
    try clear hfz64_0
    try clear hfz64_1
    try clear hfz66_0
    try clear hfz66_1
    try clear hfz68_0
    try clear hfz68_1
    try clear hfz70_0
    try clear hfz70_1
    try clear hfz70_2
    try clear hfz70_3
    try clear hfz71_0
    try clear hfz71_1
    try clear hfz82_0
    try clear hfz82_1
    try clear hfz85_0
    try clear hfz85_1
    try clear p2
    (try clear HO_7); (try clear HO_9); (try clear HO_15); (try clear HO_603000); (try clear HO_603001); (try clear BK601); (try clear BK602); (try clear HB); skip
    obtain ⟨kq, x175_61, rfl, HA, HJ61, HO_7, HO_9, HO_15, HO_603000, HO_603001, BK601, BK602, HB⟩ := hcut
    cases kq with
    | zero => exact absurd HA.out (by simp [droppertop_TopWire.j1])
    | succ kj61 =>
     have H := HA.out; clear HA; simp only [droppertop_TopWire.j1] at H; by_cases c88 : x175_61 = true
     ·subst c88; rw [if_pos rfl] at H
      exact absurd (hT.symm.trans (Option.some.inj H).symm) (by decide)
     replace c88 := Bool.eq_false_iff.mpr c88; subst c88; rw [if_neg (show ¬ (false = true) by decide)] at H; obtain ⟨y633, hy633⟩ : ∃ y_ : List (List Int), y_ = (([t610, t614] : List (List Int))) := ⟨_, rfl⟩
     replace H : (droppertop_TopWire.l0 kj61 l0 t610 t614 (wrap64 (Int.tmod (IntKind.u64.wrap (a2_2)) (IntKind.u64.wrap ((l0.length : Int))))) t621 t622 y633 (([l2_0, l2_1] : List (List Int))) 0 a1_0 a1_1 l2_0 l2_1 a2_2 a2_3) = some r := by first | (rw [hy633]; with_reducible exact H) | (have H2_ := (Option.bind_some _ _).symm.trans H; rw [hy633]; with_reducible exact H2_) | (have H2_ := (Option.bind_some _ _).symm.trans H; with_reducible exact H2_) | with_reducible exact H | (rw [hy633]; exact H) | exact H
     have Ny633 := A_ hy633; clear hy633; obtain ⟨y636, hy636⟩ : ∃ y_ : List (List Int), y_ = (([l2_0, l2_1] : List (List Int))) := ⟨_, rfl⟩
     replace H : (droppertop_TopWire.l0 kj61 l0 t610 t614 (wrap64 (Int.tmod (IntKind.u64.wrap (a2_2)) (IntKind.u64.wrap ((l0.length : Int))))) t621 t622 y633 y636 0 a1_0 a1_1 l2_0 l2_1 a2_2 a2_3) = some r := by first | (rw [hy636]; with_reducible exact H) | (have H2_ := (Option.bind_some _ _).symm.trans H; rw [hy636]; with_reducible exact H2_) | (have H2_ := (Option.bind_some _ _).symm.trans H; with_reducible exact H2_) | with_reducible exact H | (rw [hy636]; exact H) | exact H
     have Ny636 := A_ hy636; clear hy636; have H' := A_ H; clear H; obtain ⟨Ao89, co89, eo89⟩ := Kd.R_slice HO_7.out; subst eo89
     have n_ := A_ (Kd.V_mono (ok' := fun k_ => (((((P2_0_ k_ ∨ P2_1_ k_) ∨ w.heap.size ≤ k_) ∧ (some k_ ≠ (v616 : Value).ownBlock ∧ some k_ ≠ (v623 : Value).ownBlock)) ∧ k_ ≠ gb601) ∧ k_ ≠ gb602)) (Kd.R_V (base' := w.heap.size) (Kd.R_types (Kd.R_types HO_7.out BK601.out (by decide)) BK602.out (by decide))) (fun k_ hk => ⟨⟨⟨(.inr (hk.1.1.1)), ⟨hk.1.1.2.1, hk.1.1.2.2⟩⟩, hk.1.2⟩, hk.2⟩))
     clear HO_7; have HO_7 := n_; clear n_; obtain ⟨Ao90, co90, eo90⟩ := Kd.R_slice HO_9.out; subst eo90
     have n_ := A_ (Kd.V_mono (ok' := fun k_ => (((((P2_0_ k_ ∨ P2_1_ k_) ∨ w.heap.size ≤ k_) ∧ (some k_ ≠ (.slice Ao89 t610.length co89 : Value).ownBlock ∧ some k_ ≠ (v623 : Value).ownBlock)) ∧ k_ ≠ gb601) ∧ k_ ≠ gb602)) (Kd.R_V (base' := w.heap.size) (Kd.R_types (Kd.R_types HO_9.out BK601.out (by decide)) BK602.out (by decide))) (fun k_ hk => ⟨⟨⟨(.inr (hk.1.1.1)), ⟨hk.1.1.2.1, hk.1.1.2.2⟩⟩, hk.1.2⟩, hk.2⟩))
     clear HO_9; have HO_9 := n_; clear n_
     go_wp2_with (first | ((with_reducible refine gate_dst (N := 178) rfl ?_); (try (refine gate_guard (by rfl) ?_; dsimp only)); refine Kd.N_lit (Kd.slice 3 (Kd.int .i64)) _ 34 ?hg (N' := 178) ?hd (xs := ([t610, t614] : List (List Int))) (inner := [.slice Ao89 t610.length co89, .slice Ao90 t614.length co90]) (ok := (fun k_ => ((P2_0_ k_ ∨ P2_1_ k_) ∨ w.heap.size ≤ k_) ∧ some k_ ≠ (v623 : Value).ownBlock ∧ k_ ≠ gb601 ∧ k_ ≠ gb602)) (okp := (fun k_ => ((P2_0_ k_ ∨ P2_1_ k_) ∨ w.heap.size ≤ k_) ∧ some k_ ≠ (v623 : Value).ownBlock ∧ k_ ≠ gb601 ∧ k_ ≠ gb602)) ?hr ?hp (fun _ hk => hk) ((show ∀ k_, wc.heap.size ≤ k_ → (fun k_ => ((P2_0_ k_ ∨ P2_1_ k_) ∨ w.heap.size ≤ k_) ∧ some k_ ≠ (v623 : Value).ownBlock ∧ k_ ≠ gb601 ∧ k_ ≠ gb602) k_ from fun k_ hk => ⟨(.inr (Nat.le_trans (below_size (bW2 HB.out GE601.out GE602.out)) hk)), Kd.fresh' (Kd.R_lt (rU HO_15.out)) k_ hk, Kd.freshB (g := gb601) (o := .cells #[.int .i64 a1_0, .int .i64 a1_1] 24 (0, 0)) (bkU BK601) k_ hk, Kd.freshB (g := gb602) (o := .cells #[.slice A2_0 l2_0.length c2_0, .slice A2_1 l2_1.length c2_1, .int .i64 a2_2, .int .i64 a2_3] 36 (0, 0)) (bkU BK602) k_ hk⟩) _ (Nat.le_refl _)) (Below.refl _ _) (Nat.le_refl _) (by simp) ?_; (case hd => rfl); (case hg => rfl); (case hr => first | (go_simp; done) | (go_simp; rfl)); (case hp => exact (Reps.one (show Kd.FK (Kd.slice 3 (Kd.int .i64)) _ _ t610 [.slice Ao89 t610.length co89] from (Kd.FK_slice_mk (Kd.V_reads' HO_7.out).2.1 (Kd.V_F (Kd.V_mono (ok' := (fun k_ => ((P2_0_ k_ ∨ P2_1_ k_) ∨ w.heap.size ≤ k_) ∧ some k_ ≠ (v623 : Value).ownBlock ∧ k_ ≠ gb601 ∧ k_ ≠ gb602)) ((show Kd.V (Kd.int .i64) 3 _ _ (fun k_ => (((((P2_0_ k_ ∨ P2_1_ k_) ∨ w.heap.size ≤ k_) ∧ (some k_ ≠ (.slice Ao90 t614.length co90 : Value).ownBlock ∧ some k_ ≠ (v623 : Value).ownBlock)) ∧ k_ ≠ gb601) ∧ k_ ≠ gb602)) (.slice Ao89 t610.length co89) t610 from by (with_reducible repeat (first | apply Kd.V_alloc | apply Kd.V_drewN | apply Kd.V_drew)); exact HO_7.out)) (fun k_ hk => ⟨hk.1.1.1, ⟨hk.1.1.2.2, ⟨hk.1.2, hk.2⟩⟩⟩))))) (Reps.one (show Kd.FK (Kd.slice 3 (Kd.int .i64)) _ _ t614 [.slice Ao90 t614.length co90] from (Kd.FK_slice_mk (Kd.V_reads' HO_9.out).2.1 (Kd.V_F (Kd.V_mono (ok' := (fun k_ => ((P2_0_ k_ ∨ P2_1_ k_) ∨ w.heap.size ≤ k_) ∧ some k_ ≠ (v623 : Value).ownBlock ∧ k_ ≠ gb601 ∧ k_ ≠ gb602)) ((show Kd.V (Kd.int .i64) 3 _ _ (fun k_ => (((((P2_0_ k_ ∨ P2_1_ k_) ∨ w.heap.size ≤ k_) ∧ (some k_ ≠ (.slice Ao89 t610.length co89 : Value).ownBlock ∧ some k_ ≠ (v623 : Value).ownBlock)) ∧ k_ ≠ gb601) ∧ k_ ≠ gb602)) (.slice Ao90 t614.length co90) t614 from by (with_reducible repeat (first | apply Kd.V_alloc | apply Kd.V_drewN | apply Kd.V_drew)); exact HO_9.out)) (fun k_ hk => ⟨hk.1.1.1, ⟨hk.1.1.2.2, ⟨hk.1.2, hk.2⟩⟩⟩))))) (Reps.none _ _)))); intro v634 w91 ho92 hb hg_ hnew_; clear hg_ hnew_; (first | rw [← Ny633.out] at ho92 | (simp only [Int.reduceToNat] at ho92; rw [← Ny633.out] at ho92)); have n0_ := A_ (Kd.V_elder' (vU HO_7.out) (Kd.N_base ho92) hb); have n1_ := A_ (Kd.V_elder' (vU HO_9.out) (Kd.N_base ho92) hb); have n2_ := A_ (Kd.R_below (rU HO_15.out) hb); have n3_ := A_ (Kd.V_elder' (vU HO_603000.out) (Kd.N_base ho92) hb); have n4_ := A_ (Kd.V_elder' (vU HO_603001.out) (Kd.N_base ho92) hb); have n5_ := A_ (Kd.N_lower ho92 (below_size (bW2 HB.out GE601.out GE602.out))); have n6_ := A_ (bkB BK601 hb); have n7_ := A_ (bkB BK602 hb); have n8_ := A_ (below_step (bW2 HB.out GE601.out GE602.out) hb); clear HO_7; clear HO_9; clear HO_15; clear HO_603000; clear HO_603001; clear BK601; clear BK602; clear HB; have HO_7 := n0_; have HO_9 := n1_; have HO_15 := n2_; have HO_603000 := n3_; have HO_603001 := n4_; have HO635 := n5_; have BK601 := n6_; have BK602 := n7_; have HB := n8_; clear n0_ n1_ n2_ n3_ n4_ n5_ n6_ n7_ n8_; clear hb ho92; have hnb93 := NB602_601.out; have hnc93 := NB601_602.out; have hcz94_0 : w91.cell? ⟨gb602, 0, none⟩ = some (.slice A2_0 l2_0.length c2_0) := (blk_cell BK602.out 0).trans rfl; have hcz94_1 : w91.cell? ⟨gb602, 1, none⟩ = some (.slice A2_1 l2_1.length c2_1) := (blk_cell BK602.out 1).trans rfl; have hcz94_2 : w91.cell? ⟨gb602, 2, none⟩ = some (.int .i64 a2_2) := (blk_cell BK602.out 2).trans rfl; have hcz94_3 : w91.cell? ⟨gb602, 3, none⟩ = some (.int .i64 a2_3) := (blk_cell BK602.out 3).trans rfl; have hfz94_0 := blk_frozen BK602.out 0; have hfz94_1 := blk_frozen BK602.out 1; have hfz94_2 := blk_frozen BK602.out 2; have hfz94_3 := blk_frozen BK602.out 3) | ((with_reducible refine gate_dst (N := 183) rfl ?_); (try (refine gate_guard (by rfl) ?_; dsimp only)); refine Kd.N_lit (Kd.slice 3 (Kd.int .i64)) _ 34 ?hg (N' := 183) ?hd (xs := ([l2_0, l2_1] : List (List Int))) (inner := [.slice A2_0 l2_0.length c2_0, .slice A2_1 l2_1.length c2_1]) (ok := (fun k_ => ((P2_0_ k_ ∨ P2_1_ k_) ∨ w.heap.size ≤ k_) ∧ some k_ ≠ (v623 : Value).ownBlock ∧ some k_ ≠ (v634 : Value).ownBlock ∧ k_ ≠ gb601 ∧ k_ ≠ gb602)) (okp := (fun k_ => ((P2_0_ k_ ∨ P2_1_ k_) ∨ w.heap.size ≤ k_) ∧ some k_ ≠ (v623 : Value).ownBlock ∧ some k_ ≠ (v634 : Value).ownBlock ∧ k_ ≠ gb601 ∧ k_ ≠ gb602)) ?hr ?hp (fun _ hk => hk) ((show ∀ k_, w91.heap.size ≤ k_ → (fun k_ => ((P2_0_ k_ ∨ P2_1_ k_) ∨ w.heap.size ≤ k_) ∧ some k_ ≠ (v623 : Value).ownBlock ∧ some k_ ≠ (v634 : Value).ownBlock ∧ k_ ≠ gb601 ∧ k_ ≠ gb602) k_ from fun k_ hk => ⟨(.inr (Nat.le_trans (below_size (bW2 HB.out GE601.out GE602.out)) hk)), Kd.fresh' (Kd.R_lt (rU HO_15.out)) k_ hk, Kd.fresh' (Kd.N_lt (nU HO635.out)) k_ hk, Kd.freshB (g := gb601) (o := .cells #[.int .i64 a1_0, .int .i64 a1_1] 24 (0, 0)) (bkU BK601) k_ hk, Kd.freshB (g := gb602) (o := .cells #[.slice A2_0 l2_0.length c2_0, .slice A2_1 l2_1.length c2_1, .int .i64 a2_2, .int .i64 a2_3] 36 (0, 0)) (bkU BK602) k_ hk⟩) _ (Nat.le_refl _)) (Below.refl _ _) (Nat.le_refl _) (by simp) ?_; (case hd => rfl); (case hg => rfl); (case hr => first | (go_simp; done) | (go_simp; rfl)); (case hp => exact (Reps.one (show Kd.FK (Kd.slice 3 (Kd.int .i64)) _ _ l2_0 [.slice A2_0 l2_0.length c2_0] from (Kd.FK_slice_mk (Kd.V_reads' HO_603000.out).2.1 (Kd.V_F (Kd.V_mono (ok' := (fun k_ => ((P2_0_ k_ ∨ P2_1_ k_) ∨ w.heap.size ≤ k_) ∧ some k_ ≠ (v623 : Value).ownBlock ∧ some k_ ≠ (v634 : Value).ownBlock ∧ k_ ≠ gb601 ∧ k_ ≠ gb602)) ((show Kd.V (Kd.int .i64) 3 _ _ (fun k_ => ((((P2_0_ k_ ∨ P2_1_ k_) ∨ w.heap.size ≤ k_) ∧ (some k_ ≠ (.slice Ao89 t610.length co89 : Value).ownBlock ∧ (some k_ ≠ (.slice Ao90 t614.length co90 : Value).ownBlock ∧ (some k_ ≠ (v623 : Value).ownBlock ∧ (k_ ≠ gb601 ∧ k_ ≠ gb602))))) ∧ some k_ ≠ (v634 : Value).ownBlock)) (.slice A2_0 l2_0.length c2_0) l2_0 from by (with_reducible repeat (first | apply Kd.V_alloc | apply Kd.V_drewN | apply Kd.V_drew)); exact HO_603000.out)) (fun k_ hk => ⟨hk.1.1, ⟨hk.1.2.2.2.1, ⟨hk.2, ⟨hk.1.2.2.2.2.1, hk.1.2.2.2.2.2⟩⟩⟩⟩))))) (Reps.one (show Kd.FK (Kd.slice 3 (Kd.int .i64)) _ _ l2_1 [.slice A2_1 l2_1.length c2_1] from (Kd.FK_slice_mk (Kd.V_reads' HO_603001.out).2.1 (Kd.V_F (Kd.V_mono (ok' := (fun k_ => ((P2_0_ k_ ∨ P2_1_ k_) ∨ w.heap.size ≤ k_) ∧ some k_ ≠ (v623 : Value).ownBlock ∧ some k_ ≠ (v634 : Value).ownBlock ∧ k_ ≠ gb601 ∧ k_ ≠ gb602)) ((show Kd.V (Kd.int .i64) 3 _ _ (fun k_ => ((((P2_0_ k_ ∨ P2_1_ k_) ∨ w.heap.size ≤ k_) ∧ (some k_ ≠ (.slice Ao89 t610.length co89 : Value).ownBlock ∧ (some k_ ≠ (.slice Ao90 t614.length co90 : Value).ownBlock ∧ (some k_ ≠ (v623 : Value).ownBlock ∧ (k_ ≠ gb601 ∧ k_ ≠ gb602))))) ∧ some k_ ≠ (v634 : Value).ownBlock)) (.slice A2_1 l2_1.length c2_1) l2_1 from by (with_reducible repeat (first | apply Kd.V_alloc | apply Kd.V_drewN | apply Kd.V_drew)); exact HO_603001.out)) (fun k_ hk => ⟨hk.1.1, ⟨hk.1.2.2.2.1, ⟨hk.2, ⟨hk.1.2.2.2.2.1, hk.1.2.2.2.2.2⟩⟩⟩⟩))))) (Reps.none _ _)))); intro v637 w95 ho96 hb hg_ hnew_; clear hg_ hnew_; (first | rw [← Ny636.out] at ho96 | (simp only [Int.reduceToNat] at ho96; rw [← Ny636.out] at ho96)); have n0_ := A_ (Kd.V_elder' (vU HO_7.out) (Kd.N_base ho96) hb); have n1_ := A_ (Kd.V_elder' (vU HO_9.out) (Kd.N_base ho96) hb); have n2_ := A_ (Kd.R_below (rU HO_15.out) hb); have n3_ := A_ (Kd.V_elder' (vU HO_603000.out) (Kd.N_base ho96) hb); have n4_ := A_ (Kd.V_elder' (vU HO_603001.out) (Kd.N_base ho96) hb); have n5_ := A_ (Kd.N_elder' (nU HO635.out) (Kd.N_base ho96) hb); have n6_ := A_ (Kd.N_lower ho96 (below_size (bW2 HB.out GE601.out GE602.out))); have n7_ := A_ (bkB BK601 hb); have n8_ := A_ (bkB BK602 hb); have n9_ := A_ (below_step (bW2 HB.out GE601.out GE602.out) hb); clear HO_7; clear HO_9; clear HO_15; clear HO_603000; clear HO_603001; clear HO635; clear BK601; clear BK602; clear HB; have HO_7 := n0_; have HO_9 := n1_; have HO_15 := n2_; have HO_603000 := n3_; have HO_603001 := n4_; have HO635 := n5_; have HO638 := n6_; have BK601 := n7_; have BK602 := n8_; have HB := n9_; clear n0_ n1_ n2_ n3_ n4_ n5_ n6_ n7_ n8_ n9_; clear hb ho96))
     go_loopg [19, 21] kj61 (fun kq v19 v21 w' => ∃ (x19_3 : List (List Int)) (x21_3 : Int), v21 = .int .i64 x21_3 ∧ Aside0 (droppertop_TopWire.l0 kq l0 t610 t614 (wrap64 (Int.tmod (IntKind.u64.wrap (a2_2)) (IntKind.u64.wrap ((l0.length : Int))))) t621 t622 x19_3 y636 x21_3 a1_0 a1_1 l2_0 l2_1 a2_2 a2_3 = some r) ∧ Aside0 (kq ≤ kj61) ∧ Aside0 (Kd.V (Kd.int .i64) 3 w' w.heap.size (fun k_ => ((P2_0_ k_ ∨ P2_1_ k_) ∨ w.heap.size ≤ k_) ∧ some k_ ≠ (v623 : Value).ownBlock ∧ some k_ ≠ (v19 : Value).ownBlock ∧ some k_ ≠ (v637 : Value).ownBlock ∧ k_ ≠ gb601 ∧ k_ ≠ gb602) (.slice Ao89 t610.length co89) t610) ∧ Aside0 (Kd.V (Kd.int .i64) 3 w' w.heap.size (fun k_ => ((P2_0_ k_ ∨ P2_1_ k_) ∨ w.heap.size ≤ k_) ∧ some k_ ≠ (v623 : Value).ownBlock ∧ some k_ ≠ (v19 : Value).ownBlock ∧ some k_ ≠ (v637 : Value).ownBlock ∧ k_ ≠ gb601 ∧ k_ ≠ gb602) (.slice Ao90 t614.length co90) t614) ∧ Aside0 (Kd.R (Kd.int .i64) 3 w' w.heap.size (fun k_ => (w.heap.size ≤ k_)) v623 t621) ∧ Aside0 (Kd.N (Kd.slice 3 (Kd.int .i64)) 34 w' w.heap.size (fun k_ => ((P2_0_ k_ ∨ P2_1_ k_) ∨ w.heap.size ≤ k_) ∧ some k_ ≠ (v623 : Value).ownBlock ∧ some k_ ≠ (v637 : Value).ownBlock ∧ k_ ≠ gb601 ∧ k_ ≠ gb602) v19 x19_3) ∧ Aside0 (Kd.N (Kd.slice 3 (Kd.int .i64)) 34 w' w.heap.size (fun k_ => ((P2_0_ k_ ∨ P2_1_ k_) ∨ w.heap.size ≤ k_) ∧ some k_ ≠ (v623 : Value).ownBlock ∧ some k_ ≠ (v19 : Value).ownBlock ∧ k_ ≠ gb601 ∧ k_ ≠ gb602) v637 y636) ∧ Aside0 (Kd.V (Kd.int .i64) 3 w' w.heap.size (fun k_ => ((P2_0_ k_ ∨ P2_1_ k_) ∨ w.heap.size ≤ k_) ∧ some k_ ≠ (v623 : Value).ownBlock ∧ some k_ ≠ (v19 : Value).ownBlock ∧ some k_ ≠ (v637 : Value).ownBlock ∧ k_ ≠ gb601 ∧ k_ ≠ gb602) (.slice A2_0 l2_0.length c2_0) l2_0) ∧ Aside0 (Kd.V (Kd.int .i64) 3 w' w.heap.size (fun k_ => ((P2_0_ k_ ∨ P2_1_ k_) ∨ w.heap.size ≤ k_) ∧ some k_ ≠ (v623 : Value).ownBlock ∧ some k_ ≠ (v19 : Value).ownBlock ∧ some k_ ≠ (v637 : Value).ownBlock ∧ k_ ≠ gb601 ∧ k_ ≠ gb602) (.slice A2_1 l2_1.length c2_1) l2_1) ∧ Aside0 (w'.heap[gb601]? = some (.cells #[.int .i64 a1_0, .int .i64 a1_1] 24 (0, 0))) ∧ Aside0 (w'.heap[gb602]? = some (.cells #[(.slice A2_0 l2_0.length c2_0), (.slice A2_1 l2_1.length c2_1), .int .i64 a2_2, .int .i64 a2_3] 36 (0, 0))) ∧ Aside0 (Below w.heap.size w w'))
     case atStart => exact ⟨(y633), (0), (by first | rfl | (simp; done) | (simp [*]; done)), H', ⟨Nat.le_refl _⟩, ⟨by (with_reducible repeat (first | apply Kd.V_alloc | apply Kd.V_drewN | apply Kd.V_drew)); exact Kd.V_mono HO_7.out (fun _ hk => ⟨hk.1.1.1.1.1, ⟨hk.1.1.1.1.2.2, ⟨hk.1.2, ⟨hk.2, ⟨hk.1.1.1.2, hk.1.1.2⟩⟩⟩⟩⟩)⟩, ⟨by (with_reducible repeat (first | apply Kd.V_alloc | apply Kd.V_drewN | apply Kd.V_drew)); exact Kd.V_mono HO_9.out (fun _ hk => ⟨hk.1.1.1.1.1, ⟨hk.1.1.1.1.2.2, ⟨hk.1.2, ⟨hk.2, ⟨hk.1.1.1.2, hk.1.1.2⟩⟩⟩⟩⟩)⟩, ⟨by (with_reducible repeat (first | apply Kd.R_alloc | apply Kd.R_drewN | apply Kd.R_drew)); exact Kd.R_mono HO_15.out (fun _ hk => hk.1)⟩, ⟨by (with_reducible repeat (first | apply Kd.N_alloc | apply Kd.N_drewN | apply Kd.N_drew)); exact Kd.N_mono HO635.out (fun _ hk => ⟨hk.1.1, ⟨hk.1.2.1, ⟨hk.2, ⟨hk.1.2.2.1, hk.1.2.2.2⟩⟩⟩⟩)⟩, ⟨nU HO638.out⟩, ⟨by (with_reducible repeat (first | apply Kd.V_alloc | apply Kd.V_drewN | apply Kd.V_drew)); exact Kd.V_mono HO_603000.out (fun _ hk => ⟨hk.1.1.1, ⟨hk.1.1.2.2.2.1, ⟨hk.1.2, ⟨hk.2, ⟨hk.1.1.2.2.2.2.1, hk.1.1.2.2.2.2.2⟩⟩⟩⟩⟩)⟩, ⟨by (with_reducible repeat (first | apply Kd.V_alloc | apply Kd.V_drewN | apply Kd.V_drew)); exact Kd.V_mono HO_603001.out (fun _ hk => ⟨hk.1.1.1, ⟨hk.1.1.2.2.2.1, ⟨hk.1.2, ⟨hk.2, ⟨hk.1.1.2.2.2.2.1, hk.1.1.2.2.2.2.2⟩⟩⟩⟩⟩)⟩, ⟨bkU BK601⟩, ⟨bkU BK602⟩, ⟨by repeat (first | (with_reducible first | exact HB.out | apply below_alloc | apply pw_below_drewN | apply below_drew1 | refine below_set ?_ GE601.out | refine below_set ?_ GE602.out) | exact HB.out)⟩⟩
     case round =>
      clear H'
      try clear c1
      try clear c2
      try clear p2
      try clear c3
      try clear c4
      try clear c6
      try clear p6
      try clear c7
      try clear c8
      try clear c9
      try clear c10
      try clear c13
      try clear c14
      try clear c15
      try clear c17
      try clear c19
      try clear c20
      try clear c21
      try clear c22
      try clear c23
      try clear c29
      try clear c29b0
      try clear c29b1
      try clear c31
      try clear c31b0
      try clear c31b1
      try clear c33
      try clear c33b0
      try clear c33b1
      try clear c34
      try clear c35
      try clear c35b0
      try clear c35b1
      try clear c36
      try clear c36b0
      try clear c36b1
      try clear c37
      try clear c37b0
      try clear c37b1
      try clear c39
      try clear c41
      try clear c43
      try clear c63
      try clear p64
      try clear c73
      try clear c73b0
      try clear c73b1
      try clear c74
      try clear c74b0
      try clear c74b1
      try clear c75
      try clear c75b0
      try clear c75b1
      try clear c77
      try clear c79
      try clear c81
      try clear c88
      try clear c93
      try clear hcz14_0
      try clear hcz14_1
      try clear hcz15_0
      try clear hcz15_1
      try clear hcz15_2
      try clear hcz15_3
      try clear hcz21_0
      try clear hcz21_1
      try clear hcz44_0
      try clear hcz44_1
      try clear hcz46_0
      try clear hcz46_1
      try clear hcz48_0
      try clear hcz48_1
      try clear hcz50_0
      try clear hcz50_1
      try clear hcz50_2
      try clear hcz50_3
      try clear hcz51_0
      try clear hcz51_1
      try clear hcz53_0
      try clear hcz53_1
      try clear hcz55_0
      try clear hcz55_1
      try clear hcz56_0
      try clear hcz56_1
      try clear hcz56_2
      try clear hcz56_3
      try clear hcz58_0
      try clear hcz58_1
      try clear hcz59_0
      try clear hcz59_1
      try clear hcz59_2
      try clear hcz59_3
      try clear hcz64_0
      try clear hcz64_1
      try clear hcz66_0
      try clear hcz66_1
      try clear hcz68_0
      try clear hcz68_1
      try clear hcz70_0
      try clear hcz70_1
      try clear hcz70_2
      try clear hcz70_3
      try clear hcz71_0
      try clear hcz71_1
      try clear hcz82_0
      try clear hcz82_1
      try clear hcz85_0
      try clear hcz85_1
      try clear hcz94_0
      try clear hcz94_1
      try clear hcz94_2
      try clear hcz94_3
      try clear hfz14_0
      try clear hfz14_1
      try clear hfz15_0
      try clear hfz15_1
      try clear hfz15_2
      try clear hfz15_3
      try clear hfz21_0
      try clear hfz21_1
      try clear hfz44_0
      try clear hfz44_1
      try clear hfz46_0
      try clear hfz46_1
      try clear hfz48_0
      try clear hfz48_1
      try clear hfz50_0
      try clear hfz50_1
      try clear hfz50_2
      try clear hfz50_3
      try clear hfz51_0
      try clear hfz51_1
      try clear hfz53_0
      try clear hfz53_1
      try clear hfz55_0
      try clear hfz55_1
      try clear hfz56_0
      try clear hfz56_1
      try clear hfz56_2
      try clear hfz56_3
      try clear hfz58_0
      try clear hfz58_1
      try clear hfz59_0
      try clear hfz59_1
      try clear hfz59_2
      try clear hfz59_3
      try clear hfz64_0
      try clear hfz64_1
      try clear hfz66_0
      try clear hfz66_1
      try clear hfz68_0
      try clear hfz68_1
      try clear hfz70_0
      try clear hfz70_1
      try clear hfz70_2
      try clear hfz70_3
      try clear hfz71_0
      try clear hfz71_1
      try clear hfz82_0
      try clear hfz82_1
      try clear hfz85_0
      try clear hfz85_1
      try clear hfz94_0
      try clear hfz94_1
      try clear hfz94_2
      try clear hfz94_3
      try clear p2
      try clear p6
      try clear p64
      (try clear HO_7); (try clear HO_9); (try clear HO_15); (try clear HO_19); (try clear HO_20); (try clear HO_603000); (try clear HO_603001); (try clear BK601); (try clear BK602); (try clear HB); skip
      obtain ⟨x19_3, x21_3, rfl, HA, HK3, HO_7, HO_9, HO_15, HO_19, HO_20, HO_603000, HO_603001, BK601, BK602, HB⟩ := hrel
      cases gk with
      | zero => exact absurd HA.out (by simp [droppertop_TopWire.l0])
      | succ k3 =>
       have H := HA.out; clear HA; simp only [droppertop_TopWire.l0] at H; by_cases c97 : x21_3 < (y636.length : Int)
       ·rw [if_pos c97] at H; have c97b0 : decide (x21_3 < (y636.length : Int)) = true := decide_eq_true c97; clear c97; by_cases c98 : 0 ≤ x21_3; rotate_left
        ·rw [if_neg c98] at H
         exact absurd H (by simp)
        rw [if_pos c98] at H; have c98b0 : decide (0 ≤ x21_3) = true := decide_eq_true c98; clear c98; replace H := Option.bind_eq_some_iff.mp H; obtain ⟨t640, A990, H⟩ := H; (try dsimp only at H); have A99 := A_ A990; clear A990; by_cases c100 : t640 = true; rotate_left
        ·replace c100 := Bool.eq_false_iff.mpr c100; subst c100; rw [if_neg (show ¬ (false = true) by decide)] at H; have H' := A_ H; clear H; obtain ⟨Ao106, co106, eo106⟩ := Kd.N_slice HO_20.out; subst eo106
         try go_wp2
         have n0_ := A_ (Kd.V_drew HO_7.out); have n1_ := A_ (Kd.V_drew HO_9.out); have n2_ := A_ (Kd.R_drew HO_15.out); have n3_ := A_ (Kd.N_drew HO_19.out); have n4_ := A_ (Kd.N_drew HO_20.out); have n5_ := A_ (Kd.V_drew HO_603000.out); have n6_ := A_ (Kd.V_drew HO_603001.out); have n7_ := A_ (blk_drew BK601.out); have n8_ := A_ (blk_drew BK602.out); have n9_ := A_ (below_drew1 HB.out); clear HO_7 HO_9 HO_15 HO_19 HO_20 HO_603000 HO_603001 BK601 BK602 HB; have HO_7 := n0_; have HO_9 := n1_; have HO_15 := n2_; have HO_19 := n3_; have HO_20 := n4_; have HO_603000 := n5_; have HO_603001 := n6_; have BK601 := n7_; have BK602 := n8_; have HB := n9_; clear n0_ n1_ n2_ n3_ n4_ n5_ n6_ n7_ n8_ n9_
         have p639 : 0 ≤ (x21_3 : Int) := of_decide_eq_true (by first | (with_reducible assumption) | assumption)
         have q639 : x21_3 < (y636.length : Int) := of_decide_eq_true (by first | (with_reducible assumption) | assumption)
         obtain ⟨ad639, A639_0, c639_0, e639, hx639_0, hl639_0, hi639_0⟩ := at_L1 (Kd.N_reads' HO_20.out).2.2 x21_3 p639 q639
         cases e639
         obtain ⟨ce639, hce639, hMe639, hcc639⟩ := Kd.N_get HO_20.out [] x21_3 p639 (by first | exact q639 | exact of_decide_eq_true (by first | (with_reducible assumption) | assumption) | (have e_ := (Kd.N_reads' HO_20.out).1; omega))
         obtain ⟨ua639_0, uc639_0, rfl, ul639_0, ge639_0⟩ := Kd.FK_slice_open hMe639; have hv639_0 := hcc639 0 _ rfl; rw [Nat.add_zero, show ((Kd.slice 3 (Kd.int .i64))).sz = 1 from rfl, Nat.mul_one] at hv639_0; replace hv639_0 := Option.some.inj (hv639_0.symm.trans hx639_0)
         injection hv639_0 with hva_ hvn_ hvc_
         rw [hva_] at ge639_0; rw [hvc_] at ul639_0
         have HL639_0 := A_ (show Kd.V (Kd.int .i64) 3 _ w.heap.size _ _ (rd_L1 y636 x21_3) from Kd.V_mk ul639_0 ge639_0)
         clear hva_ hvn_ hvc_ ge639_0 ul639_0; clear hcc639 hce639; have HR639_0 := A_ hi639_0; have HC639_0 := A_ hl639_0; clear hi639_0 hl639_0; replace p639 := eq_true p639; replace q639 := eq_true q639
         refine start_ (n := 7) (S := fun w' => w'.cell? ⟨gb601, 0, none⟩ = some (.int .i64 a1_0) ∧ w'.cell? ⟨gb601, 1, none⟩ = some (.int .i64 a1_1) ∧ w'.cell? (ad639.add (x21_3).toNat) = some (.slice A639_0 (rd_L1 y636 x21_3).length c639_0)) (ds := []) (mkB 7 0) (by kernel_rfl) rfl rfl ⟨(blk_cell BK601.out 0).trans rfl, (blk_cell BK601.out 1).trans rfl, hx639_0⟩ (fun hHeld => ?_)
         generalize wr.drew = w107 at HO_7 HO_9 HO_15 HO_19 HO_20 HO_603000 HO_603001 BK601 BK602 HB HL639_0 HR639_0 hx639_0 hHeld ⊢
         refine pure_ (i := 0) (N := some 190) (v := ?_) (a' := ?_) (mkB 7 1) rfl rfl (by kernel_rfl) (fun _ _ _ h => h) (Or.inl ⟨by rfl, ?_⟩) ?_ ?_
         rotate_left
         ·intro w'
          go_simp
          with_reducible rfl
         rotate_left
         ·simp only [Act.put, List.setIfInBounds_toArray, List.set_cons_zero, List.set_cons_succ, i64_w, i32_w]
          rfl
         refine pure_ (i := 2) (N := some 192) (v := ?_) (a' := ?_) (mkB 7 5) rfl rfl (by kernel_rfl) (fun _ _ _ h => h) (Or.inl ⟨by rfl, ?_⟩) ?_ ?_
         rotate_left
         ·intro w'
          go_simp
          with_reducible rfl
         rotate_left
         ·simp only [Act.put, List.setIfInBounds_toArray, List.set_cons_zero, List.set_cons_succ, i64_w, i32_w]
          rfl
         refine pure_ (i := 3) (N := some 193) (v := ?_) (a' := ?_) (mkB 7 13) rfl rfl (by kernel_rfl) (fun _ _ _ h => h) (Or.inl ⟨by rfl, ?_⟩) ?_ ?_
         rotate_left
         ·intro w'
          go_simp
          with_reducible rfl
         rotate_left
         ·simp only [Act.put, List.setIfInBounds_toArray, List.set_cons_zero, List.set_cons_succ, i64_w, i32_w]
          rfl
         refine pure_ (i := 4) (N := some 194) (v := ?_) (a' := ?_) (mkB 7 29) rfl rfl (by kernel_rfl) (fun _ _ _ h => h) (Or.inl ⟨by rfl, ?_⟩) ?_ ?_
         rotate_left
         ·intro w'
          go_simp
          with_reducible rfl
         rotate_left
         ·simp only [Act.put, List.setIfInBounds_toArray, List.set_cons_zero, List.set_cons_succ, i64_w, i32_w]
          rfl
         refine take_ (i := 1) (N := some 191) (v := ?_) (a' := ?_) (mkB 7 31) rfl rfl (by kernel_rfl) (fun _ _ _ h => h) (Or.inl ⟨by rfl, ?_⟩) hHeld ?_ ?_
         rotate_left
         ·rintro w' ⟨s0, s1, s2⟩
          go_simp
          with_reducible rfl
         rotate_left
         ·simp only [Act.put, List.setIfInBounds_toArray, List.set_cons_zero, List.set_cons_succ, i64_w, i32_w]
          rfl
         refine take_ (i := 5) (N := some 195) (v := ?_) (a' := ?_) (mkB 7 63) rfl rfl (by kernel_rfl) (fun _ _ _ h => h) (Or.inl ⟨by rfl, ?_⟩) hHeld ?_ ?_
         rotate_left
         ·rintro w' ⟨s0, s1, s2⟩
          go_simp
          with_reducible rfl
         rotate_left
         ·simp only [Act.put, List.setIfInBounds_toArray, List.set_cons_zero, List.set_cons_succ, i64_w, i32_w]
          rfl
         refine one_ (i := 6) (N := some 196) (mkB 7 127) rfl rfl (by kernel_rfl) (by decide) (fun K hK => ?_)
         refine goes_ Try.func24 (by kernel_rfl) rfl #[.slice A0 l0.length c0, .agg #[.int .i64 a1_0, .int .i64 a1_1], .slice A639_0 (rd_L1 y636 x21_3).length c639_0] (by rfl) rfl rfl (by (try simp only [List.map_toArray, List.map_cons, List.map_nil]); first | done | rfl | (simp only [List.length_drop, List.length_take]; rfl)) ?_
         with_reducible refine (droppertop_fits.calls k3 _ _ l0 a1_0 a1_1 _ _ (rd_L1 y636 x21_3) false _ ?side1 ?side2 ?side3 ?side4 A99.out).mono ?_
         (case side1 => exact cU (Kd.C_below HR0.out HB.out))
         (case side2 => exact HC0.out)
         (case side3 => repeat (first | exact (by repeat (first | (with_reducible exact HR639_0.out) | (with_reducible refine Kd.C_alloc ?_ _) | (with_reducible refine Kd.C_drewN ?_ _) | (with_reducible refine Kd.C_drew ?_) | exact HR639_0.out)) | (with_reducible refine Kd.C_alloc ?_ _) | (with_reducible refine Kd.C_drewN ?_ _) | (with_reducible refine Kd.C_drew ?_)))
         (case side4 => exact HC639_0.out)
         rintro e w108 ⟨rfl, hb⟩
         have HS2_ := (hb.cell (World.block_lt_of_cell? _ _ (hHeld.2.2))).trans (hHeld.2.2)
         refine ⟨_, rfl, ?_⟩
         have n0_ := A_ (Kd.V_below (vU HO_7.out) hb)
         have n1_ := A_ (Kd.V_below (vU HO_9.out) hb)
         have n2_ := A_ (Kd.R_below (rU HO_15.out) hb)
         have n3_ := A_ (Kd.N_below (nU HO_19.out) hb)
         have n4_ := A_ (Kd.N_below (nU HO_20.out) hb)
         have n5_ := A_ (Kd.V_below (vU HO_603000.out) hb)
         have n6_ := A_ (Kd.V_below (vU HO_603001.out) hb)
         have n7_ := A_ (Kd.V_below (vU HL639_0.out) hb)
         have n8_ := A_ (bkB BK601 hb); have n9_ := A_ (bkB BK602 hb)
         have n10_ := A_ (Kd.C_below (by repeat (first | (with_reducible exact HR639_0.out) | (with_reducible refine Kd.C_alloc ?_ _) | (with_reducible refine Kd.C_drewN ?_ _) | (with_reducible refine Kd.C_drew ?_) | exact HR639_0.out)) hb)
         have n11_ := A_ (below_step (bW2 HB.out GE601.out GE602.out) hb)
         clear HO_7; clear HO_9 HO_15 HO_19 HO_20 HO_603000 HO_603001 HL639_0 BK601 BK602 HR639_0 HB; have HO_7 := n0_; have HO_9 := n1_; have HO_15 := n2_; have HO_19 := n3_; have HO_20 := n4_; have HO_603000 := n5_; have HO_603001 := n6_; have HL639_0 := n7_; have BK601 := n8_; have BK602 := n9_; have HR639_0 := n10_; have HB := n11_; clear n0_ n1_ n2_ n3_ n4_ n5_ n6_ n7_ n8_ n9_ n10_ n11_
         (try clear hb)
         (try clear hb2)
         (try clear hk)
         (try clear hi)
         refine hK.out _ _ ⟨(blk_cell BK601.out 0).trans rfl, (blk_cell BK601.out 1).trans rfl, HS2_⟩ (fun hHeld => ?_)
         clear hK K
         refine norm_ (a' := ?_) ?_ ?_
         rotate_left
         ·show Act.put _ (some 196) _ = _
          simp only [Act.put, List.setIfInBounds_toArray, List.set_cons_zero, List.set_cons_succ, i64_w, i32_w]
          rfl
         refine done_ (by kernel_rfl) ?_
         try go_wp2
         go_roundg k3
         case measure => have := HJ3.out; have := HJ61.out; have := HK3.out; omega
         case rel => exact ⟨(x19_3), (wrap64 (x21_3 + 1)), (by first | rfl | (simp; done) | (simp [*]; done)), H', ⟨by have := HJ3.out; have := HJ61.out; have := HK3.out; omega⟩, ⟨vU HO_7.out⟩, ⟨vU HO_9.out⟩, ⟨rU HO_15.out⟩, ⟨nU HO_19.out⟩, ⟨nU HO_20.out⟩, ⟨vU HO_603000.out⟩, ⟨vU HO_603001.out⟩, ⟨bkU BK601⟩, ⟨bkU BK602⟩, ⟨by repeat (first | (with_reducible first | exact HB.out | apply below_alloc | apply pw_below_drewN | apply below_drew1 | refine below_set ?_ GE601.out | refine below_set ?_ GE602.out) | exact HB.out)⟩⟩
        subst c100; rw [if_pos rfl] at H; by_cases c101 : x19_3.length < 5864062014805; rotate_left
        ·rw [if_neg c101] at H
         exact absurd H (by simp)
        rw [if_pos c101] at H; have LMc101 := A_ c101; clear c101; obtain ⟨y642, hy642⟩ : ∃ y_ : List (List Int), y_ = (x19_3 ++ [rd_L1 y636 x21_3]) := ⟨_, rfl⟩
        replace H : (droppertop_TopWire.l0 k3 l0 t610 t614 (wrap64 (Int.tmod (IntKind.u64.wrap (a2_2)) (IntKind.u64.wrap ((l0.length : Int))))) t621 t622 y642 y636 (wrap64 (x21_3 + 1)) a1_0 a1_1 l2_0 l2_1 a2_2 a2_3) = some r := by first | (rw [hy642]; with_reducible exact H) | (have H2_ := (Option.bind_some _ _).symm.trans H; rw [hy642]; with_reducible exact H2_) | (have H2_ := (Option.bind_some _ _).symm.trans H; with_reducible exact H2_) | with_reducible exact H | (rw [hy642]; exact H) | exact H
        have Ny642 := A_ hy642; clear hy642; have H' := A_ H; clear H; obtain ⟨Ao102, co102, eo102⟩ := Kd.N_slice HO_20.out; subst eo102
        try go_wp2
        have n0_ := A_ (Kd.V_drew HO_7.out); have n1_ := A_ (Kd.V_drew HO_9.out); have n2_ := A_ (Kd.R_drew HO_15.out); have n3_ := A_ (Kd.N_drew HO_19.out); have n4_ := A_ (Kd.N_drew HO_20.out); have n5_ := A_ (Kd.V_drew HO_603000.out); have n6_ := A_ (Kd.V_drew HO_603001.out); have n7_ := A_ (blk_drew BK601.out); have n8_ := A_ (blk_drew BK602.out); have n9_ := A_ (below_drew1 HB.out); clear HO_7 HO_9 HO_15 HO_19 HO_20 HO_603000 HO_603001 BK601 BK602 HB; have HO_7 := n0_; have HO_9 := n1_; have HO_15 := n2_; have HO_19 := n3_; have HO_20 := n4_; have HO_603000 := n5_; have HO_603001 := n6_; have BK601 := n7_; have BK602 := n8_; have HB := n9_; clear n0_ n1_ n2_ n3_ n4_ n5_ n6_ n7_ n8_ n9_
        have p639 : 0 ≤ (x21_3 : Int) := of_decide_eq_true (by first | (with_reducible assumption) | assumption)
        have q639 : x21_3 < (y636.length : Int) := of_decide_eq_true (by first | (with_reducible assumption) | assumption)
        obtain ⟨ad639, A639_0, c639_0, e639, hx639_0, hl639_0, hi639_0⟩ := at_L1 (Kd.N_reads' HO_20.out).2.2 x21_3 p639 q639
        cases e639
        obtain ⟨ce639, hce639, hMe639, hcc639⟩ := Kd.N_get HO_20.out [] x21_3 p639 (by first | exact q639 | exact of_decide_eq_true (by first | (with_reducible assumption) | assumption) | (have e_ := (Kd.N_reads' HO_20.out).1; omega))
        obtain ⟨ua639_0, uc639_0, rfl, ul639_0, ge639_0⟩ := Kd.FK_slice_open hMe639; have hv639_0 := hcc639 0 _ rfl; rw [Nat.add_zero, show ((Kd.slice 3 (Kd.int .i64))).sz = 1 from rfl, Nat.mul_one] at hv639_0; replace hv639_0 := Option.some.inj (hv639_0.symm.trans hx639_0)
        injection hv639_0 with hva_ hvn_ hvc_
        rw [hva_] at ge639_0; rw [hvc_] at ul639_0
        have HL639_0 := A_ (show Kd.V (Kd.int .i64) 3 _ w.heap.size _ _ (rd_L1 y636 x21_3) from Kd.V_mk ul639_0 ge639_0)
        clear hva_ hvn_ hvc_ ge639_0 ul639_0; clear hcc639 hce639; have HR639_0 := A_ hi639_0; have HC639_0 := A_ hl639_0; clear hi639_0 hl639_0; replace p639 := eq_true p639; replace q639 := eq_true q639
        refine start_ (n := 7) (S := fun w' => w'.cell? ⟨gb601, 0, none⟩ = some (.int .i64 a1_0) ∧ w'.cell? ⟨gb601, 1, none⟩ = some (.int .i64 a1_1) ∧ w'.cell? (ad639.add (x21_3).toNat) = some (.slice A639_0 (rd_L1 y636 x21_3).length c639_0)) (ds := []) (mkB 7 0) (by kernel_rfl) rfl rfl ⟨(blk_cell BK601.out 0).trans rfl, (blk_cell BK601.out 1).trans rfl, hx639_0⟩ (fun hHeld => ?_)
        generalize wr.drew = w103 at HO_7 HO_9 HO_15 HO_19 HO_20 HO_603000 HO_603001 BK601 BK602 HB HL639_0 HR639_0 hx639_0 hHeld ⊢
        refine pure_ (i := 0) (N := some 190) (v := ?_) (a' := ?_) (mkB 7 1) rfl rfl (by kernel_rfl) (fun _ _ _ h => h) (Or.inl ⟨by rfl, ?_⟩) ?_ ?_
        rotate_left
        ·intro w'
         go_simp
         with_reducible rfl
        rotate_left
        ·simp only [Act.put, List.setIfInBounds_toArray, List.set_cons_zero, List.set_cons_succ, i64_w, i32_w]
         rfl
        refine pure_ (i := 2) (N := some 192) (v := ?_) (a' := ?_) (mkB 7 5) rfl rfl (by kernel_rfl) (fun _ _ _ h => h) (Or.inl ⟨by rfl, ?_⟩) ?_ ?_
        rotate_left
        ·intro w'
         go_simp
         with_reducible rfl
        rotate_left
        ·simp only [Act.put, List.setIfInBounds_toArray, List.set_cons_zero, List.set_cons_succ, i64_w, i32_w]
         rfl
        refine pure_ (i := 3) (N := some 193) (v := ?_) (a' := ?_) (mkB 7 13) rfl rfl (by kernel_rfl) (fun _ _ _ h => h) (Or.inl ⟨by rfl, ?_⟩) ?_ ?_
        rotate_left
        ·intro w'
         go_simp
         with_reducible rfl
        rotate_left
        ·simp only [Act.put, List.setIfInBounds_toArray, List.set_cons_zero, List.set_cons_succ, i64_w, i32_w]
         rfl
        refine pure_ (i := 4) (N := some 194) (v := ?_) (a' := ?_) (mkB 7 29) rfl rfl (by kernel_rfl) (fun _ _ _ h => h) (Or.inl ⟨by rfl, ?_⟩) ?_ ?_
        rotate_left
        ·intro w'
         go_simp
         with_reducible rfl
        rotate_left
        ·simp only [Act.put, List.setIfInBounds_toArray, List.set_cons_zero, List.set_cons_succ, i64_w, i32_w]
         rfl
        refine take_ (i := 1) (N := some 191) (v := ?_) (a' := ?_) (mkB 7 31) rfl rfl (by kernel_rfl) (fun _ _ _ h => h) (Or.inl ⟨by rfl, ?_⟩) hHeld ?_ ?_
        rotate_left
        ·rintro w' ⟨s0, s1, s2⟩
         go_simp
         with_reducible rfl
        rotate_left
        ·simp only [Act.put, List.setIfInBounds_toArray, List.set_cons_zero, List.set_cons_succ, i64_w, i32_w]
         rfl
        refine take_ (i := 5) (N := some 195) (v := ?_) (a' := ?_) (mkB 7 63) rfl rfl (by kernel_rfl) (fun _ _ _ h => h) (Or.inl ⟨by rfl, ?_⟩) hHeld ?_ ?_
        rotate_left
        ·rintro w' ⟨s0, s1, s2⟩
         go_simp
         with_reducible rfl
        rotate_left
        ·simp only [Act.put, List.setIfInBounds_toArray, List.set_cons_zero, List.set_cons_succ, i64_w, i32_w]
         rfl
        refine one_ (i := 6) (N := some 196) (mkB 7 127) rfl rfl (by kernel_rfl) (by decide) (fun K hK => ?_)
        refine goes_ Try.func24 (by kernel_rfl) rfl #[.slice A0 l0.length c0, .agg #[.int .i64 a1_0, .int .i64 a1_1], .slice A639_0 (rd_L1 y636 x21_3).length c639_0] (by rfl) rfl rfl (by (try simp only [List.map_toArray, List.map_cons, List.map_nil]); first | done | rfl | (simp only [List.length_drop, List.length_take]; rfl)) ?_
        with_reducible refine (droppertop_fits.calls k3 _ _ l0 a1_0 a1_1 _ _ (rd_L1 y636 x21_3) true _ ?side1 ?side2 ?side3 ?side4 A99.out).mono ?_
        (case side1 => exact cU (Kd.C_below HR0.out HB.out))
        (case side2 => exact HC0.out)
        (case side3 => repeat (first | exact (by repeat (first | (with_reducible exact HR639_0.out) | (with_reducible refine Kd.C_alloc ?_ _) | (with_reducible refine Kd.C_drewN ?_ _) | (with_reducible refine Kd.C_drew ?_) | exact HR639_0.out)) | (with_reducible refine Kd.C_alloc ?_ _) | (with_reducible refine Kd.C_drewN ?_ _) | (with_reducible refine Kd.C_drew ?_)))
        (case side4 => exact HC639_0.out)
        rintro e w104 ⟨rfl, hb⟩
        have HS2_ := (hb.cell (World.block_lt_of_cell? _ _ (hHeld.2.2))).trans (hHeld.2.2)
        refine ⟨_, rfl, ?_⟩
        have n0_ := A_ (Kd.V_below (vU HO_7.out) hb)
        have n1_ := A_ (Kd.V_below (vU HO_9.out) hb)
        have n2_ := A_ (Kd.R_below (rU HO_15.out) hb)
        have n3_ := A_ (Kd.N_below (nU HO_19.out) hb)
        have n4_ := A_ (Kd.N_below (nU HO_20.out) hb)
        have n5_ := A_ (Kd.V_below (vU HO_603000.out) hb)
        have n6_ := A_ (Kd.V_below (vU HO_603001.out) hb)
        have n7_ := A_ (Kd.V_below (vU HL639_0.out) hb)
        have n8_ := A_ (bkB BK601 hb); have n9_ := A_ (bkB BK602 hb)
        have n10_ := A_ (Kd.C_below (by repeat (first | (with_reducible exact HR639_0.out) | (with_reducible refine Kd.C_alloc ?_ _) | (with_reducible refine Kd.C_drewN ?_ _) | (with_reducible refine Kd.C_drew ?_) | exact HR639_0.out)) hb)
        have n11_ := A_ (below_step (bW2 HB.out GE601.out GE602.out) hb)
        clear HO_7; clear HO_9 HO_15 HO_19 HO_20 HO_603000 HO_603001 HL639_0 BK601 BK602 HR639_0 HB; have HO_7 := n0_; have HO_9 := n1_; have HO_15 := n2_; have HO_19 := n3_; have HO_20 := n4_; have HO_603000 := n5_; have HO_603001 := n6_; have HL639_0 := n7_; have BK601 := n8_; have BK602 := n9_; have HR639_0 := n10_; have HB := n11_; clear n0_ n1_ n2_ n3_ n4_ n5_ n6_ n7_ n8_ n9_ n10_ n11_
        (try clear hb)
        (try clear hb2)
        (try clear hk)
        (try clear hi)
        refine hK.out _ _ ⟨(blk_cell BK601.out 0).trans rfl, (blk_cell BK601.out 1).trans rfl, HS2_⟩ (fun hHeld => ?_)
        clear hK K
        refine norm_ (a' := ?_) ?_ ?_
        rotate_left
        ·show Act.put _ (some 196) _ = _
         simp only [Act.put, List.setIfInBounds_toArray, List.set_cons_zero, List.set_cons_succ, i64_w, i32_w]
         rfl
        refine done_ (by kernel_rfl) ?_
        have p641 : 0 ≤ (x21_3 : Int) := of_decide_eq_true (by first | (with_reducible assumption) | assumption)
        have q641 : x21_3 < (y636.length : Int) := of_decide_eq_true (by first | (with_reducible assumption) | assumption)
        obtain ⟨ad641, A641_0, c641_0, e641, hx641_0, hl641_0, hi641_0⟩ := at_L1 (Kd.N_reads' HO_20.out).2.2 x21_3 p641 q641
        obtain rfl : ad639 = ad641 := (by injection e641)
        have e_ := Option.some.inj (hx641_0.symm.trans HS2_); injection e_ with ea_ eb_ ec_; subst ea_; subst ec_
        obtain ⟨ce641, hce641, hMe641, hcc641⟩ := Kd.N_get HO_20.out [] x21_3 p641 (by first | exact q641 | exact of_decide_eq_true (by first | (with_reducible assumption) | assumption) | (have e_ := (Kd.N_reads' HO_20.out).1; omega))
        obtain ⟨ua641_0, uc641_0, rfl, ul641_0, ge641_0⟩ := Kd.FK_slice_open hMe641; have hv641_0 := hcc641 0 _ rfl; rw [Nat.add_zero, show ((Kd.slice 3 (Kd.int .i64))).sz = 1 from rfl, Nat.mul_one] at hv641_0; replace hv641_0 := Option.some.inj (hv641_0.symm.trans hx641_0)
        injection hv641_0 with hva_ hvn_ hvc_
        rw [hva_] at ge641_0; rw [hvc_] at ul641_0
        have HL641_0 := A_ (show Kd.V (Kd.int .i64) 3 _ w.heap.size _ _ (rd_L1 y636 x21_3) from Kd.V_mk ul641_0 ge641_0)
        clear hva_ hvn_ hvc_ ge641_0 ul641_0; clear hcc641 hce641; have HR641_0 := A_ hi641_0; have HC641_0 := A_ hl641_0; clear hi641_0 hl641_0; replace p641 := eq_true p641; replace q641 := eq_true q641
        try go_wp2_with (first | ((with_reducible refine gate_builtin (b := .append) (xs := #[.tmp 197, .tmp 202]) rfl ?_); (try (refine gate_guard (by rfl) ?_; dsimp only)); at_builtin; refine Kd.N_append (Kd.slice 3 (Kd.int .i64)) (w0 := w) w.heap.size rfl (.tmp 197) (.tmp 202) 45 34 (.slice none 0 0) 24 rfl Try.underlying45 info34 rfl (by decide) (by omega) u19 x19_3 (rd_L1 y636 x21_3) [.slice A641_0 (rd_L1 y636 x21_3).length c641_0] (fun k_ => ((P2_0_ k_ ∨ P2_1_ k_) ∨ w.heap.size ≤ k_) ∧ some k_ ≠ (v623 : Value).ownBlock ∧ some k_ ≠ (.slice (some ad639) y636.length co102 : Value).ownBlock ∧ k_ ≠ gb601 ∧ k_ ≠ gb602) (fun k_ => ((fun k_ => ((P2_0_ k_ ∨ P2_1_ k_) ∨ w.heap.size ≤ k_) ∧ some k_ ≠ (v623 : Value).ownBlock ∧ some k_ ≠ (.slice (some ad639) y636.length co102 : Value).ownBlock ∧ k_ ≠ gb601 ∧ k_ ≠ gb602)) k_ ∧ some k_ ≠ (u19 : Value).ownBlock) rfl rfl ?aP (fun _ hk => hk) ?aF ?aO ?aB ?aS ?aL ?_; (case aP => exact (Kd.FK_slice_mk (Kd.V_reads' HL641_0.out).2.1 (Kd.V_F (Kd.V_mono (ok' := (fun k_ => ((fun k_ => ((P2_0_ k_ ∨ P2_1_ k_) ∨ w.heap.size ≤ k_) ∧ some k_ ≠ (v623 : Value).ownBlock ∧ some k_ ≠ (.slice (some ad639) y636.length co102 : Value).ownBlock ∧ k_ ≠ gb601 ∧ k_ ≠ gb602)) k_ ∧ some k_ ≠ (u19 : Value).ownBlock)) ((show Kd.V (Kd.int .i64) 3 _ _ (fun k_ => ((((P2_0_ k_ ∨ P2_1_ k_) ∨ w.heap.size ≤ k_) ∧ (some k_ ≠ (v623 : Value).ownBlock ∧ (some k_ ≠ (u19 : Value).ownBlock ∧ (k_ ≠ gb601 ∧ k_ ≠ gb602)))) ∧ some k_ ≠ (.slice (some ad639) y636.length co102 : Value).ownBlock)) (.slice A641_0 (rd_L1 y636 x21_3).length c641_0) (rd_L1 y636 x21_3) from by (with_reducible repeat (first | apply Kd.V_alloc | apply Kd.V_drewN | apply Kd.V_drew)); exact HL641_0.out)) (fun k_ hk => ⟨⟨hk.1.1, ⟨hk.1.2.1, ⟨hk.2, ⟨hk.1.2.2.2.1, hk.1.2.2.2.2⟩⟩⟩⟩, hk.1.2.2.1⟩))))); (case aB => exact (bW2 HB.out GE601.out GE602.out)); (case aF => exact (fun k_ hk => ⟨(.inr (Nat.le_trans (below_size (bW2 HB.out GE601.out GE602.out)) hk)), Kd.fresh' (Kd.R_lt (rU HO_15.out)) k_ hk, Kd.fresh' (Kd.N_lt (nU HO_20.out)) k_ hk, Kd.freshB (g := gb601) (o := .cells #[.int .i64 a1_0, .int .i64 a1_1] 24 (0, 0)) (bkU BK601) k_ hk, Kd.freshB (g := gb602) (o := .cells #[.slice A2_0 l2_0.length c2_0, .slice A2_1 l2_1.length c2_1, .int .i64 a2_2, .int .i64 a2_3] 36 (0, 0)) (bkU BK602) k_ hk⟩)); (case aO => exact (nU HO_19.out)); (case aS => exact (below_size (bW2 HB.out GE601.out GE602.out))); (case aL => have := LMc101.out; omega); intro v643 w105 ho hb hg hat; rw [← Ny642.out] at ho; have n0_ := A_ (Kd.V_afterv (ok := (fun k_ => ((P2_0_ k_ ∨ P2_1_ k_) ∨ w.heap.size ≤ k_) ∧ some k_ ≠ (v623 : Value).ownBlock ∧ some k_ ≠ (.slice (some ad639) y636.length co102 : Value).ownBlock ∧ k_ ≠ gb601 ∧ k_ ≠ gb602)) (by (with_reducible repeat (first | apply Kd.V_alloc | apply Kd.V_drewN | apply Kd.V_drew)); exact Kd.V_mono HO_7.out (fun _ hk => ⟨⟨hk.1, ⟨hk.2.1, ⟨hk.2.2.2.1, ⟨hk.2.2.2.2.1, hk.2.2.2.2.2⟩⟩⟩⟩, hk.2.2.1⟩)) hg hat); have n1_ := A_ (Kd.V_afterv (ok := (fun k_ => ((P2_0_ k_ ∨ P2_1_ k_) ∨ w.heap.size ≤ k_) ∧ some k_ ≠ (v623 : Value).ownBlock ∧ some k_ ≠ (.slice (some ad639) y636.length co102 : Value).ownBlock ∧ k_ ≠ gb601 ∧ k_ ≠ gb602)) (by (with_reducible repeat (first | apply Kd.V_alloc | apply Kd.V_drewN | apply Kd.V_drew)); exact Kd.V_mono HO_9.out (fun _ hk => ⟨⟨hk.1, ⟨hk.2.1, ⟨hk.2.2.2.1, ⟨hk.2.2.2.2.1, hk.2.2.2.2.2⟩⟩⟩⟩, hk.2.2.1⟩)) hg hat); have n2_ := A_ (Kd.R_over' (rU HO_15.out) (Kd.N_typed (nU HO_19.out)) (by decide) hg); have n3_ := A_ (Kd.N_afterv (ok := (fun k_ => ((P2_0_ k_ ∨ P2_1_ k_) ∨ w.heap.size ≤ k_) ∧ some k_ ≠ (v623 : Value).ownBlock ∧ k_ ≠ gb601 ∧ k_ ≠ gb602)) (by (with_reducible repeat (first | apply Kd.N_alloc | apply Kd.N_drewN | apply Kd.N_drew)); exact Kd.N_mono HO_20.out (fun _ hk => ⟨⟨hk.1, ⟨hk.2.1, ⟨hk.2.2.2.1, hk.2.2.2.2⟩⟩⟩, hk.2.2.1⟩)) hg hat); have n4_ := A_ (Kd.V_afterv (ok := (fun k_ => ((P2_0_ k_ ∨ P2_1_ k_) ∨ w.heap.size ≤ k_) ∧ some k_ ≠ (v623 : Value).ownBlock ∧ some k_ ≠ (.slice (some ad639) y636.length co102 : Value).ownBlock ∧ k_ ≠ gb601 ∧ k_ ≠ gb602)) (by (with_reducible repeat (first | apply Kd.V_alloc | apply Kd.V_drewN | apply Kd.V_drew)); exact Kd.V_mono HO_603000.out (fun _ hk => ⟨⟨hk.1, ⟨hk.2.1, ⟨hk.2.2.2.1, ⟨hk.2.2.2.2.1, hk.2.2.2.2.2⟩⟩⟩⟩, hk.2.2.1⟩)) hg hat); have n5_ := A_ (Kd.V_afterv (ok := (fun k_ => ((P2_0_ k_ ∨ P2_1_ k_) ∨ w.heap.size ≤ k_) ∧ some k_ ≠ (v623 : Value).ownBlock ∧ some k_ ≠ (.slice (some ad639) y636.length co102 : Value).ownBlock ∧ k_ ≠ gb601 ∧ k_ ≠ gb602)) (by (with_reducible repeat (first | apply Kd.V_alloc | apply Kd.V_drewN | apply Kd.V_drew)); exact Kd.V_mono HO_603001.out (fun _ hk => ⟨⟨hk.1, ⟨hk.2.1, ⟨hk.2.2.2.1, ⟨hk.2.2.2.2.1, hk.2.2.2.2.2⟩⟩⟩⟩, hk.2.2.1⟩)) hg hat); have n6_ := A_ (blk_grown (g := gb601) (o := .cells #[.int .i64 a1_0, .int .i64 a1_1] 24 (0, 0)) (bkU BK601) hg (Kd.N_ne HO_19.out BK601.out (by decide))); have n7_ := A_ (blk_grown (g := gb602) (o := .cells #[.slice A2_0 l2_0.length c2_0, .slice A2_1 l2_1.length c2_1, .int .i64 a2_2, .int .i64 a2_3] 36 (0, 0)) (bkU BK602) hg (Kd.N_ne HO_19.out BK602.out (by decide))); have n8_ := A_ (Kd.V_afterv (ok := (fun k_ => ((P2_0_ k_ ∨ P2_1_ k_) ∨ w.heap.size ≤ k_) ∧ some k_ ≠ (v623 : Value).ownBlock ∧ some k_ ≠ (.slice (some ad639) y636.length co102 : Value).ownBlock ∧ k_ ≠ gb601 ∧ k_ ≠ gb602)) (by (with_reducible repeat (first | apply Kd.V_alloc | apply Kd.V_drewN | apply Kd.V_drew)); exact Kd.V_mono HL639_0.out (fun _ hk => ⟨⟨hk.1.1, ⟨hk.1.2.1, ⟨hk.2, ⟨hk.1.2.2.2.1, hk.1.2.2.2.2⟩⟩⟩⟩, hk.1.2.2.1⟩)) hg hat); have n9_ := A_ (Kd.V_afterv (ok := (fun k_ => ((P2_0_ k_ ∨ P2_1_ k_) ∨ w.heap.size ≤ k_) ∧ some k_ ≠ (v623 : Value).ownBlock ∧ some k_ ≠ (.slice (some ad639) y636.length co102 : Value).ownBlock ∧ k_ ≠ gb601 ∧ k_ ≠ gb602)) (by (with_reducible repeat (first | apply Kd.V_alloc | apply Kd.V_drewN | apply Kd.V_drew)); exact Kd.V_mono HL641_0.out (fun _ hk => ⟨⟨hk.1.1, ⟨hk.1.2.1, ⟨hk.2, ⟨hk.1.2.2.2.1, hk.1.2.2.2.2⟩⟩⟩⟩, hk.1.2.2.1⟩)) hg hat); have n10_ := A_ (hb); have n11_ := A_ (ho); clear HO_7; clear HO_9; clear HO_15; clear HO_20; clear HO_603000; clear HO_603001; clear BK601; clear BK602; clear HL639_0; clear HL641_0; clear HB; clear HO_19; have HO_7 := n0_; have HO_9 := n1_; have HO_15 := n2_; have HO_20 := n3_; have HO_603000 := n4_; have HO_603001 := n5_; have BK601 := n6_; have BK602 := n7_; have HL639_0 := n8_; have HL641_0 := n9_; have HB := n10_; have HO644 := n11_; clear n0_ n1_ n2_ n3_ n4_ n5_ n6_ n7_ n8_ n9_ n10_ n11_; clear ho hb hg hat))
        go_roundg k3
        case measure => have := HJ3.out; have := HJ61.out; have := HK3.out; omega
        case rel => exact ⟨(y642), (wrap64 (x21_3 + 1)), (by first | rfl | (simp; done) | (simp [*]; done)), H', ⟨by have := HJ3.out; have := HJ61.out; have := HK3.out; omega⟩, ⟨by (with_reducible repeat (first | apply Kd.V_alloc | apply Kd.V_drewN | apply Kd.V_drew)); exact Kd.V_mono HO_7.out (fun _ hk => ⟨hk.1.1, ⟨hk.1.2.1, ⟨hk.2, ⟨hk.1.2.2.1, ⟨hk.1.2.2.2.1, hk.1.2.2.2.2⟩⟩⟩⟩⟩)⟩, ⟨by (with_reducible repeat (first | apply Kd.V_alloc | apply Kd.V_drewN | apply Kd.V_drew)); exact Kd.V_mono HO_9.out (fun _ hk => ⟨hk.1.1, ⟨hk.1.2.1, ⟨hk.2, ⟨hk.1.2.2.1, ⟨hk.1.2.2.2.1, hk.1.2.2.2.2⟩⟩⟩⟩⟩)⟩, ⟨rU HO_15.out⟩, ⟨nU HO644.out⟩, ⟨by (with_reducible repeat (first | apply Kd.N_alloc | apply Kd.N_drewN | apply Kd.N_drew)); exact Kd.N_mono HO_20.out (fun _ hk => ⟨hk.1.1, ⟨hk.1.2.1, ⟨hk.2, ⟨hk.1.2.2.1, hk.1.2.2.2⟩⟩⟩⟩)⟩, ⟨by (with_reducible repeat (first | apply Kd.V_alloc | apply Kd.V_drewN | apply Kd.V_drew)); exact Kd.V_mono HO_603000.out (fun _ hk => ⟨hk.1.1, ⟨hk.1.2.1, ⟨hk.2, ⟨hk.1.2.2.1, ⟨hk.1.2.2.2.1, hk.1.2.2.2.2⟩⟩⟩⟩⟩)⟩, ⟨by (with_reducible repeat (first | apply Kd.V_alloc | apply Kd.V_drewN | apply Kd.V_drew)); exact Kd.V_mono HO_603001.out (fun _ hk => ⟨hk.1.1, ⟨hk.1.2.1, ⟨hk.2, ⟨hk.1.2.2.1, ⟨hk.1.2.2.2.1, hk.1.2.2.2.2⟩⟩⟩⟩⟩)⟩, ⟨bkU BK601⟩, ⟨bkU BK602⟩, ⟨by repeat (first | (with_reducible first | exact HB.out | apply below_alloc | apply pw_below_drewN | apply below_drew1 | refine below_set ?_ GE601.out | refine below_set ?_ GE602.out) | exact HB.out)⟩⟩
       rw [if_neg c97] at H; have c97b0 : decide (x21_3 < (y636.length : Int)) = false := decide_eq_false c97; clear c97; have HC109 := A_ H; clear H; obtain ⟨Ao110, co110, eo110⟩ := Kd.N_slice HO_20.out; subst eo110
       go_upto_if 205 with (fail)
       go_cut [19] (fun v19 wc => ∃ (kq : Nat) (x19_108 : List (List Int)), Aside0 (droppertop_TopWire.j3 kq l0 t610 t614 (wrap64 (Int.tmod (IntKind.u64.wrap (a2_2)) (IntKind.u64.wrap ((l0.length : Int))))) t621 t622 x19_108 a1_0 a1_1 l2_0 l2_1 a2_2 a2_3 = some r) ∧ Aside0 (kq ≤ k3) ∧ Aside0 (Kd.V (Kd.int .i64) 3 wc w.heap.size (fun k_ => ((P2_0_ k_ ∨ P2_1_ k_) ∨ w.heap.size ≤ k_) ∧ some k_ ≠ (v19 : Value).ownBlock ∧ k_ ≠ gb601 ∧ k_ ≠ gb602) (.slice Ao89 t610.length co89) t610) ∧ Aside0 (Kd.V (Kd.int .i64) 3 wc w.heap.size (fun k_ => ((P2_0_ k_ ∨ P2_1_ k_) ∨ w.heap.size ≤ k_) ∧ some k_ ≠ (v19 : Value).ownBlock ∧ k_ ≠ gb601 ∧ k_ ≠ gb602) (.slice Ao90 t614.length co90) t614) ∧ Aside0 (Kd.V (Kd.int .i64) 3 wc w.heap.size (fun k_ => ((P2_0_ k_ ∨ P2_1_ k_) ∨ w.heap.size ≤ k_) ∧ some k_ ≠ (v19 : Value).ownBlock ∧ k_ ≠ gb601 ∧ k_ ≠ gb602) v623 t621) ∧ Aside0 (Kd.N (Kd.slice 3 (Kd.int .i64)) 34 wc w.heap.size (fun k_ => ((P2_0_ k_ ∨ P2_1_ k_) ∨ w.heap.size ≤ k_) ∧ k_ ≠ gb601 ∧ k_ ≠ gb602) v19 x19_108) ∧ Aside0 (Kd.V (Kd.int .i64) 3 wc w.heap.size (fun k_ => ((P2_0_ k_ ∨ P2_1_ k_) ∨ w.heap.size ≤ k_) ∧ some k_ ≠ (v19 : Value).ownBlock ∧ k_ ≠ gb601 ∧ k_ ≠ gb602) (.slice A2_0 l2_0.length c2_0) l2_0) ∧ Aside0 (Kd.V (Kd.int .i64) 3 wc w.heap.size (fun k_ => ((P2_0_ k_ ∨ P2_1_ k_) ∨ w.heap.size ≤ k_) ∧ some k_ ≠ (v19 : Value).ownBlock ∧ k_ ≠ gb601 ∧ k_ ≠ gb602) (.slice A2_1 l2_1.length c2_1) l2_1) ∧ Aside0 (wc.heap[gb601]? = some (.cells #[.int .i64 a1_0, .int .i64 a1_1] 24 (0, 0))) ∧ Aside0 (wc.heap[gb602]? = some (.cells #[(.slice A2_0 l2_0.length c2_0), (.slice A2_1 l2_1.length c2_1), .int .i64 a2_2, .int .i64 a2_3] 36 (0, 0))) ∧ Aside0 (Below w.heap.size w wc))
       case first => as_aux_lemma =>
        have H := HC109.out; clear HC109; by_cases c111 : t622 = 0; rotate_left
        ·rw [if_neg c111] at H; have c111b0 : (t622 == 0) = false := beq_eq_false_iff_ne.mpr c111; have c111b1 : (t622 != 0) = true := bne_iff_ne.mpr c111
         (first | rw [c111b0] | (simp only [i64_w, i32_w]; rw [c111b0]) | skip)
         have H' := A_ H; clear H
         go_wp2
         go_meet
         case rel => exact ⟨_, (x19_3), H', ⟨by have := HJ3.out; have := HJ61.out; have := HK3.out; first | omega | exact Nat.le_refl _⟩, ⟨by (with_reducible repeat (first | apply Kd.V_alloc | apply Kd.V_drewN | apply Kd.V_drew)); exact Kd.V_mono HO_7.out (fun _ hk => ⟨hk.1, ⟨hk.2.2.1, ⟨hk.2.2.2.2.1, hk.2.2.2.2.2⟩⟩⟩)⟩, ⟨by (with_reducible repeat (first | apply Kd.V_alloc | apply Kd.V_drewN | apply Kd.V_drew)); exact Kd.V_mono HO_9.out (fun _ hk => ⟨hk.1, ⟨hk.2.2.1, ⟨hk.2.2.2.2.1, hk.2.2.2.2.2⟩⟩⟩)⟩, ⟨Kd.V_mono (Kd.R_V (base' := w.heap.size) (Kd.R_types (Kd.R_types (Kd.R_apart' HO_15.out (Kd.N_typed HO_19.out) (by decide)) BK601.out (by decide)) BK602.out (by decide))) (fun k_ hk => ⟨.inr hk.1.1.1, hk.1.1.2, hk.1.2, hk.2⟩)⟩, ⟨by (with_reducible repeat (first | apply Kd.N_alloc | apply Kd.N_drewN | apply Kd.N_drew)); exact Kd.N_mono HO_19.out (fun _ hk => ⟨hk.1, ⟨hk.2.2.2.1, hk.2.2.2.2⟩⟩)⟩, ⟨by (with_reducible repeat (first | apply Kd.V_alloc | apply Kd.V_drewN | apply Kd.V_drew)); exact Kd.V_mono HO_603000.out (fun _ hk => ⟨hk.1, ⟨hk.2.2.1, ⟨hk.2.2.2.2.1, hk.2.2.2.2.2⟩⟩⟩)⟩, ⟨by (with_reducible repeat (first | apply Kd.V_alloc | apply Kd.V_drewN | apply Kd.V_drew)); exact Kd.V_mono HO_603001.out (fun _ hk => ⟨hk.1, ⟨hk.2.2.1, ⟨hk.2.2.2.2.1, hk.2.2.2.2.2⟩⟩⟩)⟩, ⟨bkU BK601⟩, ⟨bkU BK602⟩, ⟨by repeat (first | (with_reducible first | exact HB.out | apply below_alloc | apply pw_below_drewN | apply below_drew1 | refine below_set ?_ GE601.out | refine below_set ?_ GE602.out) | exact HB.out)⟩⟩
        rw [if_pos c111] at H; have c111b0 : (t622 == 0) = true := beq_iff_eq.mpr c111; have c111b1 : (t622 != 0) = false := bne_eq_false_iff_eq.mpr c111; clear c111
        (first | rw [c111b0] | (simp only [i64_w, i32_w]; rw [c111b0]) | skip)
        by_cases c112 : (t621.length : Int) = (l0.length : Int); rotate_left
        ·rw [if_neg c112] at H; have c112b0 : ((t621.length : Int) == (l0.length : Int)) = false := beq_eq_false_iff_ne.mpr c112; have c112b1 : ((t621.length : Int) != (l0.length : Int)) = true := bne_iff_ne.mpr c112
         have c112b2 : (t621.length == l0.length) = false := by first | simpa using c112 | (simp at c112 ⊢; omega)
         exact absurd (hT.symm.trans (Option.some.inj H).symm) (by decide)
        rw [if_pos c112] at H; have c112b0 : ((t621.length : Int) == (l0.length : Int)) = true := beq_iff_eq.mpr c112; have c112b1 : ((t621.length : Int) != (l0.length : Int)) = false := bne_eq_false_iff_eq.mpr c112
        have c112b2 : (t621.length == l0.length) = true := by first | simpa using c112 | (simp at c112 ⊢; omega)
        clear c112; obtain ⟨ji113, hji113⟩ : ∃ j_ : Int, (wrap64 (Int.tmod (IntKind.u64.wrap (a2_2)) (IntKind.u64.wrap ((l0.length : Int))))) = j_ := ⟨_, rfl⟩
        replace H : (if 0 ≤ (ji113) then (if (ji113) < (t621.length : Int) then (if (rd t621 (ji113)) = a2_3 then (if x19_3.length < 5864062014805 then (droppertop_TopWire.j3 k3 l0 t610 t614 (ji113) t621 t622 (x19_3 ++ [t621]) a1_0 a1_1 l2_0 l2_1 a2_2 a2_3) else (none)) else (some false)) else (none)) else (none)) = some r := by first | (rw [hji113] at H; exact H) | (simp only [hji113] at H ⊢; exact H)
        have hji113w : (IntKind.i64.wrap (Int.tmod (IntKind.u64.wrap (a2_2)) (IntKind.u64.wrap ((l0.length : Int))))) = ji113 := (i64_w _).trans hji113; by_cases c114 : 0 ≤ (ji113); rotate_left
        ·rw [if_neg c114] at H
         exact absurd H (by simp)
        rw [if_pos c114] at H; have c114b0 : decide (0 ≤ (ji113)) = true := decide_eq_true c114; clear c114; by_cases c115 : (ji113) < (t621.length : Int); rotate_left
        ·rw [if_neg c115] at H
         exact absurd H (by simp)
        rw [if_pos c115] at H; have c115b0 : decide ((ji113) < (t621.length : Int)) = true := decide_eq_true c115; clear c115; by_cases c116 : (rd t621 (ji113)) = a2_3; rotate_left
        ·rw [if_neg c116] at H; have c116b0 : ((rd t621 (ji113)) == a2_3) = false := beq_eq_false_iff_ne.mpr c116; have c116b1 : ((rd t621 (ji113)) != a2_3) = true := bne_iff_ne.mpr c116
         exact absurd (hT.symm.trans (Option.some.inj H).symm) (by decide)
        rw [if_pos c116] at H; have c116b0 : ((rd t621 (ji113)) == a2_3) = true := beq_iff_eq.mpr c116; have c116b1 : ((rd t621 (ji113)) != a2_3) = false := bne_eq_false_iff_eq.mpr c116; clear c116; by_cases c117 : x19_3.length < 5864062014805; rotate_left
        ·rw [if_neg c117] at H
         exact absurd H (by simp)
        rw [if_pos c117] at H; have LMc117 := A_ c117; clear c117; obtain ⟨y646, hy646⟩ : ∃ y_ : List (List Int), y_ = (x19_3 ++ [t621]) := ⟨_, rfl⟩
        replace H : (droppertop_TopWire.j3 k3 l0 t610 t614 (ji113) t621 t622 y646 a1_0 a1_1 l2_0 l2_1 a2_2 a2_3) = some r := by first | (rw [hy646]; with_reducible exact H) | (have H2_ := (Option.bind_some _ _).symm.trans H; rw [hy646]; with_reducible exact H2_) | (have H2_ := (Option.bind_some _ _).symm.trans H; with_reducible exact H2_) | with_reducible exact H | (rw [hy646]; exact H) | exact H
        have Ny646 := A_ hy646; clear hy646; have H' := A_ H; clear H
        try go_wp2
        have n0_ := A_ (Kd.V_drew HO_7.out); have n1_ := A_ (Kd.V_drew HO_9.out); have n2_ := A_ (Kd.R_drew HO_15.out); have n3_ := A_ (Kd.N_drew HO_19.out); have n4_ := A_ (Kd.N_drew HO_20.out); have n5_ := A_ (Kd.V_drew HO_603000.out); have n6_ := A_ (Kd.V_drew HO_603001.out); have n7_ := A_ (blk_drew BK601.out); have n8_ := A_ (blk_drew BK602.out); have n9_ := A_ (below_drew1 HB.out); clear HO_7 HO_9 HO_15 HO_19 HO_20 HO_603000 HO_603001 BK601 BK602 HB; have HO_7 := n0_; have HO_9 := n1_; have HO_15 := n2_; have HO_19 := n3_; have HO_20 := n4_; have HO_603000 := n5_; have HO_603001 := n6_; have BK601 := n7_; have BK602 := n8_; have HB := n9_; clear n0_ n1_ n2_ n3_ n4_ n5_ n6_ n7_ n8_ n9_; obtain ⟨Ao119, co119, eo119⟩ := Kd.R_slice HO_15.out
        (first | subst eo119 | (injection eo119 with f1_ f2_ f3_; have f4_ := f1_.symm; have f5_ := f3_.symm; clear f1_ f2_ f3_; subst f4_; subst f5_))
        have p645 : 0 ≤ ((ji113) : Int) := of_decide_eq_true (by first | (with_reducible assumption) | assumption)
        have q645 : (ji113) < (t621.length : Int) := of_decide_eq_true (by first | (with_reducible assumption) | assumption)
        obtain ⟨ad645, e645, hx645_0⟩ := Kd.at_int (Kd.R_reads' HO_15.out).2.2 (ji113) p645 q645
        cases e645
        replace p645 := eq_true p645; replace q645 := eq_true q645
        refine start_ (n := 14) (S := fun w' => w'.cell? ⟨gb602, 0, none⟩ = some (.slice A2_0 l2_0.length c2_0) ∧ w'.cell? ⟨gb602, 1, none⟩ = some (.slice A2_1 l2_1.length c2_1) ∧ w'.cell? ⟨gb602, 2, none⟩ = some (.int .i64 a2_2) ∧ w'.cell? ⟨gb602, 3, none⟩ = some (.int .i64 a2_3) ∧ w'.cell? (ad645.add ((ji113)).toNat) = some (.int .i64 (rd t621 (ji113)))) (ds := []) (mkB 14 0) (by kernel_rfl) rfl rfl ⟨(blk_cell BK602.out 0).trans rfl, (blk_cell BK602.out 1).trans rfl, (blk_cell BK602.out 2).trans rfl, (blk_cell BK602.out 3).trans rfl, hx645_0⟩ (fun hHeld => ?_); refine with_tabW droppertop_TopWire.tab21 droppertop_TopWire.bits21 (fun HT_ HW_ => ?_)
        generalize wr.drew = w118 at HO_7 HO_9 HO_15 HO_19 HO_20 HO_603000 HO_603001 BK601 BK602 HB hx645_0 hHeld ⊢; refine pr_ 0 (some 206) (mkB 14 1) HT_ ?_; refine pr_ 1 (some 207) (mkB 14 3) HT_ ?_; refine pr_ 2 (some 208) (mkB 14 7) HT_ ?_; refine pr_ 3 (some 209) (mkB 14 15) HT_ ?_; refine pr_ 4 (some 210) (mkB 14 31) HT_ ?_; refine pr_ 5 (some 211) (mkB 14 63) HT_ ?_; refine pr_ 6 (some 212) (mkB 14 127) HT_ ?_; refine pr_ 7 (some 213) (mkB 14 255) HT_ ?_; refine pr_ 8 (some 214) (mkB 14 511) HT_ ?_; refine pr_ 10 (some 216) (mkB 14 1535) HT_ ?_
        refine take_ (i := 9) (N := some 215) (v := ?_) (a' := ?_) (mkB 14 2047) rfl rfl (take_ofW HT_.out HW_.out (by kernel_rfl)) (fun _ _ _ h => h) (Or.inl ⟨by rfl, ?_⟩) hHeld ?_ ?_
        rotate_left
        ·rintro w' ⟨s0, s1, s2, s3, s4⟩
         go_simp
         with_reducible rfl
        rotate_left
        ·simp only [Act.put, List.setIfInBounds_toArray, List.set_cons_zero, List.set_cons_succ, i64_w, i32_w]
         rfl
        refine take_ (i := 11) (N := some 217) (v := ?_) (a' := ?_) (mkB 14 4095) rfl rfl (take_ofW HT_.out HW_.out (by kernel_rfl)) (fun _ _ _ h => h) (Or.inl ⟨by rfl, ?_⟩) hHeld ?_ ?_
        rotate_left
        ·rintro w' ⟨s0, s1, s2, s3, s4⟩
         go_simp
         with_reducible rfl
        rotate_left
        ·simp only [Act.put, List.setIfInBounds_toArray, List.set_cons_zero, List.set_cons_succ, i64_w, i32_w]
         rfl
        refine pr_ 12 (some 218) (mkB 14 8191) HT_ ?_; refine pr_ 13 (some 219) (mkB 14 16383) HT_ ?_
        refine done_ (done_of HT_.out (by kernel_rfl)) ?_
        have n_ := A_ (Kd.V_mono (ok' := fun k_ => ((((((P2_0_ k_ ∨ P2_1_ k_) ∨ w.heap.size ≤ k_) ∧ k_ ≠ gb601) ∧ k_ ≠ gb602) ∧ some k_ ≠ (u19 : Value).ownBlock) ∧ some k_ ≠ (.slice Ao110 y636.length co110 : Value).ownBlock)) (Kd.R_V (base' := w.heap.size) (Kd.R_apart' (Kd.R_apart' (Kd.R_types (Kd.R_types HO_15.out BK601.out (by decide)) BK602.out (by decide)) (Kd.N_typed HO_19.out) (by decide)) (Kd.N_typed HO_20.out) (by decide))) (fun k_ hk => ⟨⟨⟨⟨(.inr (hk.1.1.1.1)), hk.1.1.1.2⟩, hk.1.1.2⟩, hk.1.2⟩, hk.2⟩))
        clear HO_15; have HO_15 := n_; clear n_
        try go_wp2_with (first | ((with_reducible refine gate_builtin (b := .append) (xs := #[.tmp 220, .tmp 222]) rfl ?_); (try (refine gate_guard (by rfl) ?_; dsimp only)); at_builtin; refine Kd.N_append (Kd.slice 3 (Kd.int .i64)) (w0 := w) w.heap.size rfl (.tmp 220) (.tmp 222) 45 34 (.slice none 0 0) 24 rfl Try.underlying45 info34 rfl (by decide) (by omega) u19 x19_3 t621 [.slice (some ad645) t621.length co119] (fun k_ => ((P2_0_ k_ ∨ P2_1_ k_) ∨ w.heap.size ≤ k_) ∧ some k_ ≠ (.slice Ao110 y636.length co110 : Value).ownBlock ∧ k_ ≠ gb601 ∧ k_ ≠ gb602) (fun k_ => ((fun k_ => ((P2_0_ k_ ∨ P2_1_ k_) ∨ w.heap.size ≤ k_) ∧ some k_ ≠ (.slice Ao110 y636.length co110 : Value).ownBlock ∧ k_ ≠ gb601 ∧ k_ ≠ gb602)) k_ ∧ some k_ ≠ (u19 : Value).ownBlock) rfl rfl ?aP (fun _ hk => hk) ?aF ?aO ?aB ?aS ?aL ?_; (case aP => exact (Kd.FK_slice_mk (Kd.V_reads' HO_15.out).2.1 (Kd.V_F (Kd.V_mono (ok' := (fun k_ => ((fun k_ => ((P2_0_ k_ ∨ P2_1_ k_) ∨ w.heap.size ≤ k_) ∧ some k_ ≠ (.slice Ao110 y636.length co110 : Value).ownBlock ∧ k_ ≠ gb601 ∧ k_ ≠ gb602)) k_ ∧ some k_ ≠ (u19 : Value).ownBlock)) ((show Kd.V (Kd.int .i64) 3 _ _ (fun k_ => ((((((P2_0_ k_ ∨ P2_1_ k_) ∨ w.heap.size ≤ k_) ∧ k_ ≠ gb601) ∧ k_ ≠ gb602) ∧ some k_ ≠ (u19 : Value).ownBlock) ∧ some k_ ≠ (.slice Ao110 y636.length co110 : Value).ownBlock)) (.slice (some ad645) t621.length co119) t621 from by (with_reducible repeat (first | apply Kd.V_alloc | apply Kd.V_drewN | apply Kd.V_drew)); exact HO_15.out)) (fun k_ hk => ⟨⟨hk.1.1.1.1, ⟨hk.2, ⟨hk.1.1.1.2, hk.1.1.2⟩⟩⟩, hk.1.2⟩))))); (case aB => exact (bW2 HB.out GE601.out GE602.out)); (case aF => exact (fun k_ hk => ⟨(.inr (Nat.le_trans (below_size (bW2 HB.out GE601.out GE602.out)) hk)), Kd.fresh' (Kd.N_lt (nU HO_20.out)) k_ hk, Kd.freshB (g := gb601) (o := .cells #[.int .i64 a1_0, .int .i64 a1_1] 24 (0, 0)) (bkU BK601) k_ hk, Kd.freshB (g := gb602) (o := .cells #[.slice A2_0 l2_0.length c2_0, .slice A2_1 l2_1.length c2_1, .int .i64 a2_2, .int .i64 a2_3] 36 (0, 0)) (bkU BK602) k_ hk⟩)); (case aO => exact (by (with_reducible repeat (first | apply Kd.N_alloc | apply Kd.N_drewN | apply Kd.N_drew)); exact Kd.N_mono HO_19.out (fun _ hk => ⟨hk.1, ⟨hk.2.2.1, ⟨hk.2.2.2.1, hk.2.2.2.2⟩⟩⟩))); (case aS => exact (below_size (bW2 HB.out GE601.out GE602.out))); (case aL => have := LMc117.out; omega); intro v647 w120 ho hb hg hat; rw [← Ny646.out] at ho; have n0_ := A_ (Kd.V_afterv (ok := (fun k_ => ((P2_0_ k_ ∨ P2_1_ k_) ∨ w.heap.size ≤ k_) ∧ some k_ ≠ (.slice (some ad645) t621.length co119 : Value).ownBlock ∧ some k_ ≠ (.slice Ao110 y636.length co110 : Value).ownBlock ∧ k_ ≠ gb601 ∧ k_ ≠ gb602)) (by (with_reducible repeat (first | apply Kd.V_alloc | apply Kd.V_drewN | apply Kd.V_drew)); exact Kd.V_mono HO_7.out (fun _ hk => ⟨⟨hk.1, ⟨hk.2.1, ⟨hk.2.2.2.1, ⟨hk.2.2.2.2.1, hk.2.2.2.2.2⟩⟩⟩⟩, hk.2.2.1⟩)) hg hat); have n1_ := A_ (Kd.V_afterv (ok := (fun k_ => ((P2_0_ k_ ∨ P2_1_ k_) ∨ w.heap.size ≤ k_) ∧ some k_ ≠ (.slice (some ad645) t621.length co119 : Value).ownBlock ∧ some k_ ≠ (.slice Ao110 y636.length co110 : Value).ownBlock ∧ k_ ≠ gb601 ∧ k_ ≠ gb602)) (by (with_reducible repeat (first | apply Kd.V_alloc | apply Kd.V_drewN | apply Kd.V_drew)); exact Kd.V_mono HO_9.out (fun _ hk => ⟨⟨hk.1, ⟨hk.2.1, ⟨hk.2.2.2.1, ⟨hk.2.2.2.2.1, hk.2.2.2.2.2⟩⟩⟩⟩, hk.2.2.1⟩)) hg hat); have n2_ := A_ (Kd.V_afterv (ok := (fun k_ => ((P2_0_ k_ ∨ P2_1_ k_) ∨ w.heap.size ≤ k_) ∧ some k_ ≠ (.slice Ao110 y636.length co110 : Value).ownBlock ∧ k_ ≠ gb601 ∧ k_ ≠ gb602)) (by (with_reducible repeat (first | apply Kd.V_alloc | apply Kd.V_drewN | apply Kd.V_drew)); exact Kd.V_mono HO_15.out (fun _ hk => ⟨⟨hk.1.1.1.1, ⟨hk.2, ⟨hk.1.1.1.2, hk.1.1.2⟩⟩⟩, hk.1.2⟩)) hg hat); have n3_ := A_ (Kd.N_afterv (ok := (fun k_ => ((P2_0_ k_ ∨ P2_1_ k_) ∨ w.heap.size ≤ k_) ∧ some k_ ≠ (.slice (some ad645) t621.length co119 : Value).ownBlock ∧ k_ ≠ gb601 ∧ k_ ≠ gb602)) (by (with_reducible repeat (first | apply Kd.N_alloc | apply Kd.N_drewN | apply Kd.N_drew)); exact Kd.N_mono HO_20.out (fun _ hk => ⟨⟨hk.1, ⟨hk.2.1, ⟨hk.2.2.2.1, hk.2.2.2.2⟩⟩⟩, hk.2.2.1⟩)) hg hat); have n4_ := A_ (Kd.V_afterv (ok := (fun k_ => ((P2_0_ k_ ∨ P2_1_ k_) ∨ w.heap.size ≤ k_) ∧ some k_ ≠ (.slice (some ad645) t621.length co119 : Value).ownBlock ∧ some k_ ≠ (.slice Ao110 y636.length co110 : Value).ownBlock ∧ k_ ≠ gb601 ∧ k_ ≠ gb602)) (by (with_reducible repeat (first | apply Kd.V_alloc | apply Kd.V_drewN | apply Kd.V_drew)); exact Kd.V_mono HO_603000.out (fun _ hk => ⟨⟨hk.1, ⟨hk.2.1, ⟨hk.2.2.2.1, ⟨hk.2.2.2.2.1, hk.2.2.2.2.2⟩⟩⟩⟩, hk.2.2.1⟩)) hg hat); have n5_ := A_ (Kd.V_afterv (ok := (fun k_ => ((P2_0_ k_ ∨ P2_1_ k_) ∨ w.heap.size ≤ k_) ∧ some k_ ≠ (.slice (some ad645) t621.length co119 : Value).ownBlock ∧ some k_ ≠ (.slice Ao110 y636.length co110 : Value).ownBlock ∧ k_ ≠ gb601 ∧ k_ ≠ gb602)) (by (with_reducible repeat (first | apply Kd.V_alloc | apply Kd.V_drewN | apply Kd.V_drew)); exact Kd.V_mono HO_603001.out (fun _ hk => ⟨⟨hk.1, ⟨hk.2.1, ⟨hk.2.2.2.1, ⟨hk.2.2.2.2.1, hk.2.2.2.2.2⟩⟩⟩⟩, hk.2.2.1⟩)) hg hat); have n6_ := A_ (blk_grown (g := gb601) (o := .cells #[.int .i64 a1_0, .int .i64 a1_1] 24 (0, 0)) (bkU BK601) hg (Kd.N_ne HO_19.out BK601.out (by decide))); have n7_ := A_ (blk_grown (g := gb602) (o := .cells #[.slice A2_0 l2_0.length c2_0, .slice A2_1 l2_1.length c2_1, .int .i64 a2_2, .int .i64 a2_3] 36 (0, 0)) (bkU BK602) hg (Kd.N_ne HO_19.out BK602.out (by decide))); have n8_ := A_ (hb); have n9_ := A_ (ho); clear HO_7; clear HO_9; clear HO_15; clear HO_20; clear HO_603000; clear HO_603001; clear BK601; clear BK602; clear HB; clear HO_19; have HO_7 := n0_; have HO_9 := n1_; have HO_15 := n2_; have HO_20 := n3_; have HO_603000 := n4_; have HO_603001 := n5_; have BK601 := n6_; have BK602 := n7_; have HB := n8_; have HO648 := n9_; clear n0_ n1_ n2_ n3_ n4_ n5_ n6_ n7_ n8_ n9_; clear ho hb hg hat))
        (try subst hji113); go_meet
        case rel => exact ⟨_, (y646), H', ⟨by have := HJ3.out; have := HJ61.out; have := HK3.out; first | omega | exact Nat.le_refl _⟩, ⟨by (with_reducible repeat (first | apply Kd.V_alloc | apply Kd.V_drewN | apply Kd.V_drew)); exact Kd.V_mono HO_7.out (fun _ hk => ⟨hk.1.1, ⟨hk.2, ⟨hk.1.2.2.2.1, hk.1.2.2.2.2⟩⟩⟩)⟩, ⟨by (with_reducible repeat (first | apply Kd.V_alloc | apply Kd.V_drewN | apply Kd.V_drew)); exact Kd.V_mono HO_9.out (fun _ hk => ⟨hk.1.1, ⟨hk.2, ⟨hk.1.2.2.2.1, hk.1.2.2.2.2⟩⟩⟩)⟩, ⟨by (with_reducible repeat (first | apply Kd.V_alloc | apply Kd.V_drewN | apply Kd.V_drew)); exact Kd.V_mono HO_15.out (fun _ hk => ⟨hk.1.1, ⟨hk.2, ⟨hk.1.2.2.1, hk.1.2.2.2⟩⟩⟩)⟩, ⟨by (with_reducible repeat (first | apply Kd.N_alloc | apply Kd.N_drewN | apply Kd.N_drew)); exact Kd.N_mono HO648.out (fun _ hk => ⟨hk.1, ⟨hk.2.2.1, hk.2.2.2⟩⟩)⟩, ⟨by (with_reducible repeat (first | apply Kd.V_alloc | apply Kd.V_drewN | apply Kd.V_drew)); exact Kd.V_mono HO_603000.out (fun _ hk => ⟨hk.1.1, ⟨hk.2, ⟨hk.1.2.2.2.1, hk.1.2.2.2.2⟩⟩⟩)⟩, ⟨by (with_reducible repeat (first | apply Kd.V_alloc | apply Kd.V_drewN | apply Kd.V_drew)); exact Kd.V_mono HO_603001.out (fun _ hk => ⟨hk.1.1, ⟨hk.2, ⟨hk.1.2.2.2.1, hk.1.2.2.2.2⟩⟩⟩)⟩, ⟨bkU BK601⟩, ⟨bkU BK602⟩, ⟨by repeat (first | (with_reducible first | exact HB.out | apply below_alloc | apply pw_below_drewN | apply below_drew1 | refine below_set ?_ GE601.out | refine below_set ?_ GE602.out) | exact HB.out)⟩⟩
       case rest => as_aux_lemma =>
        clear HC109
        try clear c1
        try clear c2
        try clear p2
        try clear c6
        try clear p6
        try clear q6
        try clear hx6
        try clear c9
        try clear c10
        try clear c11
        try clear c24
        try clear c63
        try clear p63
        try clear q63
        try clear hx63
        try clear c64
        try clear p64
        try clear q64
        try clear hx64
        try clear c97
        try clear c97b0
        try clear c98
        try clear c100
        try clear c101
        try clear c111
        try clear c111b0
        try clear c111b1
        try clear c112
        try clear c112b0
        try clear c112b1
        try clear c112b2
        try clear c114
        try clear c114b0
        try clear c115
        try clear c115b0
        try clear c116
        try clear c116b0
        try clear c116b1
        try clear c117
        try clear hx639_0
        try clear hx641_0
        try clear hx645_0
        try clear p639
        try clear p641
        try clear p645
        try clear q639
        try clear q641
        try clear q645
        (try clear HO_7); (try clear HO_9); (try clear HO_15); (try clear HO_19); (try clear HO_603000); (try clear HO_603001); (try clear BK601); (try clear BK602); (try clear HB); skip
        obtain ⟨kq, x19_108, HA, HJ108, HO_7, HO_9, HO_15, HO_19, HO_603000, HO_603001, BK601, BK602, HB⟩ := hcut
        cases kq with
        | zero => exact absurd HA.out (by simp [droppertop_TopWire.j3])
        | succ kj108 =>
         have H := HA.out; clear HA; simp only [droppertop_TopWire.j3] at H; have HC121 := A_ H; clear H
         go_upto_region 24 with (fail)
         go_cut [250] (fun v250 wc => ∃ (kq : Nat) (x250_120 : Bool), v250 = .bool x250_120 ∧ Aside0 (droppertop_TopWire.j4 kq l0 t610 t614 (wrap64 (Int.tmod (IntKind.u64.wrap (a2_2)) (IntKind.u64.wrap ((l0.length : Int))))) t621 t622 x19_108 x250_120 a1_0 a1_1 l2_0 l2_1 a2_2 a2_3 = some r) ∧ Aside0 (kq ≤ kj108) ∧ Aside0 (Kd.V (Kd.int .i64) 3 wc w.heap.size (fun k_ => ((P2_0_ k_ ∨ P2_1_ k_) ∨ w.heap.size ≤ k_) ∧ some k_ ≠ (u19 : Value).ownBlock ∧ k_ ≠ gb601 ∧ k_ ≠ gb602) (.slice Ao89 t610.length co89) t610) ∧ Aside0 (Kd.V (Kd.int .i64) 3 wc w.heap.size (fun k_ => ((P2_0_ k_ ∨ P2_1_ k_) ∨ w.heap.size ≤ k_) ∧ some k_ ≠ (u19 : Value).ownBlock ∧ k_ ≠ gb601 ∧ k_ ≠ gb602) (.slice Ao90 t614.length co90) t614) ∧ Aside0 (Kd.V (Kd.int .i64) 3 wc w.heap.size (fun k_ => ((P2_0_ k_ ∨ P2_1_ k_) ∨ w.heap.size ≤ k_) ∧ some k_ ≠ (u19 : Value).ownBlock ∧ k_ ≠ gb601 ∧ k_ ≠ gb602) v623 t621) ∧ Aside0 (Kd.N (Kd.slice 3 (Kd.int .i64)) 34 wc w.heap.size (fun k_ => ((P2_0_ k_ ∨ P2_1_ k_) ∨ w.heap.size ≤ k_) ∧ k_ ≠ gb601 ∧ k_ ≠ gb602) u19 x19_108) ∧ Aside0 (Kd.V (Kd.int .i64) 3 wc w.heap.size (fun k_ => ((P2_0_ k_ ∨ P2_1_ k_) ∨ w.heap.size ≤ k_) ∧ some k_ ≠ (u19 : Value).ownBlock ∧ k_ ≠ gb601 ∧ k_ ≠ gb602) (.slice A2_0 l2_0.length c2_0) l2_0) ∧ Aside0 (Kd.V (Kd.int .i64) 3 wc w.heap.size (fun k_ => ((P2_0_ k_ ∨ P2_1_ k_) ∨ w.heap.size ≤ k_) ∧ some k_ ≠ (u19 : Value).ownBlock ∧ k_ ≠ gb601 ∧ k_ ≠ gb602) (.slice A2_1 l2_1.length c2_1) l2_1) ∧ Aside0 (wc.heap[gb601]? = some (.cells #[.int .i64 a1_0, .int .i64 a1_1] 24 (0, 0))) ∧ Aside0 (wc.heap[gb602]? = some (.cells #[(.slice A2_0 l2_0.length c2_0), (.slice A2_1 l2_1.length c2_1), .int .i64 a2_2, .int .i64 a2_3] 36 (0, 0))) ∧ Aside0 (Below w.heap.size w wc))
         case first => as_aux_lemma =>
          have H := HC121.out; clear HC121; obtain ⟨ji122, hji122⟩ : ∃ j_ : Int, (wrap64 (Int.tmod (IntKind.u64.wrap (a2_2)) (IntKind.u64.wrap ((l0.length : Int))))) = j_ := ⟨_, rfl⟩
          replace H : (if 0 ≤ (ji122) then (if (ji122) < (t610.length : Int) then (if (rd t610 (ji122)) ≤ a2_3 then (if (ji122) < (t614.length : Int) then (if ((t622 == 0) != (decide (a2_3 ≤ (rd t614 (ji122))))) = true then (droppertop_TopWire.j4 kj108 l0 t610 t614 (ji122) t621 t622 x19_108 true a1_0 a1_1 l2_0 l2_1 a2_2 a2_3) else (if t622 = 0 then (droppertop_TopWire.j4 kj108 l0 t610 t614 (ji122) t621 t622 x19_108 false a1_0 a1_1 l2_0 l2_1 a2_2 a2_3) else (droppertop_TopWire.j4 kj108 l0 t610 t614 (ji122) t621 t622 x19_108 (t622 != 5) a1_0 a1_1 l2_0 l2_1 a2_2 a2_3))) else (none)) else (if ((t622 == 0) != false) = true then (droppertop_TopWire.j4 kj108 l0 t610 t614 (ji122) t621 t622 x19_108 true a1_0 a1_1 l2_0 l2_1 a2_2 a2_3) else (if t622 = 0 then (droppertop_TopWire.j4 kj108 l0 t610 t614 (ji122) t621 t622 x19_108 false a1_0 a1_1 l2_0 l2_1 a2_2 a2_3) else (droppertop_TopWire.j4 kj108 l0 t610 t614 (ji122) t621 t622 x19_108 (t622 != 5) a1_0 a1_1 l2_0 l2_1 a2_2 a2_3)))) else (none)) else (none)) = some r := by first | (rw [hji122] at H; exact H) | (simp only [hji122] at H ⊢; exact H)
          have hji122w : (IntKind.i64.wrap (Int.tmod (IntKind.u64.wrap (a2_2)) (IntKind.u64.wrap ((l0.length : Int))))) = ji122 := (i64_w _).trans hji122; by_cases c123 : 0 ≤ (ji122); rotate_left
          ·rw [if_neg c123] at H
           exact absurd H (by simp)
          rw [if_pos c123] at H; have c123b0 : decide (0 ≤ (ji122)) = true := decide_eq_true c123; clear c123
          (first | rw [c123b0] | (simp only [i64_w, i32_w]; rw [c123b0]) | skip)
          by_cases c124 : (ji122) < (t610.length : Int); rotate_left
          ·rw [if_neg c124] at H
           exact absurd H (by simp)
          rw [if_pos c124] at H; have c124b0 : decide ((ji122) < (t610.length : Int)) = true := decide_eq_true c124; clear c124; by_cases c125 : (rd t610 (ji122)) ≤ a2_3; rotate_left
          ·rw [if_neg c125] at H; have c125b0 : decide ((rd t610 (ji122)) ≤ a2_3) = false := decide_eq_false c125; clear c125; by_cases c131 : ((t622 == 0) != false) = true
           ·rw [if_pos c131] at H; have c131b0 : ((t622 == 0) != false) = true := c131
            (try (have c131b1 : decide ((t622 == 0) = false) = false := by simpa using c131))
            (try (have c131b2 : ((t622 == 0) == false) = false := by simpa using c131))
            (try (have c131b3 : ¬ ((t622 == 0) = false) := by simpa using c131))
            clear c131; exact absurd (H.trans (congrArg some hT)) (droppertop_TopWire.j4_no _ _ _ _ _ _ _ _ _ _ _ _ _ _)
           rw [if_neg c131] at H
           have c131b0 : ((t622 == 0) != false) = false := by simpa using c131
           (try (have c131b1 : decide ((t622 == 0) = false) = true := by simpa using c131))
           (try (have c131b2 : ((t622 == 0) == false) = true := by simpa using c131))
           clear c131; by_cases c132 : t622 = 0; rotate_left
           ·rw [if_neg c132] at H; have c132b0 : (t622 == 0) = false := beq_eq_false_iff_ne.mpr c132; have c132b1 : (t622 != 0) = true := bne_iff_ne.mpr c132; have H' := A_ H; clear H
            try go_wp2
            have n0_ := A_ (Kd.V_drew HO_7.out); have n1_ := A_ (Kd.V_drew HO_9.out); have n2_ := A_ (Kd.V_drew HO_15.out); have n3_ := A_ (Kd.N_drew HO_19.out); have n4_ := A_ (Kd.V_drew HO_603000.out); have n5_ := A_ (Kd.V_drew HO_603001.out); have n6_ := A_ (blk_drew BK601.out); have n7_ := A_ (blk_drew BK602.out); have n8_ := A_ (below_drew1 HB.out); clear HO_7 HO_9 HO_15 HO_19 HO_603000 HO_603001 BK601 BK602 HB; have HO_7 := n0_; have HO_9 := n1_; have HO_15 := n2_; have HO_19 := n3_; have HO_603000 := n4_; have HO_603001 := n5_; have BK601 := n6_; have BK602 := n7_; have HB := n8_; clear n0_ n1_ n2_ n3_ n4_ n5_ n6_ n7_ n8_
            have p649 : 0 ≤ ((ji122) : Int) := of_decide_eq_true (by first | (with_reducible assumption) | assumption)
            have q649 : (ji122) < (t610.length : Int) := of_decide_eq_true (by first | (with_reducible assumption) | assumption)
            obtain ⟨ad649, e649, hx649_0⟩ := Kd.at_int (Kd.V_reads' HO_7.out).2.2 (ji122) p649 q649
            cases e649
            replace p649 := eq_true p649; replace q649 := eq_true q649
            refine start_ (n := 27) (S := fun w' => w'.cell? ⟨gb602, 0, none⟩ = some (.slice A2_0 l2_0.length c2_0) ∧ w'.cell? ⟨gb602, 1, none⟩ = some (.slice A2_1 l2_1.length c2_1) ∧ w'.cell? ⟨gb602, 2, none⟩ = some (.int .i64 a2_2) ∧ w'.cell? ⟨gb602, 3, none⟩ = some (.int .i64 a2_3) ∧ w'.cell? (ad649.add ((ji122)).toNat) = some (.int .i64 (rd t610 (ji122)))) (ds := []) (mkB 27 0) (by kernel_rfl) rfl rfl ⟨(blk_cell BK602.out 0).trans rfl, (blk_cell BK602.out 1).trans rfl, (blk_cell BK602.out 2).trans rfl, (blk_cell BK602.out 3).trans rfl, hx649_0⟩ (fun hHeld => ?_); refine with_tabW droppertop_TopWire.tab24 droppertop_TopWire.bits24 (fun HT_ HW_ => ?_)
            generalize wc.drew = w134 at HO_7 HO_9 HO_15 HO_19 HO_603000 HO_603001 BK601 BK602 HB hx649_0 hHeld ⊢; refine pr_ 0 (some 224) (mkB 27 1) HT_ ?_; refine pr_ 1 (some 225) (mkB 27 3) HT_ ?_; refine pr_ 2 (some 226) (mkB 27 7) HT_ ?_; refine pr_ 3 (some 227) (mkB 27 15) HT_ ?_; refine pr_ 4 (some 228) (mkB 27 31) HT_ ?_; refine pr_ 6 (some 230) (mkB 27 95) HT_ ?_
            refine take_ (i := 5) (N := some 229) (v := ?_) (a' := ?_) (mkB 27 127) rfl rfl (take_ofW HT_.out HW_.out (by kernel_rfl)) (fun _ _ _ h => h) (Or.inl ⟨by rfl, ?_⟩) hHeld ?_ ?_
            rotate_left
            ·rintro w' ⟨s0, s1, s2, s3, s4⟩
             go_simp
             with_reducible rfl
            rotate_left
            ·simp only [Act.put, List.setIfInBounds_toArray, List.set_cons_zero, List.set_cons_succ, i64_w, i32_w]
             rfl
            refine take_ (i := 7) (N := some 231) (v := ?_) (a' := ?_) (mkB 27 255) rfl rfl (take_ofW HT_.out HW_.out (by kernel_rfl)) (fun _ _ _ h => h) (Or.inl ⟨by rfl, ?_⟩) hHeld ?_ ?_
            rotate_left
            ·rintro w' ⟨s0, s1, s2, s3, s4⟩
             go_simp
             with_reducible rfl
            rotate_left
            ·simp only [Act.put, List.setIfInBounds_toArray, List.set_cons_zero, List.set_cons_succ, i64_w, i32_w]
             rfl
            refine pr_ 8 (some 232) (mkB 27 511) HT_ ?_; refine pr_ 9 (some 233) (mkB 27 1023) HT_ ?_; refine pu_ 10 (some 234) (mkB 27 2047) HT_ ?_; refine pu_ 11 (some 235) (mkB 27 4095) HT_ ?_; refine pu_ 12 (some 236) (mkB 27 8191) HT_ ?_; refine pu_ 13 (some 237) (mkB 27 16383) HT_ ?_; refine pu_ 14 (some 238) (mkB 27 32767) HT_ ?_; refine pu_ 15 (some 239) (mkB 27 65535) HT_ ?_; refine pu_ 16 (some 240) (mkB 27 131071) HT_ ?_; refine pr_ 17 (some 241) (mkB 27 262143) HT_ ?_; refine pr_ 18 (some 242) (mkB 27 524287) HT_ ?_; refine pr_ 19 (some 243) (mkB 27 1048575) HT_ ?_; refine pr_ 20 (some 244) (mkB 27 2097151) HT_ ?_; refine pr_ 21 (some 245) (mkB 27 4194303) HT_ ?_; refine pr_ 22 (some 246) (mkB 27 8388607) HT_ ?_; refine pr_ 23 (some 247) (mkB 27 16777215) HT_ ?_; refine pr_ 24 (some 248) (mkB 27 33554431) HT_ ?_; refine pr_ 25 (some 249) (mkB 27 67108863) HT_ ?_; refine pr_ 26 (some 250) (mkB 27 134217727) HT_ ?_
            refine done_ (done_of HT_.out (by kernel_rfl)) ?_
            try go_wp2
            (try subst hji122); go_meet
            case rel => exact ⟨_, ((t622 != 5)), (by first | rfl | (simp; done) | (simp [*]; done)), H', ⟨by have := HJ3.out; have := HJ61.out; have := HK3.out; have := HJ108.out; first | omega | exact Nat.le_refl _⟩, ⟨vU HO_7.out⟩, ⟨vU HO_9.out⟩, ⟨vU HO_15.out⟩, ⟨nU HO_19.out⟩, ⟨vU HO_603000.out⟩, ⟨vU HO_603001.out⟩, ⟨bkU BK601⟩, ⟨bkU BK602⟩, ⟨by repeat (first | (with_reducible first | exact HB.out | apply below_alloc | apply pw_below_drewN | apply below_drew1 | refine below_set ?_ GE601.out | refine below_set ?_ GE602.out) | exact HB.out)⟩⟩
           exact absurd c131b0 (by rw [beq_iff_eq.mpr c132]; decide)
          rw [if_pos c125] at H; have c125b0 : decide ((rd t610 (ji122)) ≤ a2_3) = true := decide_eq_true c125; clear c125; by_cases c126 : (ji122) < (t614.length : Int); rotate_left
          ·rw [if_neg c126] at H
           exact absurd H (by simp)
          rw [if_pos c126] at H; have c126b0 : decide ((ji122) < (t614.length : Int)) = true := decide_eq_true c126; clear c126; by_cases c127 : ((t622 == 0) != (decide (a2_3 ≤ (rd t614 (ji122))))) = true
          ·rw [if_pos c127] at H; have c127b0 : ((t622 == 0) != (decide (a2_3 ≤ (rd t614 (ji122))))) = true := c127
           (try (have c127b1 : decide ((t622 == 0) = (decide (a2_3 ≤ (rd t614 (ji122))))) = false := by simpa using c127))
           (try (have c127b2 : ((t622 == 0) == (decide (a2_3 ≤ (rd t614 (ji122))))) = false := by simpa using c127))
           (try (have c127b3 : ¬ ((t622 == 0) = (decide (a2_3 ≤ (rd t614 (ji122))))) := by simpa using c127))
           clear c127; exact absurd (H.trans (congrArg some hT)) (droppertop_TopWire.j4_no _ _ _ _ _ _ _ _ _ _ _ _ _ _)
          rw [if_neg c127] at H
          have c127b0 : ((t622 == 0) != (decide (a2_3 ≤ (rd t614 (ji122))))) = false := by simpa using c127
          (try (have c127b1 : decide ((t622 == 0) = (decide (a2_3 ≤ (rd t614 (ji122))))) = true := by simpa using c127))
          (try (have c127b2 : ((t622 == 0) == (decide (a2_3 ≤ (rd t614 (ji122))))) = true := by simpa using c127))
          clear c127; by_cases c128 : t622 = 0; rotate_left
          ·rw [if_neg c128] at H; have c128b0 : (t622 == 0) = false := beq_eq_false_iff_ne.mpr c128; have q128 : decide (a2_3 ≤ (rd t614 (ji122))) = false := (by have h_ := c127b0; rw [c128b0] at h_; revert h_; cases decide (a2_3 ≤ (rd t614 (ji122))) <;> decide); have c128b1 : (t622 != 0) = true := bne_iff_ne.mpr c128; have H' := A_ H; clear H
           try go_wp2
           have n0_ := A_ (Kd.V_drew HO_7.out); have n1_ := A_ (Kd.V_drew HO_9.out); have n2_ := A_ (Kd.V_drew HO_15.out); have n3_ := A_ (Kd.N_drew HO_19.out); have n4_ := A_ (Kd.V_drew HO_603000.out); have n5_ := A_ (Kd.V_drew HO_603001.out); have n6_ := A_ (blk_drew BK601.out); have n7_ := A_ (blk_drew BK602.out); have n8_ := A_ (below_drew1 HB.out); clear HO_7 HO_9 HO_15 HO_19 HO_603000 HO_603001 BK601 BK602 HB; have HO_7 := n0_; have HO_9 := n1_; have HO_15 := n2_; have HO_19 := n3_; have HO_603000 := n4_; have HO_603001 := n5_; have BK601 := n6_; have BK602 := n7_; have HB := n8_; clear n0_ n1_ n2_ n3_ n4_ n5_ n6_ n7_ n8_
           have p649 : 0 ≤ ((ji122) : Int) := of_decide_eq_true (by first | (with_reducible assumption) | assumption)
           have q649 : (ji122) < (t610.length : Int) := of_decide_eq_true (by first | (with_reducible assumption) | assumption)
           obtain ⟨ad649, e649, hx649_0⟩ := Kd.at_int (Kd.V_reads' HO_7.out).2.2 (ji122) p649 q649
           cases e649
           replace p649 := eq_true p649; replace q649 := eq_true q649
           have p650 : 0 ≤ ((ji122) : Int) := of_decide_eq_true (by first | (with_reducible assumption) | assumption)
           have q650 : (ji122) < (t614.length : Int) := of_decide_eq_true (by first | (with_reducible assumption) | assumption)
           obtain ⟨ad650, e650, hx650_0⟩ := Kd.at_int (Kd.V_reads' HO_9.out).2.2 (ji122) p650 q650
           cases e650
           replace p650 := eq_true p650; replace q650 := eq_true q650
           refine start_ (n := 27) (S := fun w' => w'.cell? ⟨gb602, 0, none⟩ = some (.slice A2_0 l2_0.length c2_0) ∧ w'.cell? ⟨gb602, 1, none⟩ = some (.slice A2_1 l2_1.length c2_1) ∧ w'.cell? ⟨gb602, 2, none⟩ = some (.int .i64 a2_2) ∧ w'.cell? ⟨gb602, 3, none⟩ = some (.int .i64 a2_3) ∧ w'.cell? (ad649.add ((ji122)).toNat) = some (.int .i64 (rd t610 (ji122))) ∧ w'.cell? (ad650.add ((ji122)).toNat) = some (.int .i64 (rd t614 (ji122)))) (ds := []) (mkB 27 0) (by kernel_rfl) rfl rfl ⟨(blk_cell BK602.out 0).trans rfl, (blk_cell BK602.out 1).trans rfl, (blk_cell BK602.out 2).trans rfl, (blk_cell BK602.out 3).trans rfl, hx649_0, hx650_0⟩ (fun hHeld => ?_); refine with_tabW droppertop_TopWire.tab24 droppertop_TopWire.bits24 (fun HT_ HW_ => ?_)
           generalize wc.drew = w130 at HO_7 HO_9 HO_15 HO_19 HO_603000 HO_603001 BK601 BK602 HB hx649_0 hx650_0 hHeld ⊢; refine pr_ 0 (some 224) (mkB 27 1) HT_ ?_; refine pr_ 1 (some 225) (mkB 27 3) HT_ ?_; refine pr_ 2 (some 226) (mkB 27 7) HT_ ?_; refine pr_ 3 (some 227) (mkB 27 15) HT_ ?_; refine pr_ 4 (some 228) (mkB 27 31) HT_ ?_; refine pr_ 6 (some 230) (mkB 27 95) HT_ ?_
           refine take_ (i := 5) (N := some 229) (v := ?_) (a' := ?_) (mkB 27 127) rfl rfl (take_ofW HT_.out HW_.out (by kernel_rfl)) (fun _ _ _ h => h) (Or.inl ⟨by rfl, ?_⟩) hHeld ?_ ?_
           rotate_left
           ·rintro w' ⟨s0, s1, s2, s3, s4, s5⟩
            go_simp
            with_reducible rfl
           rotate_left
           ·simp only [Act.put, List.setIfInBounds_toArray, List.set_cons_zero, List.set_cons_succ, i64_w, i32_w]
            rfl
           refine take_ (i := 7) (N := some 231) (v := ?_) (a' := ?_) (mkB 27 255) rfl rfl (take_ofW HT_.out HW_.out (by kernel_rfl)) (fun _ _ _ h => h) (Or.inl ⟨by rfl, ?_⟩) hHeld ?_ ?_
           rotate_left
           ·rintro w' ⟨s0, s1, s2, s3, s4, s5⟩
            go_simp
            with_reducible rfl
           rotate_left
           ·simp only [Act.put, List.setIfInBounds_toArray, List.set_cons_zero, List.set_cons_succ, i64_w, i32_w]
            rfl
           refine pr_ 8 (some 232) (mkB 27 511) HT_ ?_; refine pr_ 9 (some 233) (mkB 27 1023) HT_ ?_; refine pr_ 10 (some 234) (mkB 27 2047) HT_ ?_; refine pr_ 12 (some 236) (mkB 27 6143) HT_ ?_; refine pr_ 13 (some 237) (mkB 27 14335) HT_ ?_; refine pr_ 14 (some 238) (mkB 27 30719) HT_ ?_
           refine take_ (i := 11) (N := some 235) (v := ?_) (a' := ?_) (mkB 27 32767) rfl rfl (take_ofW HT_.out HW_.out (by kernel_rfl)) (fun _ _ _ h => h) (Or.inl ⟨by rfl, ?_⟩) hHeld ?_ ?_
           rotate_left
           ·rintro w' ⟨s0, s1, s2, s3, s4, s5⟩
            go_simp
            with_reducible rfl
           rotate_left
           ·simp only [Act.put, List.setIfInBounds_toArray, List.set_cons_zero, List.set_cons_succ, i64_w, i32_w]
            rfl
           refine take_ (i := 15) (N := some 239) (v := ?_) (a' := ?_) (mkB 27 65535) rfl rfl (take_ofW HT_.out HW_.out (by kernel_rfl)) (fun _ _ _ h => h) (Or.inl ⟨by rfl, ?_⟩) hHeld ?_ ?_
           rotate_left
           ·rintro w' ⟨s0, s1, s2, s3, s4, s5⟩
            go_simp
            with_reducible rfl
           rotate_left
           ·simp only [Act.put, List.setIfInBounds_toArray, List.set_cons_zero, List.set_cons_succ, i64_w, i32_w]
            rfl
           refine pr_ 16 (some 240) (mkB 27 131071) HT_ ?_; refine pr_ 17 (some 241) (mkB 27 262143) HT_ ?_; refine pr_ 18 (some 242) (mkB 27 524287) HT_ ?_; refine pr_ 19 (some 243) (mkB 27 1048575) HT_ ?_; refine pr_ 20 (some 244) (mkB 27 2097151) HT_ ?_; refine pr_ 21 (some 245) (mkB 27 4194303) HT_ ?_; refine pr_ 22 (some 246) (mkB 27 8388607) HT_ ?_; refine pr_ 23 (some 247) (mkB 27 16777215) HT_ ?_; refine pr_ 24 (some 248) (mkB 27 33554431) HT_ ?_; refine pr_ 25 (some 249) (mkB 27 67108863) HT_ ?_; refine pr_ 26 (some 250) (mkB 27 134217727) HT_ ?_
           refine done_ (done_of HT_.out (by kernel_rfl)) ?_
           try go_wp2
           (try subst hji122); go_meet
           case rel => exact ⟨_, ((t622 != 5)), (by first | rfl | (simp; done) | (simp [*]; done)), H', ⟨by have := HJ3.out; have := HJ61.out; have := HK3.out; have := HJ108.out; first | omega | exact Nat.le_refl _⟩, ⟨vU HO_7.out⟩, ⟨vU HO_9.out⟩, ⟨vU HO_15.out⟩, ⟨nU HO_19.out⟩, ⟨vU HO_603000.out⟩, ⟨vU HO_603001.out⟩, ⟨bkU BK601⟩, ⟨bkU BK602⟩, ⟨by repeat (first | (with_reducible first | exact HB.out | apply below_alloc | apply pw_below_drewN | apply below_drew1 | refine below_set ?_ GE601.out | refine below_set ?_ GE602.out) | exact HB.out)⟩⟩
          rw [if_pos c128] at H; have c128b0 : (t622 == 0) = true := beq_iff_eq.mpr c128; have q128 : decide (a2_3 ≤ (rd t614 (ji122))) = true := (by have h_ := c127b0; rw [c128b0] at h_; revert h_; cases decide (a2_3 ≤ (rd t614 (ji122))) <;> decide); have c128b1 : (t622 != 0) = false := bne_eq_false_iff_eq.mpr c128; clear c128; have H' := A_ H; clear H
          try go_wp2
          have n0_ := A_ (Kd.V_drew HO_7.out); have n1_ := A_ (Kd.V_drew HO_9.out); have n2_ := A_ (Kd.V_drew HO_15.out); have n3_ := A_ (Kd.N_drew HO_19.out); have n4_ := A_ (Kd.V_drew HO_603000.out); have n5_ := A_ (Kd.V_drew HO_603001.out); have n6_ := A_ (blk_drew BK601.out); have n7_ := A_ (blk_drew BK602.out); have n8_ := A_ (below_drew1 HB.out); clear HO_7 HO_9 HO_15 HO_19 HO_603000 HO_603001 BK601 BK602 HB; have HO_7 := n0_; have HO_9 := n1_; have HO_15 := n2_; have HO_19 := n3_; have HO_603000 := n4_; have HO_603001 := n5_; have BK601 := n6_; have BK602 := n7_; have HB := n8_; clear n0_ n1_ n2_ n3_ n4_ n5_ n6_ n7_ n8_
          have p649 : 0 ≤ ((ji122) : Int) := of_decide_eq_true (by first | (with_reducible assumption) | assumption)
          have q649 : (ji122) < (t610.length : Int) := of_decide_eq_true (by first | (with_reducible assumption) | assumption)
          obtain ⟨ad649, e649, hx649_0⟩ := Kd.at_int (Kd.V_reads' HO_7.out).2.2 (ji122) p649 q649
          cases e649
          replace p649 := eq_true p649; replace q649 := eq_true q649
          have p650 : 0 ≤ ((ji122) : Int) := of_decide_eq_true (by first | (with_reducible assumption) | assumption)
          have q650 : (ji122) < (t614.length : Int) := of_decide_eq_true (by first | (with_reducible assumption) | assumption)
          obtain ⟨ad650, e650, hx650_0⟩ := Kd.at_int (Kd.V_reads' HO_9.out).2.2 (ji122) p650 q650
          cases e650
          replace p650 := eq_true p650; replace q650 := eq_true q650
          refine start_ (n := 27) (S := fun w' => w'.cell? ⟨gb602, 0, none⟩ = some (.slice A2_0 l2_0.length c2_0) ∧ w'.cell? ⟨gb602, 1, none⟩ = some (.slice A2_1 l2_1.length c2_1) ∧ w'.cell? ⟨gb602, 2, none⟩ = some (.int .i64 a2_2) ∧ w'.cell? ⟨gb602, 3, none⟩ = some (.int .i64 a2_3) ∧ w'.cell? (ad649.add ((ji122)).toNat) = some (.int .i64 (rd t610 (ji122))) ∧ w'.cell? (ad650.add ((ji122)).toNat) = some (.int .i64 (rd t614 (ji122)))) (ds := []) (mkB 27 0) (by kernel_rfl) rfl rfl ⟨(blk_cell BK602.out 0).trans rfl, (blk_cell BK602.out 1).trans rfl, (blk_cell BK602.out 2).trans rfl, (blk_cell BK602.out 3).trans rfl, hx649_0, hx650_0⟩ (fun hHeld => ?_); refine with_tabW droppertop_TopWire.tab24 droppertop_TopWire.bits24 (fun HT_ HW_ => ?_)
          generalize wc.drew = w129 at HO_7 HO_9 HO_15 HO_19 HO_603000 HO_603001 BK601 BK602 HB hx649_0 hx650_0 hHeld ⊢; refine pr_ 0 (some 224) (mkB 27 1) HT_ ?_; refine pr_ 1 (some 225) (mkB 27 3) HT_ ?_; refine pr_ 2 (some 226) (mkB 27 7) HT_ ?_; refine pr_ 3 (some 227) (mkB 27 15) HT_ ?_; refine pr_ 4 (some 228) (mkB 27 31) HT_ ?_; refine pr_ 6 (some 230) (mkB 27 95) HT_ ?_
          refine take_ (i := 5) (N := some 229) (v := ?_) (a' := ?_) (mkB 27 127) rfl rfl (take_ofW HT_.out HW_.out (by kernel_rfl)) (fun _ _ _ h => h) (Or.inl ⟨by rfl, ?_⟩) hHeld ?_ ?_
          rotate_left
          ·rintro w' ⟨s0, s1, s2, s3, s4, s5⟩
           go_simp
           with_reducible rfl
          rotate_left
          ·simp only [Act.put, List.setIfInBounds_toArray, List.set_cons_zero, List.set_cons_succ, i64_w, i32_w]
           rfl
          refine take_ (i := 7) (N := some 231) (v := ?_) (a' := ?_) (mkB 27 255) rfl rfl (take_ofW HT_.out HW_.out (by kernel_rfl)) (fun _ _ _ h => h) (Or.inl ⟨by rfl, ?_⟩) hHeld ?_ ?_
          rotate_left
          ·rintro w' ⟨s0, s1, s2, s3, s4, s5⟩
           go_simp
           with_reducible rfl
          rotate_left
          ·simp only [Act.put, List.setIfInBounds_toArray, List.set_cons_zero, List.set_cons_succ, i64_w, i32_w]
           rfl
          refine pr_ 8 (some 232) (mkB 27 511) HT_ ?_; refine pr_ 9 (some 233) (mkB 27 1023) HT_ ?_; refine pr_ 10 (some 234) (mkB 27 2047) HT_ ?_; refine pr_ 12 (some 236) (mkB 27 6143) HT_ ?_; refine pr_ 13 (some 237) (mkB 27 14335) HT_ ?_; refine pr_ 14 (some 238) (mkB 27 30719) HT_ ?_
          refine take_ (i := 11) (N := some 235) (v := ?_) (a' := ?_) (mkB 27 32767) rfl rfl (take_ofW HT_.out HW_.out (by kernel_rfl)) (fun _ _ _ h => h) (Or.inl ⟨by rfl, ?_⟩) hHeld ?_ ?_
          rotate_left
          ·rintro w' ⟨s0, s1, s2, s3, s4, s5⟩
           go_simp
           with_reducible rfl
          rotate_left
          ·simp only [Act.put, List.setIfInBounds_toArray, List.set_cons_zero, List.set_cons_succ, i64_w, i32_w]
           rfl
          refine take_ (i := 15) (N := some 239) (v := ?_) (a' := ?_) (mkB 27 65535) rfl rfl (take_ofW HT_.out HW_.out (by kernel_rfl)) (fun _ _ _ h => h) (Or.inl ⟨by rfl, ?_⟩) hHeld ?_ ?_
          rotate_left
          ·rintro w' ⟨s0, s1, s2, s3, s4, s5⟩
           go_simp
           with_reducible rfl
          rotate_left
          ·simp only [Act.put, List.setIfInBounds_toArray, List.set_cons_zero, List.set_cons_succ, i64_w, i32_w]
           rfl
          refine pr_ 16 (some 240) (mkB 27 131071) HT_ ?_; refine pr_ 17 (some 241) (mkB 27 262143) HT_ ?_; refine pr_ 18 (some 242) (mkB 27 524287) HT_ ?_; refine pr_ 19 (some 243) (mkB 27 1048575) HT_ ?_; refine pr_ 20 (some 244) (mkB 27 2097151) HT_ ?_; refine pr_ 21 (some 245) (mkB 27 4194303) HT_ ?_; refine pr_ 22 (some 246) (mkB 27 8388607) HT_ ?_; refine pu_ 23 (some 247) (mkB 27 16777215) HT_ ?_; refine pu_ 24 (some 248) (mkB 27 33554431) HT_ ?_; refine pr_ 25 (some 249) (mkB 27 67108863) HT_ ?_; refine pr_ 26 (some 250) (mkB 27 134217727) HT_ ?_
          refine done_ (done_of HT_.out (by kernel_rfl)) ?_
          try go_wp2
          (try subst hji122); go_meet
          case rel => exact ⟨_, (false), (by first | rfl | (simp; done) | (simp [*]; done)), H', ⟨by have := HJ3.out; have := HJ61.out; have := HK3.out; have := HJ108.out; first | omega | exact Nat.le_refl _⟩, ⟨vU HO_7.out⟩, ⟨vU HO_9.out⟩, ⟨vU HO_15.out⟩, ⟨nU HO_19.out⟩, ⟨vU HO_603000.out⟩, ⟨vU HO_603001.out⟩, ⟨bkU BK601⟩, ⟨bkU BK602⟩, ⟨by repeat (first | (with_reducible first | exact HB.out | apply below_alloc | apply pw_below_drewN | apply below_drew1 | refine below_set ?_ GE601.out | refine below_set ?_ GE602.out) | exact HB.out)⟩⟩
         case rest => as_aux_lemma =>
          clear HC121
          try clear c1
          try clear c2
          try clear p2
          try clear p6
          try clear q6
          try clear hx6
          try clear c12
          try clear c13
          try clear p64
          try clear q64
          try clear hx64
          try clear c123
          try clear c124
          try clear c125
          try clear c125b0
          try clear c126
          try clear c131
          try clear c131b0
          try clear c131b1
          try clear c131b2
          try clear c132
          try clear c132b0
          try clear c132b1
          try clear hx649_0
          try clear p649
          try clear q649
          (try clear HO_7); (try clear HO_9); (try clear HO_15); (try clear HO_19); (try clear HO_603000); (try clear HO_603001); (try clear BK601); (try clear BK602); (try clear HB); skip
          obtain ⟨kq, x250_120, rfl, HA, HJ120, HO_7, HO_9, HO_15, HO_19, HO_603000, HO_603001, BK601, BK602, HB⟩ := hcut
          cases kq with
          | zero => exact absurd HA.out (by simp [droppertop_TopWire.j4])
          | succ kj120 =>
           have H := HA.out; clear HA; simp only [droppertop_TopWire.j4] at H; by_cases c135 : x250_120 = true
           ·subst c135; rw [if_pos rfl] at H
            exact absurd (hT.symm.trans (Option.some.inj H).symm) (by decide)
           replace c135 := Bool.eq_false_iff.mpr c135; subst c135; rw [if_neg (show ¬ (false = true) by decide)] at H; have H' := A_ H; clear H
           go_wp2
           go_loopg [22] kj120 (fun kq v22 w' => ∃ (x22_6 : Int), v22 = .int .i64 x22_6 ∧ Aside0 (droppertop_TopWire.l1 kq l0 t610 t614 (wrap64 (Int.tmod (IntKind.u64.wrap (a2_2)) (IntKind.u64.wrap ((l0.length : Int))))) t621 t622 x19_108 x22_6 a1_0 a1_1 l2_0 l2_1 a2_2 a2_3 = some r) ∧ Aside0 (kq ≤ kj120) ∧ Aside0 (Kd.V (Kd.int .i64) 3 w' w.heap.size (fun k_ => ((P2_0_ k_ ∨ P2_1_ k_) ∨ w.heap.size ≤ k_) ∧ some k_ ≠ (u19 : Value).ownBlock ∧ k_ ≠ gb601 ∧ k_ ≠ gb602) (.slice Ao89 t610.length co89) t610) ∧ Aside0 (Kd.V (Kd.int .i64) 3 w' w.heap.size (fun k_ => ((P2_0_ k_ ∨ P2_1_ k_) ∨ w.heap.size ≤ k_) ∧ some k_ ≠ (u19 : Value).ownBlock ∧ k_ ≠ gb601 ∧ k_ ≠ gb602) (.slice Ao90 t614.length co90) t614) ∧ Aside0 (Kd.V (Kd.int .i64) 3 w' w.heap.size (fun k_ => ((P2_0_ k_ ∨ P2_1_ k_) ∨ w.heap.size ≤ k_) ∧ some k_ ≠ (u19 : Value).ownBlock ∧ k_ ≠ gb601 ∧ k_ ≠ gb602) v623 t621) ∧ Aside0 (Kd.N (Kd.slice 3 (Kd.int .i64)) 34 w' w.heap.size (fun k_ => ((P2_0_ k_ ∨ P2_1_ k_) ∨ w.heap.size ≤ k_) ∧ k_ ≠ gb601 ∧ k_ ≠ gb602) u19 x19_108) ∧ Aside0 (Kd.V (Kd.int .i64) 3 w' w.heap.size (fun k_ => ((P2_0_ k_ ∨ P2_1_ k_) ∨ w.heap.size ≤ k_) ∧ some k_ ≠ (u19 : Value).ownBlock ∧ k_ ≠ gb601 ∧ k_ ≠ gb602) (.slice A2_0 l2_0.length c2_0) l2_0) ∧ Aside0 (Kd.V (Kd.int .i64) 3 w' w.heap.size (fun k_ => ((P2_0_ k_ ∨ P2_1_ k_) ∨ w.heap.size ≤ k_) ∧ some k_ ≠ (u19 : Value).ownBlock ∧ k_ ≠ gb601 ∧ k_ ≠ gb602) (.slice A2_1 l2_1.length c2_1) l2_1) ∧ Aside0 (w'.heap[gb601]? = some (.cells #[.int .i64 a1_0, .int .i64 a1_1] 24 (0, 0))) ∧ Aside0 (w'.heap[gb602]? = some (.cells #[(.slice A2_0 l2_0.length c2_0), (.slice A2_1 l2_1.length c2_1), .int .i64 a2_2, .int .i64 a2_3] 36 (0, 0))) ∧ Aside0 (Below w.heap.size w w'))
           case atStart => exact ⟨(0), (by first | rfl | (simp; done) | (simp [*]; done)), H', ⟨Nat.le_refl _⟩, ⟨vU HO_7.out⟩, ⟨vU HO_9.out⟩, ⟨vU HO_15.out⟩, ⟨nU HO_19.out⟩, ⟨vU HO_603000.out⟩, ⟨vU HO_603001.out⟩, ⟨bkU BK601⟩, ⟨bkU BK602⟩, ⟨by repeat (first | (with_reducible first | exact HB.out | apply below_alloc | apply pw_below_drewN | apply below_drew1 | refine below_set ?_ GE601.out | refine below_set ?_ GE602.out) | exact HB.out)⟩⟩
           case round =>
            clear H'
            try clear c1
            try clear c2
            try clear p2
            try clear p6
            try clear q6
            try clear hx6
            try clear c12
            try clear c13
            try clear p64
            try clear q64
            try clear hx64
            try clear c123
            try clear c124
            try clear c125
            try clear c125b0
            try clear c126
            try clear c131
            try clear c131b0
            try clear c131b1
            try clear c131b2
            try clear c132
            try clear c132b0
            try clear c132b1
            try clear c135
            try clear hx649_0
            try clear p2
            try clear p6
            try clear p64
            try clear p649
            try clear q6
            try clear q64
            try clear q649
            (try clear HO_7); (try clear HO_9); (try clear HO_15); (try clear HO_19); (try clear HO_603000); (try clear HO_603001); (try clear BK601); (try clear BK602); (try clear HB); skip
            obtain ⟨x22_6, rfl, HA, HK6, HO_7, HO_9, HO_15, HO_19, HO_603000, HO_603001, BK601, BK602, HB⟩ := hrel
            cases gk with
            | zero => exact absurd HA.out (by simp [droppertop_TopWire.l1])
            | succ k6 =>
             have H := HA.out; clear HA; simp only [droppertop_TopWire.l1] at H; by_cases c136 : x22_6 < (x19_108.length : Int); rotate_left
             ·rw [if_neg c136] at H; have c136b0 : decide (x22_6 < (x19_108.length : Int)) = false := decide_eq_false c136; clear c136; replace H := Option.bind_eq_some_iff.mp H; obtain ⟨t651, A1840, H⟩ := H; (try dsimp only at H); have A184 := A_ A1840; clear A1840 hT; obtain rfl := Option.some.inj H; obtain ⟨Ao185, co185, eo185⟩ := Kd.N_slice HO_19.out; subst eo185
              go_wp2_with (first | ((with_reducible refine gate_callee (f := 14) rfl ?_); refine goesL_ (some 348) rfl rfl Try.func14 (by kernel_rfl) rfl #[] rfl (by (try simp only [List.map_toArray, List.map_cons, List.map_nil]); first | done | rfl | (simp only [List.length_drop, List.length_take]; rfl)) ?_; (with_reducible refine (dropperlaw02_Awake.calls k6  t651 _ A184.out).mono ?_); rintro e w186 ⟨rfl, hb⟩; refine ⟨_, rfl, ?_⟩; have n0_ := A_ (Kd.V_below (vU HO_7.out) hb); have n1_ := A_ (Kd.V_below (vU HO_9.out) hb); have n2_ := A_ (Kd.V_below (vU HO_15.out) hb); have n3_ := A_ (Kd.N_below (nU HO_19.out) hb); have n4_ := A_ (Kd.V_below (vU HO_603000.out) hb); have n5_ := A_ (Kd.V_below (vU HO_603001.out) hb); have n6_ := A_ (bkB BK601 hb); have n7_ := A_ (bkB BK602 hb); have n8_ := A_ (below_step (bW2 HB.out GE601.out GE602.out) hb); clear HO_7; clear HO_9; clear HO_15; clear HO_19; clear HO_603000; clear HO_603001; clear BK601; clear BK602; clear HB; have HO_7 := n0_; have HO_9 := n1_; have HO_15 := n2_; have HO_19 := n3_; have HO_603000 := n4_; have HO_603001 := n5_; have BK601 := n6_; have BK602 := n7_; have HB := n8_; clear n0_ n1_ n2_ n3_ n4_ n5_ n6_ n7_ n8_; (try clear hb); (try clear hb2); (try clear hk); (try clear hi)))
              go_ret
              exact ⟨by first | rfl | (simp [errW_none, errW_some] <;> rfl) | (simp [*, errW_none, errW_some] <;> rfl), by repeat (first | (with_reducible first | exact HB.out | apply below_alloc | apply pw_below_drewN | apply below_drew1 | refine below_set ?_ GE601.out | refine below_set ?_ GE602.out) | exact HB.out)⟩

             rw [if_pos c136] at H; have c136b0 : decide (x22_6 < (x19_108.length : Int)) = true := decide_eq_true c136; clear c136; have HC137 := A_ H; clear H; obtain ⟨Ao138, co138, eo138⟩ := Kd.N_slice HO_19.out; subst eo138
             go_upto_region 29 with (fail)
             go_cut [274] (fun v274 wc => ∃ (kq : Nat) (x274_136 : Bool), v274 = .bool x274_136 ∧ Aside0 (droppertop_TopWire.j6 kq l0 t610 t614 (wrap64 (Int.tmod (IntKind.u64.wrap (a2_2)) (IntKind.u64.wrap ((l0.length : Int))))) t621 t622 x19_108 x22_6 x274_136 a1_0 a1_1 l2_0 l2_1 a2_2 a2_3 = some r) ∧ Aside0 (kq ≤ k6) ∧ Aside0 (Kd.V (Kd.int .i64) 3 wc w.heap.size (fun k_ => ((P2_0_ k_ ∨ P2_1_ k_) ∨ w.heap.size ≤ k_) ∧ some k_ ≠ ((.slice Ao138 x19_108.length co138) : Value).ownBlock ∧ k_ ≠ gb601 ∧ k_ ≠ gb602) (.slice Ao89 t610.length co89) t610) ∧ Aside0 (Kd.V (Kd.int .i64) 3 wc w.heap.size (fun k_ => ((P2_0_ k_ ∨ P2_1_ k_) ∨ w.heap.size ≤ k_) ∧ some k_ ≠ ((.slice Ao138 x19_108.length co138) : Value).ownBlock ∧ k_ ≠ gb601 ∧ k_ ≠ gb602) (.slice Ao90 t614.length co90) t614) ∧ Aside0 (Kd.V (Kd.int .i64) 3 wc w.heap.size (fun k_ => ((P2_0_ k_ ∨ P2_1_ k_) ∨ w.heap.size ≤ k_) ∧ some k_ ≠ ((.slice Ao138 x19_108.length co138) : Value).ownBlock ∧ k_ ≠ gb601 ∧ k_ ≠ gb602) v623 t621) ∧ Aside0 (Kd.N (Kd.slice 3 (Kd.int .i64)) 34 wc w.heap.size (fun k_ => ((P2_0_ k_ ∨ P2_1_ k_) ∨ w.heap.size ≤ k_) ∧ k_ ≠ gb601 ∧ k_ ≠ gb602) (.slice Ao138 x19_108.length co138) x19_108) ∧ Aside0 (Kd.V (Kd.int .i64) 3 wc w.heap.size (fun k_ => ((P2_0_ k_ ∨ P2_1_ k_) ∨ w.heap.size ≤ k_) ∧ some k_ ≠ ((.slice Ao138 x19_108.length co138) : Value).ownBlock ∧ k_ ≠ gb601 ∧ k_ ≠ gb602) (.slice A2_0 l2_0.length c2_0) l2_0) ∧ Aside0 (Kd.V (Kd.int .i64) 3 wc w.heap.size (fun k_ => ((P2_0_ k_ ∨ P2_1_ k_) ∨ w.heap.size ≤ k_) ∧ some k_ ≠ ((.slice Ao138 x19_108.length co138) : Value).ownBlock ∧ k_ ≠ gb601 ∧ k_ ≠ gb602) (.slice A2_1 l2_1.length c2_1) l2_1) ∧ Aside0 (wc.heap[gb601]? = some (.cells #[.int .i64 a1_0, .int .i64 a1_1] 24 (0, 0))) ∧ Aside0 (wc.heap[gb602]? = some (.cells #[(.slice A2_0 l2_0.length c2_0), (.slice A2_1 l2_1.length c2_1), .int .i64 a2_2, .int .i64 a2_3] 36 (0, 0))) ∧ Aside0 (Below w.heap.size w wc))
             case first => as_aux_lemma =>
              have H := HC137.out; clear HC137; by_cases c139 : 0 ≤ x22_6; rotate_left
              ·rw [if_neg c139] at H
               exact absurd H (by simp)
              rw [if_pos c139] at H; have c139b0 : decide (0 ≤ x22_6) = true := decide_eq_true c139; clear c139
              (first | rw [c139b0] | (simp only [i64_w, i32_w]; rw [c139b0]) | skip)
              replace H := Option.bind_eq_some_iff.mp H; obtain ⟨t653, A1400, H⟩ := H; (try dsimp only at H); have A140 := A_ A1400; clear A1400; by_cases c141 : t653 = true; rotate_left
              ·replace c141 := Bool.eq_false_iff.mpr c141; subst c141; rw [if_neg (show ¬ (false = true) by decide)] at H; exact absurd (H.trans (congrArg some hT)) (droppertop_TopWire.j6_no _ _ _ _ _ _ _ _ _ _ _ _ _ _ _)
              subst c141; rw [if_pos rfl] at H; replace H := Option.bind_eq_some_iff.mp H; obtain ⟨t655, A1420, H⟩ := H; (try dsimp only at H); have A142 := A_ A1420; clear A1420; have H' := A_ H; clear H
              try go_wp2
              have n0_ := A_ (Kd.V_drew HO_7.out); have n1_ := A_ (Kd.V_drew HO_9.out); have n2_ := A_ (Kd.V_drew HO_15.out); have n3_ := A_ (Kd.N_drew HO_19.out); have n4_ := A_ (Kd.V_drew HO_603000.out); have n5_ := A_ (Kd.V_drew HO_603001.out); have n6_ := A_ (blk_drew BK601.out); have n7_ := A_ (blk_drew BK602.out); have n8_ := A_ (below_drew1 HB.out); clear HO_7 HO_9 HO_15 HO_19 HO_603000 HO_603001 BK601 BK602 HB; have HO_7 := n0_; have HO_9 := n1_; have HO_15 := n2_; have HO_19 := n3_; have HO_603000 := n4_; have HO_603001 := n5_; have BK601 := n6_; have BK602 := n7_; have HB := n8_; clear n0_ n1_ n2_ n3_ n4_ n5_ n6_ n7_ n8_
              have p652 : 0 ≤ (x22_6 : Int) := of_decide_eq_true (by first | (with_reducible assumption) | assumption)
              have q652 : x22_6 < (x19_108.length : Int) := of_decide_eq_true (by first | (with_reducible assumption) | assumption)
              obtain ⟨ad652, A652_0, c652_0, e652, hx652_0, hl652_0, hi652_0⟩ := at_L1 (Kd.N_reads' HO_19.out).2.2 x22_6 p652 q652
              cases e652
              obtain ⟨ce652, hce652, hMe652, hcc652⟩ := Kd.N_get HO_19.out [] x22_6 p652 (by first | exact q652 | exact of_decide_eq_true (by first | (with_reducible assumption) | assumption) | (have e_ := (Kd.N_reads' HO_19.out).1; omega))
              obtain ⟨ua652_0, uc652_0, rfl, ul652_0, ge652_0⟩ := Kd.FK_slice_open hMe652; have hv652_0 := hcc652 0 _ rfl; rw [Nat.add_zero, show ((Kd.slice 3 (Kd.int .i64))).sz = 1 from rfl, Nat.mul_one] at hv652_0; replace hv652_0 := Option.some.inj (hv652_0.symm.trans hx652_0)
              injection hv652_0 with hva_ hvn_ hvc_
              rw [hva_] at ge652_0; rw [hvc_] at ul652_0
              have HL652_0 := A_ (show Kd.V (Kd.int .i64) 3 _ w.heap.size _ _ (rd_L1 x19_108 x22_6) from Kd.V_mk ul652_0 ge652_0)
              clear hva_ hvn_ hvc_ ge652_0 ul652_0; clear hcc652 hce652; have HR652_0 := A_ hi652_0; have HC652_0 := A_ hl652_0; clear hi652_0 hl652_0; replace p652 := eq_true p652; replace q652 := eq_true q652
              have p654 : 0 ≤ (x22_6 : Int) := of_decide_eq_true (by first | (with_reducible assumption) | assumption)
              have q654 : x22_6 < (x19_108.length : Int) := of_decide_eq_true (by first | (with_reducible assumption) | assumption)
              obtain ⟨ad654, A654_0, c654_0, e654, hx654_0, hl654_0, hi654_0⟩ := at_L1 (Kd.N_reads' HO_19.out).2.2 x22_6 p654 q654
              obtain rfl : ad652 = ad654 := (by injection e654)
              obtain ⟨ce654, hce654, hMe654, hcc654⟩ := Kd.N_get HO_19.out [] x22_6 p654 (by first | exact q654 | exact of_decide_eq_true (by first | (with_reducible assumption) | assumption) | (have e_ := (Kd.N_reads' HO_19.out).1; omega))
              obtain ⟨ua654_0, uc654_0, rfl, ul654_0, ge654_0⟩ := Kd.FK_slice_open hMe654; have hv654_0 := hcc654 0 _ rfl; rw [Nat.add_zero, show ((Kd.slice 3 (Kd.int .i64))).sz = 1 from rfl, Nat.mul_one] at hv654_0; replace hv654_0 := Option.some.inj (hv654_0.symm.trans hx654_0)
              injection hv654_0 with hva_ hvn_ hvc_
              rw [hva_] at ge654_0; rw [hvc_] at ul654_0
              have HL654_0 := A_ (show Kd.V (Kd.int .i64) 3 _ w.heap.size _ _ (rd_L1 x19_108 x22_6) from Kd.V_mk ul654_0 ge654_0)
              clear hva_ hvn_ hvc_ ge654_0 ul654_0; clear hcc654 hce654; have HR654_0 := A_ hi654_0; have HC654_0 := A_ hl654_0; clear hi654_0 hl654_0; replace p654 := eq_true p654; replace q654 := eq_true q654; have ea_ := Option.some.inj (hx652_0.symm.trans hx654_0); injection ea_ with ea_ en_ ec_; subst ea_; subst ec_; clear en_
              refine start_ (n := 18) (S := fun w' => w'.cell? ⟨gb601, 0, none⟩ = some (.int .i64 a1_0) ∧ w'.cell? ⟨gb601, 1, none⟩ = some (.int .i64 a1_1) ∧ w'.cell? (ad652.add (x22_6).toNat) = some (.slice A652_0 (rd_L1 x19_108 x22_6).length c652_0) ∧ w'.cell? (ad652.add (x22_6).toNat) = some (.slice A652_0 (rd_L1 x19_108 x22_6).length c652_0)) (ds := []) (mkB 18 0) (by kernel_rfl) rfl rfl ⟨(blk_cell BK601.out 0).trans rfl, (blk_cell BK601.out 1).trans rfl, hx652_0, hx654_0⟩ (fun hHeld => ?_); refine with_tabW droppertop_TopWire.tab29 droppertop_TopWire.bits29 (fun HT_ HW_ => ?_)
              generalize wr.drew = w143 at HO_7 HO_9 HO_15 HO_19 HO_603000 HO_603001 BK601 BK602 HB HL652_0 HL654_0 HR652_0 HR654_0 hx652_0 hx654_0 hHeld ⊢; refine pr_ 0 (some 257) (mkB 18 1) HT_ ?_; refine pr_ 2 (some 259) (mkB 18 5) HT_ ?_; refine pr_ 3 (some 260) (mkB 18 13) HT_ ?_; refine pr_ 4 (some 261) (mkB 18 29) HT_ ?_
              refine take_ (i := 1) (N := some 258) (v := ?_) (a' := ?_) (mkB 18 31) rfl rfl (take_ofW HT_.out HW_.out (by kernel_rfl)) (fun _ _ _ h => h) (Or.inl ⟨by rfl, ?_⟩) hHeld ?_ ?_
              rotate_left
              ·rintro w' ⟨s0, s1, s2, s3⟩
               go_simp
               with_reducible rfl
              rotate_left
              ·simp only [Act.put, List.setIfInBounds_toArray, List.set_cons_zero, List.set_cons_succ, i64_w, i32_w]
               rfl
              refine take_ (i := 5) (N := some 262) (v := ?_) (a' := ?_) (mkB 18 63) rfl rfl (take_ofW HT_.out HW_.out (by kernel_rfl)) (fun _ _ _ h => h) (Or.inl ⟨by rfl, ?_⟩) hHeld ?_ ?_
              rotate_left
              ·rintro w' ⟨s0, s1, s2, s3⟩
               go_simp
               with_reducible rfl
              rotate_left
              ·simp only [Act.put, List.setIfInBounds_toArray, List.set_cons_zero, List.set_cons_succ, i64_w, i32_w]
               rfl
              refine one_ (i := 6) (N := some 263) (mkB 18 127) rfl rfl (one_of HT_.out (by kernel_rfl)) (by decide) (fun K hK => ?_)
              refine goes_ Try.func24 (by kernel_rfl) rfl #[.slice A0 l0.length c0, .agg #[.int .i64 a1_0, .int .i64 a1_1], .slice A652_0 (rd_L1 x19_108 x22_6).length c652_0] (by rfl) rfl rfl (by (try simp only [List.map_toArray, List.map_cons, List.map_nil]); first | done | rfl | (simp only [List.length_drop, List.length_take]; rfl)) ?_
              with_reducible refine (droppertop_fits.calls k6 _ _ l0 a1_0 a1_1 _ _ (rd_L1 x19_108 x22_6) true _ ?side1 ?side2 ?side3 ?side4 A140.out).mono ?_
              (case side1 => exact cU (Kd.C_below HR0.out HB.out))
              (case side2 => exact HC0.out)
              (case side3 => repeat (first | exact (by repeat (first | (with_reducible exact HR652_0.out) | (with_reducible refine Kd.C_alloc ?_ _) | (with_reducible refine Kd.C_drewN ?_ _) | (with_reducible refine Kd.C_drew ?_) | exact HR652_0.out)) | (with_reducible refine Kd.C_alloc ?_ _) | (with_reducible refine Kd.C_drewN ?_ _) | (with_reducible refine Kd.C_drew ?_)))
              (case side4 => exact HC652_0.out)
              rintro e w144 ⟨rfl, hb⟩
              have HS2_ := (hb.cell (World.block_lt_of_cell? _ _ (hHeld.2.2.1))).trans (hHeld.2.2.1); have HS3_ := (hb.cell (World.block_lt_of_cell? _ _ (hHeld.2.2.2))).trans (hHeld.2.2.2)
              refine ⟨_, rfl, ?_⟩
              have n0_ := A_ (Kd.V_below (vU HO_7.out) hb)
              have n1_ := A_ (Kd.V_below (vU HO_9.out) hb)
              have n2_ := A_ (Kd.V_below (vU HO_15.out) hb)
              have n3_ := A_ (Kd.N_below (nU HO_19.out) hb)
              have n4_ := A_ (Kd.V_below (vU HO_603000.out) hb)
              have n5_ := A_ (Kd.V_below (vU HO_603001.out) hb)
              have n6_ := A_ (Kd.V_below (vU HL652_0.out) hb)
              have n7_ := A_ (bkB BK601 hb); have n8_ := A_ (bkB BK602 hb)
              have n9_ := A_ (Kd.C_below (by repeat (first | (with_reducible exact HR652_0.out) | (with_reducible refine Kd.C_alloc ?_ _) | (with_reducible refine Kd.C_drewN ?_ _) | (with_reducible refine Kd.C_drew ?_) | exact HR652_0.out)) hb)
              have n10_ := A_ (below_step (bW2 HB.out GE601.out GE602.out) hb)
              clear HO_7; clear HO_9 HO_15 HO_19 HO_603000 HO_603001 HL652_0 BK601 BK602 HR652_0 HB; have HO_7 := n0_; have HO_9 := n1_; have HO_15 := n2_; have HO_19 := n3_; have HO_603000 := n4_; have HO_603001 := n5_; have HL652_0 := n6_; have BK601 := n7_; have BK602 := n8_; have HR652_0 := n9_; have HB := n10_; clear n0_ n1_ n2_ n3_ n4_ n5_ n6_ n7_ n8_ n9_ n10_
              (try clear hb)
              (try clear hb2)
              (try clear hk)
              (try clear hi)
              refine hK.out _ _ ⟨(blk_cell BK601.out 0).trans rfl, (blk_cell BK601.out 1).trans rfl, HS2_, HS3_⟩ (fun hHeld => ?_)
              clear hK K
              refine norm_ (a' := ?_) ?_ ?_
              rotate_left
              ·show Act.put _ (some 263) _ = _
               simp only [Act.put, List.setIfInBounds_toArray, List.set_cons_zero, List.set_cons_succ, i64_w, i32_w]
               rfl
              refine pr_ 7 (some 264) (mkB 18 255) HT_ ?_; refine pr_ 8 (some 265) (mkB 18 511) HT_ ?_; refine pr_ 9 (some 266) (mkB 18 1023) HT_ ?_; refine pr_ 10 (some 267) (mkB 18 2047) HT_ ?_; refine pr_ 11 (some 268) (mkB 18 4095) HT_ ?_; refine pr_ 12 (some 269) (mkB 18 8191) HT_ ?_; refine pr_ 14 (some 271) (mkB 18 24575) HT_ ?_
              refine take_ (i := 13) (N := some 270) (v := ?_) (a' := ?_) (mkB 18 32767) rfl rfl (take_ofW HT_.out HW_.out (by kernel_rfl)) (fun _ _ _ h => h) (Or.inl ⟨by rfl, ?_⟩) hHeld ?_ ?_
              rotate_left
              ·rintro w' ⟨s0, s1, s2, s3⟩
               go_simp
               with_reducible rfl
              rotate_left
              ·simp only [Act.put, List.setIfInBounds_toArray, List.set_cons_zero, List.set_cons_succ, i64_w, i32_w]
               rfl
              refine one_ (i := 15) (N := some 272) (mkB 18 65535) rfl rfl (one_of HT_.out (by kernel_rfl)) (by decide) (fun K hK => ?_)
              refine goes_ Try.func25 (by kernel_rfl) rfl #[.slice Ao89 t610.length co89, .slice A652_0 (rd_L1 x19_108 x22_6).length c652_0, .slice Ao90 t614.length co90] (by rfl) rfl rfl (by (try simp only [List.map_toArray, List.map_cons, List.map_nil]); first | done | rfl | (simp only [List.length_drop, List.length_take]; rfl)) ?_
              with_reducible refine (droppertop_lies.calls k6 _ _ t610 _ _ (rd_L1 x19_108 x22_6) _ _ t614 t655 _ ?side1 ?side2 ?side3 ?side4 ?side5 ?side6 A142.out).mono ?_
              (case side1 => repeat (first | exact (Kd.V_reads' HO_7.out).2.2 | (with_reducible refine Kd.C_alloc ?_ _) | (with_reducible refine Kd.C_drewN ?_ _) | (with_reducible refine Kd.C_drew ?_)))
              (case side2 => exact (Kd.V_reads' HO_7.out).2.1)
              (case side3 => repeat (first | exact (by repeat (first | (with_reducible exact HR652_0.out) | (with_reducible refine Kd.C_alloc ?_ _) | (with_reducible refine Kd.C_drewN ?_ _) | (with_reducible refine Kd.C_drew ?_) | exact HR652_0.out)) | (with_reducible refine Kd.C_alloc ?_ _) | (with_reducible refine Kd.C_drewN ?_ _) | (with_reducible refine Kd.C_drew ?_)))
              (case side4 => exact HC654_0.out)
              (case side5 => repeat (first | exact (Kd.V_reads' HO_9.out).2.2 | (with_reducible refine Kd.C_alloc ?_ _) | (with_reducible refine Kd.C_drewN ?_ _) | (with_reducible refine Kd.C_drew ?_)))
              (case side6 => exact (Kd.V_reads' HO_9.out).2.1)
              rintro e w' ⟨rfl, ⟨nd, rfl⟩⟩
              refine ⟨_, rfl, ?_⟩
              refine hK.out _ _ ⟨(blk_cell BK601.out 0).trans rfl, (blk_cell BK601.out 1).trans rfl, hHeld.2.2.1, hHeld.2.2.2⟩ (fun hHeld => ?_)
              clear hK K
              refine norm_ (a' := ?_) ?_ ?_
              rotate_left
              ·show Act.put _ (some 272) _ = _
               simp only [Act.put, List.setIfInBounds_toArray, List.set_cons_zero, List.set_cons_succ, i64_w, i32_w]
               rfl
              refine pr_ 16 (some 273) (mkB 18 131071) HT_ ?_; refine pr_ 17 (some 274) (mkB 18 262143) HT_ ?_
              refine done_ (done_of HT_.out (by kernel_rfl)) ?_
              try go_wp2
              go_meet
              case rel => exact ⟨_, (!t655), (by first | rfl | (simp; done) | (simp [*]; done)), H', ⟨by have := HJ3.out; have := HJ61.out; have := HK3.out; have := HJ108.out; have := HJ120.out; have := HK6.out; first | omega | exact Nat.le_refl _⟩, ⟨vU HO_7.out⟩, ⟨vU HO_9.out⟩, ⟨vU HO_15.out⟩, ⟨nU HO_19.out⟩, ⟨vU HO_603000.out⟩, ⟨vU HO_603001.out⟩, ⟨bkU BK601⟩, ⟨bkU BK602⟩, ⟨by repeat (first | (with_reducible first | exact HB.out | apply below_alloc | apply pw_below_drewN | apply below_drew1 | refine below_set ?_ GE601.out | refine below_set ?_ GE602.out) | exact HB.out)⟩⟩
             case rest => as_aux_lemma =>
              clear HC137
              try clear c1
              try clear c2
              try clear p2
              try clear c6
              try clear p6
              try clear q6
              try clear hx6
              try clear c12
              try clear c13
              try clear c14
              try clear c24
              try clear c25
              try clear p64
              try clear q64
              try clear hx64
              try clear c65
              try clear p65
              try clear q65
              try clear hx65
              try clear c123
              try clear c124
              try clear c125
              try clear c125b0
              try clear c126
              try clear c131
              try clear c131b0
              try clear c131b1
              try clear c131b2
              try clear c132
              try clear c132b0
              try clear c132b1
              try clear c135
              try clear c136
              try clear c136b0
              try clear c139
              try clear c139b0
              try clear c141
              try clear hx649_0
              try clear hx652_0
              try clear hx654_0
              try clear p2
              try clear p6
              try clear p64
              try clear p649
              try clear p652
              try clear p654
              try clear q6
              try clear q64
              try clear q649
              try clear q652
              try clear q654
              (try clear HO_7); (try clear HO_9); (try clear HO_15); (try clear HO_19); (try clear HO_603000); (try clear HO_603001); (try clear BK601); (try clear BK602); (try clear HB); skip
              obtain ⟨kq, x274_136, rfl, HA, HJ136, HO_7, HO_9, HO_15, HO_19, HO_603000, HO_603001, BK601, BK602, HB⟩ := hcut
              cases kq with
              | zero => exact absurd HA.out (by simp [droppertop_TopWire.j6])
              | succ kj136 =>
               have H := HA.out; clear HA; simp only [droppertop_TopWire.j6] at H; by_cases c145 : x274_136 = true
               ·subst c145; rw [if_pos rfl] at H
                exact absurd (hT.symm.trans (Option.some.inj H).symm) (by decide)
               replace c145 := Bool.eq_false_iff.mpr c145; subst c145; rw [if_neg (show ¬ (false = true) by decide)] at H; have HC146 := A_ H; clear H
               go_upto_region 31 with (fail)
               go_cut [298] (fun v298 wc => ∃ (kq : Nat) (x298_145 : Bool), v298 = .bool x298_145 ∧ Aside0 (droppertop_TopWire.j7 kq l0 t610 t614 (wrap64 (Int.tmod (IntKind.u64.wrap (a2_2)) (IntKind.u64.wrap ((l0.length : Int))))) t621 t622 x19_108 x22_6 x298_145 a1_0 a1_1 l2_0 l2_1 a2_2 a2_3 = some r) ∧ Aside0 (kq ≤ kj136) ∧ Aside0 (Kd.V (Kd.int .i64) 3 wc w.heap.size (fun k_ => ((P2_0_ k_ ∨ P2_1_ k_) ∨ w.heap.size ≤ k_) ∧ some k_ ≠ ((.slice Ao138 x19_108.length co138) : Value).ownBlock ∧ k_ ≠ gb601 ∧ k_ ≠ gb602) (.slice Ao89 t610.length co89) t610) ∧ Aside0 (Kd.V (Kd.int .i64) 3 wc w.heap.size (fun k_ => ((P2_0_ k_ ∨ P2_1_ k_) ∨ w.heap.size ≤ k_) ∧ some k_ ≠ ((.slice Ao138 x19_108.length co138) : Value).ownBlock ∧ k_ ≠ gb601 ∧ k_ ≠ gb602) (.slice Ao90 t614.length co90) t614) ∧ Aside0 (Kd.V (Kd.int .i64) 3 wc w.heap.size (fun k_ => ((P2_0_ k_ ∨ P2_1_ k_) ∨ w.heap.size ≤ k_) ∧ some k_ ≠ ((.slice Ao138 x19_108.length co138) : Value).ownBlock ∧ k_ ≠ gb601 ∧ k_ ≠ gb602) v623 t621) ∧ Aside0 (Kd.N (Kd.slice 3 (Kd.int .i64)) 34 wc w.heap.size (fun k_ => ((P2_0_ k_ ∨ P2_1_ k_) ∨ w.heap.size ≤ k_) ∧ k_ ≠ gb601 ∧ k_ ≠ gb602) (.slice Ao138 x19_108.length co138) x19_108) ∧ Aside0 (Kd.V (Kd.int .i64) 3 wc w.heap.size (fun k_ => ((P2_0_ k_ ∨ P2_1_ k_) ∨ w.heap.size ≤ k_) ∧ some k_ ≠ ((.slice Ao138 x19_108.length co138) : Value).ownBlock ∧ k_ ≠ gb601 ∧ k_ ≠ gb602) (.slice A2_0 l2_0.length c2_0) l2_0) ∧ Aside0 (Kd.V (Kd.int .i64) 3 wc w.heap.size (fun k_ => ((P2_0_ k_ ∨ P2_1_ k_) ∨ w.heap.size ≤ k_) ∧ some k_ ≠ ((.slice Ao138 x19_108.length co138) : Value).ownBlock ∧ k_ ≠ gb601 ∧ k_ ≠ gb602) (.slice A2_1 l2_1.length c2_1) l2_1) ∧ Aside0 (wc.heap[gb601]? = some (.cells #[.int .i64 a1_0, .int .i64 a1_1] 24 (0, 0))) ∧ Aside0 (wc.heap[gb602]? = some (.cells #[(.slice A2_0 l2_0.length c2_0), (.slice A2_1 l2_1.length c2_1), .int .i64 a2_2, .int .i64 a2_3] 36 (0, 0))) ∧ Aside0 (Below w.heap.size w wc))
               case first => as_aux_lemma =>
                have H := HC146.out; clear HC146; by_cases c147 : t622 = 0; rotate_left
                ·rw [if_neg c147] at H; have c147b0 : (t622 == 0) = false := beq_eq_false_iff_ne.mpr c147; have c147b1 : (t622 != 0) = true := bne_iff_ne.mpr c147
                 (first | rw [c147b0] | (simp only [i64_w, i32_w]; rw [c147b0]) | skip)
                 have H' := A_ H; clear H
                 try go_wp2
                 have n0_ := A_ (Kd.V_drew HO_7.out); have n1_ := A_ (Kd.V_drew HO_9.out); have n2_ := A_ (Kd.V_drew HO_15.out); have n3_ := A_ (Kd.N_drew HO_19.out); have n4_ := A_ (Kd.V_drew HO_603000.out); have n5_ := A_ (Kd.V_drew HO_603001.out); have n6_ := A_ (blk_drew BK601.out); have n7_ := A_ (blk_drew BK602.out); have n8_ := A_ (below_drew1 HB.out); clear HO_7 HO_9 HO_15 HO_19 HO_603000 HO_603001 BK601 BK602 HB; have HO_7 := n0_; have HO_9 := n1_; have HO_15 := n2_; have HO_19 := n3_; have HO_603000 := n4_; have HO_603001 := n5_; have BK601 := n6_; have BK602 := n7_; have HB := n8_; clear n0_ n1_ n2_ n3_ n4_ n5_ n6_ n7_ n8_
                 refine start_ (n := 24) (S := fun w' => True) (ds := []) (mkB 24 0) (by kernel_rfl) rfl rfl trivial (fun hHeld => ?_); refine with_tabW droppertop_TopWire.tab31 droppertop_TopWire.bits31 (fun HT_ HW_ => ?_)
                 generalize wc.drew = w158 at HO_7 HO_9 HO_15 HO_19 HO_603000 HO_603001 BK601 BK602 HB hHeld ⊢; refine pr_ 0 (some 275) (mkB 24 1) HT_ ?_; refine pr_ 1 (some 276) (mkB 24 3) HT_ ?_; refine pr_ 2 (some 277) (mkB 24 7) HT_ ?_; refine pu_ 3 (some 278) (mkB 24 15) HT_ ?_; refine pu_ 4 (some 279) (mkB 24 31) HT_ ?_; refine pu_ 5 (some 280) (mkB 24 63) HT_ ?_; refine pu_ 6 (some 281) (mkB 24 127) HT_ ?_; refine pu_ 7 (some 282) (mkB 24 255) HT_ ?_; refine pu_ 8 (some 283) (mkB 24 511) HT_ ?_; refine pu_ 9 (some 284) (mkB 24 1023) HT_ ?_; refine pu_ 10 (some 285) (mkB 24 2047) HT_ ?_; refine pu_ 11 (some 286) (mkB 24 4095) HT_ ?_; refine pu_ 12 (some 287) (mkB 24 8191) HT_ ?_; refine pr_ 13 (some 288) (mkB 24 16383) HT_ ?_; refine pr_ 14 (some 289) (mkB 24 32767) HT_ ?_; refine pu_ 15 (some 290) (mkB 24 65535) HT_ ?_; refine pu_ 16 (some 291) (mkB 24 131071) HT_ ?_; refine pu_ 17 (some 292) (mkB 24 262143) HT_ ?_; refine pu_ 18 (some 293) (mkB 24 524287) HT_ ?_; refine pu_ 19 (some 294) (mkB 24 1048575) HT_ ?_; refine pu_ 20 (some 295) (mkB 24 2097151) HT_ ?_; refine pu_ 21 (some 296) (mkB 24 4194303) HT_ ?_; refine pu_ 22 (some 297) (mkB 24 8388607) HT_ ?_; refine pr_ 23 (some 298) (mkB 24 16777215) HT_ ?_
                 refine done_ (done_of HT_.out (by kernel_rfl)) ?_
                 try go_wp2
                 go_meet
                 case rel => exact ⟨_, (false), (by first | rfl | (simp; done) | (simp [*]; done)), H', ⟨by have := HJ3.out; have := HJ61.out; have := HK3.out; have := HJ108.out; have := HJ120.out; have := HK6.out; have := HJ136.out; first | omega | exact Nat.le_refl _⟩, ⟨vU HO_7.out⟩, ⟨vU HO_9.out⟩, ⟨vU HO_15.out⟩, ⟨nU HO_19.out⟩, ⟨vU HO_603000.out⟩, ⟨vU HO_603001.out⟩, ⟨bkU BK601⟩, ⟨bkU BK602⟩, ⟨by repeat (first | (with_reducible first | exact HB.out | apply below_alloc | apply pw_below_drewN | apply below_drew1 | refine below_set ?_ GE601.out | refine below_set ?_ GE602.out) | exact HB.out)⟩⟩
                rw [if_pos c147] at H; have c147b0 : (t622 == 0) = true := beq_iff_eq.mpr c147; have c147b1 : (t622 != 0) = false := bne_eq_false_iff_eq.mpr c147; clear c147
                (first | rw [c147b0] | (simp only [i64_w, i32_w]; rw [c147b0]) | skip)
                by_cases c148 : 0 ≤ x22_6; rotate_left
                ·rw [if_neg c148] at H
                 exact absurd H (by simp)
                rw [if_pos c148] at H; have c148b0 : decide (0 ≤ x22_6) = true := decide_eq_true c148; clear c148; by_cases c149 : x22_6 < (x19_108.length : Int); rotate_left
                ·rw [if_neg c149] at H
                 exact absurd H (by simp)
                rw [if_pos c149] at H; have c149b0 : decide (x22_6 < (x19_108.length : Int)) = true := decide_eq_true c149; clear c149; obtain ⟨ji150, hji150⟩ : ∃ j_ : Int, (wrap64 (Int.tmod (IntKind.u64.wrap (a2_2)) (IntKind.u64.wrap ((l0.length : Int))))) = j_ := ⟨_, rfl⟩
                replace H : (if 0 ≤ (ji150) then (if (ji150) < ((rd_L1 x19_108 x22_6).length : Int) then (if (rd (rd_L1 x19_108 x22_6) (ji150)) = a2_3 then ((droppertop_lies.f kj136 t621 (rd_L1 x19_108 x22_6) t614).bind fun t659 => (droppertop_TopWire.j7 kj136 l0 t610 t614 (ji150) t621 t622 x19_108 x22_6 (!t659) a1_0 a1_1 l2_0 l2_1 a2_2 a2_3)) else (droppertop_TopWire.j7 kj136 l0 t610 t614 (ji150) t621 t622 x19_108 x22_6 false a1_0 a1_1 l2_0 l2_1 a2_2 a2_3)) else (none)) else (none)) = some r := by first | (rw [hji150] at H; exact H) | (simp only [hji150] at H ⊢; exact H)
                have hji150w : (IntKind.i64.wrap (Int.tmod (IntKind.u64.wrap (a2_2)) (IntKind.u64.wrap ((l0.length : Int))))) = ji150 := (i64_w _).trans hji150; by_cases c151 : 0 ≤ (ji150); rotate_left
                ·rw [if_neg c151] at H
                 exact absurd H (by simp)
                rw [if_pos c151] at H; have c151b0 : decide (0 ≤ (ji150)) = true := decide_eq_true c151; clear c151; by_cases c152 : (ji150) < ((rd_L1 x19_108 x22_6).length : Int); rotate_left
                ·rw [if_neg c152] at H
                 exact absurd H (by simp)
                rw [if_pos c152] at H; have c152b0 : decide ((ji150) < ((rd_L1 x19_108 x22_6).length : Int)) = true := decide_eq_true c152; clear c152; by_cases c153 : (rd (rd_L1 x19_108 x22_6) (ji150)) = a2_3; rotate_left
                ·rw [if_neg c153] at H; have c153b0 : ((rd (rd_L1 x19_108 x22_6) (ji150)) == a2_3) = false := beq_eq_false_iff_ne.mpr c153; have c153b1 : ((rd (rd_L1 x19_108 x22_6) (ji150)) != a2_3) = true := bne_iff_ne.mpr c153; have H' := A_ H; clear H
                 try go_wp2
                 have n0_ := A_ (Kd.V_drew HO_7.out); have n1_ := A_ (Kd.V_drew HO_9.out); have n2_ := A_ (Kd.V_drew HO_15.out); have n3_ := A_ (Kd.N_drew HO_19.out); have n4_ := A_ (Kd.V_drew HO_603000.out); have n5_ := A_ (Kd.V_drew HO_603001.out); have n6_ := A_ (blk_drew BK601.out); have n7_ := A_ (blk_drew BK602.out); have n8_ := A_ (below_drew1 HB.out); clear HO_7 HO_9 HO_15 HO_19 HO_603000 HO_603001 BK601 BK602 HB; have HO_7 := n0_; have HO_9 := n1_; have HO_15 := n2_; have HO_19 := n3_; have HO_603000 := n4_; have HO_603001 := n5_; have BK601 := n6_; have BK602 := n7_; have HB := n8_; clear n0_ n1_ n2_ n3_ n4_ n5_ n6_ n7_ n8_
                 have p656 : 0 ≤ (x22_6 : Int) := of_decide_eq_true (by first | (with_reducible assumption) | assumption)
                 have q656 : x22_6 < (x19_108.length : Int) := of_decide_eq_true (by first | (with_reducible assumption) | assumption)
                 obtain ⟨ad656, A656_0, c656_0, e656, hx656_0, hl656_0, hi656_0⟩ := at_L1 (Kd.N_reads' HO_19.out).2.2 x22_6 p656 q656
                 cases e656
                 obtain ⟨ce656, hce656, hMe656, hcc656⟩ := Kd.N_get HO_19.out [] x22_6 p656 (by first | exact q656 | exact of_decide_eq_true (by first | (with_reducible assumption) | assumption) | (have e_ := (Kd.N_reads' HO_19.out).1; omega))
                 obtain ⟨ua656_0, uc656_0, rfl, ul656_0, ge656_0⟩ := Kd.FK_slice_open hMe656; have hv656_0 := hcc656 0 _ rfl; rw [Nat.add_zero, show ((Kd.slice 3 (Kd.int .i64))).sz = 1 from rfl, Nat.mul_one] at hv656_0; replace hv656_0 := Option.some.inj (hv656_0.symm.trans hx656_0)
                 injection hv656_0 with hva_ hvn_ hvc_
                 rw [hva_] at ge656_0; rw [hvc_] at ul656_0
                 have HL656_0 := A_ (show Kd.V (Kd.int .i64) 3 _ w.heap.size _ _ (rd_L1 x19_108 x22_6) from Kd.V_mk ul656_0 ge656_0)
                 clear hva_ hvn_ hvc_ ge656_0 ul656_0; clear hcc656 hce656; have HR656_0 := A_ hi656_0; have HC656_0 := A_ hl656_0; clear hi656_0 hl656_0; replace p656 := eq_true p656; replace q656 := eq_true q656
                 have p657 : 0 ≤ ((ji150) : Int) := of_decide_eq_true (by first | (with_reducible assumption) | assumption)
                 have q657 : (ji150) < ((rd_L1 x19_108 x22_6).length : Int) := of_decide_eq_true (by first | (with_reducible assumption) | assumption)
                 obtain ⟨ad657, e657, hx657_0⟩ := Kd.at_int (by repeat (first | (with_reducible exact HR656_0.out) | (with_reducible refine Kd.C_alloc ?_ _) | (with_reducible refine Kd.C_drewN ?_ _) | (with_reducible refine Kd.C_drew ?_) | exact HR656_0.out)) (ji150) p657 q657
                 cases e657
                 replace p657 := eq_true p657; replace q657 := eq_true q657
                 refine start_ (n := 24) (S := fun w' => w'.cell? ⟨gb602, 0, none⟩ = some (.slice A2_0 l2_0.length c2_0) ∧ w'.cell? ⟨gb602, 1, none⟩ = some (.slice A2_1 l2_1.length c2_1) ∧ w'.cell? ⟨gb602, 2, none⟩ = some (.int .i64 a2_2) ∧ w'.cell? ⟨gb602, 3, none⟩ = some (.int .i64 a2_3) ∧ w'.cell? (ad656.add (x22_6).toNat) = some (.slice (some ad657) (rd_L1 x19_108 x22_6).length c656_0) ∧ w'.cell? (ad657.add ((ji150)).toNat) = some (.int .i64 (rd (rd_L1 x19_108 x22_6) (ji150)))) (ds := []) (mkB 24 0) (by kernel_rfl) rfl rfl ⟨(blk_cell BK602.out 0).trans rfl, (blk_cell BK602.out 1).trans rfl, (blk_cell BK602.out 2).trans rfl, (blk_cell BK602.out 3).trans rfl, hx656_0, hx657_0⟩ (fun hHeld => ?_); refine with_tabW droppertop_TopWire.tab31 droppertop_TopWire.bits31 (fun HT_ HW_ => ?_)
                 generalize wc.drew = w157 at HO_7 HO_9 HO_15 HO_19 HO_603000 HO_603001 BK601 BK602 HB HL656_0 HR656_0 hx656_0 hx657_0 hHeld ⊢; refine pr_ 0 (some 275) (mkB 24 1) HT_ ?_; refine pr_ 1 (some 276) (mkB 24 3) HT_ ?_; refine pr_ 2 (some 277) (mkB 24 7) HT_ ?_; refine pr_ 3 (some 278) (mkB 24 15) HT_ ?_; refine pr_ 4 (some 279) (mkB 24 31) HT_ ?_; refine pr_ 5 (some 280) (mkB 24 63) HT_ ?_; refine pr_ 7 (some 282) (mkB 24 191) HT_ ?_; refine pr_ 10 (some 285) (mkB 24 1215) HT_ ?_
                 refine take_ (i := 6) (N := some 281) (v := ?_) (a' := ?_) (mkB 24 1279) rfl rfl (take_ofW HT_.out HW_.out (by kernel_rfl)) (fun _ _ _ h => h) (Or.inl ⟨by rfl, ?_⟩) hHeld ?_ ?_
                 rotate_left
                 ·rintro w' ⟨s0, s1, s2, s3, s4, s5⟩
                  go_simp
                  with_reducible rfl
                 rotate_left
                 ·simp only [Act.put, List.setIfInBounds_toArray, List.set_cons_zero, List.set_cons_succ, i64_w, i32_w]
                  rfl
                 refine pr_ 8 (some 283) (mkB 24 1535) HT_ ?_
                 refine take_ (i := 9) (N := some 284) (v := ?_) (a' := ?_) (mkB 24 2047) rfl rfl (take_ofW HT_.out HW_.out (by kernel_rfl)) (fun _ _ _ h => h) (Or.inl ⟨by rfl, ?_⟩) hHeld ?_ ?_
                 rotate_left
                 ·rintro w' ⟨s0, s1, s2, s3, s4, s5⟩
                  go_simp
                  with_reducible rfl
                 rotate_left
                 ·simp only [Act.put, List.setIfInBounds_toArray, List.set_cons_zero, List.set_cons_succ, i64_w, i32_w]
                  rfl
                 refine take_ (i := 11) (N := some 286) (v := ?_) (a' := ?_) (mkB 24 4095) rfl rfl (take_ofW HT_.out HW_.out (by kernel_rfl)) (fun _ _ _ h => h) (Or.inl ⟨by rfl, ?_⟩) hHeld ?_ ?_
                 rotate_left
                 ·rintro w' ⟨s0, s1, s2, s3, s4, s5⟩
                  go_simp
                  with_reducible rfl
                 rotate_left
                 ·simp only [Act.put, List.setIfInBounds_toArray, List.set_cons_zero, List.set_cons_succ, i64_w, i32_w]
                  rfl
                 refine pr_ 12 (some 287) (mkB 24 8191) HT_ ?_; refine pr_ 13 (some 288) (mkB 24 16383) HT_ ?_; refine pr_ 14 (some 289) (mkB 24 32767) HT_ ?_; refine pu_ 15 (some 290) (mkB 24 65535) HT_ ?_; refine pu_ 16 (some 291) (mkB 24 131071) HT_ ?_; refine pu_ 17 (some 292) (mkB 24 262143) HT_ ?_; refine pu_ 18 (some 293) (mkB 24 524287) HT_ ?_; refine pu_ 19 (some 294) (mkB 24 1048575) HT_ ?_; refine pu_ 20 (some 295) (mkB 24 2097151) HT_ ?_; refine pu_ 21 (some 296) (mkB 24 4194303) HT_ ?_; refine pu_ 22 (some 297) (mkB 24 8388607) HT_ ?_; refine pr_ 23 (some 298) (mkB 24 16777215) HT_ ?_
                 refine done_ (done_of HT_.out (by kernel_rfl)) ?_
                 try go_wp2
                 (try subst hji150); go_meet
                 case rel => exact ⟨_, (false), (by first | rfl | (simp; done) | (simp [*]; done)), H', ⟨by have := HJ3.out; have := HJ61.out; have := HK3.out; have := HJ108.out; have := HJ120.out; have := HK6.out; have := HJ136.out; first | omega | exact Nat.le_refl _⟩, ⟨vU HO_7.out⟩, ⟨vU HO_9.out⟩, ⟨vU HO_15.out⟩, ⟨nU HO_19.out⟩, ⟨vU HO_603000.out⟩, ⟨vU HO_603001.out⟩, ⟨bkU BK601⟩, ⟨bkU BK602⟩, ⟨by repeat (first | (with_reducible first | exact HB.out | apply below_alloc | apply pw_below_drewN | apply below_drew1 | refine below_set ?_ GE601.out | refine below_set ?_ GE602.out) | exact HB.out)⟩⟩
                rw [if_pos c153] at H; have c153b0 : ((rd (rd_L1 x19_108 x22_6) (ji150)) == a2_3) = true := beq_iff_eq.mpr c153; have c153b1 : ((rd (rd_L1 x19_108 x22_6) (ji150)) != a2_3) = false := bne_eq_false_iff_eq.mpr c153; clear c153; replace H := Option.bind_eq_some_iff.mp H; obtain ⟨t659, A1540, H⟩ := H; (try dsimp only at H); have A154 := A_ A1540; clear A1540; have H' := A_ H; clear H
                try go_wp2
                have n0_ := A_ (Kd.V_drew HO_7.out); have n1_ := A_ (Kd.V_drew HO_9.out); have n2_ := A_ (Kd.V_drew HO_15.out); have n3_ := A_ (Kd.N_drew HO_19.out); have n4_ := A_ (Kd.V_drew HO_603000.out); have n5_ := A_ (Kd.V_drew HO_603001.out); have n6_ := A_ (blk_drew BK601.out); have n7_ := A_ (blk_drew BK602.out); have n8_ := A_ (below_drew1 HB.out); clear HO_7 HO_9 HO_15 HO_19 HO_603000 HO_603001 BK601 BK602 HB; have HO_7 := n0_; have HO_9 := n1_; have HO_15 := n2_; have HO_19 := n3_; have HO_603000 := n4_; have HO_603001 := n5_; have BK601 := n6_; have BK602 := n7_; have HB := n8_; clear n0_ n1_ n2_ n3_ n4_ n5_ n6_ n7_ n8_
                have p656 : 0 ≤ (x22_6 : Int) := of_decide_eq_true (by first | (with_reducible assumption) | assumption)
                have q656 : x22_6 < (x19_108.length : Int) := of_decide_eq_true (by first | (with_reducible assumption) | assumption)
                obtain ⟨ad656, A656_0, c656_0, e656, hx656_0, hl656_0, hi656_0⟩ := at_L1 (Kd.N_reads' HO_19.out).2.2 x22_6 p656 q656
                cases e656
                obtain ⟨ce656, hce656, hMe656, hcc656⟩ := Kd.N_get HO_19.out [] x22_6 p656 (by first | exact q656 | exact of_decide_eq_true (by first | (with_reducible assumption) | assumption) | (have e_ := (Kd.N_reads' HO_19.out).1; omega))
                obtain ⟨ua656_0, uc656_0, rfl, ul656_0, ge656_0⟩ := Kd.FK_slice_open hMe656; have hv656_0 := hcc656 0 _ rfl; rw [Nat.add_zero, show ((Kd.slice 3 (Kd.int .i64))).sz = 1 from rfl, Nat.mul_one] at hv656_0; replace hv656_0 := Option.some.inj (hv656_0.symm.trans hx656_0)
                injection hv656_0 with hva_ hvn_ hvc_
                rw [hva_] at ge656_0; rw [hvc_] at ul656_0
                have HL656_0 := A_ (show Kd.V (Kd.int .i64) 3 _ w.heap.size _ _ (rd_L1 x19_108 x22_6) from Kd.V_mk ul656_0 ge656_0)
                clear hva_ hvn_ hvc_ ge656_0 ul656_0; clear hcc656 hce656; have HR656_0 := A_ hi656_0; have HC656_0 := A_ hl656_0; clear hi656_0 hl656_0; replace p656 := eq_true p656; replace q656 := eq_true q656
                have p657 : 0 ≤ ((ji150) : Int) := of_decide_eq_true (by first | (with_reducible assumption) | assumption)
                have q657 : (ji150) < ((rd_L1 x19_108 x22_6).length : Int) := of_decide_eq_true (by first | (with_reducible assumption) | assumption)
                obtain ⟨ad657, e657, hx657_0⟩ := Kd.at_int (by repeat (first | (with_reducible exact HR656_0.out) | (with_reducible refine Kd.C_alloc ?_ _) | (with_reducible refine Kd.C_drewN ?_ _) | (with_reducible refine Kd.C_drew ?_) | exact HR656_0.out)) (ji150) p657 q657
                cases e657
                replace p657 := eq_true p657; replace q657 := eq_true q657
                have p658 : 0 ≤ (x22_6 : Int) := of_decide_eq_true (by first | (with_reducible assumption) | assumption)
                have q658 : x22_6 < (x19_108.length : Int) := of_decide_eq_true (by first | (with_reducible assumption) | assumption)
                obtain ⟨ad658, A658_0, c658_0, e658, hx658_0, hl658_0, hi658_0⟩ := at_L1 (Kd.N_reads' HO_19.out).2.2 x22_6 p658 q658
                obtain rfl : ad656 = ad658 := (by injection e658)
                obtain ⟨ce658, hce658, hMe658, hcc658⟩ := Kd.N_get HO_19.out [] x22_6 p658 (by first | exact q658 | exact of_decide_eq_true (by first | (with_reducible assumption) | assumption) | (have e_ := (Kd.N_reads' HO_19.out).1; omega))
                obtain ⟨ua658_0, uc658_0, rfl, ul658_0, ge658_0⟩ := Kd.FK_slice_open hMe658; have hv658_0 := hcc658 0 _ rfl; rw [Nat.add_zero, show ((Kd.slice 3 (Kd.int .i64))).sz = 1 from rfl, Nat.mul_one] at hv658_0; replace hv658_0 := Option.some.inj (hv658_0.symm.trans hx658_0)
                injection hv658_0 with hva_ hvn_ hvc_
                rw [hva_] at ge658_0; rw [hvc_] at ul658_0
                have HL658_0 := A_ (show Kd.V (Kd.int .i64) 3 _ w.heap.size _ _ (rd_L1 x19_108 x22_6) from Kd.V_mk ul658_0 ge658_0)
                clear hva_ hvn_ hvc_ ge658_0 ul658_0; clear hcc658 hce658; have HR658_0 := A_ hi658_0; have HC658_0 := A_ hl658_0; clear hi658_0 hl658_0; replace p658 := eq_true p658; replace q658 := eq_true q658; have ea_ := Option.some.inj (hx656_0.symm.trans hx658_0)
                injection ea_ with ea_ en_ ec_
                subst ea_; subst ec_; clear en_; obtain ⟨Ao156, co156, eo156⟩ := Kd.V_slice HO_15.out
                (first | subst eo156 | (injection eo156 with f1_ f2_ f3_; have f4_ := f1_.symm; have f5_ := f3_.symm; clear f1_ f2_ f3_; subst f4_; subst f5_))
                refine start_ (n := 24) (S := fun w' => w'.cell? ⟨gb602, 0, none⟩ = some (.slice A2_0 l2_0.length c2_0) ∧ w'.cell? ⟨gb602, 1, none⟩ = some (.slice A2_1 l2_1.length c2_1) ∧ w'.cell? ⟨gb602, 2, none⟩ = some (.int .i64 a2_2) ∧ w'.cell? ⟨gb602, 3, none⟩ = some (.int .i64 a2_3) ∧ w'.cell? (ad656.add (x22_6).toNat) = some (.slice (some ad657) (rd_L1 x19_108 x22_6).length c656_0) ∧ w'.cell? (ad657.add ((ji150)).toNat) = some (.int .i64 (rd (rd_L1 x19_108 x22_6) (ji150))) ∧ w'.cell? (ad656.add (x22_6).toNat) = some (.slice (some ad657) (rd_L1 x19_108 x22_6).length c656_0)) (ds := []) (mkB 24 0) (by kernel_rfl) rfl rfl ⟨(blk_cell BK602.out 0).trans rfl, (blk_cell BK602.out 1).trans rfl, (blk_cell BK602.out 2).trans rfl, (blk_cell BK602.out 3).trans rfl, hx656_0, hx657_0, hx658_0⟩ (fun hHeld => ?_); refine with_tabW droppertop_TopWire.tab31 droppertop_TopWire.bits31 (fun HT_ HW_ => ?_)
                generalize wc.drew = w155 at HO_7 HO_9 HO_15 HO_19 HO_603000 HO_603001 BK601 BK602 HB HL656_0 HL658_0 HR656_0 HR658_0 hx656_0 hx657_0 hx658_0 hHeld ⊢; refine pr_ 0 (some 275) (mkB 24 1) HT_ ?_; refine pr_ 1 (some 276) (mkB 24 3) HT_ ?_; refine pr_ 2 (some 277) (mkB 24 7) HT_ ?_; refine pr_ 3 (some 278) (mkB 24 15) HT_ ?_; refine pr_ 4 (some 279) (mkB 24 31) HT_ ?_; refine pr_ 5 (some 280) (mkB 24 63) HT_ ?_; refine pr_ 7 (some 282) (mkB 24 191) HT_ ?_; refine pr_ 10 (some 285) (mkB 24 1215) HT_ ?_
                refine take_ (i := 6) (N := some 281) (v := ?_) (a' := ?_) (mkB 24 1279) rfl rfl (take_ofW HT_.out HW_.out (by kernel_rfl)) (fun _ _ _ h => h) (Or.inl ⟨by rfl, ?_⟩) hHeld ?_ ?_
                rotate_left
                ·rintro w' ⟨s0, s1, s2, s3, s4, s5, s6⟩
                 go_simp
                 with_reducible rfl
                rotate_left
                ·simp only [Act.put, List.setIfInBounds_toArray, List.set_cons_zero, List.set_cons_succ, i64_w, i32_w]
                 rfl
                refine pr_ 8 (some 283) (mkB 24 1535) HT_ ?_
                refine take_ (i := 9) (N := some 284) (v := ?_) (a' := ?_) (mkB 24 2047) rfl rfl (take_ofW HT_.out HW_.out (by kernel_rfl)) (fun _ _ _ h => h) (Or.inl ⟨by rfl, ?_⟩) hHeld ?_ ?_
                rotate_left
                ·rintro w' ⟨s0, s1, s2, s3, s4, s5, s6⟩
                 go_simp
                 with_reducible rfl
                rotate_left
                ·simp only [Act.put, List.setIfInBounds_toArray, List.set_cons_zero, List.set_cons_succ, i64_w, i32_w]
                 rfl
                refine take_ (i := 11) (N := some 286) (v := ?_) (a' := ?_) (mkB 24 4095) rfl rfl (take_ofW HT_.out HW_.out (by kernel_rfl)) (fun _ _ _ h => h) (Or.inl ⟨by rfl, ?_⟩) hHeld ?_ ?_
                rotate_left
                ·rintro w' ⟨s0, s1, s2, s3, s4, s5, s6⟩
                 go_simp
                 with_reducible rfl
                rotate_left
                ·simp only [Act.put, List.setIfInBounds_toArray, List.set_cons_zero, List.set_cons_succ, i64_w, i32_w]
                 rfl
                refine pr_ 12 (some 287) (mkB 24 8191) HT_ ?_; refine pr_ 13 (some 288) (mkB 24 16383) HT_ ?_; refine pr_ 14 (some 289) (mkB 24 32767) HT_ ?_; refine pr_ 15 (some 290) (mkB 24 65535) HT_ ?_; refine pr_ 16 (some 291) (mkB 24 131071) HT_ ?_; refine pr_ 17 (some 292) (mkB 24 262143) HT_ ?_; refine pr_ 18 (some 293) (mkB 24 524287) HT_ ?_; refine pr_ 20 (some 295) (mkB 24 1572863) HT_ ?_
                refine take_ (i := 19) (N := some 294) (v := ?_) (a' := ?_) (mkB 24 2097151) rfl rfl (take_ofW HT_.out HW_.out (by kernel_rfl)) (fun _ _ _ h => h) (Or.inl ⟨by rfl, ?_⟩) hHeld ?_ ?_
                rotate_left
                ·rintro w' ⟨s0, s1, s2, s3, s4, s5, s6⟩
                 go_simp
                 with_reducible rfl
                rotate_left
                ·simp only [Act.put, List.setIfInBounds_toArray, List.set_cons_zero, List.set_cons_succ, i64_w, i32_w]
                 rfl
                refine one_ (i := 21) (N := some 296) (mkB 24 4194303) rfl rfl (one_of HT_.out (by kernel_rfl)) (by decide) (fun K hK => ?_)
                refine goes_ Try.func25 (by kernel_rfl) rfl #[.slice Ao156 t621.length co156, .slice (some ad657) (rd_L1 x19_108 x22_6).length c656_0, .slice Ao90 t614.length co90] (by rfl) rfl rfl (by (try simp only [List.map_toArray, List.map_cons, List.map_nil]); first | done | rfl | (simp only [List.length_drop, List.length_take]; rfl)) ?_
                with_reducible refine (droppertop_lies.calls kj136 _ _ t621 _ _ (rd_L1 x19_108 x22_6) _ _ t614 t659 _ ?side1 ?side2 ?side3 ?side4 ?side5 ?side6 A154.out).mono ?_
                (case side1 => repeat (first | exact (Kd.V_reads' HO_15.out).2.2 | (with_reducible refine Kd.C_alloc ?_ _) | (with_reducible refine Kd.C_drewN ?_ _) | (with_reducible refine Kd.C_drew ?_)))
                (case side2 => exact (Kd.V_reads' HO_15.out).2.1)
                (case side3 => repeat (first | exact (by repeat (first | (with_reducible exact HR658_0.out) | (with_reducible refine Kd.C_alloc ?_ _) | (with_reducible refine Kd.C_drewN ?_ _) | (with_reducible refine Kd.C_drew ?_) | exact HR658_0.out)) | (with_reducible refine Kd.C_alloc ?_ _) | (with_reducible refine Kd.C_drewN ?_ _) | (with_reducible refine Kd.C_drew ?_)))
                (case side4 => exact HC658_0.out)
                (case side5 => repeat (first | exact (Kd.V_reads' HO_9.out).2.2 | (with_reducible refine Kd.C_alloc ?_ _) | (with_reducible refine Kd.C_drewN ?_ _) | (with_reducible refine Kd.C_drew ?_)))
                (case side6 => exact (Kd.V_reads' HO_9.out).2.1)
                rintro e w' ⟨rfl, ⟨nd, rfl⟩⟩
                refine ⟨_, rfl, ?_⟩
                refine hK.out _ _ ⟨(blk_cell BK602.out 0).trans rfl, (blk_cell BK602.out 1).trans rfl, (blk_cell BK602.out 2).trans rfl, (blk_cell BK602.out 3).trans rfl, hHeld.2.2.2.2.1, hHeld.2.2.2.2.2.1, hHeld.2.2.2.2.2.2⟩ (fun hHeld => ?_)
                clear hK K
                refine norm_ (a' := ?_) ?_ ?_
                rotate_left
                ·show Act.put _ (some 296) _ = _
                 simp only [Act.put, List.setIfInBounds_toArray, List.set_cons_zero, List.set_cons_succ, i64_w, i32_w]
                 rfl
                refine pr_ 22 (some 297) (mkB 24 8388607) HT_ ?_; refine pr_ 23 (some 298) (mkB 24 16777215) HT_ ?_
                refine done_ (done_of HT_.out (by kernel_rfl)) ?_
                try go_wp2
                (try subst hji150); go_meet
                case rel => exact ⟨_, (!t659), (by first | rfl | (simp; done) | (simp [*]; done)), H', ⟨by have := HJ3.out; have := HJ61.out; have := HK3.out; have := HJ108.out; have := HJ120.out; have := HK6.out; have := HJ136.out; first | omega | exact Nat.le_refl _⟩, ⟨vU HO_7.out⟩, ⟨vU HO_9.out⟩, ⟨vU HO_15.out⟩, ⟨nU HO_19.out⟩, ⟨vU HO_603000.out⟩, ⟨vU HO_603001.out⟩, ⟨bkU BK601⟩, ⟨bkU BK602⟩, ⟨by repeat (first | (with_reducible first | exact HB.out | apply below_alloc | apply pw_below_drewN | apply below_drew1 | refine below_set ?_ GE601.out | refine below_set ?_ GE602.out) | exact HB.out)⟩⟩
               case rest => as_aux_lemma =>
                clear HC146
                try clear c1
                try clear c2
                try clear p2
                try clear c6
                try clear p6
                try clear q6
                try clear hx6
                try clear c14
                try clear c15
                try clear c25
                try clear c65
                try clear p65
                try clear q65
                try clear hx65
                try clear c147
                try clear c147b0
                try clear c147b1
                try clear c148
                try clear c149
                try clear c151
                try clear c152
                try clear c153
                try clear c153b0
                try clear c153b1
                try clear hx656_0
                try clear hx657_0
                try clear p656
                try clear p657
                try clear q656
                try clear q657
                (try clear HO_7); (try clear HO_9); (try clear HO_15); (try clear HO_19); (try clear HO_603000); (try clear HO_603001); (try clear BK601); (try clear BK602); (try clear HB); skip
                obtain ⟨kq, x298_145, rfl, HA, HJ145, HO_7, HO_9, HO_15, HO_19, HO_603000, HO_603001, BK601, BK602, HB⟩ := hcut
                cases kq with
                | zero => exact absurd HA.out (by simp [droppertop_TopWire.j7])
                | succ kj145 =>
                 have H := HA.out; clear HA; simp only [droppertop_TopWire.j7] at H; by_cases c159 : x298_145 = true
                 ·subst c159; rw [if_pos rfl] at H
                  exact absurd (hT.symm.trans (Option.some.inj H).symm) (by decide)
                 replace c159 := Bool.eq_false_iff.mpr c159; subst c159; rw [if_neg (show ¬ (false = true) by decide)] at H; have H' := A_ H; clear H
                 go_wp2
                 go_loopg [23] kj145 (fun kq v23 w' => ∃ (x23_9 : Int), v23 = .int .i64 x23_9 ∧ Aside0 (droppertop_TopWire.l2 kq l0 t610 t614 (wrap64 (Int.tmod (IntKind.u64.wrap (a2_2)) (IntKind.u64.wrap ((l0.length : Int))))) t621 t622 x19_108 x22_6 x23_9 a1_0 a1_1 l2_0 l2_1 a2_2 a2_3 = some r) ∧ Aside0 (kq ≤ kj145) ∧ Aside0 (Kd.V (Kd.int .i64) 3 w' w.heap.size (fun k_ => ((P2_0_ k_ ∨ P2_1_ k_) ∨ w.heap.size ≤ k_) ∧ some k_ ≠ ((.slice Ao138 x19_108.length co138) : Value).ownBlock ∧ k_ ≠ gb601 ∧ k_ ≠ gb602) (.slice Ao89 t610.length co89) t610) ∧ Aside0 (Kd.V (Kd.int .i64) 3 w' w.heap.size (fun k_ => ((P2_0_ k_ ∨ P2_1_ k_) ∨ w.heap.size ≤ k_) ∧ some k_ ≠ ((.slice Ao138 x19_108.length co138) : Value).ownBlock ∧ k_ ≠ gb601 ∧ k_ ≠ gb602) (.slice Ao90 t614.length co90) t614) ∧ Aside0 (Kd.V (Kd.int .i64) 3 w' w.heap.size (fun k_ => ((P2_0_ k_ ∨ P2_1_ k_) ∨ w.heap.size ≤ k_) ∧ some k_ ≠ ((.slice Ao138 x19_108.length co138) : Value).ownBlock ∧ k_ ≠ gb601 ∧ k_ ≠ gb602) v623 t621) ∧ Aside0 (Kd.N (Kd.slice 3 (Kd.int .i64)) 34 w' w.heap.size (fun k_ => ((P2_0_ k_ ∨ P2_1_ k_) ∨ w.heap.size ≤ k_) ∧ k_ ≠ gb601 ∧ k_ ≠ gb602) (.slice Ao138 x19_108.length co138) x19_108) ∧ Aside0 (Kd.V (Kd.int .i64) 3 w' w.heap.size (fun k_ => ((P2_0_ k_ ∨ P2_1_ k_) ∨ w.heap.size ≤ k_) ∧ some k_ ≠ ((.slice Ao138 x19_108.length co138) : Value).ownBlock ∧ k_ ≠ gb601 ∧ k_ ≠ gb602) (.slice A2_0 l2_0.length c2_0) l2_0) ∧ Aside0 (Kd.V (Kd.int .i64) 3 w' w.heap.size (fun k_ => ((P2_0_ k_ ∨ P2_1_ k_) ∨ w.heap.size ≤ k_) ∧ some k_ ≠ ((.slice Ao138 x19_108.length co138) : Value).ownBlock ∧ k_ ≠ gb601 ∧ k_ ≠ gb602) (.slice A2_1 l2_1.length c2_1) l2_1) ∧ Aside0 (w'.heap[gb601]? = some (.cells #[.int .i64 a1_0, .int .i64 a1_1] 24 (0, 0))) ∧ Aside0 (w'.heap[gb602]? = some (.cells #[(.slice A2_0 l2_0.length c2_0), (.slice A2_1 l2_1.length c2_1), .int .i64 a2_2, .int .i64 a2_3] 36 (0, 0))) ∧ Aside0 (Below w.heap.size w w'))
                 case atStart => exact ⟨(0), (by first | rfl | (simp; done) | (simp [*]; done)), H', ⟨Nat.le_refl _⟩, ⟨vU HO_7.out⟩, ⟨vU HO_9.out⟩, ⟨vU HO_15.out⟩, ⟨nU HO_19.out⟩, ⟨vU HO_603000.out⟩, ⟨vU HO_603001.out⟩, ⟨bkU BK601⟩, ⟨bkU BK602⟩, ⟨by repeat (first | (with_reducible first | exact HB.out | apply below_alloc | apply pw_below_drewN | apply below_drew1 | refine below_set ?_ GE601.out | refine below_set ?_ GE602.out) | exact HB.out)⟩⟩
                 case round =>
                  clear H'
                  try clear c1
                  try clear c2
                  try clear p2
                  try clear c6
                  try clear p6
                  try clear q6
                  try clear hx6
                  try clear c14
                  try clear c15
                  try clear c25
                  try clear p64
                  try clear c65
                  try clear p65
                  try clear q65
                  try clear hx65
                  try clear c147
                  try clear c147b0
                  try clear c147b1
                  try clear c148
                  try clear c149
                  try clear c151
                  try clear c152
                  try clear c153
                  try clear c153b0
                  try clear c153b1
                  try clear c159
                  try clear hx656_0
                  try clear hx657_0
                  try clear p2
                  try clear p6
                  try clear p65
                  try clear p656
                  try clear p657
                  try clear q6
                  try clear q65
                  try clear q656
                  try clear q657
                  (try clear HO_7); (try clear HO_9); (try clear HO_15); (try clear HO_19); (try clear HO_603000); (try clear HO_603001); (try clear BK601); (try clear BK602); (try clear HB); skip
                  obtain ⟨x23_9, rfl, HA, HK9, HO_7, HO_9, HO_15, HO_19, HO_603000, HO_603001, BK601, BK602, HB⟩ := hrel
                  cases gk with
                  | zero => exact absurd HA.out (by simp [droppertop_TopWire.l2])
                  | succ k9 =>
                   have H := HA.out; clear HA; simp only [droppertop_TopWire.l2] at H; by_cases c160 : x23_9 < x22_6; rotate_left
                   ·rw [if_neg c160] at H; have c160b0 : decide (x23_9 < x22_6) = false := decide_eq_false c160; clear c160; have H' := A_ H; clear H
                    go_wp2
                    go_roundg k9
                    case measure => have := HJ3.out; have := HJ61.out; have := HK3.out; have := HJ108.out; have := HJ120.out; have := HK6.out; have := HJ136.out; have := HJ145.out; have := HK9.out; omega
                    case rel => exact ⟨(wrap64 (x22_6 + 1)), (by first | rfl | (simp; done) | (simp [*]; done)), H', ⟨by have := HJ3.out; have := HJ61.out; have := HK3.out; have := HJ108.out; have := HJ120.out; have := HK6.out; have := HJ136.out; have := HJ145.out; have := HK9.out; omega⟩, ⟨vU HO_7.out⟩, ⟨vU HO_9.out⟩, ⟨vU HO_15.out⟩, ⟨nU HO_19.out⟩, ⟨vU HO_603000.out⟩, ⟨vU HO_603001.out⟩, ⟨bkU BK601⟩, ⟨bkU BK602⟩, ⟨by repeat (first | (with_reducible first | exact HB.out | apply below_alloc | apply pw_below_drewN | apply below_drew1 | refine below_set ?_ GE601.out | refine below_set ?_ GE602.out) | exact HB.out)⟩⟩
                   rw [if_pos c160] at H; have c160b0 : decide (x23_9 < x22_6) = true := decide_eq_true c160; clear c160; by_cases c161 : 0 ≤ x22_6; rotate_left
                   ·rw [if_neg c161] at H
                    exact absurd H (by simp)
                   rw [if_pos c161] at H; have c161b0 : decide (0 ≤ x22_6) = true := decide_eq_true c161; clear c161; by_cases c162 : x22_6 < (x19_108.length : Int); rotate_left
                   ·rw [if_neg c162] at H
                    exact absurd H (by simp)
                   rw [if_pos c162] at H; have c162b0 : decide (x22_6 < (x19_108.length : Int)) = true := decide_eq_true c162; clear c162; by_cases c163 : 0 ≤ x23_9; rotate_left
                   ·rw [if_neg c163] at H
                    exact absurd H (by simp)
                   rw [if_pos c163] at H; have c163b0 : decide (0 ≤ x23_9) = true := decide_eq_true c163; clear c163; by_cases c164 : x23_9 < (x19_108.length : Int); rotate_left
                   ·rw [if_neg c164] at H
                    exact absurd H (by simp)
                   rw [if_pos c164] at H; have c164b0 : decide (x23_9 < (x19_108.length : Int)) = true := decide_eq_true c164; clear c164; replace H := Option.bind_eq_some_iff.mp H; obtain ⟨⟨t662, t663⟩, A1650, H⟩ := H; (try dsimp only at H); have A165 := A_ A1650; clear A1650; replace H := Option.bind_eq_some_iff.mp H; obtain ⟨⟨t668, t669⟩, A1660, H⟩ := H; (try dsimp only at H); have A166 := A_ A1660; clear A1660; by_cases c167 : t663 = 0; rotate_left
                   ·rw [if_neg c167] at H; have c167b0 : (t663 == 0) = false := beq_eq_false_iff_ne.mpr c167; have c167b1 : (t663 != 0) = true := bne_iff_ne.mpr c167
                    exact absurd (hT.symm.trans (Option.some.inj H).symm) (by decide)
                   rw [if_pos c167] at H; have c167b0 : (t663 == 0) = true := beq_iff_eq.mpr c167; have c167b1 : (t663 != 0) = false := bne_eq_false_iff_eq.mpr c167; clear c167; by_cases c168 : t669 = 0; rotate_left
                   ·rw [if_neg c168] at H; have c168b0 : (t669 == 0) = false := beq_eq_false_iff_ne.mpr c168; have c168b1 : (t669 != 0) = true := bne_iff_ne.mpr c168
                    exact absurd (hT.symm.trans (Option.some.inj H).symm) (by decide)
                   rw [if_pos c168] at H; have c168b0 : (t669 == 0) = true := beq_iff_eq.mpr c168; have c168b1 : (t669 != 0) = false := bne_eq_false_iff_eq.mpr c168; clear c168; replace H := Option.bind_eq_some_iff.mp H; obtain ⟨t672, A1690, H⟩ := H; (try dsimp only at H); have A169 := A_ A1690; clear A1690; by_cases c170 : t672 = true; rotate_left
                   ·replace c170 := Bool.eq_false_iff.mpr c170; subst c170; rw [if_neg (show ¬ (false = true) by decide)] at H
                    exact absurd (hT.symm.trans (Option.some.inj H).symm) (by decide)
                   subst c170; rw [if_pos rfl] at H; replace H := Option.bind_eq_some_iff.mp H; obtain ⟨t673, A1710, H⟩ := H; (try dsimp only at H); have A171 := A_ A1710; clear A1710; by_cases c172 : t673 = true; rotate_left
                   ·replace c172 := Bool.eq_false_iff.mpr c172; subst c172; rw [if_neg (show ¬ (false = true) by decide)] at H
                    exact absurd (hT.symm.trans (Option.some.inj H).symm) (by decide)
                   subst c172; rw [if_pos rfl] at H; have H' := A_ H; clear H
                   try go_wp2
                   have n0_ := A_ (Kd.V_drew HO_7.out); have n1_ := A_ (Kd.V_drew HO_9.out); have n2_ := A_ (Kd.V_drew HO_15.out); have n3_ := A_ (Kd.N_drew HO_19.out); have n4_ := A_ (Kd.V_drew HO_603000.out); have n5_ := A_ (Kd.V_drew HO_603001.out); have n6_ := A_ (blk_drew BK601.out); have n7_ := A_ (blk_drew BK602.out); have n8_ := A_ (below_drew1 HB.out); clear HO_7 HO_9 HO_15 HO_19 HO_603000 HO_603001 BK601 BK602 HB; have HO_7 := n0_; have HO_9 := n1_; have HO_15 := n2_; have HO_19 := n3_; have HO_603000 := n4_; have HO_603001 := n5_; have BK601 := n6_; have BK602 := n7_; have HB := n8_; clear n0_ n1_ n2_ n3_ n4_ n5_ n6_ n7_ n8_
                   have p660 : 0 ≤ (x22_6 : Int) := of_decide_eq_true (by first | (with_reducible assumption) | assumption)
                   have q660 : x22_6 < (x19_108.length : Int) := of_decide_eq_true (by first | (with_reducible assumption) | assumption)
                   obtain ⟨ad660, A660_0, c660_0, e660, hx660_0, hl660_0, hi660_0⟩ := at_L1 (Kd.N_reads' HO_19.out).2.2 x22_6 p660 q660
                   cases e660
                   obtain ⟨ce660, hce660, hMe660, hcc660⟩ := Kd.N_get HO_19.out [] x22_6 p660 (by first | exact q660 | exact of_decide_eq_true (by first | (with_reducible assumption) | assumption) | (have e_ := (Kd.N_reads' HO_19.out).1; omega))
                   obtain ⟨ua660_0, uc660_0, rfl, ul660_0, ge660_0⟩ := Kd.FK_slice_open hMe660; have hv660_0 := hcc660 0 _ rfl; rw [Nat.add_zero, show ((Kd.slice 3 (Kd.int .i64))).sz = 1 from rfl, Nat.mul_one] at hv660_0; replace hv660_0 := Option.some.inj (hv660_0.symm.trans hx660_0)
                   injection hv660_0 with hva_ hvn_ hvc_
                   rw [hva_] at ge660_0; rw [hvc_] at ul660_0
                   have HL660_0 := A_ (show Kd.V (Kd.int .i64) 3 _ w.heap.size _ _ (rd_L1 x19_108 x22_6) from Kd.V_mk ul660_0 ge660_0)
                   clear hva_ hvn_ hvc_ ge660_0 ul660_0; clear hcc660 hce660; have HR660_0 := A_ hi660_0; have HC660_0 := A_ hl660_0; clear hi660_0 hl660_0; replace p660 := eq_true p660; replace q660 := eq_true q660
                   have p661 : 0 ≤ (x23_9 : Int) := of_decide_eq_true (by first | (with_reducible assumption) | assumption)
                   have q661 : x23_9 < (x19_108.length : Int) := of_decide_eq_true (by first | (with_reducible assumption) | assumption)
                   obtain ⟨ad661, A661_0, c661_0, e661, hx661_0, hl661_0, hi661_0⟩ := at_L1 (Kd.N_reads' HO_19.out).2.2 x23_9 p661 q661
                   obtain rfl : ad660 = ad661 := (by injection e661)
                   obtain ⟨ce661, hce661, hMe661, hcc661⟩ := Kd.N_get HO_19.out [] x23_9 p661 (by first | exact q661 | exact of_decide_eq_true (by first | (with_reducible assumption) | assumption) | (have e_ := (Kd.N_reads' HO_19.out).1; omega))
                   obtain ⟨ua661_0, uc661_0, rfl, ul661_0, ge661_0⟩ := Kd.FK_slice_open hMe661; have hv661_0 := hcc661 0 _ rfl; rw [Nat.add_zero, show ((Kd.slice 3 (Kd.int .i64))).sz = 1 from rfl, Nat.mul_one] at hv661_0; replace hv661_0 := Option.some.inj (hv661_0.symm.trans hx661_0)
                   injection hv661_0 with hva_ hvn_ hvc_
                   rw [hva_] at ge661_0; rw [hvc_] at ul661_0
                   have HL661_0 := A_ (show Kd.V (Kd.int .i64) 3 _ w.heap.size _ _ (rd_L1 x19_108 x23_9) from Kd.V_mk ul661_0 ge661_0)
                   clear hva_ hvn_ hvc_ ge661_0 ul661_0; clear hcc661 hce661; have HR661_0 := A_ hi661_0; have HC661_0 := A_ hl661_0; clear hi661_0 hl661_0; replace p661 := eq_true p661; replace q661 := eq_true q661
                   refine start_ (n := 14) (S := fun w' => w'.cell? (ad660.add (x22_6).toNat) = some (.slice A660_0 (rd_L1 x19_108 x22_6).length c660_0) ∧ w'.cell? (ad660.add (x23_9).toNat) = some (.slice A661_0 (rd_L1 x19_108 x23_9).length c661_0)) (ds := []) (mkB 14 0) (by kernel_rfl) rfl rfl ⟨hx660_0, hx661_0⟩ (fun hHeld => ?_); refine with_tabW droppertop_TopWire.tab36 droppertop_TopWire.bits36 (fun HT_ HW_ => ?_)
                   generalize wr.drew = w173 at HO_7 HO_9 HO_15 HO_19 HO_603000 HO_603001 BK601 BK602 HB HL660_0 HL661_0 HR660_0 HR661_0 hx660_0 hx661_0 hHeld ⊢; refine pr_ 0 (some 305) (mkB 14 1) HT_ ?_; refine pr_ 1 (some 306) (mkB 14 3) HT_ ?_; refine pr_ 2 (some 307) (mkB 14 7) HT_ ?_; refine pr_ 4 (some 309) (mkB 14 23) HT_ ?_; refine pr_ 5 (some 310) (mkB 14 55) HT_ ?_; refine pr_ 6 (some 311) (mkB 14 119) HT_ ?_
                   refine take_ (i := 3) (N := some 308) (v := ?_) (a' := ?_) (mkB 14 127) rfl rfl (take_ofW HT_.out HW_.out (by kernel_rfl)) (fun _ _ _ h => h) (Or.inl ⟨by rfl, ?_⟩) hHeld ?_ ?_
                   rotate_left
                   ·rintro w' ⟨s0, s1⟩
                    go_simp
                    with_reducible rfl
                   rotate_left
                   ·simp only [Act.put, List.setIfInBounds_toArray, List.set_cons_zero, List.set_cons_succ, i64_w, i32_w]
                    rfl
                   refine take_ (i := 7) (N := some 312) (v := ?_) (a' := ?_) (mkB 14 255) rfl rfl (take_ofW HT_.out HW_.out (by kernel_rfl)) (fun _ _ _ h => h) (Or.inl ⟨by rfl, ?_⟩) hHeld ?_ ?_
                   rotate_left
                   ·rintro w' ⟨s0, s1⟩
                    go_simp
                    with_reducible rfl
                   rotate_left
                   ·simp only [Act.put, List.setIfInBounds_toArray, List.set_cons_zero, List.set_cons_succ, i64_w, i32_w]
                    rfl
                   refine one_ (i := 8) (N := some 313) (mkB 14 511) rfl rfl (one_of HT_.out (by kernel_rfl)) (by decide) (fun K hK => ?_)
                   refine goes_ Try.func26 (by kernel_rfl) rfl #[.slice A660_0 (rd_L1 x19_108 x22_6).length c660_0, .slice A661_0 (rd_L1 x19_108 x23_9).length c661_0] (by rfl) rfl rfl (by (try simp only [List.map_toArray, List.map_cons, List.map_nil]); first | done | rfl | (simp only [List.length_drop, List.length_take]; rfl)) ?_
                   with_reducible refine (wire_Meet.calls k9 _ _ (rd_L1 x19_108 x22_6) _ _ (rd_L1 x19_108 x23_9) t662 t663 _ ?side1 ?side2 ?side3 ?side4 A165.out).mono ?_
                   (case side1 => repeat (first | exact (by repeat (first | (with_reducible exact HR660_0.out) | (with_reducible refine Kd.C_alloc ?_ _) | (with_reducible refine Kd.C_drewN ?_ _) | (with_reducible refine Kd.C_drew ?_) | exact HR660_0.out)) | (with_reducible refine Kd.C_alloc ?_ _) | (with_reducible refine Kd.C_drewN ?_ _) | (with_reducible refine Kd.C_drew ?_)))
                   (case side2 => exact HC660_0.out)
                   (case side3 => repeat (first | exact (by repeat (first | (with_reducible exact HR661_0.out) | (with_reducible refine Kd.C_alloc ?_ _) | (with_reducible refine Kd.C_drewN ?_ _) | (with_reducible refine Kd.C_drew ?_) | exact HR661_0.out)) | (with_reducible refine Kd.C_alloc ?_ _) | (with_reducible refine Kd.C_drewN ?_ _) | (with_reducible refine Kd.C_drew ?_)))
                   (case side4 => exact HC661_0.out)
                   rintro e w174 ⟨v664, rfl, ho0, hb⟩
                   have HS0_ := (hb.cell (World.block_lt_of_cell? _ _ (hHeld.1))).trans (hHeld.1); have HS1_ := (hb.cell (World.block_lt_of_cell? _ _ (hHeld.2))).trans (hHeld.2)
                   refine ⟨_, rfl, ?_⟩
                   have n0_ := A_ (Kd.V_elder' (vU HO_7.out) (Kd.R_base ho0) hb)
                   have n1_ := A_ (Kd.V_elder' (vU HO_9.out) (Kd.R_base ho0) hb)
                   have n2_ := A_ (Kd.V_elder' (vU HO_15.out) (Kd.R_base ho0) hb)
                   have n3_ := A_ (Kd.N_elder' (nU HO_19.out) (Kd.R_base ho0) hb)
                   have n4_ := A_ (Kd.V_elder' (vU HO_603000.out) (Kd.R_base ho0) hb)
                   have n5_ := A_ (Kd.V_elder' (vU HO_603001.out) (Kd.R_base ho0) hb)
                   have n6_ := A_ (Kd.V_elder' (vU HL660_0.out) (Kd.R_base ho0) hb)
                   have n7_ := A_ (Kd.V_elder' (vU HL661_0.out) (Kd.R_base ho0) hb)
                   have n8_ := A_ (Kd.R_lower (Kd.R_newM (M := fun k_ => (w.heap.size ≤ k_)) ho0 (below_size (bW2 HB.out GE601.out GE602.out)) (fun k_ h_ => h_)) (below_size (bW2 HB.out GE601.out GE602.out)))
                   have n9_ := A_ (bkB BK601 hb); have n10_ := A_ (bkB BK602 hb)
                   have n11_ := A_ (Kd.C_below (by repeat (first | (with_reducible exact HR660_0.out) | (with_reducible refine Kd.C_alloc ?_ _) | (with_reducible refine Kd.C_drewN ?_ _) | (with_reducible refine Kd.C_drew ?_) | exact HR660_0.out)) hb)
                   have n12_ := A_ (Kd.C_below (by repeat (first | (with_reducible exact HR661_0.out) | (with_reducible refine Kd.C_alloc ?_ _) | (with_reducible refine Kd.C_drewN ?_ _) | (with_reducible refine Kd.C_drew ?_) | exact HR661_0.out)) hb)
                   have n13_ := A_ (below_step (bW2 HB.out GE601.out GE602.out) hb)
                   clear HO_7; clear HO_9 HO_15 HO_19 HO_603000 HO_603001 HL660_0 HL661_0 BK601 BK602 HR660_0 HR661_0 HB; have HO_7 := n0_; have HO_9 := n1_; have HO_15 := n2_; have HO_19 := n3_; have HO_603000 := n4_; have HO_603001 := n5_; have HL660_0 := n6_; have HL661_0 := n7_; have HO665 := n8_; have BK601 := n9_; have BK602 := n10_; have HR660_0 := n11_; have HR661_0 := n12_; have HB := n13_; clear n0_ n1_ n2_ n3_ n4_ n5_ n6_ n7_ n8_ n9_ n10_ n11_ n12_ n13_
                   (try clear hb)
                   (try clear hb2)
                   (try clear hk)
                   (try clear hi)
                   (try clear ho0)
                   refine hK.out _ _ ⟨HS0_, HS1_⟩ (fun hHeld => ?_)
                   clear hK K
                   refine norm_ (a' := ?_) ?_ ?_
                   rotate_left
                   ·show Act.put _ (some 313) _ = _
                    simp only [Act.put, List.setIfInBounds_toArray, List.set_cons_zero, List.set_cons_succ, i64_w, i32_w]
                    rfl
                   refine pr_ 9 (some 304) (mkB 14 1023) HT_ ?_; refine pr_ 10 (some 314) (mkB 14 2047) HT_ ?_; refine pr_ 11 (some 315) (mkB 14 4095) HT_ ?_; refine pr_ 12 (some 24) (mkB 14 8191) HT_ ?_; refine pr_ 13 (some 25) (mkB 14 16383) HT_ ?_
                   refine done_ (done_of HT_.out (by kernel_rfl)) ?_
                   try go_wp2
                   have n0_ := A_ (Kd.V_drew HO_7.out); have n1_ := A_ (Kd.V_drew HO_9.out); have n2_ := A_ (Kd.V_drew HO_15.out); have n3_ := A_ (Kd.N_drew HO_19.out); have n4_ := A_ (Kd.V_drew HO_603000.out); have n5_ := A_ (Kd.V_drew HO_603001.out); have n6_ := A_ (Kd.V_drew HL660_0.out); have n7_ := A_ (Kd.V_drew HL661_0.out); have n8_ := A_ (Kd.R_drew HO665.out); have n9_ := A_ (blk_drew BK601.out); have n10_ := A_ (blk_drew BK602.out); have n11_ := A_ (Kd.C_drew HR660_0.out); have n12_ := A_ (Kd.C_drew HR661_0.out); have n13_ := A_ (below_drew1 HB.out); clear HO_7 HO_9 HO_15 HO_19 HO_603000 HO_603001 HL660_0 HL661_0 HO665 BK601 BK602 HR660_0 HR661_0 HB; have HO_7 := n0_; have HO_9 := n1_; have HO_15 := n2_; have HO_19 := n3_; have HO_603000 := n4_; have HO_603001 := n5_; have HL660_0 := n6_; have HL661_0 := n7_; have HO665 := n8_; have BK601 := n9_; have BK602 := n10_; have HR660_0 := n11_; have HR661_0 := n12_; have HB := n13_; clear n0_ n1_ n2_ n3_ n4_ n5_ n6_ n7_ n8_ n9_ n10_ n11_ n12_ n13_
                   have p666 : 0 ≤ (x22_6 : Int) := of_decide_eq_true (by first | (with_reducible assumption) | assumption)
                   have q666 : x22_6 < (x19_108.length : Int) := of_decide_eq_true (by first | (with_reducible assumption) | assumption)
                   obtain ⟨ad666, A666_0, c666_0, e666, hx666_0, hl666_0, hi666_0⟩ := at_L1 (Kd.N_reads' HO_19.out).2.2 x22_6 p666 q666
                   obtain rfl : ad660 = ad666 := (by injection e666)
                   obtain ⟨ce666, hce666, hMe666, hcc666⟩ := Kd.N_get HO_19.out [] x22_6 p666 (by first | exact q666 | exact of_decide_eq_true (by first | (with_reducible assumption) | assumption) | (have e_ := (Kd.N_reads' HO_19.out).1; omega))
                   obtain ⟨ua666_0, uc666_0, rfl, ul666_0, ge666_0⟩ := Kd.FK_slice_open hMe666; have hv666_0 := hcc666 0 _ rfl; rw [Nat.add_zero, show ((Kd.slice 3 (Kd.int .i64))).sz = 1 from rfl, Nat.mul_one] at hv666_0; replace hv666_0 := Option.some.inj (hv666_0.symm.trans hx666_0)
                   injection hv666_0 with hva_ hvn_ hvc_
                   rw [hva_] at ge666_0; rw [hvc_] at ul666_0
                   have HL666_0 := A_ (show Kd.V (Kd.int .i64) 3 _ w.heap.size _ _ (rd_L1 x19_108 x22_6) from Kd.V_mk ul666_0 ge666_0)
                   clear hva_ hvn_ hvc_ ge666_0 ul666_0; clear hcc666 hce666; have HR666_0 := A_ hi666_0; have HC666_0 := A_ hl666_0; clear hi666_0 hl666_0; replace p666 := eq_true p666; replace q666 := eq_true q666
                   have p667 : 0 ≤ (x23_9 : Int) := of_decide_eq_true (by first | (with_reducible assumption) | assumption)
                   have q667 : x23_9 < (x19_108.length : Int) := of_decide_eq_true (by first | (with_reducible assumption) | assumption)
                   obtain ⟨ad667, A667_0, c667_0, e667, hx667_0, hl667_0, hi667_0⟩ := at_L1 (Kd.N_reads' HO_19.out).2.2 x23_9 p667 q667
                   obtain rfl : ad660 = ad667 := (by injection e667)
                   obtain ⟨ce667, hce667, hMe667, hcc667⟩ := Kd.N_get HO_19.out [] x23_9 p667 (by first | exact q667 | exact of_decide_eq_true (by first | (with_reducible assumption) | assumption) | (have e_ := (Kd.N_reads' HO_19.out).1; omega))
                   obtain ⟨ua667_0, uc667_0, rfl, ul667_0, ge667_0⟩ := Kd.FK_slice_open hMe667; have hv667_0 := hcc667 0 _ rfl; rw [Nat.add_zero, show ((Kd.slice 3 (Kd.int .i64))).sz = 1 from rfl, Nat.mul_one] at hv667_0; replace hv667_0 := Option.some.inj (hv667_0.symm.trans hx667_0)
                   injection hv667_0 with hva_ hvn_ hvc_
                   rw [hva_] at ge667_0; rw [hvc_] at ul667_0
                   have HL667_0 := A_ (show Kd.V (Kd.int .i64) 3 _ w.heap.size _ _ (rd_L1 x19_108 x23_9) from Kd.V_mk ul667_0 ge667_0)
                   clear hva_ hvn_ hvc_ ge667_0 ul667_0; clear hcc667 hce667; have HR667_0 := A_ hi667_0; have HC667_0 := A_ hl667_0; clear hi667_0 hl667_0; replace p667 := eq_true p667; replace q667 := eq_true q667
                   refine start_ (n := 14) (S := fun w' => w'.cell? (ad660.add (x22_6).toNat) = some (.slice A666_0 (rd_L1 x19_108 x22_6).length c666_0) ∧ w'.cell? (ad660.add (x23_9).toNat) = some (.slice A667_0 (rd_L1 x19_108 x23_9).length c667_0)) (ds := []) (mkB 14 0) (by kernel_rfl) rfl rfl ⟨hx666_0, hx667_0⟩ (fun hHeld => ?_); refine with_tabW droppertop_TopWire.tab37 droppertop_TopWire.bits37 (fun HT_ HW_ => ?_)
                   generalize w174.drew = w175 at HO_7 HO_9 HO_15 HO_19 HO_603000 HO_603001 HL660_0 HL661_0 HO665 BK601 BK602 HR660_0 HR661_0 HB HL666_0 HL667_0 HR666_0 HR667_0 hx666_0 hx667_0 hHeld ⊢; refine pr_ 0 (some 317) (mkB 14 1) HT_ ?_; refine pr_ 1 (some 318) (mkB 14 3) HT_ ?_; refine pr_ 2 (some 319) (mkB 14 7) HT_ ?_; refine pr_ 4 (some 321) (mkB 14 23) HT_ ?_; refine pr_ 5 (some 322) (mkB 14 55) HT_ ?_; refine pr_ 6 (some 323) (mkB 14 119) HT_ ?_
                   refine take_ (i := 3) (N := some 320) (v := ?_) (a' := ?_) (mkB 14 127) rfl rfl (take_ofW HT_.out HW_.out (by kernel_rfl)) (fun _ _ _ h => h) (Or.inl ⟨by rfl, ?_⟩) hHeld ?_ ?_
                   rotate_left
                   ·rintro w' ⟨s0, s1⟩
                    go_simp
                    with_reducible rfl
                   rotate_left
                   ·simp only [Act.put, List.setIfInBounds_toArray, List.set_cons_zero, List.set_cons_succ, i64_w, i32_w]
                    rfl
                   refine take_ (i := 7) (N := some 324) (v := ?_) (a' := ?_) (mkB 14 255) rfl rfl (take_ofW HT_.out HW_.out (by kernel_rfl)) (fun _ _ _ h => h) (Or.inl ⟨by rfl, ?_⟩) hHeld ?_ ?_
                   rotate_left
                   ·rintro w' ⟨s0, s1⟩
                    go_simp
                    with_reducible rfl
                   rotate_left
                   ·simp only [Act.put, List.setIfInBounds_toArray, List.set_cons_zero, List.set_cons_succ, i64_w, i32_w]
                    rfl
                   refine one_ (i := 8) (N := some 325) (mkB 14 511) rfl rfl (one_of HT_.out (by kernel_rfl)) (by decide) (fun K hK => ?_)
                   refine goes_ Try.func27 (by kernel_rfl) rfl #[.slice A666_0 (rd_L1 x19_108 x22_6).length c666_0, .slice A667_0 (rd_L1 x19_108 x23_9).length c667_0] (by rfl) rfl rfl (by (try simp only [List.map_toArray, List.map_cons, List.map_nil]); first | done | rfl | (simp only [List.length_drop, List.length_take]; rfl)) ?_
                   with_reducible refine (wire_Join.calls k9 _ _ (rd_L1 x19_108 x22_6) _ _ (rd_L1 x19_108 x23_9) t668 t669 _ ?side1 ?side2 ?side3 ?side4 A166.out).mono ?_
                   (case side1 => repeat (first | exact (by repeat (first | (with_reducible exact HR666_0.out) | (with_reducible refine Kd.C_alloc ?_ _) | (with_reducible refine Kd.C_drewN ?_ _) | (with_reducible refine Kd.C_drew ?_) | exact HR666_0.out)) | (with_reducible refine Kd.C_alloc ?_ _) | (with_reducible refine Kd.C_drewN ?_ _) | (with_reducible refine Kd.C_drew ?_)))
                   (case side2 => exact HC666_0.out)
                   (case side3 => repeat (first | exact (by repeat (first | (with_reducible exact HR667_0.out) | (with_reducible refine Kd.C_alloc ?_ _) | (with_reducible refine Kd.C_drewN ?_ _) | (with_reducible refine Kd.C_drew ?_) | exact HR667_0.out)) | (with_reducible refine Kd.C_alloc ?_ _) | (with_reducible refine Kd.C_drewN ?_ _) | (with_reducible refine Kd.C_drew ?_)))
                   (case side4 => exact HC667_0.out)
                   rintro e w176 ⟨v670, rfl, ho0, hb⟩
                   have HS0_ := (hb.cell (World.block_lt_of_cell? _ _ (hHeld.1))).trans (hHeld.1); have HS1_ := (hb.cell (World.block_lt_of_cell? _ _ (hHeld.2))).trans (hHeld.2)
                   refine ⟨_, rfl, ?_⟩
                   have n0_ := A_ (Kd.V_elder' (vU HO_7.out) (Kd.R_base ho0) hb)
                   have n1_ := A_ (Kd.V_elder' (vU HO_9.out) (Kd.R_base ho0) hb)
                   have n2_ := A_ (Kd.V_elder' (vU HO_15.out) (Kd.R_base ho0) hb)
                   have n3_ := A_ (Kd.N_elder' (nU HO_19.out) (Kd.R_base ho0) hb)
                   have n4_ := A_ (Kd.V_elder' (vU HO_603000.out) (Kd.R_base ho0) hb)
                   have n5_ := A_ (Kd.V_elder' (vU HO_603001.out) (Kd.R_base ho0) hb)
                   have n6_ := A_ (Kd.V_elder' (vU HL660_0.out) (Kd.R_base ho0) hb)
                   have n7_ := A_ (Kd.V_elder' (vU HL661_0.out) (Kd.R_base ho0) hb)
                   have n8_ := A_ (Kd.R_elder' (rU HO665.out) (Kd.R_base ho0) hb)
                   have n9_ := A_ (Kd.V_elder' (vU HL666_0.out) (Kd.R_base ho0) hb)
                   have n10_ := A_ (Kd.V_elder' (vU HL667_0.out) (Kd.R_base ho0) hb)
                   have n11_ := A_ (Kd.R_lower (Kd.R_new' (Kd.R_newM (M := fun k_ => (w.heap.size ≤ k_)) ho0 (below_size (bW2 HB.out GE601.out GE602.out)) (fun k_ h_ => h_)) (Kd.R_lt (rU HO665.out))) (below_size (bW2 HB.out GE601.out GE602.out)))
                   have n12_ := A_ (bkB BK601 hb); have n13_ := A_ (bkB BK602 hb)
                   have n14_ := A_ (Kd.C_below (by repeat (first | (with_reducible exact HR660_0.out) | (with_reducible refine Kd.C_alloc ?_ _) | (with_reducible refine Kd.C_drewN ?_ _) | (with_reducible refine Kd.C_drew ?_) | exact HR660_0.out)) hb)
                   have n15_ := A_ (Kd.C_below (by repeat (first | (with_reducible exact HR661_0.out) | (with_reducible refine Kd.C_alloc ?_ _) | (with_reducible refine Kd.C_drewN ?_ _) | (with_reducible refine Kd.C_drew ?_) | exact HR661_0.out)) hb)
                   have n16_ := A_ (Kd.C_below (by repeat (first | (with_reducible exact HR666_0.out) | (with_reducible refine Kd.C_alloc ?_ _) | (with_reducible refine Kd.C_drewN ?_ _) | (with_reducible refine Kd.C_drew ?_) | exact HR666_0.out)) hb)
                   have n17_ := A_ (Kd.C_below (by repeat (first | (with_reducible exact HR667_0.out) | (with_reducible refine Kd.C_alloc ?_ _) | (with_reducible refine Kd.C_drewN ?_ _) | (with_reducible refine Kd.C_drew ?_) | exact HR667_0.out)) hb)
                   have n18_ := A_ (below_step (bW2 HB.out GE601.out GE602.out) hb)
                   clear HO_7; clear HO_9 HO_15 HO_19 HO_603000 HO_603001 HL660_0 HL661_0 HO665 HL666_0 HL667_0 BK601 BK602 HR660_0 HR661_0 HR666_0 HR667_0 HB; have HO_7 := n0_; have HO_9 := n1_; have HO_15 := n2_; have HO_19 := n3_; have HO_603000 := n4_; have HO_603001 := n5_; have HL660_0 := n6_; have HL661_0 := n7_; have HO665 := n8_; have HL666_0 := n9_; have HL667_0 := n10_; have HO671 := n11_; have BK601 := n12_; have BK602 := n13_; have HR660_0 := n14_; have HR661_0 := n15_; have HR666_0 := n16_; have HR667_0 := n17_; have HB := n18_; clear n0_ n1_ n2_ n3_ n4_ n5_ n6_ n7_ n8_ n9_ n10_ n11_ n12_ n13_ n14_ n15_ n16_ n17_ n18_
                   (try clear hb)
                   (try clear hb2)
                   (try clear hk)
                   (try clear hi)
                   (try clear ho0)
                   refine hK.out _ _ ⟨HS0_, HS1_⟩ (fun hHeld => ?_)
                   clear hK K
                   refine norm_ (a' := ?_) ?_ ?_
                   rotate_left
                   ·show Act.put _ (some 325) _ = _
                    simp only [Act.put, List.setIfInBounds_toArray, List.set_cons_zero, List.set_cons_succ, i64_w, i32_w]
                    rfl
                   refine pr_ 9 (some 316) (mkB 14 1023) HT_ ?_; refine pr_ 10 (some 326) (mkB 14 2047) HT_ ?_; refine pr_ 11 (some 327) (mkB 14 4095) HT_ ?_; refine pr_ 12 (some 26) (mkB 14 8191) HT_ ?_; refine pr_ 13 (some 27) (mkB 14 16383) HT_ ?_
                   refine done_ (done_of HT_.out (by kernel_rfl)) ?_
                   have hnb177 := NB601_602.out; have hnc177 := NB602_601.out; have hcz178_0 : w176.cell? ⟨gb601, 0, none⟩ = some (.int .i64 a1_0) := (blk_cell BK601.out 0).trans rfl; have hcz178_1 : w176.cell? ⟨gb601, 1, none⟩ = some (.int .i64 a1_1) := (blk_cell BK601.out 1).trans rfl; have hfz178_0 := blk_frozen BK601.out 0; have hfz178_1 := blk_frozen BK601.out 1; obtain ⟨Ao179, co179, eo179⟩ := Kd.R_slice HO665.out; subst eo179
                   try go_wp2_with (first | (go_at_call 24; (with_reducible refine (droppertop_fits.calls k9 _ _ l0 a1_0 a1_1 _ _ t662 true _ ?side1 ?side2 ?side3 ?side4 A169.out).mono ?_); (case side1 => exact cU (Kd.C_below HR0.out HB.out)); (case side2 => exact HC0.out); (case side3 => exact cU (Kd.R_reads' HO665.out).2.2); (case side4 => exact (Kd.R_reads' HO665.out).2.1); rintro e w180 ⟨rfl, hb⟩; have n0_ := A_ (Kd.V_below (vU HO_7.out) hb); have n1_ := A_ (Kd.V_below (vU HO_9.out) hb); have n2_ := A_ (Kd.V_below (vU HO_15.out) hb); have n3_ := A_ (Kd.N_below (nU HO_19.out) hb); have n4_ := A_ (Kd.V_below (vU HO_603000.out) hb); have n5_ := A_ (Kd.V_below (vU HO_603001.out) hb); have n6_ := A_ (Kd.V_below (vU HL660_0.out) hb); have n7_ := A_ (Kd.V_below (vU HL661_0.out) hb); have n8_ := A_ (Kd.R_below (rU HO665.out) hb); have n9_ := A_ (Kd.V_below (vU HL666_0.out) hb); have n10_ := A_ (Kd.V_below (vU HL667_0.out) hb); have n11_ := A_ (Kd.R_below (rU HO671.out) hb); have n12_ := A_ (bkB BK601 hb); have n13_ := A_ (bkB BK602 hb); have n14_ := A_ (Kd.C_below (by repeat (first | (with_reducible exact HR660_0.out) | (with_reducible refine Kd.C_alloc ?_ _) | (with_reducible refine Kd.C_drewN ?_ _) | (with_reducible refine Kd.C_drew ?_) | exact HR660_0.out)) hb); have n15_ := A_ (Kd.C_below (by repeat (first | (with_reducible exact HR661_0.out) | (with_reducible refine Kd.C_alloc ?_ _) | (with_reducible refine Kd.C_drewN ?_ _) | (with_reducible refine Kd.C_drew ?_) | exact HR661_0.out)) hb); have n16_ := A_ (Kd.C_below (by repeat (first | (with_reducible exact HR666_0.out) | (with_reducible refine Kd.C_alloc ?_ _) | (with_reducible refine Kd.C_drewN ?_ _) | (with_reducible refine Kd.C_drew ?_) | exact HR666_0.out)) hb); have n17_ := A_ (Kd.C_below (by repeat (first | (with_reducible exact HR667_0.out) | (with_reducible refine Kd.C_alloc ?_ _) | (with_reducible refine Kd.C_drewN ?_ _) | (with_reducible refine Kd.C_drew ?_) | exact HR667_0.out)) hb); have n18_ := A_ (below_step (bW2 HB.out GE601.out GE602.out) hb); clear HO_7; clear HO_9; clear HO_15; clear HO_19; clear HO_603000; clear HO_603001; clear HL660_0; clear HL661_0; clear HO665; clear HL666_0; clear HL667_0; clear HO671; clear BK601; clear BK602; clear HR660_0; clear HR661_0; clear HR666_0; clear HR667_0; clear HB; have HO_7 := n0_; have HO_9 := n1_; have HO_15 := n2_; have HO_19 := n3_; have HO_603000 := n4_; have HO_603001 := n5_; have HL660_0 := n6_; have HL661_0 := n7_; have HO665 := n8_; have HL666_0 := n9_; have HL667_0 := n10_; have HO671 := n11_; have BK601 := n12_; have BK602 := n13_; have HR660_0 := n14_; have HR661_0 := n15_; have HR666_0 := n16_; have HR667_0 := n17_; have HB := n18_; clear n0_ n1_ n2_ n3_ n4_ n5_ n6_ n7_ n8_ n9_ n10_ n11_ n12_ n13_ n14_ n15_ n16_ n17_ n18_; (try clear hb); (try clear hb2); (try clear hk); (try clear hi); have hcz181_0 : w180.cell? ⟨gb601, 0, none⟩ = some (.int .i64 a1_0) := (blk_cell BK601.out 0).trans rfl; have hcz181_1 : w180.cell? ⟨gb601, 1, none⟩ = some (.int .i64 a1_1) := (blk_cell BK601.out 1).trans rfl; have hfz181_0 := blk_frozen BK601.out 0; have hfz181_1 := blk_frozen BK601.out 1; obtain ⟨Ao182, co182, eo182⟩ := Kd.R_slice HO671.out; subst eo182) | (go_at_call 24; (with_reducible refine (droppertop_fits.calls k9 _ _ l0 a1_0 a1_1 _ _ t668 true _ ?side1 ?side2 ?side3 ?side4 A171.out).mono ?_); (case side1 => exact cU (Kd.C_below HR0.out HB.out)); (case side2 => exact HC0.out); (case side3 => exact cU (Kd.R_reads' HO671.out).2.2); (case side4 => exact (Kd.R_reads' HO671.out).2.1); rintro e w183 ⟨rfl, hb⟩; have n0_ := A_ (Kd.V_below (vU HO_7.out) hb); have n1_ := A_ (Kd.V_below (vU HO_9.out) hb); have n2_ := A_ (Kd.V_below (vU HO_15.out) hb); have n3_ := A_ (Kd.N_below (nU HO_19.out) hb); have n4_ := A_ (Kd.V_below (vU HO_603000.out) hb); have n5_ := A_ (Kd.V_below (vU HO_603001.out) hb); have n6_ := A_ (Kd.V_below (vU HL660_0.out) hb); have n7_ := A_ (Kd.V_below (vU HL661_0.out) hb); have n8_ := A_ (Kd.R_below (rU HO665.out) hb); have n9_ := A_ (Kd.V_below (vU HL666_0.out) hb); have n10_ := A_ (Kd.V_below (vU HL667_0.out) hb); have n11_ := A_ (Kd.R_below (rU HO671.out) hb); have n12_ := A_ (bkB BK601 hb); have n13_ := A_ (bkB BK602 hb); have n14_ := A_ (Kd.C_below (by repeat (first | (with_reducible exact HR660_0.out) | (with_reducible refine Kd.C_alloc ?_ _) | (with_reducible refine Kd.C_drewN ?_ _) | (with_reducible refine Kd.C_drew ?_) | exact HR660_0.out)) hb); have n15_ := A_ (Kd.C_below (by repeat (first | (with_reducible exact HR661_0.out) | (with_reducible refine Kd.C_alloc ?_ _) | (with_reducible refine Kd.C_drewN ?_ _) | (with_reducible refine Kd.C_drew ?_) | exact HR661_0.out)) hb); have n16_ := A_ (Kd.C_below (by repeat (first | (with_reducible exact HR666_0.out) | (with_reducible refine Kd.C_alloc ?_ _) | (with_reducible refine Kd.C_drewN ?_ _) | (with_reducible refine Kd.C_drew ?_) | exact HR666_0.out)) hb); have n17_ := A_ (Kd.C_below (by repeat (first | (with_reducible exact HR667_0.out) | (with_reducible refine Kd.C_alloc ?_ _) | (with_reducible refine Kd.C_drewN ?_ _) | (with_reducible refine Kd.C_drew ?_) | exact HR667_0.out)) hb); have n18_ := A_ (below_step (bW2 HB.out GE601.out GE602.out) hb); clear HO_7; clear HO_9; clear HO_15; clear HO_19; clear HO_603000; clear HO_603001; clear HL660_0; clear HL661_0; clear HO665; clear HL666_0; clear HL667_0; clear HO671; clear BK601; clear BK602; clear HR660_0; clear HR661_0; clear HR666_0; clear HR667_0; clear HB; have HO_7 := n0_; have HO_9 := n1_; have HO_15 := n2_; have HO_19 := n3_; have HO_603000 := n4_; have HO_603001 := n5_; have HL660_0 := n6_; have HL661_0 := n7_; have HO665 := n8_; have HL666_0 := n9_; have HL667_0 := n10_; have HO671 := n11_; have BK601 := n12_; have BK602 := n13_; have HR660_0 := n14_; have HR661_0 := n15_; have HR666_0 := n16_; have HR667_0 := n17_; have HB := n18_; clear n0_ n1_ n2_ n3_ n4_ n5_ n6_ n7_ n8_ n9_ n10_ n11_ n12_ n13_ n14_ n15_ n16_ n17_ n18_; (try clear hb); (try clear hb2); (try clear hk); (try clear hi)))
                   go_roundg k9
                   case measure => have := HJ3.out; have := HJ61.out; have := HK3.out; have := HJ108.out; have := HJ120.out; have := HK6.out; have := HJ136.out; have := HJ145.out; have := HK9.out; omega
                   case rel => exact ⟨(wrap64 (x23_9 + 1)), (by first | rfl | (simp; done) | (simp [*]; done)), H', ⟨by have := HJ3.out; have := HJ61.out; have := HK3.out; have := HJ108.out; have := HJ120.out; have := HK6.out; have := HJ136.out; have := HJ145.out; have := HK9.out; omega⟩, ⟨by (with_reducible repeat (first | apply Kd.V_alloc | apply Kd.V_drewN | apply Kd.V_drew)); exact Kd.V_mono HO_7.out (fun _ hk => ⟨hk.1.1.1, ⟨hk.1.1.2.1, ⟨hk.1.1.2.2.1, hk.1.1.2.2.2⟩⟩⟩)⟩, ⟨by (with_reducible repeat (first | apply Kd.V_alloc | apply Kd.V_drewN | apply Kd.V_drew)); exact Kd.V_mono HO_9.out (fun _ hk => ⟨hk.1.1.1, ⟨hk.1.1.2.1, ⟨hk.1.1.2.2.1, hk.1.1.2.2.2⟩⟩⟩)⟩, ⟨by (with_reducible repeat (first | apply Kd.V_alloc | apply Kd.V_drewN | apply Kd.V_drew)); exact Kd.V_mono HO_15.out (fun _ hk => ⟨hk.1.1.1, ⟨hk.1.1.2.1, ⟨hk.1.1.2.2.1, hk.1.1.2.2.2⟩⟩⟩)⟩, ⟨by (with_reducible repeat (first | apply Kd.N_alloc | apply Kd.N_drewN | apply Kd.N_drew)); exact Kd.N_mono HO_19.out (fun _ hk => ⟨hk.1.1.1, ⟨hk.1.1.2.1, hk.1.1.2.2⟩⟩)⟩, ⟨by (with_reducible repeat (first | apply Kd.V_alloc | apply Kd.V_drewN | apply Kd.V_drew)); exact Kd.V_mono HO_603000.out (fun _ hk => ⟨hk.1.1.1, ⟨hk.1.1.2.1, ⟨hk.1.1.2.2.1, hk.1.1.2.2.2⟩⟩⟩)⟩, ⟨by (with_reducible repeat (first | apply Kd.V_alloc | apply Kd.V_drewN | apply Kd.V_drew)); exact Kd.V_mono HO_603001.out (fun _ hk => ⟨hk.1.1.1, ⟨hk.1.1.2.1, ⟨hk.1.1.2.2.1, hk.1.1.2.2.2⟩⟩⟩)⟩, ⟨bkU BK601⟩, ⟨bkU BK602⟩, ⟨by repeat (first | (with_reducible first | exact HB.out | apply below_alloc | apply pw_below_drewN | apply below_drew1 | refine below_set ?_ GE601.out | refine below_set ?_ GE602.out) | exact HB.out)⟩⟩
end Go.Proofs.Ytciepmpadcpkbaa.G
