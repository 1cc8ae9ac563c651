/- Functions of the seat and plain laws about them: GF50, GF86, GF66, GF67, GF29, GF47, GF13, GF95, GF80, GF48, GF49. -/
import Derived.Test.YthbpibdfookbmaaGBase
section
namespace Go.Proofs.Ythbpibdfookbmaa.G
open Go.RowKit Go.Proofs.YthbpibdfookbmaaW.PrintWords Go.Proofs.YthbpibdfookbmaaW.PrintLast Go.Proofs.YthbpibdfookbmaaW.PrintMore
attribute [local go_sem] max2_int min2_int max_two min_two max_three min_three max_four min_four
set_option linter.unusedVariables false
set_option linter.unusedSimpArgs false
def ice_within.f (a0 : Int) (a1 : Int) (a2 : Int) : Option (Bool) := if a0 ≤ a1 then (some (decide (a1 ≤ a2))) else (some false)
set_option maxHeartbeats 8000000 in
set_option maxRecDepth 100000 in
theorem ice_within.calls (a0 : Int) (a1 : Int) (a2 : Int) (r : Bool) (w : World) (h : ice_within.f a0 a1 a2 = some r) :
  Calls Try.prog 50 #[.int .i64 a0, .int .i64 a1, .int .i64 a2] w fun e w' => e = .returned (.bool r) ∧ Drawn0 w w' := by
 have H : (if a0 ≤ a1 then (some (decide (a1 ≤ a2))) else (some false)) = some r := h
 clear h
 by_cases c4 : a0 ≤ a1
 ·rw [if_pos c4] at H
  have c4b0 : decide (a0 ≤ a1) = true := decide_eq_true c4
  clear c4
  obtain rfl := Option.some.inj H
  go_enter Try.func50, Try.ntmps50
  go_wp2
  go_ret
  exact ⟨by first | rfl | (simp; done) | (simp [*]; done), by repeat (first | exact Drawn0.refl _ | apply Drawn0.step)⟩
 rw [if_neg c4] at H
 have c4b0 : decide (a0 ≤ a1) = false := decide_eq_false c4
 clear c4
 obtain rfl := Option.some.inj H
 go_enter Try.func50, Try.ntmps50
 go_wp2
 go_ret
 exact ⟨by first | rfl | (simp; done) | (simp [*]; done), by repeat (first | exact Drawn0.refl _ | apply Drawn0.step)⟩
def slices_IndexFunc_int_int.l0 : Nat → List Int → (Int → Option (Bool)) → Int → Int → Option (Int)
 | 0, _, _, _, _ => none
 | k + 1, x0, x1, x7, x8 => if x8 < x7 then (if 0 ≤ x8 then (if x8 < (x0.length : Int) then ((x1 (rd x0 x8)).bind fun t102 => (if t102 = true then (some x8) else (slices_IndexFunc_int_int.l0 k x0 x1 x7 (wrap64 (x8 + 1))))) else (none)) else (none)) else (some (-1))
def slices_IndexFunc_int_int.f (k : Nat) (l0 : List Int) (a1 : (Int → Option (Bool))) : Option (Int) := slices_IndexFunc_int_int.l0 k l0 a1 (l0.length : Int) 0
theorem slices_IndexFunc_int_int.mono_l : ∀ k, (∀ y0 y1 y2 y3, LeO (slices_IndexFunc_int_int.l0 k y0 y1 y2 y3) (slices_IndexFunc_int_int.l0 (k + 1) y0 y1 y2 y3))
 | 0 => fun _ _ _ _ r h => by simp [slices_IndexFunc_int_int.l0] at h
 | k + 1 => by
  have ih0 := slices_IndexFunc_int_int.mono_l k
  ·intro y0 y1 y2 y3
   unfold slices_IndexFunc_int_int.l0
   repeat' first
   | (with_reducible exact ih0 _ _ _ _)
   | (with_reducible exact LeO.refl _)
   | (with_reducible exact LeO.none _)
   | (with_reducible refine LeO.ite ?_ ?_)
   | (with_reducible refine LeO.bind ?_ (fun _ => ?_))
   | exact ih0 _ _ _ _
   | exact LeO.none _
   | refine LeO.ite ?_ ?_
   | refine LeO.bind ?_ (fun _ => ?_)
theorem slices_IndexFunc_int_int.mono : ∀ a0 a1 k, LeO (slices_IndexFunc_int_int.f k a0 a1) (slices_IndexFunc_int_int.f (k + 1) a0 a1) := by
 intro a0 a1 k
 have ih0 := slices_IndexFunc_int_int.mono_l k
 unfold slices_IndexFunc_int_int.f
 repeat' first
   | (with_reducible exact ih0 _ _ _ _)
   | (with_reducible exact LeO.refl _)
   | (with_reducible exact LeO.none _)
   | (with_reducible refine LeO.ite ?_ ?_)
   | (with_reducible refine LeO.bind ?_ (fun _ => ?_))
   | exact ih0 _ _ _ _
   | exact LeO.none _
   | refine LeO.ite ?_ ?_
   | refine LeO.bind ?_ (fun _ => ?_)
set_option maxHeartbeats 8000000 in
set_option maxRecDepth 100000 in
theorem slices_IndexFunc_int_int.calls (k : Nat) (A0 : Option Addr) (c0 : Nat) (l0 : List Int) {g1 : FuncId} {lb1 : Array Value} (hen1 : EntersF Try.prog g1) (a1 : (Int → Option (Bool))) (r : Int) (w : World) (hr0 : Kd.C (Kd.int .i64) w A0 l0.length l0) (hc0 : l0.length ≤ c0) (hfn1 : ∀ (z0_ : Int) (q0_ : Bool) (W_ : World), Below w.heap.size w W_ → a1 z0_ = some q0_ → Calls Try.prog g1 (#[.int .i64 z0_] ++ lb1) W_ fun e w' => e = .returned (.bool q0_) ∧ Below W_.heap.size W_ w') (h : slices_IndexFunc_int_int.f k l0 a1 = some r) :
  Calls Try.prog 86 #[.slice A0 l0.length c0, .func (.func g1) #[] lb1] w fun e w' => e = .returned (.int .i64 r) ∧ Below w.heap.size w w' := by
 have HR0 := A_ hr0
 have HC0 := A_ hc0
 clear hr0 hc0
 have HFN1 := A_ hfn1
 have HEN1 := A_ hen1
 clear hfn1 hen1
 have HB := A_ (Below.refl w.heap.size w)
 have H : (slices_IndexFunc_int_int.l0 k l0 a1 (l0.length : Int) 0) = some r := h
 clear h
 have H' := A_ H
 clear H
 go_enter Try.func86, Try.ntmps86
 go_wp2
 go_loopg [8] k (fun kq v8 w' => ∃ (x8_1 : Int), v8 = .int .i64 x8_1 ∧ Aside0 (slices_IndexFunc_int_int.l0 kq l0 a1 (l0.length : Int) x8_1 = some r) ∧ Aside0 (kq ≤ k) ∧ Aside0 (Below w.heap.size w w'))
 case atStart => exact ⟨(0), eS, H', ⟨Nat.le_refl _⟩, ⟨by repeat (first | (with_reducible first | exact HB.out | apply below_alloc | apply pw_below_drewN | apply below_drew1) | exact HB.out)⟩⟩
 case round =>
  clear H'
  try clear p2
  obtain ⟨x8_1, rfl, HA, HK1, HB⟩ := hrel
  cases gk with
  | zero => exact absurd HA.out (by simp [slices_IndexFunc_int_int.l0])
  | succ k1 =>
   have H := HA.out
   clear HA
   simp only [slices_IndexFunc_int_int.l0] at H
   by_cases c3 : x8_1 < (l0.length : Int)
   rotate_left
   ·rw [if_neg c3] at H
    have c3b0 : decide (x8_1 < (l0.length : Int)) = false := decide_eq_false c3
    clear c3
    obtain rfl := Option.some.inj H
    go_wp2
    go_ret
    exact ⟨eQ, by repeat (first | (with_reducible first | exact HB.out | apply below_alloc | apply pw_below_drewN | apply below_drew1) | exact HB.out)⟩
   rw [if_pos c3] at H
   have c3b0 : decide (x8_1 < (l0.length : Int)) = true := decide_eq_true c3
   clear c3
   by_cases c4 : 0 ≤ x8_1
   rotate_left
   ·rw [if_neg c4] at H
    exact absurd H (by simp)
   rw [if_pos c4] at H
   have c4b0 : decide (0 ≤ x8_1) = true := decide_eq_true c4
   clear c4
   by_cases c5 : x8_1 < (l0.length : Int)
   rotate_left
   ·rw [if_neg c5] at H
    exact absurd H (by simp)
   rw [if_pos c5] at H
   have c5b0 : decide (x8_1 < (l0.length : Int)) = true := decide_eq_true c5
   clear c5
   replace H := Option.bind_eq_some_iff.mp H
   obtain ⟨t102, A60, H⟩ := H
   replace H : (if t102 = true then (some x8_1) else (slices_IndexFunc_int_int.l0 k1 l0 a1 (l0.length : Int) (wrap64 (x8_1 + 1)))) = some r := H
   have A6 := A_ A60
   clear A60
   by_cases c7 : t102 = true
   ·subst c7
    have H1 : (some x8_1) = some r := by rw [if_pos rfl] at H; exact H
    clear H
    have H := H1
    clear H1
    obtain rfl := Option.some.inj H
    have p101 : 0 ≤ (x8_1 : Int) := oD
    have q101 : x8_1 < (l0.length : Int) := oD
    obtain ⟨ad101, e101, hx101_0⟩ := Kd.at_int HR0.out x8_1 p101 q101
    cases e101
    replace hx101_0 := (HB.out.cell (World.block_lt_of_cell? w _ hx101_0)).trans hx101_0
    replace p101 := eq_true p101
    replace q101 := eq_true q101
    go_wp2_with (first | ((with_reducible refine gate_fv (T := 11) rfl ?_); refine goesF_ (some 16) rfl rfl HEN1.out (lb := lb1) #[.int .i64 (rd l0 x8_1)] rfl rfl (by (try simp only [List.map_toArray, List.map_cons, List.map_nil]); first | done | rfl | (simp only [List.length_drop, List.length_take]; rfl)) ?_; (with_reducible refine (HFN1.out (rd l0 x8_1) true _ (bW0 HB.out) A6.out).mono ?_); rintro e w8 ⟨rfl, hb⟩; refine ⟨_, rfl, ?_⟩; have n0_ := A_ (below_step (bW0 HB.out) hb); clear HB; have HB := n0_; clear n0_; (try clear hb)))
    go_ret
    exact ⟨eQ, by repeat (first | (with_reducible first | exact HB.out | apply below_alloc | apply pw_below_drewN | apply below_drew1) | exact HB.out)⟩
   replace c7 := Bool.eq_false_iff.mpr c7
   subst c7
   have H1 : (slices_IndexFunc_int_int.l0 k1 l0 a1 (l0.length : Int) (wrap64 (x8_1 + 1))) = some r := by rw [if_neg (show ¬ (false = true) by decide)] at H; exact H
   clear H
   have H := H1
   clear H1
   have H' := A_ H
   clear H
   have p101 : 0 ≤ (x8_1 : Int) := oD
   have q101 : x8_1 < (l0.length : Int) := oD
   obtain ⟨ad101, e101, hx101_0⟩ := Kd.at_int HR0.out x8_1 p101 q101
   cases e101
   replace hx101_0 := (HB.out.cell (World.block_lt_of_cell? w _ hx101_0)).trans hx101_0
   replace p101 := eq_true p101
   replace q101 := eq_true q101
   go_wp2_with (first | ((with_reducible refine gate_fv (T := 11) rfl ?_); refine goesF_ (some 16) rfl rfl HEN1.out (lb := lb1) #[.int .i64 (rd l0 x8_1)] rfl rfl (by (try simp only [List.map_toArray, List.map_cons, List.map_nil]); first | done | rfl | (simp only [List.length_drop, List.length_take]; rfl)) ?_; (with_reducible refine (HFN1.out (rd l0 x8_1) false _ (bW0 HB.out) A6.out).mono ?_); rintro e w9 ⟨rfl, hb⟩; refine ⟨_, rfl, ?_⟩; have n0_ := A_ (below_step (bW0 HB.out) hb); clear HB; have HB := n0_; clear n0_; (try clear hb)))
   go_roundg k1
   case measure => have := HK1.out; omega
   case rel => exact ⟨(wrap64 (x8_1 + 1)), eS, H', ⟨by have := HK1.out; omega⟩, ⟨by repeat (first | (with_reducible first | exact HB.out | apply below_alloc | apply pw_below_drewN | apply below_drew1) | exact HB.out)⟩⟩
def slices_ContainsFunc_int_int.f (k : Nat) (l0 : List Int) (a1 : (Int → Option (Bool))) : Option (Bool) := (slices_IndexFunc_int_int.f k l0 a1).bind fun t101 => (some (decide (t101 ≥ 0)))
theorem slices_ContainsFunc_int_int.mono : ∀ a0 a1 k, LeO (slices_ContainsFunc_int_int.f k a0 a1) (slices_ContainsFunc_int_int.f (k + 1) a0 a1) := by
 intro a0 a1 k
 unfold slices_ContainsFunc_int_int.f
 repeat' first
   | (with_reducible exact slices_IndexFunc_int_int.mono _ _ _)
   | (with_reducible exact LeO.refl _)
   | (with_reducible exact LeO.none _)
   | (with_reducible refine LeO.ite ?_ ?_)
   | (with_reducible refine LeO.bind ?_ (fun _ => ?_))
   | exact slices_IndexFunc_int_int.mono _ _ _
   | exact LeO.none _
   | refine LeO.ite ?_ ?_
   | refine LeO.bind ?_ (fun _ => ?_)
set_option maxHeartbeats 8000000 in
set_option maxRecDepth 100000 in
theorem slices_ContainsFunc_int_int.calls (k : Nat) (A0 : Option Addr) (c0 : Nat) (l0 : List Int) {g1 : FuncId} {lb1 : Array Value} (hen1 : EntersF Try.prog g1) (a1 : (Int → Option (Bool))) (r : Bool) (w : World) (hr0 : Kd.C (Kd.int .i64) w A0 l0.length l0) (hc0 : l0.length ≤ c0) (hfn1 : ∀ (z0_ : Int) (q0_ : Bool) (W_ : World), Below w.heap.size w W_ → a1 z0_ = some q0_ → Calls Try.prog g1 (#[.int .i64 z0_] ++ lb1) W_ fun e w' => e = .returned (.bool q0_) ∧ Below W_.heap.size W_ w') (h : slices_ContainsFunc_int_int.f k l0 a1 = some r) :
  Calls Try.prog 66 #[.slice A0 l0.length c0, .func (.func g1) #[] lb1] w fun e w' => e = .returned (.bool r) ∧ Below w.heap.size w w' := by
 have HR0 := A_ hr0
 have HC0 := A_ hc0
 clear hr0 hc0
 have HFN1 := A_ hfn1
 have HEN1 := A_ hen1
 clear hfn1 hen1
 have HB := A_ (Below.refl w.heap.size w)
 have H : ((slices_IndexFunc_int_int.f k l0 a1).bind fun t101 => (some (decide (t101 ≥ 0)))) = some r := h
 clear h
 replace H := Option.bind_eq_some_iff.mp H
 obtain ⟨t101, A30, H⟩ := H
 replace H : (some (decide (t101 ≥ 0))) = some r := H
 have A3 := A_ A30
 clear A30
 obtain rfl := Option.some.inj H
 go_enter Try.func66, Try.ntmps66
 go_wp2_with (first | ((with_reducible refine gate_callee (f := 86) rfl ?_); refine goesW_ (some 7) Try.func86 #[.slice A0 l0.length c0, .func (.func g1) #[] lb1] ?_; (with_reducible refine (slices_IndexFunc_int_int.calls k _ _ l0 HEN1.out a1 t101 _ ?side1 ?side2 ?side3 A3.out).mono ?_); (case side1 => exact cU HR0.out); (case side2 => exact HC0.out); (case side3 => exact fun z0_ q0_ W_ hW_ hq_ => HFN1.out z0_ q0_ W_ (below_step (bW0 HB.out) hW_) hq_); rintro e w4 ⟨rfl, hb⟩; refine ⟨_, rfl, ?_⟩; have n0_ := A_ (below_step (bW0 HB.out) hb); clear HB; have HB := n0_; clear n0_; (try clear hb)))
 go_ret
 exact ⟨eQ, by repeat (first | (with_reducible first | exact HB.out | apply below_alloc | apply pw_below_drewN | apply below_drew1) | exact HB.out)⟩
def ice_Valid_1.f (a0 : Int) : Option (Bool) := (ice_within.f 1 a0 8).bind fun t101 => (some (!t101))
set_option maxHeartbeats 8000000 in
set_option maxRecDepth 100000 in
theorem ice_Valid_1.calls (a0 : Int) (r : Bool) (w : World) (h : ice_Valid_1.f a0 = some r) :
  Calls Try.prog 67 #[.int .i64 a0] w fun e w' => e = .returned (.bool r) ∧ Drawn0 w w' := by
 have H : ((ice_within.f 1 a0 8).bind fun t101 => (some (!t101))) = some r := h
 clear h
 replace H := Option.bind_eq_some_iff.mp H
 obtain ⟨t101, A20, H⟩ := H
 replace H : (some (!t101)) = some r := H
 have A2 := A_ A20
 clear A20
 obtain rfl := Option.some.inj H
 go_enter Try.func67, Try.ntmps67
 go_wp2_with (first | ((with_reducible refine gate_callee (f := 50) rfl ?_); refine goesW_ (some 4) Try.func50 #[.int .i64 1, .int .i64 a0, .int .i64 8] ?_; (with_reducible refine (ice_within.calls 1 a0 8 t101 _ A2.out).mono ?_); rintro e w' ⟨rfl, ⟨nd, rfl⟩⟩; refine ⟨_, rfl, ?_⟩))
 go_ret
 exact ⟨by first | rfl | (simp; done) | (simp [*]; done), by repeat (first | exact Drawn0.refl _ | apply Drawn0.step)⟩
def ice_Valid.f (k : Nat) (l0 : List Int) : Option (Bool) := (ice_within.f 1 (l0.length : Int) 5).bind fun t101 => (if t101 = true then ((slices_ContainsFunc_int_int.f k l0 ice_Valid_1.f).bind fun t102 => (some (!t102))) else (some false))
theorem ice_Valid.mono : ∀ a0 k, LeO (ice_Valid.f k a0) (ice_Valid.f (k + 1) a0) := by
 intro a0 k
 unfold ice_Valid.f
 repeat' first
   | (with_reducible exact slices_ContainsFunc_int_int.mono _ _ _)
   | (with_reducible exact LeO.refl _)
   | (with_reducible exact LeO.none _)
   | (with_reducible refine LeO.ite ?_ ?_)
   | (with_reducible refine LeO.bind ?_ (fun _ => ?_))
   | exact slices_ContainsFunc_int_int.mono _ _ _
   | exact LeO.none _
   | refine LeO.ite ?_ ?_
   | refine LeO.bind ?_ (fun _ => ?_)
set_option maxHeartbeats 8000000 in
set_option maxRecDepth 100000 in
theorem ice_Valid.calls (k : Nat) (A0 : Option Addr) (c0 : Nat) (l0 : List Int) (r : Bool) (w : World) (hr0 : Kd.C (Kd.int .i64) w A0 l0.length l0) (hc0 : l0.length ≤ c0) (h : ice_Valid.f k l0 = some r) :
  Calls Try.prog 29 #[.slice A0 l0.length c0] w fun e w' => e = .returned (.bool r) ∧ Below w.heap.size w w' := by
 have HR0 := A_ hr0
 have HC0 := A_ hc0
 clear hr0 hc0
 have HB := A_ (Below.refl w.heap.size w)
 have H : ((ice_within.f 1 (l0.length : Int) 5).bind fun t101 => (if t101 = true then ((slices_ContainsFunc_int_int.f k l0 ice_Valid_1.f).bind fun t102 => (some (!t102))) else (some false))) = some r := h
 clear h
 replace H := Option.bind_eq_some_iff.mp H
 obtain ⟨t101, A20, H⟩ := H
 replace H : (if t101 = true then ((slices_ContainsFunc_int_int.f k l0 ice_Valid_1.f).bind fun t102 => (some (!t102))) else (some false)) = some r := H
 have A2 := A_ A20
 clear A20
 by_cases c3 : t101 = true
 rotate_left
 ·replace c3 := Bool.eq_false_iff.mpr c3
  subst c3
  have H1 : (some false) = some r := by rw [if_neg (show ¬ (false = true) by decide)] at H; exact H
  clear H
  have H := H1
  clear H1
  obtain rfl := Option.some.inj H
  go_enter Try.func29, Try.ntmps29
  go_wp2_with (first | ((with_reducible refine gate_callee (f := 50) rfl ?_); refine goesW_ (some 5) Try.func50 #[.int .i64 1, .int .i64 (l0.length : Int), .int .i64 5] ?_; (with_reducible refine (ice_within.calls 1 (l0.length : Int) 5 false _ A2.out).mono ?_); rintro e w' ⟨rfl, ⟨nd, rfl⟩⟩; refine ⟨_, rfl, ?_⟩))
  go_ret
  exact ⟨eQ, by repeat (first | (with_reducible first | exact HB.out | apply below_alloc | apply pw_below_drewN | apply below_drew1) | exact HB.out)⟩
 subst c3
 have H1 : ((slices_ContainsFunc_int_int.f k l0 ice_Valid_1.f).bind fun t102 => (some (!t102))) = some r := by rw [if_pos rfl] at H; exact H
 clear H
 have H := H1
 clear H1
 replace H := Option.bind_eq_some_iff.mp H
 obtain ⟨t102, A40, H⟩ := H
 replace H : (some (!t102)) = some r := H
 have A4 := A_ A40
 clear A40
 obtain rfl := Option.some.inj H
 go_enter Try.func29, Try.ntmps29
 go_wp2_with (first | ((with_reducible refine gate_callee (f := 50) rfl ?_); refine goesW_ (some 5) Try.func50 #[.int .i64 1, .int .i64 (l0.length : Int), .int .i64 5] ?_; (with_reducible refine (ice_within.calls 1 (l0.length : Int) 5 true _ A2.out).mono ?_); rintro e w' ⟨rfl, ⟨nd, rfl⟩⟩; refine ⟨_, rfl, ?_⟩) | (go_at_call 66; (with_reducible refine (slices_ContainsFunc_int_int.calls k _ _ l0 (enters_f Try.func67 (by kernel_rfl) rfl) ice_Valid_1.f t102 _ ?side1 ?side2 ?side3 A4.out).mono ?_); (case side1 => exact cU HR0.out); (case side2 => exact HC0.out); (case side3 => intro z0_ q0_ W_ hW_ hq_; have hc_ := ice_Valid_1.calls z0_ q0_ W_  hq_; exact hc_.mono (fun e_ w_ h_ => ⟨h_.1, (by obtain ⟨_, nd_, rfl⟩ := h_; exact pw_below_drewN (Below.refl _ _) _)⟩)); rintro e w5 ⟨rfl, hb⟩; have n0_ := A_ (below_step (bW0 HB.out) hb); clear HB; have HB := n0_; clear n0_; (try clear hb)))
 go_ret
 exact ⟨eQ, by repeat (first | (with_reducible first | exact HB.out | apply below_alloc | apply pw_below_drewN | apply below_drew1) | exact HB.out)⟩
def ice_half.l0 : Nat → Int → Int → Option (Int)
 | 0, _, _ => none
 | k + 1, x0, x3 => if (wrap64 (2 * x3)) ≤ x0 then (ice_half.l0 k x0 (wrap64 (x3 * 2))) else (some x3)
def ice_half.f (k : Nat) (a0 : Int) : Option (Int) := ice_half.l0 k a0 1
theorem ice_half.mono_l : ∀ k, (∀ y0 y1, LeO (ice_half.l0 k y0 y1) (ice_half.l0 (k + 1) y0 y1))
 | 0 => fun _ _ r h => by simp [ice_half.l0] at h
 | k + 1 => by
  have ih0 := ice_half.mono_l k
  ·intro y0 y1
   unfold ice_half.l0
   repeat' first
   | (with_reducible exact ih0 _ _)
   | (with_reducible exact LeO.refl _)
   | (with_reducible exact LeO.none _)
   | (with_reducible refine LeO.ite ?_ ?_)
   | (with_reducible refine LeO.bind ?_ (fun _ => ?_))
   | exact ih0 _ _
   | exact LeO.none _
   | refine LeO.ite ?_ ?_
   | refine LeO.bind ?_ (fun _ => ?_)
theorem ice_half.mono : ∀ a0 k, LeO (ice_half.f k a0) (ice_half.f (k + 1) a0) := by
 intro a0 k
 have ih0 := ice_half.mono_l k
 unfold ice_half.f
 repeat' first
   | (with_reducible exact ih0 _ _)
   | (with_reducible exact LeO.refl _)
   | (with_reducible exact LeO.none _)
   | (with_reducible refine LeO.ite ?_ ?_)
   | (with_reducible refine LeO.bind ?_ (fun _ => ?_))
   | exact ih0 _ _
   | exact LeO.none _
   | refine LeO.ite ?_ ?_
   | refine LeO.bind ?_ (fun _ => ?_)
set_option maxHeartbeats 8000000 in
set_option maxRecDepth 100000 in
theorem ice_half.calls (k : Nat) (a0 : Int) (r : Int) (w : World) (h : ice_half.f k a0 = some r) :
  Calls Try.prog 47 #[.int .i64 a0] w fun e w' => e = .returned (.int .i64 r) ∧ Drawn0 w w' := by
 have H : (ice_half.l0 k a0 1) = some r := h
 clear h
 have H' := A_ H
 clear H
 go_enter Try.func47, Try.ntmps47
 go_wp2
 go_loopg [3] k (fun kq v3 w' => ∃ (x3_1 : Int), v3 = .int .i64 x3_1 ∧ Aside0 (ice_half.l0 kq a0 x3_1 = some r) ∧ Aside0 (kq ≤ k) ∧ Drawn0 w w')
 case atStart => exact ⟨(1), eS, H', ⟨Nat.le_refl _⟩, by repeat (first | exact Drawn0.refl _ | apply Drawn0.step)⟩
 case round =>
  clear H'
  obtain ⟨x3_1, rfl, HA, HK1, ⟨m1, rfl⟩⟩ := hrel
  cases gk with
  | zero => exact absurd HA.out (by simp [ice_half.l0])
  | succ k1 =>
   have H := HA.out
   clear HA
   simp only [ice_half.l0] at H
   by_cases c2 : (wrap64 (2 * x3_1)) ≤ a0
   rotate_left
   ·rw [if_neg c2] at H
    have c2b0 : decide ((wrap64 (2 * x3_1)) ≤ a0) = false := decide_eq_false c2
    clear c2
    obtain rfl := Option.some.inj H
    go_wp2
    go_ret
    exact ⟨by first | rfl | (simp; done) | (simp [*]; done), by repeat (first | exact Drawn0.refl _ | apply Drawn0.step)⟩
   rw [if_pos c2] at H
   have c2b0 : decide ((wrap64 (2 * x3_1)) ≤ a0) = true := decide_eq_true c2
   clear c2
   have H' := A_ H
   clear H
   go_wp2
   go_roundg k1
   case measure => have := HK1.out; omega
   case rel => exact ⟨(wrap64 (x3_1 * 2)), eS, H', ⟨by have := HK1.out; omega⟩, by repeat (first | exact Drawn0.refl _ | apply Drawn0.step)⟩
def ice_Halves.l0 : Nat → List Int → List Int → Int → Int → Option (List Int × Int)
 | 0, _, _, _, _ => none
 | k + 1, x4, x10, x11, x12 => if x12 < x11 then (if 0 ≤ x12 then (if x12 < (x10.length : Int) then ((ice_half.f k (rd x10 x12)).bind fun t103 => (if x4.length < 17592186044416 then (ice_Halves.l0 k (x4 ++ [t103]) x10 x11 (wrap64 (x12 + 1))) else (none))) else (none)) else (none)) else (some (x4, 0))
def ice_Halves.f (k : Nat) (l0 : List Int) : Option (List Int × Int) := (ice_Valid.f k l0).bind fun t101 => (if t101 = true then (ice_Halves.l0 k ([] : List Int) l0 (l0.length : Int) 0) else (some (([] : List Int), 80)))
theorem ice_Halves.mono_l : ∀ k, (∀ y0 y1 y2 y3, LeO (ice_Halves.l0 k y0 y1 y2 y3) (ice_Halves.l0 (k + 1) y0 y1 y2 y3))
 | 0 => fun _ _ _ _ r h => by simp [ice_Halves.l0] at h
 | k + 1 => by
  have ih0 := ice_Halves.mono_l k
  ·intro y0 y1 y2 y3
   unfold ice_Halves.l0
   repeat' first
   | (with_reducible exact ih0 _ _ _ _)
   | (with_reducible exact ice_Valid.mono _ _)
   | (with_reducible exact ice_half.mono _ _)
   | (with_reducible exact LeO.refl _)
   | (with_reducible exact LeO.none _)
   | (with_reducible refine LeO.ite ?_ ?_)
   | (with_reducible refine LeO.bind ?_ (fun _ => ?_))
   | exact ih0 _ _ _ _
   | exact ice_Valid.mono _ _
   | exact ice_half.mono _ _
   | exact LeO.none _
   | refine LeO.ite ?_ ?_
   | refine LeO.bind ?_ (fun _ => ?_)
theorem ice_Halves.mono : ∀ a0 k, LeO (ice_Halves.f k a0) (ice_Halves.f (k + 1) a0) := by
 intro a0 k
 have ih0 := ice_Halves.mono_l k
 unfold ice_Halves.f
 repeat' first
   | (with_reducible exact ih0 _ _ _ _)
   | (with_reducible exact ice_Valid.mono _ _)
   | (with_reducible exact ice_half.mono _ _)
   | (with_reducible exact LeO.refl _)
   | (with_reducible exact LeO.none _)
   | (with_reducible refine LeO.ite ?_ ?_)
   | (with_reducible refine LeO.bind ?_ (fun _ => ?_))
   | exact ih0 _ _ _ _
   | exact ice_Valid.mono _ _
   | exact ice_half.mono _ _
   | exact LeO.none _
   | refine LeO.ite ?_ ?_
   | refine LeO.bind ?_ (fun _ => ?_)
set_option maxHeartbeats 8000000 in
set_option maxRecDepth 100000 in
theorem ice_Halves.calls (k : Nat) (A0 : Option Addr) (c0 : Nat) (l0 : List Int) (r1 : List Int) (r2 : Int) (w : World) (hr0 : Kd.C (Kd.int .i64) w A0 l0.length l0) (hc0 : l0.length ≤ c0) (h : ice_Halves.f k l0 = some (r1, r2)) :
  Calls Try.prog 13 #[.slice A0 l0.length c0] w fun e w' => ∃ v0_ : Value, e = .returned (.tuple #[v0_, .int .i64 r2]) ∧ Kd.R (Kd.int .i64) 3 w' w.heap.size (fun _ => True) v0_ r1 ∧ Below w.heap.size w w' := by
 have HR0 := A_ hr0
 have HC0 := A_ hc0
 clear hr0 hc0
 have HB := A_ (Below.refl w.heap.size w)
 have H : ((ice_Valid.f k l0).bind fun t101 => (if t101 = true then (ice_Halves.l0 k ([] : List Int) l0 (l0.length : Int) 0) else (some (([] : List Int), 80)))) = some (r1, r2) := h
 clear h
 replace H := Option.bind_eq_some_iff.mp H
 obtain ⟨t101, A20, H⟩ := H
 replace H : (if t101 = true then (ice_Halves.l0 k ([] : List Int) l0 (l0.length : Int) 0) else (some (([] : List Int), 80))) = some (r1, r2) := H
 have A2 := A_ A20
 clear A20
 by_cases c3 : t101 = true
 rotate_left
 ·replace c3 := Bool.eq_false_iff.mpr c3
  subst c3
  have H1 : (some (([] : List Int), 80)) = some (r1, r2) := by rw [if_neg (show ¬ (false = true) by decide)] at H; exact H
  clear H
  have H := H1
  clear H1
  simp only [Option.some.injEq, Prod.mk.injEq] at H
  obtain ⟨rfl, rfl⟩ := H
  go_enter Try.func13, Try.ntmps13
  go_wp2_with (first | ((with_reducible refine gate_callee (f := 29) rfl ?_); refine goesW_ (some 8) Try.func29 #[.slice A0 l0.length c0] ?_; (with_reducible refine (ice_Valid.calls k _ _ l0 false _ ?side1 ?side2 A2.out).mono ?_); (case side1 => exact cU HR0.out); (case side2 => exact HC0.out); rintro e w11 ⟨rfl, hb⟩; refine ⟨_, rfl, ?_⟩; have n0_ := A_ (below_step (bW0 HB.out) hb); clear HB; have HB := n0_; clear n0_; (try clear hb)))
  go_ret2
  exact ⟨_, by first | rfl | (simp [errW_none, errW_some] <;> rfl) | (simp [*, errW_none, errW_some] <;> rfl), by first | exact Kd.R_nil _ _ _ _ _ | exact Kd.N_nil _ _ _ _ _ | exact Kd.V_nil _ _ _ _ _ | exact Kd.Q_nil _ _ _ _ _ | exact Kd.S_nil _ _ _ _ _, by repeat (first | (with_reducible first | exact HB.out | apply below_alloc | apply pw_below_drewN | apply below_drew1) | exact HB.out)⟩
 subst c3
 have H1 : (ice_Halves.l0 k ([] : List Int) l0 (l0.length : Int) 0) = some (r1, r2) := by rw [if_pos rfl] at H; exact H
 clear H
 have H := H1
 clear H1
 have H' := A_ H
 clear H
 go_enter Try.func13, Try.ntmps13
 go_wp2_with (first | ((with_reducible refine gate_callee (f := 29) rfl ?_); refine goesW_ (some 8) Try.func29 #[.slice A0 l0.length c0] ?_; (with_reducible refine (ice_Valid.calls k _ _ l0 true _ ?side1 ?side2 A2.out).mono ?_); (case side1 => exact cU HR0.out); (case side2 => exact HC0.out); rintro e w4 ⟨rfl, hb⟩; refine ⟨_, rfl, ?_⟩; have n0_ := A_ (below_step (bW0 HB.out) hb); clear HB; have HB := n0_; clear n0_; (try clear hb)))
 go_loopg [4, 12] k (fun kq v4 v12 w' => ∃ (x4_1 : List Int) (x12_1 : Int), v12 = .int .i64 x12_1 ∧ Aside0 (ice_Halves.l0 kq x4_1 l0 (l0.length : Int) x12_1 = some (r1, r2)) ∧ Aside0 (kq ≤ k) ∧ Aside0 (Kd.R (Kd.int .i64) 3 w' w.heap.size (fun _ => True) v4 x4_1) ∧ Aside0 (Below w.heap.size w w'))
 case atStart => exact ⟨(([] : List Int)), (0), eS, H', ⟨Nat.le_refl _⟩, ⟨by first | exact Kd.R_nil _ _ _ _ _ | exact Kd.N_nil _ _ _ _ _ | exact Kd.V_nil _ _ _ _ _ | exact Kd.Q_nil _ _ _ _ _ | exact Kd.S_nil _ _ _ _ _⟩, ⟨by repeat (first | (with_reducible first | exact HB.out | apply below_alloc | apply pw_below_drewN | apply below_drew1) | exact HB.out)⟩⟩
 case round =>
  clear H'
  try clear c1; try clear c2; try clear p2; try clear c3
  obtain ⟨x4_1, x12_1, rfl, HA, HK1, HO_4, HB⟩ := hrel
  cases gk with
  | zero => exact absurd HA.out (by simp [ice_Halves.l0])
  | succ k1 =>
   have H := HA.out
   clear HA
   simp only [ice_Halves.l0] at H
   by_cases c5 : x12_1 < (l0.length : Int)
   rotate_left
   ·rw [if_neg c5] at H
    have c5b0 : decide (x12_1 < (l0.length : Int)) = false := decide_eq_false c5
    clear c5
    simp only [Option.some.injEq, Prod.mk.injEq] at H
    obtain ⟨rfl, rfl⟩ := H
    go_wp2
    go_ret2
    exact ⟨_, by first | rfl | (simp [errW_none, errW_some] <;> rfl) | (simp [*, errW_none, errW_some] <;> rfl), by (with_reducible repeat (first | apply Kd.R_alloc | apply Kd.R_drewN | apply Kd.R_drew)); exact HO_4.out, by repeat (first | (with_reducible first | exact HB.out | apply below_alloc | apply pw_below_drewN | apply below_drew1) | exact HB.out)⟩
   rw [if_pos c5] at H
   have c5b0 : decide (x12_1 < (l0.length : Int)) = true := decide_eq_true c5
   clear c5
   by_cases c6 : 0 ≤ x12_1
   rotate_left
   ·rw [if_neg c6] at H
    exact absurd H (by simp)
   rw [if_pos c6] at H
   have c6b0 : decide (0 ≤ x12_1) = true := decide_eq_true c6
   clear c6
   by_cases c7 : x12_1 < (l0.length : Int)
   rotate_left
   ·rw [if_neg c7] at H
    exact absurd H (by simp)
   rw [if_pos c7] at H
   have c7b0 : decide (x12_1 < (l0.length : Int)) = true := decide_eq_true c7
   clear c7
   replace H := Option.bind_eq_some_iff.mp H
   obtain ⟨t103, A80, H⟩ := H
   replace H : (if x4_1.length < 17592186044416 then (ice_Halves.l0 k1 (x4_1 ++ [t103]) l0 (l0.length : Int) (wrap64 (x12_1 + 1))) else (none)) = some (r1, r2) := H
   have A8 := A_ A80
   clear A80
   by_cases c9 : x4_1.length < 17592186044416
   rotate_left
   ·rw [if_neg c9] at H
    exact absurd H (by simp)
   rw [if_pos c9] at H
   have LMc9 := A_ c9
   clear c9
   obtain ⟨y104, hy104⟩ : ∃ y_ : List Int, y_ = (x4_1 ++ [t103]) := ⟨_, rfl⟩
   replace H : (ice_Halves.l0 k1 y104 l0 (l0.length : Int) (wrap64 (x12_1 + 1))) = some (r1, r2) := by first | (rw [hy104]; with_reducible exact H) | (have H2_ := (Option.bind_some _ _).symm.trans H; rw [hy104]; with_reducible exact H2_) | (have H2_ := (Option.bind_some _ _).symm.trans H; with_reducible exact H2_) | with_reducible exact H | (rw [hy104]; exact H) | exact H
   have Ny104 := A_ hy104
   clear hy104
   have H' := A_ H
   clear H
   have p102 : 0 ≤ (x12_1 : Int) := oD
   have q102 : x12_1 < (l0.length : Int) := oD
   obtain ⟨ad102, e102, hx102_0⟩ := Kd.at_int HR0.out x12_1 p102 q102
   cases e102
   replace hx102_0 := (HB.out.cell (World.block_lt_of_cell? w _ hx102_0)).trans hx102_0
   replace p102 := eq_true p102
   replace q102 := eq_true q102
   go_wp2_with (first | ((with_reducible refine gate_callee (f := 47) rfl ?_); refine goesW_ (some 18) Try.func47 #[.int .i64 (rd l0 x12_1)] ?_; (with_reducible refine (ice_half.calls k1 (rd l0 x12_1) t103 _ A8.out).mono ?_); rintro e w' ⟨rfl, ⟨nd, rfl⟩⟩; refine ⟨_, rfl, ?_⟩) | ((with_reducible refine gate_builtin (b := .append) (xs := #[.tmp 16, .tmp 19]) rfl ?_); at_builtin; refine Kd.R_append (Kd.int .i64) (w0 := w) w.heap.size rfl (.tmp 16) (.tmp 19) 22 3 (.int .i64 0) 8 rfl Try.underlying22 info3 rfl (by decide) (by omega) u4 x4_1 t103 [.int .i64 t103] (fun _ => True) (fun _ => False) rfl rfl ?aP (fun _ hk => hk.elim) ?aF ?aO ?aB ?aS ?aL ?_; (case aP => exact rfl); (case aB => exact (bW0 HB.out)); (case aF => exact (fun _ _ => trivial)); (case aO => exact (rU HO_4.out)); (case aS => exact (below_size (bW0 HB.out))); (case aL => have := LMc9.out; omega); intro v105 w10 ho hb hg hat; rw [← Ny104.out] at ho; have n0_ := A_ (hb); have n1_ := A_ (ho); clear HB; clear HO_4; have HB := n0_; have HO106 := n1_; clear n0_ n1_; clear ho hb hg hat))
   go_roundg k1
   case measure => have := HK1.out; omega
   case rel => exact ⟨(y104), (wrap64 (x12_1 + 1)), eS, H', ⟨by have := HK1.out; omega⟩, ⟨rU HO106.out⟩, ⟨by repeat (first | (with_reducible first | exact HB.out | apply below_alloc | apply pw_below_drewN | apply below_drew1) | exact HB.out)⟩⟩
def bits_Mul64.f (a0 : Int) (a1 : Int) : Option (Int × Int) := some (IntKind.u64.wrap ((IntKind.u64.wrap ((IntKind.u64.wrap ((a0 / 4294967296) * (a1 / 4294967296))) + ((IntKind.u64.wrap ((IntKind.u64.wrap ((a0 / 4294967296) * (Go.bits .and .u64 a1 4294967295))) + ((IntKind.u64.wrap ((Go.bits .and .u64 a0 4294967295) * (Go.bits .and .u64 a1 4294967295))) / 4294967296))) / 4294967296))) + ((IntKind.u64.wrap ((Go.bits .and .u64 (IntKind.u64.wrap ((IntKind.u64.wrap ((a0 / 4294967296) * (Go.bits .and .u64 a1 4294967295))) + ((IntKind.u64.wrap ((Go.bits .and .u64 a0 4294967295) * (Go.bits .and .u64 a1 4294967295))) / 4294967296))) 4294967295) + (IntKind.u64.wrap ((Go.bits .and .u64 a0 4294967295) * (a1 / 4294967296))))) / 4294967296)), IntKind.u64.wrap (a0 * a1))
set_option maxHeartbeats 8000000 in
set_option maxRecDepth 100000 in
theorem bits_Mul64.calls (a0 : Int) (a1 : Int) (r1 : Int) (r2 : Int) (w : World) (h : bits_Mul64.f a0 a1 = some (r1, r2)) :
  Calls Try.prog 95 #[.int .u64 a0, .int .u64 a1] w fun e w' => e = .returned (.tuple #[.int .u64 r1, .int .u64 r2]) ∧ Drawn0 w w' := by
 have H : (some (IntKind.u64.wrap ((IntKind.u64.wrap ((IntKind.u64.wrap ((a0 / 4294967296) * (a1 / 4294967296))) + ((IntKind.u64.wrap ((IntKind.u64.wrap ((a0 / 4294967296) * (Go.bits .and .u64 a1 4294967295))) + ((IntKind.u64.wrap ((Go.bits .and .u64 a0 4294967295) * (Go.bits .and .u64 a1 4294967295))) / 4294967296))) / 4294967296))) + ((IntKind.u64.wrap ((Go.bits .and .u64 (IntKind.u64.wrap ((IntKind.u64.wrap ((a0 / 4294967296) * (Go.bits .and .u64 a1 4294967295))) + ((IntKind.u64.wrap ((Go.bits .and .u64 a0 4294967295) * (Go.bits .and .u64 a1 4294967295))) / 4294967296))) 4294967295) + (IntKind.u64.wrap ((Go.bits .and .u64 a0 4294967295) * (a1 / 4294967296))))) / 4294967296)), IntKind.u64.wrap (a0 * a1))) = some (r1, r2) := h
 clear h
 simp only [Option.some.injEq, Prod.mk.injEq] at H
 obtain ⟨rfl, rfl⟩ := H
 go_enter Try.func95, Try.ntmps95
 go_wp2
 go_ret2
 exact ⟨by first | rfl | (simp; done) | (simp [*]; done), by repeat (first | exact Drawn0.refl _ | apply Drawn0.step)⟩
def bits_Mul.f (a0 : Int) (a1 : Int) : Option (Int × Int) := (bits_Mul64.f a0 a1).bind fun bt101 => (some (bt101.1, bt101.2))
set_option maxHeartbeats 8000000 in
set_option maxRecDepth 100000 in
theorem bits_Mul.calls (a0 : Int) (a1 : Int) (r1 : Int) (r2 : Int) (w : World) (h : bits_Mul.f a0 a1 = some (r1, r2)) :
  Calls Try.prog 80 #[.int .u64 a0, .int .u64 a1] w fun e w' => e = .returned (.tuple #[.int .u64 r1, .int .u64 r2]) ∧ Drawn0 w w' := by
 have H : ((bits_Mul64.f a0 a1).bind fun bt101 => (some (bt101.1, bt101.2))) = some (r1, r2) := h
 clear h
 replace H := Option.bind_eq_some_iff.mp H
 obtain ⟨⟨t101, t102⟩, A30, H⟩ := H
 replace H : (some (t101, t102)) = some (r1, r2) := H
 have A3 := A_ A30
 clear A30
 simp only [Option.some.injEq, Prod.mk.injEq] at H
 obtain ⟨rfl, rfl⟩ := H
 go_enter Try.func80, Try.ntmps80
 go_wp2_with (first | ((with_reducible refine gate_callee (f := 95) rfl ?_); refine goesW_ (some 25) Try.func95 #[.int .u64 a0, .int .u64 a1] ?_; (with_reducible refine (bits_Mul64.calls a0 a1 t101 t102 _ A3.out).mono ?_); rintro e w' ⟨rfl, ⟨nd, rfl⟩⟩; refine ⟨_, rfl, ?_⟩))
 go_ret2
 exact ⟨by first | rfl | (simp; done) | (simp [*]; done), by repeat (first | exact Drawn0.refl _ | apply Drawn0.step)⟩
theorem slices_Repeat_int_int.mul1 {a : Int} (h : 1 ≤ a) (h2 : a < 1000000) : bits_Mul.f 1 a = some (0, a) := by
 have e0 : ∀ z : Int, 0 ≤ z → z < 18446744073709551616 → IntKind.u64.wrap z = z := fun z h1 h2 => by
  unfold IntKind.wrap
  simp only [IntKind.signed, IntKind.bits]
  simp
  omega
 have e1 : a / 4294967296 = 0 := by omega
 have ed : ((1 : Int) / 4294967296) = 0 := by decide
 have e5 : IntKind.u64.wrap 0 = 0 := e0 0 (by omega) (by omega)
 have e6 : IntKind.u64.wrap a = a := e0 a (by omega) (by omega)
 have e4 : IntKind.u64.wrap (Go.bits .and .u64 1 4294967295 * Go.bits .and .u64 a 4294967295) / 4294967296 = 0 := by
  have b1 : Go.bits .and .u64 1 4294967295 = 1 := by decide
  have b2 : Go.bits .and .u64 a 4294967295 = a := by
   obtain ⟨m, rfl⟩ : ∃ m : Nat, a = m := ⟨a.toNat, by omega⟩
   have e : (BitVec.ofNat 64 m &&& 4294967295#64).toNat = m := by
    rw [BitVec.toNat_and, BitVec.toNat_ofNat, BitVec.toNat_ofNat, Nat.mod_eq_of_lt (by omega), show 4294967295 % 2 ^ 64 = 2 ^ 32 - 1 by decide, Nat.and_two_pow_sub_one_eq_mod, Nat.mod_eq_of_lt (by omega)]
   simp only [Go.bits, IntKind.wrap, IntKind.signed, IntKind.bits]
   simp
   have e2 : ((BitVec.ofNat 64 m &&& 4294967295#64).toNat : Int) % 18446744073709551616 = (m : Int) := by rw [e]; omega
   exact e2
  rw [b1, b2, Int.one_mul, e6]; omega
 have e7 : (IntKind.u64.wrap (Go.bits .and .u64 0 4294967295 + IntKind.u64.wrap 0)) / 4294967296 = 0 := by decide
 unfold bits_Mul.f bits_Mul64.f
 simp only [e1, ed, Int.zero_mul, Int.mul_zero, e5, e4, Int.add_zero, Int.one_mul, e6, Option.bind_some]
 rfl
def slices_Repeat_int_int.f (l0 : List Int) (a1 : Int) : Option (List Int) := if l0.length = 1 then (if 1 ≤ a1 then (if a1 < 1000000 then (some (List.replicate a1.toNat (rd l0 0))) else (none)) else (none)) else (none)
theorem slices_Repeat_int_int.to_R {w : World} {base g cap : Nat} {cur : Array Value} {n : Nat} {x : Int} (hb : base ≤ g) (hg : w.heap[g]? = some (.cells cur 3 (0, 0))) (hn : n ≤ cap) (hc : cap ≤ maxLen) (hs : cur.size = cap) (hx : ∀ i, i < n → cur[i]? = some (Value.int .i64 x)) :
  Kd.R (Kd.int .i64) 3 w base (fun _ => True) (.slice (some ⟨g, 0, none⟩) n cap) (List.replicate n x) := by
 have ho : w.ownsRow base 3 1 (.slice (some ⟨g, 0, none⟩) n cap) (List.replicate n x).length ((List.replicate n x).map fun z => Value.int .i64 z) := by
  refine ⟨by simp, Or.inr ⟨g, cap, cur, by simp, hb, hg, by simpa using hn, hc, by simpa using hs, ?_⟩⟩
  refine List.ext_getElem? fun i => ?_
  simp only [List.length_replicate, Nat.mul_one, List.map_replicate, List.getElem?_take, List.getElem?_replicate]; by_cases h : i < n
  ·rw [if_pos h, if_pos h]
   have := hx i h
   rwa [← Array.getElem?_toList] at this
  ·rw [if_neg h, if_neg h]
 exact Kd.R_of_own (enc := fun z => Value.int .i64 z) (h1 := fun _ => rfl) ho (fun _ _ => trivial)
theorem slices_Repeat_int_int.below_setRow {B g : Nat} {w0 w : World} (hb : Below B w0 w) (hBg : B ≤ g) (cs : Array Value) : Below B w0 (w.setRow g cs) :=
 hb.trans ⟨rfl, rfl, rfl, by simp [World.setRow], fun k hk => setRow_other w g k cs (by omega)⟩
theorem slices_Repeat_int_int.add0 (g i : Nat) : (Addr.add ⟨g, 0, none⟩ i) = ⟨g, i, none⟩ := by
 unfold Addr.add
 by_cases h : i = 0 <;> simp [h]
theorem slices_Repeat_int_int.ti : ∃ i, Try.prog.info? 3 = some i ∧ i.size = 1 := by
 have h := info3
 cases q : Try.prog.info? 3 with
 | none => rw [q] at h; simp at h
 | some i => rw [q] at h; simp at h; exact ⟨i, rfl, h.2.1⟩
theorem slices_Repeat_int_int.of_R {w : World} {base n : Nat} {ok : Nat → Prop} {v : Value} {z : Int} (h : Kd.R (Kd.int .i64) 3 w base ok v (List.replicate n z)) (hn : 0 < n) :
  ∃ g cap cur, v = .slice (some ⟨g, 0, none⟩) n cap ∧ base ≤ g ∧ w.heap[g]? = some (.cells cur 3 (0, 0)) ∧ n ≤ cap ∧ cap ≤ maxLen ∧ cur.size = cap := by
 have ho := Kd.own_of_R (enc := fun z => Value.int .i64 z) (h1 := fun _ => rfl) h
 obtain ⟨hlen, hrow⟩ := ho
 rcases hrow with ⟨_, hz⟩ | ⟨g, cap, cur, hv, hbg, hg, hnc, hcm, hcs, htk⟩
 ·simp at hz; omega
 ·simp only [List.length_replicate, Nat.mul_one] at hv hnc hcs
  exact ⟨g, cap, cur, hv, hbg, hg, hnc, hcm, hcs⟩
theorem slices_Repeat_int_int.copy {w : World} {g o n m cap c : Nat} {ad : Addr} {cur : Array Value} {x : Int} (hg : w.heap[g]? = some (.cells cur 3 (0, 0))) (ho : o + Nat.min m n ≤ cur.size) (hx : ∀ i, i < Nat.min m n → w.cell? (ad.add i) = some (Value.int .i64 x)) :
  (Builtin.copy_ #[22, 22] 3 #[.slice (some ⟨g, o, none⟩) n cap, .slice (some ad) m c]).run Try.prog w = .ok (.int .i64 ((Nat.min m n : Nat) : Int)) (w.setRow g (cur.toList.take o ++ List.replicate (Nat.min m n) (Value.int .i64 x) ++ cur.toList.drop (o + Nat.min m n)).toArray) := by
 have := run_copy_row (P := Try.prog) w 22 22 3 3 g o n cap ad m c cur 3 (List.replicate (Nat.min m n) (Value.int .i64 x)) Try.underlying22 (by kernel_rfl) hg (by simp) (fun j v hj => by
  rw [List.getElem?_replicate] at hj
  split at hj
  ·rename_i h; obtain rfl := Option.some.inj hj; exact hx j h
  ·cases hj) (by simpa using ho) (fun v hv => by rw [(List.mem_replicate.1 hv).2]; rfl)
 rw [this]
 simp [goInt]
def slices_Repeat_int_int.T9 : Bool × List (List Nat × List Nat) := (true, [([], []), ([], []), ([], []), ([1, 2], [1, 2]), ([], []), ([], []), ([4, 5], [4, 5]), ([3, 6], [3, 6]), ([0, 7], [0, 7]), ([8, 7, 0, 1, 2, 3, 4, 5, 6, 7, 8], [0, 2, 5, 8])])
def slices_Repeat_int_int.B9 : List Nat := [0, 0, 0, 6, 0, 0, 48, 126, 255, 511]
theorem slices_Repeat_int_int.tab9 : rtab .any (opsOf Try.f48 9) = slices_Repeat_int_int.T9 := by kernel_rfl
theorem slices_Repeat_int_int.bits9 : waitsOk slices_Repeat_int_int.T9.2 slices_Repeat_int_int.B9 = true := by kernel_rfl
set_option maxHeartbeats 8000000 in
set_option maxRecDepth 100000 in
theorem slices_Repeat_int_int.calls (A0 : Option Addr) (c0 : Nat) (l0 : List Int) (a1 : Int) (r : List Int) (w : World) (hr0 : Kd.C (Kd.int .i64) w A0 l0.length l0) (hc0 : l0.length ≤ c0) (h : slices_Repeat_int_int.f l0 a1 = some r) :
  Calls Try.prog 48 #[.slice A0 l0.length c0, .int .i64 a1] w fun e w' => ∃ v0_ : Value, e = .returned (v0_) ∧ Kd.R (Kd.int .i64) 3 w' w.heap.size (fun _ => True) v0_ r ∧ Below w.heap.size w w' := by
 unfold slices_Repeat_int_int.f at h
 by_cases h1 : l0.length = 1; rotate_left
 ·rw [if_neg h1] at h; cases h
 rw [if_pos h1] at h; by_cases h2 : 1 ≤ a1; rotate_left
 ·rw [if_neg h2] at h; cases h
 rw [if_pos h2] at h; by_cases h3 : a1 < 1000000; rotate_left
 ·rw [if_neg h3] at h; cases h
 rw [if_pos h3] at h; obtain rfl := Option.some.inj h; clear h
 obtain ⟨x, rfl⟩ : ∃ x, l0 = [x] := by
  match l0, h1 with
  | [x], _ => exact ⟨x, rfl⟩
 obtain ⟨ad, eA, hx⟩ := Kd.at_int hr0 0 (by decide) (by simp)
 subst eA; have hx : w.cell? (ad.add 0) = some (Value.int .i64 x) := hx; clear hr0 h1
 have hm := fun W => bits_Mul.calls 1 a1 0 a1 W (slices_Repeat_int_int.mul1 h2 h3)
 have u1 : IntKind.u64.wrap 1 = 1 := by decide
 have u2 : IntKind.u64.wrap a1 = a1 := by
  unfold IntKind.wrap
  simp only [IntKind.signed, IntKind.bits]
  simp
  omega
 have i1 : IntKind.i64.wrap a1 = a1 := by rw [i64_w]; unfold wrap64; omega
 have d1 : decide (a1 < 0) = false := decide_eq_false (by omega)
 have d2 : decide (a1 > 9223372036854775807) = false := decide_eq_false (by omega)
 have d3 : decide (9223372036854775807 < a1) = false := decide_eq_false (by omega)
 have p1 : decide (0 ≤ a1) = true := decide_eq_true (by omega)
 have p2 : decide (a1 ≤ 9223372036854775807) = true := decide_eq_true (by omega)
 have HB := A_ (Below.refl w.heap.size w); have HX := A_ hx
 go_enter Try.func48, Try.ntmps48
 go_wp2_with (first | (go_at_call 80; refine (hm _).mono ?_; rintro e w1 ⟨rfl, ⟨nd, rfl⟩⟩; have n0_ := A_ (pw_below_drewN HB.out nd); clear HB; have HB := n0_; clear n0_) | ((with_reducible refine gate_dst (N := 30) rfl ?_); refine Kd.R_make (Kd.int .i64) _ 3 rfl (N := 30) rfl 22 _ _ rfl a1 rfl rfl Try.underlying22 (.int .i64 0) 8 info3 rfl (by decide) (by omega) 0 (ok := fun _ => True) (okp := fun _ => True) rfl (fun _ hk => hk) trivial (by omega) (by omega) (Below.refl _ _) (Nat.le_refl _) ?_; intro vm w6 ho7 hb hg_ hnew_; clear hg_ hnew_; (obtain ⟨g, cap, cur, rfl, hbg, hg, hnc, hcm, hcs⟩ := slices_Repeat_int_int.of_R ho7 (by omega)); clear ho7; have HB2 := A_ (below_step HB.out hb); (have hx6 : ∀ i, i < Nat.min 1 a1.toNat → w6.cell? (ad.add i) = some (Value.int .i64 x) := (fun i hi => by obtain rfl : i = 0 := (by have h_ : Nat.min 1 a1.toNat ≤ 1 := Nat.min_le_left 1 a1.toNat; omega); exact pw_cell_below HB2.out HX.out)); (have hcp := slices_Repeat_int_int.copy (c := c0) (n := a1.toNat) (cap := cap) (o := 0) hg (by have h_ : Nat.min 1 a1.toNat ≤ a1.toNat := Nat.min_le_right 1 a1.toNat; omega) hx6)))
 clear hm u1 u2 i1 d1 d2 d3 p1 p2
 go_loopg [8] a1.toNat (fun kq v8 w' => ∃ (j : Nat) (cu : Array Value), v8 = .int .i64 (j : Int) ∧ Aside0 (a1.toNat ≤ j + kq) ∧ Aside0 (1 ≤ j ∧ j ≤ a1.toNat) ∧ Aside0 (cu.size = cap ∧ ∀ i, i < j → cu[i]? = some (Value.int .i64 x)) ∧ Aside0 (w'.heap[g]? = some (.cells cu 3 (0, 0))) ∧ Aside0 (Below w.heap.size w w'))
 case atStart =>
  have m1 : Nat.min 1 a1.toNat = 1 := Nat.min_eq_left (by omega)
  refine ⟨1, _, ?_, ⟨by omega⟩, ⟨by omega⟩, ⟨?_, ?_⟩, ⟨setRow_heap w6 g cur _ 3 (0, 0) hg⟩, ⟨slices_Repeat_int_int.below_setRow HB2.out hbg _⟩⟩
  ·rw [m1]
  ·simp [m1] <;> omega
  ·intro i hi
   obtain rfl : i = 0 := by omega
   simp [m1]
 case round =>
  obtain ⟨j, cu, rfl, H1, H2, H3, H4, HB3⟩ := hrel; clear hcp hx6 hg; have h1' := H1.out; have h2' := H2.out; by_cases c : j < a1.toNat; rotate_left
  ·have cb : decide ((j : Int) < a1) = false := decide_eq_false (by omega)
   have cb2 : decide ((j : Int) < (a1.toNat : Int)) = false := decide_eq_false (by omega)
   have cb3 : decide (j < a1.toNat) = false := decide_eq_false (by omega)
   have cb4 : decide ((j : Int) < max a1 0) = false := decide_eq_false (by omega)
   have HC := A_ c; clear h1' h2' c
   go_wp2
   go_ret
   obtain ⟨h3a, h3b⟩ := H3.out; have h2' := H2.out; have c := HC.out
   exact ⟨_, rfl, slices_Repeat_int_int.to_R hbg H4.out hnc hcm h3a (fun i hi => h3b i (by omega)), HB3.out⟩
  ·have cb : decide ((j : Int) < a1) = true := decide_eq_true (by omega)
   have cb2 : decide ((j : Int) < (a1.toNat : Int)) = true := decide_eq_true (by omega)
   have cb3 : decide (j < a1.toNat) = true := decide_eq_true (by omega)
   have cb4 : decide ((j : Int) < max a1 0) = true := decide_eq_true (by omega)
   cases gk with
   | zero => omega
   | succ k1 =>
    obtain ⟨ti, hti, htz⟩ := slices_Repeat_int_int.ti
    have ncap : ¬ cap = (j : Int).toNat := by omega
    have nj : ¬ j = 0 := by omega
    have cut1 : ∀ W : World, (Instr.slice 22 (.slice (some ⟨g, 0, none⟩) a1.toNat cap) (some (.int .i64 (j : Int))) none none).run Try.prog W = .ok (.slice (some ⟨g, j, none⟩) (a1.toNat - j) (cap - j)) W := fun W => by
     have h_ := cut_from (P := Try.prog) 22 3 .i64 Try.underlying22 hti 1 htz (some ⟨g, 0, none⟩) a1.toNat cap (j : Int) (by omega) (by omega) W
     rw [if_neg ncap] at h_
     simpa [Addr.add, nj] using h_
    have cut2 := fun W => cut_to (P := Try.prog) 22 3 .i64 Try.underlying22 hti (some ⟨g, 0, none⟩) a1.toNat cap (j : Int) (by omega) (by omega) (by omega) W
    simp only [Int.toNat_natCast] at cut2; obtain ⟨m, hmm⟩ : ∃ m : Nat, m = Nat.min j (a1.toNat - j) := ⟨_, rfl⟩
    have mb : 1 ≤ m ∧ m ≤ j ∧ j + m ≤ a1.toNat := by
     have l1 : m ≤ j := by rw [hmm]; exact Nat.min_le_left _ _
     have l2 : m ≤ a1.toNat - j := by rw [hmm]; exact Nat.min_le_right _ _
     have l3 : 1 ≤ m := by rw [hmm]; exact Nat.le_min.2 ⟨by omega, by omega⟩
     omega
    have hcp2 := slices_Repeat_int_int.copy (w := wr.drew) (o := j) (n := a1.toNat - j) (m := j) (cap := cap - j) (c := cap) (ad := ⟨g, 0, none⟩) (x := x) (blk_drew H4.out) (by rw [← hmm, H3.out.1]; omega) (fun i hi => by
     rw [slices_Repeat_int_int.add0]; rw [cell_of_row wr.drew g _ cu 3 (0, 0) (blk_drew H4.out)]
     exact H3.out.2 i (by rw [← hmm] at hi; omega))
    rw [← hmm] at hcp2
    have hadd : IntKind.i64.wrap ((j : Int) + (m : Int)) = ((j + m : Nat) : Int) := by rw [i64_w]; unfold wrap64; omega
    have Hmb := A_ mb; have hz : cu.size = cap := H3.out.1; have Hz := A_ hz; clear h1' h2' c mb hmm ncap nj hz
    go_wp2
    refine start_ (n := 10) (S := fun w' => True) (ds := [7]) (mkB 10 0) (by kernel_rfl) rfl rfl trivial (fun hHeld => ?_); refine with_tabW slices_Repeat_int_int.tab9 slices_Repeat_int_int.bits9 (fun HT_ HW_ => ?_)
    refine pr_ 0 (some 38) (mkB 10 1) HT_ ?_; refine pr_ 1 (some 39) (mkB 10 3) HT_ ?_; refine pr_ 2 (some 40) (mkB 10 7) HT_ ?_; refine pr_ 3 (some 41) (mkB 10 15) HT_ ?_; refine pr_ 4 (some 42) (mkB 10 31) HT_ ?_; refine pr_ 5 (some 43) (mkB 10 63) HT_ ?_; refine pr_ 6 (some 44) (mkB 10 127) HT_ ?_
    refine last_ (i := 7) (N := some 45) (mkB 10 255) rfl rfl (one_of HT_.out (by kernel_rfl)) (by decide) (fun K hK => ?_)
    refine value_ (w1 := ?_) (v := ?_) (by rfl) rfl ?_ ?_
    rotate_left 2
    ·go_simp
     constructor
     ·rfl
     ·rfl
    refine hK.out _ _ ?_
    clear hK K
    refine norm_ (a' := ?_) ?_ ?_
    rotate_left
    ·show Act.put _ (some 45) _ = _
     simp only [Act.put, List.setIfInBounds_toArray, List.set_cons_zero, List.set_cons_succ, i64_w, i32_w]
     rfl
    refine pr_ 8 (some 46) (mkB 10 511) HT_ ?_; refine pr_ 9 (some 8) (mkB 10 1023) HT_ ?_
    refine done_ (done_of HT_.out (by kernel_rfl)) ?_
    try go_wp2
    go_roundg k1
    case measure => have h2_ := H1.out; have h3_ := Hmb.out; omega
    case rel =>
     have mb := Hmb.out; have h2' := H2.out; have h1' := H1.out; have hz := Hz.out
     refine ⟨j + m, _, by first | rfl | (rw [← hadd]; rfl) | simp, ⟨by omega⟩, ⟨by omega⟩, ⟨?_, ?_⟩, ⟨setRow_heap wr.drew g cu _ 3 (0, 0) (blk_drew H4.out)⟩, ⟨slices_Repeat_int_int.below_setRow (below_drew1 HB3.out) hbg _⟩⟩
     ·simp only [List.size_toArray, List.length_append, List.length_take, List.length_replicate, List.length_drop, Array.length_toList]
      omega
     ·intro i hi
      simp only [List.getElem?_toArray, List.append_assoc]; by_cases q : i < j
      ·rw [List.getElem?_append_left (by simp only [List.length_take, Array.length_toList]; omega), List.getElem?_take_of_lt q, Array.getElem?_toList]
       exact H3.out.2 i q
      ·rw [List.getElem?_append_right (by simp only [List.length_take, Array.length_toList]; omega), List.getElem?_append_left (by simp only [List.length_take, List.length_replicate, Array.length_toList]; omega)]
       rw [List.getElem?_replicate, if_pos (by simp only [List.length_take, Array.length_toList]; omega)]
def slices_Index_int_int.l0 : Nat → List Int → Int → Int → Int → Option (Int)
 | 0, _, _, _, _ => none
 | k + 1, x0, x1, x7, x8 => if x8 < x7 then (if 0 ≤ x8 then (if x8 < (x0.length : Int) then (if x1 = (rd x0 x8) then (some x8) else (slices_Index_int_int.l0 k x0 x1 x7 (wrap64 (x8 + 1)))) else (none)) else (none)) else (some (-1))
def slices_Index_int_int.f (k : Nat) (l0 : List Int) (a1 : Int) : Option (Int) := slices_Index_int_int.l0 k l0 a1 (l0.length : Int) 0
theorem slices_Index_int_int.mono_l : ∀ k, (∀ y0 y1 y2 y3, LeO (slices_Index_int_int.l0 k y0 y1 y2 y3) (slices_Index_int_int.l0 (k + 1) y0 y1 y2 y3))
 | 0 => fun _ _ _ _ r h => by simp [slices_Index_int_int.l0] at h
 | k + 1 => by
  have ih0 := slices_Index_int_int.mono_l k
  ·intro y0 y1 y2 y3
   unfold slices_Index_int_int.l0
   repeat' first
   | (with_reducible exact ih0 _ _ _ _)
   | (with_reducible exact LeO.refl _)
   | (with_reducible exact LeO.none _)
   | (with_reducible refine LeO.ite ?_ ?_)
   | (with_reducible refine LeO.bind ?_ (fun _ => ?_))
   | exact ih0 _ _ _ _
   | exact LeO.none _
   | refine LeO.ite ?_ ?_
   | refine LeO.bind ?_ (fun _ => ?_)
theorem slices_Index_int_int.mono : ∀ a0 a1 k, LeO (slices_Index_int_int.f k a0 a1) (slices_Index_int_int.f (k + 1) a0 a1) := by
 intro a0 a1 k
 have ih0 := slices_Index_int_int.mono_l k
 unfold slices_Index_int_int.f
 repeat' first
   | (with_reducible exact ih0 _ _ _ _)
   | (with_reducible exact LeO.refl _)
   | (with_reducible exact LeO.none _)
   | (with_reducible refine LeO.ite ?_ ?_)
   | (with_reducible refine LeO.bind ?_ (fun _ => ?_))
   | exact ih0 _ _ _ _
   | exact LeO.none _
   | refine LeO.ite ?_ ?_
   | refine LeO.bind ?_ (fun _ => ?_)
set_option maxHeartbeats 8000000 in
set_option maxRecDepth 100000 in
theorem slices_Index_int_int.calls (k : Nat) (A0 : Option Addr) (c0 : Nat) (l0 : List Int) (a1 : Int) (r : Int) (w : World) (hr0 : Kd.C (Kd.int .i64) w A0 l0.length l0) (hc0 : l0.length ≤ c0) (h : slices_Index_int_int.f k l0 a1 = some r) :
  Calls Try.prog 49 #[.slice A0 l0.length c0, .int .i64 a1] w fun e w' => e = .returned (.int .i64 r) ∧ Drawn0 w w' := by
 have HR0 := A_ hr0
 have HC0 := A_ hc0
 clear hr0 hc0
 have H : (slices_Index_int_int.l0 k l0 a1 (l0.length : Int) 0) = some r := h
 clear h
 have H' := A_ H
 clear H
 go_enter Try.func49, Try.ntmps49
 go_wp2
 go_loopg [8] k (fun kq v8 w' => ∃ (x8_1 : Int), v8 = .int .i64 x8_1 ∧ Aside0 (slices_Index_int_int.l0 kq l0 a1 (l0.length : Int) x8_1 = some r) ∧ Aside0 (kq ≤ k) ∧ Drawn0 w w')
 case atStart => exact ⟨(0), eS, H', ⟨Nat.le_refl _⟩, by repeat (first | exact Drawn0.refl _ | apply Drawn0.step)⟩
 case round =>
  clear H'
  try clear p2
  obtain ⟨x8_1, rfl, HA, HK1, ⟨m1, rfl⟩⟩ := hrel
  cases gk with
  | zero => exact absurd HA.out (by simp [slices_Index_int_int.l0])
  | succ k1 =>
   have H := HA.out
   clear HA
   simp only [slices_Index_int_int.l0] at H
   by_cases c3 : x8_1 < (l0.length : Int)
   rotate_left
   ·rw [if_neg c3] at H
    have c3b0 : decide (x8_1 < (l0.length : Int)) = false := decide_eq_false c3
    clear c3
    obtain rfl := Option.some.inj H
    go_wp2
    go_ret
    exact ⟨by first | rfl | (simp; done) | (simp [*]; done), by repeat (first | exact Drawn0.refl _ | apply Drawn0.step)⟩
   rw [if_pos c3] at H
   have c3b0 : decide (x8_1 < (l0.length : Int)) = true := decide_eq_true c3
   clear c3
   by_cases c4 : 0 ≤ x8_1
   rotate_left
   ·rw [if_neg c4] at H
    exact absurd H (by simp)
   rw [if_pos c4] at H
   have c4b0 : decide (0 ≤ x8_1) = true := decide_eq_true c4
   clear c4
   by_cases c5 : x8_1 < (l0.length : Int)
   rotate_left
   ·rw [if_neg c5] at H
    exact absurd H (by simp)
   rw [if_pos c5] at H
   have c5b0 : decide (x8_1 < (l0.length : Int)) = true := decide_eq_true c5
   clear c5
   by_cases c6 : a1 = (rd l0 x8_1)
   ·rw [if_pos c6] at H
    have c6b0 : (a1 == (rd l0 x8_1)) = true := beq_iff_eq.mpr c6
    have c6b1 : (a1 != (rd l0 x8_1)) = false := bne_eq_false_iff_eq.mpr c6
    clear c6
    obtain rfl := Option.some.inj H
    have p101 : 0 ≤ (x8_1 : Int) := oD
    have q101 : x8_1 < (l0.length : Int) := oD
    obtain ⟨ad101, e101, hx101_0⟩ := Kd.at_int HR0.out x8_1 p101 q101
    cases e101
    replace p101 := eq_true p101
    replace q101 := eq_true q101
    go_wp2
    go_ret
    exact ⟨by first | rfl | (simp; done) | (simp [*]; done), by repeat (first | exact Drawn0.refl _ | apply Drawn0.step)⟩
   rw [if_neg c6] at H
   have c6b0 : (a1 == (rd l0 x8_1)) = false := beq_eq_false_iff_ne.mpr c6
   have c6b1 : (a1 != (rd l0 x8_1)) = true := bne_iff_ne.mpr c6
   have H' := A_ H
   clear H
   have p101 : 0 ≤ (x8_1 : Int) := oD
   have q101 : x8_1 < (l0.length : Int) := oD
   obtain ⟨ad101, e101, hx101_0⟩ := Kd.at_int HR0.out x8_1 p101 q101
   cases e101
   replace p101 := eq_true p101
   replace q101 := eq_true q101
   go_wp2
   go_roundg k1
   case measure => have := HK1.out; omega
   case rel => exact ⟨(wrap64 (x8_1 + 1)), eS, H', ⟨by have := HK1.out; omega⟩, by repeat (first | exact Drawn0.refl _ | apply Drawn0.step)⟩
end Go.Proofs.Ythbpibdfookbmaa.G
end
