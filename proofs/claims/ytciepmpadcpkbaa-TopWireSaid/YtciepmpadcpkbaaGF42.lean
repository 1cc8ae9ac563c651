-- Written by this session's driver (wip/tools/printmore.py) over the kit's print, with hand-written parts.
import Derived.Test.YtciepmpadcpkbaaGBase
import Derived.Test.YtciepmpadcpkbaaGF54
import Derived.Test.YtciepmpadcpkbaaGF41
import Derived.Test.YtciepmpadcpkbaaGF72
namespace Go.Proofs.Ytciepmpadcpkbaa.G
open Go.RowKit Go.Proofs.YtciepmpadcpkbaaW.PrintWords Go.Proofs.YtciepmpadcpkbaaW.PrintLast Go.Proofs.YtciepmpadcpkbaaW.PrintMore
attribute [local go_sem] max2_int min2_int max_two min_two max_three min_three max_four min_four   -- for this text's walks alone
set_option linter.unusedVariables false
set_option linter.unusedSimpArgs false

/-! ### dropperref02_Highest: function 42 -/
def dropperref02_Highest.l0 : Nat → List Int → Int → Int → Option (List Int × Int)
 | 0, _, _, _ => none
 | k + 1, x9, x10, x11 => if x11 < (x9.length : Int) then (if 0 ≤ x11 then (dropperref02_Highest.l0 k (x9.set (x11 : Int).toNat (wrap64 (-(rd x9 x11)))) x10 (wrap64 (x11 + 1))) else (none)) else (some (x9, x10))
def dropperref02_Highest.f (k : Nat) (l0 : List (S72)) (a1 : Int) (a2 : Int) : Option (List Int × Int) := (dropperref02_asked.f k l0 a1 a2).bind fun t101 => (if t101 = 0 then ((dropperref02_turned.f k l0).bind fun t102 => ((dropperref02_Lowest.f k t102 a1 a2).bind fun bt105 => (dropperref02_Highest.l0 k bt105.1 bt105.2 0))) else (some (([] : List Int), t101)))
theorem dropperref02_Highest.mono_l : ∀ k, (∀ y0 y1 y2, LeO (dropperref02_Highest.l0 k y0 y1 y2) (dropperref02_Highest.l0 (k + 1) y0 y1 y2))
 | 0 => fun _ _ _ r h => by simp [dropperref02_Highest.l0] at h
 | k + 1 => by
  have ih0 := dropperref02_Highest.mono_l k
  ·intro y0 y1 y2
   unfold dropperref02_Highest.l0
   repeat' first
   | (with_reducible exact ih0 _ _ _)
   | (with_reducible exact dropperref02_Lowest.mono _ _ _ _)
   | (with_reducible exact dropperref02_asked.mono _ _ _ _)
   | (with_reducible exact dropperref02_turned.mono _ _)
   | (with_reducible exact LeO.refl _)
   | (with_reducible exact LeO.none _)
   | (with_reducible refine LeO.ite ?_ ?_)
   | (with_reducible refine LeO.bind ?_ (fun _ => ?_))
   | exact ih0 _ _ _
   | exact dropperref02_Lowest.mono _ _ _ _
   | exact dropperref02_asked.mono _ _ _ _
   | exact dropperref02_turned.mono _ _
   | exact LeO.none _
   | refine LeO.ite ?_ ?_
   | refine LeO.bind ?_ (fun _ => ?_)
theorem dropperref02_Highest.mono : ∀ a0 a1 a2 k, LeO (dropperref02_Highest.f k a0 a1 a2) (dropperref02_Highest.f (k + 1) a0 a1 a2) := by
 intro a0 a1 a2 k
 have ih0 := dropperref02_Highest.mono_l k
 unfold dropperref02_Highest.f
 repeat' first
   | (with_reducible exact ih0 _ _ _)
   | (with_reducible exact dropperref02_Lowest.mono _ _ _ _)
   | (with_reducible exact dropperref02_asked.mono _ _ _ _)
   | (with_reducible exact dropperref02_turned.mono _ _)
   | (with_reducible exact LeO.refl _)
   | (with_reducible exact LeO.none _)
   | (with_reducible refine LeO.ite ?_ ?_)
   | (with_reducible refine LeO.bind ?_ (fun _ => ?_))
   | exact ih0 _ _ _
   | exact dropperref02_Lowest.mono _ _ _ _
   | exact dropperref02_asked.mono _ _ _ _
   | exact dropperref02_turned.mono _ _
   | exact LeO.none _
   | refine LeO.ite ?_ ?_
   | refine LeO.bind ?_ (fun _ => ?_)
set_option maxHeartbeats 8000000 in
set_option maxRecDepth 100000 in
theorem dropperref02_Highest.calls (k : Nat) (A0 : Option Addr) (c0 : Nat) (l0 : List (S72)) (a1 : Int) (a2 : Int) (r1 : List Int) (r2 : Int) (w : World) (hr0 : Kd.C k72 w A0 l0.length l0) (hc0 : l0.length ≤ c0) (h : dropperref02_Highest.f k l0 a1 a2 = some (r1, r2)) :
  Calls Try.prog 42 #[.slice A0 l0.length c0, .int .i64 a1, .int .i64 a2] w fun e w' => ∃ v0_ : Value, e = .returned (.tuple #[v0_, .int .i64 r2]) ∧ Kd.R (Kd.int .i64) 3 w' w.heap.size (fun _ => True) v0_ r1 ∧ Below w.heap.size w w' := by
 have HR0 := A_ hr0
 have HC0 := A_ hc0
 clear hr0 hc0
 have HB := A_ (Below.refl w.heap.size w)
 have H : ((dropperref02_asked.f k l0 a1 a2).bind fun t101 => (if t101 = 0 then ((dropperref02_turned.f k l0).bind fun t102 => ((dropperref02_Lowest.f k t102 a1 a2).bind fun bt105 => (dropperref02_Highest.l0 k bt105.1 bt105.2 0))) else (some (([] : List Int), t101)))) = some (r1, r2) := h
 clear h
 replace H := Option.bind_eq_some_iff.mp H
 obtain ⟨t101, A40, H⟩ := H
 replace H : (if t101 = 0 then ((dropperref02_turned.f k l0).bind fun t102 => ((dropperref02_Lowest.f k t102 a1 a2).bind fun bt105 => (dropperref02_Highest.l0 k bt105.1 bt105.2 0))) else (some (([] : List Int), t101))) = some (r1, r2) := H
 have A4 := A_ A40
 clear A40
 by_cases c5 : t101 = 0
 rotate_left
 ·rw [if_neg c5] at H
  have c5b0 : (t101 == 0) = false := beq_eq_false_iff_ne.mpr c5
  have c5b1 : (t101 != 0) = true := bne_iff_ne.mpr c5
  simp only [Option.some.injEq, Prod.mk.injEq] at H
  obtain ⟨rfl, rfl⟩ := H
  go_enter Try.func42, Try.ntmps42
  go_wp2_with (first | ((with_reducible refine gate_callee (f := 54) rfl ?_); refine goesL_ (some 15) rfl rfl Try.func54 (by kernel_rfl) rfl #[.slice A0 l0.length c0, .int .i64 a1, .int .i64 a2] rfl (by (try simp only [List.map_toArray, List.map_cons, List.map_nil]); first | done | rfl | (simp only [List.length_drop, List.length_take]; rfl)) ?_; (with_reducible refine (dropperref02_asked.calls k _ _ l0 a1 a2 t101 _ ?side1 ?side2 A4.out).mono ?_); (case side1 => exact cU HR0.out); (case side2 => exact HC0.out); rintro e w19 ⟨rfl, hb⟩; refine ⟨_, rfl, ?_⟩; have n0_ := A_ (below_step (bW0 HB.out) hb); clear HB; have HB := n0_; clear n0_; (try clear hb); (try clear hb2); (try clear hk); (try clear hi)))
  go_ret2
  exact ⟨_, by first | rfl | (simp [errW_none, errW_some] <;> rfl) | (simp [*, errW_none, errW_some] <;> rfl), by first | exact Kd.R_nil _ _ _ _ _ | exact Kd.N_nil _ _ _ _ _ | exact Kd.V_nil _ _ _ _ _ | exact Kd.Q_nil _ _ _ _ _ | exact Kd.S_nil _ _ _ _ _, by repeat (first | (with_reducible first | exact HB.out | apply below_alloc | apply pw_below_drewN | apply below_drew1) | exact HB.out)⟩

 rw [if_pos c5] at H
 have c5b0 : (t101 == 0) = true := beq_iff_eq.mpr c5
 have c5b1 : (t101 != 0) = false := bne_eq_false_iff_eq.mpr c5
 clear c5
 replace H := Option.bind_eq_some_iff.mp H
 obtain ⟨t102, A60, H⟩ := H
 replace H : ((dropperref02_Lowest.f k t102 a1 a2).bind fun bt105 => (dropperref02_Highest.l0 k bt105.1 bt105.2 0)) = some (r1, r2) := H
 have A6 := A_ A60
 clear A60
 replace H := Option.bind_eq_some_iff.mp H
 obtain ⟨⟨t105, t106⟩, A70, H⟩ := H
 replace H : (dropperref02_Highest.l0 k t105 t106 0) = some (r1, r2) := H
 have A7 := A_ A70
 clear A70
 have H' := A_ H
 clear H
 go_enter Try.func42, Try.ntmps42
 go_wp2_with (first | ((with_reducible refine gate_callee (f := 54) rfl ?_); refine goesL_ (some 15) rfl rfl Try.func54 (by kernel_rfl) rfl #[.slice A0 l0.length c0, .int .i64 a1, .int .i64 a2] rfl (by (try simp only [List.map_toArray, List.map_cons, List.map_nil]); first | done | rfl | (simp only [List.length_drop, List.length_take]; rfl)) ?_; (with_reducible refine (dropperref02_asked.calls k _ _ l0 a1 a2 t101 _ ?side1 ?side2 A4.out).mono ?_); (case side1 => exact cU HR0.out); (case side2 => exact HC0.out); rintro e w8 ⟨rfl, hb⟩; refine ⟨_, rfl, ?_⟩; have n0_ := A_ (below_step (bW0 HB.out) hb); clear HB; have HB := n0_; clear n0_; (try clear hb); (try clear hb2); (try clear hk); (try clear hi)) | ((with_reducible refine gate_callee (f := 72) rfl ?_); refine goesL_ (some 21) rfl rfl Try.func72 (by kernel_rfl) rfl #[.slice A0 l0.length c0] rfl (by (try simp only [List.map_toArray, List.map_cons, List.map_nil]); first | done | rfl | (simp only [List.length_drop, List.length_take]; rfl)) ?_; (with_reducible refine (dropperref02_turned.calls k _ _ l0 t102 _ ?side1 ?side2 A6.out).mono ?_); (case side1 => exact cU (Kd.C_below HR0.out HB.out)); (case side2 => exact HC0.out); rintro e w9 ⟨v103, rfl, ho0, hb⟩; refine ⟨_, rfl, ?_⟩; have n0_ := A_ (Kd.R_lower ho0 (below_size (bW0 HB.out))); have n1_ := A_ (below_step (bW0 HB.out) hb); clear HB; have HO104 := n0_; have HB := n1_; clear n0_ n1_; (try clear hb); (try clear hb2); (try clear hk); (try clear hi); (try clear ho0); obtain ⟨Ao10, co10, eo10⟩ := Kd.R_slice HO104.out; subst eo10) | ((with_reducible refine gate_callee (f := 41) rfl ?_); refine goesL_ (some 24) rfl rfl Try.func41 (by kernel_rfl) rfl #[.slice Ao10 t102.length co10, .int .i64 a1, .int .i64 a2] rfl (by (try simp only [List.map_toArray, List.map_cons, List.map_nil]); first | done | rfl | (simp only [List.length_drop, List.length_take]; rfl)) ?_; (with_reducible refine (dropperref02_Lowest.calls k _ _ t102 a1 a2 t105 t106 _ ?side1 ?side2 A7.out).mono ?_); (case side1 => exact cU (Kd.R_reads' HO104.out).2.2); (case side2 => exact (Kd.R_reads' HO104.out).2.1); rintro e w11 ⟨v107, rfl, ho0, hb⟩; refine ⟨_, rfl, ?_⟩; have n0_ := A_ (Kd.R_below (rU HO104.out) hb); have n1_ := A_ (Kd.R_lower ho0 (below_size (bW0 HB.out))); have n2_ := A_ (below_step (bW0 HB.out) hb); clear HO104; clear HB; have HO104 := n0_; have HO108 := n1_; have HB := n2_; clear n0_ n1_ n2_; (try clear hb); (try clear hb2); (try clear hk); (try clear hi); (try clear ho0)))
 go_loopg [11] k (fun kq v11 w' => ∃ (x9_1 : List Int) (x11_1 : Int), v11 = .int .i64 x11_1 ∧ Aside0 (dropperref02_Highest.l0 kq x9_1 t106 x11_1 = some (r1, r2)) ∧ Aside0 (kq ≤ k) ∧ Aside0 (Kd.R (Kd.int .i64) 3 w' w.heap.size (fun _ => True) v107 x9_1) ∧ Aside0 (Below w.heap.size w w'))
 case atStart => exact ⟨(t105), (0), (by first | rfl | (simp; done) | (simp [*]; done)), H', ⟨Nat.le_refl _⟩, ⟨rU HO108.out⟩, ⟨by repeat (first | (with_reducible first | exact HB.out | apply below_alloc | apply pw_below_drewN | apply below_drew1) | exact HB.out)⟩⟩
 case round =>
  clear H'
  try clear p2
  try clear c4
  try clear c5
  try clear c5b0
  try clear c5b1
  try clear c7
  obtain ⟨x9_1, x11_1, rfl, HA, HK1, HO_9, HB⟩ := hrel
  cases gk with
  | zero => exact absurd HA.out (by simp [dropperref02_Highest.l0])
  | succ k1 =>
   have H := HA.out
   clear HA
   simp only [dropperref02_Highest.l0] at H
   by_cases c12 : x11_1 < (x9_1.length : Int)
   rotate_left
   ·rw [if_neg c12] at H
    have c12b0 : decide (x11_1 < (x9_1.length : Int)) = false := decide_eq_false c12
    clear c12
    simp only [Option.some.injEq, Prod.mk.injEq] at H
    obtain ⟨rfl, rfl⟩ := H
    obtain ⟨Ao18, co18, eo18⟩ := Kd.R_slice HO_9.out
    subst eo18
    go_wp2
    go_ret2
    exact ⟨_, by first | rfl | (simp [errW_none, errW_some] <;> rfl) | (simp [*, errW_none, errW_some] <;> rfl), by (with_reducible repeat (first | apply Kd.R_alloc | apply Kd.R_drewN | apply Kd.R_drew)); exact HO_9.out, by repeat (first | (with_reducible first | exact HB.out | apply below_alloc | apply pw_below_drewN | apply below_drew1) | exact HB.out)⟩
   rw [if_pos c12] at H
   have c12b0 : decide (x11_1 < (x9_1.length : Int)) = true := decide_eq_true c12
   clear c12
   by_cases c13 : 0 ≤ x11_1
   rotate_left
   ·rw [if_neg c13] at H
    exact absurd H (by simp)
   rw [if_pos c13] at H
   have c13b0 : decide (0 ≤ x11_1) = true := decide_eq_true c13
   clear c13
   obtain ⟨y110, hy110⟩ : ∃ y_ : List Int, y_ = (x9_1.set (x11_1 : Int).toNat (wrap64 (-(rd x9_1 x11_1)))) := ⟨_, rfl⟩
   replace H : (dropperref02_Highest.l0 k1 y110 t106 (wrap64 (x11_1 + 1))) = some (r1, r2) := by first | (rw [hy110]; with_reducible exact H) | (have H2_ := (Option.bind_some _ _).symm.trans H; rw [hy110]; with_reducible exact H2_) | (have H2_ := (Option.bind_some _ _).symm.trans H; with_reducible exact H2_) | with_reducible exact H | (rw [hy110]; exact H) | exact H
   have Ny110 := A_ hy110
   clear hy110
   have H' := A_ H
   clear H
   obtain ⟨Ao15, co15, eo15⟩ := Kd.R_slice HO_9.out
   subst eo15
   have p109 : 0 ≤ (x11_1 : Int) := of_decide_eq_true (by first | (with_reducible assumption) | assumption)
   have q109 : x11_1 < (x9_1.length : Int) := of_decide_eq_true (by first | (with_reducible assumption) | assumption)
   obtain ⟨ad109, e109, hx109_0⟩ := Kd.at_int (Kd.R_reads' HO_9.out).2.2 x11_1 p109 q109
   cases e109
   replace p109 := eq_true p109
   replace q109 := eq_true q109
   have p14 : 0 ≤ (x11_1 : Int) := of_decide_eq_true (by first | (with_reducible assumption) | assumption)
   have q14 : (x11_1 : Int) < ((x9_1.length : Int) : Int) := of_decide_eq_true (by first | (with_reducible assumption) | assumption)
   obtain ⟨go14, co14, eo14, gb14, gl14, cl14, HG14⟩ := Kd.R_form HO_9.out (by omega)
   (first | cases eo14 | (injection eo14 with ea_ en_ ec_; (first | subst ea_ | (injection ea_ with ea_; subst ea_)); subst ec_; clear en_))
   have GB14 := A_ gb14
   have GG14 := A_ HG14
   clear gb14 gl14 HG14
   (first | simp only [add_plain] at hx109_0 | skip)
   obtain ⟨hx14_0, hf14_0⟩ := Kd.R_celln 0 HO_9.out (x11_1 : Int) p14 q14
   replace p14 := eq_true p14
   replace q14 := eq_true q14
   have HP16 := Kd.R_putg HO_9.out (x11_1 : Int) (wrap64 (-(rd x9_1 x11_1)))
   go_wp2_with (first | ((with_reducible refine gate_store (t := 3) (p := 40) rfl ?_); refine store_event (t := 3) (p := 40) (v := ?vo_w17) (w1 := (wr.setCell ⟨go14, (x11_1 : Int).toNat, none⟩ (.int .i64 (wrap64 (-(rd x9_1 x11_1)))))) ?hg ?ho ?hn ?hr ?_; (case ho => rfl); (case hg => rfl); (case hn => rfl); (case hr => first | (go_simp; done) | (go_simp; rfl)); intro w17 hw; have hg : wr.grownBy w17 (some go14) := (by rw [hw]; exact HP16.2); have hp_ : Kd.R (Kd.int .i64) 3 w17 w.heap.size (fun _ => True) (.slice (some ⟨go14, 0, none⟩) x9_1.length co15) y110 := (by rw [hw, Ny110.out]; exact HP16.1); clear HP16; have n0_ := A_ (hp_); have n1_ := A_ ((by rw [hw]; exact below_set (HB.out) GB14.out : Below w.heap.size w w17)); clear HO_9; clear HB; have HO_9 := n0_; have HB := n1_; clear n0_ n1_; clear hg hw hp_))
   go_roundg k1
   case measure => have := HK1.out; omega
   case rel => exact ⟨(y110), (wrap64 (x11_1 + 1)), (by first | rfl | (simp; done) | (simp [*]; done)), H', ⟨by have := HK1.out; omega⟩, ⟨rU HO_9.out⟩, ⟨by repeat (first | (with_reducible first | exact HB.out | apply below_alloc | apply pw_below_drewN | apply below_drew1) | exact HB.out)⟩⟩
end Go.Proofs.Ytciepmpadcpkbaa.G
