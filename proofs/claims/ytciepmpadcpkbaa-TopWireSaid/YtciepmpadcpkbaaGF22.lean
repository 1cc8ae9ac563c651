-- Written by this session's driver (wip/tools/printmore.py) over the kit's print, with hand-written parts.
import Derived.Test.YtciepmpadcpkbaaGBase
import Derived.Test.YtciepmpadcpkbaaGF21
import Derived.Test.YtciepmpadcpkbaaGF61
namespace Go.Proofs.Ytciepmpadcpkbaa.G
open Go.RowKit Go.Proofs.YtciepmpadcpkbaaW.PrintWords Go.Proofs.YtciepmpadcpkbaaW.PrintLast Go.Proofs.YtciepmpadcpkbaaW.PrintMore
attribute [local go_sem] max2_int min2_int max_two min_two max_three min_three max_four min_four   -- for this text's walks alone
set_option linter.unusedVariables false
set_option linter.unusedSimpArgs false

/-! ### wire_Highest: function 22 -/
def wire_Highest.l0 : Nat → List Int → Int → Int → Int → Option (List Int × Int)
 | 0, _, _, _, _ => none
 | k + 1, x8, x9, x20, x21 => if x21 < x20 then (if 0 ≤ x21 then (if x21 < (x8.length : Int) then (wire_Highest.l0 k (x8.set (x21 : Int).toNat (wrap64 (-(rd x8 x21)))) x9 x20 (wrap64 (x21 + 1))) else (none)) else (none)) else (some (x8, x9))
def wire_Highest.f (k : Nat) (l0 : List (S72)) (a1 : Int) (a2 : Int) : Option (List Int × Int) := (wire_over.f k l0).bind fun t101 => ((wire_Lowest.f k t101 a1 a2).bind fun bt104 => (wire_Highest.l0 k bt104.1 bt104.2 (bt104.1.length : Int) 0))
theorem wire_Highest.mono_l : ∀ k, (∀ y0 y1 y2 y3, LeO (wire_Highest.l0 k y0 y1 y2 y3) (wire_Highest.l0 (k + 1) y0 y1 y2 y3))
 | 0 => fun _ _ _ _ r h => by simp [wire_Highest.l0] at h
 | k + 1 => by
  have ih0 := wire_Highest.mono_l k
  ·intro y0 y1 y2 y3
   unfold wire_Highest.l0
   repeat' first
   | (with_reducible exact ih0 _ _ _ _)
   | (with_reducible exact wire_Lowest.mono _ _ _ _)
   | (with_reducible exact wire_over.mono _ _)
   | (with_reducible exact LeO.refl _)
   | (with_reducible exact LeO.none _)
   | (with_reducible refine LeO.ite ?_ ?_)
   | (with_reducible refine LeO.bind ?_ (fun _ => ?_))
   | exact ih0 _ _ _ _
   | exact wire_Lowest.mono _ _ _ _
   | exact wire_over.mono _ _
   | exact LeO.none _
   | refine LeO.ite ?_ ?_
   | refine LeO.bind ?_ (fun _ => ?_)
theorem wire_Highest.mono : ∀ a0 a1 a2 k, LeO (wire_Highest.f k a0 a1 a2) (wire_Highest.f (k + 1) a0 a1 a2) := by
 intro a0 a1 a2 k
 have ih0 := wire_Highest.mono_l k
 unfold wire_Highest.f
 repeat' first
   | (with_reducible exact ih0 _ _ _ _)
   | (with_reducible exact wire_Lowest.mono _ _ _ _)
   | (with_reducible exact wire_over.mono _ _)
   | (with_reducible exact LeO.refl _)
   | (with_reducible exact LeO.none _)
   | (with_reducible refine LeO.ite ?_ ?_)
   | (with_reducible refine LeO.bind ?_ (fun _ => ?_))
   | exact ih0 _ _ _ _
   | exact wire_Lowest.mono _ _ _ _
   | exact wire_over.mono _ _
   | exact LeO.none _
   | refine LeO.ite ?_ ?_
   | refine LeO.bind ?_ (fun _ => ?_)
set_option maxHeartbeats 8000000 in
set_option maxRecDepth 100000 in
theorem wire_Highest.calls (k : Nat) (A0 : Option Addr) (c0 : Nat) (l0 : List (S72)) (a1 : Int) (a2 : Int) (r1 : List Int) (r2 : Int) (w : World) (hr0 : Kd.C k72 w A0 l0.length l0) (hc0 : l0.length ≤ c0) (h : wire_Highest.f k l0 a1 a2 = some (r1, r2)) :
  Calls Try.prog 22 #[.slice A0 l0.length c0, .int .i64 a1, .int .i64 a2] w fun e w' => ∃ v0_ : Value, e = .returned (.tuple #[v0_, .int .i64 r2]) ∧ Kd.R (Kd.int .i64) 3 w' w.heap.size (fun _ => True) v0_ r1 ∧ Below w.heap.size w w' := by
 have HR0 := A_ hr0
 have HC0 := A_ hc0
 clear hr0 hc0
 have HB := A_ (Below.refl w.heap.size w)
 have H : ((wire_over.f k l0).bind fun t101 => ((wire_Lowest.f k t101 a1 a2).bind fun bt104 => (wire_Highest.l0 k bt104.1 bt104.2 (bt104.1.length : Int) 0))) = some (r1, r2) := h
 clear h
 replace H := Option.bind_eq_some_iff.mp H
 obtain ⟨t101, A40, H⟩ := H
 replace H : ((wire_Lowest.f k t101 a1 a2).bind fun bt104 => (wire_Highest.l0 k bt104.1 bt104.2 (bt104.1.length : Int) 0)) = some (r1, r2) := H
 have A4 := A_ A40
 clear A40
 replace H := Option.bind_eq_some_iff.mp H
 obtain ⟨⟨t104, t105⟩, A50, H⟩ := H
 replace H : (wire_Highest.l0 k t104 t105 (t104.length : Int) 0) = some (r1, r2) := H
 have A5 := A_ A50
 clear A50
 have H' := A_ H
 clear H
 go_enter Try.func22, Try.ntmps22
 go_wp2_with (first | ((with_reducible refine gate_callee (f := 61) rfl ?_); refine goesL_ (some 13) rfl rfl Try.func61 (by kernel_rfl) rfl #[.slice A0 l0.length c0] rfl (by (try simp only [List.map_toArray, List.map_cons, List.map_nil]); first | done | rfl | (simp only [List.length_drop, List.length_take]; rfl)) ?_; (with_reducible refine (wire_over.calls k _ _ l0 t101 _ ?side1 ?side2 A4.out).mono ?_); (case side1 => exact cU HR0.out); (case side2 => exact HC0.out); rintro e w6 ⟨v102, rfl, ho0, hb⟩; refine ⟨_, rfl, ?_⟩; have n0_ := A_ (Kd.R_lower ho0 (below_size (bW0 HB.out))); have n1_ := A_ (below_step (bW0 HB.out) hb); clear HB; have HO103 := n0_; have HB := n1_; clear n0_ n1_; (try clear hb); (try clear hb2); (try clear hk); (try clear hi); (try clear ho0); obtain ⟨Ao7, co7, eo7⟩ := Kd.R_slice HO103.out; subst eo7) | ((with_reducible refine gate_callee (f := 21) rfl ?_); refine goesL_ (some 16) rfl rfl Try.func21 (by kernel_rfl) rfl #[.slice Ao7 t101.length co7, .int .i64 a1, .int .i64 a2] rfl (by (try simp only [List.map_toArray, List.map_cons, List.map_nil]); first | done | rfl | (simp only [List.length_drop, List.length_take]; rfl)) ?_; (with_reducible refine (wire_Lowest.calls k _ _ t101 a1 a2 t104 t105 _ ?side1 ?side2 A5.out).mono ?_); (case side1 => exact cU (Kd.R_reads' HO103.out).2.2); (case side2 => exact (Kd.R_reads' HO103.out).2.1); rintro e w8 ⟨v106, rfl, ho0, hb⟩; refine ⟨_, rfl, ?_⟩; have n0_ := A_ (Kd.R_below (rU HO103.out) hb); have n1_ := A_ (Kd.R_lower ho0 (below_size (bW0 HB.out))); have n2_ := A_ (below_step (bW0 HB.out) hb); clear HO103; clear HB; have HO103 := n0_; have HO107 := n1_; have HB := n2_; clear n0_ n1_ n2_; (try clear hb); (try clear hb2); (try clear hk); (try clear hi); (try clear ho0); obtain ⟨Ao9, co9, eo9⟩ := Kd.R_slice HO107.out; subst eo9))
 go_loopg [21] k (fun kq v21 w' => ∃ (x8_1 : List Int) (x21_1 : Int), v21 = .int .i64 x21_1 ∧ Aside0 (wire_Highest.l0 kq x8_1 t105 (t104.length : Int) x21_1 = some (r1, r2)) ∧ Aside0 (kq ≤ k) ∧ Aside0 (Kd.R (Kd.int .i64) 3 w' w.heap.size (fun _ => True) (.slice Ao9 t104.length co9) x8_1) ∧ Aside0 (Below w.heap.size w w'))
 case atStart => exact ⟨(t104), (0), (by first | rfl | (simp; done) | (simp [*]; done)), H', ⟨Nat.le_refl _⟩, ⟨rU HO107.out⟩, ⟨by repeat (first | (with_reducible first | exact HB.out | apply below_alloc | apply pw_below_drewN | apply below_drew1) | exact HB.out)⟩⟩
 case round =>
  clear H'
  try clear c2
  try clear p2
  try clear c6
  obtain ⟨x8_1, x21_1, rfl, HA, HK1, HO_8, HB⟩ := hrel
  have hl8_1 := (Kd.R_reads' HO_8.out).1
  rw [hl8_1] at HO_8
  (try simp only [hl8_1])
  cases gk with
  | zero => exact absurd HA.out (by simp [wire_Highest.l0])
  | succ k1 =>
   have H := HA.out
   clear HA
   simp only [wire_Highest.l0] at H
   by_cases c10 : x21_1 < (t104.length : Int)
   rotate_left
   ·rw [if_neg c10] at H
    have c10b0 : decide (x21_1 < (t104.length : Int)) = false := decide_eq_false c10
    (try (have c10b0h := c10b0; simp only [hl8_1] at c10b0h))
    clear c10
    simp only [Option.some.injEq, Prod.mk.injEq] at H
    obtain ⟨rfl, rfl⟩ := H
    go_wp2
    go_ret2
    exact ⟨_, by first | rfl | (simp [errW_none, errW_some] <;> rfl) | (simp [*, errW_none, errW_some] <;> rfl), by (with_reducible repeat (first | apply Kd.R_alloc | apply Kd.R_drewN | apply Kd.R_drew)); exact HO_8.out, by repeat (first | (with_reducible first | exact HB.out | apply below_alloc | apply pw_below_drewN | apply below_drew1) | exact HB.out)⟩

   rw [if_pos c10] at H
   have c10b0 : decide (x21_1 < (t104.length : Int)) = true := decide_eq_true c10
   (try (have c10b0h := c10b0; simp only [hl8_1] at c10b0h))
   clear c10
   by_cases c11 : 0 ≤ x21_1
   rotate_left
   ·rw [if_neg c11] at H
    exact absurd H (by simp)
   rw [if_pos c11] at H
   have c11b0 : decide (0 ≤ x21_1) = true := decide_eq_true c11
   clear c11
   by_cases c12 : x21_1 < (x8_1.length : Int)
   rotate_left
   ·rw [if_neg c12] at H
    exact absurd H (by simp)
   rw [if_pos c12] at H
   have c12b0 : decide (x21_1 < (x8_1.length : Int)) = true := decide_eq_true c12
   (try (have c12b0h := c12b0; simp only [hl8_1] at c12b0h))
   clear c12
   obtain ⟨y109, hy109⟩ : ∃ y_ : List Int, y_ = (x8_1.set (x21_1 : Int).toNat (wrap64 (-(rd x8_1 x21_1)))) := ⟨_, rfl⟩
   replace H : (wire_Highest.l0 k1 y109 t105 (t104.length : Int) (wrap64 (x21_1 + 1))) = some (r1, r2) := by first | (rw [hy109]; with_reducible exact H) | (have H2_ := (Option.bind_some _ _).symm.trans H; rw [hy109]; with_reducible exact H2_) | (have H2_ := (Option.bind_some _ _).symm.trans H; with_reducible exact H2_) | with_reducible exact H | (rw [hy109]; exact H) | exact H
   have Ny109 := A_ hy109
   clear hy109
   have H' := A_ H
   clear H
   have p108 : 0 ≤ (x21_1 : Int) := of_decide_eq_true (by first | (with_reducible assumption) | assumption)
   have q108 : x21_1 < (x8_1.length : Int) := of_decide_eq_true (by first | (with_reducible assumption) | assumption)
   obtain ⟨ad108, e108, hx108_0⟩ := Kd.at_int (Kd.R_reads' HO_8.out).2.2 x21_1 p108 q108
   cases e108
   replace p108 := eq_true p108
   replace q108 := eq_true q108
   have p13 : 0 ≤ (x21_1 : Int) := of_decide_eq_true (by first | (with_reducible assumption) | assumption)
   have q13 : (x21_1 : Int) < ((x8_1.length : Int) : Int) := of_decide_eq_true (by first | (with_reducible assumption) | assumption)
   obtain ⟨go13, co13, eo13, gb13, gl13, cl13, HG13⟩ := Kd.R_form HO_8.out (by omega)
   (first | cases eo13 | (injection eo13 with ea_ en_ ec_; (first | subst ea_ | (injection ea_ with ea_; subst ea_)); subst ec_; clear en_))
   have GB13 := A_ gb13
   have GG13 := A_ HG13
   clear gb13 gl13 HG13
   (first | simp only [add_plain] at hx108_0 | skip)
   obtain ⟨hx13_0, hf13_0⟩ := Kd.R_celln 0 HO_8.out (x21_1 : Int) p13 q13
   replace p13 := eq_true p13
   replace q13 := eq_true q13
   have HP14 := Kd.R_putg HO_8.out (x21_1 : Int) (wrap64 (-(rd x8_1 x21_1)))
   go_wp2_with (first | ((with_reducible refine gate_store (t := 3) (p := 31) rfl ?_); refine store_event (t := 3) (p := 31) (v := ?vo_w15) (w1 := (wr.setCell ⟨go13, (x21_1 : Int).toNat, none⟩ (.int .i64 (wrap64 (-(rd x8_1 x21_1)))))) ?hg ?ho ?hn ?hr ?_; (case ho => rfl); (case hg => rfl); (case hn => rfl); (case hr => first | (go_simp; done) | (go_simp; rfl)); intro w15 hw; have hg : wr.grownBy w15 (some go13) := (by rw [hw]; exact HP14.2); have hp_ : Kd.R (Kd.int .i64) 3 w15 w.heap.size (fun _ => True) (.slice (some ⟨go13, 0, none⟩) x8_1.length co9) y109 := (by rw [hw, Ny109.out]; exact HP14.1); clear HP14; have n0_ := A_ (hp_); have n1_ := A_ ((by rw [hw]; exact below_set (HB.out) GB13.out : Below w.heap.size w w15)); clear HO_8; clear HB; have HO_8 := n0_; have HB := n1_; clear n0_ n1_; clear hg hw hp_))
   (try simp only [← hl8_1])
   go_roundg k1
   case measure => have := HK1.out; omega
   case rel => exact ⟨(y109), (wrap64 (x21_1 + 1)), (by first | rfl | (simp; done) | (simp [*]; done)), H', ⟨by have := HK1.out; omega⟩, ⟨by (try simp only [hl8_1]); (with_reducible repeat (first | apply Kd.R_alloc | apply Kd.R_drewN | apply Kd.R_drew)); exact HO_8.out⟩, ⟨by repeat (first | (with_reducible first | exact HB.out | apply below_alloc | apply pw_below_drewN | apply below_drew1) | exact HB.out)⟩⟩
end Go.Proofs.Ytciepmpadcpkbaa.G
