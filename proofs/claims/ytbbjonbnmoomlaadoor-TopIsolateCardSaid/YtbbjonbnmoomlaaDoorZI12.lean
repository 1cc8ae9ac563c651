/- Functions of the seat and plain laws about them: GF46. -/
import Derived.Test.YtbbjonbnmoomlaaDoorGBase
import Derived.Test.YtbbjonbnmoomlaaDoorZI11
section
namespace Go.Proofs.YtbbjonbnmoomlaaDoor.G
open Go.RowKit Go.Proofs.YtbbjonbnmoomlaaDoorW.PrintWords Go.Proofs.YtbbjonbnmoomlaaDoorW.PrintLast Go.Proofs.YtbbjonbnmoomlaaDoorW.PrintMore
attribute [local go_sem] max2_int min2_int max_two min_two max_three min_three max_four min_four
set_option linter.unusedVariables false
set_option linter.unusedSimpArgs false
mutual
def dropperref05_from.l0 : Nat → Int → List Bool → Bool → Int → List (S47) → List (S49) → Option (List Bool)
 | 0, _, _, _, _, _, _ => none
 | k + 1, x1, x7, x8, x102000, x102001, x102002 => if x8 = true then (dropperref05_from.l1 k x1 x7 false 0 x102000 x102001 x102002) else (some x7)
def dropperref05_from.l1 : Nat → Int → List Bool → Bool → Int → Int → List (S47) → List (S49) → Option (List Bool)
 | 0, _, _, _, _, _, _, _ => none
 | k + 1, x1, x7, x8, x9, x102000, x102001, x102002 => if x9 < (x102001.length : Int) then (if 0 ≤ x9 then ((dropperref05_closed.f x1 x9).bind fun t108 => (if t108 = true then (if 0 ≤ ((rd_T47 x102001 x9).f0) then (if ((rd_T47 x102001 x9).f0) < (x7.length : Int) then (if 0 ≤ ((rd_T47 x102001 x9).f1) then (if ((rd_T47 x102001 x9).f1) < (x7.length : Int) then (if ((rdOf false x7 ((rd_T47 x102001 x9).f0)) != (rdOf false x7 ((rd_T47 x102001 x9).f1))) = true then (dropperref05_from.l1 k x1 ((x7.set (((rd_T47 x102001 x9).f0) : Int).toNat true).set (((rd_T47 x102001 x9).f1) : Int).toNat true) true (wrap64 (x9 + 1)) x102000 x102001 x102002) else (dropperref05_from.l1 k x1 x7 x8 (wrap64 (x9 + 1)) x102000 x102001 x102002)) else (none)) else (none)) else (none)) else (none)) else (dropperref05_from.l1 k x1 x7 x8 (wrap64 (x9 + 1)) x102000 x102001 x102002))) else (none)) else (dropperref05_from.l0 k x1 x7 x8 x102000 x102001 x102002)
end
def dropperref05_from.f (k : Nat) (a0_0 : Int) (l0_1 : List (S47)) (l0_2 : List (S49)) (a1 : Int) (a2 : Int) : Option (List Bool) := if 0 ≤ a0_0 then (if (a0_0 : Int).toNat ≤ 281474976710656 then ((some (List.replicate (a0_0 : Int).toNat false : List Bool)).bind fun y102 => (if 0 ≤ a2 then (if a2 < (y102.length : Int) then (dropperref05_from.l0 k a1 (y102.set (a2 : Int).toNat true) true a0_0 l0_1 l0_2) else (none)) else (none))) else (none)) else (none)
def dropperref05_from.T10 : Bool × List (List Nat × List Nat) := (true, [([], []), ([], []), ([0, 1], [0, 1]), ([2, 2], [2]), ([3], [3]), ([3], [3]), ([5, 3], [3, 5]), ([4, 6, 3], [3, 4, 6]), ([7, 3], [3, 7]), ([3], [3]), ([3], [3]), ([10, 3], [3, 10]), ([9, 11, 3], [3, 9, 11]), ([12, 3], [3, 12]), ([8, 13, 3], [3, 8, 13]), ([3, 14], [3, 14])])
def dropperref05_from.B10 : List Nat := [0, 0, 3, 7, 15, 15, 47, 127, 255, 15, 15, 1039, 3599, 7695, 16383, 32767]
theorem dropperref05_from.tab10 : rtab .any (opsOf Tryd.f46 10) = dropperref05_from.T10 := by kernel_rfl
theorem dropperref05_from.bits10 : waitsOk dropperref05_from.T10.2 dropperref05_from.B10 = true := by kernel_rfl
def dropperref05_from.T11 : Bool × List (List Nat × List Nat) := (true, [([], []), ([], []), ([1], [1]), ([], []), ([], []), ([4], [4]), ([0, 2, 0, 1, 2], [0, 2]), ([6, 0, 1, 2], [6]), ([3, 5, 0, 1, 2, 3, 4, 5, 6, 7], [3, 5]), ([8, 7, 0, 1, 2, 3, 4, 5, 6, 7], [8]), ([9, 0, 1, 2, 3, 4, 5, 6, 7, 8, 9], [])])
def dropperref05_from.B11 : List Nat := [0, 0, 2, 0, 0, 16, 7, 71, 255, 511, 1023]
theorem dropperref05_from.tab11 : rtab .any (opsOf Tryd.f46 11) = dropperref05_from.T11 := by kernel_rfl
theorem dropperref05_from.bits11 : waitsOk dropperref05_from.T11.2 dropperref05_from.B11 = true := by kernel_rfl
set_option maxHeartbeats 8000000 in
set_option maxRecDepth 100000 in
theorem dropperref05_from.calls (k : Nat) (a0_0 : Int) (A0_1 : Option Addr) (c0_1 : Nat) (l0_1 : List (S47)) (A0_2 : Option Addr) (c0_2 : Nat) (l0_2 : List (S49)) (a1 : Int) (a2 : Int) (r : List Bool) (w : World) (hr0_1 : Kd.C k47 w A0_1 l0_1.length l0_1) (hc0_1 : l0_1.length ≤ c0_1) (hr0_2 : Kd.C k49 w A0_2 l0_2.length l0_2) (hc0_2 : l0_2.length ≤ c0_2) (h : dropperref05_from.f k a0_0 l0_1 l0_2 a1 a2 = some r) :
  Calls Tryd.prog 46 #[.agg #[.int .i64 a0_0, .slice A0_1 l0_1.length c0_1, .slice A0_2 l0_2.length c0_2], .int .i64 a1, .int .i64 a2] w fun e w' => ∃ v0_ : Value, e = .returned (v0_) ∧ Kd.R Kd.bool 4 w' w.heap.size (fun _ => True) v0_ r ∧ Below w.heap.size w w' := by
 have hu25 := Tryd.underlying25; have hu47 := Tryd.underlying47; have HR0_1 := A_ hr0_1; have HC0_1 := A_ hc0_1; clear hr0_1 hc0_1; have HR0_2 := A_ hr0_2; have HC0_2 := A_ hc0_2; clear hr0_2 hc0_2; have HB := A_ (Below.refl w.heap.size w)
 have H : (if 0 ≤ a0_0 then (if (a0_0 : Int).toNat ≤ 281474976710656 then ((some (List.replicate (a0_0 : Int).toNat false : List Bool)).bind fun y102 => (if 0 ≤ a2 then (if a2 < (y102.length : Int) then (dropperref05_from.l0 k a1 (y102.set (a2 : Int).toNat true) true a0_0 l0_1 l0_2) else (none)) else (none))) else (none)) else (none)) = some r := h
 clear h; by_cases c4 : 0 ≤ a0_0; rotate_left
 ·rw [if_neg c4] at H
  exact absurd H (by simp)
 rw [if_pos c4] at H; have c4b0 := eq_true c4; have c4b1 : decide (0 ≤ a0_0) = true := decide_eq_true c4; clear c4; by_cases c5 : (a0_0 : Int).toNat ≤ 281474976710656; rotate_left
 ·rw [if_neg c5] at H
  exact absurd H (by simp)
 rw [if_pos c5] at H; have c5b0 := eq_true c5; have c5b1 : decide ((a0_0 : Int).toNat ≤ 281474976710656) = true := decide_eq_true c5; clear c5; obtain ⟨y102, hy102⟩ : ∃ y_ : List Bool, y_ = (List.replicate (a0_0 : Int).toNat false) := ⟨_, rfl⟩
 replace H : (if 0 ≤ a2 then (if a2 < (y102.length : Int) then (dropperref05_from.l0 k a1 (y102.set (a2 : Int).toNat true) true a0_0 l0_1 l0_2) else (none)) else (none)) = some r := by first | (rw [hy102]; with_reducible exact H) | (have H2_ := (Option.bind_some _ _).symm.trans H; rw [hy102]; with_reducible exact H2_) | (have H2_ := (Option.bind_some _ _).symm.trans H; with_reducible exact H2_) | with_reducible exact H | (rw [hy102]; exact H) | exact H
 have Ny102 := A_ hy102; clear hy102; by_cases c6 : 0 ≤ a2; rotate_left
 ·rw [if_neg c6] at H
  exact absurd H (by simp)
 rw [if_pos c6] at H; have c6b0 : decide (0 ≤ a2) = true := decide_eq_true c6; clear c6; by_cases c7 : a2 < (y102.length : Int); rotate_left
 ·rw [if_neg c7] at H
  exact absurd H (by simp)
 rw [if_pos c7] at H; have c7b0 : decide (a2 < (y102.length : Int)) = true := decide_eq_true c7; clear c7; obtain ⟨y105, hy105⟩ : ∃ y_ : List Bool, y_ = (y102.set (a2 : Int).toNat true) := ⟨_, rfl⟩
 replace H : (dropperref05_from.l0 k a1 y105 true a0_0 l0_1 l0_2) = some r := by first | (rw [hy105]; with_reducible exact H) | (have H2_ := (Option.bind_some _ _).symm.trans H; rw [hy105]; with_reducible exact H2_) | (have H2_ := (Option.bind_some _ _).symm.trans H; with_reducible exact H2_) | with_reducible exact H | (rw [hy105]; exact H) | exact H
 have Ny105 := A_ hy105; clear hy105; have H' := A_ H; clear H
 go_enter Tryd.func46, Tryd.ntmps46
 go_wp2_with (first | ((with_reducible refine gate_dst (N := 3) rfl ?_); refine bxW 3 (cs := #[.int .i64 a0_0, .slice A0_1 l0_1.length c0_1, .slice A0_2 l0_2.length c0_2]) (t := 25) ?_; intro gb101 hg w9 hbox hb; have BK101 := A_ (hbox); have GW101 := A_ ((szG hg (bW0 HB.out))); have GE101 := A_ ((szG hg (bW0 HB.out))); replace HB := A_ (below_step (bW0 HB.out) hb); clear hb hbox hg; have hcz10_0 : w9.cell? ⟨gb101, 0, none⟩ = some (.int .i64 a0_0) := (blk_cell BK101.out 0).trans rfl; have hcz10_1 : w9.cell? ⟨gb101, 1, none⟩ = some (.slice A0_1 l0_1.length c0_1) := (blk_cell BK101.out 1).trans rfl; have hcz10_2 : w9.cell? ⟨gb101, 2, none⟩ = some (.slice A0_2 l0_2.length c0_2) := (blk_cell BK101.out 2).trans rfl; have hfz10_0 := blk_frozen BK101.out 0; have hfz10_1 := blk_frozen BK101.out 1; have hfz10_2 := blk_frozen BK101.out 2) | ((with_reducible refine gate_dst (N := 13) rfl ?_); refine Kd.R_make Kd.bool _ 4 rfl (N := 13) rfl 73 _ _ rfl a0_0 rfl rfl Tryd.underlying73 (.bool false) 1 info4 rfl (by decide) (by omega) false (ok := fun _ => True) (okp := fun _ => True) rfl (fun _ hk => hk) trivial (oD) (Nat.le_trans (Nat.mul_le_mul_right _ (oD : a0_0.toNat ≤ 281474976710656)) (by omega)) (Below.refl _ _) (Nat.le_refl _) ?_; intro v103 w11 ho12 hb hg_ hnew_; clear hg_ hnew_; (first | rw [← Ny102.out] at ho12 | (simp only [Int.reduceToNat] at ho12; rw [← Ny102.out] at ho12)); have HO104 := A_ (Kd.R_lower ho12 (below_size (bW1 HB.out GE101.out))); replace BK101 := A_ (bkB BK101 hb); replace HB := A_ (below_step (bW1 HB.out GE101.out) hb); clear hb ho12; have p8 : 0 ≤ (a2 : Int) := oD; have q8 : (a2 : Int) < ((y102.length : Int) : Int) := oD; obtain ⟨go8, co8, eo8, gb8, gl8, cl8, HG8⟩ := Kd.R_form HO104.out (by omega); (first | cases eo8 | (injection eo8 with ea_ en_ ec_; (first | subst ea_ | (injection ea_ with ea_; subst ea_)); subst ec_; clear en_)); have GB8 := A_ gb8; have GG8 := A_ HG8; clear gb8 gl8 HG8; obtain ⟨hx8_0, hf8_0⟩ := Kd.R_celln false HO104.out (a2 : Int) p8 q8; replace p8 := eq_true p8; replace q8 := eq_true q8; obtain ⟨hy13_, hz13_⟩ := Kd.R_celln false HO104.out (a2 : Int) (oD) (oD); have HP13 := Kd.R_putg HO104.out (a2 : Int) true) | ((with_reducible refine gate_store (t := 4) (p := 16) rfl ?_); refine store_event (t := 4) (p := 16) (v := ?vo_w14) (w1 := (w11.setCell ⟨go8, (a2 : Int).toNat, none⟩ (.bool true))) ?hg ?ho ?hn ?hr ?_; (case ho => rfl); (case hg => rfl); (case hn => rfl); (case hr => first | (go_simp; done) | (go_simp; rfl)); intro w14 hw; have hg : w11.grownBy w14 (some go8) := (by rw [hw]; exact HP13.2); have hp_ : Kd.R Kd.bool 4 w14 w.heap.size (fun _ => True) (.slice (some ⟨go8, 0, none⟩) y102.length co8) y105 := (by rw [hw, Ny105.out]; exact HP13.1); clear HP13; have n0_ := A_ (blk_grown (g := gb101) (o := .cells #[.int .i64 a0_0, .slice A0_1 l0_1.length c0_1, .slice A0_2 l0_2.length c0_2] 25 (0, 0)) (bkU BK101) hg (Kd.R_ne HO104.out BK101.out (by decide))); have n1_ := A_ (hp_); have n2_ := A_ ((by rw [hw]; exact below_set (HB.out) GB8.out : Below w.heap.size w w14)); clear BK101; clear HO104; clear HB; have BK101 := n0_; have HO104 := n1_; have HB := n2_; clear n0_ n1_ n2_; clear hg hw hp_))
 go_loopg [8] k (fun kq v8 w' => ∃ (x7_1 : List Bool) (x8_1 : Bool), v8 = .bool x8_1 ∧ Aside0 (dropperref05_from.l0 kq a1 x7_1 x8_1 a0_0 l0_1 l0_2 = some r) ∧ Aside0 (kq ≤ k) ∧ Aside0 (Kd.R Kd.bool 4 w' w.heap.size (fun _ => True) (.slice (some ⟨go8, 0, none⟩) y102.length co8) x7_1) ∧ Aside0 (w'.heap[gb101]? = some (.cells #[.int .i64 a0_0, (.slice A0_1 l0_1.length c0_1), (.slice A0_2 l0_2.length c0_2)] 25 (0, 0))) ∧ Aside0 (Below w.heap.size w w'))
 case atStart => exact ⟨(y105), (true), eS, H', ⟨Nat.le_refl _⟩, ⟨rU HO104.out⟩, ⟨bkU BK101⟩, ⟨(bW1 HB.out GE101.out)⟩⟩
 case round =>
  clear H'
  try clear p2; try clear c4; try clear c4b0; try clear c4b1; try clear c5; try clear c5b0; try clear c5b1; try clear c6; try clear c6b0; try clear c7; try clear c7b0; try clear p8; try clear q8; try clear hx8; try clear hf8; try clear hcz10_0; try clear hcz10_1; try clear hcz10_2; try clear hfz10_0; try clear hfz10_1; try clear hfz10_2; try clear hx8_0; try clear p8; try clear q8
  obtain ⟨x7_1, x8_1, rfl, HA, HK1, HO_7, BK101, HB⟩ := hrel; have hl7_1 := (Kd.R_reads' HO_7.out).1; rw [hl7_1] at HO_7
  (try simp only [hl7_1])
  (try simp only [hl7_1] at BK101)
  cases gk with
  | zero => exact absurd HA.out (by simp [dropperref05_from.l0])
  | succ k1 =>
   have H := HA.out; clear HA; simp only [dropperref05_from.l0] at H; by_cases c15 : x8_1 = true; rotate_left
   ·replace c15 := Bool.eq_false_iff.mpr c15
    subst c15; rw [if_neg (show ¬ (false = true) by decide)] at H; obtain rfl := Option.some.inj H
    go_wp2
    go_ret
    exact ⟨_, by first | rfl | (simp [errW_none, errW_some] <;> rfl) | (simp [*, errW_none, errW_some] <;> rfl), by (with_reducible repeat (first | apply Kd.R_alloc | apply Kd.R_drewN | apply Kd.R_drew)); exact HO_7.out, (bW1 HB.out GE101.out)⟩
   subst c15; rw [if_pos rfl] at H; have H' := A_ H; clear H
   go_wp2
   go_loopg [8, 9] k1 (fun kq v8 v9 w' => ∃ (x7_2 : List Bool) (x8_2 : Bool) (x9_2 : Int), v8 = .bool x8_2 ∧ v9 = .int .i64 x9_2 ∧ Aside0 (dropperref05_from.l1 kq a1 x7_2 x8_2 x9_2 a0_0 l0_1 l0_2 = some r) ∧ Aside0 (kq ≤ k1) ∧ Aside0 (Kd.R Kd.bool 4 w' w.heap.size (fun _ => True) (.slice (some ⟨go8, 0, none⟩) x7_1.length co8) x7_2) ∧ Aside0 (w'.heap[gb101]? = some (.cells #[.int .i64 a0_0, (.slice A0_1 l0_1.length c0_1), (.slice A0_2 l0_2.length c0_2)] 25 (0, 0))) ∧ Aside0 (Below w.heap.size w w'))
   case atStart => exact ⟨(x7_1), (false), (0), eS, eS, H', ⟨Nat.le_refl _⟩, ⟨by (try simp only [hl7_1]); (with_reducible repeat (first | apply Kd.R_alloc | apply Kd.R_drewN | apply Kd.R_drew)); exact HO_7.out⟩, ⟨by (try simp only [hl7_1]); exact bkU BK101⟩, ⟨(bW1 HB.out GE101.out)⟩⟩
   case round =>
    clear H'
    try clear c1; try clear p2; try clear c4; try clear c4b0; try clear c4b1; try clear c5; try clear c5b0; try clear c5b1; try clear c6; try clear c6b0; try clear c7; try clear c7b0; try clear p8; try clear q8; try clear hx8; try clear hf8; try clear c15; try clear hcz10_0; try clear hcz10_1; try clear hcz10_2; try clear hfz10_0; try clear hfz10_1; try clear hfz10_2; try clear hx8_0; try clear p2; try clear p8; try clear q8
    obtain ⟨x7_2, x8_2, x9_2, rfl, rfl, HA, HK2, HO_7, BK101, HB⟩ := hrel; have hl7_2 := (Kd.R_reads' HO_7.out).1; rw [hl7_2] at HO_7
    (try simp only [hl7_2])
    (try simp only [hl7_2] at BK101)
    cases gk with
    | zero => exact absurd HA.out (by simp [dropperref05_from.l1])
    | succ k2 =>
     have H := HA.out; clear HA; simp only [dropperref05_from.l1] at H; by_cases c16 : x9_2 < (l0_1.length : Int); rotate_left
     ·rw [if_neg c16] at H
      have c16b0 : decide (x9_2 < (l0_1.length : Int)) = false := decide_eq_false c16
      (try (have c16b0h := c16b0; simp only [hl7_1, hl7_2] at c16b0h))
      clear c16; have H' := A_ H; clear H; have hcz48_0 : wr.cell? ⟨gb101, 0, none⟩ = some (.int .i64 a0_0) := (blk_cell BK101.out 0).trans rfl; have hcz48_1 : wr.cell? ⟨gb101, 1, none⟩ = some (.slice A0_1 l0_1.length c0_1) := (blk_cell BK101.out 1).trans rfl; have hcz48_2 : wr.cell? ⟨gb101, 2, none⟩ = some (.slice A0_2 l0_2.length c0_2) := (blk_cell BK101.out 2).trans rfl; have hfz48_0 := blk_frozen BK101.out 0; have hfz48_1 := blk_frozen BK101.out 1; have hfz48_2 := blk_frozen BK101.out 2
      go_wp2
      (try simp only [← hl7_1, ← hl7_2])
      go_roundg k2
      case measure => have := HK1.out; have := HK2.out; omega
      case rel => exact ⟨(x7_2), (x8_2), eS, H', ⟨by have := HK1.out; have := HK2.out; omega⟩, ⟨by (try simp only [hl7_1]); (try simp only [hl7_2]); (with_reducible repeat (first | apply Kd.R_alloc | apply Kd.R_drewN | apply Kd.R_drew)); exact HO_7.out⟩, ⟨by (try simp only [hl7_1]); (try simp only [hl7_2]); exact bkU BK101⟩, ⟨(bW1 HB.out GE101.out)⟩⟩
     rw [if_pos c16] at H; have c16b0 : decide (x9_2 < (l0_1.length : Int)) = true := decide_eq_true c16
     (try (have c16b0h := c16b0; simp only [hl7_1, hl7_2] at c16b0h))
     clear c16; by_cases c17 : 0 ≤ x9_2; rotate_left
     ·rw [if_neg c17] at H
      exact absurd H (by simp)
     rw [if_pos c17] at H; have c17b0 : decide (0 ≤ x9_2) = true := decide_eq_true c17; clear c17; replace H := Option.bind_eq_some_iff.mp H; obtain ⟨t108, A180, H⟩ := H; (try dsimp only at H); have A18 := A_ A180; clear A180; by_cases c19 : t108 = true; rotate_left
     ·replace c19 := Bool.eq_false_iff.mpr c19
      subst c19; rw [if_neg (show ¬ (false = true) by decide)] at H; have H' := A_ H; clear H; have hcz42_0 : wr.cell? ⟨gb101, 0, none⟩ = some (.int .i64 a0_0) := (blk_cell BK101.out 0).trans rfl; have hcz42_1 : wr.cell? ⟨gb101, 1, none⟩ = some (.slice A0_1 l0_1.length c0_1) := (blk_cell BK101.out 1).trans rfl; have hcz42_2 : wr.cell? ⟨gb101, 2, none⟩ = some (.slice A0_2 l0_2.length c0_2) := (blk_cell BK101.out 2).trans rfl; have hfz42_0 := blk_frozen BK101.out 0; have hfz42_1 := blk_frozen BK101.out 1; have hfz42_2 := blk_frozen BK101.out 2; have p106 : 0 ≤ (x9_2 : Int) := oD; have q106 : x9_2 < (l0_1.length : Int) := oD; obtain ⟨ad106, e106, hx106_0, hx106_1⟩ := at_T47 HR0_1.out x9_2 p106 q106
      cases e106
      replace hx106_0 := (HB.out.cell (World.block_lt_of_cell? w _ hx106_0)).trans hx106_0; replace hx106_1 := (HB.out.cell (World.block_lt_of_cell? w _ hx106_1)).trans hx106_1; replace p106 := eq_true p106; replace q106 := eq_true q106
      try go_wp2_with (first | ((with_reducible refine gate_dst (N := 10) rfl ?_); refine bxW 10 (cs := #[.int .i64 0, .int .i64 0]) (t := 47) ?_; intro gb107 hg w43 hbox hb; have BK107 := A_ (hbox); have GW107 := A_ ((szG hg (bW1 HB.out GE101.out))); have GE107 := A_ ((szG hg (bW1 HB.out GE101.out))); have NB101_107 := A_ ((bkL BK101 hg : gb101 ≠ gb107)); have NB107_101 := A_ ((bkG BK101 hg : gb107 ≠ gb101)); replace HO_7 := A_ (Kd.R_below (rU HO_7.out) hb); replace BK101 := A_ (bkB BK101 hb); replace HB := A_ (below_step (bW1 HB.out GE101.out) hb); clear hb hbox hg; have hnb44 := NB107_101.out; have hnc44 := NB101_107.out; have hcz45_0 : w43.cell? ⟨gb107, 0, none⟩ = some (.int .i64 0) := (blk_cell BK107.out 0).trans rfl; have hcz45_1 : w43.cell? ⟨gb107, 1, none⟩ = some (.int .i64 0) := (blk_cell BK107.out 1).trans rfl; have hfz45_0 := blk_frozen BK107.out 0; have hfz45_1 := blk_frozen BK107.out 1))
      have n0_ : Aside0 (Kd.R Kd.bool 4 ((w43.setCell ⟨gb107, 0, none⟩ (.int .i64 ((rd_T47 l0_1 x9_2).f0))).setCell ⟨gb107, 1, none⟩ (.int .i64 ((rd_T47 l0_1 x9_2).f1))) w.heap.size (fun _ => True) (.slice (some ⟨go8, 0, none⟩) x7_2.length co8) x7_2) := ⟨by (with_reducible repeat (first | apply Kd.R_alloc | apply Kd.R_drewN | apply Kd.R_drew)); exact Kd.R_mono (Kd.R_far (p := ⟨gb107, 1, none⟩) (Kd.R_far (p := ⟨gb107, 0, none⟩) (Kd.R_types HO_7.out BK107.out (by decide)) (fun _ hk => hk.2) (.int .i64 ((rd_T47 l0_1 x9_2).f0))) (fun _ hk => hk.2) (.int .i64 ((rd_T47 l0_1 x9_2).f1))) (fun _ hk => trivial)⟩
      have n1_ : Aside0 (((w43.setCell ⟨gb107, 0, none⟩ (.int .i64 ((rd_T47 l0_1 x9_2).f0))).setCell ⟨gb107, 1, none⟩ (.int .i64 ((rd_T47 l0_1 x9_2).f1))).heap[gb101]? = some (.cells #[.int .i64 a0_0, .slice (some ad106) l0_1.length c0_1, .slice A0_2 l0_2.length c0_2] 25 (0, 0))) := ⟨by refine bfW ?_ NB101_107.out; refine bfW ?_ NB101_107.out; exact bkU BK101⟩
      have n2_ : Aside0 (((w43.setCell ⟨gb107, 0, none⟩ (.int .i64 ((rd_T47 l0_1 x9_2).f0))).setCell ⟨gb107, 1, none⟩ (.int .i64 ((rd_T47 l0_1 x9_2).f1))).heap[gb107]? = some (.cells #[.int .i64 ((rd_T47 l0_1 x9_2).f0), .int .i64 ((rd_T47 l0_1 x9_2).f1)] 47 (0, 0))) := ⟨by (with_reducible repeat (first | refine blk_drewN ?_ _ | refine blk_drew ?_ | refine blk_alloc ?_ _)); refine blk_put (cs := #[.int .i64 ((rd_T47 l0_1 x9_2).f0), .int .i64 0]) ?_ 1 _ rfl; (with_reducible repeat (first | refine blk_drewN ?_ _ | refine blk_drew ?_ | refine blk_alloc ?_ _)); refine blk_put (cs := #[.int .i64 0, .int .i64 0]) ?_ 0 _ rfl; exact bkU BK107⟩
      have n3_ : Aside0 (Below w.heap.size w ((w43.setCell ⟨gb107, 0, none⟩ (.int .i64 ((rd_T47 l0_1 x9_2).f0))).setCell ⟨gb107, 1, none⟩ (.int .i64 ((rd_T47 l0_1 x9_2).f1)))) := ⟨(bW2 HB.out GE101.out GE107.out)⟩
      (try clear HO_7)
      (try clear BK101)
      (try clear BK107)
      (try clear HB)
      generalize ((w43.setCell ⟨gb107, 0, none⟩ (.int .i64 ((rd_T47 l0_1 x9_2).f0))).setCell ⟨gb107, 1, none⟩ (.int .i64 ((rd_T47 l0_1 x9_2).f1))) = w46 at n0_ n1_ n2_ n3_ ⊢; have HO_7 := n0_; have BK101 := n1_; have BK107 := n2_; have HB := n3_; clear n0_ n1_ n2_ n3_; replace HO_7 := A_ (Kd.R_drew HO_7.out); replace BK101 := A_ (blk_drew BK101.out); replace BK107 := A_ (blk_drew BK107.out); replace HB := A_ (below_drew1 HB.out)
      refine start_ (n := 16) (S := fun w' => True) (ds := []) (mkB 16 0) (by kernel_rfl) rfl rfl trivial (fun hHeld => ?_); refine with_tabW dropperref05_from.tab10 dropperref05_from.bits10 (fun HT_ HW_ => ?_)
      generalize w46.drew = w47 at HO_7 BK101 BK107 HB hHeld ⊢; refine pr_ 0 (some 30) (mkB 16 1) HT_ ?_; refine pr_ 1 (some 31) (mkB 16 3) HT_ ?_
      refine one_ (i := 2) (N := some 32) (mkB 16 7) rfl rfl (one_of HT_.out (by kernel_rfl)) (by decide) (fun K hK => ?_)
      refine goes_ Tryd.func30 (by kernel_rfl) rfl #[.int .i64 a1, .int .i64 x9_2] (by rfl) rfl rfl (by (try simp only [List.map_toArray, List.map_cons, List.map_nil]); first | done | rfl | (simp only [List.length_drop, List.length_take]; rfl)) ?_
      with_reducible refine (dropperref05_closed.calls a1 x9_2 false _ A18.out).mono ?_
      rintro e w' ⟨rfl, ⟨nd, rfl⟩⟩
      refine ⟨_, rfl, ?_⟩
      refine hK.out _ _ trivial (fun hHeld => ?_)
      clear hK K
      refine norm_ (a' := ?_) ?_ ?_
      rotate_left
      ·show Act.put _ (some 32) _ = _
       simp only [Act.put, List.setIfInBounds_toArray, List.set_cons_zero, List.set_cons_succ, i64_w, i32_w]
       rfl
      refine pr_ 3 (some 33) (mkB 16 15) HT_ ?_; refine pu_ 4 (some 34) (mkB 16 31) HT_ ?_; refine pu_ 5 (some 35) (mkB 16 63) HT_ ?_; refine pu_ 6 (some 36) (mkB 16 127) HT_ ?_; refine pu_ 7 (some 37) (mkB 16 255) HT_ ?_; refine pu_ 8 (some 38) (mkB 16 511) HT_ ?_; refine pu_ 9 (some 39) (mkB 16 1023) HT_ ?_; refine pu_ 10 (some 40) (mkB 16 2047) HT_ ?_; refine pu_ 11 (some 41) (mkB 16 4095) HT_ ?_; refine pu_ 12 (some 42) (mkB 16 8191) HT_ ?_; refine pu_ 13 (some 43) (mkB 16 16383) HT_ ?_; refine pu_ 14 (some 44) (mkB 16 32767) HT_ ?_; refine pr_ 15 (some 45) (mkB 16 65535) HT_ ?_
      refine done_ (done_of HT_.out (by kernel_rfl)) ?_
      try go_wp2
      (try simp only [← hl7_2])
      go_roundg k2
      case measure => have := HK1.out; have := HK2.out; omega
      case rel => exact ⟨(x7_2), (x8_2), (wrap64 (x9_2 + 1)), eS, eS, H', ⟨by have := HK1.out; have := HK2.out; omega⟩, ⟨by (try simp only [hl7_1]); (try simp only [hl7_2]); (with_reducible repeat (first | apply Kd.R_alloc | apply Kd.R_drewN | apply Kd.R_drew)); exact HO_7.out⟩, ⟨by (try simp only [hl7_1]); (try simp only [hl7_2]); exact bkU BK101⟩, ⟨(bW2 HB.out GE101.out GE107.out)⟩⟩
     subst c19; rw [if_pos rfl] at H; by_cases c20 : 0 ≤ ((rd_T47 l0_1 x9_2).f0); rotate_left
     ·rw [if_neg c20] at H
      exact absurd H (by simp)
     rw [if_pos c20] at H; have c20b0 : decide (0 ≤ ((rd_T47 l0_1 x9_2).f0)) = true := decide_eq_true c20; clear c20; by_cases c21 : ((rd_T47 l0_1 x9_2).f0) < (x7_2.length : Int); rotate_left
     ·rw [if_neg c21] at H
      exact absurd H (by simp)
     rw [if_pos c21] at H; have c21b0 : decide (((rd_T47 l0_1 x9_2).f0) < (x7_2.length : Int)) = true := decide_eq_true c21
     (try (have c21b0h := c21b0; simp only [hl7_1, hl7_2] at c21b0h))
     clear c21; by_cases c22 : 0 ≤ ((rd_T47 l0_1 x9_2).f1); rotate_left
     ·rw [if_neg c22] at H
      exact absurd H (by simp)
     rw [if_pos c22] at H; have c22b0 : decide (0 ≤ ((rd_T47 l0_1 x9_2).f1)) = true := decide_eq_true c22; clear c22; by_cases c23 : ((rd_T47 l0_1 x9_2).f1) < (x7_2.length : Int); rotate_left
     ·rw [if_neg c23] at H
      exact absurd H (by simp)
     rw [if_pos c23] at H; have c23b0 : decide (((rd_T47 l0_1 x9_2).f1) < (x7_2.length : Int)) = true := decide_eq_true c23
     (try (have c23b0h := c23b0; simp only [hl7_1, hl7_2] at c23b0h))
     clear c23; by_cases c24 : ((rdOf false x7_2 ((rd_T47 l0_1 x9_2).f0)) != (rdOf false x7_2 ((rd_T47 l0_1 x9_2).f1))) = true; rotate_left
     ·rw [if_neg c24] at H
      have c24b0 : ((rdOf false x7_2 ((rd_T47 l0_1 x9_2).f0)) != (rdOf false x7_2 ((rd_T47 l0_1 x9_2).f1))) = false := by simpa using c24
      (try (have c24b1 : decide ((rdOf false x7_2 ((rd_T47 l0_1 x9_2).f0)) = (rdOf false x7_2 ((rd_T47 l0_1 x9_2).f1))) = true := by simpa using c24))
      (try (have c24b2 : ((rdOf false x7_2 ((rd_T47 l0_1 x9_2).f0)) == (rdOf false x7_2 ((rd_T47 l0_1 x9_2).f1))) = true := by simpa using c24))
      clear c24; have H' := A_ H; clear H; have hcz36_0 : wr.cell? ⟨gb101, 0, none⟩ = some (.int .i64 a0_0) := (blk_cell BK101.out 0).trans rfl; have hcz36_1 : wr.cell? ⟨gb101, 1, none⟩ = some (.slice A0_1 l0_1.length c0_1) := (blk_cell BK101.out 1).trans rfl; have hcz36_2 : wr.cell? ⟨gb101, 2, none⟩ = some (.slice A0_2 l0_2.length c0_2) := (blk_cell BK101.out 2).trans rfl; have hfz36_0 := blk_frozen BK101.out 0; have hfz36_1 := blk_frozen BK101.out 1; have hfz36_2 := blk_frozen BK101.out 2; have p106 : 0 ≤ (x9_2 : Int) := oD; have q106 : x9_2 < (l0_1.length : Int) := oD; obtain ⟨ad106, e106, hx106_0, hx106_1⟩ := at_T47 HR0_1.out x9_2 p106 q106
      cases e106
      replace hx106_0 := (HB.out.cell (World.block_lt_of_cell? w _ hx106_0)).trans hx106_0; replace hx106_1 := (HB.out.cell (World.block_lt_of_cell? w _ hx106_1)).trans hx106_1; replace p106 := eq_true p106; replace q106 := eq_true q106
      try go_wp2_with (first | ((with_reducible refine gate_dst (N := 10) rfl ?_); refine bxW 10 (cs := #[.int .i64 0, .int .i64 0]) (t := 47) ?_; intro gb107 hg w37 hbox hb; have BK107 := A_ (hbox); have GW107 := A_ ((szG hg (bW1 HB.out GE101.out))); have GE107 := A_ ((szG hg (bW1 HB.out GE101.out))); have NB101_107 := A_ ((bkL BK101 hg : gb101 ≠ gb107)); have NB107_101 := A_ ((bkG BK101 hg : gb107 ≠ gb101)); replace HO_7 := A_ (Kd.R_below (rU HO_7.out) hb); replace BK101 := A_ (bkB BK101 hb); replace HB := A_ (below_step (bW1 HB.out GE101.out) hb); clear hb hbox hg; have hnb38 := NB107_101.out; have hnc38 := NB101_107.out; have hcz39_0 : w37.cell? ⟨gb107, 0, none⟩ = some (.int .i64 0) := (blk_cell BK107.out 0).trans rfl; have hcz39_1 : w37.cell? ⟨gb107, 1, none⟩ = some (.int .i64 0) := (blk_cell BK107.out 1).trans rfl; have hfz39_0 := blk_frozen BK107.out 0; have hfz39_1 := blk_frozen BK107.out 1))
      have n0_ : Aside0 (Kd.R Kd.bool 4 ((w37.setCell ⟨gb107, 0, none⟩ (.int .i64 ((rd_T47 l0_1 x9_2).f0))).setCell ⟨gb107, 1, none⟩ (.int .i64 ((rd_T47 l0_1 x9_2).f1))) w.heap.size (fun _ => True) (.slice (some ⟨go8, 0, none⟩) x7_2.length co8) x7_2) := ⟨by (with_reducible repeat (first | apply Kd.R_alloc | apply Kd.R_drewN | apply Kd.R_drew)); exact Kd.R_mono (Kd.R_far (p := ⟨gb107, 1, none⟩) (Kd.R_far (p := ⟨gb107, 0, none⟩) (Kd.R_types HO_7.out BK107.out (by decide)) (fun _ hk => hk.2) (.int .i64 ((rd_T47 l0_1 x9_2).f0))) (fun _ hk => hk.2) (.int .i64 ((rd_T47 l0_1 x9_2).f1))) (fun _ hk => trivial)⟩
      have n1_ : Aside0 (((w37.setCell ⟨gb107, 0, none⟩ (.int .i64 ((rd_T47 l0_1 x9_2).f0))).setCell ⟨gb107, 1, none⟩ (.int .i64 ((rd_T47 l0_1 x9_2).f1))).heap[gb101]? = some (.cells #[.int .i64 a0_0, .slice (some ad106) l0_1.length c0_1, .slice A0_2 l0_2.length c0_2] 25 (0, 0))) := ⟨by refine bfW ?_ NB101_107.out; refine bfW ?_ NB101_107.out; exact bkU BK101⟩
      have n2_ : Aside0 (((w37.setCell ⟨gb107, 0, none⟩ (.int .i64 ((rd_T47 l0_1 x9_2).f0))).setCell ⟨gb107, 1, none⟩ (.int .i64 ((rd_T47 l0_1 x9_2).f1))).heap[gb107]? = some (.cells #[.int .i64 ((rd_T47 l0_1 x9_2).f0), .int .i64 ((rd_T47 l0_1 x9_2).f1)] 47 (0, 0))) := ⟨by (with_reducible repeat (first | refine blk_drewN ?_ _ | refine blk_drew ?_ | refine blk_alloc ?_ _)); refine blk_put (cs := #[.int .i64 ((rd_T47 l0_1 x9_2).f0), .int .i64 0]) ?_ 1 _ rfl; (with_reducible repeat (first | refine blk_drewN ?_ _ | refine blk_drew ?_ | refine blk_alloc ?_ _)); refine blk_put (cs := #[.int .i64 0, .int .i64 0]) ?_ 0 _ rfl; exact bkU BK107⟩
      have n3_ : Aside0 (Below w.heap.size w ((w37.setCell ⟨gb107, 0, none⟩ (.int .i64 ((rd_T47 l0_1 x9_2).f0))).setCell ⟨gb107, 1, none⟩ (.int .i64 ((rd_T47 l0_1 x9_2).f1)))) := ⟨(bW2 HB.out GE101.out GE107.out)⟩
      (try clear HO_7)
      (try clear BK101)
      (try clear BK107)
      (try clear HB)
      generalize ((w37.setCell ⟨gb107, 0, none⟩ (.int .i64 ((rd_T47 l0_1 x9_2).f0))).setCell ⟨gb107, 1, none⟩ (.int .i64 ((rd_T47 l0_1 x9_2).f1))) = w40 at n0_ n1_ n2_ n3_ ⊢; have HO_7 := n0_; have BK101 := n1_; have BK107 := n2_; have HB := n3_; clear n0_ n1_ n2_ n3_; replace HO_7 := A_ (Kd.R_drew HO_7.out); replace BK101 := A_ (blk_drew BK101.out); replace BK107 := A_ (blk_drew BK107.out); replace HB := A_ (below_drew1 HB.out); have p109 : 0 ≤ (((rd_T47 l0_1 x9_2).f0) : Int) := oD; have q109 : ((rd_T47 l0_1 x9_2).f0) < (x7_2.length : Int) := oD; obtain ⟨ad109, e109, hx109_0⟩ := Kd.at_bool (Kd.R_reads' HO_7.out).2.2 ((rd_T47 l0_1 x9_2).f0) p109 q109
      obtain rfl : (⟨go8, 0, none⟩ : Addr) = ad109 := (by injection e109)
      (first | simp only [add_plain] at hx109_0 | simp only [add_at] at hx109_0 | simp only [Addr.add, Nat.zero_add] at hx109_0 | skip)
      replace p109 := eq_true p109; replace q109 := eq_true q109; have p110 : 0 ≤ (((rd_T47 l0_1 x9_2).f1) : Int) := oD; have q110 : ((rd_T47 l0_1 x9_2).f1) < (x7_2.length : Int) := oD; obtain ⟨ad110, e110, hx110_0⟩ := Kd.at_bool (Kd.R_reads' HO_7.out).2.2 ((rd_T47 l0_1 x9_2).f1) p110 q110
      obtain rfl : (⟨go8, 0, none⟩ : Addr) = ad110 := (by injection e110)
      (first | simp only [add_plain] at hx110_0 | simp only [add_at] at hx110_0 | simp only [Addr.add, Nat.zero_add] at hx110_0 | skip)
      replace p110 := eq_true p110; replace q110 := eq_true q110
      refine start_ (n := 16) (S := fun w' => w'.cell? ⟨gb107, 0, none⟩ = some (.int .i64 ((rd_T47 l0_1 x9_2).f0)) ∧ w'.cell? ⟨gb107, 1, none⟩ = some (.int .i64 ((rd_T47 l0_1 x9_2).f1)) ∧ w'.cell? ⟨go8, (((rd_T47 l0_1 x9_2).f0)).toNat, none⟩ = some (.bool (rdOf false x7_2 ((rd_T47 l0_1 x9_2).f0))) ∧ w'.cell? ⟨go8, (((rd_T47 l0_1 x9_2).f1)).toNat, none⟩ = some (.bool (rdOf false x7_2 ((rd_T47 l0_1 x9_2).f1)))) (ds := []) (mkB 16 0) (by kernel_rfl) rfl rfl ⟨(blk_cell BK107.out 0).trans rfl, (blk_cell BK107.out 1).trans rfl, hx109_0, hx110_0⟩ (fun hHeld => ?_); refine with_tabW dropperref05_from.tab10 dropperref05_from.bits10 (fun HT_ HW_ => ?_)
      generalize w40.drew = w41 at HO_7 BK101 BK107 HB hx109_0 hx110_0 hHeld ⊢; refine pr_ 0 (some 30) (mkB 16 1) HT_ ?_; refine pr_ 1 (some 31) (mkB 16 3) HT_ ?_
      refine one_ (i := 2) (N := some 32) (mkB 16 7) rfl rfl (one_of HT_.out (by kernel_rfl)) (by decide) (fun K hK => ?_)
      refine goes_ Tryd.func30 (by kernel_rfl) rfl #[.int .i64 a1, .int .i64 x9_2] (by rfl) rfl rfl (by (try simp only [List.map_toArray, List.map_cons, List.map_nil]); first | done | rfl | (simp only [List.length_drop, List.length_take]; rfl)) ?_
      with_reducible refine (dropperref05_closed.calls a1 x9_2 true _ A18.out).mono ?_
      rintro e w' ⟨rfl, ⟨nd, rfl⟩⟩
      refine ⟨_, rfl, ?_⟩
      refine hK.out _ _ ⟨(blk_cell BK107.out 0).trans rfl, (blk_cell BK107.out 1).trans rfl, hHeld.2.2.1, hHeld.2.2.2⟩ (fun hHeld => ?_)
      clear hK K
      refine norm_ (a' := ?_) ?_ ?_
      rotate_left
      ·show Act.put _ (some 32) _ = _
       simp only [Act.put, List.setIfInBounds_toArray, List.set_cons_zero, List.set_cons_succ, i64_w, i32_w]
       rfl
      refine pr_ 3 (some 33) (mkB 16 15) HT_ ?_; refine pr_ 4 (some 34) (mkB 16 31) HT_ ?_; refine pr_ 5 (some 35) (mkB 16 63) HT_ ?_; refine pr_ 9 (some 39) (mkB 16 575) HT_ ?_; refine pr_ 10 (some 40) (mkB 16 1599) HT_ ?_
      refine take_ (i := 6) (N := some 36) (v := ?_) (a' := ?_) (mkB 16 1663) rfl rfl (take_ofW HT_.out HW_.out (by kernel_rfl)) (fun _ _ _ h => h) (Or.inl ⟨by rfl, ?_⟩) hHeld ?_ ?_
      rotate_left
      ·rintro w' ⟨s0, s1, s2, s3⟩
       go_simp
       with_reducible rfl
      rotate_left
      ·simp only [Act.put, List.setIfInBounds_toArray, List.set_cons_zero, List.set_cons_succ, i64_w, i32_w]
       rfl
      refine pr_ 7 (some 37) (mkB 16 1791) HT_ ?_
      refine take_ (i := 8) (N := some 38) (v := ?_) (a' := ?_) (mkB 16 2047) rfl rfl (take_ofW HT_.out HW_.out (by kernel_rfl)) (fun _ _ _ h => h) (Or.inl ⟨by rfl, ?_⟩) hHeld ?_ ?_
      rotate_left
      ·rintro w' ⟨s0, s1, s2, s3⟩
       go_simp
       with_reducible rfl
      rotate_left
      ·simp only [Act.put, List.setIfInBounds_toArray, List.set_cons_zero, List.set_cons_succ, i64_w, i32_w]
       rfl
      refine take_ (i := 11) (N := some 41) (v := ?_) (a' := ?_) (mkB 16 4095) rfl rfl (take_ofW HT_.out HW_.out (by kernel_rfl)) (fun _ _ _ h => h) (Or.inl ⟨by rfl, ?_⟩) hHeld ?_ ?_
      rotate_left
      ·rintro w' ⟨s0, s1, s2, s3⟩
       go_simp
       with_reducible rfl
      rotate_left
      ·simp only [Act.put, List.setIfInBounds_toArray, List.set_cons_zero, List.set_cons_succ, i64_w, i32_w]
       rfl
      refine pr_ 12 (some 42) (mkB 16 8191) HT_ ?_
      refine take_ (i := 13) (N := some 43) (v := ?_) (a' := ?_) (mkB 16 16383) rfl rfl (take_ofW HT_.out HW_.out (by kernel_rfl)) (fun _ _ _ h => h) (Or.inl ⟨by rfl, ?_⟩) hHeld ?_ ?_
      rotate_left
      ·rintro w' ⟨s0, s1, s2, s3⟩
       go_simp
       with_reducible rfl
      rotate_left
      ·simp only [Act.put, List.setIfInBounds_toArray, List.set_cons_zero, List.set_cons_succ, i64_w, i32_w]
       rfl
      refine pr_ 14 (some 44) (mkB 16 32767) HT_ ?_; refine pr_ 15 (some 45) (mkB 16 65535) HT_ ?_
      refine done_ (done_of HT_.out (by kernel_rfl)) ?_
      try go_wp2
      (try simp only [← hl7_2])
      go_roundg k2
      case measure => have := HK1.out; have := HK2.out; omega
      case rel => exact ⟨(x7_2), (x8_2), (wrap64 (x9_2 + 1)), eS, eS, H', ⟨by have := HK1.out; have := HK2.out; omega⟩, ⟨by (try simp only [hl7_1]); (try simp only [hl7_2]); (with_reducible repeat (first | apply Kd.R_alloc | apply Kd.R_drewN | apply Kd.R_drew)); exact HO_7.out⟩, ⟨by (try simp only [hl7_1]); (try simp only [hl7_2]); exact bkU BK101⟩, ⟨(bW2 HB.out GE101.out GE107.out)⟩⟩
     rw [if_pos c24] at H; have c24b0 : ((rdOf false x7_2 ((rd_T47 l0_1 x9_2).f0)) != (rdOf false x7_2 ((rd_T47 l0_1 x9_2).f1))) = true := c24
     (try (have c24b1 : decide ((rdOf false x7_2 ((rd_T47 l0_1 x9_2).f0)) = (rdOf false x7_2 ((rd_T47 l0_1 x9_2).f1))) = false := by simpa using c24))
     (try (have c24b2 : ((rdOf false x7_2 ((rd_T47 l0_1 x9_2).f0)) == (rdOf false x7_2 ((rd_T47 l0_1 x9_2).f1))) = false := by simpa using c24))
     (try (have c24b3 : ¬ ((rdOf false x7_2 ((rd_T47 l0_1 x9_2).f0)) = (rdOf false x7_2 ((rd_T47 l0_1 x9_2).f1))) := by simpa using c24))
     clear c24; obtain ⟨y111, hy111⟩ : ∃ y_ : List Bool, y_ = (x7_2.set (((rd_T47 l0_1 x9_2).f0) : Int).toNat true) := ⟨_, rfl⟩
     replace H : (dropperref05_from.l1 k2 a1 (y111.set (((rd_T47 l0_1 x9_2).f1) : Int).toNat true) true (wrap64 (x9_2 + 1)) a0_0 l0_1 l0_2) = some r := by first | (rw [hy111]; with_reducible exact H) | (have H2_ := (Option.bind_some _ _).symm.trans H; rw [hy111]; with_reducible exact H2_) | (have H2_ := (Option.bind_some _ _).symm.trans H; with_reducible exact H2_) | with_reducible exact H | (rw [hy111]; exact H) | exact H
     have Ny111 := A_ hy111; clear hy111; obtain ⟨y112, hy112⟩ : ∃ y_ : List Bool, y_ = (y111.set (((rd_T47 l0_1 x9_2).f1) : Int).toNat true) := ⟨_, rfl⟩
     replace H : (dropperref05_from.l1 k2 a1 y112 true (wrap64 (x9_2 + 1)) a0_0 l0_1 l0_2) = some r := by first | (rw [hy112]; with_reducible exact H) | (have H2_ := (Option.bind_some _ _).symm.trans H; rw [hy112]; with_reducible exact H2_) | (have H2_ := (Option.bind_some _ _).symm.trans H; with_reducible exact H2_) | with_reducible exact H | (rw [hy112]; exact H) | exact H
     have Ny112 := A_ hy112; clear hy112; have H' := A_ H; clear H; have hcz27_0 : wr.cell? ⟨gb101, 0, none⟩ = some (.int .i64 a0_0) := (blk_cell BK101.out 0).trans rfl; have hcz27_1 : wr.cell? ⟨gb101, 1, none⟩ = some (.slice A0_1 l0_1.length c0_1) := (blk_cell BK101.out 1).trans rfl; have hcz27_2 : wr.cell? ⟨gb101, 2, none⟩ = some (.slice A0_2 l0_2.length c0_2) := (blk_cell BK101.out 2).trans rfl; have hfz27_0 := blk_frozen BK101.out 0; have hfz27_1 := blk_frozen BK101.out 1; have hfz27_2 := blk_frozen BK101.out 2; have p106 : 0 ≤ (x9_2 : Int) := oD; have q106 : x9_2 < (l0_1.length : Int) := oD; obtain ⟨ad106, e106, hx106_0, hx106_1⟩ := at_T47 HR0_1.out x9_2 p106 q106
     cases e106
     replace hx106_0 := (HB.out.cell (World.block_lt_of_cell? w _ hx106_0)).trans hx106_0; replace hx106_1 := (HB.out.cell (World.block_lt_of_cell? w _ hx106_1)).trans hx106_1; replace p106 := eq_true p106; replace q106 := eq_true q106
     try go_wp2_with (first | ((with_reducible refine gate_dst (N := 10) rfl ?_); refine bxW 10 (cs := #[.int .i64 0, .int .i64 0]) (t := 47) ?_; intro gb107 hg w28 hbox hb; have BK107 := A_ (hbox); have GW107 := A_ ((szG hg (bW1 HB.out GE101.out))); have GE107 := A_ ((szG hg (bW1 HB.out GE101.out))); have NB101_107 := A_ ((bkL BK101 hg : gb101 ≠ gb107)); have NB107_101 := A_ ((bkG BK101 hg : gb107 ≠ gb101)); replace HO_7 := A_ (Kd.R_below (rU HO_7.out) hb); replace BK101 := A_ (bkB BK101 hb); replace HB := A_ (below_step (bW1 HB.out GE101.out) hb); clear hb hbox hg; have hnb29 := NB107_101.out; have hnc29 := NB101_107.out; have hcz30_0 : w28.cell? ⟨gb107, 0, none⟩ = some (.int .i64 0) := (blk_cell BK107.out 0).trans rfl; have hcz30_1 : w28.cell? ⟨gb107, 1, none⟩ = some (.int .i64 0) := (blk_cell BK107.out 1).trans rfl; have hfz30_0 := blk_frozen BK107.out 0; have hfz30_1 := blk_frozen BK107.out 1))
     have n0_ : Aside0 (Kd.R Kd.bool 4 ((w28.setCell ⟨gb107, 0, none⟩ (.int .i64 ((rd_T47 l0_1 x9_2).f0))).setCell ⟨gb107, 1, none⟩ (.int .i64 ((rd_T47 l0_1 x9_2).f1))) w.heap.size (fun _ => True) (.slice (some ⟨go8, 0, none⟩) x7_2.length co8) x7_2) := ⟨by (with_reducible repeat (first | apply Kd.R_alloc | apply Kd.R_drewN | apply Kd.R_drew)); exact Kd.R_mono (Kd.R_far (p := ⟨gb107, 1, none⟩) (Kd.R_far (p := ⟨gb107, 0, none⟩) (Kd.R_types HO_7.out BK107.out (by decide)) (fun _ hk => hk.2) (.int .i64 ((rd_T47 l0_1 x9_2).f0))) (fun _ hk => hk.2) (.int .i64 ((rd_T47 l0_1 x9_2).f1))) (fun _ hk => trivial)⟩
     have n1_ : Aside0 (((w28.setCell ⟨gb107, 0, none⟩ (.int .i64 ((rd_T47 l0_1 x9_2).f0))).setCell ⟨gb107, 1, none⟩ (.int .i64 ((rd_T47 l0_1 x9_2).f1))).heap[gb101]? = some (.cells #[.int .i64 a0_0, .slice (some ad106) l0_1.length c0_1, .slice A0_2 l0_2.length c0_2] 25 (0, 0))) := ⟨by refine bfW ?_ NB101_107.out; refine bfW ?_ NB101_107.out; exact bkU BK101⟩
     have n2_ : Aside0 (((w28.setCell ⟨gb107, 0, none⟩ (.int .i64 ((rd_T47 l0_1 x9_2).f0))).setCell ⟨gb107, 1, none⟩ (.int .i64 ((rd_T47 l0_1 x9_2).f1))).heap[gb107]? = some (.cells #[.int .i64 ((rd_T47 l0_1 x9_2).f0), .int .i64 ((rd_T47 l0_1 x9_2).f1)] 47 (0, 0))) := ⟨by (with_reducible repeat (first | refine blk_drewN ?_ _ | refine blk_drew ?_ | refine blk_alloc ?_ _)); refine blk_put (cs := #[.int .i64 ((rd_T47 l0_1 x9_2).f0), .int .i64 0]) ?_ 1 _ rfl; (with_reducible repeat (first | refine blk_drewN ?_ _ | refine blk_drew ?_ | refine blk_alloc ?_ _)); refine blk_put (cs := #[.int .i64 0, .int .i64 0]) ?_ 0 _ rfl; exact bkU BK107⟩
     have n3_ : Aside0 (Below w.heap.size w ((w28.setCell ⟨gb107, 0, none⟩ (.int .i64 ((rd_T47 l0_1 x9_2).f0))).setCell ⟨gb107, 1, none⟩ (.int .i64 ((rd_T47 l0_1 x9_2).f1)))) := ⟨(bW2 HB.out GE101.out GE107.out)⟩
     (try clear HO_7)
     (try clear BK101)
     (try clear BK107)
     (try clear HB)
     generalize ((w28.setCell ⟨gb107, 0, none⟩ (.int .i64 ((rd_T47 l0_1 x9_2).f0))).setCell ⟨gb107, 1, none⟩ (.int .i64 ((rd_T47 l0_1 x9_2).f1))) = w31 at n0_ n1_ n2_ n3_ ⊢; have HO_7 := n0_; have BK101 := n1_; have BK107 := n2_; have HB := n3_; clear n0_ n1_ n2_ n3_; replace HO_7 := A_ (Kd.R_drew HO_7.out); replace BK101 := A_ (blk_drew BK101.out); replace BK107 := A_ (blk_drew BK107.out); replace HB := A_ (below_drew1 HB.out); have p109 : 0 ≤ (((rd_T47 l0_1 x9_2).f0) : Int) := oD; have q109 : ((rd_T47 l0_1 x9_2).f0) < (x7_2.length : Int) := oD; obtain ⟨ad109, e109, hx109_0⟩ := Kd.at_bool (Kd.R_reads' HO_7.out).2.2 ((rd_T47 l0_1 x9_2).f0) p109 q109
     obtain rfl : (⟨go8, 0, none⟩ : Addr) = ad109 := (by injection e109)
     (first | simp only [add_plain] at hx109_0 | simp only [add_at] at hx109_0 | simp only [Addr.add, Nat.zero_add] at hx109_0 | skip)
     replace p109 := eq_true p109; replace q109 := eq_true q109; have p110 : 0 ≤ (((rd_T47 l0_1 x9_2).f1) : Int) := oD; have q110 : ((rd_T47 l0_1 x9_2).f1) < (x7_2.length : Int) := oD; obtain ⟨ad110, e110, hx110_0⟩ := Kd.at_bool (Kd.R_reads' HO_7.out).2.2 ((rd_T47 l0_1 x9_2).f1) p110 q110
     obtain rfl : (⟨go8, 0, none⟩ : Addr) = ad110 := (by injection e110)
     (first | simp only [add_plain] at hx110_0 | simp only [add_at] at hx110_0 | simp only [Addr.add, Nat.zero_add] at hx110_0 | skip)
     replace p110 := eq_true p110; replace q110 := eq_true q110
     refine start_ (n := 16) (S := fun w' => w'.cell? ⟨gb107, 0, none⟩ = some (.int .i64 ((rd_T47 l0_1 x9_2).f0)) ∧ w'.cell? ⟨gb107, 1, none⟩ = some (.int .i64 ((rd_T47 l0_1 x9_2).f1)) ∧ w'.cell? ⟨go8, (((rd_T47 l0_1 x9_2).f0)).toNat, none⟩ = some (.bool (rdOf false x7_2 ((rd_T47 l0_1 x9_2).f0))) ∧ w'.cell? ⟨go8, (((rd_T47 l0_1 x9_2).f1)).toNat, none⟩ = some (.bool (rdOf false x7_2 ((rd_T47 l0_1 x9_2).f1)))) (ds := []) (mkB 16 0) (by kernel_rfl) rfl rfl ⟨(blk_cell BK107.out 0).trans rfl, (blk_cell BK107.out 1).trans rfl, hx109_0, hx110_0⟩ (fun hHeld => ?_); refine with_tabW dropperref05_from.tab10 dropperref05_from.bits10 (fun HT_ HW_ => ?_)
     generalize w31.drew = w32 at HO_7 BK101 BK107 HB hx109_0 hx110_0 hHeld ⊢; refine pr_ 0 (some 30) (mkB 16 1) HT_ ?_; refine pr_ 1 (some 31) (mkB 16 3) HT_ ?_
     refine one_ (i := 2) (N := some 32) (mkB 16 7) rfl rfl (one_of HT_.out (by kernel_rfl)) (by decide) (fun K hK => ?_)
     refine goes_ Tryd.func30 (by kernel_rfl) rfl #[.int .i64 a1, .int .i64 x9_2] (by rfl) rfl rfl (by (try simp only [List.map_toArray, List.map_cons, List.map_nil]); first | done | rfl | (simp only [List.length_drop, List.length_take]; rfl)) ?_
     with_reducible refine (dropperref05_closed.calls a1 x9_2 true _ A18.out).mono ?_
     rintro e w' ⟨rfl, ⟨nd, rfl⟩⟩
     refine ⟨_, rfl, ?_⟩
     refine hK.out _ _ ⟨(blk_cell BK107.out 0).trans rfl, (blk_cell BK107.out 1).trans rfl, hHeld.2.2.1, hHeld.2.2.2⟩ (fun hHeld => ?_)
     clear hK K
     refine norm_ (a' := ?_) ?_ ?_
     rotate_left
     ·show Act.put _ (some 32) _ = _
      simp only [Act.put, List.setIfInBounds_toArray, List.set_cons_zero, List.set_cons_succ, i64_w, i32_w]
      rfl
     refine pr_ 3 (some 33) (mkB 16 15) HT_ ?_; refine pr_ 4 (some 34) (mkB 16 31) HT_ ?_; refine pr_ 5 (some 35) (mkB 16 63) HT_ ?_; refine pr_ 9 (some 39) (mkB 16 575) HT_ ?_; refine pr_ 10 (some 40) (mkB 16 1599) HT_ ?_
     refine take_ (i := 6) (N := some 36) (v := ?_) (a' := ?_) (mkB 16 1663) rfl rfl (take_ofW HT_.out HW_.out (by kernel_rfl)) (fun _ _ _ h => h) (Or.inl ⟨by rfl, ?_⟩) hHeld ?_ ?_
     rotate_left
     ·rintro w' ⟨s0, s1, s2, s3⟩
      go_simp
      with_reducible rfl
     rotate_left
     ·simp only [Act.put, List.setIfInBounds_toArray, List.set_cons_zero, List.set_cons_succ, i64_w, i32_w]
      rfl
     refine pr_ 7 (some 37) (mkB 16 1791) HT_ ?_
     refine take_ (i := 8) (N := some 38) (v := ?_) (a' := ?_) (mkB 16 2047) rfl rfl (take_ofW HT_.out HW_.out (by kernel_rfl)) (fun _ _ _ h => h) (Or.inl ⟨by rfl, ?_⟩) hHeld ?_ ?_
     rotate_left
     ·rintro w' ⟨s0, s1, s2, s3⟩
      go_simp
      with_reducible rfl
     rotate_left
     ·simp only [Act.put, List.setIfInBounds_toArray, List.set_cons_zero, List.set_cons_succ, i64_w, i32_w]
      rfl
     refine take_ (i := 11) (N := some 41) (v := ?_) (a' := ?_) (mkB 16 4095) rfl rfl (take_ofW HT_.out HW_.out (by kernel_rfl)) (fun _ _ _ h => h) (Or.inl ⟨by rfl, ?_⟩) hHeld ?_ ?_
     rotate_left
     ·rintro w' ⟨s0, s1, s2, s3⟩
      go_simp
      with_reducible rfl
     rotate_left
     ·simp only [Act.put, List.setIfInBounds_toArray, List.set_cons_zero, List.set_cons_succ, i64_w, i32_w]
      rfl
     refine pr_ 12 (some 42) (mkB 16 8191) HT_ ?_
     refine take_ (i := 13) (N := some 43) (v := ?_) (a' := ?_) (mkB 16 16383) rfl rfl (take_ofW HT_.out HW_.out (by kernel_rfl)) (fun _ _ _ h => h) (Or.inl ⟨by rfl, ?_⟩) hHeld ?_ ?_
     rotate_left
     ·rintro w' ⟨s0, s1, s2, s3⟩
      go_simp
      with_reducible rfl
     rotate_left
     ·simp only [Act.put, List.setIfInBounds_toArray, List.set_cons_zero, List.set_cons_succ, i64_w, i32_w]
      rfl
     refine pr_ 14 (some 44) (mkB 16 32767) HT_ ?_; refine pr_ 15 (some 45) (mkB 16 65535) HT_ ?_
     refine done_ (done_of HT_.out (by kernel_rfl)) ?_
     try go_wp2
     (try (rw [drewN_self w32]; generalize hq_ : World.drewN w32 _ = w32; have n0_ : Aside0 (Kd.R Kd.bool 4 w32 w.heap.size (fun _ => True) (.slice (some ⟨go8, 0, none⟩) x7_2.length co8) x7_2) := ⟨by rw [← hq_]; exact (rU HO_7.out)⟩; have n1_ : Aside0 (w32.heap[gb101]? = some (.cells #[.int .i64 a0_0, .slice (some ad106) l0_1.length c0_1, .slice A0_2 l0_2.length c0_2] 25 (0, 0))) := ⟨by rw [← hq_]; exact (bkU BK101)⟩; have n2_ : Aside0 (w32.heap[gb107]? = some (.cells #[.int .i64 ((rd_T47 l0_1 x9_2).f0), .int .i64 ((rd_T47 l0_1 x9_2).f1)] 47 (0, 0))) := ⟨by rw [← hq_]; exact (bkU BK107)⟩; have n3_ : Aside0 (Below w.heap.size w w32) := ⟨by rw [← hq_]; exact (bW2 HB.out GE101.out GE107.out)⟩; clear HO_7 BK101 BK107 HB hq_; have HO_7 := n0_; have BK101 := n1_; have BK107 := n2_; have HB := n3_; clear n0_ n1_ n2_ n3_))
     replace HO_7 := A_ (Kd.R_drew HO_7.out); replace BK101 := A_ (blk_drew BK101.out); replace BK107 := A_ (blk_drew BK107.out); replace HB := A_ (below_drew1 HB.out); have p25 : 0 ≤ (((rd_T47 l0_1 x9_2).f0) : Int) := oD; have q25 : (((rd_T47 l0_1 x9_2).f0) : Int) < ((x7_2.length : Int) : Int) := oD; obtain ⟨hx25_0, hf25_0⟩ := Kd.R_celln false HO_7.out (((rd_T47 l0_1 x9_2).f0) : Int) p25 q25; replace p25 := eq_true p25; replace q25 := eq_true q25; have HP34 := Kd.R_putn HO_7.out (((rd_T47 l0_1 x9_2).f0) : Int) true; rw [← Ny111.out] at HP34; have HQ34 := A_ HP34; clear HP34; have p26 : 0 ≤ (((rd_T47 l0_1 x9_2).f1) : Int) := oD; have q26 : (((rd_T47 l0_1 x9_2).f1) : Int) < ((x7_2.length : Int) : Int) := oD; obtain ⟨hx26_0, hf26_0⟩ := Kd.R_celln false HQ34.out (((rd_T47 l0_1 x9_2).f1) : Int) p26 q26; replace p26 := eq_true p26; replace q26 := eq_true q26; have HP35 := Kd.R_putn HQ34.out (((rd_T47 l0_1 x9_2).f1) : Int) true; rw [← Ny112.out] at HP35; have HQ35 := A_ HP35; clear HP35
     refine start_ (n := 11) (S := fun w' => w'.cell? ⟨gb107, 0, none⟩ = some (.int .i64 ((rd_T47 l0_1 x9_2).f0)) ∧ w'.cell? ⟨gb107, 1, none⟩ = some (.int .i64 ((rd_T47 l0_1 x9_2).f1))) (ds := [9]) (mkB 11 0) (by kernel_rfl) rfl rfl ⟨(blk_cell BK107.out 0).trans rfl, (blk_cell BK107.out 1).trans rfl⟩ (fun hHeld => ?_); refine with_tabW dropperref05_from.tab11 dropperref05_from.bits11 (fun HT_ HW_ => ?_)
     generalize w32.drew = w33 at HO_7 BK101 BK107 HB HQ34 HQ35 hf25_0 hf26_0 hx25_0 hx26_0 hHeld ⊢; refine pr_ 0 (some 46) (mkB 11 1) HT_ ?_; refine pr_ 1 (some 47) (mkB 11 3) HT_ ?_; refine pr_ 3 (some 49) (mkB 11 11) HT_ ?_; refine pr_ 4 (some 50) (mkB 11 27) HT_ ?_
     refine take_ (i := 2) (N := some 48) (v := ?_) (a' := ?_) (mkB 11 31) rfl rfl (take_ofW HT_.out HW_.out (by kernel_rfl)) (fun _ _ _ h => h) (Or.inl ⟨by rfl, ?_⟩) hHeld ?_ ?_
     rotate_left
     ·rintro w' ⟨s0, s1⟩
      go_simp
      with_reducible rfl
     rotate_left
     ·simp only [Act.put, List.setIfInBounds_toArray, List.set_cons_zero, List.set_cons_succ, i64_w, i32_w]
      rfl
     refine pr_ 6 (some 52) (mkB 11 95) HT_ ?_
     refine take_ (i := 5) (N := some 51) (v := ?_) (a' := ?_) (mkB 11 127) rfl rfl (take_ofW HT_.out HW_.out (by kernel_rfl)) (fun _ _ _ h => h) (Or.inl ⟨by rfl, ?_⟩) hHeld ?_ ?_
     rotate_left
     ·rintro w' ⟨s0, s1⟩
      go_simp
      with_reducible rfl
     rotate_left
     ·simp only [Act.put, List.setIfInBounds_toArray, List.set_cons_zero, List.set_cons_succ, i64_w, i32_w]
      rfl
     refine one_ (i := 7) (N := none) (mkB 11 255) rfl rfl (one_of HT_.out (by kernel_rfl)) (by decide) (fun K hK => ?_)
     refine skip_ (w1 := ?_) (by rfl) rfl ?_ ?_
     rotate_left
     ·go_simp
      rfl
     refine hK.out _ _ ⟨(cell_far (by have h_ := Kd.R_ne HO_7.out BK107.out (by decide); intro e_; exact h_ ((congrArg some e_).trans rfl)) _).trans hHeld.1, (cell_far (by have h_ := Kd.R_ne HO_7.out BK107.out (by decide); intro e_; exact h_ ((congrArg some e_).trans rfl)) _).trans hHeld.2⟩ (fun hHeld => ?_)
     clear hK K; refine pr_ 8 (some 53) (mkB 11 511) HT_ ?_
     refine last_ (i := 9) (N := none) (mkB 11 1023) rfl rfl (one_of HT_.out (by kernel_rfl)) (by decide) (fun K hK => ?_)
     refine skip_ (w1 := ?_) (by rfl) rfl ?_ ?_
     rotate_left
     ·go_simp
      rfl
     refine hK.out _ _ ?_
     clear hK K; refine pr_ 10 (some 8) (mkB 11 2047) HT_ ?_
     refine done_ (done_of HT_.out (by kernel_rfl)) ?_
     try go_wp2
     (try simp only [← hl7_2])
     go_roundg k2
     case measure => have := HK1.out; have := HK2.out; omega
     case rel => exact ⟨(y112), (true), (wrap64 (x9_2 + 1)), eS, eS, H', ⟨by have := HK1.out; have := HK2.out; omega⟩, ⟨by (try simp only [hl7_1]); (try simp only [hl7_2]); (with_reducible repeat (first | apply Kd.R_alloc | apply Kd.R_drewN | apply Kd.R_drew)); exact HQ35.out⟩, ⟨by (try simp only [hl7_1]); (try simp only [hl7_2]); (with_reducible repeat (first | refine blk_drewN ?_ _ | refine blk_drew ?_ | refine blk_alloc ?_ _)); refine blk_far ?_ (by have h_ := Kd.R_ne HO_7.out BK101.out (by decide); intro e_; exact h_ (by rw [e_]; rfl)) _; (with_reducible repeat (first | refine blk_drewN ?_ _ | refine blk_drew ?_ | refine blk_alloc ?_ _)); refine blk_far ?_ (by have h_ := Kd.R_ne HO_7.out BK101.out (by decide); intro e_; exact h_ (by rw [e_]; rfl)) _; exact bkU BK101⟩, ⟨by repeat (first | (with_reducible first | exact HB.out | apply below_alloc | apply pw_below_drewN | apply below_drew1 | refine below_set ?_ GB8.out | refine below_set ?_ GB8.out | refine below_set ?_ GE101.out | refine below_set ?_ GE107.out) | exact HB.out)⟩⟩
end Go.Proofs.YtbbjonbnmoomlaaDoor.G
end
