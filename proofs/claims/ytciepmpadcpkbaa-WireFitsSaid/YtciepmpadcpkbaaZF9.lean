/- Functions of the seat and plain laws about them: GF69, Rat, PBase, PLaw, GF62, GF63, GF26, GF64, GF27, GF70, GF39. -/
import Derived.Test.YtciepmpadcpkbaaGBase
import Derived.Test.YtciepmpadcpkbaaZF3
import Derived.Test.YtciepmpadcpkbaaZF0
import Derived.Test.YtciepmpadcpkbaaZF4
import Derived.Test.YtciepmpadcpkbaaZF1
import Derived.Test.YtciepmpadcpkbaaZF2
import Derived.Test.YtciepmpadcpkbaaZF6
import Derived.Test.YtciepmpadcpkbaaZF5
section
namespace Go.Proofs.Ytciepmpadcpkbaa.G
open Go.RowKit Go.Proofs.YtciepmpadcpkbaaW.PrintWords Go.Proofs.YtciepmpadcpkbaaW.PrintLast Go.Proofs.YtciepmpadcpkbaaW.PrintMore
attribute [local go_sem] max2_int min2_int max_two min_two max_three min_three max_four min_four   -- for this text's walks alone
set_option linter.unusedVariables false
set_option linter.unusedSimpArgs false

/-! ### dropperref02_ratio: function 69 -/
def dropperref02_ratio.l0 : Nat → Int → Int → Int → Int → Option (Int × Int)
  | 0, _, _, _, _ => none
  | k + 1, x0, x1, x5, x6 => if x6 = 0 then (if x5 = 0 then (none) else (some (wrap64 (Int.tdiv x0 x5), wrap64 (Int.tdiv x1 x5)))) else (dropperref02_ratio.l0 k x0 x1 x6 (Int.tmod x5 x6))
def dropperref02_ratio.f (k : Nat) (a0 : Int) (a1 : Int) : Option (Int × Int) := dropperref02_ratio.l0 k a0 a1 (mx a0 (wrap64 (-a0))) a1
theorem dropperref02_ratio.mono_l : ∀ k, (∀ y0 y1 y2 y3, LeO (dropperref02_ratio.l0 k y0 y1 y2 y3) (dropperref02_ratio.l0 (k + 1) y0 y1 y2 y3))
  | 0 => fun _ _ _ _ r h => by simp [dropperref02_ratio.l0] at h
  | k + 1 => by
    have ih0 := dropperref02_ratio.mono_l k
    · intro y0 y1 y2 y3
      unfold dropperref02_ratio.l0
      repeat' first
      | (with_reducible exact ih0 _ _ _ _)
      | (with_reducible exact LeO.refl _)
      | (with_reducible exact LeO.none _)
      | (with_reducible refine LeO.ite ?_ ?_)
      | (with_reducible refine LeO.bind ?_ (fun _ => ?_))
      | exact ih0 _ _ _ _
      | exact LeO.none _
      | refine LeO.ite ?_ ?_
      | refine LeO.bind ?_ (fun _ => ?_)
theorem dropperref02_ratio.mono : ∀ a0 a1 k, LeO (dropperref02_ratio.f k a0 a1) (dropperref02_ratio.f (k + 1) a0 a1) := by
  intro a0 a1 k
  have ih0 := dropperref02_ratio.mono_l k
  unfold dropperref02_ratio.f
  repeat' first
      | (with_reducible exact ih0 _ _ _ _)
      | (with_reducible exact LeO.refl _)
      | (with_reducible exact LeO.none _)
      | (with_reducible refine LeO.ite ?_ ?_)
      | (with_reducible refine LeO.bind ?_ (fun _ => ?_))
      | exact ih0 _ _ _ _
      | exact LeO.none _
      | refine LeO.ite ?_ ?_
      | refine LeO.bind ?_ (fun _ => ?_)
def dropperref02_ratio.T4 : Bool × List (List Nat × List Nat) := (true, [([], []), ([], []), ([0, 1], [0, 1]), ([], []), ([], []), ([3, 4], [3, 4]), ([2, 5], [2, 5]), ([6, 0, 1, 2, 3, 4, 5, 6], [6])])
def dropperref02_ratio.B4 : List Nat := [0, 0, 3, 0, 0, 24, 63, 127]
theorem dropperref02_ratio.tab4 : rtab .any (opsOf Try.f69 4) = dropperref02_ratio.T4 := by kernel_rfl
theorem dropperref02_ratio.bits4 : waitsOk dropperref02_ratio.T4.2 dropperref02_ratio.B4 = true := by kernel_rfl
set_option maxHeartbeats 8000000 in
set_option maxRecDepth 100000 in
theorem dropperref02_ratio.calls (k : Nat) (a0 : Int) (a1 : Int) (r1 : Int) (r2 : Int) (w : World) (h : dropperref02_ratio.f k a0 a1 = some (r1, r2)) :
    Calls Try.prog 69 #[.int .i64 a0, .int .i64 a1] w fun e w' => e = .returned (.agg #[.int .i64 r1, .int .i64 r2]) ∧ Below w.heap.size w w' := by
  have hu55 := Try.underlying55
  have HB := Aside0.mk (Below.refl w.heap.size w)
  have H : (dropperref02_ratio.l0 k a0 a1 (mx a0 (wrap64 (-a0))) a1) = some (r1, r2) := h
  clear h
  obtain ⟨ji3, hji3⟩ : ∃ j_ : Int, (mx a0 (wrap64 (-a0))) = j_ := ⟨_, rfl⟩
  replace H : (dropperref02_ratio.l0 k a0 a1 ji3 a1) = some (r1, r2) := by first | (rw [hji3] at H; exact H) | (simp only [hji3] at H ⊢; exact H)
  have hji3_ : (if a0 < (wrap64 (-a0)) then (wrap64 (-a0)) else a0) = ji3 := hji3
  have H' := Aside0.mk H
  clear H
  go_enter Try.func69, Try.ntmps69
  go_wp2_with (first | ((with_reducible refine gate_dst (N := 4) rfl ?_); refine box_event ?hg (N := 4) ?hd (cs := #[.int .i64 0, .int .i64 0]) (t := 55) ?hr ?_; (case hd => rfl); (case hg => rfl); (case hr => first | (go_simp; done) | (go_simp; rfl)); intro gb101 hg w4 hbox hb; have n0_ := Aside0.mk (below_step (by repeat (first | (with_reducible first | exact HB.out | apply below_alloc | apply pw_below_drewN | apply below_drew1) | exact HB.out)) hb); have n1_ := Aside0.mk (hbox); have n2_ := Aside0.mk ((by rw [hg]; exact (below_size (by repeat (first | (with_reducible first | exact HB.out | apply below_alloc | apply pw_below_drewN | apply below_drew1) | exact HB.out))) : w.heap.size ≤ gb101)); have n3_ := Aside0.mk ((by rw [hg]; exact (below_size (by repeat (first | (with_reducible first | exact HB.out | apply below_alloc | apply pw_below_drewN | apply below_drew1) | exact HB.out))) : w.heap.size ≤ gb101)); clear HB; have HB := n0_; have BK101 := n1_; have GW101 := n2_; have GE101 := n3_; clear n0_ n1_ n2_ n3_; clear hb hbox hg))
  go_loopg [5, 6] k (fun kq v5 v6 w' => ∃ (x5_1 : Int) (x6_1 : Int), v5 = .int .i64 x5_1 ∧ v6 = .int .i64 x6_1 ∧ Aside0 (dropperref02_ratio.l0 kq a0 a1 x5_1 x6_1 = some (r1, r2)) ∧ Aside0 (kq ≤ k) ∧ Aside0 (w'.heap[gb101]? = some (.cells #[.int .i64 0, .int .i64 0] 55 (0, 0))) ∧ Aside0 (Below w.heap.size w w'))
  case atStart => exact ⟨(ji3), (a1), (by first | rfl | (simp; done) | (simp only [← hji3] <;> (first | rfl | simp)) | (simp [*]; done)), (by first | rfl | (simp; done) | (simp [*]; done)), H', ⟨Nat.le_refl _⟩, ⟨bkU BK101⟩, ⟨by repeat (first | (with_reducible first | exact HB.out | apply below_alloc | apply pw_below_drewN | apply below_drew1 | refine below_set ?_ GE101.out) | exact HB.out)⟩⟩
  case round =>
    clear H'
    try clear p2
    obtain ⟨x5_1, x6_1, rfl, rfl, HA, HK1, BK101, HB⟩ := hrel
    cases gk with
    | zero => exact absurd HA.out (by simp [dropperref02_ratio.l0])
    | succ k1 =>
      have H := HA.out
      clear HA
      simp only [dropperref02_ratio.l0] at H
      by_cases c5 : x6_1 = 0
      · rw [if_pos c5] at H
        have c5b0 : (x6_1 == 0) = true := beq_iff_eq.mpr c5
        have c5b1 : (x6_1 != 0) = false := bne_eq_false_iff_eq.mpr c5
        clear c5
        by_cases c6 : x5_1 = 0
        · rw [if_pos c6] at H
          exact absurd H (by simp)
        rw [if_neg c6] at H
        have c6b0 : (x5_1 == 0) = false := beq_eq_false_iff_ne.mpr c6
        have c6b1 : (x5_1 != 0) = true := bne_iff_ne.mpr c6
        simp only [Option.some.injEq, Prod.mk.injEq] at H
        obtain ⟨rfl, rfl⟩ := H
        try go_wp2
        have n0_ := Aside0.mk (blk_drew BK101.out)
        have n1_ := Aside0.mk (below_drew1 HB.out)
        clear BK101
        clear HB
        have BK101 := n0_
        have HB := n1_
        clear n0_ n1_
        refine start_ (n := 8) (S := fun w' => True) (ds := []) (mkB 8 0) (by kernel_rfl) rfl rfl trivial (fun hHeld => ?_); refine with_tabW dropperref02_ratio.tab4 dropperref02_ratio.bits4 (fun HT_ HW_ => ?_)
        generalize wr.drew = w7 at BK101 HB hHeld ⊢
        refine pr_ 0 (some 18) (mkB 8 1) HT_ ?_
        refine pr_ 1 (some 19) (mkB 8 3) HT_ ?_
        refine pr_ 2 (some 20) (mkB 8 7) HT_ ?_
        refine pr_ 3 (some 21) (mkB 8 15) HT_ ?_
        refine pr_ 4 (some 22) (mkB 8 31) HT_ ?_
        refine pr_ 5 (some 23) (mkB 8 63) HT_ ?_
        refine pr_ 6 (some 24) (mkB 8 127) HT_ ?_
        refine one_ (i := 7) (N := none) (mkB 8 255) rfl rfl (one_of HT_.out (by kernel_rfl)) (by decide) (fun K hK => ?_)
        have hs8 : w7.cell? ⟨gb101, 0, none⟩ = some (.int .i64 0) := (blk_cell BK101.out 0).trans rfl
        have hfs8 := blk_frozen BK101.out 0
        have hs9 : w7.cell? ⟨gb101, 1, none⟩ = some (.int .i64 0) := (blk_cell BK101.out 1).trans rfl
        have hfs9 := blk_frozen BK101.out 1
        refine skip_ (w1 := ?_) (by rfl) rfl ?_ ?_
        rotate_left
        · go_simp
          rfl
        refine hK.out _ _ trivial (fun hHeld => ?_)
        clear hK K
        refine done_ (done_of HT_.out (by kernel_rfl)) ?_
        try go_wp2
        refine bodyPost_ret (results_cell_row rfl _ _ gb101 55 #[.int .i64 (wrap64 (Int.tdiv a0 x5_1)), .int .i64 (wrap64 (Int.tdiv a1 x5_1))] (0, 0) _ rfl (by (with_reducible repeat (first | refine blk_drewN ?_ _ | refine blk_drew ?_ | refine blk_alloc ?_ _)); refine blk_put (cs := #[.int .i64 (wrap64 (Int.tdiv a0 x5_1)), .int .i64 0]) ?_ 1 _ rfl; (with_reducible repeat (first | refine blk_drewN ?_ _ | refine blk_drew ?_ | refine blk_alloc ?_ _)); refine blk_put (cs := #[.int .i64 0, .int .i64 0]) ?_ 0 _ rfl; (with_reducible repeat (first | refine blk_drewN ?_ _ | refine blk_drew ?_ | refine blk_alloc ?_ _)); exact BK101.out) Try.underlying55 rfl (by kernel_rfl)) rfl ?_
        exact ⟨by first | rfl | (simp [errW_none, errW_some] <;> rfl) | (simp only [← hji3]; first | rfl | (simp [errW_none, errW_some] <;> rfl)) | (simp [*, errW_none, errW_some] <;> rfl), by repeat (first | (with_reducible first | exact HB.out | apply below_alloc | apply pw_below_drewN | apply below_drew1 | refine below_set ?_ GE101.out) | exact HB.out)⟩
      rw [if_neg c5] at H
      have c5b0 : (x6_1 == 0) = false := beq_eq_false_iff_ne.mpr c5
      have c5b1 : (x6_1 != 0) = true := bne_iff_ne.mpr c5
      have H' := Aside0.mk H
      clear H
      try go_wp2
      have n0_ := Aside0.mk (blk_drew BK101.out)
      have n1_ := Aside0.mk (below_drew1 HB.out)
      clear BK101
      clear HB
      have BK101 := n0_
      have HB := n1_
      clear n0_ n1_
      refine start_ (n := 6) (S := fun w' => True) (ds := []) (mkB 6 0) (by kernel_rfl) rfl rfl trivial (fun hHeld => ?_)
      generalize wr.drew = w10 at BK101 HB hHeld ⊢
      refine pure_ (i := 0) (N := some 14) (v := ?_) (a' := ?_) (mkB 6 1) rfl rfl (by kernel_rfl) (fun _ _ _ h => h) (Or.inl ⟨by rfl, ?_⟩) ?_ ?_
      rotate_left
      · intro w'
        go_simp
        with_reducible rfl
      rotate_left
      · simp only [Act.put, List.setIfInBounds_toArray, List.set_cons_zero, List.set_cons_succ, i64_w, i32_w]
        rfl
      refine pure_ (i := 1) (N := some 15) (v := ?_) (a' := ?_) (mkB 6 3) rfl rfl (by kernel_rfl) (fun _ _ _ h => h) (Or.inl ⟨by rfl, ?_⟩) ?_ ?_
      rotate_left
      · intro w'
        go_simp
        with_reducible rfl
      rotate_left
      · simp only [Act.put, List.setIfInBounds_toArray, List.set_cons_zero, List.set_cons_succ, i64_w, i32_w]
        rfl
      refine pure_ (i := 2) (N := some 16) (v := ?_) (a' := ?_) (mkB 6 7) rfl rfl (by kernel_rfl) (fun _ _ _ h => h) (Or.inl ⟨by rfl, ?_⟩) ?_ ?_
      rotate_left
      · intro w'
        go_simp
        with_reducible rfl
      rotate_left
      · simp only [Act.put, List.setIfInBounds_toArray, List.set_cons_zero, List.set_cons_succ, i64_w, i32_w]
        rfl
      refine pure_ (i := 3) (N := some 17) (v := ?_) (a' := ?_) (mkB 6 15) rfl rfl (by kernel_rfl) (fun _ _ _ h => h) (Or.inl ⟨by rfl, ?_⟩) ?_ ?_
      rotate_left
      · intro w'
        go_simp
        with_reducible rfl
      rotate_left
      · simp only [Act.put, List.setIfInBounds_toArray, List.set_cons_zero, List.set_cons_succ, i64_w, i32_w]
        rfl
      refine pure_ (i := 4) (N := some 5) (v := ?_) (a' := ?_) (mkB 6 31) rfl rfl (by kernel_rfl) (fun _ _ _ h => h) (Or.inl ⟨by rfl, ?_⟩) ?_ ?_
      rotate_left
      · intro w'
        go_simp
        with_reducible rfl
      rotate_left
      · simp only [Act.put, List.setIfInBounds_toArray, List.set_cons_zero, List.set_cons_succ, i64_w, i32_w]
        rfl
      refine pure_ (i := 5) (N := some 6) (v := ?_) (a' := ?_) (mkB 6 63) rfl rfl (by kernel_rfl) (fun _ _ _ h => h) (Or.inl ⟨by rfl, ?_⟩) ?_ ?_
      rotate_left
      · intro w'
        go_simp
        with_reducible rfl
      rotate_left
      · simp only [Act.put, List.setIfInBounds_toArray, List.set_cons_zero, List.set_cons_succ, i64_w, i32_w]
        rfl
      refine done_ (by kernel_rfl) ?_
      try go_wp2
      go_roundg k1
      case measure => have := HK1.out; omega
      case rel => exact ⟨(x6_1), (Int.tmod x5_1 x6_1), (by first | rfl | (simp; done) | (simp [*]; done)), (by first | rfl | (simp; done) | (simp [*]; done)), H', ⟨by have := HK1.out; omega⟩, ⟨bkU BK101⟩, ⟨by repeat (first | (with_reducible first | exact HB.out | apply below_alloc | apply pw_below_drewN | apply below_drew1 | refine below_set ?_ GE101.out) | exact HB.out)⟩⟩

end Go.Proofs.Ytciepmpadcpkbaa.G
end
section
namespace Go.Proofs.Ytciepmpadcpkbaa.G
open Go.RowKit Go.Proofs.YtciepmpadcpkbaaW.PrintWords Go.Proofs.YtciepmpadcpkbaaW.PrintLast
open Rat (divInt)

theorem w64 {n : Int} (h : -9223372036854775808 ≤ n) (h2 : n ≤ 9223372036854775807) : wrap64 n = n := by unfold wrap64; omega

theorem lowest_loop (x0 x1 : Int) : ∀ (k : Nat) (a b : Int), 0 ≤ a → 0 ≤ b → (a ≠ 0 ∨ b ≠ 0) → b < k →
    wire_lowestTerms.l0 k x0 x1 a b = some (wrap64 (x0.tdiv (Int.gcd a b)), wrap64 (x1.tdiv (Int.gcd a b)))
  | 0, a, b, ha, hb, h, hk => by omega
  | k + 1, a, b, ha, hb, h, hk => by
    simp only [wire_lowestTerms.l0]
    by_cases e : b = 0
    · subst e
      have ha' : a ≠ 0 := by omega
      rw [if_pos rfl, if_neg ha']
      simp [Int.natAbs_of_nonneg ha]
    · rw [if_neg e]
      have hm : 0 ≤ a.tmod b := Int.tmod_nonneg _ ha
      have hl : a.tmod b < b := Int.tmod_lt_of_pos _ (by omega)
      rw [lowest_loop x0 x1 k b (a.tmod b) hb hm (Or.inl e) (by omega)]
      have hg : Int.gcd b (a.tmod b) = Int.gcd a b := by
        rw [Int.tmod_eq_emod_of_nonneg ha]
        obtain ⟨m, rfl⟩ := Int.eq_ofNat_of_zero_le ha
        obtain ⟨j, rfl⟩ := Int.eq_ofNat_of_zero_le hb
        show Nat.gcd j (m % j) = Nat.gcd m j
        rw [Nat.gcd_comm j, ← Nat.gcd_rec, Nat.gcd_comm]
      rw [hg]

/-- 'lowest' tells the fraction n / d as Lean's Rat does. -/
theorem lowest_ev (n d : Int) (hn : -4611686018427387904 ≤ n) (hn2 : n ≤ 4611686018427387904) (hd : 0 < d) (hd2 : d ≤ 4611686018427387904) :
    Ev (fun k => wire_lowestTerms.f k n d) ((divInt n d).num, ((divInt n d).den : Int)) := by
  refine ⟨d.toNat + 1, fun k hk => ?_⟩
  have hmx : mx n (wrap64 (-n)) = (n.natAbs : Int) := by
    rw [w64 (by omega) (by omega)]; unfold mx; omega
  show wire_lowestTerms.f k n d = _
  unfold wire_lowestTerms.f
  rw [hmx, lowest_loop n d k _ d (by omega) (by omega) (by omega) (by omega)]
  have hg : Int.gcd (n.natAbs : Int) d = Int.gcd d n := by
    rw [Int.gcd_comm]; simp [Int.gcd]
  rw [hg]
  have hg0 : 0 < Int.gcd d n := Int.gcd_pos_of_ne_zero_left _ (by omega)
  have d1 : ((Int.gcd d n : Nat) : Int) ∣ n := Int.gcd_dvd_right ..
  have d2 : ((Int.gcd d n : Nat) : Int) ∣ d := Int.gcd_dvd_left ..
  have e1 : n.tdiv (Int.gcd d n) = n / (Int.gcd d n : Int) := Int.tdiv_eq_ediv_of_dvd d1
  have e2 : d.tdiv (Int.gcd d n) = d / (Int.gcd d n : Int) := Int.tdiv_eq_ediv_of_dvd d2
  rw [e1, e2, Rat.num_divInt, Rat.den_divInt, if_neg (by omega), Int.sign_eq_one_of_pos hd, Int.one_mul]
  have b1 : -4611686018427387904 ≤ n / (Int.gcd d n : Int) ∧ n / (Int.gcd d n : Int) ≤ 4611686018427387904 := by
    have hg1 : (1 : Int) ≤ (Int.gcd d n : Int) := by omega
    clear hg0 e1 e2 d2 hg hmx
    generalize (Int.gcd d n : Int) = g at *
    obtain ⟨q, rfl⟩ := d1
    rw [Int.mul_ediv_cancel_left _ (by omega)]
    constructor
    · by_cases hq : 0 ≤ q
      · omega
      · have : g * q ≤ 1 * q := Int.mul_le_mul_of_nonpos_right hg1 (by omega)
        omega
    · by_cases hq : 0 ≤ q
      · have : 1 * q ≤ g * q := Int.mul_le_mul_of_nonneg_right hg1 hq
        omega
      · omega
  have b2 : 0 ≤ d / (Int.gcd d n : Int) ∧ d / (Int.gcd d n : Int) ≤ 4611686018427387904 := ⟨Int.ediv_nonneg (by omega) (by omega), by
    have := Int.ediv_le_self (b := (Int.gcd d n : Int)) (a := d) (by omega)
    omega⟩
  rw [w64 (by omega) (by omega), w64 (by omega) (by omega)]
  have e3 : d / (Int.gcd d n : Int) = ((d.natAbs / Int.gcd d n : Nat) : Int) := by
    rw [Int.natCast_ediv, Int.natAbs_of_nonneg (by omega)]
  rw [e3]

theorem ratio_num_le {n d : Int} (hd : 0 < d) : (divInt n d).num.natAbs ≤ n.natAbs ∧ (divInt n d).den ≤ d.natAbs := by
  rw [Rat.num_divInt, Rat.den_divInt, if_neg (by omega), Int.sign_eq_one_of_pos hd, Int.one_mul]
  refine ⟨?_, Nat.div_le_self _ _⟩
  have d1 : ((Int.gcd d n : Nat) : Int) ∣ n := Int.gcd_dvd_right ..
  have hg0 : 0 < Int.gcd d n := Int.gcd_pos_of_ne_zero_left _ (by omega)
  generalize Int.gcd d n = g at *
  obtain ⟨q, rfl⟩ := d1
  rw [Int.mul_ediv_cancel_left _ (by omega), Int.natAbs_mul]
  have : 1 * q.natAbs ≤ g * q.natAbs := Nat.mul_le_mul_right _ (by omega)
  simp only [Int.natAbs_natCast]
  omega

theorem within_some (a b c : Int) : wire_within.f a b c = some (decide (a ≤ b ∧ b ≤ c)) := by
  unfold wire_within.f
  by_cases h : a ≤ b <;> simp [h]
theorem from_some (a b c : Int) : dropperref02_from.f a b c = some (decide (a ≤ b ∧ b ≤ c)) := by
  unfold dropperref02_from.f
  by_cases h : a ≤ b <;> simp [h]
theorem ratio_same_l (x0 x1 : Int) : ∀ (k : Nat) (a b : Int), dropperref02_ratio.l0 k x0 x1 a b = wire_lowestTerms.l0 k x0 x1 a b
  | 0, _, _ => rfl
  | k + 1, a, b => by rw [dropperref02_ratio.l0, wire_lowestTerms.l0, ratio_same_l x0 x1 k]
/-- The document's ratio is the program's. -/
theorem ratio_same (k : Nat) (n d : Int) : dropperref02_ratio.f k n d = wire_lowestTerms.f k n d := by
  unfold dropperref02_ratio.f wire_lowestTerms.f
  rw [ratio_same_l]
theorem ev_some {α : Type} (r : α) {g : Nat → Option α} (h : ∀ k, g (k + 1) = some r) : Ev g r := Ev.step (f := fun _ => some r) h (Ev.now r)
theorem mul_bd {a b : Int} {A B : Nat} (ha : a.natAbs ≤ A) (hb : b.natAbs ≤ B) : (a * b).natAbs ≤ A * B := by
  rw [Int.natAbs_mul]; exact Nat.mul_le_mul ha hb
end Go.Proofs.Ytciepmpadcpkbaa.G
end
section
namespace Go.Proofs.Ytciepmpadcpkbaa.G
set_option linter.unusedVariables false
set_option linter.unusedSimpArgs false
open Go.RowKit Go.Proofs.YtciepmpadcpkbaaW.PrintWords Go.Proofs.YtciepmpadcpkbaaW.PrintLast

/-- The window at i. -/
abbrev wn (l : List S72) (i : Nat) : S72 := rd_T72 l (i : Int)
theorem wsucc (i : Nat) (h : i < 9223372036854775807) : wrap64 ((i : Int) + 1) = ((i + 1 : Nat) : Int) := by rw [w64 (by omega) (by omega)]; rfl
theorem wpred (i : Nat) (h : i < 9223372036854775807) : wrap64 (((i + 1 : Nat) : Int) - 1) = (i : Int) := by rw [w64 (by omega) (by omega)]; omega
theorem mx_eq (a b : Int) : mx a b = max a b := by unfold mx; split <;> omega
theorem mn_eq (a b : Int) : mn a b = min a b := by unfold mn; split <;> omega

/-- The window at i is as described. -/
def good (l : List S72) (i : Nat) : Prop := (0 ≤ (wn l i).f0 ∧ (wn l i).f0 ≤ 100000) ∧ (i = 0 ∨ (wn l (i - 1)).f0 < (wn l i).f0) ∧ (-10000 ≤ (wn l i).f1 ∧ (wn l i).f1 ≤ (wn l i).f2 ∧ (wn l i).f2 ≤ 10000)
/-- All windows are as described. -/
def okV (l : List S72) : Prop := (1 ≤ l.length ∧ l.length ≤ 30) ∧ ∀ i, i < l.length → good l i

open Classical in
theorem wire_valid_loop (l : List S72) (hl : l.length ≤ 9223372036854775807) : ∀ (d i : Nat), l.length - i = d → i ≤ l.length → (∀ j, j < i → good l j) →
    Ev (fun k => wire_Valid.l0 k l l l.length i) (decide (okV l)) := by
  intro d
  induction d with
  | zero =>
    intro i hd hi hg
    have e : i = l.length := by omega
    subst e
    refine ev_some _ fun k => ?_
    rw [wire_Valid.l0, if_neg (by omega), within_some]
    simp only [Option.bind_some]
    congr 1
    refine decide_eq_decide.2 ⟨fun h => ⟨by omega, hg⟩, fun h => ?_⟩
    have := h.1
    omega
  | succ d ih =>
    intro i hd hi hg
    have hlt : i < l.length := by omega
    by_cases c : good l i
    · have e := ih (i + 1) (by omega) (by omega) (fun j hj => if h : j = i then h ▸ c else hg j (by omega))
      refine Ev.step (fun k => ?_) e
      obtain ⟨c1, c2, c3, c4, c5⟩ := c
      have n1 : ¬ (wn l i).f2 > 10000 := by omega
      have n2 : -10000 ≤ (wn l i).f1 ∧ (wn l i).f1 ≤ (wn l i).f2 := ⟨c3, c4⟩
      rw [wire_Valid.l0, if_pos (by omega), if_pos (by omega), if_pos (by omega), within_some, decide_eq_true c1, within_some, decide_eq_true n2, wsucc i (by omega)]
      simp only [Option.bind_some, if_true, if_neg n1]
      cases i with
      | zero => rw [if_neg (by omega)]
      | succ j =>
        rw [wpred j (by omega), if_pos (by omega), if_pos (by omega), if_pos (by omega), if_neg]
        rcases c2 with h | h
        · omega
        · exact Int.not_le.2 h
    · rw [decide_eq_false (fun h => c (h.2 i hlt))]
      refine ev_some _ fun k => ?_
      rw [wire_Valid.l0, if_pos (by omega), if_pos (by omega), if_pos (by omega), within_some, within_some]
      by_cases a1 : 0 ≤ (wn l i).f0 ∧ (wn l i).f0 ≤ 100000
      · rw [decide_eq_true a1]
        simp only [Option.bind_some, if_true]
        have key : ∀ (z : Option Bool), ((i = 0 ∨ (wn l (i - 1)).f0 < (wn l i).f0) → ((if decide (-10000 ≤ (wn l i).f1 ∧ (wn l i).f1 ≤ (wn l i).f2) = true then if (wn l i).f2 > 10000 then some false else z else some false) = some false)) := by
          intro z h
          by_cases a2 : -10000 ≤ (wn l i).f1 ∧ (wn l i).f1 ≤ (wn l i).f2
          · rw [decide_eq_true a2, if_pos rfl, if_pos]
            by_cases a3 : (wn l i).f2 > 10000
            · exact a3
            · exact absurd ⟨a1, h, a2.1, a2.2, by omega⟩ c
          · rw [decide_eq_false a2, if_neg (by decide)]
        cases i with
        | zero =>
          rw [if_neg (by omega)]
          exact key _ (.inl rfl)
        | succ j =>
          rw [wpred j (by omega), if_pos (by omega), if_pos (by omega), if_pos (by omega)]
          by_cases a4 : (wn l (j + 1)).f0 ≤ (wn l j).f0
          · rw [if_pos a4]
          · rw [if_neg a4]
            exact key _ (.inr (by simpa using a4))
      · rw [decide_eq_false a1]
        simp

open Classical in
theorem wire_valid_ev (l : List S72) (hl : l.length ≤ 9223372036854775807) : Ev (fun k => wire_Valid.f k l) (decide (okV l)) := wire_valid_loop l hl l.length 0 (by omega) (by omega) (by omega)

open Classical in
theorem ref_valid_loop (l : List S72) (hl : l.length ≤ 9223372036854775807) : ∀ (d i : Nat), l.length - i = d → i ≤ l.length → (∀ j, j < i → good l j) →
    Ev (fun k => dropperref02_Valid.l0 k l i) (decide (okV l)) := by
  intro d
  induction d with
  | zero =>
    intro i hd hi hg
    have e : i = l.length := by omega
    subst e
    refine ev_some _ fun k => ?_
    rw [dropperref02_Valid.l0, if_neg (by omega), from_some]
    simp only [Option.bind_some]
    congr 1
    refine decide_eq_decide.2 ⟨fun h => ⟨by omega, hg⟩, fun h => ?_⟩
    have := h.1
    omega
  | succ d ih =>
    intro i hd hi hg
    have hlt : i < l.length := by omega
    by_cases c : good l i
    · have e := ih (i + 1) (by omega) (by omega) (fun j hj => if h : j = i then h ▸ c else hg j (by omega))
      refine Ev.step (fun k => ?_) e
      obtain ⟨c1, c2, c3, c4, c5⟩ := c
      have n1 : -10000 ≤ (wn l i).f1 ∧ (wn l i).f1 ≤ 10000 := by omega
      have n2 : (wn l i).f1 ≤ (wn l i).f2 ∧ (wn l i).f2 ≤ 10000 := ⟨c4, c5⟩
      rw [dropperref02_Valid.l0, if_pos (by omega), if_pos (by omega), from_some, decide_eq_true c1, from_some, decide_eq_true n1, from_some, decide_eq_true n2, wsucc i (by omega)]
      simp only [Option.bind_some, if_true]
      cases i with
      | zero => rw [if_neg (by omega)]
      | succ j =>
        rw [wpred j (by omega), if_pos (by omega), if_pos (by omega), if_pos (by omega), if_neg]
        rcases c2 with h | h
        · omega
        · exact Int.not_le.2 h
    · rw [decide_eq_false (fun h => c (h.2 i hlt))]
      refine ev_some _ fun k => ?_
      rw [dropperref02_Valid.l0, if_pos (by omega), if_pos (by omega), from_some, from_some, from_some]
      by_cases a1 : 0 ≤ (wn l i).f0 ∧ (wn l i).f0 ≤ 100000
      · rw [decide_eq_true a1]
        simp only [Option.bind_some, if_true]
        by_cases a2 : -10000 ≤ (wn l i).f1 ∧ (wn l i).f1 ≤ 10000
        · rw [decide_eq_true a2]
          simp only [if_true]
          by_cases a3 : (wn l i).f1 ≤ (wn l i).f2 ∧ (wn l i).f2 ≤ 10000
          · rw [decide_eq_true a3]
            simp only [if_true]
            cases i with
            | zero => exact absurd ⟨a1, .inl rfl, a2.1, a3.1, a3.2⟩ c
            | succ j =>
              rw [wpred j (by omega), if_pos (by omega), if_pos (by omega), if_pos (by omega), if_pos]
              by_cases a4 : (wn l (j + 1)).f0 ≤ (wn l j).f0
              · exact a4
              · exact absurd ⟨a1, .inr (by simpa using a4), a2.1, a3.1, a3.2⟩ c
          · rw [decide_eq_false a3]; simp
        · rw [decide_eq_false a2]; simp
      · rw [decide_eq_false a1]; simp

open Classical in
theorem ref_valid_ev (l : List S72) (hl : l.length ≤ 9223372036854775807) : Ev (fun k => dropperref02_Valid.f k l) (decide (okV l)) := ref_valid_loop l hl l.length 0 (by omega) (by omega) (by omega)

/-- A slope. -/
def slope (r n : Int) : Prop := 0 ≤ r ∧ r ≤ 1000 ∧ 1 ≤ n ∧ n ≤ 1000
instance (r n : Int) : Decidable (slope r n) := by unfold slope; infer_instance
/-- The step from i to the next window. -/
def stp (l : List S72) (r n : Int) (i : Nat) : Int := (r * ((wn l (i + 1)).f0 - (wn l i).f0)) / n
/-- The steps up to i. -/
def pre (l : List S72) (r n : Int) : Nat → Int
  | 0 => 0
  | i + 1 => pre l r n i + stp l r n i
/-- The steps between two windows. -/
def dst (l : List S72) (r n : Int) (i k : Nat) : Int := max (pre l r n i - pre l r n k) (pre l r n k - pre l r n i)

theorem okV.at_lt {l : List S72} (h : okV l) {i : Nat} (hi : i + 1 < l.length) : 0 ≤ (wn l i).f0 ∧ (wn l i).f0 < (wn l (i + 1)).f0 ∧ (wn l (i + 1)).f0 ≤ 100000 := by
  have h1 := h.2 i (by omega)
  have h2 := h.2 (i + 1) hi
  unfold good at h1 h2
  rw [Nat.add_sub_cancel] at h2
  omega
theorem stp_bd {l : List S72} (h : okV l) {r n : Int} (hs : slope r n) {i : Nat} (hi : i + 1 < l.length) : 0 ≤ stp l r n i ∧ stp l r n i ≤ 100000000 ∧ wrap64 (Int.tdiv (wrap64 (r * (wrap64 ((wn l (i + 1)).f0 - (wn l i).f0)))) n) = stp l r n i := by
  obtain ⟨h1, h2, h3⟩ := h.at_lt hi
  obtain ⟨s1, s2, s3, s4⟩ := hs
  unfold stp
  generalize (wn l (i + 1)).f0 = b at *
  generalize (wn l i).f0 = a at *
  rw [w64 (n := b - a) (by omega) (by omega)]
  have m := mul_bd (a := r) (b := b - a) (A := 1000) (B := 100000) (by omega) (by omega)
  have p : 0 ≤ r * (b - a) := Int.mul_nonneg s1 (by omega)
  rw [w64 (n := r * (b - a)) (by omega) (by omega), Int.tdiv_eq_ediv_of_nonneg p]
  have q1 : 0 ≤ r * (b - a) / n := Int.ediv_nonneg p (by omega)
  have q2 : r * (b - a) / n ≤ r * (b - a) := Int.ediv_le_self _ p
  refine ⟨q1, by omega, w64 (by omega) (by omega)⟩
theorem pre_bd {l : List S72} (h : okV l) {r n : Int} (hs : slope r n) : ∀ {i : Nat}, i < l.length → 0 ≤ pre l r n i ∧ pre l r n i ≤ 100000000 * i
  | 0, _ => by unfold pre; omega
  | i + 1, hi => by
    have := pre_bd h hs (i := i) (by omega)
    have := stp_bd h hs hi
    rw [pre]
    omega
theorem pre_bd' {l : List S72} (h : okV l) {r n : Int} (hs : slope r n) {i : Nat} (hi : i < l.length) : 0 ≤ pre l r n i ∧ pre l r n i ≤ 3000000000 := by
  have := pre_bd h hs hi
  have := h.1.2
  omega
theorem pre_mono {l : List S72} (h : okV l) {r n : Int} (hs : slope r n) {i : Nat} : ∀ {k : Nat}, i ≤ k → k < l.length → pre l r n i ≤ pre l r n k
  | 0, hik, _ => by
    obtain rfl : i = 0 := by omega
    omega
  | k + 1, hik, hk => by
    by_cases e : i = k + 1
    · subst e; omega
    · have := pre_mono h hs (i := i) (k := k) (by omega) (by omega)
      have := stp_bd h hs hk
      rw [pre]
      omega
theorem dst_self (l : List S72) (r n : Int) (i : Nat) : dst l r n i i = 0 := by unfold dst; omega
theorem dst_comm (l : List S72) (r n : Int) (i k : Nat) : dst l r n i k = dst l r n k i := by unfold dst; omega
theorem dst_le {l : List S72} (h : okV l) {r n : Int} (hs : slope r n) {i k : Nat} (hik : i ≤ k) (hk : k < l.length) : dst l r n i k = pre l r n k - pre l r n i := by
  have := pre_mono h hs hik hk
  unfold dst; omega
theorem dst_bd {l : List S72} (h : okV l) {r n : Int} (hs : slope r n) {i k : Nat} (hi : i < l.length) (hk : k < l.length) : 0 ≤ dst l r n i k ∧ dst l r n i k ≤ 3000000000 := by
  have := pre_bd' h hs hi
  have := pre_bd' h hs hk
  unfold dst; omega

/-- The places of windows. -/
def plc (l : List S72) (r n : Int) : List Int := (List.range l.length).map (pre l r n)
theorem plc_len (l : List S72) (r n : Int) : (plc l r n).length = l.length := by simp [plc]
theorem rd_map (f : Nat → Int) {m i : Nat} (h : i < m) : rd ((List.range m).map f) (i : Int) = f i := by
  simp [rd, List.getD_eq_getElem?_getD, h]
theorem rd_plc (l : List S72) (r n : Int) {i : Nat} (h : i < l.length) : rd (plc l r n) (i : Int) = pre l r n i := rd_map _ h
theorem rd_set (x : List Int) {i j : Nat} (v : Int) (hi : i < x.length) (hj : j < x.length) : rd (x.set i v) (j : Int) = if j = i then v else rd x (j : Int) := by
  simp only [rd, List.getD_eq_getElem?_getD, Int.toNat_natCast, List.getElem?_set]
  by_cases e : i = j
  · subst e; simp [hi]
  · rw [if_neg e, if_neg (fun h => e h.symm)]
theorem rd_ext {x : List Int} {m : Nat} {f : Nat → Int} (hl : x.length = m) (h : ∀ i, i < m → rd x (i : Int) = f i) : x = (List.range m).map f := by
  refine List.ext_getElem (by simp [hl]) fun i h1 h2 => ?_
  have := h i (by omega)
  simp only [rd, List.getD_eq_getElem?_getD, Int.toNat_natCast, List.getElem?_eq_getElem h1, Option.getD_some] at this
  simp [this]

theorem to_some {l : List S72} (h : okV l) {r n : Int} (hs : slope r n) {i k : Nat} (hi : i < l.length) (hk : k < l.length) : wire_places_to.f (plc l r n) i k = some (dst l r n i k) := by
  have b1 := pre_bd' h hs hi
  have b2 := pre_bd' h hs hk
  unfold wire_places_to.f
  rw [plc_len, if_pos (by omega), if_pos (by omega), if_pos (by omega), if_pos (by omega), rd_plc l r n hi, rd_plc l r n hk, w64 (by omega) (by omega), w64 (by omega) (by omega), mx_eq]
  rfl

theorem placed_loop {l : List S72} (h : okV l) {r n : Int} (hs : slope r n) : ∀ (d i : Nat) (x : List Int), l.length - i = d → 1 ≤ i → i ≤ l.length → x.length = l.length → (∀ j, j < i → rd x (j : Int) = pre l r n j) →
    Ev (fun k => wire_placed.l0 k l r n x i) (plc l r n) := by
  intro d
  induction d with
  | zero =>
    intro i x hd h1 hi hx hj
    obtain rfl : i = l.length := by omega
    refine ev_some _ fun k => ?_
    rw [wire_placed.l0, if_neg (by omega)]
    congr 1
    exact rd_ext hx hj
  | succ d ih =>
    intro i x hd h1 hi hx hj
    obtain ⟨j, rfl⟩ : ∃ j, i = j + 1 := ⟨i - 1, by omega⟩
    have hlt : j + 1 < l.length := by omega
    have hl30 := h.1.2
    have b1 := pre_bd' h hs (i := j) (by omega)
    obtain ⟨b2, b3, b4⟩ := stp_bd h hs hlt
    have e := ih (j + 1 + 1) (x.set (j + 1) (pre l r n (j + 1))) (by omega) (by omega) (by omega) (by rw [List.length_set]; exact hx) (fun m hm => by
      rw [rd_set x _ (by omega) (by omega)]
      by_cases q : m = j + 1
      · rw [if_pos q, q]
      · rw [if_neg q]; exact hj m (by omega))
    refine Ev.step (fun k => ?_) e
    rw [wire_placed.l0, wpred j (by omega), if_pos (by omega), if_pos (by omega), if_pos (by omega), if_pos (by omega), if_pos (by omega), if_neg (by have := hs.2.2.1; omega), if_pos (by omega), hj j (by omega), b4, w64 (n := pre l r n j + stp l r n j) (by omega) (by omega), wsucc (j + 1) (by omega)]
    rfl
theorem placed_ev {l : List S72} (h : okV l) {r n : Int} (hs : slope r n) : Ev (fun k => wire_placed.f k l r n) (plc l r n) := by
  have hl := h.1
  refine Ev.congr (fun k => ?_) (placed_loop h hs (l.length - 1) 1 (List.replicate l.length 0) (by omega) (by omega) (by omega) (by simp) (fun j hj => by
    obtain rfl : j = 0 := by omega
    simp only [rd, pre, List.getD_eq_getElem?_getD, Int.natCast_zero, Int.toNat_zero, List.getElem?_replicate]
    split <;> rfl))
  unfold wire_placed.f
  rw [if_pos (by omega), if_pos (by omega)]
  rfl

theorem steps_loop {l : List S72} (h : okV l) {r n : Int} (hs : slope r n) {a b m : Nat} (hab : a ≤ b) (hb : b < l.length) (i k : Int) (hik : mx i k = b) : ∀ (d j : Nat), b - j = d → a ≤ j → j ≤ b →
    Ev (fun f => dropperref02_steps.l0 f l r n i k (pre l r n j - pre l r n a) j) (pre l r n b - pre l r n a) := by
  intro d
  induction d with
  | zero =>
    intro j hd hj hjb
    obtain rfl : j = b := by omega
    refine ev_some _ fun f => ?_
    rw [dropperref02_steps.l0, hik, if_neg (by omega)]
  | succ d ih =>
    intro j hd hj hjb
    have hl30 := h.1.2
    have b1 := pre_bd' h hs (i := j) (by omega)
    have b5 := pre_bd' h hs (i := a) (by omega)
    obtain ⟨b2, b3, b4⟩ := stp_bd h hs (i := j) (by omega)
    have e := ih (j + 1) (by omega) (by omega) (by omega)
    refine Ev.step (fun f => ?_) e
    rw [dropperref02_steps.l0, hik, wsucc j (by omega), if_pos (by omega), if_pos (by omega), if_pos (by omega), if_pos (by omega), if_pos (by omega), if_neg (by have := hs.2.2.1; omega), b4, w64 (n := pre l r n j - pre l r n a + stp l r n j) (by omega) (by omega), pre]
    congr 1
    omega
theorem steps_ev {l : List S72} (h : okV l) {r n : Int} (hs : slope r n) {i k : Nat} (hi : i < l.length) (hk : k < l.length) : Ev (fun f => dropperref02_steps.f f l r n i k) (dst l r n i k) := by
  by_cases c : i ≤ k
  · rw [dst_le h hs c hk]
    refine Ev.congr (fun f => ?_) (steps_loop h hs (m := 0) c hk i k (by rw [mx_eq]; omega) (k - i) i (by omega) (by omega) c)
    unfold dropperref02_steps.f
    rw [mn_eq, show min (i : Int) (k : Int) = (i : Int) by omega, Int.sub_self]
  · rw [dst_comm, dst_le h hs (by omega) hi]
    refine Ev.congr (fun f => ?_) (steps_loop h hs (m := 0) (show k ≤ i by omega) hi i k (by rw [mx_eq]; omega) (i - k) k (by omega) (by omega) (by omega))
    unfold dropperref02_steps.f
    rw [mn_eq, show min (i : Int) (k : Int) = (k : Int) by omega, Int.sub_self]

open Classical in
/-- The error of windows and a slope. -/
noncomputable def askE (l : List S72) (r n : Int) : Int := if okV l then (if slope r n then 0 else 2) else 20
open Classical in
theorem ref_asked_ev (l : List S72) (hl : l.length ≤ 9223372036854775807) (r n : Int) : Ev (fun k => dropperref02_asked.f k l r n) (askE l r n) := by
  have v := ref_valid_ev l hl
  unfold askE
  by_cases c : okV l
  · rw [decide_eq_true c] at v
    rw [if_pos c]
    refine Ev.bind v ?_
    simp only [if_true]
    refine Ev.congr (fun k => ?_) (Ev.now _)
    unfold dropperref02_Slope.f
    rw [from_some, from_some]
    by_cases s1 : 0 ≤ r ∧ r ≤ 1000
    · rw [decide_eq_true s1]
      by_cases s2 : 1 ≤ n ∧ n ≤ 1000
      · rw [decide_eq_true s2, if_pos ⟨s1.1, s1.2, s2.1, s2.2⟩]; simp
      · rw [decide_eq_false s2, if_neg (fun z => s2 z.2.2)]; simp
    · rw [decide_eq_false s1, if_neg (fun z => s1 ⟨z.1, z.2.1⟩)]; simp
  · rw [decide_eq_false c] at v
    rw [if_neg c]
    exact Ev.bind v (Ev.now _)
open Classical in
theorem wire_asked_ev (l : List S72) (hl : l.length ≤ 9223372036854775807) (r n : Int) : Ev (fun k => wire_asked.f k l r n) (if askE l r n = 0 then plc l r n else [], askE l r n) := by
  have v := wire_valid_ev l hl
  unfold askE
  by_cases c : okV l
  · rw [decide_eq_true c] at v
    rw [if_pos c]
    refine Ev.bind v ?_
    simp only [if_true, within_some, Option.bind_some]
    by_cases s1 : 0 ≤ r ∧ r ≤ 1000
    · rw [decide_eq_true s1]
      by_cases s2 : 1 ≤ n ∧ n ≤ 1000
      · have s : slope r n := ⟨s1.1, s1.2, s2.1, s2.2⟩
        rw [decide_eq_true s2, if_pos s]
        simp only [if_true]
        exact Ev.bind (placed_ev c s) (Ev.now _)
      · rw [decide_eq_false s2, show (if slope r n then (0 : Int) else 2) = 2 from if_neg (fun z => s2 z.2.2)]
        exact Ev.now _
    · rw [decide_eq_false s1, show (if slope r n then (0 : Int) else 2) = 2 from if_neg (fun z => s1 ⟨z.1, z.2.1⟩)]
      exact Ev.now _
  · rw [decide_eq_false c] at v
    rw [if_neg c]
    refine Ev.bind v ?_
    exact Ev.now _
theorem askE_zero {l : List S72} {r n : Int} (h : askE l r n = 0) : okV l ∧ slope r n := by
  unfold askE at h
  split at h
  · split at h
    · constructor <;> assumption
    · omega
  · omega
theorem askE_ok {l : List S72} {r n : Int} (h : okV l) (hs : slope r n) : askE l r n = 0 := by
  unfold askE; rw [if_pos h, if_pos hs]
theorem askE_cases (l : List S72) (r n : Int) : askE l r n = 0 ∨ askE l r n = 2 ∨ askE l r n = 20 := by
  unfold askE; split
  · split
    · exact .inl rfl
    · exact .inr (.inl rfl)
  · exact .inr (.inr rfl)
end Go.Proofs.Ytciepmpadcpkbaa.G
end
section
namespace Go.Proofs.Ytciepmpadcpkbaa.G
set_option linter.unusedVariables false
set_option linter.unusedSimpArgs false
open Go.RowKit Go.Proofs.YtciepmpadcpkbaaW.PrintWords Go.Proofs.YtciepmpadcpkbaaW.PrintLast
theorem awake_ev : Ev (fun k => dropperlaw02_Awake.f k) true := Ev.of (fun k => dropperlaw02_Awake.mono k) (k := 40) (by decide +kernel)
theorem large0_ev (l : List S72) : Ev (fun k => dropperlaw02_Large.f k l []) (decide ((l.length : Int) > 50)) := by
  refine ev_some _ fun k => ?_
  show dropperlaw02_Large.l0 (k + 1) l [] 0 = _
  rw [dropperlaw02_Large.l0, if_neg (by simp)]
theorem large_ev (l : List S72) : ∀ (hs : List (List Int)), hs.length ≤ 2 → ∃ b : Bool, Ev (fun k => dropperlaw02_Large.f k l hs) b ∧ (b = false → l.length ≤ 50 ∧ ∀ x ∈ hs, x.length ≤ 50) := by
  intro hs hh
  have loop : ∀ (d i : Nat), hs.length - i = d → i ≤ hs.length → (∀ j, j < i → (rd_L1 hs (j : Int)).length ≤ 50) → ∃ b : Bool, Ev (fun k => dropperlaw02_Large.l0 k l hs i) b ∧ (b = false → l.length ≤ 50 ∧ ∀ j, j < hs.length → (rd_L1 hs (j : Int)).length ≤ 50) := by
    intro d
    induction d with
    | zero =>
      intro i hd hi h1
      obtain rfl : i = hs.length := by omega
      refine ⟨decide ((l.length : Int) > 50), ev_some _ fun k => ?_, fun h => ⟨by have := of_decide_eq_false h; omega, h1⟩⟩
      rw [dropperlaw02_Large.l0, if_neg (by omega)]
    | succ d ih =>
      intro i hd hi h1
      by_cases c : ((rd_L1 hs (i : Int)).length : Int) > 50
      · refine ⟨true, ev_some _ fun k => ?_, fun h => by cases h⟩
        rw [dropperlaw02_Large.l0, if_pos (by omega), if_pos (by omega), if_pos c]
      · obtain ⟨b, e, hb⟩ := ih (i + 1) (by omega) (by omega) (fun j hj => if q : j = i then by subst q; omega else h1 j (by omega))
        refine ⟨b, Ev.step (fun k => ?_) e, hb⟩
        rw [dropperlaw02_Large.l0, if_pos (by omega), if_pos (by omega), if_neg c, wsucc i (by omega)]
  obtain ⟨b, e, hb⟩ := loop hs.length 0 (by omega) (by omega) (by omega)
  refine ⟨b, e, fun h => ⟨(hb h).1, fun x hx => ?_⟩⟩
  obtain ⟨j, hj, rfl⟩ := List.getElem_of_mem hx
  have := (hb h).2 j hj
  simpa [rd_L1, List.getD_eq_getElem?_getD, hj] using this
theorem same_loop (l : List Int) (hl : l.length ≤ 4611686018427387904) : ∀ (d i : Nat), l.length - i = d → i ≤ l.length → Ev (fun k => dropperlaw02_SameInts.l0 k l l i) true := by
  intro d
  induction d with
  | zero =>
    intro i hd hi
    refine ev_some _ fun k => ?_
    rw [dropperlaw02_SameInts.l0, if_neg (by omega)]
  | succ d ih =>
    intro i hd hi
    refine Ev.step (fun k => ?_) (ih (i + 1) (by omega) (by omega))
    rw [dropperlaw02_SameInts.l0, if_pos (by omega), if_pos (by omega), if_pos (by omega), if_pos rfl, wsucc i (by omega)]
theorem same_ev (l : List Int) (hl : l.length ≤ 4611686018427387904) : Ev (fun k => dropperlaw02_SameInts.f k l l) true := by
  refine Ev.congr (fun k => ?_) (same_loop l hl l.length 0 (by omega) (by omega))
  unfold dropperlaw02_SameInts.f
  rw [if_pos rfl]; rfl
end Go.Proofs.Ytciepmpadcpkbaa.G
end
section
namespace Go.Proofs.Ytciepmpadcpkbaa.G
open Go.RowKit Go.Proofs.YtciepmpadcpkbaaW.PrintWords Go.Proofs.YtciepmpadcpkbaaW.PrintLast Go.Proofs.YtciepmpadcpkbaaW.PrintMore
attribute [local go_sem] max2_int min2_int max_two min_two max_three min_three max_four min_four   -- for this text's walks alone
set_option linter.unusedVariables false
set_option linter.unusedSimpArgs false

/-! ### wire_pairwise: function 62 -/
mutual
def wire_pairwise.j0 : Nat → List Int → List Int → (Int → Int → Option (Int)) → Bool → Option (List Int × Int)
  | 0, _, _, _, _ => none
  | k + 1, x0, x1, x2, x29 => if x29 = true then (some (([] : List Int), 2)) else (wire_pairwise.l0 k x0 x1 x2 ([] : List Int) (x0.length : Int) 0)
def wire_pairwise.l0 : Nat → List Int → List Int → (Int → Int → Option (Int)) → List Int → Int → Int → Option (List Int × Int)
  | 0, _, _, _, _, _, _ => none
  | k + 1, x0, x1, x2, x8, x31, x32 => if x32 < x31 then (if 0 ≤ x32 then (if x32 < (x0.length : Int) then (if x32 < (x1.length : Int) then ((x2 (rd x0 x32) (rd x1 x32)).bind fun t105 => (if x8.length < 17592186044416 then (wire_pairwise.l0 k x0 x1 x2 (x8 ++ [t105]) x31 (wrap64 (x32 + 1))) else (none))) else (none)) else (none)) else (none)) else (some (x8, 0))
end
def wire_pairwise.f (k : Nat) (l0 : List Int) (l1 : List Int) (a2 : (Int → Int → Option (Int))) : Option (List Int × Int) := if (l0.length : Int) = (l1.length : Int) then (if (l0.length : Int) > 30 then (wire_pairwise.j0 k l0 l1 a2 true) else ((wire_are.f k l0).bind fun t101 => (if t101 = true then ((wire_are.f k l1).bind fun t102 => (wire_pairwise.j0 k l0 l1 a2 (!t102))) else (wire_pairwise.j0 k l0 l1 a2 true)))) else (wire_pairwise.j0 k l0 l1 a2 true)
theorem wire_pairwise.mono_l : ∀ k, (∀ y0 y1 y2 y3, LeO (wire_pairwise.j0 k y0 y1 y2 y3) (wire_pairwise.j0 (k + 1) y0 y1 y2 y3)) ∧ (∀ y0 y1 y2 y3 y4 y5, LeO (wire_pairwise.l0 k y0 y1 y2 y3 y4 y5) (wire_pairwise.l0 (k + 1) y0 y1 y2 y3 y4 y5))
  | 0 => ⟨fun _ _ _ _ r h => by simp [wire_pairwise.j0] at h, fun _ _ _ _ _ _ r h => by simp [wire_pairwise.l0] at h⟩
  | k + 1 => by
    obtain ⟨ih0, ih1⟩ := wire_pairwise.mono_l k
    refine ⟨?_, ?_⟩
    · intro y0 y1 y2 y3
      unfold wire_pairwise.j0
      repeat' first
      | (with_reducible exact ih0 _ _ _ _)
      | (with_reducible exact ih1 _ _ _ _ _ _)
      | (with_reducible exact wire_are.mono _ _)
      | (with_reducible exact LeO.refl _)
      | (with_reducible exact LeO.none _)
      | (with_reducible refine LeO.ite ?_ ?_)
      | (with_reducible refine LeO.bind ?_ (fun _ => ?_))
      | exact ih0 _ _ _ _
      | exact ih1 _ _ _ _ _ _
      | exact wire_are.mono _ _
      | exact LeO.none _
      | refine LeO.ite ?_ ?_
      | refine LeO.bind ?_ (fun _ => ?_)
    · intro y0 y1 y2 y3 y4 y5
      unfold wire_pairwise.l0
      repeat' first
      | (with_reducible exact ih0 _ _ _ _)
      | (with_reducible exact ih1 _ _ _ _ _ _)
      | (with_reducible exact wire_are.mono _ _)
      | (with_reducible exact LeO.refl _)
      | (with_reducible exact LeO.none _)
      | (with_reducible refine LeO.ite ?_ ?_)
      | (with_reducible refine LeO.bind ?_ (fun _ => ?_))
      | exact ih0 _ _ _ _
      | exact ih1 _ _ _ _ _ _
      | exact wire_are.mono _ _
      | exact LeO.none _
      | refine LeO.ite ?_ ?_
      | refine LeO.bind ?_ (fun _ => ?_)
theorem wire_pairwise.mono : ∀ a0 a1 a2 k, LeO (wire_pairwise.f k a0 a1 a2) (wire_pairwise.f (k + 1) a0 a1 a2) := by
  intro a0 a1 a2 k
  obtain ⟨ih0, ih1⟩ := wire_pairwise.mono_l k
  unfold wire_pairwise.f
  repeat' first
      | (with_reducible exact ih0 _ _ _ _)
      | (with_reducible exact ih1 _ _ _ _ _ _)
      | (with_reducible exact wire_are.mono _ _)
      | (with_reducible exact LeO.refl _)
      | (with_reducible exact LeO.none _)
      | (with_reducible refine LeO.ite ?_ ?_)
      | (with_reducible refine LeO.bind ?_ (fun _ => ?_))
      | exact ih0 _ _ _ _
      | exact ih1 _ _ _ _ _ _
      | exact wire_are.mono _ _
      | exact LeO.none _
      | refine LeO.ite ?_ ?_
      | refine LeO.bind ?_ (fun _ => ?_)
def wire_pairwise.T7 : Bool × List (List Nat × List Nat) := (true, [([], []), ([], []), ([], []), ([], []), ([2, 3], [2, 3]), ([4], [4]), ([], []), ([], []), ([6, 7], [6, 7]), ([8], [8]), ([1, 5, 9], [1, 5, 9]), ([10], [10]), ([0, 11, 10], [0, 11]), ([12, 12, 0, 1, 2, 3, 4, 5, 6, 7, 8, 9, 10, 11, 12], [0, 12])])
def wire_pairwise.B7 : List Nat := [0, 0, 0, 0, 12, 28, 0, 0, 192, 448, 1022, 2046, 4095, 8191]
theorem wire_pairwise.tab7 : rtab .any (opsOf Try.f62 7) = wire_pairwise.T7 := by kernel_rfl
theorem wire_pairwise.bits7 : waitsOk wire_pairwise.T7.2 wire_pairwise.B7 = true := by kernel_rfl
set_option maxHeartbeats 8000000 in
set_option maxRecDepth 100000 in
theorem wire_pairwise.calls (k : Nat) (A0 : Option Addr) (c0 : Nat) (l0 : List Int) (A1 : Option Addr) (c1 : Nat) (l1 : List Int) {g2 : FuncId} {lb2 : Array Value} (hen2 : EntersF Try.prog g2) (a2 : (Int → Int → Option (Int))) (r1 : List Int) (r2 : Int) (w : World) (hr0 : Kd.C (Kd.int .i64) w A0 l0.length l0) (hc0 : l0.length ≤ c0) (hr1 : Kd.C (Kd.int .i64) w A1 l1.length l1) (hc1 : l1.length ≤ c1) (hfn2 : ∀ (z0_ : Int) (z1_ : Int) (q0_ : Int) (W_ : World), Below w.heap.size w W_ → a2 z0_ z1_ = some q0_ → Calls Try.prog g2 (#[.int .i64 z0_, .int .i64 z1_] ++ lb2) W_ fun e w' => e = .returned (.int .i64 q0_) ∧ Below W_.heap.size W_ w') (h : wire_pairwise.f k l0 l1 a2 = some (r1, r2)) :
    Calls Try.prog 62 #[.slice A0 l0.length c0, .slice A1 l1.length c1, .func (.func g2) #[] lb2] w fun e w' => ∃ v0_ : Value, e = .returned (.tuple #[v0_, .int .i64 r2]) ∧ Kd.R (Kd.int .i64) 3 w' w.heap.size (fun _ => True) v0_ r1 ∧ Below w.heap.size w w' := by
  have HR0 := Aside0.mk hr0
  have HC0 := Aside0.mk hc0
  clear hr0 hc0
  have HR1 := Aside0.mk hr1
  have HC1 := Aside0.mk hc1
  clear hr1 hc1
  have HFN2 := Aside0.mk hfn2
  have HEN2 := Aside0.mk hen2
  clear hfn2 hen2
  have HB := Aside0.mk (Below.refl w.heap.size w)
  have H : (if (l0.length : Int) = (l1.length : Int) then (if (l0.length : Int) > 30 then (wire_pairwise.j0 k l0 l1 a2 true) else ((wire_are.f k l0).bind fun t101 => (if t101 = true then ((wire_are.f k l1).bind fun t102 => (wire_pairwise.j0 k l0 l1 a2 (!t102))) else (wire_pairwise.j0 k l0 l1 a2 true)))) else (wire_pairwise.j0 k l0 l1 a2 true)) = some (r1, r2) := h
  clear h
  have HC4 := Aside0.mk H
  clear H
  go_enter Try.func62, Try.ntmps62
  go_upto_region 1 with (fail)
  go_cut [29] (fun v29 wc => ∃ (kq : Nat) (x29_3 : Bool), v29 = .bool x29_3 ∧ Aside0 (wire_pairwise.j0 kq l0 l1 a2 x29_3 = some (r1, r2)) ∧ Aside0 (kq ≤ k) ∧ Aside0 (Below w.heap.size w wc))
  case first =>
    have H := HC4.out
    clear HC4
    by_cases c5 : (l0.length : Int) = (l1.length : Int)
    rotate_left
    · rw [if_neg c5] at H
      have c5b0 : ((l0.length : Int) == (l1.length : Int)) = false := beq_eq_false_iff_ne.mpr c5
      have c5b1 : ((l0.length : Int) != (l1.length : Int)) = true := bne_iff_ne.mpr c5
      have c5b2 : (l0.length == l1.length) = false := by first | simpa using c5 | (simp at c5 ⊢; omega)
      (first | rw [c5b0] | (simp only [i64_w, i32_w]; rw [c5b0]) | skip)
      have H' := Aside0.mk H
      clear H
      go_wp2
      go_meet
      case rel => exact ⟨_, (true), (by first | rfl | (simp; done) | (simp [*]; done)), H', ⟨by first | omega | exact Nat.le_refl _⟩, ⟨by repeat (first | (with_reducible first | exact HB.out | apply below_alloc | apply pw_below_drewN | apply below_drew1) | exact HB.out)⟩⟩
    rw [if_pos c5] at H
    have c5b0 : ((l0.length : Int) == (l1.length : Int)) = true := beq_iff_eq.mpr c5
    have c5b1 : ((l0.length : Int) != (l1.length : Int)) = false := bne_eq_false_iff_eq.mpr c5
    have c5b2 : (l0.length == l1.length) = true := by first | simpa using c5 | (simp at c5 ⊢; omega)
    clear c5
    (first | rw [c5b0] | (simp only [i64_w, i32_w]; rw [c5b0]) | skip)
    by_cases c6 : (l0.length : Int) > 30
    · rw [if_pos c6] at H
      have c6b0 : decide (30 < (l0.length : Int)) = true := decide_eq_true c6
      have c6b1 : decide (30 < l0.length) = true := decide_eq_true (by omega)
      clear c6
      have H' := Aside0.mk H
      clear H
      go_wp2
      go_meet
      case rel => exact ⟨_, (true), (by first | rfl | (simp; done) | (simp [*]; done)), H', ⟨by first | omega | exact Nat.le_refl _⟩, ⟨by repeat (first | (with_reducible first | exact HB.out | apply below_alloc | apply pw_below_drewN | apply below_drew1) | exact HB.out)⟩⟩
    rw [if_neg c6] at H
    have c6b0 : decide (30 < (l0.length : Int)) = false := decide_eq_false c6
    have c6b1 : decide (30 < l0.length) = false := decide_eq_false (by omega)
    clear c6
    replace H := Option.bind_eq_some_iff.mp H
    obtain ⟨t101, A70, H⟩ := H
    replace H : (if t101 = true then ((wire_are.f k l1).bind fun t102 => (wire_pairwise.j0 k l0 l1 a2 (!t102))) else (wire_pairwise.j0 k l0 l1 a2 true)) = some (r1, r2) := H
    have A7 := Aside0.mk A70
    clear A70
    by_cases c8 : t101 = true
    rotate_left
    · replace c8 := Bool.eq_false_iff.mpr c8
      subst c8
      have H1 : (wire_pairwise.j0 k l0 l1 a2 true) = some (r1, r2) := by rw [if_neg (show ¬ (false = true) by decide)] at H; exact H
      clear H
      have H := H1
      clear H1
      have H' := Aside0.mk H
      clear H
      go_wp2_with (first | (go_at_call 73; (with_reducible refine (wire_are.calls k _ _ l0 false _ ?side1 ?side2 A7.out).mono ?_); (case side1 => repeat (first | exact (Kd.C_below HR0.out HB.out) | (with_reducible refine Kd.C_alloc ?_ _) | (with_reducible refine Kd.C_drewN ?_ _) | (with_reducible refine Kd.C_drew ?_))); (case side2 => exact HC0.out); rintro e w12 ⟨rfl, hb⟩; have n0_ := Aside0.mk (below_step (by repeat (first | (with_reducible first | exact HB.out | apply below_alloc | apply pw_below_drewN | apply below_drew1) | exact HB.out)) hb); clear HB; have HB := n0_; clear n0_; (try clear hb); (try clear hb2); (try clear hk); (try clear hi)))
      go_meet
      case rel => exact ⟨_, (true), (by first | rfl | (simp; done) | (simp [*]; done)), H', ⟨by first | omega | exact Nat.le_refl _⟩, ⟨by repeat (first | (with_reducible first | exact HB.out | apply below_alloc | apply pw_below_drewN | apply below_drew1) | exact HB.out)⟩⟩
    subst c8
    have H1 : ((wire_are.f k l1).bind fun t102 => (wire_pairwise.j0 k l0 l1 a2 (!t102))) = some (r1, r2) := by rw [if_pos rfl] at H; exact H
    clear H
    have H := H1
    clear H1
    replace H := Option.bind_eq_some_iff.mp H
    obtain ⟨t102, A90, H⟩ := H
    replace H : (wire_pairwise.j0 k l0 l1 a2 (!t102)) = some (r1, r2) := H
    have A9 := Aside0.mk A90
    clear A90
    have H' := Aside0.mk H
    clear H
    go_wp2_with (first | (go_at_call 73; (with_reducible refine (wire_are.calls k _ _ l0 true _ ?side1 ?side2 A7.out).mono ?_); (case side1 => repeat (first | exact (Kd.C_below HR0.out HB.out) | (with_reducible refine Kd.C_alloc ?_ _) | (with_reducible refine Kd.C_drewN ?_ _) | (with_reducible refine Kd.C_drew ?_))); (case side2 => exact HC0.out); rintro e w10 ⟨rfl, hb⟩; have n0_ := Aside0.mk (below_step (by repeat (first | (with_reducible first | exact HB.out | apply below_alloc | apply pw_below_drewN | apply below_drew1) | exact HB.out)) hb); clear HB; have HB := n0_; clear n0_; (try clear hb); (try clear hb2); (try clear hk); (try clear hi)) | (go_at_call 73; (with_reducible refine (wire_are.calls k _ _ l1 t102 _ ?side1 ?side2 A9.out).mono ?_); (case side1 => repeat (first | exact (Kd.C_below HR1.out HB.out) | (with_reducible refine Kd.C_alloc ?_ _) | (with_reducible refine Kd.C_drewN ?_ _) | (with_reducible refine Kd.C_drew ?_))); (case side2 => exact HC1.out); rintro e w11 ⟨rfl, hb⟩; have n0_ := Aside0.mk (below_step (by repeat (first | (with_reducible first | exact HB.out | apply below_alloc | apply pw_below_drewN | apply below_drew1) | exact HB.out)) hb); clear HB; have HB := n0_; clear n0_; (try clear hb); (try clear hb2); (try clear hk); (try clear hi)))
    go_meet
    case rel => exact ⟨_, (!t102), (by first | rfl | (simp; done) | (simp [*]; done)), H', ⟨by first | omega | exact Nat.le_refl _⟩, ⟨by repeat (first | (with_reducible first | exact HB.out | apply below_alloc | apply pw_below_drewN | apply below_drew1) | exact HB.out)⟩⟩
  case rest =>
    clear HC4
    try clear c1
    try clear p2
    try clear c5
    try clear c5b0
    try clear c5b1
    try clear c5b2
    try clear c6
    try clear c6b0
    try clear c6b1
    try clear c8
    obtain ⟨kq, x29_3, rfl, HA, HJ3, HB⟩ := hcut
    cases kq with
    | zero => exact absurd HA.out (by simp [wire_pairwise.j0])
    | succ kj3 =>
      have H := HA.out
      clear HA
      simp only [wire_pairwise.j0] at H
      by_cases c13 : x29_3 = true
      · subst c13
        have H1 : (some (([] : List Int), 2)) = some (r1, r2) := by rw [if_pos rfl] at H; exact H
        clear H
        have H := H1
        clear H1
        simp only [Option.some.injEq, Prod.mk.injEq] at H
        obtain ⟨rfl, rfl⟩ := H
        go_wp2
        go_ret2
        exact ⟨_, by first | rfl | (simp [errW_none, errW_some] <;> rfl) | (simp [*, errW_none, errW_some] <;> rfl), by first | exact Kd.R_nil _ _ _ _ _ | exact Kd.N_nil _ _ _ _ _ | exact Kd.V_nil _ _ _ _ _ | exact Kd.Q_nil _ _ _ _ _ | exact Kd.S_nil _ _ _ _ _, by repeat (first | (with_reducible first | exact HB.out | apply below_alloc | apply pw_below_drewN | apply below_drew1) | exact HB.out)⟩
      replace c13 := Bool.eq_false_iff.mpr c13
      subst c13
      have H1 : (wire_pairwise.l0 kj3 l0 l1 a2 ([] : List Int) (l0.length : Int) 0) = some (r1, r2) := by rw [if_neg (show ¬ (false = true) by decide)] at H; exact H
      clear H
      have H := H1
      clear H1
      have H' := Aside0.mk H
      clear H
      go_wp2
      go_loopg [8, 32] kj3 (fun kq v8 v32 w' => ∃ (x8_2 : List Int) (x32_2 : Int), v32 = .int .i64 x32_2 ∧ Aside0 (wire_pairwise.l0 kq l0 l1 a2 x8_2 (l0.length : Int) x32_2 = some (r1, r2)) ∧ Aside0 (kq ≤ kj3) ∧ Aside0 (Kd.R (Kd.int .i64) 3 w' w.heap.size (fun _ => True) v8 x8_2) ∧ Aside0 (Below w.heap.size w w'))
      case atStart => exact ⟨(([] : List Int)), (0), (by first | rfl | (simp; done) | (simp [*]; done)), H', ⟨Nat.le_refl _⟩, ⟨by first | exact Kd.R_nil _ _ _ _ _ | exact Kd.N_nil _ _ _ _ _ | exact Kd.V_nil _ _ _ _ _ | exact Kd.Q_nil _ _ _ _ _ | exact Kd.S_nil _ _ _ _ _⟩, ⟨by repeat (first | (with_reducible first | exact HB.out | apply below_alloc | apply pw_below_drewN | apply below_drew1) | exact HB.out)⟩⟩
      case round =>
        clear H'
        try clear c1
        try clear p2
        try clear c5
        try clear c5b0
        try clear c5b1
        try clear c5b2
        try clear c6
        try clear c6b0
        try clear c6b1
        try clear c8
        try clear c13
        try clear p2
        obtain ⟨x8_2, x32_2, rfl, HA, HK2, HO_8, HB⟩ := hrel
        cases gk with
        | zero => exact absurd HA.out (by simp [wire_pairwise.l0])
        | succ k2 =>
          have H := HA.out
          clear HA
          simp only [wire_pairwise.l0] at H
          by_cases c14 : x32_2 < (l0.length : Int)
          rotate_left
          · rw [if_neg c14] at H
            have c14b0 : decide (x32_2 < (l0.length : Int)) = false := decide_eq_false c14
            clear c14
            simp only [Option.some.injEq, Prod.mk.injEq] at H
            obtain ⟨rfl, rfl⟩ := H
            go_wp2
            go_ret2
            exact ⟨_, by first | rfl | (simp [errW_none, errW_some] <;> rfl) | (simp [*, errW_none, errW_some] <;> rfl), by (with_reducible repeat (first | apply Kd.R_alloc | apply Kd.R_drewN | apply Kd.R_drew)); exact HO_8.out, by repeat (first | (with_reducible first | exact HB.out | apply below_alloc | apply pw_below_drewN | apply below_drew1) | exact HB.out)⟩

          rw [if_pos c14] at H
          have c14b0 : decide (x32_2 < (l0.length : Int)) = true := decide_eq_true c14
          clear c14
          by_cases c15 : 0 ≤ x32_2
          rotate_left
          · rw [if_neg c15] at H
            exact absurd H (by simp)
          rw [if_pos c15] at H
          have c15b0 : decide (0 ≤ x32_2) = true := decide_eq_true c15
          clear c15
          by_cases c16 : x32_2 < (l0.length : Int)
          rotate_left
          · rw [if_neg c16] at H
            exact absurd H (by simp)
          rw [if_pos c16] at H
          have c16b0 : decide (x32_2 < (l0.length : Int)) = true := decide_eq_true c16
          clear c16
          by_cases c17 : x32_2 < (l1.length : Int)
          rotate_left
          · rw [if_neg c17] at H
            exact absurd H (by simp)
          rw [if_pos c17] at H
          have c17b0 : decide (x32_2 < (l1.length : Int)) = true := decide_eq_true c17
          clear c17
          replace H := Option.bind_eq_some_iff.mp H
          obtain ⟨t105, A180, H⟩ := H
          replace H : (if x8_2.length < 17592186044416 then (wire_pairwise.l0 k2 l0 l1 a2 (x8_2 ++ [t105]) (l0.length : Int) (wrap64 (x32_2 + 1))) else (none)) = some (r1, r2) := H
          have A18 := Aside0.mk A180
          clear A180
          by_cases c19 : x8_2.length < 17592186044416
          rotate_left
          · rw [if_neg c19] at H
            exact absurd H (by simp)
          rw [if_pos c19] at H
          have LMc19 := Aside0.mk c19
          clear c19
          obtain ⟨y106, hy106⟩ : ∃ y_ : List Int, y_ = (x8_2 ++ [t105]) := ⟨_, rfl⟩
          replace H : (wire_pairwise.l0 k2 l0 l1 a2 y106 (l0.length : Int) (wrap64 (x32_2 + 1))) = some (r1, r2) := by first | (rw [hy106]; with_reducible exact H) | (have H2_ := (Option.bind_some _ _).symm.trans H; rw [hy106]; with_reducible exact H2_) | (have H2_ := (Option.bind_some _ _).symm.trans H; with_reducible exact H2_) | with_reducible exact H | (rw [hy106]; exact H) | exact H
          have Ny106 := Aside0.mk hy106
          clear hy106
          have H' := Aside0.mk H
          clear H
          try go_wp2
          have n0_ := Aside0.mk (Kd.R_drew HO_8.out)
          have n1_ := Aside0.mk (below_drew1 HB.out)
          clear HO_8
          clear HB
          have HO_8 := n0_
          have HB := n1_
          clear n0_ n1_
          have p103 : 0 ≤ (x32_2 : Int) := of_decide_eq_true (by first | (with_reducible assumption) | assumption)
          have q103 : x32_2 < (l0.length : Int) := of_decide_eq_true (by first | (with_reducible assumption) | assumption)
          obtain ⟨ad103, e103, hx103_0⟩ := Kd.at_int HR0.out x32_2 p103 q103
          have hw103_0 := hx103_0
          cases e103
          replace hx103_0 := (HB.out.cell (World.block_lt_of_cell? w _ hx103_0)).trans hx103_0
          replace p103 := eq_true p103
          replace q103 := eq_true q103
          have p104 : 0 ≤ (x32_2 : Int) := of_decide_eq_true (by first | (with_reducible assumption) | assumption)
          have q104 : x32_2 < (l1.length : Int) := of_decide_eq_true (by first | (with_reducible assumption) | assumption)
          obtain ⟨ad104, e104, hx104_0⟩ := Kd.at_int HR1.out x32_2 p104 q104
          have hw104_0 := hx104_0
          cases e104
          replace hx104_0 := (HB.out.cell (World.block_lt_of_cell? w _ hx104_0)).trans hx104_0
          replace p104 := eq_true p104
          replace q104 := eq_true q104
          refine start_ (n := 14) (S := fun w' => w'.cell? (ad103.add (x32_2).toNat) = some (.int .i64 (rd l0 x32_2)) ∧ w'.cell? (ad104.add (x32_2).toNat) = some (.int .i64 (rd l1 x32_2))) (ds := []) (mkB 14 0) (by kernel_rfl) rfl rfl ⟨(pw_cell_below HB.out hw103_0), (pw_cell_below HB.out hw104_0)⟩ (fun hHeld => ?_); refine with_tabW wire_pairwise.tab7 wire_pairwise.bits7 (fun HT_ HW_ => ?_)
          generalize wr.drew = w20 at HO_8 HB hx103_0 hx104_0 hHeld ⊢
          refine pr_ 0 (some 35) (mkB 14 1) HT_ ?_
          refine pr_ 1 (some 36) (mkB 14 3) HT_ ?_
          refine pr_ 2 (some 37) (mkB 14 7) HT_ ?_
          refine pr_ 3 (some 38) (mkB 14 15) HT_ ?_
          refine pr_ 4 (some 39) (mkB 14 31) HT_ ?_
          refine pr_ 6 (some 41) (mkB 14 95) HT_ ?_
          refine pr_ 7 (some 42) (mkB 14 223) HT_ ?_
          refine pr_ 8 (some 43) (mkB 14 479) HT_ ?_
          refine take_ (i := 5) (N := some 40) (v := ?_) (a' := ?_) (mkB 14 511) rfl rfl (take_ofW HT_.out HW_.out (by kernel_rfl)) (fun _ _ _ h => h) (Or.inl ⟨by rfl, ?_⟩) hHeld ?_ ?_
          rotate_left
          · rintro w' ⟨s0, s1⟩
            go_simp
            with_reducible rfl
          rotate_left
          · simp only [Act.put, List.setIfInBounds_toArray, List.set_cons_zero, List.set_cons_succ, i64_w, i32_w]
            rfl
          refine take_ (i := 9) (N := some 44) (v := ?_) (a' := ?_) (mkB 14 1023) rfl rfl (take_ofW HT_.out HW_.out (by kernel_rfl)) (fun _ _ _ h => h) (Or.inl ⟨by rfl, ?_⟩) hHeld ?_ ?_
          rotate_left
          · rintro w' ⟨s0, s1⟩
            go_simp
            with_reducible rfl
          rotate_left
          · simp only [Act.put, List.setIfInBounds_toArray, List.set_cons_zero, List.set_cons_succ, i64_w, i32_w]
            rfl
          refine one_ (i := 10) (N := some 45) (mkB 14 2047) rfl rfl (one_of HT_.out (by kernel_rfl)) (by decide) (fun K hK => ?_)
          refine goesV_ HEN2.out (lb := lb2) #[.int .i64 (rd l0 x32_2), .int .i64 (rd l1 x32_2)] (by rfl) rfl rfl rfl (by (try simp only [List.map_toArray, List.map_cons, List.map_nil]); first | done | rfl | (simp only [List.length_drop, List.length_take]; rfl)) ?_
          with_reducible refine (HFN2.out (rd l0 x32_2) (rd l1 x32_2) t105 _ (by repeat (first | (with_reducible first | exact HB.out | apply below_alloc | apply pw_below_drewN | apply below_drew1) | exact HB.out)) A18.out).mono ?_
          rintro e w21 ⟨rfl, hb⟩
          refine ⟨_, rfl, ?_⟩
          have n0_ := Aside0.mk (Kd.R_below (by (with_reducible repeat (first | apply Kd.R_alloc | apply Kd.R_drewN | apply Kd.R_drew)); exact HO_8.out) hb)
          have n1_ := Aside0.mk (below_step (by repeat (first | (with_reducible first | exact HB.out | apply below_alloc | apply pw_below_drewN | apply below_drew1) | exact HB.out)) hb)
          clear HO_8
          clear HB
          have HO_8 := n0_
          have HB := n1_
          clear n0_ n1_
          (try clear hb)
          (try clear hb2)
          (try clear hk)
          (try clear hi)
          refine hK.out _ _ ⟨(pw_cell_below HB.out hw103_0), (pw_cell_below HB.out hw104_0)⟩ (fun hHeld => ?_)
          clear hK K
          refine norm_ (a' := ?_) ?_ ?_
          rotate_left
          · show Act.put _ (some 45) _ = _
            simp only [Act.put, List.setIfInBounds_toArray, List.set_cons_zero, List.set_cons_succ, i64_w, i32_w]
            rfl
          refine one_ (i := 11) (N := some 46) (mkB 14 4095) rfl rfl (one_of HT_.out (by kernel_rfl)) (by decide) (fun K hK => ?_)
          refine value_ (w1 := ?_) (v := ?_) (by rfl) rfl ?_ ?_
          rotate_left 2
          · go_simp
            constructor
            · rfl
            · rfl
          refine hK.out _ _ ⟨(World.cell?_alloc_lt _ _ _ (World.block_lt_of_cell? _ _ ((pw_cell_below HB.out hw103_0)))).trans ((pw_cell_below HB.out hw103_0)), (World.cell?_alloc_lt _ _ _ (World.block_lt_of_cell? _ _ ((pw_cell_below HB.out hw104_0)))).trans ((pw_cell_below HB.out hw104_0))⟩ (fun hHeld => ?_)
          clear hK K
          refine norm_ (a' := ?_) ?_ ?_
          rotate_left
          · show Act.put _ (some 46) _ = _
            simp only [Act.put, List.setIfInBounds_toArray, List.set_cons_zero, List.set_cons_succ, i64_w, i32_w]
            rfl
          refine one_ (i := 12) (N := some 47) (mkB 14 8191) rfl rfl (one_of HT_.out (by kernel_rfl)) (by decide) (fun K hK => ?_)
          refine Kd.R_append_step (Kd.int .i64) (w0 := w) w.heap.size (by rfl) (.tmp 35) (.tmp 46) 34 3 (.int .i64 0) 8 rfl Try.underlying34 info3 rfl (by decide) (by omega) u8 x8_2 t105 [.int .i64 t105] (fun _ => True) (fun _ => False) rfl rfl ?aP (fun _ hk => hk.elim) ?aF ?aO ?aB ?aS ?aL ?_
          (case aP => exact rfl)
          (case aB => exact (by repeat (first | (with_reducible first | exact HB.out | apply below_alloc | apply pw_below_drewN | apply below_drew1) | exact HB.out)))
          (case aF => exact (fun _ _ => trivial))
          (case aO => exact (by (with_reducible repeat (first | apply Kd.R_alloc | apply Kd.R_drewN | apply Kd.R_drew)); exact HO_8.out))
          (case aS => exact (below_size (by repeat (first | (with_reducible first | exact HB.out | apply below_alloc | apply pw_below_drewN | apply below_drew1) | exact HB.out))))
          (case aL => have := LMc19.out; omega)
          intro v107 w22 ho hb hg hat
          rw [← Ny106.out] at ho
          have n0_ := Aside0.mk (hb)
          have n1_ := Aside0.mk (ho)
          clear HB
          clear HO_8
          have HB := n0_
          have HO108 := n1_
          clear n0_ n1_
          clear ho hb hg hat
          refine hK.out _ _ ⟨(pw_cell_below HB.out hw103_0), (pw_cell_below HB.out hw104_0)⟩ (fun hHeld => ?_)
          clear hK K
          refine norm_ (a' := ?_) ?_ ?_
          rotate_left
          · show Act.put _ (some 47) _ = _
            simp only [Act.put, List.setIfInBounds_toArray, List.set_cons_zero, List.set_cons_succ, i64_w, i32_w]
            rfl
          refine pr_ 13 (some 8) (mkB 14 16383) HT_ ?_
          refine done_ (done_of HT_.out (by kernel_rfl)) ?_
          try go_wp2
          go_roundg k2
          case measure => have := HJ3.out; have := HK2.out; omega
          case rel => exact ⟨(y106), (wrap64 (x32_2 + 1)), (by first | rfl | (simp; done) | (simp [*]; done)), H', ⟨by have := HJ3.out; have := HK2.out; omega⟩, ⟨by (with_reducible repeat (first | apply Kd.R_alloc | apply Kd.R_drewN | apply Kd.R_drew)); exact HO108.out⟩, ⟨by repeat (first | (with_reducible first | exact HB.out | apply below_alloc | apply pw_below_drewN | apply below_drew1) | exact HB.out)⟩⟩
end Go.Proofs.Ytciepmpadcpkbaa.G
end
section
namespace Go.Proofs.Ytciepmpadcpkbaa.G
open Go.RowKit Go.Proofs.YtciepmpadcpkbaaW.PrintWords Go.Proofs.YtciepmpadcpkbaaW.PrintLast Go.Proofs.YtciepmpadcpkbaaW.PrintMore
attribute [local go_sem] max2_int min2_int max_two min_two max_three min_three max_four min_four   -- for this text's walks alone
set_option linter.unusedVariables false
set_option linter.unusedSimpArgs false

/-! ### wire_Meet_1: function 63 -/
def wire_Meet_1.f (a0 : Int) (a1 : Int) : Option (Int) := some (mn a0 a1)
set_option maxHeartbeats 8000000 in
set_option maxRecDepth 100000 in
theorem wire_Meet_1.calls (a0 : Int) (a1 : Int) (r : Int) (w : World) (h : wire_Meet_1.f a0 a1 = some r) :
    Calls Try.prog 63 #[.int .i64 a0, .int .i64 a1] w fun e w' => e = .returned (.int .i64 r) ∧ Below w.heap.size w w' := by
  have HB := Aside0.mk (Below.refl w.heap.size w)
  have H : (some (mn a0 a1)) = some r := h
  clear h
  obtain ⟨ji3, hji3⟩ : ∃ j_ : Int, (mn a0 a1) = j_ := ⟨_, rfl⟩
  replace H : (some ji3) = some r := by first | (rw [hji3] at H; exact H) | (simp only [hji3] at H ⊢; exact H)
  have hji3_ : (if a1 < a0 then a1 else a0) = ji3 := hji3
  obtain rfl := Option.some.inj H
  go_enter Try.func63, Try.ntmps63
  go_wp2
  go_ret
  exact ⟨by first | rfl | (simp [errW_none, errW_some] <;> rfl) | (simp only [← hji3]; first | rfl | (simp [errW_none, errW_some] <;> rfl)) | (simp [*, errW_none, errW_some] <;> rfl), by repeat (first | (with_reducible first | exact HB.out | apply below_alloc | apply pw_below_drewN | apply below_drew1) | exact HB.out)⟩

end Go.Proofs.Ytciepmpadcpkbaa.G
end
section
namespace Go.Proofs.Ytciepmpadcpkbaa.G
open Go.RowKit Go.Proofs.YtciepmpadcpkbaaW.PrintWords Go.Proofs.YtciepmpadcpkbaaW.PrintLast Go.Proofs.YtciepmpadcpkbaaW.PrintMore
attribute [local go_sem] max2_int min2_int max_two min_two max_three min_three max_four min_four   -- for this text's walks alone
set_option linter.unusedVariables false
set_option linter.unusedSimpArgs false

/-! ### wire_Meet: function 26 -/
def wire_Meet.f (k : Nat) (l0 : List Int) (l1 : List Int) : Option (List Int × Int) := (wire_pairwise.f k l0 l1 wire_Meet_1.f).bind fun bt101 => (some (bt101.1, bt101.2))
theorem wire_Meet.mono : ∀ a0 a1 k, LeO (wire_Meet.f k a0 a1) (wire_Meet.f (k + 1) a0 a1) := by
  intro a0 a1 k
  unfold wire_Meet.f
  repeat' first
      | (with_reducible exact wire_pairwise.mono _ _ _ _)
      | (with_reducible exact LeO.refl _)
      | (with_reducible exact LeO.none _)
      | (with_reducible refine LeO.ite ?_ ?_)
      | (with_reducible refine LeO.bind ?_ (fun _ => ?_))
      | exact wire_pairwise.mono _ _ _ _
      | exact LeO.none _
      | refine LeO.ite ?_ ?_
      | refine LeO.bind ?_ (fun _ => ?_)
set_option maxHeartbeats 8000000 in
set_option maxRecDepth 100000 in
theorem wire_Meet.calls (k : Nat) (A0 : Option Addr) (c0 : Nat) (l0 : List Int) (A1 : Option Addr) (c1 : Nat) (l1 : List Int) (r1 : List Int) (r2 : Int) (w : World) (hr0 : Kd.C (Kd.int .i64) w A0 l0.length l0) (hc0 : l0.length ≤ c0) (hr1 : Kd.C (Kd.int .i64) w A1 l1.length l1) (hc1 : l1.length ≤ c1) (h : wire_Meet.f k l0 l1 = some (r1, r2)) :
    Calls Try.prog 26 #[.slice A0 l0.length c0, .slice A1 l1.length c1] w fun e w' => ∃ v0_ : Value, e = .returned (.tuple #[v0_, .int .i64 r2]) ∧ Kd.R (Kd.int .i64) 3 w' w.heap.size (fun _ => True) v0_ r1 ∧ Below w.heap.size w w' := by
  have HR0 := Aside0.mk hr0
  have HC0 := Aside0.mk hc0
  clear hr0 hc0
  have HR1 := Aside0.mk hr1
  have HC1 := Aside0.mk hc1
  clear hr1 hc1
  have HB := Aside0.mk (Below.refl w.heap.size w)
  have H : ((wire_pairwise.f k l0 l1 wire_Meet_1.f).bind fun bt101 => (some (bt101.1, bt101.2))) = some (r1, r2) := h
  clear h
  replace H := Option.bind_eq_some_iff.mp H
  obtain ⟨⟨t101, t102⟩, A30, H⟩ := H
  replace H : (some (t101, t102)) = some (r1, r2) := H
  have A3 := Aside0.mk A30
  clear A30
  simp only [Option.some.injEq, Prod.mk.injEq] at H
  obtain ⟨rfl, rfl⟩ := H
  go_enter Try.func26, Try.ntmps26
  go_wp2_with (first | ((with_reducible refine gate_callee (f := 62) rfl ?_); refine goesL_ (some 8) rfl rfl Try.func62 (by kernel_rfl) rfl #[.slice A0 l0.length c0, .slice A1 l1.length c1, .func (.func 63) #[] #[]] rfl (by (try simp only [List.map_toArray, List.map_cons, List.map_nil]); first | done | rfl | (simp only [List.length_drop, List.length_take]; rfl)) ?_; (with_reducible refine (wire_pairwise.calls k _ _ l0 _ _ l1 (enters_f Try.func63 (by kernel_rfl) rfl) wire_Meet_1.f t101 t102 _ ?side1 ?side2 ?side3 ?side4 ?side5 A3.out).mono ?_); (case side1 => repeat (first | exact HR0.out | (with_reducible refine Kd.C_alloc ?_ _) | (with_reducible refine Kd.C_drewN ?_ _) | (with_reducible refine Kd.C_drew ?_))); (case side2 => exact HC0.out); (case side3 => repeat (first | exact HR1.out | (with_reducible refine Kd.C_alloc ?_ _) | (with_reducible refine Kd.C_drewN ?_ _) | (with_reducible refine Kd.C_drew ?_))); (case side4 => exact HC1.out); (case side5 => intro z0_ z1_ q0_ W_ hW_ hq_; have hc_ := wire_Meet_1.calls z0_ z1_ q0_ W_  hq_; exact hc_.mono (fun e_ w_ h_ => h_)); rintro e w4 ⟨v103, rfl, ho0, hb⟩; refine ⟨_, rfl, ?_⟩; have n0_ := Aside0.mk (Kd.R_lower ho0 (below_size (by repeat (first | (with_reducible first | exact HB.out | apply below_alloc | apply pw_below_drewN | apply below_drew1) | exact HB.out)))); have n1_ := Aside0.mk (below_step (by repeat (first | (with_reducible first | exact HB.out | apply below_alloc | apply pw_below_drewN | apply below_drew1) | exact HB.out)) hb); clear HB; have HO104 := n0_; have HB := n1_; clear n0_ n1_; (try clear hb); (try clear hb2); (try clear hk); (try clear hi); (try clear ho0)))
  go_ret2
  exact ⟨_, by first | rfl | (simp [errW_none, errW_some] <;> rfl) | (simp [*, errW_none, errW_some] <;> rfl), by (with_reducible repeat (first | apply Kd.R_alloc | apply Kd.R_drewN | apply Kd.R_drew)); exact HO104.out, by repeat (first | (with_reducible first | exact HB.out | apply below_alloc | apply pw_below_drewN | apply below_drew1) | exact HB.out)⟩

end Go.Proofs.Ytciepmpadcpkbaa.G
end
section
namespace Go.Proofs.Ytciepmpadcpkbaa.G
open Go.RowKit Go.Proofs.YtciepmpadcpkbaaW.PrintWords Go.Proofs.YtciepmpadcpkbaaW.PrintLast Go.Proofs.YtciepmpadcpkbaaW.PrintMore
attribute [local go_sem] max2_int min2_int max_two min_two max_three min_three max_four min_four   -- for this text's walks alone
set_option linter.unusedVariables false
set_option linter.unusedSimpArgs false

/-! ### wire_Join_1: function 64 -/
def wire_Join_1.f (a0 : Int) (a1 : Int) : Option (Int) := some (mx a0 a1)
set_option maxHeartbeats 8000000 in
set_option maxRecDepth 100000 in
theorem wire_Join_1.calls (a0 : Int) (a1 : Int) (r : Int) (w : World) (h : wire_Join_1.f a0 a1 = some r) :
    Calls Try.prog 64 #[.int .i64 a0, .int .i64 a1] w fun e w' => e = .returned (.int .i64 r) ∧ Below w.heap.size w w' := by
  have HB := Aside0.mk (Below.refl w.heap.size w)
  have H : (some (mx a0 a1)) = some r := h
  clear h
  obtain ⟨ji3, hji3⟩ : ∃ j_ : Int, (mx a0 a1) = j_ := ⟨_, rfl⟩
  replace H : (some ji3) = some r := by first | (rw [hji3] at H; exact H) | (simp only [hji3] at H ⊢; exact H)
  have hji3_ : (if a0 < a1 then a1 else a0) = ji3 := hji3
  obtain rfl := Option.some.inj H
  go_enter Try.func64, Try.ntmps64
  go_wp2
  go_ret
  exact ⟨by first | rfl | (simp [errW_none, errW_some] <;> rfl) | (simp only [← hji3]; first | rfl | (simp [errW_none, errW_some] <;> rfl)) | (simp [*, errW_none, errW_some] <;> rfl), by repeat (first | (with_reducible first | exact HB.out | apply below_alloc | apply pw_below_drewN | apply below_drew1) | exact HB.out)⟩

end Go.Proofs.Ytciepmpadcpkbaa.G
end
section
namespace Go.Proofs.Ytciepmpadcpkbaa.G
open Go.RowKit Go.Proofs.YtciepmpadcpkbaaW.PrintWords Go.Proofs.YtciepmpadcpkbaaW.PrintLast Go.Proofs.YtciepmpadcpkbaaW.PrintMore
attribute [local go_sem] max2_int min2_int max_two min_two max_three min_three max_four min_four   -- for this text's walks alone
set_option linter.unusedVariables false
set_option linter.unusedSimpArgs false

/-! ### wire_Join: function 27 -/
def wire_Join.f (k : Nat) (l0 : List Int) (l1 : List Int) : Option (List Int × Int) := (wire_pairwise.f k l0 l1 wire_Join_1.f).bind fun bt101 => (some (bt101.1, bt101.2))
theorem wire_Join.mono : ∀ a0 a1 k, LeO (wire_Join.f k a0 a1) (wire_Join.f (k + 1) a0 a1) := by
  intro a0 a1 k
  unfold wire_Join.f
  repeat' first
      | (with_reducible exact wire_pairwise.mono _ _ _ _)
      | (with_reducible exact LeO.refl _)
      | (with_reducible exact LeO.none _)
      | (with_reducible refine LeO.ite ?_ ?_)
      | (with_reducible refine LeO.bind ?_ (fun _ => ?_))
      | exact wire_pairwise.mono _ _ _ _
      | exact LeO.none _
      | refine LeO.ite ?_ ?_
      | refine LeO.bind ?_ (fun _ => ?_)
set_option maxHeartbeats 8000000 in
set_option maxRecDepth 100000 in
theorem wire_Join.calls (k : Nat) (A0 : Option Addr) (c0 : Nat) (l0 : List Int) (A1 : Option Addr) (c1 : Nat) (l1 : List Int) (r1 : List Int) (r2 : Int) (w : World) (hr0 : Kd.C (Kd.int .i64) w A0 l0.length l0) (hc0 : l0.length ≤ c0) (hr1 : Kd.C (Kd.int .i64) w A1 l1.length l1) (hc1 : l1.length ≤ c1) (h : wire_Join.f k l0 l1 = some (r1, r2)) :
    Calls Try.prog 27 #[.slice A0 l0.length c0, .slice A1 l1.length c1] w fun e w' => ∃ v0_ : Value, e = .returned (.tuple #[v0_, .int .i64 r2]) ∧ Kd.R (Kd.int .i64) 3 w' w.heap.size (fun _ => True) v0_ r1 ∧ Below w.heap.size w w' := by
  have HR0 := Aside0.mk hr0
  have HC0 := Aside0.mk hc0
  clear hr0 hc0
  have HR1 := Aside0.mk hr1
  have HC1 := Aside0.mk hc1
  clear hr1 hc1
  have HB := Aside0.mk (Below.refl w.heap.size w)
  have H : ((wire_pairwise.f k l0 l1 wire_Join_1.f).bind fun bt101 => (some (bt101.1, bt101.2))) = some (r1, r2) := h
  clear h
  replace H := Option.bind_eq_some_iff.mp H
  obtain ⟨⟨t101, t102⟩, A30, H⟩ := H
  replace H : (some (t101, t102)) = some (r1, r2) := H
  have A3 := Aside0.mk A30
  clear A30
  simp only [Option.some.injEq, Prod.mk.injEq] at H
  obtain ⟨rfl, rfl⟩ := H
  go_enter Try.func27, Try.ntmps27
  go_wp2_with (first | ((with_reducible refine gate_callee (f := 62) rfl ?_); refine goesL_ (some 8) rfl rfl Try.func62 (by kernel_rfl) rfl #[.slice A0 l0.length c0, .slice A1 l1.length c1, .func (.func 64) #[] #[]] rfl (by (try simp only [List.map_toArray, List.map_cons, List.map_nil]); first | done | rfl | (simp only [List.length_drop, List.length_take]; rfl)) ?_; (with_reducible refine (wire_pairwise.calls k _ _ l0 _ _ l1 (enters_f Try.func64 (by kernel_rfl) rfl) wire_Join_1.f t101 t102 _ ?side1 ?side2 ?side3 ?side4 ?side5 A3.out).mono ?_); (case side1 => repeat (first | exact HR0.out | (with_reducible refine Kd.C_alloc ?_ _) | (with_reducible refine Kd.C_drewN ?_ _) | (with_reducible refine Kd.C_drew ?_))); (case side2 => exact HC0.out); (case side3 => repeat (first | exact HR1.out | (with_reducible refine Kd.C_alloc ?_ _) | (with_reducible refine Kd.C_drewN ?_ _) | (with_reducible refine Kd.C_drew ?_))); (case side4 => exact HC1.out); (case side5 => intro z0_ z1_ q0_ W_ hW_ hq_; have hc_ := wire_Join_1.calls z0_ z1_ q0_ W_  hq_; exact hc_.mono (fun e_ w_ h_ => h_)); rintro e w4 ⟨v103, rfl, ho0, hb⟩; refine ⟨_, rfl, ?_⟩; have n0_ := Aside0.mk (Kd.R_lower ho0 (below_size (by repeat (first | (with_reducible first | exact HB.out | apply below_alloc | apply pw_below_drewN | apply below_drew1) | exact HB.out)))); have n1_ := Aside0.mk (below_step (by repeat (first | (with_reducible first | exact HB.out | apply below_alloc | apply pw_below_drewN | apply below_drew1) | exact HB.out)) hb); clear HB; have HO104 := n0_; have HB := n1_; clear n0_ n1_; (try clear hb); (try clear hb2); (try clear hk); (try clear hi); (try clear ho0)))
  go_ret2
  exact ⟨_, by first | rfl | (simp [errW_none, errW_some] <;> rfl) | (simp [*, errW_none, errW_some] <;> rfl), by (with_reducible repeat (first | apply Kd.R_alloc | apply Kd.R_drewN | apply Kd.R_drew)); exact HO104.out, by repeat (first | (with_reducible first | exact HB.out | apply below_alloc | apply pw_below_drewN | apply below_drew1) | exact HB.out)⟩

end Go.Proofs.Ytciepmpadcpkbaa.G
end
section
namespace Go.Proofs.Ytciepmpadcpkbaa.G
open Go.RowKit Go.Proofs.YtciepmpadcpkbaaW.PrintWords Go.Proofs.YtciepmpadcpkbaaW.PrintLast Go.Proofs.YtciepmpadcpkbaaW.PrintMore
attribute [local go_sem] max2_int min2_int max_two min_two max_three min_three max_four min_four   -- for this text's walks alone
set_option linter.unusedVariables false
set_option linter.unusedSimpArgs false

/-! ### dropperref02_both: function 70 -/
def dropperref02_both.f (k : Nat) (l0 : List Int) (l1 : List Int) : Option (Bool) := if (l0.length : Int) ≤ 30 then ((dropperref02_heights.f k l0 (l1.length : Int)).bind fun t101 => (if t101 = true then ((dropperref02_heights.f k l1 (l0.length : Int)).bind fun t102 => (some t102)) else (some false))) else (some false)
theorem dropperref02_both.mono : ∀ a0 a1 k, LeO (dropperref02_both.f k a0 a1) (dropperref02_both.f (k + 1) a0 a1) := by
  intro a0 a1 k
  unfold dropperref02_both.f
  repeat' first
      | (with_reducible exact dropperref02_heights.mono _ _ _)
      | (with_reducible exact LeO.refl _)
      | (with_reducible exact LeO.none _)
      | (with_reducible refine LeO.ite ?_ ?_)
      | (with_reducible refine LeO.bind ?_ (fun _ => ?_))
      | exact dropperref02_heights.mono _ _ _
      | exact LeO.none _
      | refine LeO.ite ?_ ?_
      | refine LeO.bind ?_ (fun _ => ?_)
set_option maxHeartbeats 8000000 in
set_option maxRecDepth 100000 in
theorem dropperref02_both.calls (k : Nat) (A0 : Option Addr) (c0 : Nat) (l0 : List Int) (A1 : Option Addr) (c1 : Nat) (l1 : List Int) (r : Bool) (w : World) (hr0 : Kd.C (Kd.int .i64) w A0 l0.length l0) (hc0 : l0.length ≤ c0) (hr1 : Kd.C (Kd.int .i64) w A1 l1.length l1) (hc1 : l1.length ≤ c1) (h : dropperref02_both.f k l0 l1 = some r) :
    Calls Try.prog 70 #[.slice A0 l0.length c0, .slice A1 l1.length c1] w fun e w' => e = .returned (.bool r) ∧ Drawn0 w w' := by
  have HR0 := Aside0.mk hr0
  have HC0 := Aside0.mk hc0
  clear hr0 hc0
  have HR1 := Aside0.mk hr1
  have HC1 := Aside0.mk hc1
  clear hr1 hc1
  have H : (if (l0.length : Int) ≤ 30 then ((dropperref02_heights.f k l0 (l1.length : Int)).bind fun t101 => (if t101 = true then ((dropperref02_heights.f k l1 (l0.length : Int)).bind fun t102 => (some t102)) else (some false))) else (some false)) = some r := h
  clear h
  by_cases c3 : (l0.length : Int) ≤ 30
  rotate_left
  · rw [if_neg c3] at H
    have c3b0 : decide ((l0.length : Int) ≤ 30) = false := decide_eq_false c3
    have c3b1 : decide (l0.length ≤ 30) = false := decide_eq_false (by omega)
    clear c3
    obtain rfl := Option.some.inj H
    go_enter Try.func70, Try.ntmps70
    go_wp2
    go_ret
    exact ⟨by first | rfl | (simp; done) | (simp [*]; done), by repeat (first | exact Drawn0.refl _ | apply Drawn0.step)⟩

  rw [if_pos c3] at H
  have c3b0 : decide ((l0.length : Int) ≤ 30) = true := decide_eq_true c3
  have c3b1 : decide (l0.length ≤ 30) = true := decide_eq_true (by omega)
  clear c3
  replace H := Option.bind_eq_some_iff.mp H
  obtain ⟨t101, A40, H⟩ := H
  replace H : (if t101 = true then ((dropperref02_heights.f k l1 (l0.length : Int)).bind fun t102 => (some t102)) else (some false)) = some r := H
  have A4 := Aside0.mk A40
  clear A40
  by_cases c5 : t101 = true
  rotate_left
  · replace c5 := Bool.eq_false_iff.mpr c5
    subst c5
    have H1 : (some false) = some r := by rw [if_neg (show ¬ (false = true) by decide)] at H; exact H
    clear H
    have H := H1
    clear H1
    obtain rfl := Option.some.inj H
    go_enter Try.func70, Try.ntmps70
    go_wp2_with (first | (go_at_call 74; (with_reducible refine (dropperref02_heights.calls k _ _ l0 (l1.length : Int) false _ ?side1 ?side2 A4.out).mono ?_); (case side1 => repeat (first | exact HR0.out | (with_reducible refine Kd.C_alloc ?_ _) | (with_reducible refine Kd.C_drewN ?_ _) | (with_reducible refine Kd.C_drew ?_))); (case side2 => exact HC0.out); rintro e w' ⟨rfl, ⟨nd, rfl⟩⟩))
    go_ret
    exact ⟨by first | rfl | (simp; done) | (simp [*]; done), by repeat (first | exact Drawn0.refl _ | apply Drawn0.step)⟩
  subst c5
  have H1 : ((dropperref02_heights.f k l1 (l0.length : Int)).bind fun t102 => (some t102)) = some r := by rw [if_pos rfl] at H; exact H
  clear H
  have H := H1
  clear H1
  replace H := Option.bind_eq_some_iff.mp H
  obtain ⟨t102, A60, H⟩ := H
  replace H : (some t102) = some r := H
  have A6 := Aside0.mk A60
  clear A60
  obtain rfl := Option.some.inj H
  go_enter Try.func70, Try.ntmps70
  go_wp2_with (first | (go_at_call 74; (with_reducible refine (dropperref02_heights.calls k _ _ l0 (l1.length : Int) true _ ?side1 ?side2 A4.out).mono ?_); (case side1 => repeat (first | exact HR0.out | (with_reducible refine Kd.C_alloc ?_ _) | (with_reducible refine Kd.C_drewN ?_ _) | (with_reducible refine Kd.C_drew ?_))); (case side2 => exact HC0.out); rintro e w' ⟨rfl, ⟨nd, rfl⟩⟩) | (go_at_call 74; (with_reducible refine (dropperref02_heights.calls k _ _ l1 (l0.length : Int) t102 _ ?side1 ?side2 A6.out).mono ?_); (case side1 => repeat (first | exact HR1.out | (with_reducible refine Kd.C_alloc ?_ _) | (with_reducible refine Kd.C_drewN ?_ _) | (with_reducible refine Kd.C_drew ?_))); (case side2 => exact HC1.out); rintro e w' ⟨rfl, ⟨nd, rfl⟩⟩))
  go_ret
  exact ⟨by first | rfl | (simp; done) | (simp [*]; done), by repeat (first | exact Drawn0.refl _ | apply Drawn0.step)⟩
end Go.Proofs.Ytciepmpadcpkbaa.G
end
section
namespace Go.Proofs.Ytciepmpadcpkbaa.G
open Go.RowKit Go.Proofs.YtciepmpadcpkbaaW.PrintWords Go.Proofs.YtciepmpadcpkbaaW.PrintLast Go.Proofs.YtciepmpadcpkbaaW.PrintMore
attribute [local go_sem] max2_int min2_int max_two min_two max_three min_three max_four min_four   -- for this text's walks alone
set_option linter.unusedVariables false
set_option linter.unusedSimpArgs false

/-! ### dropperref02_Meet: function 39 -/
def dropperref02_Meet.l0 : Nat → List Int → List Int → List Int → Int → Option (List Int × Int)
  | 0, _, _, _, _ => none
  | k + 1, x0, x1, x6, x7 => if x7 < (x0.length : Int) then (if 0 ≤ x7 then (if x7 < (x1.length : Int) then (if x6.length < 17592186044416 then (dropperref02_Meet.l0 k x0 x1 (x6 ++ [mn (rd x0 x7) (rd x1 x7)]) (wrap64 (x7 + 1))) else (none)) else (none)) else (none)) else (some (x6, 0))
def dropperref02_Meet.f (k : Nat) (l0 : List Int) (l1 : List Int) : Option (List Int × Int) := (dropperref02_both.f k l0 l1).bind fun t101 => (if t101 = true then (dropperref02_Meet.l0 k l0 l1 ([] : List Int) 0) else (some (([] : List Int), 2)))
theorem dropperref02_Meet.mono_l : ∀ k, (∀ y0 y1 y2 y3, LeO (dropperref02_Meet.l0 k y0 y1 y2 y3) (dropperref02_Meet.l0 (k + 1) y0 y1 y2 y3))
  | 0 => fun _ _ _ _ r h => by simp [dropperref02_Meet.l0] at h
  | k + 1 => by
    have ih0 := dropperref02_Meet.mono_l k
    · intro y0 y1 y2 y3
      unfold dropperref02_Meet.l0
      repeat' first
      | (with_reducible exact ih0 _ _ _ _)
      | (with_reducible exact dropperref02_both.mono _ _ _)
      | (with_reducible exact LeO.refl _)
      | (with_reducible exact LeO.none _)
      | (with_reducible refine LeO.ite ?_ ?_)
      | (with_reducible refine LeO.bind ?_ (fun _ => ?_))
      | exact ih0 _ _ _ _
      | exact dropperref02_both.mono _ _ _
      | exact LeO.none _
      | refine LeO.ite ?_ ?_
      | refine LeO.bind ?_ (fun _ => ?_)
theorem dropperref02_Meet.mono : ∀ a0 a1 k, LeO (dropperref02_Meet.f k a0 a1) (dropperref02_Meet.f (k + 1) a0 a1) := by
  intro a0 a1 k
  have ih0 := dropperref02_Meet.mono_l k
  unfold dropperref02_Meet.f
  repeat' first
      | (with_reducible exact ih0 _ _ _ _)
      | (with_reducible exact dropperref02_both.mono _ _ _)
      | (with_reducible exact LeO.refl _)
      | (with_reducible exact LeO.none _)
      | (with_reducible refine LeO.ite ?_ ?_)
      | (with_reducible refine LeO.bind ?_ (fun _ => ?_))
      | exact ih0 _ _ _ _
      | exact dropperref02_both.mono _ _ _
      | exact LeO.none _
      | refine LeO.ite ?_ ?_
      | refine LeO.bind ?_ (fun _ => ?_)
def dropperref02_Meet.T7 : Bool × List (List Nat × List Nat) := (true, [([], []), ([], []), ([], []), ([1, 2], [1, 2]), ([3], [3]), ([], []), ([], []), ([5, 6], [5, 6]), ([7], [7]), ([4, 8], [4, 8]), ([9], [9]), ([0, 10], [0, 10]), ([11, 11, 0, 1, 2, 3, 4, 5, 6, 7, 8, 9, 10, 11], [0, 11])])
def dropperref02_Meet.B7 : List Nat := [0, 0, 0, 6, 14, 0, 0, 96, 224, 510, 1022, 2047, 4095]
theorem dropperref02_Meet.tab7 : rtab .any (opsOf Try.f39 7) = dropperref02_Meet.T7 := by kernel_rfl
theorem dropperref02_Meet.bits7 : waitsOk dropperref02_Meet.T7.2 dropperref02_Meet.B7 = true := by kernel_rfl
set_option maxHeartbeats 8000000 in
set_option maxRecDepth 100000 in
theorem dropperref02_Meet.calls (k : Nat) (A0 : Option Addr) (c0 : Nat) (l0 : List Int) (A1 : Option Addr) (c1 : Nat) (l1 : List Int) (r1 : List Int) (r2 : Int) (w : World) (hr0 : Kd.C (Kd.int .i64) w A0 l0.length l0) (hc0 : l0.length ≤ c0) (hr1 : Kd.C (Kd.int .i64) w A1 l1.length l1) (hc1 : l1.length ≤ c1) (h : dropperref02_Meet.f k l0 l1 = some (r1, r2)) :
    Calls Try.prog 39 #[.slice A0 l0.length c0, .slice A1 l1.length c1] w fun e w' => ∃ v0_ : Value, e = .returned (.tuple #[v0_, .int .i64 r2]) ∧ Kd.R (Kd.int .i64) 3 w' w.heap.size (fun _ => True) v0_ r1 ∧ Below w.heap.size w w' := by
  have HR0 := Aside0.mk hr0
  have HC0 := Aside0.mk hc0
  clear hr0 hc0
  have HR1 := Aside0.mk hr1
  have HC1 := Aside0.mk hc1
  clear hr1 hc1
  have HB := Aside0.mk (Below.refl w.heap.size w)
  have H : ((dropperref02_both.f k l0 l1).bind fun t101 => (if t101 = true then (dropperref02_Meet.l0 k l0 l1 ([] : List Int) 0) else (some (([] : List Int), 2)))) = some (r1, r2) := h
  clear h
  replace H := Option.bind_eq_some_iff.mp H
  obtain ⟨t101, A30, H⟩ := H
  replace H : (if t101 = true then (dropperref02_Meet.l0 k l0 l1 ([] : List Int) 0) else (some (([] : List Int), 2))) = some (r1, r2) := H
  have A3 := Aside0.mk A30
  clear A30
  by_cases c4 : t101 = true
  rotate_left
  · replace c4 := Bool.eq_false_iff.mpr c4
    subst c4
    have H1 : (some (([] : List Int), 2)) = some (r1, r2) := by rw [if_neg (show ¬ (false = true) by decide)] at H; exact H
    clear H
    have H := H1
    clear H1
    simp only [Option.some.injEq, Prod.mk.injEq] at H
    obtain ⟨rfl, rfl⟩ := H
    go_enter Try.func39, Try.ntmps39
    go_wp2_with (first | ((with_reducible refine gate_callee (f := 70) rfl ?_); refine goesL_ (some 10) rfl rfl Try.func70 (by kernel_rfl) rfl #[.slice A0 l0.length c0, .slice A1 l1.length c1] rfl (by (try simp only [List.map_toArray, List.map_cons, List.map_nil]); first | done | rfl | (simp only [List.length_drop, List.length_take]; rfl)) ?_; (with_reducible refine (dropperref02_both.calls k _ _ l0 _ _ l1 false _ ?side1 ?side2 ?side3 ?side4 A3.out).mono ?_); (case side1 => repeat (first | exact HR0.out | (with_reducible refine Kd.C_alloc ?_ _) | (with_reducible refine Kd.C_drewN ?_ _) | (with_reducible refine Kd.C_drew ?_))); (case side2 => exact HC0.out); (case side3 => repeat (first | exact HR1.out | (with_reducible refine Kd.C_alloc ?_ _) | (with_reducible refine Kd.C_drewN ?_ _) | (with_reducible refine Kd.C_drew ?_))); (case side4 => exact HC1.out); rintro e w' ⟨rfl, ⟨nd, rfl⟩⟩; refine ⟨_, rfl, ?_⟩))
    go_ret2
    exact ⟨_, by first | rfl | (simp [errW_none, errW_some] <;> rfl) | (simp [*, errW_none, errW_some] <;> rfl), by first | exact Kd.R_nil _ _ _ _ _ | exact Kd.N_nil _ _ _ _ _ | exact Kd.V_nil _ _ _ _ _ | exact Kd.Q_nil _ _ _ _ _ | exact Kd.S_nil _ _ _ _ _, by repeat (first | (with_reducible first | exact HB.out | apply below_alloc | apply pw_below_drewN | apply below_drew1) | exact HB.out)⟩

  subst c4
  have H1 : (dropperref02_Meet.l0 k l0 l1 ([] : List Int) 0) = some (r1, r2) := by rw [if_pos rfl] at H; exact H
  clear H
  have H := H1
  clear H1
  have H' := Aside0.mk H
  clear H
  go_enter Try.func39, Try.ntmps39
  go_wp2_with (first | ((with_reducible refine gate_callee (f := 70) rfl ?_); refine goesL_ (some 10) rfl rfl Try.func70 (by kernel_rfl) rfl #[.slice A0 l0.length c0, .slice A1 l1.length c1] rfl (by (try simp only [List.map_toArray, List.map_cons, List.map_nil]); first | done | rfl | (simp only [List.length_drop, List.length_take]; rfl)) ?_; (with_reducible refine (dropperref02_both.calls k _ _ l0 _ _ l1 true _ ?side1 ?side2 ?side3 ?side4 A3.out).mono ?_); (case side1 => repeat (first | exact HR0.out | (with_reducible refine Kd.C_alloc ?_ _) | (with_reducible refine Kd.C_drewN ?_ _) | (with_reducible refine Kd.C_drew ?_))); (case side2 => exact HC0.out); (case side3 => repeat (first | exact HR1.out | (with_reducible refine Kd.C_alloc ?_ _) | (with_reducible refine Kd.C_drewN ?_ _) | (with_reducible refine Kd.C_drew ?_))); (case side4 => exact HC1.out); rintro e w' ⟨rfl, ⟨nd, rfl⟩⟩; refine ⟨_, rfl, ?_⟩))
  go_loopg [6, 7] k (fun kq v6 v7 w' => ∃ (x6_1 : List Int) (x7_1 : Int), v7 = .int .i64 x7_1 ∧ Aside0 (dropperref02_Meet.l0 kq l0 l1 x6_1 x7_1 = some (r1, r2)) ∧ Aside0 (kq ≤ k) ∧ Aside0 (Kd.R (Kd.int .i64) 3 w' w.heap.size (fun _ => True) v6 x6_1) ∧ Aside0 (Below w.heap.size w w'))
  case atStart => exact ⟨(([] : List Int)), (0), (by first | rfl | (simp; done) | (simp [*]; done)), H', ⟨Nat.le_refl _⟩, ⟨by first | exact Kd.R_nil _ _ _ _ _ | exact Kd.N_nil _ _ _ _ _ | exact Kd.V_nil _ _ _ _ _ | exact Kd.Q_nil _ _ _ _ _ | exact Kd.S_nil _ _ _ _ _⟩, ⟨by repeat (first | (with_reducible first | exact HB.out | apply below_alloc | apply pw_below_drewN | apply below_drew1) | exact HB.out)⟩⟩
  case round =>
    clear H'
    try clear c1
    try clear p2
    try clear c3
    try clear c4
    obtain ⟨x6_1, x7_1, rfl, HA, HK1, HO_6, HB⟩ := hrel
    cases gk with
    | zero => exact absurd HA.out (by simp [dropperref02_Meet.l0])
    | succ k1 =>
      have H := HA.out
      clear HA
      simp only [dropperref02_Meet.l0] at H
      by_cases c5 : x7_1 < (l0.length : Int)
      rotate_left
      · rw [if_neg c5] at H
        have c5b0 : decide (x7_1 < (l0.length : Int)) = false := decide_eq_false c5
        clear c5
        simp only [Option.some.injEq, Prod.mk.injEq] at H
        obtain ⟨rfl, rfl⟩ := H
        go_wp2
        go_ret2
        exact ⟨_, by first | rfl | (simp [errW_none, errW_some] <;> rfl) | (simp [*, errW_none, errW_some] <;> rfl), by (with_reducible repeat (first | apply Kd.R_alloc | apply Kd.R_drewN | apply Kd.R_drew)); exact HO_6.out, by repeat (first | (with_reducible first | exact HB.out | apply below_alloc | apply pw_below_drewN | apply below_drew1) | exact HB.out)⟩
      rw [if_pos c5] at H
      have c5b0 : decide (x7_1 < (l0.length : Int)) = true := decide_eq_true c5
      clear c5
      by_cases c6 : 0 ≤ x7_1
      rotate_left
      · rw [if_neg c6] at H
        exact absurd H (by simp)
      rw [if_pos c6] at H
      have c6b0 : decide (0 ≤ x7_1) = true := decide_eq_true c6
      clear c6
      by_cases c7 : x7_1 < (l1.length : Int)
      rotate_left
      · rw [if_neg c7] at H
        exact absurd H (by simp)
      rw [if_pos c7] at H
      have c7b0 : decide (x7_1 < (l1.length : Int)) = true := decide_eq_true c7
      clear c7
      obtain ⟨ji8, hji8⟩ : ∃ j_ : Int, (mn (rd l0 x7_1) (rd l1 x7_1)) = j_ := ⟨_, rfl⟩
      replace H : (if x6_1.length < 17592186044416 then (dropperref02_Meet.l0 k1 l0 l1 (x6_1 ++ [ji8]) (wrap64 (x7_1 + 1))) else (none)) = some (r1, r2) := by first | (rw [hji8] at H; exact H) | (simp only [hji8] at H ⊢; exact H)
      have hji8_ : (if (rd l1 x7_1) < (rd l0 x7_1) then (rd l1 x7_1) else (rd l0 x7_1)) = ji8 := hji8
      by_cases c9 : x6_1.length < 17592186044416
      rotate_left
      · rw [if_neg c9] at H
        exact absurd H (by simp)
      rw [if_pos c9] at H
      have LMc9 := Aside0.mk c9
      clear c9
      obtain ⟨y104, hy104⟩ : ∃ y_ : List Int, y_ = (x6_1 ++ [ji8]) := ⟨_, rfl⟩
      replace H : (dropperref02_Meet.l0 k1 l0 l1 y104 (wrap64 (x7_1 + 1))) = some (r1, r2) := by first | (rw [hy104]; with_reducible exact H) | (have H2_ := (Option.bind_some _ _).symm.trans H; rw [hy104]; with_reducible exact H2_) | (have H2_ := (Option.bind_some _ _).symm.trans H; with_reducible exact H2_) | with_reducible exact H | (rw [hy104]; exact H) | exact H
      have Ny104 := Aside0.mk hy104
      clear hy104
      have H' := Aside0.mk H
      clear H
      try go_wp2
      have n0_ := Aside0.mk (Kd.R_drew HO_6.out)
      have n1_ := Aside0.mk (below_drew1 HB.out)
      clear HO_6
      clear HB
      have HO_6 := n0_
      have HB := n1_
      clear n0_ n1_
      have p102 : 0 ≤ (x7_1 : Int) := of_decide_eq_true (by first | (with_reducible assumption) | assumption)
      have q102 : x7_1 < (l0.length : Int) := of_decide_eq_true (by first | (with_reducible assumption) | assumption)
      obtain ⟨ad102, e102, hx102_0⟩ := Kd.at_int HR0.out x7_1 p102 q102
      have hw102_0 := hx102_0
      cases e102
      replace hx102_0 := (HB.out.cell (World.block_lt_of_cell? w _ hx102_0)).trans hx102_0
      replace p102 := eq_true p102
      replace q102 := eq_true q102
      have p103 : 0 ≤ (x7_1 : Int) := of_decide_eq_true (by first | (with_reducible assumption) | assumption)
      have q103 : x7_1 < (l1.length : Int) := of_decide_eq_true (by first | (with_reducible assumption) | assumption)
      obtain ⟨ad103, e103, hx103_0⟩ := Kd.at_int HR1.out x7_1 p103 q103
      have hw103_0 := hx103_0
      cases e103
      replace hx103_0 := (HB.out.cell (World.block_lt_of_cell? w _ hx103_0)).trans hx103_0
      replace p103 := eq_true p103
      replace q103 := eq_true q103
      refine start_ (n := 13) (S := fun w' => w'.cell? (ad102.add (x7_1).toNat) = some (.int .i64 (rd l0 x7_1)) ∧ w'.cell? (ad103.add (x7_1).toNat) = some (.int .i64 (rd l1 x7_1))) (ds := []) (mkB 13 0) (by kernel_rfl) rfl rfl ⟨(pw_cell_below HB.out hw102_0), (pw_cell_below HB.out hw103_0)⟩ (fun hHeld => ?_); refine with_tabW dropperref02_Meet.tab7 dropperref02_Meet.bits7 (fun HT_ HW_ => ?_)
      generalize wr.drew = w10 at HO_6 HB hx102_0 hx103_0 hHeld ⊢
      refine pr_ 0 (some 18) (mkB 13 1) HT_ ?_
      refine pr_ 1 (some 19) (mkB 13 3) HT_ ?_
      refine pr_ 2 (some 20) (mkB 13 7) HT_ ?_
      refine pr_ 3 (some 21) (mkB 13 15) HT_ ?_
      refine pr_ 5 (some 23) (mkB 13 47) HT_ ?_
      refine pr_ 6 (some 24) (mkB 13 111) HT_ ?_
      refine pr_ 7 (some 25) (mkB 13 239) HT_ ?_
      refine take_ (i := 4) (N := some 22) (v := ?_) (a' := ?_) (mkB 13 255) rfl rfl (take_ofW HT_.out HW_.out (by kernel_rfl)) (fun _ _ _ h => h) (Or.inl ⟨by rfl, ?_⟩) hHeld ?_ ?_
      rotate_left
      · rintro w' ⟨s0, s1⟩
        go_simp
        with_reducible rfl
      rotate_left
      · simp only [Act.put, List.setIfInBounds_toArray, List.set_cons_zero, List.set_cons_succ, i64_w, i32_w]
        rfl
      refine take_ (i := 8) (N := some 26) (v := ?_) (a' := ?_) (mkB 13 511) rfl rfl (take_ofW HT_.out HW_.out (by kernel_rfl)) (fun _ _ _ h => h) (Or.inl ⟨by rfl, ?_⟩) hHeld ?_ ?_
      rotate_left
      · rintro w' ⟨s0, s1⟩
        go_simp
        with_reducible rfl
      rotate_left
      · simp only [Act.put, List.setIfInBounds_toArray, List.set_cons_zero, List.set_cons_succ, i64_w, i32_w]
        rfl
      refine pr_ 9 (some 27) (mkB 13 1023) HT_ ?_
      refine one_ (i := 10) (N := some 28) (mkB 13 2047) rfl rfl (one_of HT_.out (by kernel_rfl)) (by decide) (fun K hK => ?_)
      refine value_ (w1 := ?_) (v := ?_) (by rfl) rfl ?_ ?_
      rotate_left 2
      · go_simp
        constructor
        · rfl
        · rfl
      refine hK.out _ _ ⟨(World.cell?_alloc_lt _ _ _ (World.block_lt_of_cell? _ _ ((pw_cell_below HB.out hw102_0)))).trans ((pw_cell_below HB.out hw102_0)), (World.cell?_alloc_lt _ _ _ (World.block_lt_of_cell? _ _ ((pw_cell_below HB.out hw103_0)))).trans ((pw_cell_below HB.out hw103_0))⟩ (fun hHeld => ?_)
      clear hK K
      refine norm_ (a' := ?_) ?_ ?_
      rotate_left
      · show Act.put _ (some 28) _ = _
        simp only [Act.put, List.setIfInBounds_toArray, List.set_cons_zero, List.set_cons_succ, i64_w, i32_w]
        rfl
      refine one_ (i := 11) (N := some 29) (mkB 13 4095) rfl rfl (one_of HT_.out (by kernel_rfl)) (by decide) (fun K hK => ?_)
      refine Kd.R_append_step (Kd.int .i64) (w0 := w) w.heap.size (by rfl) (.tmp 18) (.tmp 28) 34 3 (.int .i64 0) 8 rfl Try.underlying34 info3 rfl (by decide) (by omega) u6 x6_1 ji8 [.int .i64 ji8] (fun _ => True) (fun _ => False) rfl rfl ?aP (fun _ hk => hk.elim) ?aF ?aO ?aB ?aS ?aL ?_
      (case aP => exact rfl)
      (case aB => exact (by repeat (first | (with_reducible first | exact HB.out | apply below_alloc | apply pw_below_drewN | apply below_drew1) | exact HB.out)))
      (case aF => exact (fun _ _ => trivial))
      (case aO => exact (by (with_reducible repeat (first | apply Kd.R_alloc | apply Kd.R_drewN | apply Kd.R_drew)); exact HO_6.out))
      (case aS => exact (below_size (by repeat (first | (with_reducible first | exact HB.out | apply below_alloc | apply pw_below_drewN | apply below_drew1) | exact HB.out))))
      (case aL => have := LMc9.out; omega)
      intro v105 w11 ho hb hg hat
      rw [← Ny104.out] at ho
      have n0_ := Aside0.mk (hb)
      have n1_ := Aside0.mk (ho)
      clear HB
      clear HO_6
      have HB := n0_
      have HO106 := n1_
      clear n0_ n1_
      clear ho hb hg hat
      refine hK.out _ _ ⟨(pw_cell_below HB.out hw102_0), (pw_cell_below HB.out hw103_0)⟩ (fun hHeld => ?_)
      clear hK K
      refine norm_ (a' := ?_) ?_ ?_
      rotate_left
      · show Act.put _ (some 29) _ = _
        simp only [Act.put, List.setIfInBounds_toArray, List.set_cons_zero, List.set_cons_succ, i64_w, i32_w]
        rfl
      refine pr_ 12 (some 6) (mkB 13 8191) HT_ ?_
      refine done_ (done_of HT_.out (by kernel_rfl)) ?_
      try go_wp2
      go_roundg k1
      case measure => have := HK1.out; omega
      case rel => exact ⟨(y104), (wrap64 (x7_1 + 1)), (by first | rfl | (simp; done) | (simp [*]; done)), H', ⟨by have := HK1.out; omega⟩, ⟨by (with_reducible repeat (first | apply Kd.R_alloc | apply Kd.R_drewN | apply Kd.R_drew)); exact HO106.out⟩, ⟨by repeat (first | (with_reducible first | exact HB.out | apply below_alloc | apply pw_below_drewN | apply below_drew1) | exact HB.out)⟩⟩
end Go.Proofs.Ytciepmpadcpkbaa.G
end
