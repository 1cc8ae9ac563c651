-- Written by this session's driver (wip/tools/printmore.py) over the kit's print, with hand-written parts.
import Derived.Test.YtiapmkndgalgnaaGBase
namespace Go.Proofs.Ytiapmkndgalgnaa.G
open Go.RowKit Go.Proofs.YtiapmkndgalgnaaW.PrintWords Go.Proofs.YtiapmkndgalgnaaW.PrintLast Go.Proofs.YtiapmkndgalgnaaW.PrintMore
attribute [local go_sem] max2_int min2_int max_two min_two max_three min_three max_four min_four   -- for this text's walks alone
set_option linter.unusedVariables false
set_option linter.unusedSimpArgs false

/-! ### dropperref03_forbids: function 54 -/
def dropperref03_forbids.f (l0 : List (S73)) (a1_0 : Int) (a1_1 : Int) (a1_2 : Int) : Option (Bool) := if 0 ≤ a1_0 then (if a1_0 < (l0.length : Int) then (if 0 ≤ a1_1 then (if a1_1 < (l0.length : Int) then (if 0 ≤ a1_2 then (if a1_2 < (l0.length : Int) then (if (wrap64 (((rd_T73 l0 a1_1).f2) * (wrap64 (((rd_T73 l0 a1_2).f0) - ((rd_T73 l0 a1_0).f0))))) < (wrap64 ((wrap64 (((rd_T73 l0 a1_0).f1) * (wrap64 (((rd_T73 l0 a1_2).f0) - ((rd_T73 l0 a1_1).f0))))) + (wrap64 (((rd_T73 l0 a1_2).f1) * (wrap64 (((rd_T73 l0 a1_1).f0) - ((rd_T73 l0 a1_0).f0))))))) then (some true) else (some (decide ((wrap64 (((rd_T73 l0 a1_1).f1) * (wrap64 (((rd_T73 l0 a1_2).f0) - ((rd_T73 l0 a1_0).f0))))) > (wrap64 ((wrap64 (((rd_T73 l0 a1_0).f2) * (wrap64 (((rd_T73 l0 a1_2).f0) - ((rd_T73 l0 a1_1).f0))))) + (wrap64 (((rd_T73 l0 a1_2).f2) * (wrap64 (((rd_T73 l0 a1_1).f0) - ((rd_T73 l0 a1_0).f0))))))))))) else (none)) else (none)) else (none)) else (none)) else (none)) else (none)
def dropperref03_forbids.T1 : Bool × List (List Nat × List Nat) := (true, [([], []), ([], []), ([1], [1]), ([0, 2], [0, 2]), ([3], [3]), ([], []), ([], []), ([6], [6]), ([5, 7], [5, 7]), ([8], [8]), ([], []), ([], []), ([11], [11]), ([10, 12], [10, 12]), ([13], [13]), ([], []), ([], []), ([], []), ([15, 4, 0, 1, 2, 3, 4, 15, 16, 17], [4, 15]), ([16, 9, 18, 0, 1, 2, 3, 4, 5, 6, 7, 8, 9, 15, 16, 17, 18], [9, 16]), ([17, 14, 19, 0, 1, 2, 3, 4, 5, 6, 7, 8, 9, 10, 11, 12, 13, 14, 15, 16, 17, 18, 19], [14, 17])])
def dropperref03_forbids.B1 : List Nat := [0, 0, 2, 7, 15, 0, 0, 64, 224, 480, 0, 0, 2048, 7168, 15360, 0, 0, 0, 229407, 492543, 1048575]
theorem dropperref03_forbids.tab1 : rtab .any (opsOf Try.f54 1) = dropperref03_forbids.T1 := by kernel_rfl
theorem dropperref03_forbids.bits1 : waitsOk dropperref03_forbids.T1.2 dropperref03_forbids.B1 = true := by kernel_rfl
set_option maxHeartbeats 8000000 in
set_option maxRecDepth 100000 in
theorem dropperref03_forbids.calls (A0 : Option Addr) (c0 : Nat) (l0 : List (S73)) (a1_0 : Int) (a1_1 : Int) (a1_2 : Int) (r : Bool) (w : World) (hr0 : Kd.C k73 w A0 l0.length l0) (hc0 : l0.length ≤ c0) (h : dropperref03_forbids.f l0 a1_0 a1_1 a1_2 = some r) :
  Calls Try.prog 54 #[.slice A0 l0.length c0, .agg #[.int .i64 a1_0, .int .i64 a1_1, .int .i64 a1_2]] w fun e w' => e = .returned (.bool r) ∧ Below w.heap.size w w' := by
 have hu31 := Try.underlying31; have hu73 := Try.underlying73; have HR0 := A_ hr0; have HC0 := A_ hc0; clear hr0 hc0; have HB := A_ (Below.refl w.heap.size w); have H : (if 0 ≤ a1_0 then (if a1_0 < (l0.length : Int) then (if 0 ≤ a1_1 then (if a1_1 < (l0.length : Int) then (if 0 ≤ a1_2 then (if a1_2 < (l0.length : Int) then (if (wrap64 (((rd_T73 l0 a1_1).f2) * (wrap64 (((rd_T73 l0 a1_2).f0) - ((rd_T73 l0 a1_0).f0))))) < (wrap64 ((wrap64 (((rd_T73 l0 a1_0).f1) * (wrap64 (((rd_T73 l0 a1_2).f0) - ((rd_T73 l0 a1_1).f0))))) + (wrap64 (((rd_T73 l0 a1_2).f1) * (wrap64 (((rd_T73 l0 a1_1).f0) - ((rd_T73 l0 a1_0).f0))))))) then (some true) else (some (decide ((wrap64 (((rd_T73 l0 a1_1).f1) * (wrap64 (((rd_T73 l0 a1_2).f0) - ((rd_T73 l0 a1_0).f0))))) > (wrap64 ((wrap64 (((rd_T73 l0 a1_0).f2) * (wrap64 (((rd_T73 l0 a1_2).f0) - ((rd_T73 l0 a1_1).f0))))) + (wrap64 (((rd_T73 l0 a1_2).f2) * (wrap64 (((rd_T73 l0 a1_1).f0) - ((rd_T73 l0 a1_0).f0))))))))))) else (none)) else (none)) else (none)) else (none)) else (none)) else (none)) = some r := h; clear h; by_cases c3 : 0 ≤ a1_0; rotate_left
 ·rw [if_neg c3] at H
  exact absurd H (by simp)

 rw [if_pos c3] at H; have c3b0 : decide (0 ≤ a1_0) = true := decide_eq_true c3; clear c3; by_cases c4 : a1_0 < (l0.length : Int); rotate_left
 ·rw [if_neg c4] at H
  exact absurd H (by simp)
 rw [if_pos c4] at H; have c4b0 : decide (a1_0 < (l0.length : Int)) = true := decide_eq_true c4; clear c4; by_cases c5 : 0 ≤ a1_1; rotate_left
 ·rw [if_neg c5] at H
  exact absurd H (by simp)
 rw [if_pos c5] at H; have c5b0 : decide (0 ≤ a1_1) = true := decide_eq_true c5; clear c5; by_cases c6 : a1_1 < (l0.length : Int); rotate_left
 ·rw [if_neg c6] at H
  exact absurd H (by simp)
 rw [if_pos c6] at H; have c6b0 : decide (a1_1 < (l0.length : Int)) = true := decide_eq_true c6; clear c6; by_cases c7 : 0 ≤ a1_2; rotate_left
 ·rw [if_neg c7] at H
  exact absurd H (by simp)
 rw [if_pos c7] at H; have c7b0 : decide (0 ≤ a1_2) = true := decide_eq_true c7; clear c7; by_cases c8 : a1_2 < (l0.length : Int); rotate_left
 ·rw [if_neg c8] at H
  exact absurd H (by simp)
 rw [if_pos c8] at H; have c8b0 : decide (a1_2 < (l0.length : Int)) = true := decide_eq_true c8; clear c8; by_cases c9 : (wrap64 (((rd_T73 l0 a1_1).f2) * (wrap64 (((rd_T73 l0 a1_2).f0) - ((rd_T73 l0 a1_0).f0))))) < (wrap64 ((wrap64 (((rd_T73 l0 a1_0).f1) * (wrap64 (((rd_T73 l0 a1_2).f0) - ((rd_T73 l0 a1_1).f0))))) + (wrap64 (((rd_T73 l0 a1_2).f1) * (wrap64 (((rd_T73 l0 a1_1).f0) - ((rd_T73 l0 a1_0).f0)))))))
 ·rw [if_pos c9] at H
  have c9b0 : decide ((wrap64 (((rd_T73 l0 a1_1).f2) * (wrap64 (((rd_T73 l0 a1_2).f0) - ((rd_T73 l0 a1_0).f0))))) < (wrap64 ((wrap64 (((rd_T73 l0 a1_0).f1) * (wrap64 (((rd_T73 l0 a1_2).f0) - ((rd_T73 l0 a1_1).f0))))) + (wrap64 (((rd_T73 l0 a1_2).f1) * (wrap64 (((rd_T73 l0 a1_1).f0) - ((rd_T73 l0 a1_0).f0)))))))) = true := decide_eq_true c9; clear c9; obtain rfl := Option.some.inj H
  go_enter Try.func54, Try.ntmps54
  try go_wp2_with (first | ((with_reducible refine gate_dst (N := 3) rfl ?_); refine bxW 3 (cs := #[.int .i64 a1_0, .int .i64 a1_1, .int .i64 a1_2]) (t := 31) ?_; intro gb101 hg w10 hbox hb; have n0_ := A_ (below_step (bW0 HB.out) hb); have n1_ := A_ (hbox); have n2_ := A_ ((szG hg (bW0 HB.out))); have n3_ := A_ ((szG hg (bW0 HB.out))); clear HB; have HB := n0_; have BK101 := n1_; have GW101 := n2_; have GE101 := n3_; clear n0_ n1_ n2_ n3_; clear hb hbox hg))
  have n0_ := A_ (blk_drew BK101.out); have n1_ := A_ (below_drew1 HB.out); clear BK101 HB; have BK101 := n0_; have HB := n1_; clear n0_ n1_; have p102 : 0 ≤ (a1_0 : Int) := oD; have q102 : a1_0 < (l0.length : Int) := oD; obtain ⟨ad102, e102, hx102_0, hx102_1, hx102_2⟩ := at_T73 HR0.out a1_0 p102 q102; have hw102_2 := hx102_2; have hw102_1 := hx102_1; have hw102_0 := hx102_0
  cases e102
  replace hx102_0 := (HB.out.cell (World.block_lt_of_cell? w _ hx102_0)).trans hx102_0; replace hx102_1 := (HB.out.cell (World.block_lt_of_cell? w _ hx102_1)).trans hx102_1; replace hx102_2 := (HB.out.cell (World.block_lt_of_cell? w _ hx102_2)).trans hx102_2; replace p102 := eq_true p102; replace q102 := eq_true q102; have p103 : 0 ≤ (a1_1 : Int) := oD; have q103 : a1_1 < (l0.length : Int) := oD; obtain ⟨ad103, e103, hx103_0, hx103_1, hx103_2⟩ := at_T73 HR0.out a1_1 p103 q103; have hw103_2 := hx103_2; have hw103_1 := hx103_1; have hw103_0 := hx103_0
  obtain rfl : ad102 = ad103 := (by injection e103)
  replace hx103_0 := (HB.out.cell (World.block_lt_of_cell? w _ hx103_0)).trans hx103_0; replace hx103_1 := (HB.out.cell (World.block_lt_of_cell? w _ hx103_1)).trans hx103_1; replace hx103_2 := (HB.out.cell (World.block_lt_of_cell? w _ hx103_2)).trans hx103_2; replace p103 := eq_true p103; replace q103 := eq_true q103; have p104 : 0 ≤ (a1_2 : Int) := oD; have q104 : a1_2 < (l0.length : Int) := oD; obtain ⟨ad104, e104, hx104_0, hx104_1, hx104_2⟩ := at_T73 HR0.out a1_2 p104 q104; have hw104_2 := hx104_2; have hw104_1 := hx104_1; have hw104_0 := hx104_0
  obtain rfl : ad102 = ad104 := (by injection e104)
  replace hx104_0 := (HB.out.cell (World.block_lt_of_cell? w _ hx104_0)).trans hx104_0; replace hx104_1 := (HB.out.cell (World.block_lt_of_cell? w _ hx104_1)).trans hx104_1; replace hx104_2 := (HB.out.cell (World.block_lt_of_cell? w _ hx104_2)).trans hx104_2; replace p104 := eq_true p104; replace q104 := eq_true q104
  refine start_ (n := 21) (S := fun w' => True) (ds := []) (mkB 21 0) (by kernel_rfl) rfl rfl trivial (fun hHeld => ?_); refine with_tabW dropperref03_forbids.tab1 dropperref03_forbids.bits1 (fun HT_ HW_ => ?_)
  generalize w10.drew = w11 at BK101 HB hx102_0 hx102_1 hx102_2 hx103_0 hx103_1 hx103_2 hx104_0 hx104_1 hx104_2 hHeld ⊢; refine pr_ 0 (some 11) (mkB 21 1) HT_ ?_; refine pr_ 5 (some 16) (mkB 21 33) HT_ ?_; refine pr_ 10 (some 21) (mkB 21 1057) HT_ ?_
  refine inv_at [1, 2, 3, 4, 6, 7, 8, 9, 11, 12, 13, 14, 15, 16, 17, 18, 19, 20] (fun a0_ b a w' => ∃ (gb105 : Nat) (gb106 : Nat) (gb107 : Nat) (m15_ : Value) (m16_ : Value) (m17_ : Value), a = putSel a0_ b [(1, 12, .pointer (some ⟨gb101, 0, none⟩)), (2, 13, .int .i64 a1_0), (3, 14, .pointer (some (ad102.add ((a1_0).toNat * 3)))), (4, 15, .agg #[.int .i64 ((rd_T73 l0 a1_0).f0), .int .i64 ((rd_T73 l0 a1_0).f1), .int .i64 ((rd_T73 l0 a1_0).f2)]), (6, 17, .pointer (some ⟨gb101, 1, none⟩)), (7, 18, .int .i64 a1_1), (8, 19, .pointer (some (ad102.add ((a1_1).toNat * 3)))), (9, 20, .agg #[.int .i64 ((rd_T73 l0 a1_1).f0), .int .i64 ((rd_T73 l0 a1_1).f1), .int .i64 ((rd_T73 l0 a1_1).f2)]), (11, 22, .pointer (some ⟨gb101, 2, none⟩)), (12, 23, .int .i64 a1_2), (13, 24, .pointer (some (ad102.add ((a1_2).toNat * 3)))), (14, 25, .agg #[.int .i64 ((rd_T73 l0 a1_2).f0), .int .i64 ((rd_T73 l0 a1_2).f1), .int .i64 ((rd_T73 l0 a1_2).f2)]), (15, 5, m15_), (16, 6, m16_), (17, 7, m17_)] ∧ (w'.heap[gb101]? = some (.cells #[.int .i64 a1_0, .int .i64 a1_1, .int .i64 a1_2] 31 (0, 0))) ∧ (Below w.heap.size w w') ∧ (b 15 = true → b 16 = true → gb106 ≠ gb105) ∧ (b 15 = true → b 16 = true → gb105 ≠ gb106) ∧ (b 15 = true → b 17 = true → gb107 ≠ gb105) ∧ (b 15 = true → b 17 = true → gb105 ≠ gb107) ∧ (b 16 = true → b 17 = true → gb107 ≠ gb106) ∧ (b 16 = true → b 17 = true → gb106 ≠ gb107) ∧ (b 15 = true → b 18 = false → w'.heap[gb105]? = some (.cells #[.int .i64 0, .int .i64 0, .int .i64 0] 73 (0, 0))) ∧ (b 15 = true → w.heap.size ≤ gb105) ∧ (b 15 = true → w.heap.size ≤ gb105) ∧ (b 15 = true → gb101 ≠ gb105) ∧ (b 15 = true → gb105 ≠ gb101) ∧ (b 16 = true → b 19 = false → w'.heap[gb106]? = some (.cells #[.int .i64 0, .int .i64 0, .int .i64 0] 73 (0, 0))) ∧ (b 16 = true → w.heap.size ≤ gb106) ∧ (b 16 = true → w.heap.size ≤ gb106) ∧ (b 16 = true → gb101 ≠ gb106) ∧ (b 16 = true → gb106 ≠ gb101) ∧ (b 17 = true → b 20 = false → w'.heap[gb107]? = some (.cells #[.int .i64 0, .int .i64 0, .int .i64 0] 73 (0, 0))) ∧ (b 17 = true → w.heap.size ≤ gb107) ∧ (b 17 = true → w.heap.size ≤ gb107) ∧ (b 17 = true → gb101 ≠ gb107) ∧ (b 17 = true → gb107 ≠ gb101) ∧ (b 18 = true → w'.heap[gb105]? = some (.cells #[.int .i64 ((rd_T73 l0 a1_0).f0), .int .i64 ((rd_T73 l0 a1_0).f1), .int .i64 ((rd_T73 l0 a1_0).f2)] 73 (0, 0))) ∧ (b 19 = true → w'.heap[gb106]? = some (.cells #[.int .i64 ((rd_T73 l0 a1_1).f0), .int .i64 ((rd_T73 l0 a1_1).f1), .int .i64 ((rd_T73 l0 a1_1).f2)] 73 (0, 0))) ∧ (b 20 = true → w'.heap[gb107]? = some (.cells #[.int .i64 ((rd_T73 l0 a1_2).f0), .int .i64 ((rd_T73 l0 a1_2).f1), .int .i64 ((rd_T73 l0 a1_2).f2)] 73 (0, 0))) ∧ (b 15 = true → (m15_ : Value) = .pointer (some ⟨gb105, 0, none⟩)) ∧ (b 16 = true → (m16_ : Value) = .pointer (some ⟨gb106, 0, none⟩)) ∧ (b 17 = true → (m17_ : Value) = .pointer (some ⟨gb107, 0, none⟩))) HT_.out HW_.out (by kernel_rfl) (by kernel_rfl) ?_ ?_ ?_
  ·exact ⟨0, 0, 0, .bool false, .bool false, .bool false, by simp only [putSel, Bool.false_eq_true, if_false], BK101.out, HB.out, fun h_ => absurd h_ (by decide), fun h_ => absurd h_ (by decide), fun h_ => absurd h_ (by decide), fun h_ => absurd h_ (by decide), fun h_ => absurd h_ (by decide), fun h_ => absurd h_ (by decide), fun h_ => absurd h_ (by decide), fun h_ => absurd h_ (by decide), fun h_ => absurd h_ (by decide), fun h_ => absurd h_ (by decide), fun h_ => absurd h_ (by decide), fun h_ => absurd h_ (by decide), fun h_ => absurd h_ (by decide), fun h_ => absurd h_ (by decide), fun h_ => absurd h_ (by decide), fun h_ => absurd h_ (by decide), fun h_ => absurd h_ (by decide), fun h_ => absurd h_ (by decide), fun h_ => absurd h_ (by decide), fun h_ => absurd h_ (by decide), fun h_ => absurd h_ (by decide), fun h_ => absurd h_ (by decide), fun h_ => absurd h_ (by decide), fun h_ => absurd h_ (by decide), fun h_ => absurd h_ (by decide), fun h_ => absurd h_ (by decide), fun h_ => absurd h_ (by decide)⟩
  ·skip
   clear BK101 HB
   refine steps_cons ?_ ?_
   ·rintro b a w' ⟨gb105, gb106, gb107, m15_, m16_, m17_, ha, Q_BK101, Q_HB, Q_NB106_105, Q_NB105_106, Q_NB107_105, Q_NB105_107, Q_NB107_106, Q_NB106_107, Q_BK105, Q_GW105, Q_GE105, Q_NB101_105, Q_NB105_101, Q_BK106, Q_GW106, Q_GE106, Q_NB101_106, Q_NB106_101, Q_BK107, Q_GW107, Q_GE107, Q_NB101_107, Q_NB107_101, Q_BK105_e18, Q_BK106_e19, Q_BK107_e20, Q_X15_, Q_X16_, Q_X17_⟩ hb_ hon hoff
    refine ⟨_, rfl, fun K hK => ?_⟩
    have e3 : a.tmps[3]? = some (.pointer (some ⟨gb101, 0, none⟩)) := by rw [ha]; exact (putSel_off rfl).trans rfl
    replace ha := A_ ha; have BK101 := A_ Q_BK101; have HB := A_ Q_HB
    refine value_ (w1 := w') (v := .pointer (some ⟨gb101, 0, none⟩)) (by rfl) rfl ?_ ?_
    ·go_simp
     (try simp only [i64_w])
     try rfl
    refine hK.out _ _ ⟨gb105, gb106, gb107, m15_, m16_, m17_, (by rw [ha.out]; exact putSel_upk 0 hb_ rfl rfl rfl), Q_BK101, Q_HB, Q_NB106_105, Q_NB105_106, Q_NB107_105, Q_NB105_107, Q_NB107_106, Q_NB106_107, Q_BK105, Q_GW105, Q_GE105, Q_NB101_105, Q_NB105_101, Q_BK106, Q_GW106, Q_GE106, Q_NB101_106, Q_NB106_101, Q_BK107, Q_GW107, Q_GE107, Q_NB101_107, Q_NB107_101, fun h0_ => absurd ((hoff 18 (by kernel_rfl)).symm.trans h0_) (by decide), fun h0_ => absurd ((hoff 19 (by kernel_rfl)).symm.trans h0_) (by decide), fun h0_ => absurd ((hoff 20 (by kernel_rfl)).symm.trans h0_) (by decide), Q_X15_, Q_X16_, Q_X17_⟩
   refine steps_cons ?_ ?_
   ·rintro b a w' ⟨gb105, gb106, gb107, m15_, m16_, m17_, ha, Q_BK101, Q_HB, Q_NB106_105, Q_NB105_106, Q_NB107_105, Q_NB105_107, Q_NB107_106, Q_NB106_107, Q_BK105, Q_GW105, Q_GE105, Q_NB101_105, Q_NB105_101, Q_BK106, Q_GW106, Q_GE106, Q_NB101_106, Q_NB106_101, Q_BK107, Q_GW107, Q_GE107, Q_NB101_107, Q_NB107_101, Q_BK105_e18, Q_BK106_e19, Q_BK107_e20, Q_X15_, Q_X16_, Q_X17_⟩ hb_ hon hoff
    refine ⟨_, rfl, fun K hK => ?_⟩
    have e12 : a.tmps[12]? = some (.pointer (some ⟨gb101, 0, none⟩)) := by rw [ha]; exact putSel_on (e := (1, 12, .pointer (some ⟨gb101, 0, none⟩))) 0 rfl rfl (hon 1 (by kernel_rfl)) rfl
    replace ha := A_ ha; have BK101 := A_ Q_BK101; have HB := A_ Q_HB; have hc0_ : w'.cell? ⟨gb101, 0, none⟩ = some (.int .i64 a1_0) := (blk_cell BK101.out 0).trans rfl; have hc1_ : w'.cell? ⟨gb101, 1, none⟩ = some (.int .i64 a1_1) := (blk_cell BK101.out 1).trans rfl; have hc2_ : w'.cell? ⟨gb101, 2, none⟩ = some (.int .i64 a1_2) := (blk_cell BK101.out 2).trans rfl
    refine value_ (w1 := w') (v := .int .i64 a1_0) (by rfl) rfl ?_ ?_
    ·go_simp
     (try simp only [i64_w])
     try rfl
    refine hK.out _ _ ⟨gb105, gb106, gb107, m15_, m16_, m17_, (by rw [ha.out]; exact putSel_upk 1 hb_ rfl rfl rfl), Q_BK101, Q_HB, Q_NB106_105, Q_NB105_106, Q_NB107_105, Q_NB105_107, Q_NB107_106, Q_NB106_107, Q_BK105, Q_GW105, Q_GE105, Q_NB101_105, Q_NB105_101, Q_BK106, Q_GW106, Q_GE106, Q_NB101_106, Q_NB106_101, Q_BK107, Q_GW107, Q_GE107, Q_NB101_107, Q_NB107_101, fun h0_ => absurd ((hoff 18 (by kernel_rfl)).symm.trans h0_) (by decide), fun h0_ => absurd ((hoff 19 (by kernel_rfl)).symm.trans h0_) (by decide), fun h0_ => absurd ((hoff 20 (by kernel_rfl)).symm.trans h0_) (by decide), Q_X15_, Q_X16_, Q_X17_⟩
   refine steps_cons ?_ ?_
   ·rintro b a w' ⟨gb105, gb106, gb107, m15_, m16_, m17_, ha, Q_BK101, Q_HB, Q_NB106_105, Q_NB105_106, Q_NB107_105, Q_NB105_107, Q_NB107_106, Q_NB106_107, Q_BK105, Q_GW105, Q_GE105, Q_NB101_105, Q_NB105_101, Q_BK106, Q_GW106, Q_GE106, Q_NB101_106, Q_NB106_101, Q_BK107, Q_GW107, Q_GE107, Q_NB101_107, Q_NB107_101, Q_BK105_e18, Q_BK106_e19, Q_BK107_e20, Q_X15_, Q_X16_, Q_X17_⟩ hb_ hon hoff
    refine ⟨_, rfl, fun K hK => ?_⟩
    have e11 : a.tmps[11]? = some (.slice (some ad102) l0.length c0) := by rw [ha]; exact (putSel_off rfl).trans rfl
    have e13 : a.tmps[13]? = some (.int .i64 a1_0) := by rw [ha]; exact putSel_on (e := (2, 13, .int .i64 a1_0)) 1 rfl rfl (hon 2 (by kernel_rfl)) rfl
    replace ha := A_ ha; have BK101 := A_ Q_BK101; have HB := A_ Q_HB; have hs0_ : w'.cell? (ad102.add ((a1_0).toNat * 3)) = some (.int .i64 ((rd_T73 l0 a1_0).f0)) := (pw_cell_below HB.out hw102_0); have hs1_ : w'.cell? ⟨(ad102.add ((a1_0).toNat * 3)).block, (ad102.add ((a1_0).toNat * 3)).off + 1, none⟩ = some (.int .i64 ((rd_T73 l0 a1_0).f1)) := (pw_cell_below HB.out hw102_1); have hs2_ : w'.cell? ⟨(ad102.add ((a1_0).toNat * 3)).block, (ad102.add ((a1_0).toNat * 3)).off + 2, none⟩ = some (.int .i64 ((rd_T73 l0 a1_0).f2)) := (pw_cell_below HB.out hw102_2)
    refine value_ (w1 := w') (v := .pointer (some (ad102.add ((a1_0).toNat * 3)))) (by rfl) rfl ?_ ?_
    ·go_simp
     (try simp only [i64_w])
     try rfl
    refine hK.out _ _ ⟨gb105, gb106, gb107, m15_, m16_, m17_, (by rw [ha.out]; exact putSel_upk 2 hb_ rfl rfl rfl), Q_BK101, Q_HB, Q_NB106_105, Q_NB105_106, Q_NB107_105, Q_NB105_107, Q_NB107_106, Q_NB106_107, Q_BK105, Q_GW105, Q_GE105, Q_NB101_105, Q_NB105_101, Q_BK106, Q_GW106, Q_GE106, Q_NB101_106, Q_NB106_101, Q_BK107, Q_GW107, Q_GE107, Q_NB101_107, Q_NB107_101, fun h0_ => absurd ((hoff 18 (by kernel_rfl)).symm.trans h0_) (by decide), fun h0_ => absurd ((hoff 19 (by kernel_rfl)).symm.trans h0_) (by decide), fun h0_ => absurd ((hoff 20 (by kernel_rfl)).symm.trans h0_) (by decide), Q_X15_, Q_X16_, Q_X17_⟩
   refine steps_cons ?_ ?_
   ·rintro b a w' ⟨gb105, gb106, gb107, m15_, m16_, m17_, ha, Q_BK101, Q_HB, Q_NB106_105, Q_NB105_106, Q_NB107_105, Q_NB105_107, Q_NB107_106, Q_NB106_107, Q_BK105, Q_GW105, Q_GE105, Q_NB101_105, Q_NB105_101, Q_BK106, Q_GW106, Q_GE106, Q_NB101_106, Q_NB106_101, Q_BK107, Q_GW107, Q_GE107, Q_NB101_107, Q_NB107_101, Q_BK105_e18, Q_BK106_e19, Q_BK107_e20, Q_X15_, Q_X16_, Q_X17_⟩ hb_ hon hoff
    refine ⟨_, rfl, fun K hK => ?_⟩
    have e14 : a.tmps[14]? = some (.pointer (some (ad102.add ((a1_0).toNat * 3)))) := by rw [ha]; exact putSel_on (e := (3, 14, .pointer (some (ad102.add ((a1_0).toNat * 3))))) 2 rfl rfl (hon 3 (by kernel_rfl)) rfl
    replace ha := A_ ha; have BK101 := A_ Q_BK101; have HB := A_ Q_HB; have hs0_ : w'.cell? (ad102.add ((a1_0).toNat * 3)) = some (.int .i64 ((rd_T73 l0 a1_0).f0)) := (pw_cell_below HB.out hw102_0); have hs1_ : w'.cell? ⟨(ad102.add ((a1_0).toNat * 3)).block, (ad102.add ((a1_0).toNat * 3)).off + 1, none⟩ = some (.int .i64 ((rd_T73 l0 a1_0).f1)) := (pw_cell_below HB.out hw102_1); have hs2_ : w'.cell? ⟨(ad102.add ((a1_0).toNat * 3)).block, (ad102.add ((a1_0).toNat * 3)).off + 2, none⟩ = some (.int .i64 ((rd_T73 l0 a1_0).f2)) := (pw_cell_below HB.out hw102_2)
    refine value_ (w1 := w') (v := .agg #[.int .i64 ((rd_T73 l0 a1_0).f0), .int .i64 ((rd_T73 l0 a1_0).f1), .int .i64 ((rd_T73 l0 a1_0).f2)]) (by rfl) rfl ?_ ?_
    ·go_simp
     (try simp only [i64_w])
     try rfl
    refine hK.out _ _ ⟨gb105, gb106, gb107, m15_, m16_, m17_, (by rw [ha.out]; exact putSel_upk 3 hb_ rfl rfl rfl), Q_BK101, Q_HB, Q_NB106_105, Q_NB105_106, Q_NB107_105, Q_NB105_107, Q_NB107_106, Q_NB106_107, Q_BK105, Q_GW105, Q_GE105, Q_NB101_105, Q_NB105_101, Q_BK106, Q_GW106, Q_GE106, Q_NB101_106, Q_NB106_101, Q_BK107, Q_GW107, Q_GE107, Q_NB101_107, Q_NB107_101, fun h0_ => absurd ((hoff 18 (by kernel_rfl)).symm.trans h0_) (by decide), fun h0_ => absurd ((hoff 19 (by kernel_rfl)).symm.trans h0_) (by decide), fun h0_ => absurd ((hoff 20 (by kernel_rfl)).symm.trans h0_) (by decide), Q_X15_, Q_X16_, Q_X17_⟩
   refine steps_cons ?_ ?_
   ·rintro b a w' ⟨gb105, gb106, gb107, m15_, m16_, m17_, ha, Q_BK101, Q_HB, Q_NB106_105, Q_NB105_106, Q_NB107_105, Q_NB105_107, Q_NB107_106, Q_NB106_107, Q_BK105, Q_GW105, Q_GE105, Q_NB101_105, Q_NB105_101, Q_BK106, Q_GW106, Q_GE106, Q_NB101_106, Q_NB106_101, Q_BK107, Q_GW107, Q_GE107, Q_NB101_107, Q_NB107_101, Q_BK105_e18, Q_BK106_e19, Q_BK107_e20, Q_X15_, Q_X16_, Q_X17_⟩ hb_ hon hoff
    refine ⟨_, rfl, fun K hK => ?_⟩
    have e3 : a.tmps[3]? = some (.pointer (some ⟨gb101, 0, none⟩)) := by rw [ha]; exact (putSel_off rfl).trans rfl
    replace ha := A_ ha; have BK101 := A_ Q_BK101; have HB := A_ Q_HB
    refine value_ (w1 := w') (v := .pointer (some ⟨gb101, 1, none⟩)) (by rfl) rfl ?_ ?_
    ·go_simp
     (try simp only [i64_w])
     try rfl
    refine hK.out _ _ ⟨gb105, gb106, gb107, m15_, m16_, m17_, (by rw [ha.out]; exact putSel_upk 4 hb_ rfl rfl rfl), Q_BK101, Q_HB, Q_NB106_105, Q_NB105_106, Q_NB107_105, Q_NB105_107, Q_NB107_106, Q_NB106_107, Q_BK105, Q_GW105, Q_GE105, Q_NB101_105, Q_NB105_101, Q_BK106, Q_GW106, Q_GE106, Q_NB101_106, Q_NB106_101, Q_BK107, Q_GW107, Q_GE107, Q_NB101_107, Q_NB107_101, Q_BK105_e18, fun h0_ => absurd ((hoff 19 (by kernel_rfl)).symm.trans h0_) (by decide), fun h0_ => absurd ((hoff 20 (by kernel_rfl)).symm.trans h0_) (by decide), Q_X15_, Q_X16_, Q_X17_⟩
   refine steps_cons ?_ ?_
   ·rintro b a w' ⟨gb105, gb106, gb107, m15_, m16_, m17_, ha, Q_BK101, Q_HB, Q_NB106_105, Q_NB105_106, Q_NB107_105, Q_NB105_107, Q_NB107_106, Q_NB106_107, Q_BK105, Q_GW105, Q_GE105, Q_NB101_105, Q_NB105_101, Q_BK106, Q_GW106, Q_GE106, Q_NB101_106, Q_NB106_101, Q_BK107, Q_GW107, Q_GE107, Q_NB101_107, Q_NB107_101, Q_BK105_e18, Q_BK106_e19, Q_BK107_e20, Q_X15_, Q_X16_, Q_X17_⟩ hb_ hon hoff
    refine ⟨_, rfl, fun K hK => ?_⟩
    have e17 : a.tmps[17]? = some (.pointer (some ⟨gb101, 1, none⟩)) := by rw [ha]; exact putSel_on (e := (6, 17, .pointer (some ⟨gb101, 1, none⟩))) 4 rfl rfl (hon 6 (by kernel_rfl)) rfl
    replace ha := A_ ha; have BK101 := A_ Q_BK101; have HB := A_ Q_HB; have hc0_ : w'.cell? ⟨gb101, 0, none⟩ = some (.int .i64 a1_0) := (blk_cell BK101.out 0).trans rfl; have hc1_ : w'.cell? ⟨gb101, 1, none⟩ = some (.int .i64 a1_1) := (blk_cell BK101.out 1).trans rfl; have hc2_ : w'.cell? ⟨gb101, 2, none⟩ = some (.int .i64 a1_2) := (blk_cell BK101.out 2).trans rfl
    refine value_ (w1 := w') (v := .int .i64 a1_1) (by rfl) rfl ?_ ?_
    ·go_simp
     (try simp only [i64_w])
     try rfl
    refine hK.out _ _ ⟨gb105, gb106, gb107, m15_, m16_, m17_, (by rw [ha.out]; exact putSel_upk 5 hb_ rfl rfl rfl), Q_BK101, Q_HB, Q_NB106_105, Q_NB105_106, Q_NB107_105, Q_NB105_107, Q_NB107_106, Q_NB106_107, Q_BK105, Q_GW105, Q_GE105, Q_NB101_105, Q_NB105_101, Q_BK106, Q_GW106, Q_GE106, Q_NB101_106, Q_NB106_101, Q_BK107, Q_GW107, Q_GE107, Q_NB101_107, Q_NB107_101, Q_BK105_e18, fun h0_ => absurd ((hoff 19 (by kernel_rfl)).symm.trans h0_) (by decide), fun h0_ => absurd ((hoff 20 (by kernel_rfl)).symm.trans h0_) (by decide), Q_X15_, Q_X16_, Q_X17_⟩
   refine steps_cons ?_ ?_
   ·rintro b a w' ⟨gb105, gb106, gb107, m15_, m16_, m17_, ha, Q_BK101, Q_HB, Q_NB106_105, Q_NB105_106, Q_NB107_105, Q_NB105_107, Q_NB107_106, Q_NB106_107, Q_BK105, Q_GW105, Q_GE105, Q_NB101_105, Q_NB105_101, Q_BK106, Q_GW106, Q_GE106, Q_NB101_106, Q_NB106_101, Q_BK107, Q_GW107, Q_GE107, Q_NB101_107, Q_NB107_101, Q_BK105_e18, Q_BK106_e19, Q_BK107_e20, Q_X15_, Q_X16_, Q_X17_⟩ hb_ hon hoff
    refine ⟨_, rfl, fun K hK => ?_⟩
    have e16 : a.tmps[16]? = some (.slice (some ad102) l0.length c0) := by rw [ha]; exact (putSel_off rfl).trans rfl
    have e18 : a.tmps[18]? = some (.int .i64 a1_1) := by rw [ha]; exact putSel_on (e := (7, 18, .int .i64 a1_1)) 5 rfl rfl (hon 7 (by kernel_rfl)) rfl
    replace ha := A_ ha; have BK101 := A_ Q_BK101; have HB := A_ Q_HB; have hs3_ : w'.cell? (ad102.add ((a1_1).toNat * 3)) = some (.int .i64 ((rd_T73 l0 a1_1).f0)) := (pw_cell_below HB.out hw103_0); have hs4_ : w'.cell? ⟨(ad102.add ((a1_1).toNat * 3)).block, (ad102.add ((a1_1).toNat * 3)).off + 1, none⟩ = some (.int .i64 ((rd_T73 l0 a1_1).f1)) := (pw_cell_below HB.out hw103_1); have hs5_ : w'.cell? ⟨(ad102.add ((a1_1).toNat * 3)).block, (ad102.add ((a1_1).toNat * 3)).off + 2, none⟩ = some (.int .i64 ((rd_T73 l0 a1_1).f2)) := (pw_cell_below HB.out hw103_2)
    refine value_ (w1 := w') (v := .pointer (some (ad102.add ((a1_1).toNat * 3)))) (by rfl) rfl ?_ ?_
    ·go_simp
     (try simp only [i64_w])
     try rfl
    refine hK.out _ _ ⟨gb105, gb106, gb107, m15_, m16_, m17_, (by rw [ha.out]; exact putSel_upk 6 hb_ rfl rfl rfl), Q_BK101, Q_HB, Q_NB106_105, Q_NB105_106, Q_NB107_105, Q_NB105_107, Q_NB107_106, Q_NB106_107, Q_BK105, Q_GW105, Q_GE105, Q_NB101_105, Q_NB105_101, Q_BK106, Q_GW106, Q_GE106, Q_NB101_106, Q_NB106_101, Q_BK107, Q_GW107, Q_GE107, Q_NB101_107, Q_NB107_101, Q_BK105_e18, fun h0_ => absurd ((hoff 19 (by kernel_rfl)).symm.trans h0_) (by decide), fun h0_ => absurd ((hoff 20 (by kernel_rfl)).symm.trans h0_) (by decide), Q_X15_, Q_X16_, Q_X17_⟩
   refine steps_cons ?_ ?_
   ·rintro b a w' ⟨gb105, gb106, gb107, m15_, m16_, m17_, ha, Q_BK101, Q_HB, Q_NB106_105, Q_NB105_106, Q_NB107_105, Q_NB105_107, Q_NB107_106, Q_NB106_107, Q_BK105, Q_GW105, Q_GE105, Q_NB101_105, Q_NB105_101, Q_BK106, Q_GW106, Q_GE106, Q_NB101_106, Q_NB106_101, Q_BK107, Q_GW107, Q_GE107, Q_NB101_107, Q_NB107_101, Q_BK105_e18, Q_BK106_e19, Q_BK107_e20, Q_X15_, Q_X16_, Q_X17_⟩ hb_ hon hoff
    refine ⟨_, rfl, fun K hK => ?_⟩
    have e19 : a.tmps[19]? = some (.pointer (some (ad102.add ((a1_1).toNat * 3)))) := by rw [ha]; exact putSel_on (e := (8, 19, .pointer (some (ad102.add ((a1_1).toNat * 3))))) 6 rfl rfl (hon 8 (by kernel_rfl)) rfl
    replace ha := A_ ha; have BK101 := A_ Q_BK101; have HB := A_ Q_HB; have hs3_ : w'.cell? (ad102.add ((a1_1).toNat * 3)) = some (.int .i64 ((rd_T73 l0 a1_1).f0)) := (pw_cell_below HB.out hw103_0); have hs4_ : w'.cell? ⟨(ad102.add ((a1_1).toNat * 3)).block, (ad102.add ((a1_1).toNat * 3)).off + 1, none⟩ = some (.int .i64 ((rd_T73 l0 a1_1).f1)) := (pw_cell_below HB.out hw103_1); have hs5_ : w'.cell? ⟨(ad102.add ((a1_1).toNat * 3)).block, (ad102.add ((a1_1).toNat * 3)).off + 2, none⟩ = some (.int .i64 ((rd_T73 l0 a1_1).f2)) := (pw_cell_below HB.out hw103_2)
    refine value_ (w1 := w') (v := .agg #[.int .i64 ((rd_T73 l0 a1_1).f0), .int .i64 ((rd_T73 l0 a1_1).f1), .int .i64 ((rd_T73 l0 a1_1).f2)]) (by rfl) rfl ?_ ?_
    ·go_simp
     (try simp only [i64_w])
     try rfl
    refine hK.out _ _ ⟨gb105, gb106, gb107, m15_, m16_, m17_, (by rw [ha.out]; exact putSel_upk 7 hb_ rfl rfl rfl), Q_BK101, Q_HB, Q_NB106_105, Q_NB105_106, Q_NB107_105, Q_NB105_107, Q_NB107_106, Q_NB106_107, Q_BK105, Q_GW105, Q_GE105, Q_NB101_105, Q_NB105_101, Q_BK106, Q_GW106, Q_GE106, Q_NB101_106, Q_NB106_101, Q_BK107, Q_GW107, Q_GE107, Q_NB101_107, Q_NB107_101, Q_BK105_e18, fun h0_ => absurd ((hoff 19 (by kernel_rfl)).symm.trans h0_) (by decide), fun h0_ => absurd ((hoff 20 (by kernel_rfl)).symm.trans h0_) (by decide), Q_X15_, Q_X16_, Q_X17_⟩
   refine steps_cons ?_ ?_
   ·rintro b a w' ⟨gb105, gb106, gb107, m15_, m16_, m17_, ha, Q_BK101, Q_HB, Q_NB106_105, Q_NB105_106, Q_NB107_105, Q_NB105_107, Q_NB107_106, Q_NB106_107, Q_BK105, Q_GW105, Q_GE105, Q_NB101_105, Q_NB105_101, Q_BK106, Q_GW106, Q_GE106, Q_NB101_106, Q_NB106_101, Q_BK107, Q_GW107, Q_GE107, Q_NB101_107, Q_NB107_101, Q_BK105_e18, Q_BK106_e19, Q_BK107_e20, Q_X15_, Q_X16_, Q_X17_⟩ hb_ hon hoff
    refine ⟨_, rfl, fun K hK => ?_⟩
    have e3 : a.tmps[3]? = some (.pointer (some ⟨gb101, 0, none⟩)) := by rw [ha]; exact (putSel_off rfl).trans rfl
    replace ha := A_ ha; have BK101 := A_ Q_BK101; have HB := A_ Q_HB
    refine value_ (w1 := w') (v := .pointer (some ⟨gb101, 2, none⟩)) (by rfl) rfl ?_ ?_
    ·go_simp
     (try simp only [i64_w])
     try rfl
    refine hK.out _ _ ⟨gb105, gb106, gb107, m15_, m16_, m17_, (by rw [ha.out]; exact putSel_upk 8 hb_ rfl rfl rfl), Q_BK101, Q_HB, Q_NB106_105, Q_NB105_106, Q_NB107_105, Q_NB105_107, Q_NB107_106, Q_NB106_107, Q_BK105, Q_GW105, Q_GE105, Q_NB101_105, Q_NB105_101, Q_BK106, Q_GW106, Q_GE106, Q_NB101_106, Q_NB106_101, Q_BK107, Q_GW107, Q_GE107, Q_NB101_107, Q_NB107_101, Q_BK105_e18, Q_BK106_e19, fun h0_ => absurd ((hoff 20 (by kernel_rfl)).symm.trans h0_) (by decide), Q_X15_, Q_X16_, Q_X17_⟩
   refine steps_cons ?_ ?_
   ·rintro b a w' ⟨gb105, gb106, gb107, m15_, m16_, m17_, ha, Q_BK101, Q_HB, Q_NB106_105, Q_NB105_106, Q_NB107_105, Q_NB105_107, Q_NB107_106, Q_NB106_107, Q_BK105, Q_GW105, Q_GE105, Q_NB101_105, Q_NB105_101, Q_BK106, Q_GW106, Q_GE106, Q_NB101_106, Q_NB106_101, Q_BK107, Q_GW107, Q_GE107, Q_NB101_107, Q_NB107_101, Q_BK105_e18, Q_BK106_e19, Q_BK107_e20, Q_X15_, Q_X16_, Q_X17_⟩ hb_ hon hoff
    refine ⟨_, rfl, fun K hK => ?_⟩
    have e22 : a.tmps[22]? = some (.pointer (some ⟨gb101, 2, none⟩)) := by rw [ha]; exact putSel_on (e := (11, 22, .pointer (some ⟨gb101, 2, none⟩))) 8 rfl rfl (hon 11 (by kernel_rfl)) rfl
    replace ha := A_ ha; have BK101 := A_ Q_BK101; have HB := A_ Q_HB; have hc0_ : w'.cell? ⟨gb101, 0, none⟩ = some (.int .i64 a1_0) := (blk_cell BK101.out 0).trans rfl; have hc1_ : w'.cell? ⟨gb101, 1, none⟩ = some (.int .i64 a1_1) := (blk_cell BK101.out 1).trans rfl; have hc2_ : w'.cell? ⟨gb101, 2, none⟩ = some (.int .i64 a1_2) := (blk_cell BK101.out 2).trans rfl
    refine value_ (w1 := w') (v := .int .i64 a1_2) (by rfl) rfl ?_ ?_
    ·go_simp
     (try simp only [i64_w])
     try rfl
    refine hK.out _ _ ⟨gb105, gb106, gb107, m15_, m16_, m17_, (by rw [ha.out]; exact putSel_upk 9 hb_ rfl rfl rfl), Q_BK101, Q_HB, Q_NB106_105, Q_NB105_106, Q_NB107_105, Q_NB105_107, Q_NB107_106, Q_NB106_107, Q_BK105, Q_GW105, Q_GE105, Q_NB101_105, Q_NB105_101, Q_BK106, Q_GW106, Q_GE106, Q_NB101_106, Q_NB106_101, Q_BK107, Q_GW107, Q_GE107, Q_NB101_107, Q_NB107_101, Q_BK105_e18, Q_BK106_e19, fun h0_ => absurd ((hoff 20 (by kernel_rfl)).symm.trans h0_) (by decide), Q_X15_, Q_X16_, Q_X17_⟩
   refine steps_cons ?_ ?_
   ·rintro b a w' ⟨gb105, gb106, gb107, m15_, m16_, m17_, ha, Q_BK101, Q_HB, Q_NB106_105, Q_NB105_106, Q_NB107_105, Q_NB105_107, Q_NB107_106, Q_NB106_107, Q_BK105, Q_GW105, Q_GE105, Q_NB101_105, Q_NB105_101, Q_BK106, Q_GW106, Q_GE106, Q_NB101_106, Q_NB106_101, Q_BK107, Q_GW107, Q_GE107, Q_NB101_107, Q_NB107_101, Q_BK105_e18, Q_BK106_e19, Q_BK107_e20, Q_X15_, Q_X16_, Q_X17_⟩ hb_ hon hoff
    refine ⟨_, rfl, fun K hK => ?_⟩
    have e21 : a.tmps[21]? = some (.slice (some ad102) l0.length c0) := by rw [ha]; exact (putSel_off rfl).trans rfl
    have e23 : a.tmps[23]? = some (.int .i64 a1_2) := by rw [ha]; exact putSel_on (e := (12, 23, .int .i64 a1_2)) 9 rfl rfl (hon 12 (by kernel_rfl)) rfl
    replace ha := A_ ha; have BK101 := A_ Q_BK101; have HB := A_ Q_HB; have hs6_ : w'.cell? (ad102.add ((a1_2).toNat * 3)) = some (.int .i64 ((rd_T73 l0 a1_2).f0)) := (pw_cell_below HB.out hw104_0); have hs7_ : w'.cell? ⟨(ad102.add ((a1_2).toNat * 3)).block, (ad102.add ((a1_2).toNat * 3)).off + 1, none⟩ = some (.int .i64 ((rd_T73 l0 a1_2).f1)) := (pw_cell_below HB.out hw104_1); have hs8_ : w'.cell? ⟨(ad102.add ((a1_2).toNat * 3)).block, (ad102.add ((a1_2).toNat * 3)).off + 2, none⟩ = some (.int .i64 ((rd_T73 l0 a1_2).f2)) := (pw_cell_below HB.out hw104_2)
    refine value_ (w1 := w') (v := .pointer (some (ad102.add ((a1_2).toNat * 3)))) (by rfl) rfl ?_ ?_
    ·go_simp
     (try simp only [i64_w])
     try rfl
    refine hK.out _ _ ⟨gb105, gb106, gb107, m15_, m16_, m17_, (by rw [ha.out]; exact putSel_upk 10 hb_ rfl rfl rfl), Q_BK101, Q_HB, Q_NB106_105, Q_NB105_106, Q_NB107_105, Q_NB105_107, Q_NB107_106, Q_NB106_107, Q_BK105, Q_GW105, Q_GE105, Q_NB101_105, Q_NB105_101, Q_BK106, Q_GW106, Q_GE106, Q_NB101_106, Q_NB106_101, Q_BK107, Q_GW107, Q_GE107, Q_NB101_107, Q_NB107_101, Q_BK105_e18, Q_BK106_e19, fun h0_ => absurd ((hoff 20 (by kernel_rfl)).symm.trans h0_) (by decide), Q_X15_, Q_X16_, Q_X17_⟩
   refine steps_cons ?_ ?_
   ·rintro b a w' ⟨gb105, gb106, gb107, m15_, m16_, m17_, ha, Q_BK101, Q_HB, Q_NB106_105, Q_NB105_106, Q_NB107_105, Q_NB105_107, Q_NB107_106, Q_NB106_107, Q_BK105, Q_GW105, Q_GE105, Q_NB101_105, Q_NB105_101, Q_BK106, Q_GW106, Q_GE106, Q_NB101_106, Q_NB106_101, Q_BK107, Q_GW107, Q_GE107, Q_NB101_107, Q_NB107_101, Q_BK105_e18, Q_BK106_e19, Q_BK107_e20, Q_X15_, Q_X16_, Q_X17_⟩ hb_ hon hoff
    refine ⟨_, rfl, fun K hK => ?_⟩
    have e24 : a.tmps[24]? = some (.pointer (some (ad102.add ((a1_2).toNat * 3)))) := by rw [ha]; exact putSel_on (e := (13, 24, .pointer (some (ad102.add ((a1_2).toNat * 3))))) 10 rfl rfl (hon 13 (by kernel_rfl)) rfl
    replace ha := A_ ha; have BK101 := A_ Q_BK101; have HB := A_ Q_HB; have hs6_ : w'.cell? (ad102.add ((a1_2).toNat * 3)) = some (.int .i64 ((rd_T73 l0 a1_2).f0)) := (pw_cell_below HB.out hw104_0); have hs7_ : w'.cell? ⟨(ad102.add ((a1_2).toNat * 3)).block, (ad102.add ((a1_2).toNat * 3)).off + 1, none⟩ = some (.int .i64 ((rd_T73 l0 a1_2).f1)) := (pw_cell_below HB.out hw104_1); have hs8_ : w'.cell? ⟨(ad102.add ((a1_2).toNat * 3)).block, (ad102.add ((a1_2).toNat * 3)).off + 2, none⟩ = some (.int .i64 ((rd_T73 l0 a1_2).f2)) := (pw_cell_below HB.out hw104_2)
    refine value_ (w1 := w') (v := .agg #[.int .i64 ((rd_T73 l0 a1_2).f0), .int .i64 ((rd_T73 l0 a1_2).f1), .int .i64 ((rd_T73 l0 a1_2).f2)]) (by rfl) rfl ?_ ?_
    ·go_simp
     (try simp only [i64_w])
     try rfl
    refine hK.out _ _ ⟨gb105, gb106, gb107, m15_, m16_, m17_, (by rw [ha.out]; exact putSel_upk 11 hb_ rfl rfl rfl), Q_BK101, Q_HB, Q_NB106_105, Q_NB105_106, Q_NB107_105, Q_NB105_107, Q_NB107_106, Q_NB106_107, Q_BK105, Q_GW105, Q_GE105, Q_NB101_105, Q_NB105_101, Q_BK106, Q_GW106, Q_GE106, Q_NB101_106, Q_NB106_101, Q_BK107, Q_GW107, Q_GE107, Q_NB101_107, Q_NB107_101, Q_BK105_e18, Q_BK106_e19, fun h0_ => absurd ((hoff 20 (by kernel_rfl)).symm.trans h0_) (by decide), Q_X15_, Q_X16_, Q_X17_⟩
   refine steps_cons ?_ ?_
   ·rintro b a w' ⟨gb105, gb106, gb107, m15_, m16_, m17_, ha, Q_BK101, Q_HB, Q_NB106_105, Q_NB105_106, Q_NB107_105, Q_NB105_107, Q_NB107_106, Q_NB106_107, Q_BK105, Q_GW105, Q_GE105, Q_NB101_105, Q_NB105_101, Q_BK106, Q_GW106, Q_GE106, Q_NB101_106, Q_NB106_101, Q_BK107, Q_GW107, Q_GE107, Q_NB101_107, Q_NB107_101, Q_BK105_e18, Q_BK106_e19, Q_BK107_e20, Q_X15_, Q_X16_, Q_X17_⟩ hb_ hon hoff
    refine ⟨_, rfl, fun K hK => ?_⟩
    replace ha := A_ ha; have BK101 := A_ Q_BK101; have HB := A_ Q_HB
    refine box_step ?hg (N := 5) ?hd (cs := #[.int .i64 0, .int .i64 0, .int .i64 0]) (t := 73) ?hr ?_; (case hd => rfl); (case hg => rfl); (case hr => first | (go_simp; done) | (go_simp; rfl))
    intro gb105 hg w12 hbox hb
    have n0_ := A_ (bkB BK101 hb); have n1_ := A_ (below_step (bW1 HB.out GE101.out) hb); have n2_ := A_ (hbox); have n3_ := A_ ((szG hg (bW1 HB.out GE101.out))); have n4_ := A_ ((szG hg (bW1 HB.out GE101.out))); have n5_ := A_ ((bkL BK101 hg : gb101 ≠ gb105)); have n6_ := A_ ((bkG BK101 hg : gb105 ≠ gb101))
    have z_NB106_105 := fun (h0_ : up b 15 15 = true) (h1_ : up b 15 16 = true) => (show gb106 ≠ gb105 from ((Nat.ne_of_lt (by rw [hg]; exact (by (cases e19_ : b 19 with | true => exact blk_lt (Q_BK106_e19 e19_) | false => exact blk_lt (Q_BK106 (by first | exact h0_ | exact h1_) e19_)))) : gb106 ≠ gb105)))
    have z_NB105_106 := fun (h0_ : up b 15 15 = true) (h1_ : up b 15 16 = true) => (show gb105 ≠ gb106 from ((Nat.ne_of_gt (by rw [hg]; exact (by (cases e19_ : b 19 with | true => exact blk_lt (Q_BK106_e19 e19_) | false => exact blk_lt (Q_BK106 (by first | exact h0_ | exact h1_) e19_)))) : gb105 ≠ gb106)))
    have z_NB107_105 := fun (h0_ : up b 15 15 = true) (h1_ : up b 15 17 = true) => (show gb107 ≠ gb105 from ((Nat.ne_of_lt (by rw [hg]; exact (by (cases e20_ : b 20 with | true => exact blk_lt (Q_BK107_e20 e20_) | false => exact blk_lt (Q_BK107 (by first | exact h0_ | exact h1_) e20_)))) : gb107 ≠ gb105)))
    have z_NB105_107 := fun (h0_ : up b 15 15 = true) (h1_ : up b 15 17 = true) => (show gb105 ≠ gb107 from ((Nat.ne_of_gt (by rw [hg]; exact (by (cases e20_ : b 20 with | true => exact blk_lt (Q_BK107_e20 e20_) | false => exact blk_lt (Q_BK107 (by first | exact h0_ | exact h1_) e20_)))) : gb105 ≠ gb107)))
    have z_BK106 := fun (h0_ : b 16 = true) (h1_ : b 19 = false) => (show w12.heap[gb106]? = some (.cells #[.int .i64 0, .int .i64 0, .int .i64 0] 73 (0, 0)) from by first | exact (blk_below (g := gb106) (o := .cells #[.int .i64 0, .int .i64 0, .int .i64 0] 73 (0, 0)) (by (with_reducible repeat (first | refine blk_drewN ?_ _ | refine blk_drew ?_ | refine blk_alloc ?_ _)); exact (Q_BK106 h0_ h1_)) hb))
    have z_BK107 := fun (h0_ : b 17 = true) (h1_ : b 20 = false) => (show w12.heap[gb107]? = some (.cells #[.int .i64 0, .int .i64 0, .int .i64 0] 73 (0, 0)) from by first | exact (blk_below (g := gb107) (o := .cells #[.int .i64 0, .int .i64 0, .int .i64 0] 73 (0, 0)) (by (with_reducible repeat (first | refine blk_drewN ?_ _ | refine blk_drew ?_ | refine blk_alloc ?_ _)); exact (Q_BK107 h0_ h1_)) hb))
    clear BK101; clear HB; have BK101 := n0_; have HB := n1_; have BK105 := n2_; have GW105 := n3_; have GE105 := n4_; have NB101_105 := n5_; have NB105_101 := n6_; clear n0_ n1_ n2_ n3_ n4_ n5_ n6_ hb hbox hg
    refine hK.out _ _ ⟨gb105, gb106, gb107, (.pointer (some ⟨gb105, 0, none⟩)), m16_, m17_, (by rw [ha.out]; exact putSel_upk 12 hb_ rfl rfl rfl), (bkU BK101), (bW2 HB.out GE101.out GE105.out), z_NB106_105, z_NB105_106, z_NB107_105, z_NB105_107, Q_NB107_106, Q_NB106_107, fun _ _ => (bkU BK105), fun _ => GW105.out, fun _ => GE105.out, fun _ => NB101_105.out, fun _ => NB105_101.out, z_BK106, Q_GW106, Q_GE106, Q_NB101_106, Q_NB106_101, z_BK107, Q_GW107, Q_GE107, Q_NB101_107, Q_NB107_101, fun h0_ => absurd ((hoff 18 (by kernel_rfl)).symm.trans h0_) (by decide), fun h0_ => absurd ((hoff 19 (by kernel_rfl)).symm.trans h0_) (by decide), fun h0_ => absurd ((hoff 20 (by kernel_rfl)).symm.trans h0_) (by decide), fun _ => rfl, Q_X16_, Q_X17_⟩
   refine steps_cons ?_ ?_
   ·rintro b a w' ⟨gb105, gb106, gb107, m15_, m16_, m17_, ha, Q_BK101, Q_HB, Q_NB106_105, Q_NB105_106, Q_NB107_105, Q_NB105_107, Q_NB107_106, Q_NB106_107, Q_BK105, Q_GW105, Q_GE105, Q_NB101_105, Q_NB105_101, Q_BK106, Q_GW106, Q_GE106, Q_NB101_106, Q_NB106_101, Q_BK107, Q_GW107, Q_GE107, Q_NB101_107, Q_NB107_101, Q_BK105_e18, Q_BK106_e19, Q_BK107_e20, Q_X15_, Q_X16_, Q_X17_⟩ hb_ hon hoff
    refine ⟨_, rfl, fun K hK => ?_⟩
    replace ha := A_ ha; have BK101 := A_ Q_BK101; have HB := A_ Q_HB
    refine box_step ?hg (N := 6) ?hd (cs := #[.int .i64 0, .int .i64 0, .int .i64 0]) (t := 73) ?hr ?_; (case hd => rfl); (case hg => rfl); (case hr => first | (go_simp; done) | (go_simp; rfl))
    intro gb106 hg w12 hbox hb
    have n0_ := A_ (bkB BK101 hb); have n1_ := A_ (below_step (bW1 HB.out GE101.out) hb); have n2_ := A_ (hbox); have n3_ := A_ ((szG hg (bW1 HB.out GE101.out))); have n4_ := A_ ((szG hg (bW1 HB.out GE101.out))); have n5_ := A_ ((bkL BK101 hg : gb101 ≠ gb106)); have n6_ := A_ ((bkG BK101 hg : gb106 ≠ gb101))
    have z_NB106_105 := fun (h0_ : up b 16 15 = true) (h1_ : up b 16 16 = true) => (show gb106 ≠ gb105 from ((Nat.ne_of_gt (by rw [hg]; exact (by (cases e18_ : b 18 with | true => exact blk_lt (Q_BK105_e18 e18_) | false => exact blk_lt (Q_BK105 (by first | exact h0_ | exact h1_) e18_)))) : gb106 ≠ gb105)))
    have z_NB105_106 := fun (h0_ : up b 16 15 = true) (h1_ : up b 16 16 = true) => (show gb105 ≠ gb106 from ((Nat.ne_of_lt (by rw [hg]; exact (by (cases e18_ : b 18 with | true => exact blk_lt (Q_BK105_e18 e18_) | false => exact blk_lt (Q_BK105 (by first | exact h0_ | exact h1_) e18_)))) : gb105 ≠ gb106)))
    have z_NB107_106 := fun (h0_ : up b 16 16 = true) (h1_ : up b 16 17 = true) => (show gb107 ≠ gb106 from ((Nat.ne_of_lt (by rw [hg]; exact (by (cases e20_ : b 20 with | true => exact blk_lt (Q_BK107_e20 e20_) | false => exact blk_lt (Q_BK107 (by first | exact h0_ | exact h1_) e20_)))) : gb107 ≠ gb106)))
    have z_NB106_107 := fun (h0_ : up b 16 16 = true) (h1_ : up b 16 17 = true) => (show gb106 ≠ gb107 from ((Nat.ne_of_gt (by rw [hg]; exact (by (cases e20_ : b 20 with | true => exact blk_lt (Q_BK107_e20 e20_) | false => exact blk_lt (Q_BK107 (by first | exact h0_ | exact h1_) e20_)))) : gb106 ≠ gb107)))
    have z_BK105 := fun (h0_ : b 15 = true) (h1_ : b 18 = false) => (show w12.heap[gb105]? = some (.cells #[.int .i64 0, .int .i64 0, .int .i64 0] 73 (0, 0)) from by first | exact (blk_below (g := gb105) (o := .cells #[.int .i64 0, .int .i64 0, .int .i64 0] 73 (0, 0)) (by (with_reducible repeat (first | refine blk_drewN ?_ _ | refine blk_drew ?_ | refine blk_alloc ?_ _)); exact (Q_BK105 h0_ h1_)) hb))
    have z_BK107 := fun (h0_ : b 17 = true) (h1_ : b 20 = false) => (show w12.heap[gb107]? = some (.cells #[.int .i64 0, .int .i64 0, .int .i64 0] 73 (0, 0)) from by first | exact (blk_below (g := gb107) (o := .cells #[.int .i64 0, .int .i64 0, .int .i64 0] 73 (0, 0)) (by (with_reducible repeat (first | refine blk_drewN ?_ _ | refine blk_drew ?_ | refine blk_alloc ?_ _)); exact (Q_BK107 h0_ h1_)) hb))
    clear BK101; clear HB; have BK101 := n0_; have HB := n1_; have BK106 := n2_; have GW106 := n3_; have GE106 := n4_; have NB101_106 := n5_; have NB106_101 := n6_; clear n0_ n1_ n2_ n3_ n4_ n5_ n6_ hb hbox hg
    refine hK.out _ _ ⟨gb105, gb106, gb107, m15_, (.pointer (some ⟨gb106, 0, none⟩)), m17_, (by rw [ha.out]; exact putSel_upk 13 hb_ rfl rfl rfl), (bkU BK101), (bW2 HB.out GE101.out GE106.out), z_NB106_105, z_NB105_106, Q_NB107_105, Q_NB105_107, z_NB107_106, z_NB106_107, z_BK105, Q_GW105, Q_GE105, Q_NB101_105, Q_NB105_101, fun _ _ => (bkU BK106), fun _ => GW106.out, fun _ => GE106.out, fun _ => NB101_106.out, fun _ => NB106_101.out, z_BK107, Q_GW107, Q_GE107, Q_NB101_107, Q_NB107_101, fun h0_ => absurd ((hoff 18 (by kernel_rfl)).symm.trans h0_) (by decide), fun h0_ => absurd ((hoff 19 (by kernel_rfl)).symm.trans h0_) (by decide), fun h0_ => absurd ((hoff 20 (by kernel_rfl)).symm.trans h0_) (by decide), Q_X15_, fun _ => rfl, Q_X17_⟩
   refine steps_cons ?_ ?_
   ·rintro b a w' ⟨gb105, gb106, gb107, m15_, m16_, m17_, ha, Q_BK101, Q_HB, Q_NB106_105, Q_NB105_106, Q_NB107_105, Q_NB105_107, Q_NB107_106, Q_NB106_107, Q_BK105, Q_GW105, Q_GE105, Q_NB101_105, Q_NB105_101, Q_BK106, Q_GW106, Q_GE106, Q_NB101_106, Q_NB106_101, Q_BK107, Q_GW107, Q_GE107, Q_NB101_107, Q_NB107_101, Q_BK105_e18, Q_BK106_e19, Q_BK107_e20, Q_X15_, Q_X16_, Q_X17_⟩ hb_ hon hoff
    refine ⟨_, rfl, fun K hK => ?_⟩
    replace ha := A_ ha; have BK101 := A_ Q_BK101; have HB := A_ Q_HB
    refine box_step ?hg (N := 7) ?hd (cs := #[.int .i64 0, .int .i64 0, .int .i64 0]) (t := 73) ?hr ?_; (case hd => rfl); (case hg => rfl); (case hr => first | (go_simp; done) | (go_simp; rfl))
    intro gb107 hg w12 hbox hb
    have n0_ := A_ (bkB BK101 hb); have n1_ := A_ (below_step (bW1 HB.out GE101.out) hb); have n2_ := A_ (hbox); have n3_ := A_ ((szG hg (bW1 HB.out GE101.out))); have n4_ := A_ ((szG hg (bW1 HB.out GE101.out))); have n5_ := A_ ((bkL BK101 hg : gb101 ≠ gb107)); have n6_ := A_ ((bkG BK101 hg : gb107 ≠ gb101))
    have z_NB107_105 := fun (h0_ : up b 17 15 = true) (h1_ : up b 17 17 = true) => (show gb107 ≠ gb105 from ((Nat.ne_of_gt (by rw [hg]; exact (by (cases e18_ : b 18 with | true => exact blk_lt (Q_BK105_e18 e18_) | false => exact blk_lt (Q_BK105 (by first | exact h0_ | exact h1_) e18_)))) : gb107 ≠ gb105)))
    have z_NB105_107 := fun (h0_ : up b 17 15 = true) (h1_ : up b 17 17 = true) => (show gb105 ≠ gb107 from ((Nat.ne_of_lt (by rw [hg]; exact (by (cases e18_ : b 18 with | true => exact blk_lt (Q_BK105_e18 e18_) | false => exact blk_lt (Q_BK105 (by first | exact h0_ | exact h1_) e18_)))) : gb105 ≠ gb107)))
    have z_NB107_106 := fun (h0_ : up b 17 16 = true) (h1_ : up b 17 17 = true) => (show gb107 ≠ gb106 from ((Nat.ne_of_gt (by rw [hg]; exact (by (cases e19_ : b 19 with | true => exact blk_lt (Q_BK106_e19 e19_) | false => exact blk_lt (Q_BK106 (by first | exact h0_ | exact h1_) e19_)))) : gb107 ≠ gb106)))
    have z_NB106_107 := fun (h0_ : up b 17 16 = true) (h1_ : up b 17 17 = true) => (show gb106 ≠ gb107 from ((Nat.ne_of_lt (by rw [hg]; exact (by (cases e19_ : b 19 with | true => exact blk_lt (Q_BK106_e19 e19_) | false => exact blk_lt (Q_BK106 (by first | exact h0_ | exact h1_) e19_)))) : gb106 ≠ gb107)))
    have z_BK105 := fun (h0_ : b 15 = true) (h1_ : b 18 = false) => (show w12.heap[gb105]? = some (.cells #[.int .i64 0, .int .i64 0, .int .i64 0] 73 (0, 0)) from by first | exact (blk_below (g := gb105) (o := .cells #[.int .i64 0, .int .i64 0, .int .i64 0] 73 (0, 0)) (by (with_reducible repeat (first | refine blk_drewN ?_ _ | refine blk_drew ?_ | refine blk_alloc ?_ _)); exact (Q_BK105 h0_ h1_)) hb))
    have z_BK106 := fun (h0_ : b 16 = true) (h1_ : b 19 = false) => (show w12.heap[gb106]? = some (.cells #[.int .i64 0, .int .i64 0, .int .i64 0] 73 (0, 0)) from by first | exact (blk_below (g := gb106) (o := .cells #[.int .i64 0, .int .i64 0, .int .i64 0] 73 (0, 0)) (by (with_reducible repeat (first | refine blk_drewN ?_ _ | refine blk_drew ?_ | refine blk_alloc ?_ _)); exact (Q_BK106 h0_ h1_)) hb))
    clear BK101; clear HB; have BK101 := n0_; have HB := n1_; have BK107 := n2_; have GW107 := n3_; have GE107 := n4_; have NB101_107 := n5_; have NB107_101 := n6_; clear n0_ n1_ n2_ n3_ n4_ n5_ n6_ hb hbox hg
    refine hK.out _ _ ⟨gb105, gb106, gb107, m15_, m16_, (.pointer (some ⟨gb107, 0, none⟩)), (by rw [ha.out]; exact putSel_upk 14 hb_ rfl rfl rfl), (bkU BK101), (bW2 HB.out GE101.out GE107.out), Q_NB106_105, Q_NB105_106, z_NB107_105, z_NB105_107, z_NB107_106, z_NB106_107, z_BK105, Q_GW105, Q_GE105, Q_NB101_105, Q_NB105_101, z_BK106, Q_GW106, Q_GE106, Q_NB101_106, Q_NB106_101, fun _ _ => (bkU BK107), fun _ => GW107.out, fun _ => GE107.out, fun _ => NB101_107.out, fun _ => NB107_101.out, fun h0_ => absurd ((hoff 18 (by kernel_rfl)).symm.trans h0_) (by decide), fun h0_ => absurd ((hoff 19 (by kernel_rfl)).symm.trans h0_) (by decide), fun h0_ => absurd ((hoff 20 (by kernel_rfl)).symm.trans h0_) (by decide), Q_X15_, Q_X16_, fun _ => rfl⟩
   refine steps_cons ?_ ?_
   ·rintro b a w' ⟨gb105, gb106, gb107, m15_, m16_, m17_, ha, Q_BK101, Q_HB, Q_NB106_105, Q_NB105_106, Q_NB107_105, Q_NB105_107, Q_NB107_106, Q_NB106_107, Q_BK105, Q_GW105, Q_GE105, Q_NB101_105, Q_NB105_101, Q_BK106, Q_GW106, Q_GE106, Q_NB101_106, Q_NB106_101, Q_BK107, Q_GW107, Q_GE107, Q_NB101_107, Q_NB107_101, Q_BK105_e18, Q_BK106_e19, Q_BK107_e20, Q_X15_, Q_X16_, Q_X17_⟩ hb_ hon hoff
    refine ⟨_, rfl, fun K hK => ?_⟩
    have e5 : a.tmps[5]? = some (m15_) := by rw [ha]; exact putSel_on (e := (15, 5, m15_)) 12 rfl rfl (hon 15 (by kernel_rfl)) rfl
    rw [Q_X15_ (hon 15 (by kernel_rfl))] at e5
    have e15 : a.tmps[15]? = some (.agg #[.int .i64 ((rd_T73 l0 a1_0).f0), .int .i64 ((rd_T73 l0 a1_0).f1), .int .i64 ((rd_T73 l0 a1_0).f2)]) := by rw [ha]; exact putSel_on (e := (4, 15, .agg #[.int .i64 ((rd_T73 l0 a1_0).f0), .int .i64 ((rd_T73 l0 a1_0).f1), .int .i64 ((rd_T73 l0 a1_0).f2)])) 3 rfl rfl (hon 4 (by kernel_rfl)) rfl
    replace ha := A_ ha; have BK101 := A_ Q_BK101; have HB := A_ Q_HB
    have NB106_105 := A_ (Q_NB106_105 (hon 15 (by kernel_rfl)) (hon 16 (by kernel_rfl)))
    have NB105_106 := A_ (Q_NB105_106 (hon 15 (by kernel_rfl)) (hon 16 (by kernel_rfl)))
    have NB107_105 := A_ (Q_NB107_105 (hon 15 (by kernel_rfl)) (hon 17 (by kernel_rfl)))
    have NB105_107 := A_ (Q_NB105_107 (hon 15 (by kernel_rfl)) (hon 17 (by kernel_rfl)))
    have NB107_106 := A_ (Q_NB107_106 (hon 16 (by kernel_rfl)) (hon 17 (by kernel_rfl)))
    have NB106_107 := A_ (Q_NB106_107 (hon 16 (by kernel_rfl)) (hon 17 (by kernel_rfl)))
    have BK105 := A_ (Q_BK105 (hon 15 (by kernel_rfl)) hb_)
    have GW105 := A_ (Q_GW105 (hon 15 (by kernel_rfl)))
    have GE105 := A_ (Q_GE105 (hon 15 (by kernel_rfl)))
    have NB101_105 := A_ (Q_NB101_105 (hon 15 (by kernel_rfl)))
    have NB105_101 := A_ (Q_NB105_101 (hon 15 (by kernel_rfl)))
    have BK106 := A_ (Q_BK106 (hon 16 (by kernel_rfl)) (hoff 19 (by kernel_rfl)))
    have GW106 := A_ (Q_GW106 (hon 16 (by kernel_rfl)))
    have GE106 := A_ (Q_GE106 (hon 16 (by kernel_rfl)))
    have NB101_106 := A_ (Q_NB101_106 (hon 16 (by kernel_rfl)))
    have NB106_101 := A_ (Q_NB106_101 (hon 16 (by kernel_rfl)))
    have BK107 := A_ (Q_BK107 (hon 17 (by kernel_rfl)) (hoff 20 (by kernel_rfl)))
    have GW107 := A_ (Q_GW107 (hon 17 (by kernel_rfl)))
    have GE107 := A_ (Q_GE107 (hon 17 (by kernel_rfl)))
    have NB101_107 := A_ (Q_NB101_107 (hon 17 (by kernel_rfl)))
    have NB107_101 := A_ (Q_NB107_101 (hon 17 (by kernel_rfl)))
    have hs16 : w'.cell? ⟨gb105, 0, none⟩ = some (.int .i64 0) := (blk_cell BK105.out 0).trans rfl; have hfs16 := blk_frozen BK105.out 0; have hns16_0 := NB101_105.out; have hns16_2 := NB106_105.out; have hns16_3 := NB107_105.out; have hms16_0 := NB105_101.out; have hms16_2 := NB105_106.out; have hms16_3 := NB105_107.out; have hs17 : w'.cell? ⟨gb105, 1, none⟩ = some (.int .i64 0) := (blk_cell BK105.out 1).trans rfl; have hfs17 := blk_frozen BK105.out 1; have hns17_0 := NB101_105.out; have hns17_2 := NB106_105.out; have hns17_3 := NB107_105.out; have hms17_0 := NB105_101.out; have hms17_2 := NB105_106.out; have hms17_3 := NB105_107.out; have hs18 : w'.cell? ⟨gb105, 2, none⟩ = some (.int .i64 0) := (blk_cell BK105.out 2).trans rfl; have hfs18 := blk_frozen BK105.out 2; have hns18_0 := NB101_105.out; have hns18_2 := NB106_105.out; have hns18_3 := NB107_105.out; have hms18_0 := NB105_101.out; have hms18_2 := NB105_106.out; have hms18_3 := NB105_107.out
    refine skip_ (w1 := ?_) (by rfl) rfl ?_ ?_
    rotate_left
    ·go_simp
     rfl
    refine hK.out _ _ ⟨gb105, gb106, gb107, m15_, m16_, m17_, (by rw [ha.out]; exact putSel_none (v := undef) rfl), (bkF3 BK101 NB101_105), (bW4 HB.out GE101.out GE105.out GE106.out GE107.out), fun _ _ => NB106_105.out, fun _ _ => NB105_106.out, fun _ _ => NB107_105.out, fun _ _ => NB105_107.out, fun _ _ => NB107_106.out, fun _ _ => NB106_107.out, fun _ h1_ => absurd ((up_self b 18).symm.trans h1_) (by decide), fun _ => GW105.out, fun _ => GE105.out, fun _ => NB101_105.out, fun _ => NB105_101.out, fun _ _ => (bkF3 BK106 NB106_105), fun _ => GW106.out, fun _ => GE106.out, fun _ => NB101_106.out, fun _ => NB106_101.out, fun _ _ => (bkF3 BK107 NB107_105), fun _ => GW107.out, fun _ => GE107.out, fun _ => NB101_107.out, fun _ => NB107_101.out, fun _ => (by (with_reducible repeat (first | refine blk_drewN ?_ _ | refine blk_drew ?_ | refine blk_alloc ?_ _)); refine blk_put (cs := #[.int .i64 ((rd_T73 l0 a1_0).f0), .int .i64 ((rd_T73 l0 a1_0).f1), .int .i64 0]) ?_ 2 _ rfl; (with_reducible repeat (first | refine blk_drewN ?_ _ | refine blk_drew ?_ | refine blk_alloc ?_ _)); refine blk_put (cs := #[.int .i64 ((rd_T73 l0 a1_0).f0), .int .i64 0, .int .i64 0]) ?_ 1 _ rfl; (with_reducible repeat (first | refine blk_drewN ?_ _ | refine blk_drew ?_ | refine blk_alloc ?_ _)); refine blk_put (cs := #[.int .i64 0, .int .i64 0, .int .i64 0]) ?_ 0 _ rfl; exact bkU BK105), fun h0_ => absurd ((hoff 19 (by kernel_rfl)).symm.trans h0_) (by decide), fun h0_ => absurd ((hoff 20 (by kernel_rfl)).symm.trans h0_) (by decide), Q_X15_, Q_X16_, Q_X17_⟩
   refine steps_cons ?_ ?_
   ·rintro b a w' ⟨gb105, gb106, gb107, m15_, m16_, m17_, ha, Q_BK101, Q_HB, Q_NB106_105, Q_NB105_106, Q_NB107_105, Q_NB105_107, Q_NB107_106, Q_NB106_107, Q_BK105, Q_GW105, Q_GE105, Q_NB101_105, Q_NB105_101, Q_BK106, Q_GW106, Q_GE106, Q_NB101_106, Q_NB106_101, Q_BK107, Q_GW107, Q_GE107, Q_NB101_107, Q_NB107_101, Q_BK105_e18, Q_BK106_e19, Q_BK107_e20, Q_X15_, Q_X16_, Q_X17_⟩ hb_ hon hoff
    refine ⟨_, rfl, fun K hK => ?_⟩
    have e6 : a.tmps[6]? = some (m16_) := by rw [ha]; exact putSel_on (e := (16, 6, m16_)) 13 rfl rfl (hon 16 (by kernel_rfl)) rfl
    rw [Q_X16_ (hon 16 (by kernel_rfl))] at e6
    have e20 : a.tmps[20]? = some (.agg #[.int .i64 ((rd_T73 l0 a1_1).f0), .int .i64 ((rd_T73 l0 a1_1).f1), .int .i64 ((rd_T73 l0 a1_1).f2)]) := by rw [ha]; exact putSel_on (e := (9, 20, .agg #[.int .i64 ((rd_T73 l0 a1_1).f0), .int .i64 ((rd_T73 l0 a1_1).f1), .int .i64 ((rd_T73 l0 a1_1).f2)])) 7 rfl rfl (hon 9 (by kernel_rfl)) rfl
    replace ha := A_ ha; have BK101 := A_ Q_BK101; have HB := A_ Q_HB
    have NB106_105 := A_ (Q_NB106_105 (hon 15 (by kernel_rfl)) (hon 16 (by kernel_rfl)))
    have NB105_106 := A_ (Q_NB105_106 (hon 15 (by kernel_rfl)) (hon 16 (by kernel_rfl)))
    have NB107_105 := A_ (Q_NB107_105 (hon 15 (by kernel_rfl)) (hon 17 (by kernel_rfl)))
    have NB105_107 := A_ (Q_NB105_107 (hon 15 (by kernel_rfl)) (hon 17 (by kernel_rfl)))
    have NB107_106 := A_ (Q_NB107_106 (hon 16 (by kernel_rfl)) (hon 17 (by kernel_rfl)))
    have NB106_107 := A_ (Q_NB106_107 (hon 16 (by kernel_rfl)) (hon 17 (by kernel_rfl)))
    have GW105 := A_ (Q_GW105 (hon 15 (by kernel_rfl)))
    have GE105 := A_ (Q_GE105 (hon 15 (by kernel_rfl)))
    have NB101_105 := A_ (Q_NB101_105 (hon 15 (by kernel_rfl)))
    have NB105_101 := A_ (Q_NB105_101 (hon 15 (by kernel_rfl)))
    have BK106 := A_ (Q_BK106 (hon 16 (by kernel_rfl)) hb_)
    have GW106 := A_ (Q_GW106 (hon 16 (by kernel_rfl)))
    have GE106 := A_ (Q_GE106 (hon 16 (by kernel_rfl)))
    have NB101_106 := A_ (Q_NB101_106 (hon 16 (by kernel_rfl)))
    have NB106_101 := A_ (Q_NB106_101 (hon 16 (by kernel_rfl)))
    have BK107 := A_ (Q_BK107 (hon 17 (by kernel_rfl)) (hoff 20 (by kernel_rfl)))
    have GW107 := A_ (Q_GW107 (hon 17 (by kernel_rfl)))
    have GE107 := A_ (Q_GE107 (hon 17 (by kernel_rfl)))
    have NB101_107 := A_ (Q_NB101_107 (hon 17 (by kernel_rfl)))
    have NB107_101 := A_ (Q_NB107_101 (hon 17 (by kernel_rfl)))
    have BK105 := A_ (Q_BK105_e18 (hon 18 (by kernel_rfl)))
    have hs19 : w'.cell? ⟨gb106, 0, none⟩ = some (.int .i64 0) := (blk_cell BK106.out 0).trans rfl; have hfs19 := blk_frozen BK106.out 0; have hns19_0 := NB101_106.out; have hns19_1 := NB105_106.out; have hns19_3 := NB107_106.out; have hms19_0 := NB106_101.out; have hms19_1 := NB106_105.out; have hms19_3 := NB106_107.out; have hs20 : w'.cell? ⟨gb106, 1, none⟩ = some (.int .i64 0) := (blk_cell BK106.out 1).trans rfl; have hfs20 := blk_frozen BK106.out 1; have hns20_0 := NB101_106.out; have hns20_1 := NB105_106.out; have hns20_3 := NB107_106.out; have hms20_0 := NB106_101.out; have hms20_1 := NB106_105.out; have hms20_3 := NB106_107.out; have hs21 : w'.cell? ⟨gb106, 2, none⟩ = some (.int .i64 0) := (blk_cell BK106.out 2).trans rfl; have hfs21 := blk_frozen BK106.out 2; have hns21_0 := NB101_106.out; have hns21_1 := NB105_106.out; have hns21_3 := NB107_106.out; have hms21_0 := NB106_101.out; have hms21_1 := NB106_105.out; have hms21_3 := NB106_107.out
    refine skip_ (w1 := ?_) (by rfl) rfl ?_ ?_
    rotate_left
    ·go_simp
     rfl
    refine hK.out _ _ ⟨gb105, gb106, gb107, m15_, m16_, m17_, (by rw [ha.out]; exact putSel_none (v := undef) rfl), (bkF3 BK101 NB101_106), (bW4 HB.out GE101.out GE105.out GE106.out GE107.out), fun _ _ => NB106_105.out, fun _ _ => NB105_106.out, fun _ _ => NB107_105.out, fun _ _ => NB105_107.out, fun _ _ => NB107_106.out, fun _ _ => NB106_107.out, fun _ h1_ => absurd ((hon 18 (by kernel_rfl)).symm.trans h1_) (by decide), fun _ => GW105.out, fun _ => GE105.out, fun _ => NB101_105.out, fun _ => NB105_101.out, fun _ h1_ => absurd ((up_self b 19).symm.trans h1_) (by decide), fun _ => GW106.out, fun _ => GE106.out, fun _ => NB101_106.out, fun _ => NB106_101.out, fun _ _ => (bkF3 BK107 NB107_106), fun _ => GW107.out, fun _ => GE107.out, fun _ => NB101_107.out, fun _ => NB107_101.out, fun _ => (bkF3 BK105 NB105_106), fun _ => (by (with_reducible repeat (first | refine blk_drewN ?_ _ | refine blk_drew ?_ | refine blk_alloc ?_ _)); refine blk_put (cs := #[.int .i64 ((rd_T73 l0 a1_1).f0), .int .i64 ((rd_T73 l0 a1_1).f1), .int .i64 0]) ?_ 2 _ rfl; (with_reducible repeat (first | refine blk_drewN ?_ _ | refine blk_drew ?_ | refine blk_alloc ?_ _)); refine blk_put (cs := #[.int .i64 ((rd_T73 l0 a1_1).f0), .int .i64 0, .int .i64 0]) ?_ 1 _ rfl; (with_reducible repeat (first | refine blk_drewN ?_ _ | refine blk_drew ?_ | refine blk_alloc ?_ _)); refine blk_put (cs := #[.int .i64 0, .int .i64 0, .int .i64 0]) ?_ 0 _ rfl; exact bkU BK106), fun h0_ => absurd ((hoff 20 (by kernel_rfl)).symm.trans h0_) (by decide), Q_X15_, Q_X16_, Q_X17_⟩
   refine steps_cons ?_ ?_
   ·rintro b a w' ⟨gb105, gb106, gb107, m15_, m16_, m17_, ha, Q_BK101, Q_HB, Q_NB106_105, Q_NB105_106, Q_NB107_105, Q_NB105_107, Q_NB107_106, Q_NB106_107, Q_BK105, Q_GW105, Q_GE105, Q_NB101_105, Q_NB105_101, Q_BK106, Q_GW106, Q_GE106, Q_NB101_106, Q_NB106_101, Q_BK107, Q_GW107, Q_GE107, Q_NB101_107, Q_NB107_101, Q_BK105_e18, Q_BK106_e19, Q_BK107_e20, Q_X15_, Q_X16_, Q_X17_⟩ hb_ hon hoff
    refine ⟨_, rfl, fun K hK => ?_⟩
    have e7 : a.tmps[7]? = some (m17_) := by rw [ha]; exact putSel_on (e := (17, 7, m17_)) 14 rfl rfl (hon 17 (by kernel_rfl)) rfl
    rw [Q_X17_ (hon 17 (by kernel_rfl))] at e7
    have e25 : a.tmps[25]? = some (.agg #[.int .i64 ((rd_T73 l0 a1_2).f0), .int .i64 ((rd_T73 l0 a1_2).f1), .int .i64 ((rd_T73 l0 a1_2).f2)]) := by rw [ha]; exact putSel_on (e := (14, 25, .agg #[.int .i64 ((rd_T73 l0 a1_2).f0), .int .i64 ((rd_T73 l0 a1_2).f1), .int .i64 ((rd_T73 l0 a1_2).f2)])) 11 rfl rfl (hon 14 (by kernel_rfl)) rfl
    replace ha := A_ ha; have BK101 := A_ Q_BK101; have HB := A_ Q_HB
    have NB106_105 := A_ (Q_NB106_105 (hon 15 (by kernel_rfl)) (hon 16 (by kernel_rfl)))
    have NB105_106 := A_ (Q_NB105_106 (hon 15 (by kernel_rfl)) (hon 16 (by kernel_rfl)))
    have NB107_105 := A_ (Q_NB107_105 (hon 15 (by kernel_rfl)) (hon 17 (by kernel_rfl)))
    have NB105_107 := A_ (Q_NB105_107 (hon 15 (by kernel_rfl)) (hon 17 (by kernel_rfl)))
    have NB107_106 := A_ (Q_NB107_106 (hon 16 (by kernel_rfl)) (hon 17 (by kernel_rfl)))
    have NB106_107 := A_ (Q_NB106_107 (hon 16 (by kernel_rfl)) (hon 17 (by kernel_rfl)))
    have GW105 := A_ (Q_GW105 (hon 15 (by kernel_rfl)))
    have GE105 := A_ (Q_GE105 (hon 15 (by kernel_rfl)))
    have NB101_105 := A_ (Q_NB101_105 (hon 15 (by kernel_rfl)))
    have NB105_101 := A_ (Q_NB105_101 (hon 15 (by kernel_rfl)))
    have GW106 := A_ (Q_GW106 (hon 16 (by kernel_rfl)))
    have GE106 := A_ (Q_GE106 (hon 16 (by kernel_rfl)))
    have NB101_106 := A_ (Q_NB101_106 (hon 16 (by kernel_rfl)))
    have NB106_101 := A_ (Q_NB106_101 (hon 16 (by kernel_rfl)))
    have BK107 := A_ (Q_BK107 (hon 17 (by kernel_rfl)) hb_)
    have GW107 := A_ (Q_GW107 (hon 17 (by kernel_rfl)))
    have GE107 := A_ (Q_GE107 (hon 17 (by kernel_rfl)))
    have NB101_107 := A_ (Q_NB101_107 (hon 17 (by kernel_rfl)))
    have NB107_101 := A_ (Q_NB107_101 (hon 17 (by kernel_rfl)))
    have BK105 := A_ (Q_BK105_e18 (hon 18 (by kernel_rfl)))
    have BK106 := A_ (Q_BK106_e19 (hon 19 (by kernel_rfl)))
    have hs22 : w'.cell? ⟨gb107, 0, none⟩ = some (.int .i64 0) := (blk_cell BK107.out 0).trans rfl; have hfs22 := blk_frozen BK107.out 0; have hns22_0 := NB101_107.out; have hns22_1 := NB105_107.out; have hns22_2 := NB106_107.out; have hms22_0 := NB107_101.out; have hms22_1 := NB107_105.out; have hms22_2 := NB107_106.out; have hs23 : w'.cell? ⟨gb107, 1, none⟩ = some (.int .i64 0) := (blk_cell BK107.out 1).trans rfl; have hfs23 := blk_frozen BK107.out 1; have hns23_0 := NB101_107.out; have hns23_1 := NB105_107.out; have hns23_2 := NB106_107.out; have hms23_0 := NB107_101.out; have hms23_1 := NB107_105.out; have hms23_2 := NB107_106.out; have hs24 : w'.cell? ⟨gb107, 2, none⟩ = some (.int .i64 0) := (blk_cell BK107.out 2).trans rfl; have hfs24 := blk_frozen BK107.out 2; have hns24_0 := NB101_107.out; have hns24_1 := NB105_107.out; have hns24_2 := NB106_107.out; have hms24_0 := NB107_101.out; have hms24_1 := NB107_105.out; have hms24_2 := NB107_106.out
    refine skip_ (w1 := ?_) (by rfl) rfl ?_ ?_
    rotate_left
    ·go_simp
     rfl
    refine hK.out _ _ ⟨gb105, gb106, gb107, m15_, m16_, m17_, (by rw [ha.out]; exact putSel_none (v := undef) rfl), (bkF3 BK101 NB101_107), (bW4 HB.out GE101.out GE105.out GE106.out GE107.out), fun _ _ => NB106_105.out, fun _ _ => NB105_106.out, fun _ _ => NB107_105.out, fun _ _ => NB105_107.out, fun _ _ => NB107_106.out, fun _ _ => NB106_107.out, fun _ h1_ => absurd ((hon 18 (by kernel_rfl)).symm.trans h1_) (by decide), fun _ => GW105.out, fun _ => GE105.out, fun _ => NB101_105.out, fun _ => NB105_101.out, fun _ h1_ => absurd ((hon 19 (by kernel_rfl)).symm.trans h1_) (by decide), fun _ => GW106.out, fun _ => GE106.out, fun _ => NB101_106.out, fun _ => NB106_101.out, fun _ h1_ => absurd ((up_self b 20).symm.trans h1_) (by decide), fun _ => GW107.out, fun _ => GE107.out, fun _ => NB101_107.out, fun _ => NB107_101.out, fun _ => (bkF3 BK105 NB105_107), fun _ => (bkF3 BK106 NB106_107), fun _ => (by (with_reducible repeat (first | refine blk_drewN ?_ _ | refine blk_drew ?_ | refine blk_alloc ?_ _)); refine blk_put (cs := #[.int .i64 ((rd_T73 l0 a1_2).f0), .int .i64 ((rd_T73 l0 a1_2).f1), .int .i64 0]) ?_ 2 _ rfl; (with_reducible repeat (first | refine blk_drewN ?_ _ | refine blk_drew ?_ | refine blk_alloc ?_ _)); refine blk_put (cs := #[.int .i64 ((rd_T73 l0 a1_2).f0), .int .i64 0, .int .i64 0]) ?_ 1 _ rfl; (with_reducible repeat (first | refine blk_drewN ?_ _ | refine blk_drew ?_ | refine blk_alloc ?_ _)); refine blk_put (cs := #[.int .i64 0, .int .i64 0, .int .i64 0]) ?_ 0 _ rfl; exact bkU BK107), Q_X15_, Q_X16_, Q_X17_⟩
   exact steps_nil
  rintro b a w24 hall ⟨gb105, gb106, gb107, m15_, m16_, m17_, ha, Q_BK101, Q_HB, Q_NB106_105, Q_NB105_106, Q_NB107_105, Q_NB105_107, Q_NB107_106, Q_NB106_107, Q_BK105, Q_GW105, Q_GE105, Q_NB101_105, Q_NB105_101, Q_BK106, Q_GW106, Q_GE106, Q_NB101_106, Q_NB106_101, Q_BK107, Q_GW107, Q_GE107, Q_NB101_107, Q_NB107_101, Q_BK105_e18, Q_BK106_e19, Q_BK107_e20, Q_X15_, Q_X16_, Q_X17_⟩
  clear BK101 HB
  have hb1_ := hall 1 (by kernel_rfl)
  have hb2_ := hall 2 (by kernel_rfl)
  have hb3_ := hall 3 (by kernel_rfl)
  have hb4_ := hall 4 (by kernel_rfl)
  have hb6_ := hall 6 (by kernel_rfl)
  have hb7_ := hall 7 (by kernel_rfl)
  have hb8_ := hall 8 (by kernel_rfl)
  have hb9_ := hall 9 (by kernel_rfl)
  have hb11_ := hall 11 (by kernel_rfl)
  have hb12_ := hall 12 (by kernel_rfl)
  have hb13_ := hall 13 (by kernel_rfl)
  have hb14_ := hall 14 (by kernel_rfl)
  have hb15_ := hall 15 (by kernel_rfl)
  have hb16_ := hall 16 (by kernel_rfl)
  have hb17_ := hall 17 (by kernel_rfl)
  have hb18_ := hall 18 (by kernel_rfl)
  have hb19_ := hall 19 (by kernel_rfl)
  have hb20_ := hall 20 (by kernel_rfl)
  subst ha; obtain rfl := Q_X15_ hb15_; obtain rfl := Q_X16_ hb16_; obtain rfl := Q_X17_ hb17_; simp only [putSel, hb1_, hb2_, hb3_, hb4_, hb6_, hb7_, hb8_, hb9_, hb11_, hb12_, hb13_, hb14_, hb15_, hb16_, hb17_, hb18_, hb19_, hb20_, if_true, Act.put, List.setIfInBounds_toArray, List.set_cons_zero, List.set_cons_succ]; have BK101 := A_ Q_BK101; clear Q_BK101; have HB := A_ Q_HB; clear Q_HB; have NB106_105 := A_ (Q_NB106_105 hb15_ hb16_); clear Q_NB106_105; have NB105_106 := A_ (Q_NB105_106 hb15_ hb16_); clear Q_NB105_106; have NB107_105 := A_ (Q_NB107_105 hb15_ hb17_); clear Q_NB107_105; have NB105_107 := A_ (Q_NB105_107 hb15_ hb17_); clear Q_NB105_107; have NB107_106 := A_ (Q_NB107_106 hb16_ hb17_); clear Q_NB107_106; have NB106_107 := A_ (Q_NB106_107 hb16_ hb17_); clear Q_NB106_107 Q_BK105; have GW105 := A_ (Q_GW105 hb15_); clear Q_GW105; have GE105 := A_ (Q_GE105 hb15_); clear Q_GE105; have NB101_105 := A_ (Q_NB101_105 hb15_); clear Q_NB101_105; have NB105_101 := A_ (Q_NB105_101 hb15_); clear Q_NB105_101 Q_BK106; have GW106 := A_ (Q_GW106 hb16_); clear Q_GW106; have GE106 := A_ (Q_GE106 hb16_); clear Q_GE106; have NB101_106 := A_ (Q_NB101_106 hb16_); clear Q_NB101_106; have NB106_101 := A_ (Q_NB106_101 hb16_); clear Q_NB106_101 Q_BK107; have GW107 := A_ (Q_GW107 hb17_); clear Q_GW107; have GE107 := A_ (Q_GE107 hb17_); clear Q_GE107; have NB101_107 := A_ (Q_NB101_107 hb17_); clear Q_NB101_107; have NB107_101 := A_ (Q_NB107_101 hb17_); clear Q_NB107_101; have BK105 := A_ (Q_BK105_e18 hb18_)
  clear Q_BK105_e18; have BK106 := A_ (Q_BK106_e19 hb19_); clear Q_BK106_e19; have BK107 := A_ (Q_BK107_e20 hb20_); clear Q_BK107_e20 hall hb1_ hb2_ hb3_ hb4_ hb6_ hb7_ hb8_ hb9_ hb11_ hb12_ hb13_ hb14_ hb15_ hb16_ hb17_ hb18_ hb19_ hb20_; have hnb25 := NB107_101.out; have hnc25 := NB101_107.out; have hnb26 := NB107_105.out; have hnc26 := NB105_107.out; have hnb27 := NB107_106.out; have hnc27 := NB106_107.out; have hcz28_0 : w24.cell? ⟨gb107, 0, none⟩ = some (.int .i64 ((rd_T73 l0 a1_2).f0)) := (blk_cell BK107.out 0).trans rfl; have hcz28_1 : w24.cell? ⟨gb107, 1, none⟩ = some (.int .i64 ((rd_T73 l0 a1_2).f1)) := (blk_cell BK107.out 1).trans rfl; have hcz28_2 : w24.cell? ⟨gb107, 2, none⟩ = some (.int .i64 ((rd_T73 l0 a1_2).f2)) := (blk_cell BK107.out 2).trans rfl; have hfz28_0 := blk_frozen BK107.out 0; have hfz28_1 := blk_frozen BK107.out 1; have hfz28_2 := blk_frozen BK107.out 2; have hnb29 := NB105_101.out; have hnc29 := NB101_105.out; have hnb30 := NB105_106.out; have hnc30 := NB106_105.out; have hcz31_0 : w24.cell? ⟨gb105, 0, none⟩ = some (.int .i64 ((rd_T73 l0 a1_0).f0)) := (blk_cell BK105.out 0).trans rfl; have hcz31_1 : w24.cell? ⟨gb105, 1, none⟩ = some (.int .i64 ((rd_T73 l0 a1_0).f1)) := (blk_cell BK105.out 1).trans rfl; have hcz31_2 : w24.cell? ⟨gb105, 2, none⟩ = some (.int .i64 ((rd_T73 l0 a1_0).f2)) := (blk_cell BK105.out 2).trans rfl; have hfz31_0 := blk_frozen BK105.out 0; have hfz31_1 := blk_frozen BK105.out 1; have hfz31_2 := blk_frozen BK105.out 2; have hnb32 := NB106_101.out
  have hnc32 := NB101_106.out; have hcz33_0 : w24.cell? ⟨gb106, 0, none⟩ = some (.int .i64 ((rd_T73 l0 a1_1).f0)) := (blk_cell BK106.out 0).trans rfl; have hcz33_1 : w24.cell? ⟨gb106, 1, none⟩ = some (.int .i64 ((rd_T73 l0 a1_1).f1)) := (blk_cell BK106.out 1).trans rfl; have hcz33_2 : w24.cell? ⟨gb106, 2, none⟩ = some (.int .i64 ((rd_T73 l0 a1_1).f2)) := (blk_cell BK106.out 2).trans rfl; have hfz33_0 := blk_frozen BK106.out 0; have hfz33_1 := blk_frozen BK106.out 1; have hfz33_2 := blk_frozen BK106.out 2
  try go_wp2
  go_ret
  exact ⟨eQ, by repeat (first | (with_reducible first | exact HB.out | apply below_alloc | apply pw_below_drewN | apply below_drew1 | refine below_set ?_ GE101.out | refine below_set ?_ GE105.out | refine below_set ?_ GE106.out | refine below_set ?_ GE107.out) | exact HB.out)⟩
 rw [if_neg c9] at H; have c9b0 : decide ((wrap64 (((rd_T73 l0 a1_1).f2) * (wrap64 (((rd_T73 l0 a1_2).f0) - ((rd_T73 l0 a1_0).f0))))) < (wrap64 ((wrap64 (((rd_T73 l0 a1_0).f1) * (wrap64 (((rd_T73 l0 a1_2).f0) - ((rd_T73 l0 a1_1).f0))))) + (wrap64 (((rd_T73 l0 a1_2).f1) * (wrap64 (((rd_T73 l0 a1_1).f0) - ((rd_T73 l0 a1_0).f0)))))))) = false := decide_eq_false c9; clear c9; obtain rfl := Option.some.inj H
 go_enter Try.func54, Try.ntmps54
 try go_wp2_with (first | ((with_reducible refine gate_dst (N := 3) rfl ?_); refine bxW 3 (cs := #[.int .i64 a1_0, .int .i64 a1_1, .int .i64 a1_2]) (t := 31) ?_; intro gb101 hg w34 hbox hb; have n0_ := A_ (below_step (bW0 HB.out) hb); have n1_ := A_ (hbox); have n2_ := A_ ((szG hg (bW0 HB.out))); have n3_ := A_ ((szG hg (bW0 HB.out))); clear HB; have HB := n0_; have BK101 := n1_; have GW101 := n2_; have GE101 := n3_; clear n0_ n1_ n2_ n3_; clear hb hbox hg))
 have n0_ := A_ (blk_drew BK101.out); have n1_ := A_ (below_drew1 HB.out); clear BK101 HB; have BK101 := n0_; have HB := n1_; clear n0_ n1_; have p102 : 0 ≤ (a1_0 : Int) := oD; have q102 : a1_0 < (l0.length : Int) := oD; obtain ⟨ad102, e102, hx102_0, hx102_1, hx102_2⟩ := at_T73 HR0.out a1_0 p102 q102; have hw102_2 := hx102_2; have hw102_1 := hx102_1; have hw102_0 := hx102_0
 cases e102
 replace hx102_0 := (HB.out.cell (World.block_lt_of_cell? w _ hx102_0)).trans hx102_0; replace hx102_1 := (HB.out.cell (World.block_lt_of_cell? w _ hx102_1)).trans hx102_1; replace hx102_2 := (HB.out.cell (World.block_lt_of_cell? w _ hx102_2)).trans hx102_2; replace p102 := eq_true p102; replace q102 := eq_true q102; have p103 : 0 ≤ (a1_1 : Int) := oD; have q103 : a1_1 < (l0.length : Int) := oD; obtain ⟨ad103, e103, hx103_0, hx103_1, hx103_2⟩ := at_T73 HR0.out a1_1 p103 q103; have hw103_2 := hx103_2; have hw103_1 := hx103_1; have hw103_0 := hx103_0
 obtain rfl : ad102 = ad103 := (by injection e103)
 replace hx103_0 := (HB.out.cell (World.block_lt_of_cell? w _ hx103_0)).trans hx103_0; replace hx103_1 := (HB.out.cell (World.block_lt_of_cell? w _ hx103_1)).trans hx103_1; replace hx103_2 := (HB.out.cell (World.block_lt_of_cell? w _ hx103_2)).trans hx103_2; replace p103 := eq_true p103; replace q103 := eq_true q103; have p104 : 0 ≤ (a1_2 : Int) := oD; have q104 : a1_2 < (l0.length : Int) := oD; obtain ⟨ad104, e104, hx104_0, hx104_1, hx104_2⟩ := at_T73 HR0.out a1_2 p104 q104; have hw104_2 := hx104_2; have hw104_1 := hx104_1; have hw104_0 := hx104_0
 obtain rfl : ad102 = ad104 := (by injection e104)
 replace hx104_0 := (HB.out.cell (World.block_lt_of_cell? w _ hx104_0)).trans hx104_0; replace hx104_1 := (HB.out.cell (World.block_lt_of_cell? w _ hx104_1)).trans hx104_1; replace hx104_2 := (HB.out.cell (World.block_lt_of_cell? w _ hx104_2)).trans hx104_2; replace p104 := eq_true p104; replace q104 := eq_true q104
 refine start_ (n := 21) (S := fun w' => True) (ds := []) (mkB 21 0) (by kernel_rfl) rfl rfl trivial (fun hHeld => ?_); refine with_tabW dropperref03_forbids.tab1 dropperref03_forbids.bits1 (fun HT_ HW_ => ?_)
 generalize w34.drew = w35 at BK101 HB hx102_0 hx102_1 hx102_2 hx103_0 hx103_1 hx103_2 hx104_0 hx104_1 hx104_2 hHeld ⊢; refine pr_ 0 (some 11) (mkB 21 1) HT_ ?_; refine pr_ 5 (some 16) (mkB 21 33) HT_ ?_; refine pr_ 10 (some 21) (mkB 21 1057) HT_ ?_
 refine inv_at [1, 2, 3, 4, 6, 7, 8, 9, 11, 12, 13, 14, 15, 16, 17, 18, 19, 20] (fun a0_ b a w' => ∃ (gb105 : Nat) (gb106 : Nat) (gb107 : Nat) (m15_ : Value) (m16_ : Value) (m17_ : Value), a = putSel a0_ b [(1, 12, .pointer (some ⟨gb101, 0, none⟩)), (2, 13, .int .i64 a1_0), (3, 14, .pointer (some (ad102.add ((a1_0).toNat * 3)))), (4, 15, .agg #[.int .i64 ((rd_T73 l0 a1_0).f0), .int .i64 ((rd_T73 l0 a1_0).f1), .int .i64 ((rd_T73 l0 a1_0).f2)]), (6, 17, .pointer (some ⟨gb101, 1, none⟩)), (7, 18, .int .i64 a1_1), (8, 19, .pointer (some (ad102.add ((a1_1).toNat * 3)))), (9, 20, .agg #[.int .i64 ((rd_T73 l0 a1_1).f0), .int .i64 ((rd_T73 l0 a1_1).f1), .int .i64 ((rd_T73 l0 a1_1).f2)]), (11, 22, .pointer (some ⟨gb101, 2, none⟩)), (12, 23, .int .i64 a1_2), (13, 24, .pointer (some (ad102.add ((a1_2).toNat * 3)))), (14, 25, .agg #[.int .i64 ((rd_T73 l0 a1_2).f0), .int .i64 ((rd_T73 l0 a1_2).f1), .int .i64 ((rd_T73 l0 a1_2).f2)]), (15, 5, m15_), (16, 6, m16_), (17, 7, m17_)] ∧ (w'.heap[gb101]? = some (.cells #[.int .i64 a1_0, .int .i64 a1_1, .int .i64 a1_2] 31 (0, 0))) ∧ (Below w.heap.size w w') ∧ (b 15 = true → b 16 = true → gb106 ≠ gb105) ∧ (b 15 = true → b 16 = true → gb105 ≠ gb106) ∧ (b 15 = true → b 17 = true → gb107 ≠ gb105) ∧ (b 15 = true → b 17 = true → gb105 ≠ gb107) ∧ (b 16 = true → b 17 = true → gb107 ≠ gb106) ∧ (b 16 = true → b 17 = true → gb106 ≠ gb107) ∧ (b 15 = true → b 18 = false → w'.heap[gb105]? = some (.cells #[.int .i64 0, .int .i64 0, .int .i64 0] 73 (0, 0))) ∧ (b 15 = true → w.heap.size ≤ gb105) ∧ (b 15 = true → w.heap.size ≤ gb105) ∧ (b 15 = true → gb101 ≠ gb105) ∧ (b 15 = true → gb105 ≠ gb101) ∧ (b 16 = true → b 19 = false → w'.heap[gb106]? = some (.cells #[.int .i64 0, .int .i64 0, .int .i64 0] 73 (0, 0))) ∧ (b 16 = true → w.heap.size ≤ gb106) ∧ (b 16 = true → w.heap.size ≤ gb106) ∧ (b 16 = true → gb101 ≠ gb106) ∧ (b 16 = true → gb106 ≠ gb101) ∧ (b 17 = true → b 20 = false → w'.heap[gb107]? = some (.cells #[.int .i64 0, .int .i64 0, .int .i64 0] 73 (0, 0))) ∧ (b 17 = true → w.heap.size ≤ gb107) ∧ (b 17 = true → w.heap.size ≤ gb107) ∧ (b 17 = true → gb101 ≠ gb107) ∧ (b 17 = true → gb107 ≠ gb101) ∧ (b 18 = true → w'.heap[gb105]? = some (.cells #[.int .i64 ((rd_T73 l0 a1_0).f0), .int .i64 ((rd_T73 l0 a1_0).f1), .int .i64 ((rd_T73 l0 a1_0).f2)] 73 (0, 0))) ∧ (b 19 = true → w'.heap[gb106]? = some (.cells #[.int .i64 ((rd_T73 l0 a1_1).f0), .int .i64 ((rd_T73 l0 a1_1).f1), .int .i64 ((rd_T73 l0 a1_1).f2)] 73 (0, 0))) ∧ (b 20 = true → w'.heap[gb107]? = some (.cells #[.int .i64 ((rd_T73 l0 a1_2).f0), .int .i64 ((rd_T73 l0 a1_2).f1), .int .i64 ((rd_T73 l0 a1_2).f2)] 73 (0, 0))) ∧ (b 15 = true → (m15_ : Value) = .pointer (some ⟨gb105, 0, none⟩)) ∧ (b 16 = true → (m16_ : Value) = .pointer (some ⟨gb106, 0, none⟩)) ∧ (b 17 = true → (m17_ : Value) = .pointer (some ⟨gb107, 0, none⟩))) HT_.out HW_.out (by kernel_rfl) (by kernel_rfl) ?_ ?_ ?_
 ·exact ⟨0, 0, 0, .bool false, .bool false, .bool false, by simp only [putSel, Bool.false_eq_true, if_false], BK101.out, HB.out, fun h_ => absurd h_ (by decide), fun h_ => absurd h_ (by decide), fun h_ => absurd h_ (by decide), fun h_ => absurd h_ (by decide), fun h_ => absurd h_ (by decide), fun h_ => absurd h_ (by decide), fun h_ => absurd h_ (by decide), fun h_ => absurd h_ (by decide), fun h_ => absurd h_ (by decide), fun h_ => absurd h_ (by decide), fun h_ => absurd h_ (by decide), fun h_ => absurd h_ (by decide), fun h_ => absurd h_ (by decide), fun h_ => absurd h_ (by decide), fun h_ => absurd h_ (by decide), fun h_ => absurd h_ (by decide), fun h_ => absurd h_ (by decide), fun h_ => absurd h_ (by decide), fun h_ => absurd h_ (by decide), fun h_ => absurd h_ (by decide), fun h_ => absurd h_ (by decide), fun h_ => absurd h_ (by decide), fun h_ => absurd h_ (by decide), fun h_ => absurd h_ (by decide), fun h_ => absurd h_ (by decide), fun h_ => absurd h_ (by decide), fun h_ => absurd h_ (by decide)⟩
 ·skip
  clear BK101 HB
  refine steps_cons ?_ ?_
  ·rintro b a w' ⟨gb105, gb106, gb107, m15_, m16_, m17_, ha, Q_BK101, Q_HB, Q_NB106_105, Q_NB105_106, Q_NB107_105, Q_NB105_107, Q_NB107_106, Q_NB106_107, Q_BK105, Q_GW105, Q_GE105, Q_NB101_105, Q_NB105_101, Q_BK106, Q_GW106, Q_GE106, Q_NB101_106, Q_NB106_101, Q_BK107, Q_GW107, Q_GE107, Q_NB101_107, Q_NB107_101, Q_BK105_e18, Q_BK106_e19, Q_BK107_e20, Q_X15_, Q_X16_, Q_X17_⟩ hb_ hon hoff
   refine ⟨_, rfl, fun K hK => ?_⟩
   have e3 : a.tmps[3]? = some (.pointer (some ⟨gb101, 0, none⟩)) := by rw [ha]; exact (putSel_off rfl).trans rfl
   replace ha := A_ ha; have BK101 := A_ Q_BK101; have HB := A_ Q_HB
   refine value_ (w1 := w') (v := .pointer (some ⟨gb101, 0, none⟩)) (by rfl) rfl ?_ ?_
   ·go_simp
    (try simp only [i64_w])
    try rfl
   refine hK.out _ _ ⟨gb105, gb106, gb107, m15_, m16_, m17_, (by rw [ha.out]; exact putSel_upk 0 hb_ rfl rfl rfl), Q_BK101, Q_HB, Q_NB106_105, Q_NB105_106, Q_NB107_105, Q_NB105_107, Q_NB107_106, Q_NB106_107, Q_BK105, Q_GW105, Q_GE105, Q_NB101_105, Q_NB105_101, Q_BK106, Q_GW106, Q_GE106, Q_NB101_106, Q_NB106_101, Q_BK107, Q_GW107, Q_GE107, Q_NB101_107, Q_NB107_101, fun h0_ => absurd ((hoff 18 (by kernel_rfl)).symm.trans h0_) (by decide), fun h0_ => absurd ((hoff 19 (by kernel_rfl)).symm.trans h0_) (by decide), fun h0_ => absurd ((hoff 20 (by kernel_rfl)).symm.trans h0_) (by decide), Q_X15_, Q_X16_, Q_X17_⟩
  refine steps_cons ?_ ?_
  ·rintro b a w' ⟨gb105, gb106, gb107, m15_, m16_, m17_, ha, Q_BK101, Q_HB, Q_NB106_105, Q_NB105_106, Q_NB107_105, Q_NB105_107, Q_NB107_106, Q_NB106_107, Q_BK105, Q_GW105, Q_GE105, Q_NB101_105, Q_NB105_101, Q_BK106, Q_GW106, Q_GE106, Q_NB101_106, Q_NB106_101, Q_BK107, Q_GW107, Q_GE107, Q_NB101_107, Q_NB107_101, Q_BK105_e18, Q_BK106_e19, Q_BK107_e20, Q_X15_, Q_X16_, Q_X17_⟩ hb_ hon hoff
   refine ⟨_, rfl, fun K hK => ?_⟩
   have e12 : a.tmps[12]? = some (.pointer (some ⟨gb101, 0, none⟩)) := by rw [ha]; exact putSel_on (e := (1, 12, .pointer (some ⟨gb101, 0, none⟩))) 0 rfl rfl (hon 1 (by kernel_rfl)) rfl
   replace ha := A_ ha; have BK101 := A_ Q_BK101; have HB := A_ Q_HB; have hc0_ : w'.cell? ⟨gb101, 0, none⟩ = some (.int .i64 a1_0) := (blk_cell BK101.out 0).trans rfl; have hc1_ : w'.cell? ⟨gb101, 1, none⟩ = some (.int .i64 a1_1) := (blk_cell BK101.out 1).trans rfl; have hc2_ : w'.cell? ⟨gb101, 2, none⟩ = some (.int .i64 a1_2) := (blk_cell BK101.out 2).trans rfl
   refine value_ (w1 := w') (v := .int .i64 a1_0) (by rfl) rfl ?_ ?_
   ·go_simp
    (try simp only [i64_w])
    try rfl
   refine hK.out _ _ ⟨gb105, gb106, gb107, m15_, m16_, m17_, (by rw [ha.out]; exact putSel_upk 1 hb_ rfl rfl rfl), Q_BK101, Q_HB, Q_NB106_105, Q_NB105_106, Q_NB107_105, Q_NB105_107, Q_NB107_106, Q_NB106_107, Q_BK105, Q_GW105, Q_GE105, Q_NB101_105, Q_NB105_101, Q_BK106, Q_GW106, Q_GE106, Q_NB101_106, Q_NB106_101, Q_BK107, Q_GW107, Q_GE107, Q_NB101_107, Q_NB107_101, fun h0_ => absurd ((hoff 18 (by kernel_rfl)).symm.trans h0_) (by decide), fun h0_ => absurd ((hoff 19 (by kernel_rfl)).symm.trans h0_) (by decide), fun h0_ => absurd ((hoff 20 (by kernel_rfl)).symm.trans h0_) (by decide), Q_X15_, Q_X16_, Q_X17_⟩
  refine steps_cons ?_ ?_
  ·rintro b a w' ⟨gb105, gb106, gb107, m15_, m16_, m17_, ha, Q_BK101, Q_HB, Q_NB106_105, Q_NB105_106, Q_NB107_105, Q_NB105_107, Q_NB107_106, Q_NB106_107, Q_BK105, Q_GW105, Q_GE105, Q_NB101_105, Q_NB105_101, Q_BK106, Q_GW106, Q_GE106, Q_NB101_106, Q_NB106_101, Q_BK107, Q_GW107, Q_GE107, Q_NB101_107, Q_NB107_101, Q_BK105_e18, Q_BK106_e19, Q_BK107_e20, Q_X15_, Q_X16_, Q_X17_⟩ hb_ hon hoff
   refine ⟨_, rfl, fun K hK => ?_⟩
   have e11 : a.tmps[11]? = some (.slice (some ad102) l0.length c0) := by rw [ha]; exact (putSel_off rfl).trans rfl
   have e13 : a.tmps[13]? = some (.int .i64 a1_0) := by rw [ha]; exact putSel_on (e := (2, 13, .int .i64 a1_0)) 1 rfl rfl (hon 2 (by kernel_rfl)) rfl
   replace ha := A_ ha; have BK101 := A_ Q_BK101; have HB := A_ Q_HB; have hs0_ : w'.cell? (ad102.add ((a1_0).toNat * 3)) = some (.int .i64 ((rd_T73 l0 a1_0).f0)) := (pw_cell_below HB.out hw102_0); have hs1_ : w'.cell? ⟨(ad102.add ((a1_0).toNat * 3)).block, (ad102.add ((a1_0).toNat * 3)).off + 1, none⟩ = some (.int .i64 ((rd_T73 l0 a1_0).f1)) := (pw_cell_below HB.out hw102_1); have hs2_ : w'.cell? ⟨(ad102.add ((a1_0).toNat * 3)).block, (ad102.add ((a1_0).toNat * 3)).off + 2, none⟩ = some (.int .i64 ((rd_T73 l0 a1_0).f2)) := (pw_cell_below HB.out hw102_2)
   refine value_ (w1 := w') (v := .pointer (some (ad102.add ((a1_0).toNat * 3)))) (by rfl) rfl ?_ ?_
   ·go_simp
    (try simp only [i64_w])
    try rfl
   refine hK.out _ _ ⟨gb105, gb106, gb107, m15_, m16_, m17_, (by rw [ha.out]; exact putSel_upk 2 hb_ rfl rfl rfl), Q_BK101, Q_HB, Q_NB106_105, Q_NB105_106, Q_NB107_105, Q_NB105_107, Q_NB107_106, Q_NB106_107, Q_BK105, Q_GW105, Q_GE105, Q_NB101_105, Q_NB105_101, Q_BK106, Q_GW106, Q_GE106, Q_NB101_106, Q_NB106_101, Q_BK107, Q_GW107, Q_GE107, Q_NB101_107, Q_NB107_101, fun h0_ => absurd ((hoff 18 (by kernel_rfl)).symm.trans h0_) (by decide), fun h0_ => absurd ((hoff 19 (by kernel_rfl)).symm.trans h0_) (by decide), fun h0_ => absurd ((hoff 20 (by kernel_rfl)).symm.trans h0_) (by decide), Q_X15_, Q_X16_, Q_X17_⟩
  refine steps_cons ?_ ?_
  ·rintro b a w' ⟨gb105, gb106, gb107, m15_, m16_, m17_, ha, Q_BK101, Q_HB, Q_NB106_105, Q_NB105_106, Q_NB107_105, Q_NB105_107, Q_NB107_106, Q_NB106_107, Q_BK105, Q_GW105, Q_GE105, Q_NB101_105, Q_NB105_101, Q_BK106, Q_GW106, Q_GE106, Q_NB101_106, Q_NB106_101, Q_BK107, Q_GW107, Q_GE107, Q_NB101_107, Q_NB107_101, Q_BK105_e18, Q_BK106_e19, Q_BK107_e20, Q_X15_, Q_X16_, Q_X17_⟩ hb_ hon hoff
   refine ⟨_, rfl, fun K hK => ?_⟩
   have e14 : a.tmps[14]? = some (.pointer (some (ad102.add ((a1_0).toNat * 3)))) := by rw [ha]; exact putSel_on (e := (3, 14, .pointer (some (ad102.add ((a1_0).toNat * 3))))) 2 rfl rfl (hon 3 (by kernel_rfl)) rfl
   replace ha := A_ ha; have BK101 := A_ Q_BK101; have HB := A_ Q_HB; have hs0_ : w'.cell? (ad102.add ((a1_0).toNat * 3)) = some (.int .i64 ((rd_T73 l0 a1_0).f0)) := (pw_cell_below HB.out hw102_0); have hs1_ : w'.cell? ⟨(ad102.add ((a1_0).toNat * 3)).block, (ad102.add ((a1_0).toNat * 3)).off + 1, none⟩ = some (.int .i64 ((rd_T73 l0 a1_0).f1)) := (pw_cell_below HB.out hw102_1); have hs2_ : w'.cell? ⟨(ad102.add ((a1_0).toNat * 3)).block, (ad102.add ((a1_0).toNat * 3)).off + 2, none⟩ = some (.int .i64 ((rd_T73 l0 a1_0).f2)) := (pw_cell_below HB.out hw102_2)
   refine value_ (w1 := w') (v := .agg #[.int .i64 ((rd_T73 l0 a1_0).f0), .int .i64 ((rd_T73 l0 a1_0).f1), .int .i64 ((rd_T73 l0 a1_0).f2)]) (by rfl) rfl ?_ ?_
   ·go_simp
    (try simp only [i64_w])
    try rfl
   refine hK.out _ _ ⟨gb105, gb106, gb107, m15_, m16_, m17_, (by rw [ha.out]; exact putSel_upk 3 hb_ rfl rfl rfl), Q_BK101, Q_HB, Q_NB106_105, Q_NB105_106, Q_NB107_105, Q_NB105_107, Q_NB107_106, Q_NB106_107, Q_BK105, Q_GW105, Q_GE105, Q_NB101_105, Q_NB105_101, Q_BK106, Q_GW106, Q_GE106, Q_NB101_106, Q_NB106_101, Q_BK107, Q_GW107, Q_GE107, Q_NB101_107, Q_NB107_101, fun h0_ => absurd ((hoff 18 (by kernel_rfl)).symm.trans h0_) (by decide), fun h0_ => absurd ((hoff 19 (by kernel_rfl)).symm.trans h0_) (by decide), fun h0_ => absurd ((hoff 20 (by kernel_rfl)).symm.trans h0_) (by decide), Q_X15_, Q_X16_, Q_X17_⟩
  refine steps_cons ?_ ?_
  ·rintro b a w' ⟨gb105, gb106, gb107, m15_, m16_, m17_, ha, Q_BK101, Q_HB, Q_NB106_105, Q_NB105_106, Q_NB107_105, Q_NB105_107, Q_NB107_106, Q_NB106_107, Q_BK105, Q_GW105, Q_GE105, Q_NB101_105, Q_NB105_101, Q_BK106, Q_GW106, Q_GE106, Q_NB101_106, Q_NB106_101, Q_BK107, Q_GW107, Q_GE107, Q_NB101_107, Q_NB107_101, Q_BK105_e18, Q_BK106_e19, Q_BK107_e20, Q_X15_, Q_X16_, Q_X17_⟩ hb_ hon hoff
   refine ⟨_, rfl, fun K hK => ?_⟩
   have e3 : a.tmps[3]? = some (.pointer (some ⟨gb101, 0, none⟩)) := by rw [ha]; exact (putSel_off rfl).trans rfl
   replace ha := A_ ha; have BK101 := A_ Q_BK101; have HB := A_ Q_HB
   refine value_ (w1 := w') (v := .pointer (some ⟨gb101, 1, none⟩)) (by rfl) rfl ?_ ?_
   ·go_simp
    (try simp only [i64_w])
    try rfl
   refine hK.out _ _ ⟨gb105, gb106, gb107, m15_, m16_, m17_, (by rw [ha.out]; exact putSel_upk 4 hb_ rfl rfl rfl), Q_BK101, Q_HB, Q_NB106_105, Q_NB105_106, Q_NB107_105, Q_NB105_107, Q_NB107_106, Q_NB106_107, Q_BK105, Q_GW105, Q_GE105, Q_NB101_105, Q_NB105_101, Q_BK106, Q_GW106, Q_GE106, Q_NB101_106, Q_NB106_101, Q_BK107, Q_GW107, Q_GE107, Q_NB101_107, Q_NB107_101, Q_BK105_e18, fun h0_ => absurd ((hoff 19 (by kernel_rfl)).symm.trans h0_) (by decide), fun h0_ => absurd ((hoff 20 (by kernel_rfl)).symm.trans h0_) (by decide), Q_X15_, Q_X16_, Q_X17_⟩
  refine steps_cons ?_ ?_
  ·rintro b a w' ⟨gb105, gb106, gb107, m15_, m16_, m17_, ha, Q_BK101, Q_HB, Q_NB106_105, Q_NB105_106, Q_NB107_105, Q_NB105_107, Q_NB107_106, Q_NB106_107, Q_BK105, Q_GW105, Q_GE105, Q_NB101_105, Q_NB105_101, Q_BK106, Q_GW106, Q_GE106, Q_NB101_106, Q_NB106_101, Q_BK107, Q_GW107, Q_GE107, Q_NB101_107, Q_NB107_101, Q_BK105_e18, Q_BK106_e19, Q_BK107_e20, Q_X15_, Q_X16_, Q_X17_⟩ hb_ hon hoff
   refine ⟨_, rfl, fun K hK => ?_⟩
   have e17 : a.tmps[17]? = some (.pointer (some ⟨gb101, 1, none⟩)) := by rw [ha]; exact putSel_on (e := (6, 17, .pointer (some ⟨gb101, 1, none⟩))) 4 rfl rfl (hon 6 (by kernel_rfl)) rfl
   replace ha := A_ ha; have BK101 := A_ Q_BK101; have HB := A_ Q_HB; have hc0_ : w'.cell? ⟨gb101, 0, none⟩ = some (.int .i64 a1_0) := (blk_cell BK101.out 0).trans rfl; have hc1_ : w'.cell? ⟨gb101, 1, none⟩ = some (.int .i64 a1_1) := (blk_cell BK101.out 1).trans rfl; have hc2_ : w'.cell? ⟨gb101, 2, none⟩ = some (.int .i64 a1_2) := (blk_cell BK101.out 2).trans rfl
   refine value_ (w1 := w') (v := .int .i64 a1_1) (by rfl) rfl ?_ ?_
   ·go_simp
    (try simp only [i64_w])
    try rfl
   refine hK.out _ _ ⟨gb105, gb106, gb107, m15_, m16_, m17_, (by rw [ha.out]; exact putSel_upk 5 hb_ rfl rfl rfl), Q_BK101, Q_HB, Q_NB106_105, Q_NB105_106, Q_NB107_105, Q_NB105_107, Q_NB107_106, Q_NB106_107, Q_BK105, Q_GW105, Q_GE105, Q_NB101_105, Q_NB105_101, Q_BK106, Q_GW106, Q_GE106, Q_NB101_106, Q_NB106_101, Q_BK107, Q_GW107, Q_GE107, Q_NB101_107, Q_NB107_101, Q_BK105_e18, fun h0_ => absurd ((hoff 19 (by kernel_rfl)).symm.trans h0_) (by decide), fun h0_ => absurd ((hoff 20 (by kernel_rfl)).symm.trans h0_) (by decide), Q_X15_, Q_X16_, Q_X17_⟩
  refine steps_cons ?_ ?_
  ·rintro b a w' ⟨gb105, gb106, gb107, m15_, m16_, m17_, ha, Q_BK101, Q_HB, Q_NB106_105, Q_NB105_106, Q_NB107_105, Q_NB105_107, Q_NB107_106, Q_NB106_107, Q_BK105, Q_GW105, Q_GE105, Q_NB101_105, Q_NB105_101, Q_BK106, Q_GW106, Q_GE106, Q_NB101_106, Q_NB106_101, Q_BK107, Q_GW107, Q_GE107, Q_NB101_107, Q_NB107_101, Q_BK105_e18, Q_BK106_e19, Q_BK107_e20, Q_X15_, Q_X16_, Q_X17_⟩ hb_ hon hoff
   refine ⟨_, rfl, fun K hK => ?_⟩
   have e16 : a.tmps[16]? = some (.slice (some ad102) l0.length c0) := by rw [ha]; exact (putSel_off rfl).trans rfl
   have e18 : a.tmps[18]? = some (.int .i64 a1_1) := by rw [ha]; exact putSel_on (e := (7, 18, .int .i64 a1_1)) 5 rfl rfl (hon 7 (by kernel_rfl)) rfl
   replace ha := A_ ha; have BK101 := A_ Q_BK101; have HB := A_ Q_HB; have hs3_ : w'.cell? (ad102.add ((a1_1).toNat * 3)) = some (.int .i64 ((rd_T73 l0 a1_1).f0)) := (pw_cell_below HB.out hw103_0); have hs4_ : w'.cell? ⟨(ad102.add ((a1_1).toNat * 3)).block, (ad102.add ((a1_1).toNat * 3)).off + 1, none⟩ = some (.int .i64 ((rd_T73 l0 a1_1).f1)) := (pw_cell_below HB.out hw103_1); have hs5_ : w'.cell? ⟨(ad102.add ((a1_1).toNat * 3)).block, (ad102.add ((a1_1).toNat * 3)).off + 2, none⟩ = some (.int .i64 ((rd_T73 l0 a1_1).f2)) := (pw_cell_below HB.out hw103_2)
   refine value_ (w1 := w') (v := .pointer (some (ad102.add ((a1_1).toNat * 3)))) (by rfl) rfl ?_ ?_
   ·go_simp
    (try simp only [i64_w])
    try rfl
   refine hK.out _ _ ⟨gb105, gb106, gb107, m15_, m16_, m17_, (by rw [ha.out]; exact putSel_upk 6 hb_ rfl rfl rfl), Q_BK101, Q_HB, Q_NB106_105, Q_NB105_106, Q_NB107_105, Q_NB105_107, Q_NB107_106, Q_NB106_107, Q_BK105, Q_GW105, Q_GE105, Q_NB101_105, Q_NB105_101, Q_BK106, Q_GW106, Q_GE106, Q_NB101_106, Q_NB106_101, Q_BK107, Q_GW107, Q_GE107, Q_NB101_107, Q_NB107_101, Q_BK105_e18, fun h0_ => absurd ((hoff 19 (by kernel_rfl)).symm.trans h0_) (by decide), fun h0_ => absurd ((hoff 20 (by kernel_rfl)).symm.trans h0_) (by decide), Q_X15_, Q_X16_, Q_X17_⟩
  refine steps_cons ?_ ?_
  ·rintro b a w' ⟨gb105, gb106, gb107, m15_, m16_, m17_, ha, Q_BK101, Q_HB, Q_NB106_105, Q_NB105_106, Q_NB107_105, Q_NB105_107, Q_NB107_106, Q_NB106_107, Q_BK105, Q_GW105, Q_GE105, Q_NB101_105, Q_NB105_101, Q_BK106, Q_GW106, Q_GE106, Q_NB101_106, Q_NB106_101, Q_BK107, Q_GW107, Q_GE107, Q_NB101_107, Q_NB107_101, Q_BK105_e18, Q_BK106_e19, Q_BK107_e20, Q_X15_, Q_X16_, Q_X17_⟩ hb_ hon hoff
   refine ⟨_, rfl, fun K hK => ?_⟩
   have e19 : a.tmps[19]? = some (.pointer (some (ad102.add ((a1_1).toNat * 3)))) := by rw [ha]; exact putSel_on (e := (8, 19, .pointer (some (ad102.add ((a1_1).toNat * 3))))) 6 rfl rfl (hon 8 (by kernel_rfl)) rfl
   replace ha := A_ ha; have BK101 := A_ Q_BK101; have HB := A_ Q_HB; have hs3_ : w'.cell? (ad102.add ((a1_1).toNat * 3)) = some (.int .i64 ((rd_T73 l0 a1_1).f0)) := (pw_cell_below HB.out hw103_0); have hs4_ : w'.cell? ⟨(ad102.add ((a1_1).toNat * 3)).block, (ad102.add ((a1_1).toNat * 3)).off + 1, none⟩ = some (.int .i64 ((rd_T73 l0 a1_1).f1)) := (pw_cell_below HB.out hw103_1); have hs5_ : w'.cell? ⟨(ad102.add ((a1_1).toNat * 3)).block, (ad102.add ((a1_1).toNat * 3)).off + 2, none⟩ = some (.int .i64 ((rd_T73 l0 a1_1).f2)) := (pw_cell_below HB.out hw103_2)
   refine value_ (w1 := w') (v := .agg #[.int .i64 ((rd_T73 l0 a1_1).f0), .int .i64 ((rd_T73 l0 a1_1).f1), .int .i64 ((rd_T73 l0 a1_1).f2)]) (by rfl) rfl ?_ ?_
   ·go_simp
    (try simp only [i64_w])
    try rfl
   refine hK.out _ _ ⟨gb105, gb106, gb107, m15_, m16_, m17_, (by rw [ha.out]; exact putSel_upk 7 hb_ rfl rfl rfl), Q_BK101, Q_HB, Q_NB106_105, Q_NB105_106, Q_NB107_105, Q_NB105_107, Q_NB107_106, Q_NB106_107, Q_BK105, Q_GW105, Q_GE105, Q_NB101_105, Q_NB105_101, Q_BK106, Q_GW106, Q_GE106, Q_NB101_106, Q_NB106_101, Q_BK107, Q_GW107, Q_GE107, Q_NB101_107, Q_NB107_101, Q_BK105_e18, fun h0_ => absurd ((hoff 19 (by kernel_rfl)).symm.trans h0_) (by decide), fun h0_ => absurd ((hoff 20 (by kernel_rfl)).symm.trans h0_) (by decide), Q_X15_, Q_X16_, Q_X17_⟩
  refine steps_cons ?_ ?_
  ·rintro b a w' ⟨gb105, gb106, gb107, m15_, m16_, m17_, ha, Q_BK101, Q_HB, Q_NB106_105, Q_NB105_106, Q_NB107_105, Q_NB105_107, Q_NB107_106, Q_NB106_107, Q_BK105, Q_GW105, Q_GE105, Q_NB101_105, Q_NB105_101, Q_BK106, Q_GW106, Q_GE106, Q_NB101_106, Q_NB106_101, Q_BK107, Q_GW107, Q_GE107, Q_NB101_107, Q_NB107_101, Q_BK105_e18, Q_BK106_e19, Q_BK107_e20, Q_X15_, Q_X16_, Q_X17_⟩ hb_ hon hoff
   refine ⟨_, rfl, fun K hK => ?_⟩
   have e3 : a.tmps[3]? = some (.pointer (some ⟨gb101, 0, none⟩)) := by rw [ha]; exact (putSel_off rfl).trans rfl
   replace ha := A_ ha; have BK101 := A_ Q_BK101; have HB := A_ Q_HB
   refine value_ (w1 := w') (v := .pointer (some ⟨gb101, 2, none⟩)) (by rfl) rfl ?_ ?_
   ·go_simp
    (try simp only [i64_w])
    try rfl
   refine hK.out _ _ ⟨gb105, gb106, gb107, m15_, m16_, m17_, (by rw [ha.out]; exact putSel_upk 8 hb_ rfl rfl rfl), Q_BK101, Q_HB, Q_NB106_105, Q_NB105_106, Q_NB107_105, Q_NB105_107, Q_NB107_106, Q_NB106_107, Q_BK105, Q_GW105, Q_GE105, Q_NB101_105, Q_NB105_101, Q_BK106, Q_GW106, Q_GE106, Q_NB101_106, Q_NB106_101, Q_BK107, Q_GW107, Q_GE107, Q_NB101_107, Q_NB107_101, Q_BK105_e18, Q_BK106_e19, fun h0_ => absurd ((hoff 20 (by kernel_rfl)).symm.trans h0_) (by decide), Q_X15_, Q_X16_, Q_X17_⟩
  refine steps_cons ?_ ?_
  ·rintro b a w' ⟨gb105, gb106, gb107, m15_, m16_, m17_, ha, Q_BK101, Q_HB, Q_NB106_105, Q_NB105_106, Q_NB107_105, Q_NB105_107, Q_NB107_106, Q_NB106_107, Q_BK105, Q_GW105, Q_GE105, Q_NB101_105, Q_NB105_101, Q_BK106, Q_GW106, Q_GE106, Q_NB101_106, Q_NB106_101, Q_BK107, Q_GW107, Q_GE107, Q_NB101_107, Q_NB107_101, Q_BK105_e18, Q_BK106_e19, Q_BK107_e20, Q_X15_, Q_X16_, Q_X17_⟩ hb_ hon hoff
   refine ⟨_, rfl, fun K hK => ?_⟩
   have e22 : a.tmps[22]? = some (.pointer (some ⟨gb101, 2, none⟩)) := by rw [ha]; exact putSel_on (e := (11, 22, .pointer (some ⟨gb101, 2, none⟩))) 8 rfl rfl (hon 11 (by kernel_rfl)) rfl
   replace ha := A_ ha; have BK101 := A_ Q_BK101; have HB := A_ Q_HB; have hc0_ : w'.cell? ⟨gb101, 0, none⟩ = some (.int .i64 a1_0) := (blk_cell BK101.out 0).trans rfl; have hc1_ : w'.cell? ⟨gb101, 1, none⟩ = some (.int .i64 a1_1) := (blk_cell BK101.out 1).trans rfl; have hc2_ : w'.cell? ⟨gb101, 2, none⟩ = some (.int .i64 a1_2) := (blk_cell BK101.out 2).trans rfl
   refine value_ (w1 := w') (v := .int .i64 a1_2) (by rfl) rfl ?_ ?_
   ·go_simp
    (try simp only [i64_w])
    try rfl
   refine hK.out _ _ ⟨gb105, gb106, gb107, m15_, m16_, m17_, (by rw [ha.out]; exact putSel_upk 9 hb_ rfl rfl rfl), Q_BK101, Q_HB, Q_NB106_105, Q_NB105_106, Q_NB107_105, Q_NB105_107, Q_NB107_106, Q_NB106_107, Q_BK105, Q_GW105, Q_GE105, Q_NB101_105, Q_NB105_101, Q_BK106, Q_GW106, Q_GE106, Q_NB101_106, Q_NB106_101, Q_BK107, Q_GW107, Q_GE107, Q_NB101_107, Q_NB107_101, Q_BK105_e18, Q_BK106_e19, fun h0_ => absurd ((hoff 20 (by kernel_rfl)).symm.trans h0_) (by decide), Q_X15_, Q_X16_, Q_X17_⟩
  refine steps_cons ?_ ?_
  ·rintro b a w' ⟨gb105, gb106, gb107, m15_, m16_, m17_, ha, Q_BK101, Q_HB, Q_NB106_105, Q_NB105_106, Q_NB107_105, Q_NB105_107, Q_NB107_106, Q_NB106_107, Q_BK105, Q_GW105, Q_GE105, Q_NB101_105, Q_NB105_101, Q_BK106, Q_GW106, Q_GE106, Q_NB101_106, Q_NB106_101, Q_BK107, Q_GW107, Q_GE107, Q_NB101_107, Q_NB107_101, Q_BK105_e18, Q_BK106_e19, Q_BK107_e20, Q_X15_, Q_X16_, Q_X17_⟩ hb_ hon hoff
   refine ⟨_, rfl, fun K hK => ?_⟩
   have e21 : a.tmps[21]? = some (.slice (some ad102) l0.length c0) := by rw [ha]; exact (putSel_off rfl).trans rfl
   have e23 : a.tmps[23]? = some (.int .i64 a1_2) := by rw [ha]; exact putSel_on (e := (12, 23, .int .i64 a1_2)) 9 rfl rfl (hon 12 (by kernel_rfl)) rfl
   replace ha := A_ ha; have BK101 := A_ Q_BK101; have HB := A_ Q_HB; have hs6_ : w'.cell? (ad102.add ((a1_2).toNat * 3)) = some (.int .i64 ((rd_T73 l0 a1_2).f0)) := (pw_cell_below HB.out hw104_0); have hs7_ : w'.cell? ⟨(ad102.add ((a1_2).toNat * 3)).block, (ad102.add ((a1_2).toNat * 3)).off + 1, none⟩ = some (.int .i64 ((rd_T73 l0 a1_2).f1)) := (pw_cell_below HB.out hw104_1); have hs8_ : w'.cell? ⟨(ad102.add ((a1_2).toNat * 3)).block, (ad102.add ((a1_2).toNat * 3)).off + 2, none⟩ = some (.int .i64 ((rd_T73 l0 a1_2).f2)) := (pw_cell_below HB.out hw104_2)
   refine value_ (w1 := w') (v := .pointer (some (ad102.add ((a1_2).toNat * 3)))) (by rfl) rfl ?_ ?_
   ·go_simp
    (try simp only [i64_w])
    try rfl
   refine hK.out _ _ ⟨gb105, gb106, gb107, m15_, m16_, m17_, (by rw [ha.out]; exact putSel_upk 10 hb_ rfl rfl rfl), Q_BK101, Q_HB, Q_NB106_105, Q_NB105_106, Q_NB107_105, Q_NB105_107, Q_NB107_106, Q_NB106_107, Q_BK105, Q_GW105, Q_GE105, Q_NB101_105, Q_NB105_101, Q_BK106, Q_GW106, Q_GE106, Q_NB101_106, Q_NB106_101, Q_BK107, Q_GW107, Q_GE107, Q_NB101_107, Q_NB107_101, Q_BK105_e18, Q_BK106_e19, fun h0_ => absurd ((hoff 20 (by kernel_rfl)).symm.trans h0_) (by decide), Q_X15_, Q_X16_, Q_X17_⟩
  refine steps_cons ?_ ?_
  ·rintro b a w' ⟨gb105, gb106, gb107, m15_, m16_, m17_, ha, Q_BK101, Q_HB, Q_NB106_105, Q_NB105_106, Q_NB107_105, Q_NB105_107, Q_NB107_106, Q_NB106_107, Q_BK105, Q_GW105, Q_GE105, Q_NB101_105, Q_NB105_101, Q_BK106, Q_GW106, Q_GE106, Q_NB101_106, Q_NB106_101, Q_BK107, Q_GW107, Q_GE107, Q_NB101_107, Q_NB107_101, Q_BK105_e18, Q_BK106_e19, Q_BK107_e20, Q_X15_, Q_X16_, Q_X17_⟩ hb_ hon hoff
   refine ⟨_, rfl, fun K hK => ?_⟩
   have e24 : a.tmps[24]? = some (.pointer (some (ad102.add ((a1_2).toNat * 3)))) := by rw [ha]; exact putSel_on (e := (13, 24, .pointer (some (ad102.add ((a1_2).toNat * 3))))) 10 rfl rfl (hon 13 (by kernel_rfl)) rfl
   replace ha := A_ ha; have BK101 := A_ Q_BK101; have HB := A_ Q_HB; have hs6_ : w'.cell? (ad102.add ((a1_2).toNat * 3)) = some (.int .i64 ((rd_T73 l0 a1_2).f0)) := (pw_cell_below HB.out hw104_0); have hs7_ : w'.cell? ⟨(ad102.add ((a1_2).toNat * 3)).block, (ad102.add ((a1_2).toNat * 3)).off + 1, none⟩ = some (.int .i64 ((rd_T73 l0 a1_2).f1)) := (pw_cell_below HB.out hw104_1); have hs8_ : w'.cell? ⟨(ad102.add ((a1_2).toNat * 3)).block, (ad102.add ((a1_2).toNat * 3)).off + 2, none⟩ = some (.int .i64 ((rd_T73 l0 a1_2).f2)) := (pw_cell_below HB.out hw104_2)
   refine value_ (w1 := w') (v := .agg #[.int .i64 ((rd_T73 l0 a1_2).f0), .int .i64 ((rd_T73 l0 a1_2).f1), .int .i64 ((rd_T73 l0 a1_2).f2)]) (by rfl) rfl ?_ ?_
   ·go_simp
    (try simp only [i64_w])
    try rfl
   refine hK.out _ _ ⟨gb105, gb106, gb107, m15_, m16_, m17_, (by rw [ha.out]; exact putSel_upk 11 hb_ rfl rfl rfl), Q_BK101, Q_HB, Q_NB106_105, Q_NB105_106, Q_NB107_105, Q_NB105_107, Q_NB107_106, Q_NB106_107, Q_BK105, Q_GW105, Q_GE105, Q_NB101_105, Q_NB105_101, Q_BK106, Q_GW106, Q_GE106, Q_NB101_106, Q_NB106_101, Q_BK107, Q_GW107, Q_GE107, Q_NB101_107, Q_NB107_101, Q_BK105_e18, Q_BK106_e19, fun h0_ => absurd ((hoff 20 (by kernel_rfl)).symm.trans h0_) (by decide), Q_X15_, Q_X16_, Q_X17_⟩
  refine steps_cons ?_ ?_
  ·rintro b a w' ⟨gb105, gb106, gb107, m15_, m16_, m17_, ha, Q_BK101, Q_HB, Q_NB106_105, Q_NB105_106, Q_NB107_105, Q_NB105_107, Q_NB107_106, Q_NB106_107, Q_BK105, Q_GW105, Q_GE105, Q_NB101_105, Q_NB105_101, Q_BK106, Q_GW106, Q_GE106, Q_NB101_106, Q_NB106_101, Q_BK107, Q_GW107, Q_GE107, Q_NB101_107, Q_NB107_101, Q_BK105_e18, Q_BK106_e19, Q_BK107_e20, Q_X15_, Q_X16_, Q_X17_⟩ hb_ hon hoff
   refine ⟨_, rfl, fun K hK => ?_⟩
   replace ha := A_ ha; have BK101 := A_ Q_BK101; have HB := A_ Q_HB
   refine box_step ?hg (N := 5) ?hd (cs := #[.int .i64 0, .int .i64 0, .int .i64 0]) (t := 73) ?hr ?_; (case hd => rfl); (case hg => rfl); (case hr => first | (go_simp; done) | (go_simp; rfl))
   intro gb105 hg w36 hbox hb
   have n0_ := A_ (bkB BK101 hb); have n1_ := A_ (below_step (bW1 HB.out GE101.out) hb); have n2_ := A_ (hbox); have n3_ := A_ ((szG hg (bW1 HB.out GE101.out))); have n4_ := A_ ((szG hg (bW1 HB.out GE101.out))); have n5_ := A_ ((bkL BK101 hg : gb101 ≠ gb105)); have n6_ := A_ ((bkG BK101 hg : gb105 ≠ gb101))
   have z_NB106_105 := fun (h0_ : up b 15 15 = true) (h1_ : up b 15 16 = true) => (show gb106 ≠ gb105 from ((Nat.ne_of_lt (by rw [hg]; exact (by (cases e19_ : b 19 with | true => exact blk_lt (Q_BK106_e19 e19_) | false => exact blk_lt (Q_BK106 (by first | exact h0_ | exact h1_) e19_)))) : gb106 ≠ gb105)))
   have z_NB105_106 := fun (h0_ : up b 15 15 = true) (h1_ : up b 15 16 = true) => (show gb105 ≠ gb106 from ((Nat.ne_of_gt (by rw [hg]; exact (by (cases e19_ : b 19 with | true => exact blk_lt (Q_BK106_e19 e19_) | false => exact blk_lt (Q_BK106 (by first | exact h0_ | exact h1_) e19_)))) : gb105 ≠ gb106)))
   have z_NB107_105 := fun (h0_ : up b 15 15 = true) (h1_ : up b 15 17 = true) => (show gb107 ≠ gb105 from ((Nat.ne_of_lt (by rw [hg]; exact (by (cases e20_ : b 20 with | true => exact blk_lt (Q_BK107_e20 e20_) | false => exact blk_lt (Q_BK107 (by first | exact h0_ | exact h1_) e20_)))) : gb107 ≠ gb105)))
   have z_NB105_107 := fun (h0_ : up b 15 15 = true) (h1_ : up b 15 17 = true) => (show gb105 ≠ gb107 from ((Nat.ne_of_gt (by rw [hg]; exact (by (cases e20_ : b 20 with | true => exact blk_lt (Q_BK107_e20 e20_) | false => exact blk_lt (Q_BK107 (by first | exact h0_ | exact h1_) e20_)))) : gb105 ≠ gb107)))
   have z_BK106 := fun (h0_ : b 16 = true) (h1_ : b 19 = false) => (show w36.heap[gb106]? = some (.cells #[.int .i64 0, .int .i64 0, .int .i64 0] 73 (0, 0)) from by first | exact (blk_below (g := gb106) (o := .cells #[.int .i64 0, .int .i64 0, .int .i64 0] 73 (0, 0)) (by (with_reducible repeat (first | refine blk_drewN ?_ _ | refine blk_drew ?_ | refine blk_alloc ?_ _)); exact (Q_BK106 h0_ h1_)) hb))
   have z_BK107 := fun (h0_ : b 17 = true) (h1_ : b 20 = false) => (show w36.heap[gb107]? = some (.cells #[.int .i64 0, .int .i64 0, .int .i64 0] 73 (0, 0)) from by first | exact (blk_below (g := gb107) (o := .cells #[.int .i64 0, .int .i64 0, .int .i64 0] 73 (0, 0)) (by (with_reducible repeat (first | refine blk_drewN ?_ _ | refine blk_drew ?_ | refine blk_alloc ?_ _)); exact (Q_BK107 h0_ h1_)) hb))
   clear BK101; clear HB; have BK101 := n0_; have HB := n1_; have BK105 := n2_; have GW105 := n3_; have GE105 := n4_; have NB101_105 := n5_; have NB105_101 := n6_; clear n0_ n1_ n2_ n3_ n4_ n5_ n6_ hb hbox hg
   refine hK.out _ _ ⟨gb105, gb106, gb107, (.pointer (some ⟨gb105, 0, none⟩)), m16_, m17_, (by rw [ha.out]; exact putSel_upk 12 hb_ rfl rfl rfl), (bkU BK101), (bW2 HB.out GE101.out GE105.out), z_NB106_105, z_NB105_106, z_NB107_105, z_NB105_107, Q_NB107_106, Q_NB106_107, fun _ _ => (bkU BK105), fun _ => GW105.out, fun _ => GE105.out, fun _ => NB101_105.out, fun _ => NB105_101.out, z_BK106, Q_GW106, Q_GE106, Q_NB101_106, Q_NB106_101, z_BK107, Q_GW107, Q_GE107, Q_NB101_107, Q_NB107_101, fun h0_ => absurd ((hoff 18 (by kernel_rfl)).symm.trans h0_) (by decide), fun h0_ => absurd ((hoff 19 (by kernel_rfl)).symm.trans h0_) (by decide), fun h0_ => absurd ((hoff 20 (by kernel_rfl)).symm.trans h0_) (by decide), fun _ => rfl, Q_X16_, Q_X17_⟩
  refine steps_cons ?_ ?_
  ·rintro b a w' ⟨gb105, gb106, gb107, m15_, m16_, m17_, ha, Q_BK101, Q_HB, Q_NB106_105, Q_NB105_106, Q_NB107_105, Q_NB105_107, Q_NB107_106, Q_NB106_107, Q_BK105, Q_GW105, Q_GE105, Q_NB101_105, Q_NB105_101, Q_BK106, Q_GW106, Q_GE106, Q_NB101_106, Q_NB106_101, Q_BK107, Q_GW107, Q_GE107, Q_NB101_107, Q_NB107_101, Q_BK105_e18, Q_BK106_e19, Q_BK107_e20, Q_X15_, Q_X16_, Q_X17_⟩ hb_ hon hoff
   refine ⟨_, rfl, fun K hK => ?_⟩
   replace ha := A_ ha; have BK101 := A_ Q_BK101; have HB := A_ Q_HB
   refine box_step ?hg (N := 6) ?hd (cs := #[.int .i64 0, .int .i64 0, .int .i64 0]) (t := 73) ?hr ?_; (case hd => rfl); (case hg => rfl); (case hr => first | (go_simp; done) | (go_simp; rfl))
   intro gb106 hg w36 hbox hb
   have n0_ := A_ (bkB BK101 hb); have n1_ := A_ (below_step (bW1 HB.out GE101.out) hb); have n2_ := A_ (hbox); have n3_ := A_ ((szG hg (bW1 HB.out GE101.out))); have n4_ := A_ ((szG hg (bW1 HB.out GE101.out))); have n5_ := A_ ((bkL BK101 hg : gb101 ≠ gb106)); have n6_ := A_ ((bkG BK101 hg : gb106 ≠ gb101))
   have z_NB106_105 := fun (h0_ : up b 16 15 = true) (h1_ : up b 16 16 = true) => (show gb106 ≠ gb105 from ((Nat.ne_of_gt (by rw [hg]; exact (by (cases e18_ : b 18 with | true => exact blk_lt (Q_BK105_e18 e18_) | false => exact blk_lt (Q_BK105 (by first | exact h0_ | exact h1_) e18_)))) : gb106 ≠ gb105)))
   have z_NB105_106 := fun (h0_ : up b 16 15 = true) (h1_ : up b 16 16 = true) => (show gb105 ≠ gb106 from ((Nat.ne_of_lt (by rw [hg]; exact (by (cases e18_ : b 18 with | true => exact blk_lt (Q_BK105_e18 e18_) | false => exact blk_lt (Q_BK105 (by first | exact h0_ | exact h1_) e18_)))) : gb105 ≠ gb106)))
   have z_NB107_106 := fun (h0_ : up b 16 16 = true) (h1_ : up b 16 17 = true) => (show gb107 ≠ gb106 from ((Nat.ne_of_lt (by rw [hg]; exact (by (cases e20_ : b 20 with | true => exact blk_lt (Q_BK107_e20 e20_) | false => exact blk_lt (Q_BK107 (by first | exact h0_ | exact h1_) e20_)))) : gb107 ≠ gb106)))
   have z_NB106_107 := fun (h0_ : up b 16 16 = true) (h1_ : up b 16 17 = true) => (show gb106 ≠ gb107 from ((Nat.ne_of_gt (by rw [hg]; exact (by (cases e20_ : b 20 with | true => exact blk_lt (Q_BK107_e20 e20_) | false => exact blk_lt (Q_BK107 (by first | exact h0_ | exact h1_) e20_)))) : gb106 ≠ gb107)))
   have z_BK105 := fun (h0_ : b 15 = true) (h1_ : b 18 = false) => (show w36.heap[gb105]? = some (.cells #[.int .i64 0, .int .i64 0, .int .i64 0] 73 (0, 0)) from by first | exact (blk_below (g := gb105) (o := .cells #[.int .i64 0, .int .i64 0, .int .i64 0] 73 (0, 0)) (by (with_reducible repeat (first | refine blk_drewN ?_ _ | refine blk_drew ?_ | refine blk_alloc ?_ _)); exact (Q_BK105 h0_ h1_)) hb))
   have z_BK107 := fun (h0_ : b 17 = true) (h1_ : b 20 = false) => (show w36.heap[gb107]? = some (.cells #[.int .i64 0, .int .i64 0, .int .i64 0] 73 (0, 0)) from by first | exact (blk_below (g := gb107) (o := .cells #[.int .i64 0, .int .i64 0, .int .i64 0] 73 (0, 0)) (by (with_reducible repeat (first | refine blk_drewN ?_ _ | refine blk_drew ?_ | refine blk_alloc ?_ _)); exact (Q_BK107 h0_ h1_)) hb))
   clear BK101; clear HB; have BK101 := n0_; have HB := n1_; have BK106 := n2_; have GW106 := n3_; have GE106 := n4_; have NB101_106 := n5_; have NB106_101 := n6_; clear n0_ n1_ n2_ n3_ n4_ n5_ n6_ hb hbox hg
   refine hK.out _ _ ⟨gb105, gb106, gb107, m15_, (.pointer (some ⟨gb106, 0, none⟩)), m17_, (by rw [ha.out]; exact putSel_upk 13 hb_ rfl rfl rfl), (bkU BK101), (bW2 HB.out GE101.out GE106.out), z_NB106_105, z_NB105_106, Q_NB107_105, Q_NB105_107, z_NB107_106, z_NB106_107, z_BK105, Q_GW105, Q_GE105, Q_NB101_105, Q_NB105_101, fun _ _ => (bkU BK106), fun _ => GW106.out, fun _ => GE106.out, fun _ => NB101_106.out, fun _ => NB106_101.out, z_BK107, Q_GW107, Q_GE107, Q_NB101_107, Q_NB107_101, fun h0_ => absurd ((hoff 18 (by kernel_rfl)).symm.trans h0_) (by decide), fun h0_ => absurd ((hoff 19 (by kernel_rfl)).symm.trans h0_) (by decide), fun h0_ => absurd ((hoff 20 (by kernel_rfl)).symm.trans h0_) (by decide), Q_X15_, fun _ => rfl, Q_X17_⟩
  refine steps_cons ?_ ?_
  ·rintro b a w' ⟨gb105, gb106, gb107, m15_, m16_, m17_, ha, Q_BK101, Q_HB, Q_NB106_105, Q_NB105_106, Q_NB107_105, Q_NB105_107, Q_NB107_106, Q_NB106_107, Q_BK105, Q_GW105, Q_GE105, Q_NB101_105, Q_NB105_101, Q_BK106, Q_GW106, Q_GE106, Q_NB101_106, Q_NB106_101, Q_BK107, Q_GW107, Q_GE107, Q_NB101_107, Q_NB107_101, Q_BK105_e18, Q_BK106_e19, Q_BK107_e20, Q_X15_, Q_X16_, Q_X17_⟩ hb_ hon hoff
   refine ⟨_, rfl, fun K hK => ?_⟩
   replace ha := A_ ha; have BK101 := A_ Q_BK101; have HB := A_ Q_HB
   refine box_step ?hg (N := 7) ?hd (cs := #[.int .i64 0, .int .i64 0, .int .i64 0]) (t := 73) ?hr ?_; (case hd => rfl); (case hg => rfl); (case hr => first | (go_simp; done) | (go_simp; rfl))
   intro gb107 hg w36 hbox hb
   have n0_ := A_ (bkB BK101 hb); have n1_ := A_ (below_step (bW1 HB.out GE101.out) hb); have n2_ := A_ (hbox); have n3_ := A_ ((szG hg (bW1 HB.out GE101.out))); have n4_ := A_ ((szG hg (bW1 HB.out GE101.out))); have n5_ := A_ ((bkL BK101 hg : gb101 ≠ gb107)); have n6_ := A_ ((bkG BK101 hg : gb107 ≠ gb101))
   have z_NB107_105 := fun (h0_ : up b 17 15 = true) (h1_ : up b 17 17 = true) => (show gb107 ≠ gb105 from ((Nat.ne_of_gt (by rw [hg]; exact (by (cases e18_ : b 18 with | true => exact blk_lt (Q_BK105_e18 e18_) | false => exact blk_lt (Q_BK105 (by first | exact h0_ | exact h1_) e18_)))) : gb107 ≠ gb105)))
   have z_NB105_107 := fun (h0_ : up b 17 15 = true) (h1_ : up b 17 17 = true) => (show gb105 ≠ gb107 from ((Nat.ne_of_lt (by rw [hg]; exact (by (cases e18_ : b 18 with | true => exact blk_lt (Q_BK105_e18 e18_) | false => exact blk_lt (Q_BK105 (by first | exact h0_ | exact h1_) e18_)))) : gb105 ≠ gb107)))
   have z_NB107_106 := fun (h0_ : up b 17 16 = true) (h1_ : up b 17 17 = true) => (show gb107 ≠ gb106 from ((Nat.ne_of_gt (by rw [hg]; exact (by (cases e19_ : b 19 with | true => exact blk_lt (Q_BK106_e19 e19_) | false => exact blk_lt (Q_BK106 (by first | exact h0_ | exact h1_) e19_)))) : gb107 ≠ gb106)))
   have z_NB106_107 := fun (h0_ : up b 17 16 = true) (h1_ : up b 17 17 = true) => (show gb106 ≠ gb107 from ((Nat.ne_of_lt (by rw [hg]; exact (by (cases e19_ : b 19 with | true => exact blk_lt (Q_BK106_e19 e19_) | false => exact blk_lt (Q_BK106 (by first | exact h0_ | exact h1_) e19_)))) : gb106 ≠ gb107)))
   have z_BK105 := fun (h0_ : b 15 = true) (h1_ : b 18 = false) => (show w36.heap[gb105]? = some (.cells #[.int .i64 0, .int .i64 0, .int .i64 0] 73 (0, 0)) from by first | exact (blk_below (g := gb105) (o := .cells #[.int .i64 0, .int .i64 0, .int .i64 0] 73 (0, 0)) (by (with_reducible repeat (first | refine blk_drewN ?_ _ | refine blk_drew ?_ | refine blk_alloc ?_ _)); exact (Q_BK105 h0_ h1_)) hb))
   have z_BK106 := fun (h0_ : b 16 = true) (h1_ : b 19 = false) => (show w36.heap[gb106]? = some (.cells #[.int .i64 0, .int .i64 0, .int .i64 0] 73 (0, 0)) from by first | exact (blk_below (g := gb106) (o := .cells #[.int .i64 0, .int .i64 0, .int .i64 0] 73 (0, 0)) (by (with_reducible repeat (first | refine blk_drewN ?_ _ | refine blk_drew ?_ | refine blk_alloc ?_ _)); exact (Q_BK106 h0_ h1_)) hb))
   clear BK101; clear HB; have BK101 := n0_; have HB := n1_; have BK107 := n2_; have GW107 := n3_; have GE107 := n4_; have NB101_107 := n5_; have NB107_101 := n6_; clear n0_ n1_ n2_ n3_ n4_ n5_ n6_ hb hbox hg
   refine hK.out _ _ ⟨gb105, gb106, gb107, m15_, m16_, (.pointer (some ⟨gb107, 0, none⟩)), (by rw [ha.out]; exact putSel_upk 14 hb_ rfl rfl rfl), (bkU BK101), (bW2 HB.out GE101.out GE107.out), Q_NB106_105, Q_NB105_106, z_NB107_105, z_NB105_107, z_NB107_106, z_NB106_107, z_BK105, Q_GW105, Q_GE105, Q_NB101_105, Q_NB105_101, z_BK106, Q_GW106, Q_GE106, Q_NB101_106, Q_NB106_101, fun _ _ => (bkU BK107), fun _ => GW107.out, fun _ => GE107.out, fun _ => NB101_107.out, fun _ => NB107_101.out, fun h0_ => absurd ((hoff 18 (by kernel_rfl)).symm.trans h0_) (by decide), fun h0_ => absurd ((hoff 19 (by kernel_rfl)).symm.trans h0_) (by decide), fun h0_ => absurd ((hoff 20 (by kernel_rfl)).symm.trans h0_) (by decide), Q_X15_, Q_X16_, fun _ => rfl⟩
  refine steps_cons ?_ ?_
  ·rintro b a w' ⟨gb105, gb106, gb107, m15_, m16_, m17_, ha, Q_BK101, Q_HB, Q_NB106_105, Q_NB105_106, Q_NB107_105, Q_NB105_107, Q_NB107_106, Q_NB106_107, Q_BK105, Q_GW105, Q_GE105, Q_NB101_105, Q_NB105_101, Q_BK106, Q_GW106, Q_GE106, Q_NB101_106, Q_NB106_101, Q_BK107, Q_GW107, Q_GE107, Q_NB101_107, Q_NB107_101, Q_BK105_e18, Q_BK106_e19, Q_BK107_e20, Q_X15_, Q_X16_, Q_X17_⟩ hb_ hon hoff
   refine ⟨_, rfl, fun K hK => ?_⟩
   have e5 : a.tmps[5]? = some (m15_) := by rw [ha]; exact putSel_on (e := (15, 5, m15_)) 12 rfl rfl (hon 15 (by kernel_rfl)) rfl
   rw [Q_X15_ (hon 15 (by kernel_rfl))] at e5
   have e15 : a.tmps[15]? = some (.agg #[.int .i64 ((rd_T73 l0 a1_0).f0), .int .i64 ((rd_T73 l0 a1_0).f1), .int .i64 ((rd_T73 l0 a1_0).f2)]) := by rw [ha]; exact putSel_on (e := (4, 15, .agg #[.int .i64 ((rd_T73 l0 a1_0).f0), .int .i64 ((rd_T73 l0 a1_0).f1), .int .i64 ((rd_T73 l0 a1_0).f2)])) 3 rfl rfl (hon 4 (by kernel_rfl)) rfl
   replace ha := A_ ha; have BK101 := A_ Q_BK101; have HB := A_ Q_HB
   have NB106_105 := A_ (Q_NB106_105 (hon 15 (by kernel_rfl)) (hon 16 (by kernel_rfl)))
   have NB105_106 := A_ (Q_NB105_106 (hon 15 (by kernel_rfl)) (hon 16 (by kernel_rfl)))
   have NB107_105 := A_ (Q_NB107_105 (hon 15 (by kernel_rfl)) (hon 17 (by kernel_rfl)))
   have NB105_107 := A_ (Q_NB105_107 (hon 15 (by kernel_rfl)) (hon 17 (by kernel_rfl)))
   have NB107_106 := A_ (Q_NB107_106 (hon 16 (by kernel_rfl)) (hon 17 (by kernel_rfl)))
   have NB106_107 := A_ (Q_NB106_107 (hon 16 (by kernel_rfl)) (hon 17 (by kernel_rfl)))
   have BK105 := A_ (Q_BK105 (hon 15 (by kernel_rfl)) hb_)
   have GW105 := A_ (Q_GW105 (hon 15 (by kernel_rfl)))
   have GE105 := A_ (Q_GE105 (hon 15 (by kernel_rfl)))
   have NB101_105 := A_ (Q_NB101_105 (hon 15 (by kernel_rfl)))
   have NB105_101 := A_ (Q_NB105_101 (hon 15 (by kernel_rfl)))
   have BK106 := A_ (Q_BK106 (hon 16 (by kernel_rfl)) (hoff 19 (by kernel_rfl)))
   have GW106 := A_ (Q_GW106 (hon 16 (by kernel_rfl)))
   have GE106 := A_ (Q_GE106 (hon 16 (by kernel_rfl)))
   have NB101_106 := A_ (Q_NB101_106 (hon 16 (by kernel_rfl)))
   have NB106_101 := A_ (Q_NB106_101 (hon 16 (by kernel_rfl)))
   have BK107 := A_ (Q_BK107 (hon 17 (by kernel_rfl)) (hoff 20 (by kernel_rfl)))
   have GW107 := A_ (Q_GW107 (hon 17 (by kernel_rfl)))
   have GE107 := A_ (Q_GE107 (hon 17 (by kernel_rfl)))
   have NB101_107 := A_ (Q_NB101_107 (hon 17 (by kernel_rfl)))
   have NB107_101 := A_ (Q_NB107_101 (hon 17 (by kernel_rfl)))
   have hs40 : w'.cell? ⟨gb105, 0, none⟩ = some (.int .i64 0) := (blk_cell BK105.out 0).trans rfl; have hfs40 := blk_frozen BK105.out 0; have hns40_0 := NB101_105.out; have hns40_2 := NB106_105.out; have hns40_3 := NB107_105.out; have hms40_0 := NB105_101.out; have hms40_2 := NB105_106.out; have hms40_3 := NB105_107.out; have hs41 : w'.cell? ⟨gb105, 1, none⟩ = some (.int .i64 0) := (blk_cell BK105.out 1).trans rfl; have hfs41 := blk_frozen BK105.out 1; have hns41_0 := NB101_105.out; have hns41_2 := NB106_105.out; have hns41_3 := NB107_105.out; have hms41_0 := NB105_101.out; have hms41_2 := NB105_106.out; have hms41_3 := NB105_107.out; have hs42 : w'.cell? ⟨gb105, 2, none⟩ = some (.int .i64 0) := (blk_cell BK105.out 2).trans rfl; have hfs42 := blk_frozen BK105.out 2; have hns42_0 := NB101_105.out; have hns42_2 := NB106_105.out; have hns42_3 := NB107_105.out; have hms42_0 := NB105_101.out; have hms42_2 := NB105_106.out; have hms42_3 := NB105_107.out
   refine skip_ (w1 := ?_) (by rfl) rfl ?_ ?_
   rotate_left
   ·go_simp
    rfl
   refine hK.out _ _ ⟨gb105, gb106, gb107, m15_, m16_, m17_, (by rw [ha.out]; exact putSel_none (v := undef) rfl), (bkF3 BK101 NB101_105), (bW4 HB.out GE101.out GE105.out GE106.out GE107.out), fun _ _ => NB106_105.out, fun _ _ => NB105_106.out, fun _ _ => NB107_105.out, fun _ _ => NB105_107.out, fun _ _ => NB107_106.out, fun _ _ => NB106_107.out, fun _ h1_ => absurd ((up_self b 18).symm.trans h1_) (by decide), fun _ => GW105.out, fun _ => GE105.out, fun _ => NB101_105.out, fun _ => NB105_101.out, fun _ _ => (bkF3 BK106 NB106_105), fun _ => GW106.out, fun _ => GE106.out, fun _ => NB101_106.out, fun _ => NB106_101.out, fun _ _ => (bkF3 BK107 NB107_105), fun _ => GW107.out, fun _ => GE107.out, fun _ => NB101_107.out, fun _ => NB107_101.out, fun _ => (by (with_reducible repeat (first | refine blk_drewN ?_ _ | refine blk_drew ?_ | refine blk_alloc ?_ _)); refine blk_put (cs := #[.int .i64 ((rd_T73 l0 a1_0).f0), .int .i64 ((rd_T73 l0 a1_0).f1), .int .i64 0]) ?_ 2 _ rfl; (with_reducible repeat (first | refine blk_drewN ?_ _ | refine blk_drew ?_ | refine blk_alloc ?_ _)); refine blk_put (cs := #[.int .i64 ((rd_T73 l0 a1_0).f0), .int .i64 0, .int .i64 0]) ?_ 1 _ rfl; (with_reducible repeat (first | refine blk_drewN ?_ _ | refine blk_drew ?_ | refine blk_alloc ?_ _)); refine blk_put (cs := #[.int .i64 0, .int .i64 0, .int .i64 0]) ?_ 0 _ rfl; exact bkU BK105), fun h0_ => absurd ((hoff 19 (by kernel_rfl)).symm.trans h0_) (by decide), fun h0_ => absurd ((hoff 20 (by kernel_rfl)).symm.trans h0_) (by decide), Q_X15_, Q_X16_, Q_X17_⟩
  refine steps_cons ?_ ?_
  ·rintro b a w' ⟨gb105, gb106, gb107, m15_, m16_, m17_, ha, Q_BK101, Q_HB, Q_NB106_105, Q_NB105_106, Q_NB107_105, Q_NB105_107, Q_NB107_106, Q_NB106_107, Q_BK105, Q_GW105, Q_GE105, Q_NB101_105, Q_NB105_101, Q_BK106, Q_GW106, Q_GE106, Q_NB101_106, Q_NB106_101, Q_BK107, Q_GW107, Q_GE107, Q_NB101_107, Q_NB107_101, Q_BK105_e18, Q_BK106_e19, Q_BK107_e20, Q_X15_, Q_X16_, Q_X17_⟩ hb_ hon hoff
   refine ⟨_, rfl, fun K hK => ?_⟩
   have e6 : a.tmps[6]? = some (m16_) := by rw [ha]; exact putSel_on (e := (16, 6, m16_)) 13 rfl rfl (hon 16 (by kernel_rfl)) rfl
   rw [Q_X16_ (hon 16 (by kernel_rfl))] at e6
   have e20 : a.tmps[20]? = some (.agg #[.int .i64 ((rd_T73 l0 a1_1).f0), .int .i64 ((rd_T73 l0 a1_1).f1), .int .i64 ((rd_T73 l0 a1_1).f2)]) := by rw [ha]; exact putSel_on (e := (9, 20, .agg #[.int .i64 ((rd_T73 l0 a1_1).f0), .int .i64 ((rd_T73 l0 a1_1).f1), .int .i64 ((rd_T73 l0 a1_1).f2)])) 7 rfl rfl (hon 9 (by kernel_rfl)) rfl
   replace ha := A_ ha; have BK101 := A_ Q_BK101; have HB := A_ Q_HB
   have NB106_105 := A_ (Q_NB106_105 (hon 15 (by kernel_rfl)) (hon 16 (by kernel_rfl)))
   have NB105_106 := A_ (Q_NB105_106 (hon 15 (by kernel_rfl)) (hon 16 (by kernel_rfl)))
   have NB107_105 := A_ (Q_NB107_105 (hon 15 (by kernel_rfl)) (hon 17 (by kernel_rfl)))
   have NB105_107 := A_ (Q_NB105_107 (hon 15 (by kernel_rfl)) (hon 17 (by kernel_rfl)))
   have NB107_106 := A_ (Q_NB107_106 (hon 16 (by kernel_rfl)) (hon 17 (by kernel_rfl)))
   have NB106_107 := A_ (Q_NB106_107 (hon 16 (by kernel_rfl)) (hon 17 (by kernel_rfl)))
   have GW105 := A_ (Q_GW105 (hon 15 (by kernel_rfl)))
   have GE105 := A_ (Q_GE105 (hon 15 (by kernel_rfl)))
   have NB101_105 := A_ (Q_NB101_105 (hon 15 (by kernel_rfl)))
   have NB105_101 := A_ (Q_NB105_101 (hon 15 (by kernel_rfl)))
   have BK106 := A_ (Q_BK106 (hon 16 (by kernel_rfl)) hb_)
   have GW106 := A_ (Q_GW106 (hon 16 (by kernel_rfl)))
   have GE106 := A_ (Q_GE106 (hon 16 (by kernel_rfl)))
   have NB101_106 := A_ (Q_NB101_106 (hon 16 (by kernel_rfl)))
   have NB106_101 := A_ (Q_NB106_101 (hon 16 (by kernel_rfl)))
   have BK107 := A_ (Q_BK107 (hon 17 (by kernel_rfl)) (hoff 20 (by kernel_rfl)))
   have GW107 := A_ (Q_GW107 (hon 17 (by kernel_rfl)))
   have GE107 := A_ (Q_GE107 (hon 17 (by kernel_rfl)))
   have NB101_107 := A_ (Q_NB101_107 (hon 17 (by kernel_rfl)))
   have NB107_101 := A_ (Q_NB107_101 (hon 17 (by kernel_rfl)))
   have BK105 := A_ (Q_BK105_e18 (hon 18 (by kernel_rfl)))
   have hs43 : w'.cell? ⟨gb106, 0, none⟩ = some (.int .i64 0) := (blk_cell BK106.out 0).trans rfl; have hfs43 := blk_frozen BK106.out 0; have hns43_0 := NB101_106.out; have hns43_1 := NB105_106.out; have hns43_3 := NB107_106.out; have hms43_0 := NB106_101.out; have hms43_1 := NB106_105.out; have hms43_3 := NB106_107.out; have hs44 : w'.cell? ⟨gb106, 1, none⟩ = some (.int .i64 0) := (blk_cell BK106.out 1).trans rfl; have hfs44 := blk_frozen BK106.out 1; have hns44_0 := NB101_106.out; have hns44_1 := NB105_106.out; have hns44_3 := NB107_106.out; have hms44_0 := NB106_101.out; have hms44_1 := NB106_105.out; have hms44_3 := NB106_107.out; have hs45 : w'.cell? ⟨gb106, 2, none⟩ = some (.int .i64 0) := (blk_cell BK106.out 2).trans rfl; have hfs45 := blk_frozen BK106.out 2; have hns45_0 := NB101_106.out; have hns45_1 := NB105_106.out; have hns45_3 := NB107_106.out; have hms45_0 := NB106_101.out; have hms45_1 := NB106_105.out; have hms45_3 := NB106_107.out
   refine skip_ (w1 := ?_) (by rfl) rfl ?_ ?_
   rotate_left
   ·go_simp
    rfl
   refine hK.out _ _ ⟨gb105, gb106, gb107, m15_, m16_, m17_, (by rw [ha.out]; exact putSel_none (v := undef) rfl), (bkF3 BK101 NB101_106), (bW4 HB.out GE101.out GE105.out GE106.out GE107.out), fun _ _ => NB106_105.out, fun _ _ => NB105_106.out, fun _ _ => NB107_105.out, fun _ _ => NB105_107.out, fun _ _ => NB107_106.out, fun _ _ => NB106_107.out, fun _ h1_ => absurd ((hon 18 (by kernel_rfl)).symm.trans h1_) (by decide), fun _ => GW105.out, fun _ => GE105.out, fun _ => NB101_105.out, fun _ => NB105_101.out, fun _ h1_ => absurd ((up_self b 19).symm.trans h1_) (by decide), fun _ => GW106.out, fun _ => GE106.out, fun _ => NB101_106.out, fun _ => NB106_101.out, fun _ _ => (bkF3 BK107 NB107_106), fun _ => GW107.out, fun _ => GE107.out, fun _ => NB101_107.out, fun _ => NB107_101.out, fun _ => (bkF3 BK105 NB105_106), fun _ => (by (with_reducible repeat (first | refine blk_drewN ?_ _ | refine blk_drew ?_ | refine blk_alloc ?_ _)); refine blk_put (cs := #[.int .i64 ((rd_T73 l0 a1_1).f0), .int .i64 ((rd_T73 l0 a1_1).f1), .int .i64 0]) ?_ 2 _ rfl; (with_reducible repeat (first | refine blk_drewN ?_ _ | refine blk_drew ?_ | refine blk_alloc ?_ _)); refine blk_put (cs := #[.int .i64 ((rd_T73 l0 a1_1).f0), .int .i64 0, .int .i64 0]) ?_ 1 _ rfl; (with_reducible repeat (first | refine blk_drewN ?_ _ | refine blk_drew ?_ | refine blk_alloc ?_ _)); refine blk_put (cs := #[.int .i64 0, .int .i64 0, .int .i64 0]) ?_ 0 _ rfl; exact bkU BK106), fun h0_ => absurd ((hoff 20 (by kernel_rfl)).symm.trans h0_) (by decide), Q_X15_, Q_X16_, Q_X17_⟩
  refine steps_cons ?_ ?_
  ·rintro b a w' ⟨gb105, gb106, gb107, m15_, m16_, m17_, ha, Q_BK101, Q_HB, Q_NB106_105, Q_NB105_106, Q_NB107_105, Q_NB105_107, Q_NB107_106, Q_NB106_107, Q_BK105, Q_GW105, Q_GE105, Q_NB101_105, Q_NB105_101, Q_BK106, Q_GW106, Q_GE106, Q_NB101_106, Q_NB106_101, Q_BK107, Q_GW107, Q_GE107, Q_NB101_107, Q_NB107_101, Q_BK105_e18, Q_BK106_e19, Q_BK107_e20, Q_X15_, Q_X16_, Q_X17_⟩ hb_ hon hoff
   refine ⟨_, rfl, fun K hK => ?_⟩
   have e7 : a.tmps[7]? = some (m17_) := by rw [ha]; exact putSel_on (e := (17, 7, m17_)) 14 rfl rfl (hon 17 (by kernel_rfl)) rfl
   rw [Q_X17_ (hon 17 (by kernel_rfl))] at e7
   have e25 : a.tmps[25]? = some (.agg #[.int .i64 ((rd_T73 l0 a1_2).f0), .int .i64 ((rd_T73 l0 a1_2).f1), .int .i64 ((rd_T73 l0 a1_2).f2)]) := by rw [ha]; exact putSel_on (e := (14, 25, .agg #[.int .i64 ((rd_T73 l0 a1_2).f0), .int .i64 ((rd_T73 l0 a1_2).f1), .int .i64 ((rd_T73 l0 a1_2).f2)])) 11 rfl rfl (hon 14 (by kernel_rfl)) rfl
   replace ha := A_ ha; have BK101 := A_ Q_BK101; have HB := A_ Q_HB
   have NB106_105 := A_ (Q_NB106_105 (hon 15 (by kernel_rfl)) (hon 16 (by kernel_rfl)))
   have NB105_106 := A_ (Q_NB105_106 (hon 15 (by kernel_rfl)) (hon 16 (by kernel_rfl)))
   have NB107_105 := A_ (Q_NB107_105 (hon 15 (by kernel_rfl)) (hon 17 (by kernel_rfl)))
   have NB105_107 := A_ (Q_NB105_107 (hon 15 (by kernel_rfl)) (hon 17 (by kernel_rfl)))
   have NB107_106 := A_ (Q_NB107_106 (hon 16 (by kernel_rfl)) (hon 17 (by kernel_rfl)))
   have NB106_107 := A_ (Q_NB106_107 (hon 16 (by kernel_rfl)) (hon 17 (by kernel_rfl)))
   have GW105 := A_ (Q_GW105 (hon 15 (by kernel_rfl)))
   have GE105 := A_ (Q_GE105 (hon 15 (by kernel_rfl)))
   have NB101_105 := A_ (Q_NB101_105 (hon 15 (by kernel_rfl)))
   have NB105_101 := A_ (Q_NB105_101 (hon 15 (by kernel_rfl)))
   have GW106 := A_ (Q_GW106 (hon 16 (by kernel_rfl)))
   have GE106 := A_ (Q_GE106 (hon 16 (by kernel_rfl)))
   have NB101_106 := A_ (Q_NB101_106 (hon 16 (by kernel_rfl)))
   have NB106_101 := A_ (Q_NB106_101 (hon 16 (by kernel_rfl)))
   have BK107 := A_ (Q_BK107 (hon 17 (by kernel_rfl)) hb_)
   have GW107 := A_ (Q_GW107 (hon 17 (by kernel_rfl)))
   have GE107 := A_ (Q_GE107 (hon 17 (by kernel_rfl)))
   have NB101_107 := A_ (Q_NB101_107 (hon 17 (by kernel_rfl)))
   have NB107_101 := A_ (Q_NB107_101 (hon 17 (by kernel_rfl)))
   have BK105 := A_ (Q_BK105_e18 (hon 18 (by kernel_rfl)))
   have BK106 := A_ (Q_BK106_e19 (hon 19 (by kernel_rfl)))
   have hs46 : w'.cell? ⟨gb107, 0, none⟩ = some (.int .i64 0) := (blk_cell BK107.out 0).trans rfl; have hfs46 := blk_frozen BK107.out 0; have hns46_0 := NB101_107.out; have hns46_1 := NB105_107.out; have hns46_2 := NB106_107.out; have hms46_0 := NB107_101.out; have hms46_1 := NB107_105.out; have hms46_2 := NB107_106.out; have hs47 : w'.cell? ⟨gb107, 1, none⟩ = some (.int .i64 0) := (blk_cell BK107.out 1).trans rfl; have hfs47 := blk_frozen BK107.out 1; have hns47_0 := NB101_107.out; have hns47_1 := NB105_107.out; have hns47_2 := NB106_107.out; have hms47_0 := NB107_101.out; have hms47_1 := NB107_105.out; have hms47_2 := NB107_106.out; have hs48 : w'.cell? ⟨gb107, 2, none⟩ = some (.int .i64 0) := (blk_cell BK107.out 2).trans rfl; have hfs48 := blk_frozen BK107.out 2; have hns48_0 := NB101_107.out; have hns48_1 := NB105_107.out; have hns48_2 := NB106_107.out; have hms48_0 := NB107_101.out; have hms48_1 := NB107_105.out; have hms48_2 := NB107_106.out
   refine skip_ (w1 := ?_) (by rfl) rfl ?_ ?_
   rotate_left
   ·go_simp
    rfl
   refine hK.out _ _ ⟨gb105, gb106, gb107, m15_, m16_, m17_, (by rw [ha.out]; exact putSel_none (v := undef) rfl), (bkF3 BK101 NB101_107), (bW4 HB.out GE101.out GE105.out GE106.out GE107.out), fun _ _ => NB106_105.out, fun _ _ => NB105_106.out, fun _ _ => NB107_105.out, fun _ _ => NB105_107.out, fun _ _ => NB107_106.out, fun _ _ => NB106_107.out, fun _ h1_ => absurd ((hon 18 (by kernel_rfl)).symm.trans h1_) (by decide), fun _ => GW105.out, fun _ => GE105.out, fun _ => NB101_105.out, fun _ => NB105_101.out, fun _ h1_ => absurd ((hon 19 (by kernel_rfl)).symm.trans h1_) (by decide), fun _ => GW106.out, fun _ => GE106.out, fun _ => NB101_106.out, fun _ => NB106_101.out, fun _ h1_ => absurd ((up_self b 20).symm.trans h1_) (by decide), fun _ => GW107.out, fun _ => GE107.out, fun _ => NB101_107.out, fun _ => NB107_101.out, fun _ => (bkF3 BK105 NB105_107), fun _ => (bkF3 BK106 NB106_107), fun _ => (by (with_reducible repeat (first | refine blk_drewN ?_ _ | refine blk_drew ?_ | refine blk_alloc ?_ _)); refine blk_put (cs := #[.int .i64 ((rd_T73 l0 a1_2).f0), .int .i64 ((rd_T73 l0 a1_2).f1), .int .i64 0]) ?_ 2 _ rfl; (with_reducible repeat (first | refine blk_drewN ?_ _ | refine blk_drew ?_ | refine blk_alloc ?_ _)); refine blk_put (cs := #[.int .i64 ((rd_T73 l0 a1_2).f0), .int .i64 0, .int .i64 0]) ?_ 1 _ rfl; (with_reducible repeat (first | refine blk_drewN ?_ _ | refine blk_drew ?_ | refine blk_alloc ?_ _)); refine blk_put (cs := #[.int .i64 0, .int .i64 0, .int .i64 0]) ?_ 0 _ rfl; exact bkU BK107), Q_X15_, Q_X16_, Q_X17_⟩
  exact steps_nil
 rintro b a w48 hall ⟨gb105, gb106, gb107, m15_, m16_, m17_, ha, Q_BK101, Q_HB, Q_NB106_105, Q_NB105_106, Q_NB107_105, Q_NB105_107, Q_NB107_106, Q_NB106_107, Q_BK105, Q_GW105, Q_GE105, Q_NB101_105, Q_NB105_101, Q_BK106, Q_GW106, Q_GE106, Q_NB101_106, Q_NB106_101, Q_BK107, Q_GW107, Q_GE107, Q_NB101_107, Q_NB107_101, Q_BK105_e18, Q_BK106_e19, Q_BK107_e20, Q_X15_, Q_X16_, Q_X17_⟩
 clear BK101 HB
 have hb1_ := hall 1 (by kernel_rfl)
 have hb2_ := hall 2 (by kernel_rfl)
 have hb3_ := hall 3 (by kernel_rfl)
 have hb4_ := hall 4 (by kernel_rfl)
 have hb6_ := hall 6 (by kernel_rfl)
 have hb7_ := hall 7 (by kernel_rfl)
 have hb8_ := hall 8 (by kernel_rfl)
 have hb9_ := hall 9 (by kernel_rfl)
 have hb11_ := hall 11 (by kernel_rfl)
 have hb12_ := hall 12 (by kernel_rfl)
 have hb13_ := hall 13 (by kernel_rfl)
 have hb14_ := hall 14 (by kernel_rfl)
 have hb15_ := hall 15 (by kernel_rfl)
 have hb16_ := hall 16 (by kernel_rfl)
 have hb17_ := hall 17 (by kernel_rfl)
 have hb18_ := hall 18 (by kernel_rfl)
 have hb19_ := hall 19 (by kernel_rfl)
 have hb20_ := hall 20 (by kernel_rfl)
 subst ha; obtain rfl := Q_X15_ hb15_; obtain rfl := Q_X16_ hb16_; obtain rfl := Q_X17_ hb17_; simp only [putSel, hb1_, hb2_, hb3_, hb4_, hb6_, hb7_, hb8_, hb9_, hb11_, hb12_, hb13_, hb14_, hb15_, hb16_, hb17_, hb18_, hb19_, hb20_, if_true, Act.put, List.setIfInBounds_toArray, List.set_cons_zero, List.set_cons_succ]; have BK101 := A_ Q_BK101; clear Q_BK101; have HB := A_ Q_HB; clear Q_HB; have NB106_105 := A_ (Q_NB106_105 hb15_ hb16_); clear Q_NB106_105; have NB105_106 := A_ (Q_NB105_106 hb15_ hb16_); clear Q_NB105_106; have NB107_105 := A_ (Q_NB107_105 hb15_ hb17_); clear Q_NB107_105; have NB105_107 := A_ (Q_NB105_107 hb15_ hb17_); clear Q_NB105_107; have NB107_106 := A_ (Q_NB107_106 hb16_ hb17_); clear Q_NB107_106; have NB106_107 := A_ (Q_NB106_107 hb16_ hb17_); clear Q_NB106_107 Q_BK105; have GW105 := A_ (Q_GW105 hb15_); clear Q_GW105; have GE105 := A_ (Q_GE105 hb15_); clear Q_GE105; have NB101_105 := A_ (Q_NB101_105 hb15_); clear Q_NB101_105; have NB105_101 := A_ (Q_NB105_101 hb15_); clear Q_NB105_101 Q_BK106; have GW106 := A_ (Q_GW106 hb16_); clear Q_GW106; have GE106 := A_ (Q_GE106 hb16_); clear Q_GE106; have NB101_106 := A_ (Q_NB101_106 hb16_); clear Q_NB101_106; have NB106_101 := A_ (Q_NB106_101 hb16_); clear Q_NB106_101 Q_BK107; have GW107 := A_ (Q_GW107 hb17_); clear Q_GW107; have GE107 := A_ (Q_GE107 hb17_); clear Q_GE107; have NB101_107 := A_ (Q_NB101_107 hb17_); clear Q_NB101_107; have NB107_101 := A_ (Q_NB107_101 hb17_); clear Q_NB107_101; have BK105 := A_ (Q_BK105_e18 hb18_)
 clear Q_BK105_e18; have BK106 := A_ (Q_BK106_e19 hb19_); clear Q_BK106_e19; have BK107 := A_ (Q_BK107_e20 hb20_); clear Q_BK107_e20 hall hb1_ hb2_ hb3_ hb4_ hb6_ hb7_ hb8_ hb9_ hb11_ hb12_ hb13_ hb14_ hb15_ hb16_ hb17_ hb18_ hb19_ hb20_; have hnb49 := NB107_101.out; have hnc49 := NB101_107.out; have hnb50 := NB107_105.out; have hnc50 := NB105_107.out; have hnb51 := NB107_106.out; have hnc51 := NB106_107.out; have hcz52_0 : w48.cell? ⟨gb107, 0, none⟩ = some (.int .i64 ((rd_T73 l0 a1_2).f0)) := (blk_cell BK107.out 0).trans rfl; have hcz52_1 : w48.cell? ⟨gb107, 1, none⟩ = some (.int .i64 ((rd_T73 l0 a1_2).f1)) := (blk_cell BK107.out 1).trans rfl; have hcz52_2 : w48.cell? ⟨gb107, 2, none⟩ = some (.int .i64 ((rd_T73 l0 a1_2).f2)) := (blk_cell BK107.out 2).trans rfl; have hfz52_0 := blk_frozen BK107.out 0; have hfz52_1 := blk_frozen BK107.out 1; have hfz52_2 := blk_frozen BK107.out 2; have hnb53 := NB105_101.out; have hnc53 := NB101_105.out; have hnb54 := NB105_106.out; have hnc54 := NB106_105.out; have hcz55_0 : w48.cell? ⟨gb105, 0, none⟩ = some (.int .i64 ((rd_T73 l0 a1_0).f0)) := (blk_cell BK105.out 0).trans rfl; have hcz55_1 : w48.cell? ⟨gb105, 1, none⟩ = some (.int .i64 ((rd_T73 l0 a1_0).f1)) := (blk_cell BK105.out 1).trans rfl; have hcz55_2 : w48.cell? ⟨gb105, 2, none⟩ = some (.int .i64 ((rd_T73 l0 a1_0).f2)) := (blk_cell BK105.out 2).trans rfl; have hfz55_0 := blk_frozen BK105.out 0; have hfz55_1 := blk_frozen BK105.out 1; have hfz55_2 := blk_frozen BK105.out 2; have hnb56 := NB106_101.out
 have hnc56 := NB101_106.out; have hcz57_0 : w48.cell? ⟨gb106, 0, none⟩ = some (.int .i64 ((rd_T73 l0 a1_1).f0)) := (blk_cell BK106.out 0).trans rfl; have hcz57_1 : w48.cell? ⟨gb106, 1, none⟩ = some (.int .i64 ((rd_T73 l0 a1_1).f1)) := (blk_cell BK106.out 1).trans rfl; have hcz57_2 : w48.cell? ⟨gb106, 2, none⟩ = some (.int .i64 ((rd_T73 l0 a1_1).f2)) := (blk_cell BK106.out 2).trans rfl; have hfz57_0 := blk_frozen BK106.out 0; have hfz57_1 := blk_frozen BK106.out 1; have hfz57_2 := blk_frozen BK106.out 2
 try go_wp2
 go_ret
 exact ⟨eQ, by repeat (first | (with_reducible first | exact HB.out | apply below_alloc | apply pw_below_drewN | apply below_drew1 | refine below_set ?_ GE101.out | refine below_set ?_ GE105.out | refine below_set ?_ GE106.out | refine below_set ?_ GE107.out) | exact HB.out)⟩
end Go.Proofs.Ytiapmkndgalgnaa.G
