/- Functions of the seat and plain laws about them: GF13. -/
import Derived.Test.YtbbjonbnmoomlaaDoorGBase
import Derived.Test.YtbbjonbnmoomlaaDoorZI7
import Derived.Test.YtbbjonbnmoomlaaDoorZI11
import Derived.Test.YtbbjonbnmoomlaaDoorZI13
section
namespace Go.Proofs.YtbbjonbnmoomlaaDoor.G
open Go.RowKit Go.Proofs.YtbbjonbnmoomlaaDoorW.PrintWords Go.Proofs.YtbbjonbnmoomlaaDoorW.PrintLast Go.Proofs.YtbbjonbnmoomlaaDoorW.PrintMore
attribute [local go_sem] max2_int min2_int max_two min_two max_three min_three max_four min_four
set_option linter.unusedVariables false
set_option linter.unusedSimpArgs false
mutual
def dropperref05_Isolates.l0 : Nat → Int → Int → List Int → Int → Int → List (S47) → List (S49) → Option (Bool × Int)
 | 0, _, _, _, _, _, _, _ => none
 | k + 1, x1, x2, x3, x11, x102000, x102001, x102002 => if x11 < (x3.length : Int) then (if 0 ≤ x11 then (if (rd x3 x11) < 0 then (some (false, 0)) else (if (rd x3 x11) ≥ (x102001.length : Int) then (some (false, 0)) else ((dropperref05_closed.f x1 (rd x3 x11)).bind fun t106 => (if t106 = true then (if x11 > 0 then (if 0 ≤ (wrap64 (x11 - 1)) then (if (wrap64 (x11 - 1)) < (x3.length : Int) then (if (rd x3 x11) ≤ (rd x3 (wrap64 (x11 - 1))) then (some (false, 0)) else (dropperref05_Isolates.l0 k x1 x2 x3 (wrap64 (x11 + 1)) x102000 x102001 x102002)) else (none)) else (none)) else (dropperref05_Isolates.l0 k x1 x2 x3 (wrap64 (x11 + 1)) x102000 x102001 x102002)) else (some (false, 0)))))) else (none)) else (dropperref05_Isolates.l1 k x1 x2 x3 0 x102000 x102001 x102002)
def dropperref05_Isolates.l1 : Nat → Int → Int → List Int → Int → Int → List (S47) → List (S49) → Option (Bool × Int)
 | 0, _, _, _, _, _, _, _ => none
 | k + 1, x1, x2, x3, x12, x102000, x102001, x102002 => if x12 < (x3.length : Int) then (if 0 ≤ x12 then (if 0 ≤ (rd x3 x12) then (dropperref05_Isolates.l1 k (wrap64 (x1 - (shl .i64 1 (rd x3 x12)))) x2 x3 (wrap64 (x12 + 1)) x102000 x102001 x102002) else (none)) else (none)) else ((dropperref05_live.f k x102000 x102001 x102002 x1).bind fun t110 => (if 0 ≤ x2 then (if x2 < (t110.length : Int) then (some (((rd t110 x2) == 0), 0)) else (none)) else (none)))
end
def dropperref05_Isolates.f (k : Nat) (a0_0 : Int) (l0_1 : List (S47)) (l0_2 : List (S49)) (a1 : Int) (a2 : Int) (l3 : List Int) : Option (Bool × Int) := (dropperref05_Why.f k a0_0 l0_1 l0_2 a1 a2).bind fun t102 => (if t102 = 0 then (dropperref05_Isolates.l0 k a1 a2 l3 0 a0_0 l0_1 l0_2) else (some (false, t102)))
def dropperref05_Isolates.T7 : Bool × List (List Nat × List Nat) := (true, [([], []), ([], []), ([0, 1], [0, 1]), ([2], [2]), ([3], [3]), ([4], [4]), ([5], [5]), ([5], [5]), ([6, 7, 5], [5, 6, 7]), ([8, 5], [5, 8]), ([5], [5]), ([10, 5], [5, 10]), ([11, 5], [5, 11]), ([9, 12, 5], [5, 9, 12]), ([5, 13], [5, 13]), ([14, 5], [14]), ([15], [15]), ([15], [15]), ([15], [15]), ([17, 18, 15], [15, 17, 18]), ([19, 15], [15, 19]), ([16, 20, 15, 15], [15, 16, 20]), ([21, 15], [15, 21]), ([15, 22], [15, 22]), ([23, 21], [23]), ([24], [24]), ([25, 24], [24, 25]), ([26, 24, 24], [24, 26]), ([27], [27]), ([27], [27]), ([28, 29, 27], [27, 28, 29]), ([30, 27], [27, 30]), ([27], [27]), ([27], [27]), ([33, 27], [27, 33]), ([32, 34, 27], [27, 32, 34]), ([35, 27], [27, 35]), ([31, 36, 27], [27, 31, 36]), ([27, 37, 24], [24, 27, 37]), ([24, 38], [24, 38])])
def dropperref05_Isolates.B7 : List Nat := [0, 0, 3, 7, 15, 31, 63, 63, 255, 511, 63, 1087, 3135, 8191, 16383, 32767, 65535, 65535, 65535, 458751, 983039, 2097151, 4194303, 8388607, 16777215, 33554431, 67108863, 134217727, 268435455, 268435455, 1073741823, 2147483647, 268435455, 268435455, 8858370047, 30333206527, 64692944895, 137438953471, 274877906943, 549755813887]
theorem dropperref05_Isolates.tab7 : rtab .any (opsOf Tryd.f13 7) = dropperref05_Isolates.T7 := by kernel_rfl
theorem dropperref05_Isolates.bits7 : waitsOk dropperref05_Isolates.T7.2 dropperref05_Isolates.B7 = true := by kernel_rfl
set_option maxHeartbeats 8000000 in
set_option maxRecDepth 100000 in
theorem dropperref05_Isolates.calls (k : Nat) (a0_0 : Int) (A0_1 : Option Addr) (c0_1 : Nat) (l0_1 : List (S47)) (A0_2 : Option Addr) (c0_2 : Nat) (l0_2 : List (S49)) (a1 : Int) (a2 : Int) (A3 : Option Addr) (c3 : Nat) (l3 : List Int) (r1 : Bool) (r2 : Int) (w : World) (hr0_1 : Kd.C k47 w A0_1 l0_1.length l0_1) (hc0_1 : l0_1.length ≤ c0_1) (hr0_2 : Kd.C k49 w A0_2 l0_2.length l0_2) (hc0_2 : l0_2.length ≤ c0_2) (hr3 : Kd.C (Kd.int .i64) w A3 l3.length l3) (hc3 : l3.length ≤ c3) (h : dropperref05_Isolates.f k a0_0 l0_1 l0_2 a1 a2 l3 = some (r1, r2)) :
  Calls Tryd.prog 13 #[.agg #[.int .i64 a0_0, .slice A0_1 l0_1.length c0_1, .slice A0_2 l0_2.length c0_2], .int .i64 a1, .int .i64 a2, .slice A3 l3.length c3] w fun e w' => e = .returned (.tuple #[.bool r1, .int .i64 r2]) ∧ Below w.heap.size w w' := by
 have hu25 := Tryd.underlying25; have HR0_1 := A_ hr0_1; have HC0_1 := A_ hc0_1; clear hr0_1 hc0_1; have HR0_2 := A_ hr0_2; have HC0_2 := A_ hc0_2; clear hr0_2 hc0_2; have HR3 := A_ hr3; have HC3 := A_ hc3; clear hr3 hc3; have HB := A_ (Below.refl w.heap.size w)
 have H : ((dropperref05_Why.f k a0_0 l0_1 l0_2 a1 a2).bind fun t102 => (if t102 = 0 then (dropperref05_Isolates.l0 k a1 a2 l3 0 a0_0 l0_1 l0_2) else (some (false, t102)))) = some (r1, r2) := h
 clear h; replace H := Option.bind_eq_some_iff.mp H; obtain ⟨t102, A50, H⟩ := H; (try dsimp only at H); have A5 := A_ A50; clear A50; by_cases c6 : t102 = 0; rotate_left
 ·rw [if_neg c6] at H
  have c6b0 : (t102 == 0) = false := beq_eq_false_iff_ne.mpr c6; have c6b1 : (t102 != 0) = true := bne_iff_ne.mpr c6; simp only [Option.some.injEq, Prod.mk.injEq] at H; obtain ⟨rfl, rfl⟩ := H
  go_enter Tryd.func13, Tryd.ntmps13
  go_wp2_with (first | ((with_reducible refine gate_dst (N := 4) rfl ?_); (try (refine gate_guard (by rfl) ?_; dsimp only)); refine bxW 4 (cs := #[.int .i64 a0_0, .slice A0_1 l0_1.length c0_1, .slice A0_2 l0_2.length c0_2]) (t := 25) ?_; intro gb101 hg w37 hbox hb; have BK101 := A_ (hbox); have GW101 := A_ ((szG hg (bW0 HB.out))); have GE101 := A_ ((szG hg (bW0 HB.out))); replace HB := A_ (below_step (bW0 HB.out) hb); clear hb hbox hg; have hcz38_0 : w37.cell? ⟨gb101, 0, none⟩ = some (.int .i64 a0_0) := (blk_cell BK101.out 0).trans rfl; have hcz38_1 : w37.cell? ⟨gb101, 1, none⟩ = some (.slice A0_1 l0_1.length c0_1) := (blk_cell BK101.out 1).trans rfl; have hcz38_2 : w37.cell? ⟨gb101, 2, none⟩ = some (.slice A0_2 l0_2.length c0_2) := (blk_cell BK101.out 2).trans rfl; have hfz38_0 := blk_frozen BK101.out 0; have hfz38_1 := blk_frozen BK101.out 1; have hfz38_2 := blk_frozen BK101.out 2) | ((with_reducible refine gate_callee (f := 6) rfl ?_); refine goesL_ (some 16) rfl rfl Tryd.func6 (by kernel_rfl) rfl #[.agg #[.int .i64 a0_0, .slice A0_1 l0_1.length c0_1, .slice A0_2 l0_2.length c0_2], .int .i64 a1, .int .i64 a2] rfl (by (try simp only [List.map_toArray, List.map_cons, List.map_nil]); first | done | rfl | (simp only [List.length_drop, List.length_take]; rfl)) ?_; (with_reducible refine (dropperref05_Why.calls k a0_0 _ _ l0_1 _ _ l0_2 a1 a2 t102 _ ?side1 ?side2 ?side3 ?side4 A5.out).mono ?_); (case side1 => exact cU (Kd.C_below HR0_1.out HB.out)); (case side2 => exact HC0_1.out); (case side3 => exact cU (Kd.C_below HR0_2.out HB.out)); (case side4 => exact HC0_2.out); rintro e w39 ⟨rfl, hb⟩; refine ⟨_, rfl, ?_⟩; replace BK101 := A_ (bkB BK101 hb); replace HB := A_ (below_step (bW1 HB.out GE101.out) hb); (try clear hb)))
  go_ret2
  exact ⟨eQ, (bW1 HB.out GE101.out)⟩
 rw [if_pos c6] at H; have c6b0 : (t102 == 0) = true := beq_iff_eq.mpr c6; have c6b1 : (t102 != 0) = false := bne_eq_false_iff_eq.mpr c6; clear c6; have H' := A_ H; clear H
 go_enter Tryd.func13, Tryd.ntmps13
 go_wp2_with (first | ((with_reducible refine gate_dst (N := 4) rfl ?_); (try (refine gate_guard (by rfl) ?_; dsimp only)); refine bxW 4 (cs := #[.int .i64 a0_0, .slice A0_1 l0_1.length c0_1, .slice A0_2 l0_2.length c0_2]) (t := 25) ?_; intro gb101 hg w7 hbox hb; have BK101 := A_ (hbox); have GW101 := A_ ((szG hg (bW0 HB.out))); have GE101 := A_ ((szG hg (bW0 HB.out))); replace HB := A_ (below_step (bW0 HB.out) hb); clear hb hbox hg; have hcz8_0 : w7.cell? ⟨gb101, 0, none⟩ = some (.int .i64 a0_0) := (blk_cell BK101.out 0).trans rfl; have hcz8_1 : w7.cell? ⟨gb101, 1, none⟩ = some (.slice A0_1 l0_1.length c0_1) := (blk_cell BK101.out 1).trans rfl; have hcz8_2 : w7.cell? ⟨gb101, 2, none⟩ = some (.slice A0_2 l0_2.length c0_2) := (blk_cell BK101.out 2).trans rfl; have hfz8_0 := blk_frozen BK101.out 0; have hfz8_1 := blk_frozen BK101.out 1; have hfz8_2 := blk_frozen BK101.out 2) | ((with_reducible refine gate_callee (f := 6) rfl ?_); refine goesL_ (some 16) rfl rfl Tryd.func6 (by kernel_rfl) rfl #[.agg #[.int .i64 a0_0, .slice A0_1 l0_1.length c0_1, .slice A0_2 l0_2.length c0_2], .int .i64 a1, .int .i64 a2] rfl (by (try simp only [List.map_toArray, List.map_cons, List.map_nil]); first | done | rfl | (simp only [List.length_drop, List.length_take]; rfl)) ?_; (with_reducible refine (dropperref05_Why.calls k a0_0 _ _ l0_1 _ _ l0_2 a1 a2 t102 _ ?side1 ?side2 ?side3 ?side4 A5.out).mono ?_); (case side1 => exact cU (Kd.C_below HR0_1.out HB.out)); (case side2 => exact HC0_1.out); (case side3 => exact cU (Kd.C_below HR0_2.out HB.out)); (case side4 => exact HC0_2.out); rintro e w9 ⟨rfl, hb⟩; refine ⟨_, rfl, ?_⟩; replace BK101 := A_ (bkB BK101 hb); replace HB := A_ (below_step (bW1 HB.out GE101.out) hb); (try clear hb)))
 go_loopg [11] k (fun kq v11 w' => ∃ (x11_1 : Int), v11 = .int .i64 x11_1 ∧ Aside0 (dropperref05_Isolates.l0 kq a1 a2 l3 x11_1 a0_0 l0_1 l0_2 = some (r1, r2)) ∧ Aside0 (kq ≤ k) ∧ Aside0 (w'.heap[gb101]? = some (.cells #[.int .i64 a0_0, (.slice A0_1 l0_1.length c0_1), (.slice A0_2 l0_2.length c0_2)] 25 (0, 0))) ∧ Aside0 (Below w.heap.size w w'))
 case atStart => exact ⟨(0), eS, H', ⟨Nat.le_refl _⟩, ⟨bkU BK101⟩, ⟨(bW1 HB.out GE101.out)⟩⟩
 case round =>
  clear H'
  try clear c1; try clear p2; try clear c3; try clear c6; try clear c6b0; try clear c6b1; try clear hcz8_0; try clear hcz8_1; try clear hcz8_2; try clear hfz8_0; try clear hfz8_1; try clear hfz8_2
  obtain ⟨x11_1, rfl, HA, HK1, BK101, HB⟩ := hrel
  cases gk with
  | zero => exact absurd HA.out (by simp [dropperref05_Isolates.l0])
  | succ k1 =>
   have H := HA.out; clear HA; simp only [dropperref05_Isolates.l0] at H; by_cases c10 : x11_1 < (l3.length : Int); rotate_left
   ·rw [if_neg c10] at H
    have c10b0 : decide (x11_1 < (l3.length : Int)) = false := decide_eq_false c10; clear c10; have H' := A_ H; clear H
    go_wp2
    go_loopg [1, 12] k1 (fun kq v1 v12 w' => ∃ (x1_2 : Int) (x12_2 : Int), v1 = .int .i64 x1_2 ∧ v12 = .int .i64 x12_2 ∧ Aside0 (dropperref05_Isolates.l1 kq x1_2 a2 l3 x12_2 a0_0 l0_1 l0_2 = some (r1, r2)) ∧ Aside0 (kq ≤ k1) ∧ Aside0 (w'.heap[gb101]? = some (.cells #[.int .i64 a0_0, (.slice A0_1 l0_1.length c0_1), (.slice A0_2 l0_2.length c0_2)] 25 (0, 0))) ∧ Aside0 (Below w.heap.size w w'))
    case atStart => exact ⟨(a1), (0), eS, eS, H', ⟨Nat.le_refl _⟩, ⟨bkU BK101⟩, ⟨(bW1 HB.out GE101.out)⟩⟩
    case round =>
     clear H'
     try clear c1; try clear p1; try clear q1; try clear hx1; try clear p2; try clear c3; try clear p6; try clear c10; try clear c10b0; try clear p10; try clear q10; try clear hx10; try clear c11; try clear c17; try clear hx103_0; try clear hx104_0; try clear hx105_0; try clear p103; try clear p104; try clear p105; try clear q103; try clear q104; try clear q105
     obtain ⟨x1_2, x12_2, rfl, rfl, HA, HK2, BK101, HB⟩ := hrel
     cases gk with
     | zero => exact absurd HA.out (by simp [dropperref05_Isolates.l1])
     | succ k2 =>
      have H := HA.out; clear HA; simp only [dropperref05_Isolates.l1] at H; by_cases c27 : x12_2 < (l3.length : Int)
      ·rw [if_pos c27] at H
       have c27b0 : decide (x12_2 < (l3.length : Int)) = true := decide_eq_true c27; clear c27; by_cases c28 : 0 ≤ x12_2; rotate_left
       ·rw [if_neg c28] at H
        exact absurd H (by simp)
       rw [if_pos c28] at H; have c28b0 : decide (0 ≤ x12_2) = true := decide_eq_true c28; clear c28; by_cases c29 : 0 ≤ (rd l3 x12_2); rotate_left
       ·rw [if_neg c29] at H
        exact absurd H (by simp)
       rw [if_pos c29] at H; have c29b0 := eq_true c29; have c29b1 : decide (0 ≤ (rd l3 x12_2)) = true := decide_eq_true c29; clear c29; obtain ⟨ji30, hji30⟩ : ∃ j_ : Int, (shl .i64 1 (rd l3 x12_2)) = j_ := ⟨_, rfl⟩
       replace H : (dropperref05_Isolates.l1 k2 (wrap64 (x1_2 - (ji30))) a2 l3 (wrap64 (x12_2 + 1)) a0_0 l0_1 l0_2) = some (r1, r2) := by first | (rw [hji30] at H; exact H) | (simp only [hji30] at H ⊢; exact H)
       have hji30_ : (IntKind.i64.wrap (1 * 2 ^ min (rd l3 x12_2).toNat 64)) = ji30 := hji30; have hji30z : (rd l3 x12_2) ≤ 64 → (IntKind.i64.wrap (1 * 2 ^ (rd l3 x12_2).toNat)) = ji30 := shl_small hji30
       have hji30u : (IntKind.i64.wrap (2 ^ min (rd l3 x12_2).toNat 64)) = ji30 := by have h_ := hji30_; rw [Int.one_mul] at h_; exact h_
       have hji30v : (rd l3 x12_2) ≤ 64 → (IntKind.i64.wrap (2 ^ (rd l3 x12_2).toNat)) = ji30 := fun hle_ => by have h_ := hji30z hle_; rw [Int.one_mul] at h_; exact h_
       have hji30y : (wrap64 (1 * 2 ^ min (rd l3 x12_2).toNat 64)) = ji30 := (i64_w _).symm.trans hji30_
       have hji30x : (rd l3 x12_2) ≤ 64 → (wrap64 (1 * 2 ^ (rd l3 x12_2).toNat)) = ji30 := fun h_ => (i64_w _).symm.trans (hji30z h_)
       have H' := A_ H; clear H; have p109 : 0 ≤ (x12_2 : Int) := oD; have q109 : x12_2 < (l3.length : Int) := oD; obtain ⟨ad109, e109, hx109_0⟩ := Kd.at_int HR3.out x12_2 p109 q109
       cases e109
       replace hx109_0 := (HB.out.cell (World.block_lt_of_cell? w _ hx109_0)).trans hx109_0; replace p109 := eq_true p109; replace q109 := eq_true q109
       go_wp2
       go_roundg k2
       case measure => have := HK1.out; have := HK2.out; omega
       case rel => exact ⟨(wrap64 (x1_2 - (ji30))), (wrap64 (x12_2 + 1)), (by first | rfl | (simp; done) | (simp only [← hji30] <;> (first | rfl | simp)) | (simp [*]; done)), eS, H', ⟨by have := HK1.out; have := HK2.out; omega⟩, ⟨bkU BK101⟩, ⟨(bW1 HB.out GE101.out)⟩⟩
      rw [if_neg c27] at H; have c27b0 : decide (x12_2 < (l3.length : Int)) = false := decide_eq_false c27; clear c27; replace H := Option.bind_eq_some_iff.mp H; obtain ⟨t110, A310, H⟩ := H; (try dsimp only at H); have A31 := A_ A310; clear A310; by_cases c32 : 0 ≤ a2; rotate_left
      ·rw [if_neg c32] at H
       exact absurd H (by simp)
      rw [if_pos c32] at H; have c32b0 : decide (0 ≤ a2) = true := decide_eq_true c32; clear c32; by_cases c33 : a2 < (t110.length : Int); rotate_left
      ·rw [if_neg c33] at H
       exact absurd H (by simp)
      rw [if_pos c33] at H; have c33b0 : decide (a2 < (t110.length : Int)) = true := decide_eq_true c33; clear c33; simp only [Option.some.injEq, Prod.mk.injEq] at H; obtain ⟨rfl, rfl⟩ := H; have hcz34_0 : wr.cell? ⟨gb101, 0, none⟩ = some (.int .i64 a0_0) := (blk_cell BK101.out 0).trans rfl; have hcz34_1 : wr.cell? ⟨gb101, 1, none⟩ = some (.slice A0_1 l0_1.length c0_1) := (blk_cell BK101.out 1).trans rfl; have hcz34_2 : wr.cell? ⟨gb101, 2, none⟩ = some (.slice A0_2 l0_2.length c0_2) := (blk_cell BK101.out 2).trans rfl; have hfz34_0 := blk_frozen BK101.out 0; have hfz34_1 := blk_frozen BK101.out 1; have hfz34_2 := blk_frozen BK101.out 2
      go_wp2_with (first | ((with_reducible refine gate_callee (f := 31) rfl ?_); refine goesL_ (some 81) rfl rfl Tryd.func31 (by kernel_rfl) rfl #[.agg #[.int .i64 a0_0, .slice A0_1 l0_1.length c0_1, .slice A0_2 l0_2.length c0_2], .int .i64 x1_2] rfl (by (try simp only [List.map_toArray, List.map_cons, List.map_nil]); first | done | rfl | (simp only [List.length_drop, List.length_take]; rfl)) ?_; (with_reducible refine (dropperref05_live.calls k2 a0_0 _ _ l0_1 _ _ l0_2 x1_2 t110 _ ?side1 ?side2 ?side3 ?side4 A31.out).mono ?_); (case side1 => exact cU (Kd.C_below HR0_1.out HB.out)); (case side2 => exact HC0_1.out); (case side3 => exact cU (Kd.C_below HR0_2.out HB.out)); (case side4 => exact HC0_2.out); rintro e w35 ⟨v111, rfl, ho0, hb⟩; refine ⟨_, rfl, ?_⟩; have HO112 := A_ (Kd.R_lower ho0 (below_size (bW1 HB.out GE101.out))); replace BK101 := A_ (bkB BK101 hb); replace HB := A_ (below_step (bW1 HB.out GE101.out) hb); (try clear hb); (try clear ho0); obtain ⟨Ao36, co36, eo36⟩ := Kd.R_slice HO112.out; subst eo36; have p113 : 0 ≤ (a2 : Int) := oD; have q113 : a2 < (t110.length : Int) := oD; obtain ⟨ad113, e113, hx113_0⟩ := Kd.at_int (Kd.R_reads' HO112.out).2.2 a2 p113 q113; cases e113; replace p113 := eq_true p113; replace q113 := eq_true q113))
      go_ret2
      exact ⟨eQ, (bW1 HB.out GE101.out)⟩
   rw [if_pos c10] at H; have c10b0 : decide (x11_1 < (l3.length : Int)) = true := decide_eq_true c10; clear c10; by_cases c11 : 0 ≤ x11_1; rotate_left
   ·rw [if_neg c11] at H
    exact absurd H (by simp)
   rw [if_pos c11] at H; have c11b0 : decide (0 ≤ x11_1) = true := decide_eq_true c11; clear c11; by_cases c12 : (rd l3 x11_1) < 0
   ·rw [if_pos c12] at H
    have c12b0 : decide ((rd l3 x11_1) < 0) = true := decide_eq_true c12; clear c12; simp only [Option.some.injEq, Prod.mk.injEq] at H; obtain ⟨rfl, rfl⟩ := H
    try go_wp2
    replace BK101 := A_ (blk_drew BK101.out); replace HB := A_ (below_drew1 HB.out); have p103 : 0 ≤ (x11_1 : Int) := oD; have q103 : x11_1 < (l3.length : Int) := oD; obtain ⟨ad103, e103, hx103_0⟩ := Kd.at_int HR3.out x11_1 p103 q103; have hw103_0 := hx103_0
    cases e103
    replace hx103_0 := (HB.out.cell (World.block_lt_of_cell? w _ hx103_0)).trans hx103_0; replace p103 := eq_true p103; replace q103 := eq_true q103
    refine start_ (n := 40) (S := fun w' => w'.cell? (ad103.add (x11_1).toNat) = some (.int .i64 (rd l3 x11_1))) (ds := []) (mkB 40 0) (by kernel_rfl) rfl rfl ((pw_cell_below HB.out hw103_0)) (fun hHeld => ?_); refine with_tabW dropperref05_Isolates.tab7 dropperref05_Isolates.bits7 (fun HT_ HW_ => ?_)
    generalize wr.drew = w13 at BK101 HB hx103_0 hHeld ⊢; refine pr_ 0 (some 26) (mkB 40 1) HT_ ?_; refine pr_ 1 (some 27) (mkB 40 3) HT_ ?_; refine pr_ 2 (some 28) (mkB 40 7) HT_ ?_
    refine take_ (i := 3) (N := some 29) (v := ?_) (a' := ?_) (mkB 40 15) rfl rfl (take_ofW HT_.out HW_.out (by kernel_rfl)) (fun _ _ _ h => h) (Or.inl ⟨by rfl, ?_⟩) hHeld ?_ ?_
    rotate_left
    ·intro w' s0
     go_simp
     with_reducible rfl
    rotate_left
    ·simp only [Act.put, List.setIfInBounds_toArray, List.set_cons_zero, List.set_cons_succ, i64_w, i32_w]
     rfl
    refine pr_ 4 (some 30) (mkB 40 31) HT_ ?_; refine pr_ 5 (some 31) (mkB 40 63) HT_ ?_; refine pu_ 6 (some 32) (mkB 40 127) HT_ ?_; refine pu_ 7 (some 33) (mkB 40 255) HT_ ?_; refine pu_ 8 (some 34) (mkB 40 511) HT_ ?_; refine pu_ 9 (some 35) (mkB 40 1023) HT_ ?_; refine pu_ 10 (some 36) (mkB 40 2047) HT_ ?_; refine pu_ 11 (some 37) (mkB 40 4095) HT_ ?_; refine pu_ 12 (some 38) (mkB 40 8191) HT_ ?_; refine pu_ 13 (some 39) (mkB 40 16383) HT_ ?_; refine pr_ 14 (some 40) (mkB 40 32767) HT_ ?_; refine pr_ 15 (some 41) (mkB 40 65535) HT_ ?_; refine pu_ 16 (some 42) (mkB 40 131071) HT_ ?_; refine pu_ 17 (some 43) (mkB 40 262143) HT_ ?_; refine pu_ 18 (some 44) (mkB 40 524287) HT_ ?_; refine pu_ 19 (some 45) (mkB 40 1048575) HT_ ?_; refine pu_ 20 (some 46) (mkB 40 2097151) HT_ ?_; refine pu_ 21 (some 47) (mkB 40 4194303) HT_ ?_; refine pu_ 22 (some 48) (mkB 40 8388607) HT_ ?_; refine pr_ 23 (some 49) (mkB 40 16777215) HT_ ?_; refine pr_ 24 (some 50) (mkB 40 33554431) HT_ ?_; refine pu_ 25 (some 51) (mkB 40 67108863) HT_ ?_; refine pu_ 26 (some 52) (mkB 40 134217727) HT_ ?_; refine pu_ 27 (some 53) (mkB 40 268435455) HT_ ?_; refine pu_ 28 (some 54) (mkB 40 536870911) HT_ ?_; refine pu_ 29 (some 55) (mkB 40 1073741823) HT_ ?_; refine pu_ 30 (some 56) (mkB 40 2147483647) HT_ ?_; refine pu_ 31 (some 57) (mkB 40 4294967295) HT_ ?_; refine pu_ 32 (some 58) (mkB 40 8589934591) HT_ ?_; refine pu_ 33 (some 59) (mkB 40 17179869183) HT_ ?_; refine pu_ 34 (some 60) (mkB 40 34359738367) HT_ ?_
    refine pu_ 35 (some 61) (mkB 40 68719476735) HT_ ?_; refine pu_ 36 (some 62) (mkB 40 137438953471) HT_ ?_; refine pu_ 37 (some 63) (mkB 40 274877906943) HT_ ?_; refine pu_ 38 (some 64) (mkB 40 549755813887) HT_ ?_; refine pr_ 39 (some 65) (mkB 40 1099511627775) HT_ ?_
    refine done_ (done_of HT_.out (by kernel_rfl)) ?_
    try go_wp2
    go_ret2
    exact ⟨eQ, (bW1 HB.out GE101.out)⟩
   rw [if_neg c12] at H; have c12b0 : decide ((rd l3 x11_1) < 0) = false := decide_eq_false c12; clear c12; by_cases c14 : (rd l3 x11_1) ≥ (l0_1.length : Int)
   ·rw [if_pos c14] at H
    have c14b0 : decide ((l0_1.length : Int) ≤ (rd l3 x11_1)) = true := decide_eq_true c14; clear c14; simp only [Option.some.injEq, Prod.mk.injEq] at H; obtain ⟨rfl, rfl⟩ := H
    try go_wp2
    replace BK101 := A_ (blk_drew BK101.out); replace HB := A_ (below_drew1 HB.out); have p103 : 0 ≤ (x11_1 : Int) := oD; have q103 : x11_1 < (l3.length : Int) := oD; obtain ⟨ad103, e103, hx103_0⟩ := Kd.at_int HR3.out x11_1 p103 q103; have hw103_0 := hx103_0
    cases e103
    replace hx103_0 := (HB.out.cell (World.block_lt_of_cell? w _ hx103_0)).trans hx103_0; replace p103 := eq_true p103; replace q103 := eq_true q103; have p104 : 0 ≤ (x11_1 : Int) := oD; have q104 : x11_1 < (l3.length : Int) := oD; obtain ⟨ad104, e104, hx104_0⟩ := Kd.at_int HR3.out x11_1 p104 q104; have hw104_0 := hx104_0
    obtain rfl : ad103 = ad104 := (by injection e104)
    replace hx104_0 := (HB.out.cell (World.block_lt_of_cell? w _ hx104_0)).trans hx104_0; replace p104 := eq_true p104; replace q104 := eq_true q104
    refine start_ (n := 40) (S := fun w' => w'.cell? ⟨gb101, 0, none⟩ = some (.int .i64 a0_0) ∧ w'.cell? ⟨gb101, 1, none⟩ = some (.slice A0_1 l0_1.length c0_1) ∧ w'.cell? ⟨gb101, 2, none⟩ = some (.slice A0_2 l0_2.length c0_2) ∧ w'.cell? (ad103.add (x11_1).toNat) = some (.int .i64 (rd l3 x11_1)) ∧ w'.cell? (ad103.add (x11_1).toNat) = some (.int .i64 (rd l3 x11_1))) (ds := []) (mkB 40 0) (by kernel_rfl) rfl rfl ⟨(blk_cell BK101.out 0).trans rfl, (blk_cell BK101.out 1).trans rfl, (blk_cell BK101.out 2).trans rfl, (pw_cell_below HB.out hw103_0), (pw_cell_below HB.out hw104_0)⟩ (fun hHeld => ?_); refine with_tabW dropperref05_Isolates.tab7 dropperref05_Isolates.bits7 (fun HT_ HW_ => ?_)
    generalize wr.drew = w15 at BK101 HB hx103_0 hx104_0 hHeld ⊢; refine pr_ 0 (some 26) (mkB 40 1) HT_ ?_; refine pr_ 1 (some 27) (mkB 40 3) HT_ ?_; refine pr_ 2 (some 28) (mkB 40 7) HT_ ?_
    refine take_ (i := 3) (N := some 29) (v := ?_) (a' := ?_) (mkB 40 15) rfl rfl (take_ofW HT_.out HW_.out (by kernel_rfl)) (fun _ _ _ h => h) (Or.inl ⟨by rfl, ?_⟩) hHeld ?_ ?_
    rotate_left
    ·rintro w' ⟨s0, s1, s2, s3, s4⟩
     go_simp
     with_reducible rfl
    rotate_left
    ·simp only [Act.put, List.setIfInBounds_toArray, List.set_cons_zero, List.set_cons_succ, i64_w, i32_w]
     rfl
    refine pr_ 4 (some 30) (mkB 40 31) HT_ ?_; refine pr_ 5 (some 31) (mkB 40 63) HT_ ?_; refine pr_ 6 (some 32) (mkB 40 127) HT_ ?_; refine pr_ 7 (some 33) (mkB 40 255) HT_ ?_; refine pr_ 8 (some 34) (mkB 40 511) HT_ ?_; refine pr_ 10 (some 36) (mkB 40 1535) HT_ ?_
    refine take_ (i := 9) (N := some 35) (v := ?_) (a' := ?_) (mkB 40 2047) rfl rfl (take_ofW HT_.out HW_.out (by kernel_rfl)) (fun _ _ _ h => h) (Or.inl ⟨by rfl, ?_⟩) hHeld ?_ ?_
    rotate_left
    ·rintro w' ⟨s0, s1, s2, s3, s4⟩
     go_simp
     with_reducible rfl
    rotate_left
    ·simp only [Act.put, List.setIfInBounds_toArray, List.set_cons_zero, List.set_cons_succ, i64_w, i32_w]
     rfl
    refine take_ (i := 11) (N := some 37) (v := ?_) (a' := ?_) (mkB 40 4095) rfl rfl (take_ofW HT_.out HW_.out (by kernel_rfl)) (fun _ _ _ h => h) (Or.inl ⟨by rfl, ?_⟩) hHeld ?_ ?_
    rotate_left
    ·rintro w' ⟨s0, s1, s2, s3, s4⟩
     go_simp
     with_reducible rfl
    rotate_left
    ·simp only [Act.put, List.setIfInBounds_toArray, List.set_cons_zero, List.set_cons_succ, i64_w, i32_w]
     rfl
    refine pr_ 12 (some 38) (mkB 40 8191) HT_ ?_; refine pr_ 13 (some 39) (mkB 40 16383) HT_ ?_; refine pr_ 14 (some 40) (mkB 40 32767) HT_ ?_; refine pr_ 15 (some 41) (mkB 40 65535) HT_ ?_; refine pu_ 16 (some 42) (mkB 40 131071) HT_ ?_; refine pu_ 17 (some 43) (mkB 40 262143) HT_ ?_; refine pu_ 18 (some 44) (mkB 40 524287) HT_ ?_; refine pu_ 19 (some 45) (mkB 40 1048575) HT_ ?_; refine pu_ 20 (some 46) (mkB 40 2097151) HT_ ?_; refine pu_ 21 (some 47) (mkB 40 4194303) HT_ ?_; refine pu_ 22 (some 48) (mkB 40 8388607) HT_ ?_; refine pr_ 23 (some 49) (mkB 40 16777215) HT_ ?_; refine pr_ 24 (some 50) (mkB 40 33554431) HT_ ?_; refine pu_ 25 (some 51) (mkB 40 67108863) HT_ ?_; refine pu_ 26 (some 52) (mkB 40 134217727) HT_ ?_; refine pu_ 27 (some 53) (mkB 40 268435455) HT_ ?_; refine pu_ 28 (some 54) (mkB 40 536870911) HT_ ?_; refine pu_ 29 (some 55) (mkB 40 1073741823) HT_ ?_; refine pu_ 30 (some 56) (mkB 40 2147483647) HT_ ?_; refine pu_ 31 (some 57) (mkB 40 4294967295) HT_ ?_; refine pu_ 32 (some 58) (mkB 40 8589934591) HT_ ?_; refine pu_ 33 (some 59) (mkB 40 17179869183) HT_ ?_; refine pu_ 34 (some 60) (mkB 40 34359738367) HT_ ?_; refine pu_ 35 (some 61) (mkB 40 68719476735) HT_ ?_; refine pu_ 36 (some 62) (mkB 40 137438953471) HT_ ?_; refine pu_ 37 (some 63) (mkB 40 274877906943) HT_ ?_; refine pu_ 38 (some 64) (mkB 40 549755813887) HT_ ?_; refine pr_ 39 (some 65) (mkB 40 1099511627775) HT_ ?_
    refine done_ (done_of HT_.out (by kernel_rfl)) ?_
    try go_wp2
    go_ret2
    exact ⟨eQ, (bW1 HB.out GE101.out)⟩
   rw [if_neg c14] at H; have c14b0 : decide ((l0_1.length : Int) ≤ (rd l3 x11_1)) = false := decide_eq_false c14; clear c14; replace H := Option.bind_eq_some_iff.mp H; obtain ⟨t106, A160, H⟩ := H; (try dsimp only at H); have A16 := A_ A160; clear A160; by_cases c17 : t106 = true; rotate_left
   ·replace c17 := Bool.eq_false_iff.mpr c17
    subst c17; rw [if_neg (show ¬ (false = true) by decide)] at H; simp only [Option.some.injEq, Prod.mk.injEq] at H; obtain ⟨rfl, rfl⟩ := H
    try go_wp2
    replace BK101 := A_ (blk_drew BK101.out); replace HB := A_ (below_drew1 HB.out); have p103 : 0 ≤ (x11_1 : Int) := oD; have q103 : x11_1 < (l3.length : Int) := oD; obtain ⟨ad103, e103, hx103_0⟩ := Kd.at_int HR3.out x11_1 p103 q103; have hw103_0 := hx103_0
    cases e103
    replace hx103_0 := (HB.out.cell (World.block_lt_of_cell? w _ hx103_0)).trans hx103_0; replace p103 := eq_true p103; replace q103 := eq_true q103; have p104 : 0 ≤ (x11_1 : Int) := oD; have q104 : x11_1 < (l3.length : Int) := oD; obtain ⟨ad104, e104, hx104_0⟩ := Kd.at_int HR3.out x11_1 p104 q104; have hw104_0 := hx104_0
    obtain rfl : ad103 = ad104 := (by injection e104)
    replace hx104_0 := (HB.out.cell (World.block_lt_of_cell? w _ hx104_0)).trans hx104_0; replace p104 := eq_true p104; replace q104 := eq_true q104; have p105 : 0 ≤ (x11_1 : Int) := oD; have q105 : x11_1 < (l3.length : Int) := oD; obtain ⟨ad105, e105, hx105_0⟩ := Kd.at_int HR3.out x11_1 p105 q105; have hw105_0 := hx105_0
    obtain rfl : ad103 = ad105 := (by injection e105)
    replace hx105_0 := (HB.out.cell (World.block_lt_of_cell? w _ hx105_0)).trans hx105_0; replace p105 := eq_true p105; replace q105 := eq_true q105
    refine start_ (n := 40) (S := fun w' => w'.cell? ⟨gb101, 0, none⟩ = some (.int .i64 a0_0) ∧ w'.cell? ⟨gb101, 1, none⟩ = some (.slice A0_1 l0_1.length c0_1) ∧ w'.cell? ⟨gb101, 2, none⟩ = some (.slice A0_2 l0_2.length c0_2) ∧ w'.cell? (ad103.add (x11_1).toNat) = some (.int .i64 (rd l3 x11_1)) ∧ w'.cell? (ad103.add (x11_1).toNat) = some (.int .i64 (rd l3 x11_1)) ∧ w'.cell? (ad103.add (x11_1).toNat) = some (.int .i64 (rd l3 x11_1))) (ds := []) (mkB 40 0) (by kernel_rfl) rfl rfl ⟨(blk_cell BK101.out 0).trans rfl, (blk_cell BK101.out 1).trans rfl, (blk_cell BK101.out 2).trans rfl, (pw_cell_below HB.out hw103_0), (pw_cell_below HB.out hw104_0), (pw_cell_below HB.out hw105_0)⟩ (fun hHeld => ?_); refine with_tabW dropperref05_Isolates.tab7 dropperref05_Isolates.bits7 (fun HT_ HW_ => ?_)
    generalize wr.drew = w26 at BK101 HB hx103_0 hx104_0 hx105_0 hHeld ⊢; refine pr_ 0 (some 26) (mkB 40 1) HT_ ?_; refine pr_ 1 (some 27) (mkB 40 3) HT_ ?_; refine pr_ 2 (some 28) (mkB 40 7) HT_ ?_
    refine take_ (i := 3) (N := some 29) (v := ?_) (a' := ?_) (mkB 40 15) rfl rfl (take_ofW HT_.out HW_.out (by kernel_rfl)) (fun _ _ _ h => h) (Or.inl ⟨by rfl, ?_⟩) hHeld ?_ ?_
    rotate_left
    ·rintro w' ⟨s0, s1, s2, s3, s4, s5⟩
     go_simp
     with_reducible rfl
    rotate_left
    ·simp only [Act.put, List.setIfInBounds_toArray, List.set_cons_zero, List.set_cons_succ, i64_w, i32_w]
     rfl
    refine pr_ 4 (some 30) (mkB 40 31) HT_ ?_; refine pr_ 5 (some 31) (mkB 40 63) HT_ ?_; refine pr_ 6 (some 32) (mkB 40 127) HT_ ?_; refine pr_ 7 (some 33) (mkB 40 255) HT_ ?_; refine pr_ 8 (some 34) (mkB 40 511) HT_ ?_; refine pr_ 10 (some 36) (mkB 40 1535) HT_ ?_
    refine take_ (i := 9) (N := some 35) (v := ?_) (a' := ?_) (mkB 40 2047) rfl rfl (take_ofW HT_.out HW_.out (by kernel_rfl)) (fun _ _ _ h => h) (Or.inl ⟨by rfl, ?_⟩) hHeld ?_ ?_
    rotate_left
    ·rintro w' ⟨s0, s1, s2, s3, s4, s5⟩
     go_simp
     with_reducible rfl
    rotate_left
    ·simp only [Act.put, List.setIfInBounds_toArray, List.set_cons_zero, List.set_cons_succ, i64_w, i32_w]
     rfl
    refine take_ (i := 11) (N := some 37) (v := ?_) (a' := ?_) (mkB 40 4095) rfl rfl (take_ofW HT_.out HW_.out (by kernel_rfl)) (fun _ _ _ h => h) (Or.inl ⟨by rfl, ?_⟩) hHeld ?_ ?_
    rotate_left
    ·rintro w' ⟨s0, s1, s2, s3, s4, s5⟩
     go_simp
     with_reducible rfl
    rotate_left
    ·simp only [Act.put, List.setIfInBounds_toArray, List.set_cons_zero, List.set_cons_succ, i64_w, i32_w]
     rfl
    refine pr_ 12 (some 38) (mkB 40 8191) HT_ ?_; refine pr_ 13 (some 39) (mkB 40 16383) HT_ ?_; refine pr_ 14 (some 40) (mkB 40 32767) HT_ ?_; refine pr_ 15 (some 41) (mkB 40 65535) HT_ ?_; refine pr_ 16 (some 42) (mkB 40 131071) HT_ ?_; refine pr_ 17 (some 43) (mkB 40 262143) HT_ ?_; refine pr_ 18 (some 44) (mkB 40 524287) HT_ ?_; refine pr_ 19 (some 45) (mkB 40 1048575) HT_ ?_
    refine take_ (i := 20) (N := some 46) (v := ?_) (a' := ?_) (mkB 40 2097151) rfl rfl (take_ofW HT_.out HW_.out (by kernel_rfl)) (fun _ _ _ h => h) (Or.inl ⟨by rfl, ?_⟩) hHeld ?_ ?_
    rotate_left
    ·rintro w' ⟨s0, s1, s2, s3, s4, s5⟩
     go_simp
     with_reducible rfl
    rotate_left
    ·simp only [Act.put, List.setIfInBounds_toArray, List.set_cons_zero, List.set_cons_succ, i64_w, i32_w]
     rfl
    refine one_ (i := 21) (N := some 47) (mkB 40 4194303) rfl rfl (one_of HT_.out (by kernel_rfl)) (by decide) (fun K hK => ?_)
    refine goes_ Tryd.func30 (by kernel_rfl) rfl #[.int .i64 a1, .int .i64 (rd l3 x11_1)] (by rfl) rfl rfl (by (try simp only [List.map_toArray, List.map_cons, List.map_nil]); first | done | rfl | (simp only [List.length_drop, List.length_take]; rfl)) ?_
    with_reducible refine (dropperref05_closed.calls a1 (rd l3 x11_1) false _ A16.out).mono ?_
    rintro e w' ⟨rfl, ⟨nd, rfl⟩⟩
    refine ⟨_, rfl, ?_⟩
    refine hK.out _ _ ⟨(blk_cell BK101.out 0).trans rfl, (blk_cell BK101.out 1).trans rfl, (blk_cell BK101.out 2).trans rfl, (pw_cell_below HB.out hw103_0), (pw_cell_below HB.out hw104_0), (pw_cell_below HB.out hw105_0)⟩ (fun hHeld => ?_)
    clear hK K
    refine norm_ (a' := ?_) ?_ ?_
    rotate_left
    ·show Act.put _ (some 47) _ = _
     simp only [Act.put, List.setIfInBounds_toArray, List.set_cons_zero, List.set_cons_succ, i64_w, i32_w]
     rfl
    refine pr_ 22 (some 48) (mkB 40 8388607) HT_ ?_; refine pr_ 23 (some 49) (mkB 40 16777215) HT_ ?_; refine pr_ 24 (some 50) (mkB 40 33554431) HT_ ?_; refine pu_ 25 (some 51) (mkB 40 67108863) HT_ ?_; refine pu_ 26 (some 52) (mkB 40 134217727) HT_ ?_; refine pu_ 27 (some 53) (mkB 40 268435455) HT_ ?_; refine pu_ 28 (some 54) (mkB 40 536870911) HT_ ?_; refine pu_ 29 (some 55) (mkB 40 1073741823) HT_ ?_; refine pu_ 30 (some 56) (mkB 40 2147483647) HT_ ?_; refine pu_ 31 (some 57) (mkB 40 4294967295) HT_ ?_; refine pu_ 32 (some 58) (mkB 40 8589934591) HT_ ?_; refine pu_ 33 (some 59) (mkB 40 17179869183) HT_ ?_; refine pu_ 34 (some 60) (mkB 40 34359738367) HT_ ?_; refine pu_ 35 (some 61) (mkB 40 68719476735) HT_ ?_; refine pu_ 36 (some 62) (mkB 40 137438953471) HT_ ?_; refine pu_ 37 (some 63) (mkB 40 274877906943) HT_ ?_; refine pu_ 38 (some 64) (mkB 40 549755813887) HT_ ?_; refine pr_ 39 (some 65) (mkB 40 1099511627775) HT_ ?_
    refine done_ (done_of HT_.out (by kernel_rfl)) ?_
    try go_wp2
    go_ret2
    exact ⟨eQ, (bW1 HB.out GE101.out)⟩
   subst c17; rw [if_pos rfl] at H; by_cases c18 : x11_1 > 0; rotate_left
   ·rw [if_neg c18] at H
    have c18b0 : decide (0 < x11_1) = false := decide_eq_false c18; clear c18; have H' := A_ H; clear H
    try go_wp2
    replace BK101 := A_ (blk_drew BK101.out); replace HB := A_ (below_drew1 HB.out); have p103 : 0 ≤ (x11_1 : Int) := oD; have q103 : x11_1 < (l3.length : Int) := oD; obtain ⟨ad103, e103, hx103_0⟩ := Kd.at_int HR3.out x11_1 p103 q103; have hw103_0 := hx103_0
    cases e103
    replace hx103_0 := (HB.out.cell (World.block_lt_of_cell? w _ hx103_0)).trans hx103_0; replace p103 := eq_true p103; replace q103 := eq_true q103; have p104 : 0 ≤ (x11_1 : Int) := oD; have q104 : x11_1 < (l3.length : Int) := oD; obtain ⟨ad104, e104, hx104_0⟩ := Kd.at_int HR3.out x11_1 p104 q104; have hw104_0 := hx104_0
    obtain rfl : ad103 = ad104 := (by injection e104)
    replace hx104_0 := (HB.out.cell (World.block_lt_of_cell? w _ hx104_0)).trans hx104_0; replace p104 := eq_true p104; replace q104 := eq_true q104; have p105 : 0 ≤ (x11_1 : Int) := oD; have q105 : x11_1 < (l3.length : Int) := oD; obtain ⟨ad105, e105, hx105_0⟩ := Kd.at_int HR3.out x11_1 p105 q105; have hw105_0 := hx105_0
    obtain rfl : ad103 = ad105 := (by injection e105)
    replace hx105_0 := (HB.out.cell (World.block_lt_of_cell? w _ hx105_0)).trans hx105_0; replace p105 := eq_true p105; replace q105 := eq_true q105
    refine start_ (n := 40) (S := fun w' => w'.cell? ⟨gb101, 0, none⟩ = some (.int .i64 a0_0) ∧ w'.cell? ⟨gb101, 1, none⟩ = some (.slice A0_1 l0_1.length c0_1) ∧ w'.cell? ⟨gb101, 2, none⟩ = some (.slice A0_2 l0_2.length c0_2) ∧ w'.cell? (ad103.add (x11_1).toNat) = some (.int .i64 (rd l3 x11_1)) ∧ w'.cell? (ad103.add (x11_1).toNat) = some (.int .i64 (rd l3 x11_1)) ∧ w'.cell? (ad103.add (x11_1).toNat) = some (.int .i64 (rd l3 x11_1))) (ds := []) (mkB 40 0) (by kernel_rfl) rfl rfl ⟨(blk_cell BK101.out 0).trans rfl, (blk_cell BK101.out 1).trans rfl, (blk_cell BK101.out 2).trans rfl, (pw_cell_below HB.out hw103_0), (pw_cell_below HB.out hw104_0), (pw_cell_below HB.out hw105_0)⟩ (fun hHeld => ?_); refine with_tabW dropperref05_Isolates.tab7 dropperref05_Isolates.bits7 (fun HT_ HW_ => ?_)
    generalize wr.drew = w25 at BK101 HB hx103_0 hx104_0 hx105_0 hHeld ⊢; refine pr_ 0 (some 26) (mkB 40 1) HT_ ?_; refine pr_ 1 (some 27) (mkB 40 3) HT_ ?_; refine pr_ 2 (some 28) (mkB 40 7) HT_ ?_
    refine take_ (i := 3) (N := some 29) (v := ?_) (a' := ?_) (mkB 40 15) rfl rfl (take_ofW HT_.out HW_.out (by kernel_rfl)) (fun _ _ _ h => h) (Or.inl ⟨by rfl, ?_⟩) hHeld ?_ ?_
    rotate_left
    ·rintro w' ⟨s0, s1, s2, s3, s4, s5⟩
     go_simp
     with_reducible rfl
    rotate_left
    ·simp only [Act.put, List.setIfInBounds_toArray, List.set_cons_zero, List.set_cons_succ, i64_w, i32_w]
     rfl
    refine pr_ 4 (some 30) (mkB 40 31) HT_ ?_; refine pr_ 5 (some 31) (mkB 40 63) HT_ ?_; refine pr_ 6 (some 32) (mkB 40 127) HT_ ?_; refine pr_ 7 (some 33) (mkB 40 255) HT_ ?_; refine pr_ 8 (some 34) (mkB 40 511) HT_ ?_; refine pr_ 10 (some 36) (mkB 40 1535) HT_ ?_
    refine take_ (i := 9) (N := some 35) (v := ?_) (a' := ?_) (mkB 40 2047) rfl rfl (take_ofW HT_.out HW_.out (by kernel_rfl)) (fun _ _ _ h => h) (Or.inl ⟨by rfl, ?_⟩) hHeld ?_ ?_
    rotate_left
    ·rintro w' ⟨s0, s1, s2, s3, s4, s5⟩
     go_simp
     with_reducible rfl
    rotate_left
    ·simp only [Act.put, List.setIfInBounds_toArray, List.set_cons_zero, List.set_cons_succ, i64_w, i32_w]
     rfl
    refine take_ (i := 11) (N := some 37) (v := ?_) (a' := ?_) (mkB 40 4095) rfl rfl (take_ofW HT_.out HW_.out (by kernel_rfl)) (fun _ _ _ h => h) (Or.inl ⟨by rfl, ?_⟩) hHeld ?_ ?_
    rotate_left
    ·rintro w' ⟨s0, s1, s2, s3, s4, s5⟩
     go_simp
     with_reducible rfl
    rotate_left
    ·simp only [Act.put, List.setIfInBounds_toArray, List.set_cons_zero, List.set_cons_succ, i64_w, i32_w]
     rfl
    refine pr_ 12 (some 38) (mkB 40 8191) HT_ ?_; refine pr_ 13 (some 39) (mkB 40 16383) HT_ ?_; refine pr_ 14 (some 40) (mkB 40 32767) HT_ ?_; refine pr_ 15 (some 41) (mkB 40 65535) HT_ ?_; refine pr_ 16 (some 42) (mkB 40 131071) HT_ ?_; refine pr_ 17 (some 43) (mkB 40 262143) HT_ ?_; refine pr_ 18 (some 44) (mkB 40 524287) HT_ ?_; refine pr_ 19 (some 45) (mkB 40 1048575) HT_ ?_
    refine take_ (i := 20) (N := some 46) (v := ?_) (a' := ?_) (mkB 40 2097151) rfl rfl (take_ofW HT_.out HW_.out (by kernel_rfl)) (fun _ _ _ h => h) (Or.inl ⟨by rfl, ?_⟩) hHeld ?_ ?_
    rotate_left
    ·rintro w' ⟨s0, s1, s2, s3, s4, s5⟩
     go_simp
     with_reducible rfl
    rotate_left
    ·simp only [Act.put, List.setIfInBounds_toArray, List.set_cons_zero, List.set_cons_succ, i64_w, i32_w]
     rfl
    refine one_ (i := 21) (N := some 47) (mkB 40 4194303) rfl rfl (one_of HT_.out (by kernel_rfl)) (by decide) (fun K hK => ?_)
    refine goes_ Tryd.func30 (by kernel_rfl) rfl #[.int .i64 a1, .int .i64 (rd l3 x11_1)] (by rfl) rfl rfl (by (try simp only [List.map_toArray, List.map_cons, List.map_nil]); first | done | rfl | (simp only [List.length_drop, List.length_take]; rfl)) ?_
    with_reducible refine (dropperref05_closed.calls a1 (rd l3 x11_1) true _ A16.out).mono ?_
    rintro e w' ⟨rfl, ⟨nd, rfl⟩⟩
    refine ⟨_, rfl, ?_⟩
    refine hK.out _ _ ⟨(blk_cell BK101.out 0).trans rfl, (blk_cell BK101.out 1).trans rfl, (blk_cell BK101.out 2).trans rfl, (pw_cell_below HB.out hw103_0), (pw_cell_below HB.out hw104_0), (pw_cell_below HB.out hw105_0)⟩ (fun hHeld => ?_)
    clear hK K
    refine norm_ (a' := ?_) ?_ ?_
    rotate_left
    ·show Act.put _ (some 47) _ = _
     simp only [Act.put, List.setIfInBounds_toArray, List.set_cons_zero, List.set_cons_succ, i64_w, i32_w]
     rfl
    refine pr_ 22 (some 48) (mkB 40 8388607) HT_ ?_; refine pr_ 23 (some 49) (mkB 40 16777215) HT_ ?_; refine pr_ 24 (some 50) (mkB 40 33554431) HT_ ?_; refine pr_ 25 (some 51) (mkB 40 67108863) HT_ ?_; refine pr_ 26 (some 52) (mkB 40 134217727) HT_ ?_; refine pr_ 27 (some 53) (mkB 40 268435455) HT_ ?_; refine pu_ 28 (some 54) (mkB 40 536870911) HT_ ?_; refine pu_ 29 (some 55) (mkB 40 1073741823) HT_ ?_; refine pu_ 30 (some 56) (mkB 40 2147483647) HT_ ?_; refine pu_ 31 (some 57) (mkB 40 4294967295) HT_ ?_; refine pu_ 32 (some 58) (mkB 40 8589934591) HT_ ?_; refine pu_ 33 (some 59) (mkB 40 17179869183) HT_ ?_; refine pu_ 34 (some 60) (mkB 40 34359738367) HT_ ?_; refine pu_ 35 (some 61) (mkB 40 68719476735) HT_ ?_; refine pu_ 36 (some 62) (mkB 40 137438953471) HT_ ?_; refine pu_ 37 (some 63) (mkB 40 274877906943) HT_ ?_; refine pr_ 38 (some 64) (mkB 40 549755813887) HT_ ?_; refine pr_ 39 (some 65) (mkB 40 1099511627775) HT_ ?_
    refine done_ (done_of HT_.out (by kernel_rfl)) ?_
    try go_wp2
    go_roundg k1
    case measure => have := HK1.out; omega
    case rel => exact ⟨(wrap64 (x11_1 + 1)), eS, H', ⟨by have := HK1.out; omega⟩, ⟨bkU BK101⟩, ⟨(bW1 HB.out GE101.out)⟩⟩
   rw [if_pos c18] at H; have c18b0 : decide (0 < x11_1) = true := decide_eq_true c18; clear c18; obtain ⟨ji19, hji19⟩ : ∃ j_ : Int, (wrap64 (x11_1 - 1)) = j_ := ⟨_, rfl⟩
   replace H : (if 0 ≤ (ji19) then (if (ji19) < (l3.length : Int) then (if (rd l3 x11_1) ≤ (rd l3 (ji19)) then (some (false, 0)) else (dropperref05_Isolates.l0 k1 a1 a2 l3 (wrap64 (x11_1 + 1)) a0_0 l0_1 l0_2)) else (none)) else (none)) = some (r1, r2) := by first | (rw [hji19] at H; exact H) | (simp only [hji19] at H ⊢; exact H)
   (try rw [hji19] at A16)
   have hji19w : (IntKind.i64.wrap (x11_1 - 1)) = ji19 := (i64_w _).trans hji19; by_cases c20 : 0 ≤ (ji19); rotate_left
   ·rw [if_neg c20] at H
    exact absurd H (by simp)
   rw [if_pos c20] at H; have c20b0 : decide (0 ≤ (ji19)) = true := decide_eq_true c20; clear c20; by_cases c21 : (ji19) < (l3.length : Int); rotate_left
   ·rw [if_neg c21] at H
    exact absurd H (by simp)
   rw [if_pos c21] at H; have c21b0 : decide ((ji19) < (l3.length : Int)) = true := decide_eq_true c21; clear c21; by_cases c22 : (rd l3 x11_1) ≤ (rd l3 (ji19)); rotate_left
   ·rw [if_neg c22] at H
    have c22b0 : decide ((rd l3 x11_1) ≤ (rd l3 (ji19))) = false := decide_eq_false c22; clear c22; have H' := A_ H; clear H
    try go_wp2
    replace BK101 := A_ (blk_drew BK101.out); replace HB := A_ (below_drew1 HB.out); have p103 : 0 ≤ (x11_1 : Int) := oD; have q103 : x11_1 < (l3.length : Int) := oD; obtain ⟨ad103, e103, hx103_0⟩ := Kd.at_int HR3.out x11_1 p103 q103; have hw103_0 := hx103_0
    cases e103
    replace hx103_0 := (HB.out.cell (World.block_lt_of_cell? w _ hx103_0)).trans hx103_0; replace p103 := eq_true p103; replace q103 := eq_true q103; have p104 : 0 ≤ (x11_1 : Int) := oD; have q104 : x11_1 < (l3.length : Int) := oD; obtain ⟨ad104, e104, hx104_0⟩ := Kd.at_int HR3.out x11_1 p104 q104; have hw104_0 := hx104_0
    obtain rfl : ad103 = ad104 := (by injection e104)
    replace hx104_0 := (HB.out.cell (World.block_lt_of_cell? w _ hx104_0)).trans hx104_0; replace p104 := eq_true p104; replace q104 := eq_true q104; have p105 : 0 ≤ (x11_1 : Int) := oD; have q105 : x11_1 < (l3.length : Int) := oD; obtain ⟨ad105, e105, hx105_0⟩ := Kd.at_int HR3.out x11_1 p105 q105; have hw105_0 := hx105_0
    obtain rfl : ad103 = ad105 := (by injection e105)
    replace hx105_0 := (HB.out.cell (World.block_lt_of_cell? w _ hx105_0)).trans hx105_0; replace p105 := eq_true p105; replace q105 := eq_true q105; have p107 : 0 ≤ (x11_1 : Int) := oD; have q107 : x11_1 < (l3.length : Int) := oD; obtain ⟨ad107, e107, hx107_0⟩ := Kd.at_int HR3.out x11_1 p107 q107; have hw107_0 := hx107_0
    obtain rfl : ad103 = ad107 := (by injection e107)
    replace hx107_0 := (HB.out.cell (World.block_lt_of_cell? w _ hx107_0)).trans hx107_0; replace p107 := eq_true p107; replace q107 := eq_true q107; have p108 : 0 ≤ ((ji19) : Int) := oD; have q108 : (ji19) < (l3.length : Int) := oD; obtain ⟨ad108, e108, hx108_0⟩ := Kd.at_int HR3.out (ji19) p108 q108; have hw108_0 := hx108_0
    obtain rfl : ad103 = ad108 := (by injection e108)
    replace hx108_0 := (HB.out.cell (World.block_lt_of_cell? w _ hx108_0)).trans hx108_0; replace p108 := eq_true p108; replace q108 := eq_true q108
    refine start_ (n := 40) (S := fun w' => w'.cell? ⟨gb101, 0, none⟩ = some (.int .i64 a0_0) ∧ w'.cell? ⟨gb101, 1, none⟩ = some (.slice A0_1 l0_1.length c0_1) ∧ w'.cell? ⟨gb101, 2, none⟩ = some (.slice A0_2 l0_2.length c0_2) ∧ w'.cell? (ad103.add (x11_1).toNat) = some (.int .i64 (rd l3 x11_1)) ∧ w'.cell? (ad103.add (x11_1).toNat) = some (.int .i64 (rd l3 x11_1)) ∧ w'.cell? (ad103.add (x11_1).toNat) = some (.int .i64 (rd l3 x11_1)) ∧ w'.cell? (ad103.add (x11_1).toNat) = some (.int .i64 (rd l3 x11_1)) ∧ w'.cell? (ad103.add ((ji19)).toNat) = some (.int .i64 (rd l3 (ji19)))) (ds := []) (mkB 40 0) (by kernel_rfl) rfl rfl ⟨(blk_cell BK101.out 0).trans rfl, (blk_cell BK101.out 1).trans rfl, (blk_cell BK101.out 2).trans rfl, (pw_cell_below HB.out hw103_0), (pw_cell_below HB.out hw104_0), (pw_cell_below HB.out hw105_0), (pw_cell_below HB.out hw107_0), (pw_cell_below HB.out hw108_0)⟩ (fun hHeld => ?_); refine with_tabW dropperref05_Isolates.tab7 dropperref05_Isolates.bits7 (fun HT_ HW_ => ?_)
    generalize wr.drew = w24 at BK101 HB hx103_0 hx104_0 hx105_0 hx107_0 hx108_0 hHeld ⊢; refine pr_ 0 (some 26) (mkB 40 1) HT_ ?_; refine pr_ 1 (some 27) (mkB 40 3) HT_ ?_; refine pr_ 2 (some 28) (mkB 40 7) HT_ ?_
    refine take_ (i := 3) (N := some 29) (v := ?_) (a' := ?_) (mkB 40 15) rfl rfl (take_ofW HT_.out HW_.out (by kernel_rfl)) (fun _ _ _ h => h) (Or.inl ⟨by rfl, ?_⟩) hHeld ?_ ?_
    rotate_left
    ·rintro w' ⟨s0, s1, s2, s3, s4, s5, s6, s7⟩
     go_simp
     with_reducible rfl
    rotate_left
    ·simp only [Act.put, List.setIfInBounds_toArray, List.set_cons_zero, List.set_cons_succ, i64_w, i32_w]
     rfl
    refine pr_ 4 (some 30) (mkB 40 31) HT_ ?_; refine pr_ 5 (some 31) (mkB 40 63) HT_ ?_; refine pr_ 6 (some 32) (mkB 40 127) HT_ ?_; refine pr_ 7 (some 33) (mkB 40 255) HT_ ?_; refine pr_ 8 (some 34) (mkB 40 511) HT_ ?_; refine pr_ 10 (some 36) (mkB 40 1535) HT_ ?_
    refine take_ (i := 9) (N := some 35) (v := ?_) (a' := ?_) (mkB 40 2047) rfl rfl (take_ofW HT_.out HW_.out (by kernel_rfl)) (fun _ _ _ h => h) (Or.inl ⟨by rfl, ?_⟩) hHeld ?_ ?_
    rotate_left
    ·rintro w' ⟨s0, s1, s2, s3, s4, s5, s6, s7⟩
     go_simp
     with_reducible rfl
    rotate_left
    ·simp only [Act.put, List.setIfInBounds_toArray, List.set_cons_zero, List.set_cons_succ, i64_w, i32_w]
     rfl
    refine take_ (i := 11) (N := some 37) (v := ?_) (a' := ?_) (mkB 40 4095) rfl rfl (take_ofW HT_.out HW_.out (by kernel_rfl)) (fun _ _ _ h => h) (Or.inl ⟨by rfl, ?_⟩) hHeld ?_ ?_
    rotate_left
    ·rintro w' ⟨s0, s1, s2, s3, s4, s5, s6, s7⟩
     go_simp
     with_reducible rfl
    rotate_left
    ·simp only [Act.put, List.setIfInBounds_toArray, List.set_cons_zero, List.set_cons_succ, i64_w, i32_w]
     rfl
    refine pr_ 12 (some 38) (mkB 40 8191) HT_ ?_; refine pr_ 13 (some 39) (mkB 40 16383) HT_ ?_; refine pr_ 14 (some 40) (mkB 40 32767) HT_ ?_; refine pr_ 15 (some 41) (mkB 40 65535) HT_ ?_; refine pr_ 16 (some 42) (mkB 40 131071) HT_ ?_; refine pr_ 17 (some 43) (mkB 40 262143) HT_ ?_; refine pr_ 18 (some 44) (mkB 40 524287) HT_ ?_; refine pr_ 19 (some 45) (mkB 40 1048575) HT_ ?_
    refine take_ (i := 20) (N := some 46) (v := ?_) (a' := ?_) (mkB 40 2097151) rfl rfl (take_ofW HT_.out HW_.out (by kernel_rfl)) (fun _ _ _ h => h) (Or.inl ⟨by rfl, ?_⟩) hHeld ?_ ?_
    rotate_left
    ·rintro w' ⟨s0, s1, s2, s3, s4, s5, s6, s7⟩
     go_simp
     with_reducible rfl
    rotate_left
    ·simp only [Act.put, List.setIfInBounds_toArray, List.set_cons_zero, List.set_cons_succ, i64_w, i32_w]
     rfl
    refine one_ (i := 21) (N := some 47) (mkB 40 4194303) rfl rfl (one_of HT_.out (by kernel_rfl)) (by decide) (fun K hK => ?_)
    refine goes_ Tryd.func30 (by kernel_rfl) rfl #[.int .i64 a1, .int .i64 (rd l3 x11_1)] (by rfl) rfl rfl (by (try simp only [List.map_toArray, List.map_cons, List.map_nil]); first | done | rfl | (simp only [List.length_drop, List.length_take]; rfl)) ?_
    with_reducible refine (dropperref05_closed.calls a1 (rd l3 x11_1) true _ A16.out).mono ?_
    rintro e w' ⟨rfl, ⟨nd, rfl⟩⟩
    refine ⟨_, rfl, ?_⟩
    refine hK.out _ _ ⟨(blk_cell BK101.out 0).trans rfl, (blk_cell BK101.out 1).trans rfl, (blk_cell BK101.out 2).trans rfl, (pw_cell_below HB.out hw103_0), (pw_cell_below HB.out hw104_0), (pw_cell_below HB.out hw105_0), (pw_cell_below HB.out hw107_0), (pw_cell_below HB.out hw108_0)⟩ (fun hHeld => ?_)
    clear hK K
    refine norm_ (a' := ?_) ?_ ?_
    rotate_left
    ·show Act.put _ (some 47) _ = _
     simp only [Act.put, List.setIfInBounds_toArray, List.set_cons_zero, List.set_cons_succ, i64_w, i32_w]
     rfl
    refine pr_ 22 (some 48) (mkB 40 8388607) HT_ ?_; refine pr_ 23 (some 49) (mkB 40 16777215) HT_ ?_; refine pr_ 24 (some 50) (mkB 40 33554431) HT_ ?_; refine pr_ 25 (some 51) (mkB 40 67108863) HT_ ?_; refine pr_ 26 (some 52) (mkB 40 134217727) HT_ ?_; refine pr_ 27 (some 53) (mkB 40 268435455) HT_ ?_; refine pr_ 28 (some 54) (mkB 40 536870911) HT_ ?_; refine pr_ 29 (some 55) (mkB 40 1073741823) HT_ ?_; refine pr_ 30 (some 56) (mkB 40 2147483647) HT_ ?_; refine pr_ 32 (some 58) (mkB 40 6442450943) HT_ ?_; refine pr_ 33 (some 59) (mkB 40 15032385535) HT_ ?_; refine pr_ 34 (some 60) (mkB 40 32212254719) HT_ ?_; refine pr_ 35 (some 61) (mkB 40 66571993087) HT_ ?_
    refine take_ (i := 31) (N := some 57) (v := ?_) (a' := ?_) (mkB 40 68719476735) rfl rfl (take_ofW HT_.out HW_.out (by kernel_rfl)) (fun _ _ _ h => h) (Or.inl ⟨by rfl, ?_⟩) hHeld ?_ ?_
    rotate_left
    ·rintro w' ⟨s0, s1, s2, s3, s4, s5, s6, s7⟩
     go_simp
     with_reducible rfl
    rotate_left
    ·simp only [Act.put, List.setIfInBounds_toArray, List.set_cons_zero, List.set_cons_succ, i64_w, i32_w]
     rfl
    refine take_ (i := 36) (N := some 62) (v := ?_) (a' := ?_) (mkB 40 137438953471) rfl rfl (take_ofW HT_.out HW_.out (by kernel_rfl)) (fun _ _ _ h => h) (Or.inl ⟨by rfl, ?_⟩) hHeld ?_ ?_
    rotate_left
    ·rintro w' ⟨s0, s1, s2, s3, s4, s5, s6, s7⟩
     go_simp
     with_reducible rfl
    rotate_left
    ·simp only [Act.put, List.setIfInBounds_toArray, List.set_cons_zero, List.set_cons_succ, i64_w, i32_w]
     rfl
    refine pr_ 37 (some 63) (mkB 40 274877906943) HT_ ?_; refine pr_ 38 (some 64) (mkB 40 549755813887) HT_ ?_; refine pr_ 39 (some 65) (mkB 40 1099511627775) HT_ ?_
    refine done_ (done_of HT_.out (by kernel_rfl)) ?_
    try go_wp2
    go_roundg k1
    case measure => have := HK1.out; omega
    case rel => exact ⟨(wrap64 (x11_1 + 1)), eS, H', ⟨by have := HK1.out; omega⟩, ⟨bkU BK101⟩, ⟨(bW1 HB.out GE101.out)⟩⟩
   rw [if_pos c22] at H; have c22b0 : decide ((rd l3 x11_1) ≤ (rd l3 (ji19))) = true := decide_eq_true c22; clear c22; simp only [Option.some.injEq, Prod.mk.injEq] at H; obtain ⟨rfl, rfl⟩ := H
   try go_wp2
   replace BK101 := A_ (blk_drew BK101.out); replace HB := A_ (below_drew1 HB.out); have p103 : 0 ≤ (x11_1 : Int) := oD; have q103 : x11_1 < (l3.length : Int) := oD; obtain ⟨ad103, e103, hx103_0⟩ := Kd.at_int HR3.out x11_1 p103 q103; have hw103_0 := hx103_0
   cases e103
   replace hx103_0 := (HB.out.cell (World.block_lt_of_cell? w _ hx103_0)).trans hx103_0; replace p103 := eq_true p103; replace q103 := eq_true q103; have p104 : 0 ≤ (x11_1 : Int) := oD; have q104 : x11_1 < (l3.length : Int) := oD; obtain ⟨ad104, e104, hx104_0⟩ := Kd.at_int HR3.out x11_1 p104 q104; have hw104_0 := hx104_0
   obtain rfl : ad103 = ad104 := (by injection e104)
   replace hx104_0 := (HB.out.cell (World.block_lt_of_cell? w _ hx104_0)).trans hx104_0; replace p104 := eq_true p104; replace q104 := eq_true q104; have p105 : 0 ≤ (x11_1 : Int) := oD; have q105 : x11_1 < (l3.length : Int) := oD; obtain ⟨ad105, e105, hx105_0⟩ := Kd.at_int HR3.out x11_1 p105 q105; have hw105_0 := hx105_0
   obtain rfl : ad103 = ad105 := (by injection e105)
   replace hx105_0 := (HB.out.cell (World.block_lt_of_cell? w _ hx105_0)).trans hx105_0; replace p105 := eq_true p105; replace q105 := eq_true q105; have p107 : 0 ≤ (x11_1 : Int) := oD; have q107 : x11_1 < (l3.length : Int) := oD; obtain ⟨ad107, e107, hx107_0⟩ := Kd.at_int HR3.out x11_1 p107 q107; have hw107_0 := hx107_0
   obtain rfl : ad103 = ad107 := (by injection e107)
   replace hx107_0 := (HB.out.cell (World.block_lt_of_cell? w _ hx107_0)).trans hx107_0; replace p107 := eq_true p107; replace q107 := eq_true q107; have p108 : 0 ≤ ((ji19) : Int) := oD; have q108 : (ji19) < (l3.length : Int) := oD; obtain ⟨ad108, e108, hx108_0⟩ := Kd.at_int HR3.out (ji19) p108 q108; have hw108_0 := hx108_0
   obtain rfl : ad103 = ad108 := (by injection e108)
   replace hx108_0 := (HB.out.cell (World.block_lt_of_cell? w _ hx108_0)).trans hx108_0; replace p108 := eq_true p108; replace q108 := eq_true q108
   refine start_ (n := 40) (S := fun w' => w'.cell? ⟨gb101, 0, none⟩ = some (.int .i64 a0_0) ∧ w'.cell? ⟨gb101, 1, none⟩ = some (.slice A0_1 l0_1.length c0_1) ∧ w'.cell? ⟨gb101, 2, none⟩ = some (.slice A0_2 l0_2.length c0_2) ∧ w'.cell? (ad103.add (x11_1).toNat) = some (.int .i64 (rd l3 x11_1)) ∧ w'.cell? (ad103.add (x11_1).toNat) = some (.int .i64 (rd l3 x11_1)) ∧ w'.cell? (ad103.add (x11_1).toNat) = some (.int .i64 (rd l3 x11_1)) ∧ w'.cell? (ad103.add (x11_1).toNat) = some (.int .i64 (rd l3 x11_1)) ∧ w'.cell? (ad103.add ((ji19)).toNat) = some (.int .i64 (rd l3 (ji19)))) (ds := []) (mkB 40 0) (by kernel_rfl) rfl rfl ⟨(blk_cell BK101.out 0).trans rfl, (blk_cell BK101.out 1).trans rfl, (blk_cell BK101.out 2).trans rfl, (pw_cell_below HB.out hw103_0), (pw_cell_below HB.out hw104_0), (pw_cell_below HB.out hw105_0), (pw_cell_below HB.out hw107_0), (pw_cell_below HB.out hw108_0)⟩ (fun hHeld => ?_); refine with_tabW dropperref05_Isolates.tab7 dropperref05_Isolates.bits7 (fun HT_ HW_ => ?_)
   generalize wr.drew = w23 at BK101 HB hx103_0 hx104_0 hx105_0 hx107_0 hx108_0 hHeld ⊢; refine pr_ 0 (some 26) (mkB 40 1) HT_ ?_; refine pr_ 1 (some 27) (mkB 40 3) HT_ ?_; refine pr_ 2 (some 28) (mkB 40 7) HT_ ?_
   refine take_ (i := 3) (N := some 29) (v := ?_) (a' := ?_) (mkB 40 15) rfl rfl (take_ofW HT_.out HW_.out (by kernel_rfl)) (fun _ _ _ h => h) (Or.inl ⟨by rfl, ?_⟩) hHeld ?_ ?_
   rotate_left
   ·rintro w' ⟨s0, s1, s2, s3, s4, s5, s6, s7⟩
    go_simp
    with_reducible rfl
   rotate_left
   ·simp only [Act.put, List.setIfInBounds_toArray, List.set_cons_zero, List.set_cons_succ, i64_w, i32_w]
    rfl
   refine pr_ 4 (some 30) (mkB 40 31) HT_ ?_; refine pr_ 5 (some 31) (mkB 40 63) HT_ ?_; refine pr_ 6 (some 32) (mkB 40 127) HT_ ?_; refine pr_ 7 (some 33) (mkB 40 255) HT_ ?_; refine pr_ 8 (some 34) (mkB 40 511) HT_ ?_; refine pr_ 10 (some 36) (mkB 40 1535) HT_ ?_
   refine take_ (i := 9) (N := some 35) (v := ?_) (a' := ?_) (mkB 40 2047) rfl rfl (take_ofW HT_.out HW_.out (by kernel_rfl)) (fun _ _ _ h => h) (Or.inl ⟨by rfl, ?_⟩) hHeld ?_ ?_
   rotate_left
   ·rintro w' ⟨s0, s1, s2, s3, s4, s5, s6, s7⟩
    go_simp
    with_reducible rfl
   rotate_left
   ·simp only [Act.put, List.setIfInBounds_toArray, List.set_cons_zero, List.set_cons_succ, i64_w, i32_w]
    rfl
   refine take_ (i := 11) (N := some 37) (v := ?_) (a' := ?_) (mkB 40 4095) rfl rfl (take_ofW HT_.out HW_.out (by kernel_rfl)) (fun _ _ _ h => h) (Or.inl ⟨by rfl, ?_⟩) hHeld ?_ ?_
   rotate_left
   ·rintro w' ⟨s0, s1, s2, s3, s4, s5, s6, s7⟩
    go_simp
    with_reducible rfl
   rotate_left
   ·simp only [Act.put, List.setIfInBounds_toArray, List.set_cons_zero, List.set_cons_succ, i64_w, i32_w]
    rfl
   refine pr_ 12 (some 38) (mkB 40 8191) HT_ ?_; refine pr_ 13 (some 39) (mkB 40 16383) HT_ ?_; refine pr_ 14 (some 40) (mkB 40 32767) HT_ ?_; refine pr_ 15 (some 41) (mkB 40 65535) HT_ ?_; refine pr_ 16 (some 42) (mkB 40 131071) HT_ ?_; refine pr_ 17 (some 43) (mkB 40 262143) HT_ ?_; refine pr_ 18 (some 44) (mkB 40 524287) HT_ ?_; refine pr_ 19 (some 45) (mkB 40 1048575) HT_ ?_
   refine take_ (i := 20) (N := some 46) (v := ?_) (a' := ?_) (mkB 40 2097151) rfl rfl (take_ofW HT_.out HW_.out (by kernel_rfl)) (fun _ _ _ h => h) (Or.inl ⟨by rfl, ?_⟩) hHeld ?_ ?_
   rotate_left
   ·rintro w' ⟨s0, s1, s2, s3, s4, s5, s6, s7⟩
    go_simp
    with_reducible rfl
   rotate_left
   ·simp only [Act.put, List.setIfInBounds_toArray, List.set_cons_zero, List.set_cons_succ, i64_w, i32_w]
    rfl
   refine one_ (i := 21) (N := some 47) (mkB 40 4194303) rfl rfl (one_of HT_.out (by kernel_rfl)) (by decide) (fun K hK => ?_)
   refine goes_ Tryd.func30 (by kernel_rfl) rfl #[.int .i64 a1, .int .i64 (rd l3 x11_1)] (by rfl) rfl rfl (by (try simp only [List.map_toArray, List.map_cons, List.map_nil]); first | done | rfl | (simp only [List.length_drop, List.length_take]; rfl)) ?_
   with_reducible refine (dropperref05_closed.calls a1 (rd l3 x11_1) true _ A16.out).mono ?_
   rintro e w' ⟨rfl, ⟨nd, rfl⟩⟩
   refine ⟨_, rfl, ?_⟩
   refine hK.out _ _ ⟨(blk_cell BK101.out 0).trans rfl, (blk_cell BK101.out 1).trans rfl, (blk_cell BK101.out 2).trans rfl, (pw_cell_below HB.out hw103_0), (pw_cell_below HB.out hw104_0), (pw_cell_below HB.out hw105_0), (pw_cell_below HB.out hw107_0), (pw_cell_below HB.out hw108_0)⟩ (fun hHeld => ?_)
   clear hK K
   refine norm_ (a' := ?_) ?_ ?_
   rotate_left
   ·show Act.put _ (some 47) _ = _
    simp only [Act.put, List.setIfInBounds_toArray, List.set_cons_zero, List.set_cons_succ, i64_w, i32_w]
    rfl
   refine pr_ 22 (some 48) (mkB 40 8388607) HT_ ?_; refine pr_ 23 (some 49) (mkB 40 16777215) HT_ ?_; refine pr_ 24 (some 50) (mkB 40 33554431) HT_ ?_; refine pr_ 25 (some 51) (mkB 40 67108863) HT_ ?_; refine pr_ 26 (some 52) (mkB 40 134217727) HT_ ?_; refine pr_ 27 (some 53) (mkB 40 268435455) HT_ ?_; refine pr_ 28 (some 54) (mkB 40 536870911) HT_ ?_; refine pr_ 29 (some 55) (mkB 40 1073741823) HT_ ?_; refine pr_ 30 (some 56) (mkB 40 2147483647) HT_ ?_; refine pr_ 32 (some 58) (mkB 40 6442450943) HT_ ?_; refine pr_ 33 (some 59) (mkB 40 15032385535) HT_ ?_; refine pr_ 34 (some 60) (mkB 40 32212254719) HT_ ?_; refine pr_ 35 (some 61) (mkB 40 66571993087) HT_ ?_
   refine take_ (i := 31) (N := some 57) (v := ?_) (a' := ?_) (mkB 40 68719476735) rfl rfl (take_ofW HT_.out HW_.out (by kernel_rfl)) (fun _ _ _ h => h) (Or.inl ⟨by rfl, ?_⟩) hHeld ?_ ?_
   rotate_left
   ·rintro w' ⟨s0, s1, s2, s3, s4, s5, s6, s7⟩
    go_simp
    with_reducible rfl
   rotate_left
   ·simp only [Act.put, List.setIfInBounds_toArray, List.set_cons_zero, List.set_cons_succ, i64_w, i32_w]
    rfl
   refine take_ (i := 36) (N := some 62) (v := ?_) (a' := ?_) (mkB 40 137438953471) rfl rfl (take_ofW HT_.out HW_.out (by kernel_rfl)) (fun _ _ _ h => h) (Or.inl ⟨by rfl, ?_⟩) hHeld ?_ ?_
   rotate_left
   ·rintro w' ⟨s0, s1, s2, s3, s4, s5, s6, s7⟩
    go_simp
    with_reducible rfl
   rotate_left
   ·simp only [Act.put, List.setIfInBounds_toArray, List.set_cons_zero, List.set_cons_succ, i64_w, i32_w]
    rfl
   refine pr_ 37 (some 63) (mkB 40 274877906943) HT_ ?_; refine pr_ 38 (some 64) (mkB 40 549755813887) HT_ ?_; refine pr_ 39 (some 65) (mkB 40 1099511627775) HT_ ?_
   refine done_ (done_of HT_.out (by kernel_rfl)) ?_
   try go_wp2
   go_ret2
   exact ⟨by first | rfl | (simp [errW_none, errW_some] <;> rfl) | (simp only [← hji19]; first | rfl | (simp [errW_none, errW_some] <;> rfl)) | (simp [*, errW_none, errW_some] <;> rfl), (bW1 HB.out GE101.out)⟩
end Go.Proofs.YtbbjonbnmoomlaaDoor.G
end
