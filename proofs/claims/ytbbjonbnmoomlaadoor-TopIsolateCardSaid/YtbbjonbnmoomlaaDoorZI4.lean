/- Functions of the seat and plain laws about them: GF54, GF42. -/
import Derived.Test.YtbbjonbnmoomlaaDoorGBase
section
namespace Go.Proofs.YtbbjonbnmoomlaaDoor.G
open Go.RowKit Go.Proofs.YtbbjonbnmoomlaaDoorW.PrintWords Go.Proofs.YtbbjonbnmoomlaaDoorW.PrintLast Go.Proofs.YtbbjonbnmoomlaaDoorW.PrintMore
attribute [local go_sem] max2_int min2_int max_two min_two max_three min_three max_four min_four
set_option linter.unusedVariables false
set_option linter.unusedSimpArgs false
mutual
def feed_grid_group.l0 : Nat → Int → Int → Bool → Int → List (S47) → List (S49) → Option (Int)
 | 0, _, _, _, _, _, _ => none
 | k + 1, x1, x7, x8, x102000, x102001, x102002 => if x8 = true then (feed_grid_group.l1 k x1 x7 false x102001 (x102001.length : Int) 0 x102000 x102001 x102002) else (some x7)
def feed_grid_group.l1 : Nat → Int → Int → Bool → List (S47) → Int → Int → Int → List (S47) → List (S49) → Option (Int)
 | 0, _, _, _, _, _, _, _, _, _ => none
 | k + 1, x1, x7, x8, x17, x18, x19, x102000, x102001, x102002 => if x19 < x18 then (if 0 ≤ x19 then (if x19 < (x17.length : Int) then (if (Go.bits .and .i64 (shr .i64 x1 x19) 1) = 0 then (feed_grid_group.l1 k x1 x7 x8 x17 x18 (wrap64 (x19 + 1)) x102000 x102001 x102002) else (if 0 ≤ ((rd_T47 x17 x19).f0) then (if 0 ≤ ((rd_T47 x17 x19).f1) then (if (Go.bits .and .u64 x7 (Go.bits .or .u64 (shl .u64 1 ((rd_T47 x17 x19).f0)) (shl .u64 1 ((rd_T47 x17 x19).f1)))) = 0 then (feed_grid_group.l1 k x1 x7 x8 x17 x18 (wrap64 (x19 + 1)) x102000 x102001 x102002) else (if (Go.bits .and .u64 x7 (Go.bits .or .u64 (shl .u64 1 ((rd_T47 x17 x19).f0)) (shl .u64 1 ((rd_T47 x17 x19).f1)))) = (Go.bits .or .u64 (shl .u64 1 ((rd_T47 x17 x19).f0)) (shl .u64 1 ((rd_T47 x17 x19).f1))) then (feed_grid_group.l1 k x1 x7 x8 x17 x18 (wrap64 (x19 + 1)) x102000 x102001 x102002) else (feed_grid_group.l1 k x1 (Go.bits .or .u64 x7 (Go.bits .or .u64 (shl .u64 1 ((rd_T47 x17 x19).f0)) (shl .u64 1 ((rd_T47 x17 x19).f1)))) true x17 x18 (wrap64 (x19 + 1)) x102000 x102001 x102002))) else (none)) else (none))) else (none)) else (none)) else (feed_grid_group.l0 k x1 x7 x8 x102000 x102001 x102002)
end
def feed_grid_group.f (k : Nat) (a0_0 : Int) (l0_1 : List (S47)) (l0_2 : List (S49)) (a1 : Int) (a2 : Int) : Option (Int) := if 0 ≤ a2 then (feed_grid_group.l0 k a1 (shl .u64 1 a2) true a0_0 l0_1 l0_2) else (none)
theorem feed_grid_group.mono_l : ∀ k, (∀ y0 y1 y2 y3 y4 y5, LeO (feed_grid_group.l0 k y0 y1 y2 y3 y4 y5) (feed_grid_group.l0 (k + 1) y0 y1 y2 y3 y4 y5)) ∧ (∀ y0 y1 y2 y3 y4 y5 y6 y7 y8, LeO (feed_grid_group.l1 k y0 y1 y2 y3 y4 y5 y6 y7 y8) (feed_grid_group.l1 (k + 1) y0 y1 y2 y3 y4 y5 y6 y7 y8))
 | 0 => ⟨fun _ _ _ _ _ _ r h => by simp [feed_grid_group.l0] at h, fun _ _ _ _ _ _ _ _ _ r h => by simp [feed_grid_group.l1] at h⟩
 | k + 1 => by
  obtain ⟨ih0, ih1⟩ := feed_grid_group.mono_l k
  refine ⟨?_, ?_⟩
  ·intro y0 y1 y2 y3 y4 y5
   unfold feed_grid_group.l0
   repeat' first
   | (with_reducible exact ih0 _ _ _ _ _ _)
   | (with_reducible exact ih1 _ _ _ _ _ _ _ _ _)
   | (with_reducible exact LeO.refl _)
   | (with_reducible exact LeO.none _)
   | (with_reducible refine LeO.ite ?_ ?_)
   | (with_reducible refine LeO.bind ?_ (fun _ => ?_))
   | exact ih0 _ _ _ _ _ _
   | exact ih1 _ _ _ _ _ _ _ _ _
   | exact LeO.none _
   | refine LeO.ite ?_ ?_
   | refine LeO.bind ?_ (fun _ => ?_)
  ·intro y0 y1 y2 y3 y4 y5 y6 y7 y8
   unfold feed_grid_group.l1
   repeat' first
   | (with_reducible exact ih0 _ _ _ _ _ _)
   | (with_reducible exact ih1 _ _ _ _ _ _ _ _ _)
   | (with_reducible exact LeO.refl _)
   | (with_reducible exact LeO.none _)
   | (with_reducible refine LeO.ite ?_ ?_)
   | (with_reducible refine LeO.bind ?_ (fun _ => ?_))
   | exact ih0 _ _ _ _ _ _
   | exact ih1 _ _ _ _ _ _ _ _ _
   | exact LeO.none _
   | refine LeO.ite ?_ ?_
   | refine LeO.bind ?_ (fun _ => ?_)
theorem feed_grid_group.mono : ∀ a0 a1 a2 a3 a4 k, LeO (feed_grid_group.f k a0 a1 a2 a3 a4) (feed_grid_group.f (k + 1) a0 a1 a2 a3 a4) := by
 intro a0 a1 a2 a3 a4 k
 obtain ⟨ih0, ih1⟩ := feed_grid_group.mono_l k
 unfold feed_grid_group.f
 repeat' first
   | (with_reducible exact ih0 _ _ _ _ _ _)
   | (with_reducible exact ih1 _ _ _ _ _ _ _ _ _)
   | (with_reducible exact LeO.refl _)
   | (with_reducible exact LeO.none _)
   | (with_reducible refine LeO.ite ?_ ?_)
   | (with_reducible refine LeO.bind ?_ (fun _ => ?_))
   | exact ih0 _ _ _ _ _ _
   | exact ih1 _ _ _ _ _ _ _ _ _
   | exact LeO.none _
   | refine LeO.ite ?_ ?_
   | refine LeO.bind ?_ (fun _ => ?_)
set_option maxHeartbeats 8000000 in
set_option maxRecDepth 100000 in
theorem feed_grid_group.calls (k : Nat) (a0_0 : Int) (A0_1 : Option Addr) (c0_1 : Nat) (l0_1 : List (S47)) (A0_2 : Option Addr) (c0_2 : Nat) (l0_2 : List (S49)) (a1 : Int) (a2 : Int) (r : Int) (w : World) (hr0_1 : Kd.C k47 w A0_1 l0_1.length l0_1) (hc0_1 : l0_1.length ≤ c0_1) (hr0_2 : Kd.C k49 w A0_2 l0_2.length l0_2) (hc0_2 : l0_2.length ≤ c0_2) (h : feed_grid_group.f k a0_0 l0_1 l0_2 a1 a2 = some r) :
  Calls Tryd.prog 54 #[.agg #[.int .i64 a0_0, .slice A0_1 l0_1.length c0_1, .slice A0_2 l0_2.length c0_2], .int .i64 a1, .int .i64 a2] w fun e w' => e = .returned (.int .u64 r) ∧ Below w.heap.size w w' := by
 have hu54 := Tryd.underlying54; have hu47 := Tryd.underlying47; have HR0_1 := A_ hr0_1; have HC0_1 := A_ hc0_1; clear hr0_1 hc0_1; have HR0_2 := A_ hr0_2; have HC0_2 := A_ hc0_2; clear hr0_2 hc0_2; have HB := A_ (Below.refl w.heap.size w); have H : (if 0 ≤ a2 then (feed_grid_group.l0 k a1 (shl .u64 1 a2) true a0_0 l0_1 l0_2) else (none)) = some r := h; clear h; by_cases c4 : 0 ≤ a2; rotate_left
 ·rw [if_neg c4] at H
  exact absurd H (by simp)
 rw [if_pos c4] at H; have c4b0 := eq_true c4; have c4b1 : decide (0 ≤ a2) = true := decide_eq_true c4; clear c4; obtain ⟨ji5, hji5⟩ : ∃ j_ : Int, (shl .u64 1 a2) = j_ := ⟨_, rfl⟩
 replace H : (feed_grid_group.l0 k a1 ji5 true a0_0 l0_1 l0_2) = some r := by first | (rw [hji5] at H; exact H) | (simp only [hji5] at H ⊢; exact H)
 have hji5_ : (IntKind.u64.wrap (1 * 2 ^ min a2.toNat 64)) = ji5 := hji5; have hji5z : a2 ≤ 64 → (IntKind.u64.wrap (1 * 2 ^ a2.toNat)) = ji5 := shl_small hji5
 have hji5u : (IntKind.u64.wrap (2 ^ min a2.toNat 64)) = ji5 := by have h_ := hji5_; rw [Int.one_mul] at h_; exact h_
 have hji5v : a2 ≤ 64 → (IntKind.u64.wrap (2 ^ a2.toNat)) = ji5 := fun hle_ => by have h_ := hji5z hle_; rw [Int.one_mul] at h_; exact h_
 have H' := A_ H; clear H
 go_enter Tryd.func54, Tryd.ntmps54
 go_wp2_with (first | ((with_reducible refine gate_dst (N := 3) rfl ?_); refine bxW 3 (cs := #[.int .i64 a0_0, .slice A0_1 l0_1.length c0_1, .slice A0_2 l0_2.length c0_2]) (t := 54) ?_; intro gb101 hg w6 hbox hb; have BK101 := A_ (hbox); have GW101 := A_ ((szG hg (bW0 HB.out))); have GE101 := A_ ((szG hg (bW0 HB.out))); replace HB := A_ (below_step (bW0 HB.out) hb); clear hb hbox hg))
 repeat (go_quiet (first | ((with_reducible refine gate_dst (N := 3) rfl ?_); refine bxW 3 (cs := #[.int .i64 a0_0, .slice A0_1 l0_1.length c0_1, .slice A0_2 l0_2.length c0_2]) (t := 54) ?_; intro gb101 hg w6 hbox hb; have BK101 := A_ (hbox); have GW101 := A_ ((szG hg (bW0 HB.out))); have GE101 := A_ ((szG hg (bW0 HB.out))); replace HB := A_ (below_step (bW0 HB.out) hb); clear hb hbox hg)); try go_wp2_with (first | ((with_reducible refine gate_dst (N := 3) rfl ?_); refine bxW 3 (cs := #[.int .i64 a0_0, .slice A0_1 l0_1.length c0_1, .slice A0_2 l0_2.length c0_2]) (t := 54) ?_; intro gb101 hg w6 hbox hb; have BK101 := A_ (hbox); have GW101 := A_ ((szG hg (bW0 HB.out))); have GE101 := A_ ((szG hg (bW0 HB.out))); replace HB := A_ (below_step (bW0 HB.out) hb); clear hb hbox hg)))
 go_loopg [7, 8] k (fun kq v7 v8 w' => ∃ (x7_1 : Int) (x8_1 : Bool), v7 = .int .u64 x7_1 ∧ v8 = .bool x8_1 ∧ Aside0 (feed_grid_group.l0 kq a1 x7_1 x8_1 a0_0 l0_1 l0_2 = some r) ∧ Aside0 (kq ≤ k) ∧ Aside0 (w'.heap[gb101]? = some (.cells #[.int .i64 a0_0, (.slice A0_1 l0_1.length c0_1), (.slice A0_2 l0_2.length c0_2)] 54 (0, 0))) ∧ Aside0 (Below w.heap.size w w'))
 case atStart => exact ⟨(ji5), (true), (by first | rfl | (simp; done) | (simp only [← hji5] <;> (first | rfl | simp)) | (simp [*]; done)), eS, H', ⟨Nat.le_refl _⟩, ⟨bkU BK101⟩, ⟨(bW1 HB.out GE101.out)⟩⟩
 case round =>
  clear H'
  try clear p2; try clear c4; try clear c4b0; try clear c4b1; try clear c5
  obtain ⟨x7_1, x8_1, rfl, rfl, HA, HK1, BK101, HB⟩ := hrel
  cases gk with
  | zero => exact absurd HA.out (by simp [feed_grid_group.l0])
  | succ k1 =>
   have H := HA.out; clear HA; simp only [feed_grid_group.l0] at H; by_cases c7 : x8_1 = true; rotate_left
   ·replace c7 := Bool.eq_false_iff.mpr c7
    subst c7; rw [if_neg (show ¬ (false = true) by decide)] at H; obtain rfl := Option.some.inj H
    go_wp2
    repeat (go_quiet (fail); try go_wp2)
    go_ret
    exact ⟨by first | rfl | (simp [errW_none, errW_some] <;> rfl) | (simp only [← hji5]; first | rfl | (simp [errW_none, errW_some] <;> rfl)) | (simp [*, errW_none, errW_some] <;> rfl), (bW1 HB.out GE101.out)⟩
   subst c7; rw [if_pos rfl] at H; have H' := A_ H; clear H; have hcz8_0 : wr.cell? ⟨gb101, 0, none⟩ = some (.int .i64 a0_0) := (blk_cell BK101.out 0).trans rfl; have hcz8_1 : wr.cell? ⟨gb101, 1, none⟩ = some (.slice A0_1 l0_1.length c0_1) := (blk_cell BK101.out 1).trans rfl; have hcz8_2 : wr.cell? ⟨gb101, 2, none⟩ = some (.slice A0_2 l0_2.length c0_2) := (blk_cell BK101.out 2).trans rfl; have hfz8_0 := blk_frozen BK101.out 0; have hfz8_1 := blk_frozen BK101.out 1; have hfz8_2 := blk_frozen BK101.out 2
   go_wp2
   repeat (go_quiet (fail); try go_wp2)
   go_loopg [7, 8, 19] k1 (fun kq v7 v8 v19 w' => ∃ (x7_2 : Int) (x8_2 : Bool) (x19_2 : Int), v7 = .int .u64 x7_2 ∧ v8 = .bool x8_2 ∧ v19 = .int .i64 x19_2 ∧ Aside0 (feed_grid_group.l1 kq a1 x7_2 x8_2 l0_1 (l0_1.length : Int) x19_2 a0_0 l0_1 l0_2 = some r) ∧ Aside0 (kq ≤ k1) ∧ Aside0 (w'.heap[gb101]? = some (.cells #[.int .i64 a0_0, (.slice A0_1 l0_1.length c0_1), (.slice A0_2 l0_2.length c0_2)] 54 (0, 0))) ∧ Aside0 (Below w.heap.size w w'))
   case atStart => exact ⟨(x7_1), (false), (0), eS, eS, eS, H', ⟨Nat.le_refl _⟩, ⟨bkU BK101⟩, ⟨(bW1 HB.out GE101.out)⟩⟩
   case round =>
    clear H'
    try clear p2; try clear c4; try clear c4b0; try clear c4b1; try clear c5; try clear c7; try clear hcz8_0; try clear hcz8_1; try clear hcz8_2; try clear hfz8_0; try clear hfz8_1; try clear hfz8_2; try clear p2
    obtain ⟨x7_2, x8_2, x19_2, rfl, rfl, rfl, HA, HK2, BK101, HB⟩ := hrel
    cases gk with
    | zero => exact absurd HA.out (by simp [feed_grid_group.l1])
    | succ k2 =>
     have H := HA.out; clear HA; simp only [feed_grid_group.l1] at H; by_cases c9 : x19_2 < (l0_1.length : Int); rotate_left
     ·rw [if_neg c9] at H
      have c9b0 : decide (x19_2 < (l0_1.length : Int)) = false := decide_eq_false c9; clear c9; have H' := A_ H; clear H
      go_wp2
      repeat (go_quiet (fail); try go_wp2)
      go_roundg k2
      case measure => have := HK1.out; have := HK2.out; omega
      case rel => exact ⟨(x7_2), (x8_2), eS, eS, H', ⟨by have := HK1.out; have := HK2.out; omega⟩, ⟨bkU BK101⟩, ⟨(bW1 HB.out GE101.out)⟩⟩
     rw [if_pos c9] at H; have c9b0 : decide (x19_2 < (l0_1.length : Int)) = true := decide_eq_true c9; clear c9; by_cases c10 : 0 ≤ x19_2; rotate_left
     ·rw [if_neg c10] at H
      exact absurd H (by simp)
     rw [if_pos c10] at H; have c10b0 : decide (0 ≤ x19_2) = true := decide_eq_true c10; clear c10; by_cases c11 : x19_2 < (l0_1.length : Int); rotate_left
     ·rw [if_neg c11] at H
      exact absurd H (by simp)
     rw [if_pos c11] at H; have c11b0 : decide (x19_2 < (l0_1.length : Int)) = true := decide_eq_true c11; clear c11; have c12b0 := eq_true (oD : 0 ≤ x19_2); obtain ⟨ji13, hji13⟩ : ∃ j_ : Int, (shr .i64 a1 x19_2) = j_ := ⟨_, rfl⟩
     replace H : (if (Go.bits .and .i64 (ji13) 1) = 0 then (feed_grid_group.l1 k2 a1 x7_2 x8_2 l0_1 (l0_1.length : Int) (wrap64 (x19_2 + 1)) a0_0 l0_1 l0_2) else (if 0 ≤ ((rd_T47 l0_1 x19_2).f0) then (if 0 ≤ ((rd_T47 l0_1 x19_2).f1) then (if (Go.bits .and .u64 x7_2 (Go.bits .or .u64 (shl .u64 1 ((rd_T47 l0_1 x19_2).f0)) (shl .u64 1 ((rd_T47 l0_1 x19_2).f1)))) = 0 then (feed_grid_group.l1 k2 a1 x7_2 x8_2 l0_1 (l0_1.length : Int) (wrap64 (x19_2 + 1)) a0_0 l0_1 l0_2) else (if (Go.bits .and .u64 x7_2 (Go.bits .or .u64 (shl .u64 1 ((rd_T47 l0_1 x19_2).f0)) (shl .u64 1 ((rd_T47 l0_1 x19_2).f1)))) = (Go.bits .or .u64 (shl .u64 1 ((rd_T47 l0_1 x19_2).f0)) (shl .u64 1 ((rd_T47 l0_1 x19_2).f1))) then (feed_grid_group.l1 k2 a1 x7_2 x8_2 l0_1 (l0_1.length : Int) (wrap64 (x19_2 + 1)) a0_0 l0_1 l0_2) else (feed_grid_group.l1 k2 a1 (Go.bits .or .u64 x7_2 (Go.bits .or .u64 (shl .u64 1 ((rd_T47 l0_1 x19_2).f0)) (shl .u64 1 ((rd_T47 l0_1 x19_2).f1)))) true l0_1 (l0_1.length : Int) (wrap64 (x19_2 + 1)) a0_0 l0_1 l0_2))) else (none)) else (none))) = some r := by first | (rw [hji13] at H; exact H) | (simp only [hji13] at H ⊢; exact H)
     have hji13_ : (a1 / 2 ^ min x19_2.toNat 64) = ji13 := hji13; have hji13z : x19_2 ≤ 64 → (a1 / 2 ^ x19_2.toNat) = ji13 := shr_small hji13; by_cases c14 : (Go.bits .and .i64 (ji13) 1) = 0
     ·rw [if_pos c14] at H
      have c14b0 : ((Go.bits .and .i64 (ji13) 1) == 0) = true := beq_iff_eq.mpr c14; have c14b1 : ((Go.bits .and .i64 (ji13) 1) != 0) = false := bne_eq_false_iff_eq.mpr c14; clear c14; have H' := A_ H; clear H; have p102 : 0 ≤ (x19_2 : Int) := oD; have q102 : x19_2 < (l0_1.length : Int) := oD; obtain ⟨ad102, e102, hx102_0, hx102_1⟩ := at_T47 HR0_1.out x19_2 p102 q102
      cases e102
      replace hx102_0 := (HB.out.cell (World.block_lt_of_cell? w _ hx102_0)).trans hx102_0; replace hx102_1 := (HB.out.cell (World.block_lt_of_cell? w _ hx102_1)).trans hx102_1; replace p102 := eq_true p102; replace q102 := eq_true q102
      go_wp2_with (first | ((with_reducible refine gate_dst (N := 10) rfl ?_); refine bxW 10 (cs := #[.int .i64 0, .int .i64 0]) (t := 47) ?_; intro gb103 hg w15 hbox hb; have BK103 := A_ (hbox); have GW103 := A_ ((szG hg (bW1 HB.out GE101.out))); have GE103 := A_ ((szG hg (bW1 HB.out GE101.out))); have NB101_103 := A_ ((bkL BK101 hg : gb101 ≠ gb103)); have NB103_101 := A_ ((bkG BK101 hg : gb103 ≠ gb101)); replace BK101 := A_ (bkB BK101 hb); replace HB := A_ (below_step (bW1 HB.out GE101.out) hb); clear hb hbox hg; have hnb16 := NB103_101.out; have hnc16 := NB101_103.out; have hcz17_0 : w15.cell? ⟨gb103, 0, none⟩ = some (.int .i64 0) := (blk_cell BK103.out 0).trans rfl; have hcz17_1 : w15.cell? ⟨gb103, 1, none⟩ = some (.int .i64 0) := (blk_cell BK103.out 1).trans rfl; have hfz17_0 := blk_frozen BK103.out 0; have hfz17_1 := blk_frozen BK103.out 1))
      repeat (go_quiet (first | ((with_reducible refine gate_dst (N := 10) rfl ?_); refine bxW 10 (cs := #[.int .i64 0, .int .i64 0]) (t := 47) ?_; intro gb103 hg w15 hbox hb; have BK103 := A_ (hbox); have GW103 := A_ ((szG hg (bW1 HB.out GE101.out))); have GE103 := A_ ((szG hg (bW1 HB.out GE101.out))); have NB101_103 := A_ ((bkL BK101 hg : gb101 ≠ gb103)); have NB103_101 := A_ ((bkG BK101 hg : gb103 ≠ gb101)); replace BK101 := A_ (bkB BK101 hb); replace HB := A_ (below_step (bW1 HB.out GE101.out) hb); clear hb hbox hg; have hnb16 := NB103_101.out; have hnc16 := NB101_103.out; have hcz17_0 : w15.cell? ⟨gb103, 0, none⟩ = some (.int .i64 0) := (blk_cell BK103.out 0).trans rfl; have hcz17_1 : w15.cell? ⟨gb103, 1, none⟩ = some (.int .i64 0) := (blk_cell BK103.out 1).trans rfl; have hfz17_0 := blk_frozen BK103.out 0; have hfz17_1 := blk_frozen BK103.out 1)); try go_wp2_with (first | ((with_reducible refine gate_dst (N := 10) rfl ?_); refine bxW 10 (cs := #[.int .i64 0, .int .i64 0]) (t := 47) ?_; intro gb103 hg w15 hbox hb; have BK103 := A_ (hbox); have GW103 := A_ ((szG hg (bW1 HB.out GE101.out))); have GE103 := A_ ((szG hg (bW1 HB.out GE101.out))); have NB101_103 := A_ ((bkL BK101 hg : gb101 ≠ gb103)); have NB103_101 := A_ ((bkG BK101 hg : gb103 ≠ gb101)); replace BK101 := A_ (bkB BK101 hb); replace HB := A_ (below_step (bW1 HB.out GE101.out) hb); clear hb hbox hg; have hnb16 := NB103_101.out; have hnc16 := NB101_103.out; have hcz17_0 : w15.cell? ⟨gb103, 0, none⟩ = some (.int .i64 0) := (blk_cell BK103.out 0).trans rfl; have hcz17_1 : w15.cell? ⟨gb103, 1, none⟩ = some (.int .i64 0) := (blk_cell BK103.out 1).trans rfl; have hfz17_0 := blk_frozen BK103.out 0; have hfz17_1 := blk_frozen BK103.out 1)))
      go_roundg k2
      case measure => have := HK1.out; have := HK2.out; omega
      case rel => exact ⟨(x7_2), (x8_2), (wrap64 (x19_2 + 1)), eS, eS, eS, H', ⟨by have := HK1.out; have := HK2.out; omega⟩, ⟨by refine bfW ?_ NB101_103.out; refine bfW ?_ NB101_103.out; exact bkU BK101⟩, ⟨(bW2 HB.out GE101.out GE103.out)⟩⟩
     rw [if_neg c14] at H; have c14b0 : ((Go.bits .and .i64 (ji13) 1) == 0) = false := beq_eq_false_iff_ne.mpr c14; have c14b1 : ((Go.bits .and .i64 (ji13) 1) != 0) = true := bne_iff_ne.mpr c14; by_cases c18 : 0 ≤ ((rd_T47 l0_1 x19_2).f0); rotate_left
     ·rw [if_neg c18] at H
      exact absurd H (by simp)
     rw [if_pos c18] at H; have c18b0 := eq_true c18; have c18b1 : decide (0 ≤ ((rd_T47 l0_1 x19_2).f0)) = true := decide_eq_true c18; clear c18; obtain ⟨ji19, hji19⟩ : ∃ j_ : Int, (shl .u64 1 ((rd_T47 l0_1 x19_2).f0)) = j_ := ⟨_, rfl⟩
     replace H : (if 0 ≤ ((rd_T47 l0_1 x19_2).f1) then (if (Go.bits .and .u64 x7_2 (Go.bits .or .u64 (ji19) (shl .u64 1 ((rd_T47 l0_1 x19_2).f1)))) = 0 then (feed_grid_group.l1 k2 a1 x7_2 x8_2 l0_1 (l0_1.length : Int) (wrap64 (x19_2 + 1)) a0_0 l0_1 l0_2) else (if (Go.bits .and .u64 x7_2 (Go.bits .or .u64 (ji19) (shl .u64 1 ((rd_T47 l0_1 x19_2).f1)))) = (Go.bits .or .u64 (ji19) (shl .u64 1 ((rd_T47 l0_1 x19_2).f1))) then (feed_grid_group.l1 k2 a1 x7_2 x8_2 l0_1 (l0_1.length : Int) (wrap64 (x19_2 + 1)) a0_0 l0_1 l0_2) else (feed_grid_group.l1 k2 a1 (Go.bits .or .u64 x7_2 (Go.bits .or .u64 (ji19) (shl .u64 1 ((rd_T47 l0_1 x19_2).f1)))) true l0_1 (l0_1.length : Int) (wrap64 (x19_2 + 1)) a0_0 l0_1 l0_2))) else (none)) = some r := by first | (rw [hji19] at H; exact H) | (simp only [hji19] at H ⊢; exact H)
     have hji19_ : (IntKind.u64.wrap (1 * 2 ^ min ((rd_T47 l0_1 x19_2).f0).toNat 64)) = ji19 := hji19; have hji19z : ((rd_T47 l0_1 x19_2).f0) ≤ 64 → (IntKind.u64.wrap (1 * 2 ^ ((rd_T47 l0_1 x19_2).f0).toNat)) = ji19 := shl_small hji19
     have hji19u : (IntKind.u64.wrap (2 ^ min ((rd_T47 l0_1 x19_2).f0).toNat 64)) = ji19 := by have h_ := hji19_; rw [Int.one_mul] at h_; exact h_
     have hji19v : ((rd_T47 l0_1 x19_2).f0) ≤ 64 → (IntKind.u64.wrap (2 ^ ((rd_T47 l0_1 x19_2).f0).toNat)) = ji19 := fun hle_ => by have h_ := hji19z hle_; rw [Int.one_mul] at h_; exact h_
     by_cases c20 : 0 ≤ ((rd_T47 l0_1 x19_2).f1); rotate_left
     ·rw [if_neg c20] at H
      exact absurd H (by simp)
     rw [if_pos c20] at H; have c20b0 := eq_true c20; have c20b1 : decide (0 ≤ ((rd_T47 l0_1 x19_2).f1)) = true := decide_eq_true c20; clear c20; obtain ⟨ji21, hji21⟩ : ∃ j_ : Int, (shl .u64 1 ((rd_T47 l0_1 x19_2).f1)) = j_ := ⟨_, rfl⟩
     replace H : (if (Go.bits .and .u64 x7_2 (Go.bits .or .u64 (ji19) (ji21))) = 0 then (feed_grid_group.l1 k2 a1 x7_2 x8_2 l0_1 (l0_1.length : Int) (wrap64 (x19_2 + 1)) a0_0 l0_1 l0_2) else (if (Go.bits .and .u64 x7_2 (Go.bits .or .u64 (ji19) (ji21))) = (Go.bits .or .u64 (ji19) (ji21)) then (feed_grid_group.l1 k2 a1 x7_2 x8_2 l0_1 (l0_1.length : Int) (wrap64 (x19_2 + 1)) a0_0 l0_1 l0_2) else (feed_grid_group.l1 k2 a1 (Go.bits .or .u64 x7_2 (Go.bits .or .u64 (ji19) (ji21))) true l0_1 (l0_1.length : Int) (wrap64 (x19_2 + 1)) a0_0 l0_1 l0_2))) = some r := by first | (rw [hji21] at H; exact H) | (simp only [hji21] at H ⊢; exact H)
     have hji21_ : (IntKind.u64.wrap (1 * 2 ^ min ((rd_T47 l0_1 x19_2).f1).toNat 64)) = ji21 := hji21; have hji21z : ((rd_T47 l0_1 x19_2).f1) ≤ 64 → (IntKind.u64.wrap (1 * 2 ^ ((rd_T47 l0_1 x19_2).f1).toNat)) = ji21 := shl_small hji21
     have hji21u : (IntKind.u64.wrap (2 ^ min ((rd_T47 l0_1 x19_2).f1).toNat 64)) = ji21 := by have h_ := hji21_; rw [Int.one_mul] at h_; exact h_
     have hji21v : ((rd_T47 l0_1 x19_2).f1) ≤ 64 → (IntKind.u64.wrap (2 ^ ((rd_T47 l0_1 x19_2).f1).toNat)) = ji21 := fun hle_ => by have h_ := hji21z hle_; rw [Int.one_mul] at h_; exact h_
     by_cases c22 : (Go.bits .and .u64 x7_2 (Go.bits .or .u64 (ji19) (ji21))) = 0
     ·rw [if_pos c22] at H
      have c22b0 : ((Go.bits .and .u64 x7_2 (Go.bits .or .u64 (ji19) (ji21))) == 0) = true := beq_iff_eq.mpr c22; have c22b1 : ((Go.bits .and .u64 x7_2 (Go.bits .or .u64 (ji19) (ji21))) != 0) = false := bne_eq_false_iff_eq.mpr c22; clear c22; have H' := A_ H; clear H; have p102 : 0 ≤ (x19_2 : Int) := oD; have q102 : x19_2 < (l0_1.length : Int) := oD; obtain ⟨ad102, e102, hx102_0, hx102_1⟩ := at_T47 HR0_1.out x19_2 p102 q102
      cases e102
      replace hx102_0 := (HB.out.cell (World.block_lt_of_cell? w _ hx102_0)).trans hx102_0; replace hx102_1 := (HB.out.cell (World.block_lt_of_cell? w _ hx102_1)).trans hx102_1; replace p102 := eq_true p102; replace q102 := eq_true q102
      go_wp2_with (first | ((with_reducible refine gate_dst (N := 10) rfl ?_); refine bxW 10 (cs := #[.int .i64 0, .int .i64 0]) (t := 47) ?_; intro gb103 hg w23 hbox hb; have BK103 := A_ (hbox); have GW103 := A_ ((szG hg (bW1 HB.out GE101.out))); have GE103 := A_ ((szG hg (bW1 HB.out GE101.out))); have NB101_103 := A_ ((bkL BK101 hg : gb101 ≠ gb103)); have NB103_101 := A_ ((bkG BK101 hg : gb103 ≠ gb101)); replace BK101 := A_ (bkB BK101 hb); replace HB := A_ (below_step (bW1 HB.out GE101.out) hb); clear hb hbox hg; have hnb24 := NB103_101.out; have hnc24 := NB101_103.out; have hcz25_0 : w23.cell? ⟨gb103, 0, none⟩ = some (.int .i64 0) := (blk_cell BK103.out 0).trans rfl; have hcz25_1 : w23.cell? ⟨gb103, 1, none⟩ = some (.int .i64 0) := (blk_cell BK103.out 1).trans rfl; have hfz25_0 := blk_frozen BK103.out 0; have hfz25_1 := blk_frozen BK103.out 1))
      repeat (go_quiet (first | ((with_reducible refine gate_dst (N := 10) rfl ?_); refine bxW 10 (cs := #[.int .i64 0, .int .i64 0]) (t := 47) ?_; intro gb103 hg w23 hbox hb; have BK103 := A_ (hbox); have GW103 := A_ ((szG hg (bW1 HB.out GE101.out))); have GE103 := A_ ((szG hg (bW1 HB.out GE101.out))); have NB101_103 := A_ ((bkL BK101 hg : gb101 ≠ gb103)); have NB103_101 := A_ ((bkG BK101 hg : gb103 ≠ gb101)); replace BK101 := A_ (bkB BK101 hb); replace HB := A_ (below_step (bW1 HB.out GE101.out) hb); clear hb hbox hg; have hnb24 := NB103_101.out; have hnc24 := NB101_103.out; have hcz25_0 : w23.cell? ⟨gb103, 0, none⟩ = some (.int .i64 0) := (blk_cell BK103.out 0).trans rfl; have hcz25_1 : w23.cell? ⟨gb103, 1, none⟩ = some (.int .i64 0) := (blk_cell BK103.out 1).trans rfl; have hfz25_0 := blk_frozen BK103.out 0; have hfz25_1 := blk_frozen BK103.out 1)); try go_wp2_with (first | ((with_reducible refine gate_dst (N := 10) rfl ?_); refine bxW 10 (cs := #[.int .i64 0, .int .i64 0]) (t := 47) ?_; intro gb103 hg w23 hbox hb; have BK103 := A_ (hbox); have GW103 := A_ ((szG hg (bW1 HB.out GE101.out))); have GE103 := A_ ((szG hg (bW1 HB.out GE101.out))); have NB101_103 := A_ ((bkL BK101 hg : gb101 ≠ gb103)); have NB103_101 := A_ ((bkG BK101 hg : gb103 ≠ gb101)); replace BK101 := A_ (bkB BK101 hb); replace HB := A_ (below_step (bW1 HB.out GE101.out) hb); clear hb hbox hg; have hnb24 := NB103_101.out; have hnc24 := NB101_103.out; have hcz25_0 : w23.cell? ⟨gb103, 0, none⟩ = some (.int .i64 0) := (blk_cell BK103.out 0).trans rfl; have hcz25_1 : w23.cell? ⟨gb103, 1, none⟩ = some (.int .i64 0) := (blk_cell BK103.out 1).trans rfl; have hfz25_0 := blk_frozen BK103.out 0; have hfz25_1 := blk_frozen BK103.out 1)))
      go_roundg k2
      case measure => have := HK1.out; have := HK2.out; omega
      case rel => exact ⟨(x7_2), (x8_2), (wrap64 (x19_2 + 1)), eS, eS, eS, H', ⟨by have := HK1.out; have := HK2.out; omega⟩, ⟨by refine bfW ?_ NB101_103.out; refine bfW ?_ NB101_103.out; exact bkU BK101⟩, ⟨(bW2 HB.out GE101.out GE103.out)⟩⟩
     rw [if_neg c22] at H; have c22b0 : ((Go.bits .and .u64 x7_2 (Go.bits .or .u64 (ji19) (ji21))) == 0) = false := beq_eq_false_iff_ne.mpr c22; have c22b1 : ((Go.bits .and .u64 x7_2 (Go.bits .or .u64 (ji19) (ji21))) != 0) = true := bne_iff_ne.mpr c22; by_cases c26 : (Go.bits .and .u64 x7_2 (Go.bits .or .u64 (ji19) (ji21))) = (Go.bits .or .u64 (ji19) (ji21))
     ·rw [if_pos c26] at H
      have c26b0 : ((Go.bits .and .u64 x7_2 (Go.bits .or .u64 (ji19) (ji21))) == (Go.bits .or .u64 (ji19) (ji21))) = true := beq_iff_eq.mpr c26; have c26b1 : ((Go.bits .and .u64 x7_2 (Go.bits .or .u64 (ji19) (ji21))) != (Go.bits .or .u64 (ji19) (ji21))) = false := bne_eq_false_iff_eq.mpr c26; clear c26; have H' := A_ H; clear H; have p102 : 0 ≤ (x19_2 : Int) := oD; have q102 : x19_2 < (l0_1.length : Int) := oD; obtain ⟨ad102, e102, hx102_0, hx102_1⟩ := at_T47 HR0_1.out x19_2 p102 q102
      cases e102
      replace hx102_0 := (HB.out.cell (World.block_lt_of_cell? w _ hx102_0)).trans hx102_0; replace hx102_1 := (HB.out.cell (World.block_lt_of_cell? w _ hx102_1)).trans hx102_1; replace p102 := eq_true p102; replace q102 := eq_true q102
      go_wp2_with (first | ((with_reducible refine gate_dst (N := 10) rfl ?_); refine bxW 10 (cs := #[.int .i64 0, .int .i64 0]) (t := 47) ?_; intro gb103 hg w27 hbox hb; have BK103 := A_ (hbox); have GW103 := A_ ((szG hg (bW1 HB.out GE101.out))); have GE103 := A_ ((szG hg (bW1 HB.out GE101.out))); have NB101_103 := A_ ((bkL BK101 hg : gb101 ≠ gb103)); have NB103_101 := A_ ((bkG BK101 hg : gb103 ≠ gb101)); replace BK101 := A_ (bkB BK101 hb); replace HB := A_ (below_step (bW1 HB.out GE101.out) hb); clear hb hbox hg; have hnb28 := NB103_101.out; have hnc28 := NB101_103.out; have hcz29_0 : w27.cell? ⟨gb103, 0, none⟩ = some (.int .i64 0) := (blk_cell BK103.out 0).trans rfl; have hcz29_1 : w27.cell? ⟨gb103, 1, none⟩ = some (.int .i64 0) := (blk_cell BK103.out 1).trans rfl; have hfz29_0 := blk_frozen BK103.out 0; have hfz29_1 := blk_frozen BK103.out 1))
      repeat (go_quiet (first | ((with_reducible refine gate_dst (N := 10) rfl ?_); refine bxW 10 (cs := #[.int .i64 0, .int .i64 0]) (t := 47) ?_; intro gb103 hg w27 hbox hb; have BK103 := A_ (hbox); have GW103 := A_ ((szG hg (bW1 HB.out GE101.out))); have GE103 := A_ ((szG hg (bW1 HB.out GE101.out))); have NB101_103 := A_ ((bkL BK101 hg : gb101 ≠ gb103)); have NB103_101 := A_ ((bkG BK101 hg : gb103 ≠ gb101)); replace BK101 := A_ (bkB BK101 hb); replace HB := A_ (below_step (bW1 HB.out GE101.out) hb); clear hb hbox hg; have hnb28 := NB103_101.out; have hnc28 := NB101_103.out; have hcz29_0 : w27.cell? ⟨gb103, 0, none⟩ = some (.int .i64 0) := (blk_cell BK103.out 0).trans rfl; have hcz29_1 : w27.cell? ⟨gb103, 1, none⟩ = some (.int .i64 0) := (blk_cell BK103.out 1).trans rfl; have hfz29_0 := blk_frozen BK103.out 0; have hfz29_1 := blk_frozen BK103.out 1)); try go_wp2_with (first | ((with_reducible refine gate_dst (N := 10) rfl ?_); refine bxW 10 (cs := #[.int .i64 0, .int .i64 0]) (t := 47) ?_; intro gb103 hg w27 hbox hb; have BK103 := A_ (hbox); have GW103 := A_ ((szG hg (bW1 HB.out GE101.out))); have GE103 := A_ ((szG hg (bW1 HB.out GE101.out))); have NB101_103 := A_ ((bkL BK101 hg : gb101 ≠ gb103)); have NB103_101 := A_ ((bkG BK101 hg : gb103 ≠ gb101)); replace BK101 := A_ (bkB BK101 hb); replace HB := A_ (below_step (bW1 HB.out GE101.out) hb); clear hb hbox hg; have hnb28 := NB103_101.out; have hnc28 := NB101_103.out; have hcz29_0 : w27.cell? ⟨gb103, 0, none⟩ = some (.int .i64 0) := (blk_cell BK103.out 0).trans rfl; have hcz29_1 : w27.cell? ⟨gb103, 1, none⟩ = some (.int .i64 0) := (blk_cell BK103.out 1).trans rfl; have hfz29_0 := blk_frozen BK103.out 0; have hfz29_1 := blk_frozen BK103.out 1)))
      go_roundg k2
      case measure => have := HK1.out; have := HK2.out; omega
      case rel => exact ⟨(x7_2), (x8_2), (wrap64 (x19_2 + 1)), eS, eS, eS, H', ⟨by have := HK1.out; have := HK2.out; omega⟩, ⟨by refine bfW ?_ NB101_103.out; refine bfW ?_ NB101_103.out; exact bkU BK101⟩, ⟨(bW2 HB.out GE101.out GE103.out)⟩⟩
     rw [if_neg c26] at H; have c26b0 : ((Go.bits .and .u64 x7_2 (Go.bits .or .u64 (ji19) (ji21))) == (Go.bits .or .u64 (ji19) (ji21))) = false := beq_eq_false_iff_ne.mpr c26; have c26b1 : ((Go.bits .and .u64 x7_2 (Go.bits .or .u64 (ji19) (ji21))) != (Go.bits .or .u64 (ji19) (ji21))) = true := bne_iff_ne.mpr c26; have H' := A_ H; clear H; have p102 : 0 ≤ (x19_2 : Int) := oD; have q102 : x19_2 < (l0_1.length : Int) := oD; obtain ⟨ad102, e102, hx102_0, hx102_1⟩ := at_T47 HR0_1.out x19_2 p102 q102
     cases e102
     replace hx102_0 := (HB.out.cell (World.block_lt_of_cell? w _ hx102_0)).trans hx102_0; replace hx102_1 := (HB.out.cell (World.block_lt_of_cell? w _ hx102_1)).trans hx102_1; replace p102 := eq_true p102; replace q102 := eq_true q102
     go_wp2_with (first | ((with_reducible refine gate_dst (N := 10) rfl ?_); refine bxW 10 (cs := #[.int .i64 0, .int .i64 0]) (t := 47) ?_; intro gb103 hg w30 hbox hb; have BK103 := A_ (hbox); have GW103 := A_ ((szG hg (bW1 HB.out GE101.out))); have GE103 := A_ ((szG hg (bW1 HB.out GE101.out))); have NB101_103 := A_ ((bkL BK101 hg : gb101 ≠ gb103)); have NB103_101 := A_ ((bkG BK101 hg : gb103 ≠ gb101)); replace BK101 := A_ (bkB BK101 hb); replace HB := A_ (below_step (bW1 HB.out GE101.out) hb); clear hb hbox hg; have hnb31 := NB103_101.out; have hnc31 := NB101_103.out; have hcz32_0 : w30.cell? ⟨gb103, 0, none⟩ = some (.int .i64 0) := (blk_cell BK103.out 0).trans rfl; have hcz32_1 : w30.cell? ⟨gb103, 1, none⟩ = some (.int .i64 0) := (blk_cell BK103.out 1).trans rfl; have hfz32_0 := blk_frozen BK103.out 0; have hfz32_1 := blk_frozen BK103.out 1))
     repeat (go_quiet (first | ((with_reducible refine gate_dst (N := 10) rfl ?_); refine bxW 10 (cs := #[.int .i64 0, .int .i64 0]) (t := 47) ?_; intro gb103 hg w30 hbox hb; have BK103 := A_ (hbox); have GW103 := A_ ((szG hg (bW1 HB.out GE101.out))); have GE103 := A_ ((szG hg (bW1 HB.out GE101.out))); have NB101_103 := A_ ((bkL BK101 hg : gb101 ≠ gb103)); have NB103_101 := A_ ((bkG BK101 hg : gb103 ≠ gb101)); replace BK101 := A_ (bkB BK101 hb); replace HB := A_ (below_step (bW1 HB.out GE101.out) hb); clear hb hbox hg; have hnb31 := NB103_101.out; have hnc31 := NB101_103.out; have hcz32_0 : w30.cell? ⟨gb103, 0, none⟩ = some (.int .i64 0) := (blk_cell BK103.out 0).trans rfl; have hcz32_1 : w30.cell? ⟨gb103, 1, none⟩ = some (.int .i64 0) := (blk_cell BK103.out 1).trans rfl; have hfz32_0 := blk_frozen BK103.out 0; have hfz32_1 := blk_frozen BK103.out 1)); try go_wp2_with (first | ((with_reducible refine gate_dst (N := 10) rfl ?_); refine bxW 10 (cs := #[.int .i64 0, .int .i64 0]) (t := 47) ?_; intro gb103 hg w30 hbox hb; have BK103 := A_ (hbox); have GW103 := A_ ((szG hg (bW1 HB.out GE101.out))); have GE103 := A_ ((szG hg (bW1 HB.out GE101.out))); have NB101_103 := A_ ((bkL BK101 hg : gb101 ≠ gb103)); have NB103_101 := A_ ((bkG BK101 hg : gb103 ≠ gb101)); replace BK101 := A_ (bkB BK101 hb); replace HB := A_ (below_step (bW1 HB.out GE101.out) hb); clear hb hbox hg; have hnb31 := NB103_101.out; have hnc31 := NB101_103.out; have hcz32_0 : w30.cell? ⟨gb103, 0, none⟩ = some (.int .i64 0) := (blk_cell BK103.out 0).trans rfl; have hcz32_1 : w30.cell? ⟨gb103, 1, none⟩ = some (.int .i64 0) := (blk_cell BK103.out 1).trans rfl; have hfz32_0 := blk_frozen BK103.out 0; have hfz32_1 := blk_frozen BK103.out 1)))
     go_roundg k2
     case measure => have := HK1.out; have := HK2.out; omega
     case rel => exact ⟨(Go.bits .or .u64 x7_2 (Go.bits .or .u64 (ji19) (ji21))), (true), (wrap64 (x19_2 + 1)), (by first | rfl | (simp; done) | (simp only [← hji19, ← hji21] <;> (first | rfl | simp)) | (simp [*]; done)), eS, eS, H', ⟨by have := HK1.out; have := HK2.out; omega⟩, ⟨by refine bfW ?_ NB101_103.out; refine bfW ?_ NB101_103.out; exact bkU BK101⟩, ⟨(bW2 HB.out GE101.out GE103.out)⟩⟩
mutual
def feed_grid_fed.l0 : Nat → Int → List Int → List (S49) → Int → Int → Int → List (S47) → List (S49) → Option (List Int)
 | 0, _, _, _, _, _, _, _, _ => none
 | k + 1, x1, x5, x16, x17, x18, x102000, x102001, x102002 => if x18 < x17 then (if 0 ≤ x18 then (if x18 < (x16.length : Int) then ((feed_grid_group.f k x102000 x102001 x102002 x1 ((rd_T49 x16 x18).f0)).bind fun t107 => (feed_grid_fed.l1 k x1 x5 t107 x16 x17 x18 (x5.length : Int) 0 x102000 x102001 x102002 ((rd_T49 x16 x18).f0) ((rd_T49 x16 x18).f1))) else (none)) else (none)) else (some x5)
def feed_grid_fed.l1 : Nat → Int → List Int → Int → List (S49) → Int → Int → Int → Int → Int → List (S47) → List (S49) → Int → Int → Option (List Int)
 | 0, _, _, _, _, _, _, _, _, _, _, _, _, _ => none
 | k + 1, x1, x5, x8, x16, x17, x18, x28, x29, x102000, x102001, x102002, x107000, x107001 => if x29 < x28 then (if 0 ≤ x29 then (if (Go.bits .and .u64 (shr .u64 x8 x29) 1) = 1 then (if x29 < (x5.length : Int) then (if 0 ≤ x107001 then (feed_grid_fed.l1 k x1 (x5.set (x29 : Int).toNat (Go.bits .or .u64 (rd x5 x29) (shl .u64 1 x107001))) x8 x16 x17 x18 x28 (wrap64 (x29 + 1)) x102000 x102001 x102002 x107000 x107001) else (none)) else (none)) else (feed_grid_fed.l1 k x1 x5 x8 x16 x17 x18 x28 (wrap64 (x29 + 1)) x102000 x102001 x102002 x107000 x107001)) else (none)) else (feed_grid_fed.l0 k x1 x5 x16 x17 (wrap64 (x18 + 1)) x102000 x102001 x102002)
end
def feed_grid_fed.f (k : Nat) (a0_0 : Int) (l0_1 : List (S47)) (l0_2 : List (S49)) (a1 : Int) : Option (List Int) := if 0 ≤ a0_0 then (if (a0_0 : Int).toNat ≤ 35184372088832 then (feed_grid_fed.l0 k a1 (List.replicate (a0_0 : Int).toNat 0) l0_2 (l0_2.length : Int) 0 a0_0 l0_1 l0_2) else (none)) else (none)
theorem feed_grid_fed.mono_l : ∀ k, (∀ y0 y1 y2 y3 y4 y5 y6 y7, LeO (feed_grid_fed.l0 k y0 y1 y2 y3 y4 y5 y6 y7) (feed_grid_fed.l0 (k + 1) y0 y1 y2 y3 y4 y5 y6 y7)) ∧ (∀ y0 y1 y2 y3 y4 y5 y6 y7 y8 y9 y10 y11 y12, LeO (feed_grid_fed.l1 k y0 y1 y2 y3 y4 y5 y6 y7 y8 y9 y10 y11 y12) (feed_grid_fed.l1 (k + 1) y0 y1 y2 y3 y4 y5 y6 y7 y8 y9 y10 y11 y12))
 | 0 => ⟨fun _ _ _ _ _ _ _ _ r h => by simp [feed_grid_fed.l0] at h, fun _ _ _ _ _ _ _ _ _ _ _ _ _ r h => by simp [feed_grid_fed.l1] at h⟩
 | k + 1 => by
  obtain ⟨ih0, ih1⟩ := feed_grid_fed.mono_l k
  refine ⟨?_, ?_⟩
  ·intro y0 y1 y2 y3 y4 y5 y6 y7
   unfold feed_grid_fed.l0
   repeat' first
   | (with_reducible exact ih0 _ _ _ _ _ _ _ _)
   | (with_reducible exact ih1 _ _ _ _ _ _ _ _ _ _ _ _ _)
   | (with_reducible exact feed_grid_group.mono _ _ _ _ _ _)
   | (with_reducible exact LeO.refl _)
   | (with_reducible exact LeO.none _)
   | (with_reducible refine LeO.ite ?_ ?_)
   | (with_reducible refine LeO.bind ?_ (fun _ => ?_))
   | exact ih0 _ _ _ _ _ _ _ _
   | exact ih1 _ _ _ _ _ _ _ _ _ _ _ _ _
   | exact feed_grid_group.mono _ _ _ _ _ _
   | exact LeO.none _
   | refine LeO.ite ?_ ?_
   | refine LeO.bind ?_ (fun _ => ?_)
  ·intro y0 y1 y2 y3 y4 y5 y6 y7 y8 y9 y10 y11 y12
   unfold feed_grid_fed.l1
   repeat' first
   | (with_reducible exact ih0 _ _ _ _ _ _ _ _)
   | (with_reducible exact ih1 _ _ _ _ _ _ _ _ _ _ _ _ _)
   | (with_reducible exact feed_grid_group.mono _ _ _ _ _ _)
   | (with_reducible exact LeO.refl _)
   | (with_reducible exact LeO.none _)
   | (with_reducible refine LeO.ite ?_ ?_)
   | (with_reducible refine LeO.bind ?_ (fun _ => ?_))
   | exact ih0 _ _ _ _ _ _ _ _
   | exact ih1 _ _ _ _ _ _ _ _ _ _ _ _ _
   | exact feed_grid_group.mono _ _ _ _ _ _
   | exact LeO.none _
   | refine LeO.ite ?_ ?_
   | refine LeO.bind ?_ (fun _ => ?_)
theorem feed_grid_fed.mono : ∀ a0 a1 a2 a3 k, LeO (feed_grid_fed.f k a0 a1 a2 a3) (feed_grid_fed.f (k + 1) a0 a1 a2 a3) := by
 intro a0 a1 a2 a3 k
 obtain ⟨ih0, ih1⟩ := feed_grid_fed.mono_l k
 unfold feed_grid_fed.f
 repeat' first
   | (with_reducible exact ih0 _ _ _ _ _ _ _ _)
   | (with_reducible exact ih1 _ _ _ _ _ _ _ _ _ _ _ _ _)
   | (with_reducible exact feed_grid_group.mono _ _ _ _ _ _)
   | (with_reducible exact LeO.refl _)
   | (with_reducible exact LeO.none _)
   | (with_reducible refine LeO.ite ?_ ?_)
   | (with_reducible refine LeO.bind ?_ (fun _ => ?_))
   | exact ih0 _ _ _ _ _ _ _ _
   | exact ih1 _ _ _ _ _ _ _ _ _ _ _ _ _
   | exact feed_grid_group.mono _ _ _ _ _ _
   | exact LeO.none _
   | refine LeO.ite ?_ ?_
   | refine LeO.bind ?_ (fun _ => ?_)
def feed_grid_fed.T10 : Bool × List (List Nat × List Nat) := (true, [([], []), ([], []), ([0, 1], [0, 1]), ([2], [2]), ([], []), ([4], [4]), ([5], [5]), ([3, 6], [3, 6]), ([0, 1, 0, 1, 2, 3, 4, 5, 6, 7], [0, 1]), ([8, 7, 0, 1, 2, 3, 4, 5, 6, 7], [7, 8])])
def feed_grid_fed.B10 : List Nat := [0, 0, 3, 7, 0, 16, 48, 127, 255, 511]
theorem feed_grid_fed.tab10 : rtab .any (opsOf Tryd.f42 10) = feed_grid_fed.T10 := by kernel_rfl
theorem feed_grid_fed.bits10 : waitsOk feed_grid_fed.T10.2 feed_grid_fed.B10 = true := by kernel_rfl
set_option maxHeartbeats 8000000 in
set_option maxRecDepth 100000 in
theorem feed_grid_fed.calls (k : Nat) (a0_0 : Int) (A0_1 : Option Addr) (c0_1 : Nat) (l0_1 : List (S47)) (A0_2 : Option Addr) (c0_2 : Nat) (l0_2 : List (S49)) (a1 : Int) (r : List Int) (w : World) (hr0_1 : Kd.C k47 w A0_1 l0_1.length l0_1) (hc0_1 : l0_1.length ≤ c0_1) (hr0_2 : Kd.C k49 w A0_2 l0_2.length l0_2) (hc0_2 : l0_2.length ≤ c0_2) (h : feed_grid_fed.f k a0_0 l0_1 l0_2 a1 = some r) :
  Calls Tryd.prog 42 #[.agg #[.int .i64 a0_0, .slice A0_1 l0_1.length c0_1, .slice A0_2 l0_2.length c0_2], .int .i64 a1] w fun e w' => ∃ v0_ : Value, e = .returned (v0_) ∧ Kd.R (Kd.int .u64) 61 w' w.heap.size (fun _ => True) v0_ r ∧ Below w.heap.size w w' := by
 have hu54 := Tryd.underlying54; have hu49 := Tryd.underlying49; have HR0_1 := A_ hr0_1; have HC0_1 := A_ hc0_1; clear hr0_1 hc0_1; have HR0_2 := A_ hr0_2; have HC0_2 := A_ hc0_2; clear hr0_2 hc0_2; have HB := A_ (Below.refl w.heap.size w); have H : (if 0 ≤ a0_0 then (if (a0_0 : Int).toNat ≤ 35184372088832 then (feed_grid_fed.l0 k a1 (List.replicate (a0_0 : Int).toNat 0) l0_2 (l0_2.length : Int) 0 a0_0 l0_1 l0_2) else (none)) else (none)) = some r := h; clear h; by_cases c3 : 0 ≤ a0_0; rotate_left
 ·rw [if_neg c3] at H
  exact absurd H (by simp)
 rw [if_pos c3] at H; have c3b0 := eq_true c3; have c3b1 : decide (0 ≤ a0_0) = true := decide_eq_true c3; clear c3; by_cases c4 : (a0_0 : Int).toNat ≤ 35184372088832; rotate_left
 ·rw [if_neg c4] at H
  exact absurd H (by simp)
 rw [if_pos c4] at H; have c4b0 := eq_true c4; have c4b1 : decide ((a0_0 : Int).toNat ≤ 35184372088832) = true := decide_eq_true c4; clear c4; obtain ⟨y102, hy102⟩ : ∃ y_ : List Int, y_ = (List.replicate (a0_0 : Int).toNat 0) := ⟨_, rfl⟩
 replace H : (feed_grid_fed.l0 k a1 y102 l0_2 (l0_2.length : Int) 0 a0_0 l0_1 l0_2) = some r := by first | (rw [hy102]; with_reducible exact H) | (have H2_ := (Option.bind_some _ _).symm.trans H; rw [hy102]; with_reducible exact H2_) | (have H2_ := (Option.bind_some _ _).symm.trans H; with_reducible exact H2_) | with_reducible exact H | (rw [hy102]; exact H) | exact H
 have Ny102 := A_ hy102; clear hy102; have H' := A_ H; clear H
 go_enter Tryd.func42, Tryd.ntmps42
 go_wp2_with (first | ((with_reducible refine gate_dst (N := 2) rfl ?_); refine bxW 2 (cs := #[.int .i64 a0_0, .slice A0_1 l0_1.length c0_1, .slice A0_2 l0_2.length c0_2]) (t := 54) ?_; intro gb101 hg w5 hbox hb; have BK101 := A_ (hbox); have GW101 := A_ ((szG hg (bW0 HB.out))); have GE101 := A_ ((szG hg (bW0 HB.out))); replace HB := A_ (below_step (bW0 HB.out) hb); clear hb hbox hg; have hcz6_0 : w5.cell? ⟨gb101, 0, none⟩ = some (.int .i64 a0_0) := (blk_cell BK101.out 0).trans rfl; have hcz6_1 : w5.cell? ⟨gb101, 1, none⟩ = some (.slice A0_1 l0_1.length c0_1) := (blk_cell BK101.out 1).trans rfl; have hcz6_2 : w5.cell? ⟨gb101, 2, none⟩ = some (.slice A0_2 l0_2.length c0_2) := (blk_cell BK101.out 2).trans rfl; have hfz6_0 := blk_frozen BK101.out 0; have hfz6_1 := blk_frozen BK101.out 1; have hfz6_2 := blk_frozen BK101.out 2) | ((with_reducible refine gate_dst (N := 13) rfl ?_); refine Kd.R_make (Kd.int .u64) _ 61 rfl (N := 13) rfl 83 _ _ rfl a0_0 rfl rfl Tryd.underlying83 (.int .u64 0) 8 info61 rfl (by decide) (by omega) 0 (ok := fun _ => True) (okp := fun _ => True) rfl (fun _ hk => hk) trivial (oD) (Nat.le_trans (Nat.mul_le_mul_right _ (oD : a0_0.toNat ≤ 35184372088832)) (by omega)) (Below.refl _ _) (Nat.le_refl _) ?_; intro v103 w7 ho8 hb hg_ hnew_; clear hg_ hnew_; (first | rw [← Ny102.out] at ho8 | (simp only [Int.reduceToNat] at ho8; rw [← Ny102.out] at ho8)); have HO104 := A_ (Kd.R_lower ho8 (below_size (bW1 HB.out GE101.out))); replace BK101 := A_ (bkB BK101 hb); replace HB := A_ (below_step (bW1 HB.out GE101.out) hb); clear hb ho8; have hcz9_0 : w7.cell? ⟨gb101, 0, none⟩ = some (.int .i64 a0_0) := (blk_cell BK101.out 0).trans rfl; have hcz9_1 : w7.cell? ⟨gb101, 1, none⟩ = some (.slice A0_1 l0_1.length c0_1) := (blk_cell BK101.out 1).trans rfl; have hcz9_2 : w7.cell? ⟨gb101, 2, none⟩ = some (.slice A0_2 l0_2.length c0_2) := (blk_cell BK101.out 2).trans rfl; have hfz9_0 := blk_frozen BK101.out 0; have hfz9_1 := blk_frozen BK101.out 1; have hfz9_2 := blk_frozen BK101.out 2))
 go_loopg [18] k (fun kq v18 w' => ∃ (x5_1 : List Int) (x18_1 : Int), v18 = .int .i64 x18_1 ∧ Aside0 (feed_grid_fed.l0 kq a1 x5_1 l0_2 (l0_2.length : Int) x18_1 a0_0 l0_1 l0_2 = some r) ∧ Aside0 (kq ≤ k) ∧ Aside0 (Kd.R (Kd.int .u64) 61 w' w.heap.size (fun _ => True) v103 x5_1) ∧ Aside0 (w'.heap[gb101]? = some (.cells #[.int .i64 a0_0, (.slice A0_1 l0_1.length c0_1), (.slice A0_2 l0_2.length c0_2)] 54 (0, 0))) ∧ Aside0 (Below w.heap.size w w'))
 case atStart => exact ⟨(y102), (0), eS, H', ⟨Nat.le_refl _⟩, ⟨rU HO104.out⟩, ⟨bkU BK101⟩, ⟨(bW1 HB.out GE101.out)⟩⟩
 case round =>
  clear H'
  try clear p2; try clear c3; try clear c3b0; try clear c3b1; try clear c4; try clear c4b0; try clear c4b1; try clear hcz6_0; try clear hcz6_1; try clear hcz6_2; try clear hcz9_0; try clear hcz9_1; try clear hcz9_2; try clear hfz6_0; try clear hfz6_1; try clear hfz6_2; try clear hfz9_0; try clear hfz9_1; try clear hfz9_2
  obtain ⟨x5_1, x18_1, rfl, HA, HK1, HO_5, BK101, HB⟩ := hrel
  cases gk with
  | zero => exact absurd HA.out (by simp [feed_grid_fed.l0])
  | succ k1 =>
   have H := HA.out; clear HA; simp only [feed_grid_fed.l0] at H; by_cases c10 : x18_1 < (l0_2.length : Int); rotate_left
   ·rw [if_neg c10] at H
    have c10b0 : decide (x18_1 < (l0_2.length : Int)) = false := decide_eq_false c10; clear c10; obtain rfl := Option.some.inj H
    go_wp2
    go_ret
    exact ⟨_, by first | rfl | (simp [errW_none, errW_some] <;> rfl) | (simp [*, errW_none, errW_some] <;> rfl), by (with_reducible repeat (first | apply Kd.R_alloc | apply Kd.R_drewN | apply Kd.R_drew)); exact HO_5.out, (bW1 HB.out GE101.out)⟩
   rw [if_pos c10] at H; have c10b0 : decide (x18_1 < (l0_2.length : Int)) = true := decide_eq_true c10; clear c10; by_cases c11 : 0 ≤ x18_1; rotate_left
   ·rw [if_neg c11] at H
    exact absurd H (by simp)
   rw [if_pos c11] at H; have c11b0 : decide (0 ≤ x18_1) = true := decide_eq_true c11; clear c11; by_cases c12 : x18_1 < (l0_2.length : Int); rotate_left
   ·rw [if_neg c12] at H
    exact absurd H (by simp)
   rw [if_pos c12] at H; have c12b0 : decide (x18_1 < (l0_2.length : Int)) = true := decide_eq_true c12; clear c12; replace H := Option.bind_eq_some_iff.mp H; obtain ⟨t107, A130, H⟩ := H; (try dsimp only at H); have A13 := A_ A130; clear A130; have H' := A_ H; clear H; have p105 : 0 ≤ (x18_1 : Int) := oD; have q105 : x18_1 < (l0_2.length : Int) := oD; obtain ⟨ad105, e105, hx105_0, hx105_1⟩ := at_T49 HR0_2.out x18_1 p105 q105
   cases e105
   replace hx105_0 := (HB.out.cell (World.block_lt_of_cell? w _ hx105_0)).trans hx105_0; replace hx105_1 := (HB.out.cell (World.block_lt_of_cell? w _ hx105_1)).trans hx105_1; replace p105 := eq_true p105; replace q105 := eq_true q105
   go_wp2_with (first | ((with_reducible refine gate_dst (N := 7) rfl ?_); refine bxW 7 (cs := #[.int .i64 0, .int .i64 0]) (t := 49) ?_; intro gb106 hg w14 hbox hb; have BK106 := A_ (hbox); have GW106 := A_ ((szG hg (bW1 HB.out GE101.out))); have GE106 := A_ ((szG hg (bW1 HB.out GE101.out))); have NB101_106 := A_ ((bkL BK101 hg : gb101 ≠ gb106)); have NB106_101 := A_ ((bkG BK101 hg : gb106 ≠ gb101)); replace HO_5 := A_ (Kd.R_below (rU HO_5.out) hb); replace BK101 := A_ (bkB BK101 hb); replace HB := A_ (below_step (bW1 HB.out GE101.out) hb); clear hb hbox hg; have hnb15 := NB106_101.out; have hnc15 := NB101_106.out; have hcz16_0 : w14.cell? ⟨gb106, 0, none⟩ = some (.int .i64 0) := (blk_cell BK106.out 0).trans rfl; have hcz16_1 : w14.cell? ⟨gb106, 1, none⟩ = some (.int .i64 0) := (blk_cell BK106.out 1).trans rfl; have hfz16_0 := blk_frozen BK106.out 0; have hfz16_1 := blk_frozen BK106.out 1; have hcz17_0 : w14.cell? ⟨gb101, 0, none⟩ = some (.int .i64 a0_0) := (blk_cell BK101.out 0).trans rfl; have hcz17_1 : w14.cell? ⟨gb101, 1, none⟩ = some (.slice A0_1 l0_1.length c0_1) := (blk_cell BK101.out 1).trans rfl; have hcz17_2 : w14.cell? ⟨gb101, 2, none⟩ = some (.slice (some ad105) l0_2.length c0_2) := (blk_cell BK101.out 2).trans rfl; have hfz17_0 := blk_frozen BK101.out 0; have hfz17_1 := blk_frozen BK101.out 1; have hfz17_2 := blk_frozen BK101.out 2) | ((with_reducible refine gate_callee (f := 54) rfl ?_); refine goesL_ (some 26) rfl rfl Tryd.func54 (by kernel_rfl) rfl #[.agg #[.int .i64 a0_0, .slice A0_1 l0_1.length c0_1, .slice (some ad105) l0_2.length c0_2], .int .i64 a1, .int .i64 ((rd_T49 l0_2 x18_1).f0)] rfl (by (try simp only [List.map_toArray, List.map_cons, List.map_nil]); first | done | rfl | (simp only [List.length_drop, List.length_take]; rfl)) ?_; (with_reducible refine (feed_grid_group.calls k1 a0_0 _ _ l0_1 _ _ l0_2 a1 ((rd_T49 l0_2 x18_1).f0) t107 _ ?side1 ?side2 ?side3 ?side4 A13.out).mono ?_); (case side1 => exact Kd.C_below HR0_1.out (bW2 HB.out GE101.out GE106.out)); (case side2 => exact HC0_1.out); (case side3 => exact Kd.C_below HR0_2.out (bW2 HB.out GE101.out GE106.out)); (case side4 => exact HC0_2.out); rintro e w18 ⟨rfl, hb⟩; refine ⟨_, rfl, ?_⟩; have n0_ := A_ (Kd.R_below (by (with_reducible repeat (first | apply Kd.R_alloc | apply Kd.R_drewN | apply Kd.R_drew)); exact (Kd.R_mono (Kd.R_far (p := ⟨gb106, 1, none⟩) (Kd.R_far (p := ⟨gb106, 0, none⟩) (Kd.R_types HO_5.out BK106.out (by decide)) (fun _ hk => hk.2) (.int .i64 ((rd_T49 l0_2 x18_1).f0))) (fun _ hk => hk.2) (.int .i64 ((rd_T49 l0_2 x18_1).f1))) (fun _ h_ => h_.1))) hb); have n1_ := A_ (blk_below (g := gb101) (o := .cells #[.int .i64 a0_0, .slice A0_1 l0_1.length c0_1, .slice (some ad105) l0_2.length c0_2] 54 (0, 0)) (bkF2 BK101 NB101_106) hb); have n2_ := A_ (blk_below (g := gb106) (o := .cells #[.int .i64 ((rd_T49 l0_2 x18_1).f0), .int .i64 ((rd_T49 l0_2 x18_1).f1)] 49 (0, 0)) (by (with_reducible repeat (first | refine blk_drewN ?_ _ | refine blk_drew ?_ | refine blk_alloc ?_ _)); refine blk_put (cs := #[.int .i64 ((rd_T49 l0_2 x18_1).f0), .int .i64 0]) ?_ 1 _ rfl; (with_reducible repeat (first | refine blk_drewN ?_ _ | refine blk_drew ?_ | refine blk_alloc ?_ _)); refine blk_put (cs := #[.int .i64 0, .int .i64 0]) ?_ 0 _ rfl; exact bkU BK106) hb); have n3_ := A_ (below_step (bW2 HB.out GE101.out GE106.out) hb); clear HO_5; clear BK101; clear BK106; clear HB; have HO_5 := n0_; have BK101 := n1_; have BK106 := n2_; have HB := n3_; clear n0_ n1_ n2_ n3_; (try clear hb); obtain ⟨Ao19, co19, eo19⟩ := Kd.R_slice HO_5.out; subst eo19))
   go_loopg [29] k1 (fun kq v29 w' => ∃ (x5_2 : List Int) (x29_2 : Int), v29 = .int .i64 x29_2 ∧ Aside0 (feed_grid_fed.l1 kq a1 x5_2 t107 l0_2 (l0_2.length : Int) x18_1 (x5_1.length : Int) x29_2 a0_0 l0_1 l0_2 ((rd_T49 l0_2 x18_1).f0) ((rd_T49 l0_2 x18_1).f1) = some r) ∧ Aside0 (kq ≤ k1) ∧ Aside0 (Kd.R (Kd.int .u64) 61 w' w.heap.size (fun _ => True) (.slice Ao19 x5_1.length co19) x5_2) ∧ Aside0 (w'.heap[gb101]? = some (.cells #[.int .i64 a0_0, (.slice A0_1 l0_1.length c0_1), (.slice (some ad105) l0_2.length c0_2)] 54 (0, 0))) ∧ Aside0 (w'.heap[gb106]? = some (.cells #[.int .i64 ((rd_T49 l0_2 x18_1).f0), .int .i64 ((rd_T49 l0_2 x18_1).f1)] 49 (0, 0))) ∧ Aside0 (Below w.heap.size w w'))
   case atStart => exact ⟨(x5_1), (0), eS, H', ⟨Nat.le_refl _⟩, ⟨rU HO_5.out⟩, ⟨bkU BK101⟩, ⟨bkU BK106⟩, ⟨(bW2 HB.out GE101.out GE106.out)⟩⟩
   case round =>
    clear H'
    try clear c1; try clear p1; try clear q1; try clear hx1; try clear p2; try clear c3; try clear c3b0; try clear c3b1; try clear c4; try clear c4b0; try clear c4b1; try clear c5; try clear c10; try clear c10b0; try clear p10; try clear q10; try clear hx10; try clear c11; try clear c11b0; try clear c12; try clear c12b0; try clear c15; try clear hcz16_0; try clear hcz16_1; try clear hcz17_0; try clear hcz17_1; try clear hcz17_2; try clear hcz6_0; try clear hcz6_1; try clear hcz6_2; try clear hcz9_0; try clear hcz9_1; try clear hcz9_2; try clear hfz16_0; try clear hfz16_1; try clear hfz17_0; try clear hfz17_1; try clear hfz17_2; try clear hfz6_0; try clear hfz6_1; try clear hfz6_2; try clear hfz9_0; try clear hfz9_1; try clear hfz9_2; try clear hx105_0; try clear hx105_1; try clear p105; try clear p2; try clear q105
    obtain ⟨x5_2, x29_2, rfl, HA, HK2, HO_5, BK101, BK106, HB⟩ := hrel; have hl5_2 := (Kd.R_reads' HO_5.out).1; rw [hl5_2] at HO_5
    (try simp only [hl5_2])
    (try simp only [hl5_2] at BK101)
    (try simp only [hl5_2] at BK106)
    cases gk with
    | zero => exact absurd HA.out (by simp [feed_grid_fed.l1])
    | succ k2 =>
     have H := HA.out; clear HA; simp only [feed_grid_fed.l1] at H; by_cases c20 : x29_2 < (x5_1.length : Int); rotate_left
     ·rw [if_neg c20] at H
      have c20b0 : decide (x29_2 < (x5_1.length : Int)) = false := decide_eq_false c20
      (try (have c20b0h := c20b0; simp only [hl5_2] at c20b0h))
      clear c20; have H' := A_ H; clear H
      go_wp2
      (try simp only [← hl5_2])
      go_roundg k2
      case measure => have := HK1.out; have := HK2.out; omega
      case rel => exact ⟨(x5_2), (wrap64 (x18_1 + 1)), eS, H', ⟨by have := HK1.out; have := HK2.out; omega⟩, ⟨by (try simp only [hl5_2]); (with_reducible repeat (first | apply Kd.R_alloc | apply Kd.R_drewN | apply Kd.R_drew)); exact HO_5.out⟩, ⟨by (try simp only [hl5_2]); exact bkU BK101⟩, ⟨(bW2 HB.out GE101.out GE106.out)⟩⟩
     rw [if_pos c20] at H; have c20b0 : decide (x29_2 < (x5_1.length : Int)) = true := decide_eq_true c20
     (try (have c20b0h := c20b0; simp only [hl5_2] at c20b0h))
     clear c20; by_cases c21 : 0 ≤ x29_2; rotate_left
     ·rw [if_neg c21] at H
      exact absurd H (by simp)
     rw [if_pos c21] at H; have c21b0 := eq_true c21; have c21b1 : decide (0 ≤ x29_2) = true := decide_eq_true c21; clear c21; obtain ⟨ji22, hji22⟩ : ∃ j_ : Int, (shr .u64 t107 x29_2) = j_ := ⟨_, rfl⟩
     replace H : (if (Go.bits .and .u64 (ji22) 1) = 1 then (if x29_2 < (x5_2.length : Int) then (if 0 ≤ ((rd_T49 l0_2 x18_1).f1) then (feed_grid_fed.l1 k2 a1 (x5_2.set (x29_2 : Int).toNat (Go.bits .or .u64 (rd x5_2 x29_2) (shl .u64 1 ((rd_T49 l0_2 x18_1).f1)))) t107 l0_2 (l0_2.length : Int) x18_1 (x5_1.length : Int) (wrap64 (x29_2 + 1)) a0_0 l0_1 l0_2 ((rd_T49 l0_2 x18_1).f0) ((rd_T49 l0_2 x18_1).f1)) else (none)) else (none)) else (feed_grid_fed.l1 k2 a1 x5_2 t107 l0_2 (l0_2.length : Int) x18_1 (x5_1.length : Int) (wrap64 (x29_2 + 1)) a0_0 l0_1 l0_2 ((rd_T49 l0_2 x18_1).f0) ((rd_T49 l0_2 x18_1).f1))) = some r := by first | (rw [hji22] at H; exact H) | (simp only [hji22] at H ⊢; exact H)
     have hji22_ : (t107 / 2 ^ min x29_2.toNat 64) = ji22 := hji22; have hji22z : x29_2 ≤ 64 → (t107 / 2 ^ x29_2.toNat) = ji22 := shr_small hji22; by_cases c23 : (Go.bits .and .u64 (ji22) 1) = 1; rotate_left
     ·rw [if_neg c23] at H
      have c23b0 : ((Go.bits .and .u64 (ji22) 1) == 1) = false := beq_eq_false_iff_ne.mpr c23; have c23b1 : ((Go.bits .and .u64 (ji22) 1) != 1) = true := bne_iff_ne.mpr c23; have H' := A_ H; clear H
      go_wp2
      (try simp only [← hl5_2])
      go_roundg k2
      case measure => have := HK1.out; have := HK2.out; omega
      case rel => exact ⟨(x5_2), (wrap64 (x29_2 + 1)), eS, H', ⟨by have := HK1.out; have := HK2.out; omega⟩, ⟨by (try simp only [hl5_2]); (with_reducible repeat (first | apply Kd.R_alloc | apply Kd.R_drewN | apply Kd.R_drew)); exact HO_5.out⟩, ⟨by (try simp only [hl5_2]); exact bkU BK101⟩, ⟨by (try simp only [hl5_2]); exact bkU BK106⟩, ⟨(bW2 HB.out GE101.out GE106.out)⟩⟩
     rw [if_pos c23] at H; have c23b0 : ((Go.bits .and .u64 (ji22) 1) == 1) = true := beq_iff_eq.mpr c23; have c23b1 : ((Go.bits .and .u64 (ji22) 1) != 1) = false := bne_eq_false_iff_eq.mpr c23; clear c23; by_cases c24 : x29_2 < (x5_2.length : Int); rotate_left
     ·rw [if_neg c24] at H
      exact absurd H (by simp)
     rw [if_pos c24] at H; have c24b0 : decide (x29_2 < (x5_2.length : Int)) = true := decide_eq_true c24
     (try (have c24b0h := c24b0; simp only [hl5_2] at c24b0h))
     clear c24; by_cases c25 : 0 ≤ ((rd_T49 l0_2 x18_1).f1); rotate_left
     ·rw [if_neg c25] at H
      exact absurd H (by simp)
     rw [if_pos c25] at H; have c25b0 := eq_true c25; have c25b1 : decide (0 ≤ ((rd_T49 l0_2 x18_1).f1)) = true := decide_eq_true c25; clear c25; obtain ⟨ji26, hji26⟩ : ∃ j_ : Int, (shl .u64 1 ((rd_T49 l0_2 x18_1).f1)) = j_ := ⟨_, rfl⟩
     replace H : (feed_grid_fed.l1 k2 a1 (x5_2.set (x29_2 : Int).toNat (Go.bits .or .u64 (rd x5_2 x29_2) (ji26))) t107 l0_2 (l0_2.length : Int) x18_1 (x5_1.length : Int) (wrap64 (x29_2 + 1)) a0_0 l0_1 l0_2 ((rd_T49 l0_2 x18_1).f0) ((rd_T49 l0_2 x18_1).f1)) = some r := by first | (rw [hji26] at H; exact H) | (simp only [hji26] at H ⊢; exact H)
     have hji26_ : (IntKind.u64.wrap (1 * 2 ^ min ((rd_T49 l0_2 x18_1).f1).toNat 64)) = ji26 := hji26; have hji26z : ((rd_T49 l0_2 x18_1).f1) ≤ 64 → (IntKind.u64.wrap (1 * 2 ^ ((rd_T49 l0_2 x18_1).f1).toNat)) = ji26 := shl_small hji26
     have hji26u : (IntKind.u64.wrap (2 ^ min ((rd_T49 l0_2 x18_1).f1).toNat 64)) = ji26 := by have h_ := hji26_; rw [Int.one_mul] at h_; exact h_
     have hji26v : ((rd_T49 l0_2 x18_1).f1) ≤ 64 → (IntKind.u64.wrap (2 ^ ((rd_T49 l0_2 x18_1).f1).toNat)) = ji26 := fun hle_ => by have h_ := hji26z hle_; rw [Int.one_mul] at h_; exact h_
     obtain ⟨y109, hy109⟩ : ∃ y_ : List Int, y_ = (x5_2.set (x29_2 : Int).toNat (Go.bits .or .u64 (rd x5_2 x29_2) (ji26))) := ⟨_, rfl⟩
     replace H : (feed_grid_fed.l1 k2 a1 y109 t107 l0_2 (l0_2.length : Int) x18_1 (x5_1.length : Int) (wrap64 (x29_2 + 1)) a0_0 l0_1 l0_2 ((rd_T49 l0_2 x18_1).f0) ((rd_T49 l0_2 x18_1).f1)) = some r := by first | (rw [hy109]; with_reducible exact H) | (have H2_ := (Option.bind_some _ _).symm.trans H; rw [hy109]; with_reducible exact H2_) | (have H2_ := (Option.bind_some _ _).symm.trans H; with_reducible exact H2_) | with_reducible exact H | (rw [hy109]; exact H) | exact H
     have Ny109 := A_ hy109; clear hy109; have H' := A_ H; clear H
     try go_wp2
     replace HO_5 := A_ (Kd.R_drew HO_5.out); replace BK101 := A_ (blk_drew BK101.out); replace BK106 := A_ (blk_drew BK106.out); replace HB := A_ (below_drew1 HB.out); have p108 : 0 ≤ (x29_2 : Int) := oD; have q108 : x29_2 < (x5_2.length : Int) := oD; obtain ⟨ad108, e108, hx108_0⟩ := Kd.at_int (Kd.R_reads' HO_5.out).2.2 x29_2 p108 q108
     cases e108
     replace p108 := eq_true p108; replace q108 := eq_true q108; have p27 : 0 ≤ (x29_2 : Int) := oD; have q27 : (x29_2 : Int) < ((x5_2.length : Int) : Int) := oD
     obtain ⟨go27, co27, eo27, gb27, gl27, cl27, HG27⟩ := Kd.R_form HO_5.out (by omega)
     (first | cases eo27 | (injection eo27 with ea_ en_ ec_; (first | subst ea_ | (injection ea_ with ea_; subst ea_)); subst ec_; clear en_))
     have GB27 := A_ gb27; have GG27 := A_ HG27; clear gb27 gl27 HG27
     (first | simp only [add_plain] at hx108_0 | skip)
     obtain ⟨hx27_0, hf27_0⟩ := Kd.R_celln 0 HO_5.out (x29_2 : Int) p27 q27; replace p27 := eq_true p27; replace q27 := eq_true q27; have HP29 := Kd.R_putn HO_5.out (x29_2 : Int) (Go.bits .or .u64 (rd x5_2 x29_2) (ji26)); rw [← Ny109.out] at HP29; have HQ29 := A_ HP29; clear HP29
     refine start_ (n := 10) (S := fun w' => w'.cell? ⟨gb106, 0, none⟩ = some (.int .i64 ((rd_T49 l0_2 x18_1).f0)) ∧ w'.cell? ⟨gb106, 1, none⟩ = some (.int .i64 ((rd_T49 l0_2 x18_1).f1)) ∧ w'.cell? ⟨go27, (x29_2).toNat, none⟩ = some (.int .u64 (rd x5_2 x29_2))) (ds := [9]) (mkB 10 0) (by kernel_rfl) rfl rfl ⟨(blk_cell BK106.out 0).trans rfl, (blk_cell BK106.out 1).trans rfl, hx108_0⟩ (fun hHeld => ?_); refine with_tabW feed_grid_fed.tab10 feed_grid_fed.bits10 (fun HT_ HW_ => ?_)
     generalize wr.drew = w28 at HO_5 BK101 BK106 HB GG27 HQ29 hf27_0 hx108_0 hx27_0 hHeld ⊢; refine pr_ 0 (some 37) (mkB 10 1) HT_ ?_; refine pr_ 1 (some 38) (mkB 10 3) HT_ ?_; refine pr_ 2 (some 39) (mkB 10 7) HT_ ?_; refine pr_ 4 (some 41) (mkB 10 23) HT_ ?_
     refine take_ (i := 3) (N := some 40) (v := ?_) (a' := ?_) (mkB 10 31) rfl rfl (take_ofW HT_.out HW_.out (by kernel_rfl)) (fun _ _ _ h => h) (Or.inl ⟨by rfl, ?_⟩) hHeld ?_ ?_
     rotate_left
     ·rintro w' ⟨s0, s1, s2⟩
      go_simp
      with_reducible rfl
     rotate_left
     ·simp only [Act.put, List.setIfInBounds_toArray, List.set_cons_zero, List.set_cons_succ, i64_w, i32_w]
      rfl
     refine take_ (i := 5) (N := some 42) (v := ?_) (a' := ?_) (mkB 10 63) rfl rfl (take_ofW HT_.out HW_.out (by kernel_rfl)) (fun _ _ _ h => h) (Or.inl ⟨by rfl, ?_⟩) hHeld ?_ ?_
     rotate_left
     ·rintro w' ⟨s0, s1, s2⟩
      go_simp
      with_reducible rfl
     rotate_left
     ·simp only [Act.put, List.setIfInBounds_toArray, List.set_cons_zero, List.set_cons_succ, i64_w, i32_w]
      rfl
     refine pr_ 6 (some 43) (mkB 10 127) HT_ ?_; refine pr_ 7 (some 44) (mkB 10 255) HT_ ?_; refine pr_ 8 (some 45) (mkB 10 511) HT_ ?_
     refine last_ (i := 9) (N := none) (mkB 10 1023) rfl rfl (one_of HT_.out (by kernel_rfl)) (by decide) (fun K hK => ?_)
     refine skip_ (w1 := ?_) (by rfl) rfl ?_ ?_
     rotate_left
     ·go_simp
      rfl
     refine hK.out _ _ ?_
     clear hK K
     refine done_ (done_of HT_.out (by kernel_rfl)) ?_
     try go_wp2
     (try simp only [← hl5_2])
     go_roundg k2
     case measure => have := HK1.out; have := HK2.out; omega
     case rel => exact ⟨(y109), (wrap64 (x29_2 + 1)), eS, H', ⟨by have := HK1.out; have := HK2.out; omega⟩, ⟨by (try simp only [hl5_2]); (with_reducible repeat (first | apply Kd.R_alloc | apply Kd.R_drewN | apply Kd.R_drew)); exact HQ29.out⟩, ⟨by (try simp only [hl5_2]); (with_reducible repeat (first | refine blk_drewN ?_ _ | refine blk_drew ?_ | refine blk_alloc ?_ _)); refine blk_far ?_ (by have h_ := Kd.R_ne HO_5.out BK101.out (by decide); intro e_; exact h_ (by rw [e_]; rfl)) _; exact bkU BK101⟩, ⟨by (try simp only [hl5_2]); (with_reducible repeat (first | refine blk_drewN ?_ _ | refine blk_drew ?_ | refine blk_alloc ?_ _)); refine blk_far ?_ (by have h_ := Kd.R_ne HO_5.out BK106.out (by decide); intro e_; exact h_ (by rw [e_]; rfl)) _; exact bkU BK106⟩, ⟨by repeat (first | (with_reducible first | exact HB.out | apply below_alloc | apply pw_below_drewN | apply below_drew1 | refine below_set ?_ GB27.out | refine below_set ?_ GE101.out | refine below_set ?_ GE106.out) | exact HB.out)⟩⟩
end Go.Proofs.YtbbjonbnmoomlaaDoor.G
end
