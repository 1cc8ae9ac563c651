/- Functions of the seat and plain laws about them: GF31. -/
import Derived.Test.YtbbjonbnmoomlaaDoorGBase
import Derived.Test.YtbbjonbnmoomlaaDoorZI12
section
namespace Go.Proofs.YtbbjonbnmoomlaaDoor.G
open Go.RowKit Go.Proofs.YtbbjonbnmoomlaaDoorW.PrintWords Go.Proofs.YtbbjonbnmoomlaaDoorW.PrintLast Go.Proofs.YtbbjonbnmoomlaaDoorW.PrintMore
attribute [local go_sem] max2_int min2_int max_two min_two max_three min_three max_four min_four
set_option linter.unusedVariables false
set_option linter.unusedSimpArgs false
mutual
def dropperref05_live.l0 : Nat → Int → List Int → Int → Int → List (S47) → List (S49) → Option (List Int)
 | 0, _, _, _, _, _, _ => none
 | k + 1, x1, x5, x6, x102000, x102001, x102002 => if x6 < (x102002.length : Int) then (if 0 ≤ x6 then ((dropperref05_from.f k x102000 x102001 x102002 x1 ((rd_T49 x102002 x6).f0)).bind fun t106 => (dropperref05_live.l1 k x1 x5 x6 t106 0 x102000 x102001 x102002)) else (none)) else (some x5)
def dropperref05_live.l1 : Nat → Int → List Int → Int → List Bool → Int → Int → List (S47) → List (S49) → Option (List Int)
 | 0, _, _, _, _, _, _, _, _ => none
 | k + 1, x1, x5, x6, x7, x8, x102000, x102001, x102002 => if x8 < x102000 then (if 0 ≤ x6 then (if x6 < (x102002.length : Int) then (if 0 ≤ x8 then (if x8 < (x7.length : Int) then (if rdOf false x7 x8 = true then (if x8 < (x5.length : Int) then (if (rd x5 x8) = 0 then (dropperref05_live.l1 k x1 (x5.set (x8 : Int).toNat ((rd_T49 x102002 x6).f1)) x6 x7 (wrap64 (x8 + 1)) x102000 x102001 x102002) else (if (rd x5 x8) = ((rd_T49 x102002 x6).f1) then (dropperref05_live.l1 k x1 x5 x6 x7 (wrap64 (x8 + 1)) x102000 x102001 x102002) else (dropperref05_live.l1 k x1 (x5.set (x8 : Int).toNat (-1)) x6 x7 (wrap64 (x8 + 1)) x102000 x102001 x102002))) else (none)) else (dropperref05_live.l1 k x1 x5 x6 x7 (wrap64 (x8 + 1)) x102000 x102001 x102002)) else (none)) else (none)) else (none)) else (none)) else (dropperref05_live.l0 k x1 x5 (wrap64 (x6 + 1)) x102000 x102001 x102002)
end
def dropperref05_live.f (k : Nat) (a0_0 : Int) (l0_1 : List (S47)) (l0_2 : List (S49)) (a1 : Int) : Option (List Int) := if 0 ≤ a0_0 then (if (a0_0 : Int).toNat ≤ 35184372088832 then (dropperref05_live.l0 k a1 (List.replicate (a0_0 : Int).toNat 0) 0 a0_0 l0_1 l0_2) else (none)) else (none)
def dropperref05_live.T5 : Bool × List (List Nat × List Nat) := (true, [([], []), ([], []), ([], []), ([2], [2]), ([], []), ([3, 4], [3, 4]), ([5], [5]), ([6], [6]), ([0, 1, 7], [0, 1, 7]), ([8, 8, 0, 1, 2, 3, 4, 5, 6, 7, 8], [8])])
def dropperref05_live.B5 : List Nat := [0, 0, 0, 4, 0, 28, 60, 124, 255, 511]
theorem dropperref05_live.tab5 : rtab .any (opsOf Tryd.f31 5) = dropperref05_live.T5 := by kernel_rfl
theorem dropperref05_live.bits5 : waitsOk dropperref05_live.T5.2 dropperref05_live.B5 = true := by kernel_rfl
set_option maxHeartbeats 8000000 in
set_option maxRecDepth 100000 in
theorem dropperref05_live.calls (k : Nat) (a0_0 : Int) (A0_1 : Option Addr) (c0_1 : Nat) (l0_1 : List (S47)) (A0_2 : Option Addr) (c0_2 : Nat) (l0_2 : List (S49)) (a1 : Int) (r : List Int) (w : World) (hr0_1 : Kd.C k47 w A0_1 l0_1.length l0_1) (hc0_1 : l0_1.length ≤ c0_1) (hr0_2 : Kd.C k49 w A0_2 l0_2.length l0_2) (hc0_2 : l0_2.length ≤ c0_2) (h : dropperref05_live.f k a0_0 l0_1 l0_2 a1 = some r) :
  Calls Tryd.prog 31 #[.agg #[.int .i64 a0_0, .slice A0_1 l0_1.length c0_1, .slice A0_2 l0_2.length c0_2], .int .i64 a1] w fun e w' => ∃ v0_ : Value, e = .returned (v0_) ∧ Kd.R (Kd.int .i64) 3 w' w.heap.size (fun _ => True) v0_ r ∧ Below w.heap.size w w' := by
 have hu25 := Tryd.underlying25; have HR0_1 := A_ hr0_1; have HC0_1 := A_ hc0_1; clear hr0_1 hc0_1; have HR0_2 := A_ hr0_2; have HC0_2 := A_ hc0_2; clear hr0_2 hc0_2; have HB := A_ (Below.refl w.heap.size w); have H : (if 0 ≤ a0_0 then (if (a0_0 : Int).toNat ≤ 35184372088832 then (dropperref05_live.l0 k a1 (List.replicate (a0_0 : Int).toNat 0) 0 a0_0 l0_1 l0_2) else (none)) else (none)) = some r := h; clear h; by_cases c3 : 0 ≤ a0_0; rotate_left
 ·rw [if_neg c3] at H
  exact absurd H (by simp)
 rw [if_pos c3] at H; have c3b0 := eq_true c3; have c3b1 : decide (0 ≤ a0_0) = true := decide_eq_true c3; clear c3; by_cases c4 : (a0_0 : Int).toNat ≤ 35184372088832; rotate_left
 ·rw [if_neg c4] at H
  exact absurd H (by simp)
 rw [if_pos c4] at H; have c4b0 := eq_true c4; have c4b1 : decide ((a0_0 : Int).toNat ≤ 35184372088832) = true := decide_eq_true c4; clear c4; obtain ⟨y102, hy102⟩ : ∃ y_ : List Int, y_ = (List.replicate (a0_0 : Int).toNat 0) := ⟨_, rfl⟩
 replace H : (dropperref05_live.l0 k a1 y102 0 a0_0 l0_1 l0_2) = some r := by first | (rw [hy102]; with_reducible exact H) | (have H2_ := (Option.bind_some _ _).symm.trans H; rw [hy102]; with_reducible exact H2_) | (have H2_ := (Option.bind_some _ _).symm.trans H; with_reducible exact H2_) | with_reducible exact H | (rw [hy102]; exact H) | exact H
 have Ny102 := A_ hy102; clear hy102; have H' := A_ H; clear H
 go_enter Tryd.func31, Tryd.ntmps31
 go_wp2_with (first | ((with_reducible refine gate_dst (N := 2) rfl ?_); refine bxW 2 (cs := #[.int .i64 a0_0, .slice A0_1 l0_1.length c0_1, .slice A0_2 l0_2.length c0_2]) (t := 25) ?_; intro gb101 hg w5 hbox hb; have BK101 := A_ (hbox); have GW101 := A_ ((szG hg (bW0 HB.out))); have GE101 := A_ ((szG hg (bW0 HB.out))); replace HB := A_ (below_step (bW0 HB.out) hb); clear hb hbox hg; have hcz6_0 : w5.cell? ⟨gb101, 0, none⟩ = some (.int .i64 a0_0) := (blk_cell BK101.out 0).trans rfl; have hcz6_1 : w5.cell? ⟨gb101, 1, none⟩ = some (.slice A0_1 l0_1.length c0_1) := (blk_cell BK101.out 1).trans rfl; have hcz6_2 : w5.cell? ⟨gb101, 2, none⟩ = some (.slice A0_2 l0_2.length c0_2) := (blk_cell BK101.out 2).trans rfl; have hfz6_0 := blk_frozen BK101.out 0; have hfz6_1 := blk_frozen BK101.out 1; have hfz6_2 := blk_frozen BK101.out 2) | ((with_reducible refine gate_dst (N := 12) rfl ?_); refine Kd.R_make (Kd.int .i64) _ 3 rfl (N := 12) rfl 28 _ _ rfl a0_0 rfl rfl Tryd.underlying28 (.int .i64 0) 8 info3 rfl (by decide) (by omega) 0 (ok := fun _ => True) (okp := fun _ => True) rfl (fun _ hk => hk) trivial (oD) (Nat.le_trans (Nat.mul_le_mul_right _ (oD : a0_0.toNat ≤ 35184372088832)) (by omega)) (Below.refl _ _) (Nat.le_refl _) ?_; intro v103 w7 ho8 hb hg_ hnew_; clear hg_ hnew_; (first | rw [← Ny102.out] at ho8 | (simp only [Int.reduceToNat] at ho8; rw [← Ny102.out] at ho8)); have HO104 := A_ (Kd.R_lower ho8 (below_size (bW1 HB.out GE101.out))); replace BK101 := A_ (bkB BK101 hb); replace HB := A_ (below_step (bW1 HB.out GE101.out) hb); clear hb ho8))
 go_loopg [6] k (fun kq v6 w' => ∃ (x5_1 : List Int) (x6_1 : Int), v6 = .int .i64 x6_1 ∧ Aside0 (dropperref05_live.l0 kq a1 x5_1 x6_1 a0_0 l0_1 l0_2 = some r) ∧ Aside0 (kq ≤ k) ∧ Aside0 (Kd.R (Kd.int .i64) 3 w' w.heap.size (fun _ => True) v103 x5_1) ∧ Aside0 (w'.heap[gb101]? = some (.cells #[.int .i64 a0_0, (.slice A0_1 l0_1.length c0_1), (.slice A0_2 l0_2.length c0_2)] 25 (0, 0))) ∧ Aside0 (Below w.heap.size w w'))
 case atStart => exact ⟨(y102), (0), eS, H', ⟨Nat.le_refl _⟩, ⟨rU HO104.out⟩, ⟨bkU BK101⟩, ⟨(bW1 HB.out GE101.out)⟩⟩
 case round =>
  clear H'
  try clear p2; try clear c3; try clear c3b0; try clear c3b1; try clear c4; try clear c4b0; try clear c4b1; try clear hcz6_0; try clear hcz6_1; try clear hcz6_2; try clear hfz6_0; try clear hfz6_1; try clear hfz6_2
  obtain ⟨x5_1, x6_1, rfl, HA, HK1, HO_5, BK101, HB⟩ := hrel
  cases gk with
  | zero => exact absurd HA.out (by simp [dropperref05_live.l0])
  | succ k1 =>
   have H := HA.out; clear HA; simp only [dropperref05_live.l0] at H; by_cases c9 : x6_1 < (l0_2.length : Int); rotate_left
   ·rw [if_neg c9] at H
    have c9b0 : decide (x6_1 < (l0_2.length : Int)) = false := decide_eq_false c9; clear c9; obtain rfl := Option.some.inj H; have hcz43_0 : wr.cell? ⟨gb101, 0, none⟩ = some (.int .i64 a0_0) := (blk_cell BK101.out 0).trans rfl; have hcz43_1 : wr.cell? ⟨gb101, 1, none⟩ = some (.slice A0_1 l0_1.length c0_1) := (blk_cell BK101.out 1).trans rfl; have hcz43_2 : wr.cell? ⟨gb101, 2, none⟩ = some (.slice A0_2 l0_2.length c0_2) := (blk_cell BK101.out 2).trans rfl; have hfz43_0 := blk_frozen BK101.out 0; have hfz43_1 := blk_frozen BK101.out 1; have hfz43_2 := blk_frozen BK101.out 2
    go_wp2
    go_ret
    exact ⟨_, by first | rfl | (simp [errW_none, errW_some] <;> rfl) | (simp [*, errW_none, errW_some] <;> rfl), by (with_reducible repeat (first | apply Kd.R_alloc | apply Kd.R_drewN | apply Kd.R_drew)); exact HO_5.out, (bW1 HB.out GE101.out)⟩
   rw [if_pos c9] at H; have c9b0 : decide (x6_1 < (l0_2.length : Int)) = true := decide_eq_true c9; clear c9; by_cases c10 : 0 ≤ x6_1; rotate_left
   ·rw [if_neg c10] at H
    exact absurd H (by simp)
   rw [if_pos c10] at H; have c10b0 : decide (0 ≤ x6_1) = true := decide_eq_true c10; clear c10; replace H := Option.bind_eq_some_iff.mp H; obtain ⟨t106, A110, H⟩ := H; (try dsimp only at H); have A11 := A_ A110; clear A110; have H' := A_ H; clear H; have hcz12_0 : wr.cell? ⟨gb101, 0, none⟩ = some (.int .i64 a0_0) := (blk_cell BK101.out 0).trans rfl; have hcz12_1 : wr.cell? ⟨gb101, 1, none⟩ = some (.slice A0_1 l0_1.length c0_1) := (blk_cell BK101.out 1).trans rfl; have hcz12_2 : wr.cell? ⟨gb101, 2, none⟩ = some (.slice A0_2 l0_2.length c0_2) := (blk_cell BK101.out 2).trans rfl; have hfz12_0 := blk_frozen BK101.out 0; have hfz12_1 := blk_frozen BK101.out 1; have hfz12_2 := blk_frozen BK101.out 2
   try go_wp2
   replace HO_5 := A_ (Kd.R_drew HO_5.out); replace BK101 := A_ (blk_drew BK101.out); replace HB := A_ (below_drew1 HB.out); have p105 : 0 ≤ (x6_1 : Int) := oD; have q105 : x6_1 < (l0_2.length : Int) := oD; obtain ⟨ad105, e105, hx105_0, hx105_1⟩ := at_T49 HR0_2.out x6_1 p105 q105; have hw105_1 := hx105_1; have hw105_0 := hx105_0
   cases e105
   replace hx105_0 := (HB.out.cell (World.block_lt_of_cell? w _ hx105_0)).trans hx105_0; replace hx105_1 := (HB.out.cell (World.block_lt_of_cell? w _ hx105_1)).trans hx105_1; replace p105 := eq_true p105; replace q105 := eq_true q105
   refine start_ (n := 10) (S := fun w' => w'.cell? ⟨gb101, 0, none⟩ = some (.int .i64 a0_0) ∧ w'.cell? ⟨gb101, 1, none⟩ = some (.slice A0_1 l0_1.length c0_1) ∧ w'.cell? ⟨gb101, 2, none⟩ = some (.slice (some ad105) l0_2.length c0_2) ∧ w'.cell? (ad105.add ((x6_1).toNat * 2)) = some (.int .i64 ((rd_T49 l0_2 x6_1).f0)) ∧ w'.cell? ⟨(ad105.add ((x6_1).toNat * 2)).block, (ad105.add ((x6_1).toNat * 2)).off + 1, none⟩ = some (.int .i64 ((rd_T49 l0_2 x6_1).f1))) (ds := []) (mkB 10 0) (by kernel_rfl) rfl rfl ⟨(blk_cell BK101.out 0).trans rfl, (blk_cell BK101.out 1).trans rfl, (blk_cell BK101.out 2).trans rfl, (pw_cell_below HB.out hw105_0), (pw_cell_below HB.out hw105_1)⟩ (fun hHeld => ?_); refine with_tabW dropperref05_live.tab5 dropperref05_live.bits5 (fun HT_ HW_ => ?_)
   generalize wr.drew = w13 at HO_5 BK101 HB hx105_0 hx105_1 hHeld ⊢; refine pr_ 1 (some 21) (mkB 10 2) HT_ ?_; refine pr_ 2 (some 22) (mkB 10 6) HT_ ?_; refine pr_ 4 (some 24) (mkB 10 22) HT_ ?_
   refine take_ (i := 0) (N := some 20) (v := ?_) (a' := ?_) (mkB 10 23) rfl rfl (take_ofW HT_.out HW_.out (by kernel_rfl)) (fun _ _ _ h => h) (Or.inl ⟨by rfl, ?_⟩) hHeld ?_ ?_
   rotate_left
   ·rintro w' ⟨s0, s1, s2, s3, s4⟩
    go_simp
    with_reducible rfl
   rotate_left
   ·simp only [Act.put, List.setIfInBounds_toArray, List.set_cons_zero, List.set_cons_succ, i64_w, i32_w]
    rfl
   refine take_ (i := 3) (N := some 23) (v := ?_) (a' := ?_) (mkB 10 31) rfl rfl (take_ofW HT_.out HW_.out (by kernel_rfl)) (fun _ _ _ h => h) (Or.inl ⟨by rfl, ?_⟩) hHeld ?_ ?_
   rotate_left
   ·rintro w' ⟨s0, s1, s2, s3, s4⟩
    go_simp
    with_reducible rfl
   rotate_left
   ·simp only [Act.put, List.setIfInBounds_toArray, List.set_cons_zero, List.set_cons_succ, i64_w, i32_w]
    rfl
   refine pr_ 5 (some 25) (mkB 10 63) HT_ ?_; refine pr_ 6 (some 26) (mkB 10 127) HT_ ?_
   refine take_ (i := 7) (N := some 27) (v := ?_) (a' := ?_) (mkB 10 255) rfl rfl (take_ofW HT_.out HW_.out (by kernel_rfl)) (fun _ _ _ h => h) (Or.inl ⟨by rfl, ?_⟩) hHeld ?_ ?_
   rotate_left
   ·rintro w' ⟨s0, s1, s2, s3, s4⟩
    go_simp
    with_reducible rfl
   rotate_left
   ·simp only [Act.put, List.setIfInBounds_toArray, List.set_cons_zero, List.set_cons_succ, i64_w, i32_w]
    rfl
   refine one_ (i := 8) (N := some 28) (mkB 10 511) rfl rfl (one_of HT_.out (by kernel_rfl)) (by decide) (fun K hK => ?_)
   refine goes_ Tryd.func46 (by kernel_rfl) rfl #[.agg #[.int .i64 a0_0, .slice A0_1 l0_1.length c0_1, .slice (some ad105) l0_2.length c0_2], .int .i64 a1, .int .i64 ((rd_T49 l0_2 x6_1).f0)] (by rfl) rfl rfl (by (try simp only [List.map_toArray, List.map_cons, List.map_nil]); first | done | rfl | (simp only [List.length_drop, List.length_take]; rfl)) ?_
   with_reducible refine (dropperref05_from.calls k1 a0_0 _ _ l0_1 _ _ l0_2 a1 ((rd_T49 l0_2 x6_1).f0) t106 _ ?side1 ?side2 ?side3 ?side4 A11.out).mono ?_
   (case side1 => exact cU (Kd.C_below HR0_1.out HB.out))
   (case side2 => exact HC0_1.out)
   (case side3 => exact cU (Kd.C_below HR0_2.out HB.out))
   (case side4 => exact HC0_2.out)
   rintro e w14 ⟨v107, rfl, ho0, hb⟩
   refine ⟨_, rfl, ?_⟩
   have HO108 := A_ (Kd.R_lower ho0 (below_size (bW1 HB.out GE101.out))); replace HO_5 := A_ (Kd.R_below (rU HO_5.out) hb); replace BK101 := A_ (bkB BK101 hb); replace HB := A_ (below_step (bW1 HB.out GE101.out) hb)
   (try clear hb)
   (try clear hb2)
   (try clear hk)
   (try clear hi)
   (try clear ho0)
   refine hK.out _ _ ⟨(blk_cell BK101.out 0).trans rfl, (blk_cell BK101.out 1).trans rfl, (blk_cell BK101.out 2).trans rfl, (pw_cell_below HB.out hw105_0), (pw_cell_below HB.out hw105_1)⟩ (fun hHeld => ?_)
   clear hK K
   refine norm_ (a' := ?_) ?_ ?_
   rotate_left
   ·show Act.put _ (some 28) _ = _
    simp only [Act.put, List.setIfInBounds_toArray, List.set_cons_zero, List.set_cons_succ, i64_w, i32_w]
    rfl
   refine pr_ 9 (some 7) (mkB 10 1023) HT_ ?_
   refine done_ (done_of HT_.out (by kernel_rfl)) ?_
   try go_wp2
   go_loopg [8] k1 (fun kq v8 w' => ∃ (x5_2 : List Int) (x8_2 : Int), v8 = .int .i64 x8_2 ∧ Aside0 (dropperref05_live.l1 kq a1 x5_2 x6_1 t106 x8_2 a0_0 l0_1 l0_2 = some r) ∧ Aside0 (kq ≤ k1) ∧ Aside0 (Kd.R (Kd.int .i64) 3 w' w.heap.size (fun _ => True) v103 x5_2) ∧ Aside0 (Kd.R Kd.bool 4 w' w.heap.size (fun _ => True) v107 t106) ∧ Aside0 (w'.heap[gb101]? = some (.cells #[.int .i64 a0_0, (.slice A0_1 l0_1.length c0_1), (.slice (some ad105) l0_2.length c0_2)] 25 (0, 0))) ∧ Aside0 (Below w.heap.size w w'))
   case atStart => exact ⟨(x5_1), (0), eS, H', ⟨Nat.le_refl _⟩, ⟨rU HO_5.out⟩, ⟨rU HO108.out⟩, ⟨bkU BK101⟩, ⟨(bW1 HB.out GE101.out)⟩⟩
   case round =>
    clear H'
    try clear c1; try clear p1; try clear q1; try clear hx1; try clear p2; try clear c3; try clear c3b0; try clear c3b1; try clear c4; try clear c4b0; try clear c4b1; try clear c9; try clear c9b0; try clear c10; try clear c10b0; try clear p10; try clear q10; try clear hx10; try clear hcz12_0; try clear hcz12_1; try clear hcz12_2; try clear hcz6_0; try clear hcz6_1; try clear hcz6_2; try clear hfz12_0; try clear hfz12_1; try clear hfz12_2; try clear hfz6_0; try clear hfz6_1; try clear hfz6_2; try clear hx105_0; try clear hx105_1; try clear p105; try clear p2; try clear q105
    obtain ⟨x5_2, x8_2, rfl, HA, HK2, HO_5, HO_7, BK101, HB⟩ := hrel
    cases gk with
    | zero => exact absurd HA.out (by simp [dropperref05_live.l1])
    | succ k2 =>
     have H := HA.out; clear HA; simp only [dropperref05_live.l1] at H; by_cases c15 : x8_2 < a0_0; rotate_left
     ·rw [if_neg c15] at H
      have c15b0 : decide (x8_2 < a0_0) = false := decide_eq_false c15; clear c15; have H' := A_ H; clear H; have hcz42_0 : wr.cell? ⟨gb101, 0, none⟩ = some (.int .i64 a0_0) := (blk_cell BK101.out 0).trans rfl; have hcz42_1 : wr.cell? ⟨gb101, 1, none⟩ = some (.slice A0_1 l0_1.length c0_1) := (blk_cell BK101.out 1).trans rfl; have hcz42_2 : wr.cell? ⟨gb101, 2, none⟩ = some (.slice (some ad105) l0_2.length c0_2) := (blk_cell BK101.out 2).trans rfl; have hfz42_0 := blk_frozen BK101.out 0; have hfz42_1 := blk_frozen BK101.out 1; have hfz42_2 := blk_frozen BK101.out 2
      go_wp2
      go_roundg k2
      case measure => have := HK1.out; have := HK2.out; omega
      case rel => exact ⟨(x5_2), (wrap64 (x6_1 + 1)), eS, H', ⟨by have := HK1.out; have := HK2.out; omega⟩, ⟨rU HO_5.out⟩, ⟨bkU BK101⟩, ⟨(bW1 HB.out GE101.out)⟩⟩
     rw [if_pos c15] at H; have c15b0 : decide (x8_2 < a0_0) = true := decide_eq_true c15; clear c15; by_cases c16 : 0 ≤ x6_1; rotate_left
     ·rw [if_neg c16] at H
      exact absurd H (by simp)
     rw [if_pos c16] at H; have c16b0 : decide (0 ≤ x6_1) = true := decide_eq_true c16; clear c16; by_cases c17 : x6_1 < (l0_2.length : Int); rotate_left
     ·rw [if_neg c17] at H
      exact absurd H (by simp)
     rw [if_pos c17] at H; have c17b0 : decide (x6_1 < (l0_2.length : Int)) = true := decide_eq_true c17; clear c17; by_cases c18 : 0 ≤ x8_2; rotate_left
     ·rw [if_neg c18] at H
      exact absurd H (by simp)
     rw [if_pos c18] at H; have c18b0 : decide (0 ≤ x8_2) = true := decide_eq_true c18; clear c18; by_cases c19 : x8_2 < (t106.length : Int); rotate_left
     ·rw [if_neg c19] at H
      exact absurd H (by simp)
     rw [if_pos c19] at H; have c19b0 : decide (x8_2 < (t106.length : Int)) = true := decide_eq_true c19; clear c19; obtain ⟨bq20, hbq20⟩ : ∃ b_ : Bool, b_ = (rdOf false t106 x8_2) := ⟨_, rfl⟩
     replace H : (if bq20 = true then (if x8_2 < (x5_2.length : Int) then (if (rd x5_2 x8_2) = 0 then (dropperref05_live.l1 k2 a1 (x5_2.set (x8_2 : Int).toNat ((rd_T49 l0_2 x6_1).f1)) x6_1 t106 (wrap64 (x8_2 + 1)) a0_0 l0_1 l0_2) else (if (rd x5_2 x8_2) = ((rd_T49 l0_2 x6_1).f1) then (dropperref05_live.l1 k2 a1 x5_2 x6_1 t106 (wrap64 (x8_2 + 1)) a0_0 l0_1 l0_2) else (dropperref05_live.l1 k2 a1 (x5_2.set (x8_2 : Int).toNat (-1)) x6_1 t106 (wrap64 (x8_2 + 1)) a0_0 l0_1 l0_2))) else (none)) else (dropperref05_live.l1 k2 a1 x5_2 x6_1 t106 (wrap64 (x8_2 + 1)) a0_0 l0_1 l0_2)) = some r := by rw [← hbq20] at H; exact H
     have Nbq20 := A_ hbq20; clear hbq20; by_cases c21 : bq20 = true; rotate_left
     ·replace c21 := Bool.eq_false_iff.mpr c21
      subst c21; rw [if_neg (show ¬ (false = true) by decide)] at H; have H' := A_ H; clear H; have hcz40_0 : wr.cell? ⟨gb101, 0, none⟩ = some (.int .i64 a0_0) := (blk_cell BK101.out 0).trans rfl; have hcz40_1 : wr.cell? ⟨gb101, 1, none⟩ = some (.slice A0_1 l0_1.length c0_1) := (blk_cell BK101.out 1).trans rfl; have hcz40_2 : wr.cell? ⟨gb101, 2, none⟩ = some (.slice (some ad105) l0_2.length c0_2) := (blk_cell BK101.out 2).trans rfl; have hfz40_0 := blk_frozen BK101.out 0; have hfz40_1 := blk_frozen BK101.out 1; have hfz40_2 := blk_frozen BK101.out 2; have p109 : 0 ≤ (x6_1 : Int) := oD; have q109 : x6_1 < (l0_2.length : Int) := oD; obtain ⟨ad109, e109, hx109_0, hx109_1⟩ := at_T49 HR0_2.out x6_1 p109 q109
      obtain rfl : ad105 = ad109 := (by injection e109)
      replace hx109_0 := (HB.out.cell (World.block_lt_of_cell? w _ hx109_0)).trans hx109_0; replace hx109_1 := (HB.out.cell (World.block_lt_of_cell? w _ hx109_1)).trans hx109_1; replace p109 := eq_true p109; replace q109 := eq_true q109; obtain ⟨Ao41, co41, eo41⟩ := Kd.R_slice HO_7.out; subst eo41; have p110 : 0 ≤ (x8_2 : Int) := oD; have q110 : x8_2 < (t106.length : Int) := oD; obtain ⟨ad110, e110, hx110_0⟩ := Kd.at_bool (Kd.R_reads' HO_7.out).2.2 x8_2 p110 q110
      (try rw [← Nbq20.out] at hx110_0)
      cases e110
      replace p110 := eq_true p110; replace q110 := eq_true q110
      go_wp2
      go_roundg k2
      case measure => have := HK1.out; have := HK2.out; omega
      case rel => exact ⟨(x5_2), (wrap64 (x8_2 + 1)), eS, H', ⟨by have := HK1.out; have := HK2.out; omega⟩, ⟨rU HO_5.out⟩, ⟨rU HO_7.out⟩, ⟨bkU BK101⟩, ⟨(bW1 HB.out GE101.out)⟩⟩
     subst c21; rw [if_pos rfl] at H; by_cases c22 : x8_2 < (x5_2.length : Int); rotate_left
     ·rw [if_neg c22] at H
      exact absurd H (by simp)
     rw [if_pos c22] at H; have c22b0 : decide (x8_2 < (x5_2.length : Int)) = true := decide_eq_true c22; clear c22; by_cases c23 : (rd x5_2 x8_2) = 0
     ·rw [if_pos c23] at H
      have c23b0 : ((rd x5_2 x8_2) == 0) = true := beq_iff_eq.mpr c23; have c23b1 : ((rd x5_2 x8_2) != 0) = false := bne_eq_false_iff_eq.mpr c23; clear c23; obtain ⟨y112, hy112⟩ : ∃ y_ : List Int, y_ = (x5_2.set (x8_2 : Int).toNat ((rd_T49 l0_2 x6_1).f1)) := ⟨_, rfl⟩
      replace H : (dropperref05_live.l1 k2 a1 y112 x6_1 t106 (wrap64 (x8_2 + 1)) a0_0 l0_1 l0_2) = some r := by first | (rw [hy112]; with_reducible exact H) | (have H2_ := (Option.bind_some _ _).symm.trans H; rw [hy112]; with_reducible exact H2_) | (have H2_ := (Option.bind_some _ _).symm.trans H; with_reducible exact H2_) | with_reducible exact H | (rw [hy112]; exact H) | exact H
      have Ny112 := A_ hy112; clear hy112; have H' := A_ H; clear H; have hcz25_0 : wr.cell? ⟨gb101, 0, none⟩ = some (.int .i64 a0_0) := (blk_cell BK101.out 0).trans rfl; have hcz25_1 : wr.cell? ⟨gb101, 1, none⟩ = some (.slice A0_1 l0_1.length c0_1) := (blk_cell BK101.out 1).trans rfl; have hcz25_2 : wr.cell? ⟨gb101, 2, none⟩ = some (.slice (some ad105) l0_2.length c0_2) := (blk_cell BK101.out 2).trans rfl; have hfz25_0 := blk_frozen BK101.out 0; have hfz25_1 := blk_frozen BK101.out 1; have hfz25_2 := blk_frozen BK101.out 2; have p109 : 0 ≤ (x6_1 : Int) := oD; have q109 : x6_1 < (l0_2.length : Int) := oD; obtain ⟨ad109, e109, hx109_0, hx109_1⟩ := at_T49 HR0_2.out x6_1 p109 q109
      obtain rfl : ad105 = ad109 := (by injection e109)
      replace hx109_0 := (HB.out.cell (World.block_lt_of_cell? w _ hx109_0)).trans hx109_0; replace hx109_1 := (HB.out.cell (World.block_lt_of_cell? w _ hx109_1)).trans hx109_1; replace p109 := eq_true p109; replace q109 := eq_true q109; obtain ⟨Ao26, co26, eo26⟩ := Kd.R_slice HO_7.out; subst eo26; have p110 : 0 ≤ (x8_2 : Int) := oD; have q110 : x8_2 < (t106.length : Int) := oD; obtain ⟨ad110, e110, hx110_0⟩ := Kd.at_bool (Kd.R_reads' HO_7.out).2.2 x8_2 p110 q110
      (try rw [← Nbq20.out] at hx110_0)
      cases e110
      replace p110 := eq_true p110; replace q110 := eq_true q110; obtain ⟨Ao27, co27, eo27⟩ := Kd.R_slice HO_5.out; subst eo27; have p111 : 0 ≤ (x8_2 : Int) := oD; have q111 : x8_2 < (x5_2.length : Int) := oD; obtain ⟨ad111, e111, hx111_0⟩ := Kd.at_int (Kd.R_reads' HO_5.out).2.2 x8_2 p111 q111
      cases e111
      replace p111 := eq_true p111; replace q111 := eq_true q111; have p24 : 0 ≤ (x8_2 : Int) := oD; have q24 : (x8_2 : Int) < ((x5_2.length : Int) : Int) := oD
      obtain ⟨go24, co24, eo24, gb24, gl24, cl24, HG24⟩ := Kd.R_form HO_5.out (by omega)
      (first | cases eo24 | (injection eo24 with ea_ en_ ec_; (first | subst ea_ | (injection ea_ with ea_; subst ea_)); subst ec_; clear en_))
      have GB24 := A_ gb24; have GG24 := A_ HG24; clear gb24 gl24 HG24
      (first | simp only [add_plain] at hx111_0 | skip)
      obtain ⟨hx24_0, hf24_0⟩ := Kd.R_celln 0 HO_5.out (x8_2 : Int) p24 q24; replace p24 := eq_true p24; replace q24 := eq_true q24; have HP28 := Kd.R_putg HO_5.out (x8_2 : Int) ((rd_T49 l0_2 x6_1).f1)
      go_wp2_with (first | ((with_reducible refine gate_store (t := 3) (p := 56) rfl ?_); refine store_event (t := 3) (p := 56) (v := ?vo_w29) (w1 := (wr.setCell ⟨go24, (x8_2 : Int).toNat, none⟩ (.int .i64 ((rd_T49 l0_2 x6_1).f1)))) ?hg ?ho ?hn ?hr ?_; (case ho => rfl); (case hg => rfl); (case hn => rfl); (case hr => first | (go_simp; done) | (go_simp; rfl)); intro w29 hw; have hg : wr.grownBy w29 (some go24) := (by rw [hw]; exact HP28.2); have hp_ : Kd.R (Kd.int .i64) 3 w29 w.heap.size (fun _ => True) (.slice (some ⟨go24, 0, none⟩) x5_2.length co27) y112 := (by rw [hw, Ny112.out]; exact HP28.1); clear HP28; have n0_ := A_ (hp_); have n1_ := A_ (Kd.R_over' (v := (.slice (some ⟨go24, 0, none⟩) x5_2.length co27)) (rU HO_7.out) (Kd.R_typed HO_5.out) (by decide) hg); have n2_ := A_ (blk_grown (g := gb101) (o := .cells #[.int .i64 a0_0, .slice A0_1 l0_1.length c0_1, .slice (some ad105) l0_2.length c0_2] 25 (0, 0)) (bkU BK101) hg (Kd.R_ne HO_5.out BK101.out (by decide))); have n3_ := A_ ((by rw [hw]; exact below_set (HB.out) GB24.out : Below w.heap.size w w29)); clear HO_5; clear HO_7; clear BK101; clear HB; have HO_5 := n0_; have HO_7 := n1_; have BK101 := n2_; have HB := n3_; clear n0_ n1_ n2_ n3_; clear hg hw hp_))
      go_roundg k2
      case measure => have := HK1.out; have := HK2.out; omega
      case rel => exact ⟨(y112), (wrap64 (x8_2 + 1)), eS, H', ⟨by have := HK1.out; have := HK2.out; omega⟩, ⟨rU HO_5.out⟩, ⟨rU HO_7.out⟩, ⟨bkU BK101⟩, ⟨(bW1 HB.out GE101.out)⟩⟩
     rw [if_neg c23] at H; have c23b0 : ((rd x5_2 x8_2) == 0) = false := beq_eq_false_iff_ne.mpr c23; have c23b1 : ((rd x5_2 x8_2) != 0) = true := bne_iff_ne.mpr c23; by_cases c30 : (rd x5_2 x8_2) = ((rd_T49 l0_2 x6_1).f1)
     ·rw [if_pos c30] at H
      have c30b0 : ((rd x5_2 x8_2) == ((rd_T49 l0_2 x6_1).f1)) = true := beq_iff_eq.mpr c30; have c30b1 : ((rd x5_2 x8_2) != ((rd_T49 l0_2 x6_1).f1)) = false := bne_eq_false_iff_eq.mpr c30; clear c30; have H' := A_ H; clear H; have hcz31_0 : wr.cell? ⟨gb101, 0, none⟩ = some (.int .i64 a0_0) := (blk_cell BK101.out 0).trans rfl; have hcz31_1 : wr.cell? ⟨gb101, 1, none⟩ = some (.slice A0_1 l0_1.length c0_1) := (blk_cell BK101.out 1).trans rfl; have hcz31_2 : wr.cell? ⟨gb101, 2, none⟩ = some (.slice (some ad105) l0_2.length c0_2) := (blk_cell BK101.out 2).trans rfl; have hfz31_0 := blk_frozen BK101.out 0; have hfz31_1 := blk_frozen BK101.out 1; have hfz31_2 := blk_frozen BK101.out 2; have p109 : 0 ≤ (x6_1 : Int) := oD; have q109 : x6_1 < (l0_2.length : Int) := oD; obtain ⟨ad109, e109, hx109_0, hx109_1⟩ := at_T49 HR0_2.out x6_1 p109 q109
      obtain rfl : ad105 = ad109 := (by injection e109)
      replace hx109_0 := (HB.out.cell (World.block_lt_of_cell? w _ hx109_0)).trans hx109_0; replace hx109_1 := (HB.out.cell (World.block_lt_of_cell? w _ hx109_1)).trans hx109_1; replace p109 := eq_true p109; replace q109 := eq_true q109; obtain ⟨Ao32, co32, eo32⟩ := Kd.R_slice HO_7.out; subst eo32; have p110 : 0 ≤ (x8_2 : Int) := oD; have q110 : x8_2 < (t106.length : Int) := oD; obtain ⟨ad110, e110, hx110_0⟩ := Kd.at_bool (Kd.R_reads' HO_7.out).2.2 x8_2 p110 q110
      (try rw [← Nbq20.out] at hx110_0)
      cases e110
      replace p110 := eq_true p110; replace q110 := eq_true q110; obtain ⟨Ao33, co33, eo33⟩ := Kd.R_slice HO_5.out; subst eo33; have p111 : 0 ≤ (x8_2 : Int) := oD; have q111 : x8_2 < (x5_2.length : Int) := oD; obtain ⟨ad111, e111, hx111_0⟩ := Kd.at_int (Kd.R_reads' HO_5.out).2.2 x8_2 p111 q111
      cases e111
      replace p111 := eq_true p111; replace q111 := eq_true q111; have p113 : 0 ≤ (x8_2 : Int) := oD; have q113 : x8_2 < (x5_2.length : Int) := oD; obtain ⟨ad113, e113, hx113_0⟩ := Kd.at_int (Kd.R_reads' HO_5.out).2.2 x8_2 p113 q113
      obtain rfl : ad111 = ad113 := (by injection e113)
      replace p113 := eq_true p113; replace q113 := eq_true q113
      go_wp2
      go_roundg k2
      case measure => have := HK1.out; have := HK2.out; omega
      case rel => exact ⟨(x5_2), (wrap64 (x8_2 + 1)), eS, H', ⟨by have := HK1.out; have := HK2.out; omega⟩, ⟨rU HO_5.out⟩, ⟨rU HO_7.out⟩, ⟨bkU BK101⟩, ⟨(bW1 HB.out GE101.out)⟩⟩
     rw [if_neg c30] at H; have c30b0 : ((rd x5_2 x8_2) == ((rd_T49 l0_2 x6_1).f1)) = false := beq_eq_false_iff_ne.mpr c30; have c30b1 : ((rd x5_2 x8_2) != ((rd_T49 l0_2 x6_1).f1)) = true := bne_iff_ne.mpr c30; obtain ⟨y114, hy114⟩ : ∃ y_ : List Int, y_ = (x5_2.set (x8_2 : Int).toNat (-1)) := ⟨_, rfl⟩
     replace H : (dropperref05_live.l1 k2 a1 y114 x6_1 t106 (wrap64 (x8_2 + 1)) a0_0 l0_1 l0_2) = some r := by first | (rw [hy114]; with_reducible exact H) | (have H2_ := (Option.bind_some _ _).symm.trans H; rw [hy114]; with_reducible exact H2_) | (have H2_ := (Option.bind_some _ _).symm.trans H; with_reducible exact H2_) | with_reducible exact H | (rw [hy114]; exact H) | exact H
     have Ny114 := A_ hy114; clear hy114; have H' := A_ H; clear H; have hcz35_0 : wr.cell? ⟨gb101, 0, none⟩ = some (.int .i64 a0_0) := (blk_cell BK101.out 0).trans rfl; have hcz35_1 : wr.cell? ⟨gb101, 1, none⟩ = some (.slice A0_1 l0_1.length c0_1) := (blk_cell BK101.out 1).trans rfl; have hcz35_2 : wr.cell? ⟨gb101, 2, none⟩ = some (.slice (some ad105) l0_2.length c0_2) := (blk_cell BK101.out 2).trans rfl; have hfz35_0 := blk_frozen BK101.out 0; have hfz35_1 := blk_frozen BK101.out 1; have hfz35_2 := blk_frozen BK101.out 2; have p109 : 0 ≤ (x6_1 : Int) := oD; have q109 : x6_1 < (l0_2.length : Int) := oD; obtain ⟨ad109, e109, hx109_0, hx109_1⟩ := at_T49 HR0_2.out x6_1 p109 q109
     obtain rfl : ad105 = ad109 := (by injection e109)
     replace hx109_0 := (HB.out.cell (World.block_lt_of_cell? w _ hx109_0)).trans hx109_0; replace hx109_1 := (HB.out.cell (World.block_lt_of_cell? w _ hx109_1)).trans hx109_1; replace p109 := eq_true p109; replace q109 := eq_true q109; obtain ⟨Ao36, co36, eo36⟩ := Kd.R_slice HO_7.out; subst eo36; have p110 : 0 ≤ (x8_2 : Int) := oD; have q110 : x8_2 < (t106.length : Int) := oD; obtain ⟨ad110, e110, hx110_0⟩ := Kd.at_bool (Kd.R_reads' HO_7.out).2.2 x8_2 p110 q110
     (try rw [← Nbq20.out] at hx110_0)
     cases e110
     replace p110 := eq_true p110; replace q110 := eq_true q110; obtain ⟨Ao37, co37, eo37⟩ := Kd.R_slice HO_5.out; subst eo37; have p111 : 0 ≤ (x8_2 : Int) := oD; have q111 : x8_2 < (x5_2.length : Int) := oD; obtain ⟨ad111, e111, hx111_0⟩ := Kd.at_int (Kd.R_reads' HO_5.out).2.2 x8_2 p111 q111
     cases e111
     replace p111 := eq_true p111; replace q111 := eq_true q111; have p113 : 0 ≤ (x8_2 : Int) := oD; have q113 : x8_2 < (x5_2.length : Int) := oD; obtain ⟨ad113, e113, hx113_0⟩ := Kd.at_int (Kd.R_reads' HO_5.out).2.2 x8_2 p113 q113
     obtain rfl : ad111 = ad113 := (by injection e113)
     replace p113 := eq_true p113; replace q113 := eq_true q113; have p34 : 0 ≤ (x8_2 : Int) := oD; have q34 : (x8_2 : Int) < ((x5_2.length : Int) : Int) := oD
     obtain ⟨go34, co34, eo34, gb34, gl34, cl34, HG34⟩ := Kd.R_form HO_5.out (by omega)
     (first | cases eo34 | (injection eo34 with ea_ en_ ec_; (first | subst ea_ | (injection ea_ with ea_; subst ea_)); subst ec_; clear en_))
     have GB34 := A_ gb34; have GG34 := A_ HG34; clear gb34 gl34 HG34
     (first | simp only [add_plain] at hx111_0 | skip)
     (first | simp only [add_plain] at hx113_0 | skip)
     obtain ⟨hx34_0, hf34_0⟩ := Kd.R_celln 0 HO_5.out (x8_2 : Int) p34 q34; replace p34 := eq_true p34; replace q34 := eq_true q34; have HP38 := Kd.R_putg HO_5.out (x8_2 : Int) (-1)
     go_wp2_with (first | ((with_reducible refine gate_store (t := 3) (p := 66) rfl ?_); refine store_event (t := 3) (p := 66) (v := ?vo_w39) (w1 := (wr.setCell ⟨go34, (x8_2 : Int).toNat, none⟩ (.int .i64 (-1)))) ?hg ?ho ?hn ?hr ?_; (case ho => rfl); (case hg => rfl); (case hn => rfl); (case hr => first | (go_simp; done) | (go_simp; rfl)); intro w39 hw; have hg : wr.grownBy w39 (some go34) := (by rw [hw]; exact HP38.2); have hp_ : Kd.R (Kd.int .i64) 3 w39 w.heap.size (fun _ => True) (.slice (some ⟨go34, 0, none⟩) x5_2.length co37) y114 := (by rw [hw, Ny114.out]; exact HP38.1); clear HP38; have n0_ := A_ (hp_); have n1_ := A_ (Kd.R_over' (v := (.slice (some ⟨go34, 0, none⟩) x5_2.length co37)) (rU HO_7.out) (Kd.R_typed HO_5.out) (by decide) hg); have n2_ := A_ (blk_grown (g := gb101) (o := .cells #[.int .i64 a0_0, .slice A0_1 l0_1.length c0_1, .slice (some ad105) l0_2.length c0_2] 25 (0, 0)) (bkU BK101) hg (Kd.R_ne HO_5.out BK101.out (by decide))); have n3_ := A_ ((by rw [hw]; exact below_set (HB.out) GB34.out : Below w.heap.size w w39)); clear HO_5; clear HO_7; clear BK101; clear HB; have HO_5 := n0_; have HO_7 := n1_; have BK101 := n2_; have HB := n3_; clear n0_ n1_ n2_ n3_; clear hg hw hp_))
     go_roundg k2
     case measure => have := HK1.out; have := HK2.out; omega
     case rel => exact ⟨(y114), (wrap64 (x8_2 + 1)), eS, H', ⟨by have := HK1.out; have := HK2.out; omega⟩, ⟨rU HO_5.out⟩, ⟨rU HO_7.out⟩, ⟨bkU BK101⟩, ⟨(bW1 HB.out GE101.out)⟩⟩
end Go.Proofs.YtbbjonbnmoomlaaDoor.G
end
