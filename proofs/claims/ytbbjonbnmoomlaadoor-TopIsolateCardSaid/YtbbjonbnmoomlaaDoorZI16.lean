/- Functions of the seat and plain laws about them: GF32, GF14. -/
import Derived.Test.YtbbjonbnmoomlaaDoorGBase
import Derived.Test.YtbbjonbnmoomlaaDoorZI15
import Derived.Test.YtbbjonbnmoomlaaDoorZI7
section
namespace Go.Proofs.YtbbjonbnmoomlaaDoor.G
open Go.RowKit Go.Proofs.YtbbjonbnmoomlaaDoorW.PrintWords Go.Proofs.YtbbjonbnmoomlaaDoorW.PrintLast Go.Proofs.YtbbjonbnmoomlaaDoorW.PrintMore
attribute [local go_sem] max2_int min2_int max_two min_two max_three min_three max_four min_four
set_option linter.unusedVariables false
set_option linter.unusedSimpArgs false
def dropperref05_isFeed.l0 : Nat → Int → Int → List Int → Int → Int → List (S47) → List (S49) → Option (Bool)
 | 0, _, _, _, _, _, _, _ => none
 | k + 1, x1, x2, x3, x9, x102000, x102001, x102002 => if x9 < (x102002.length : Int) then (if 0 ≤ x9 then ((dropperref05_leads.f k x102000 x102001 x102002 x1 ((rd_T49 x102002 x9).f0) x2 x3).bind fun t103 => (if t103 = true then (some true) else (dropperref05_isFeed.l0 k x1 x2 x3 (wrap64 (x9 + 1)) x102000 x102001 x102002))) else (none)) else (some false)
def dropperref05_isFeed.f (k : Nat) (a0_0 : Int) (l0_1 : List (S47)) (l0_2 : List (S49)) (a1 : Int) (a2 : Int) (l3 : List Int) : Option (Bool) := dropperref05_isFeed.l0 k a1 a2 l3 0 a0_0 l0_1 l0_2
def dropperref05_isFeed.T4 : Bool × List (List Nat × List Nat) := (true, [([], []), ([], []), ([], []), ([2], [2]), ([], []), ([3, 4], [3, 4]), ([5], [5]), ([6], [6]), ([], []), ([], []), ([0, 1, 7, 8, 9], [0, 1, 7, 8, 9])])
def dropperref05_isFeed.B4 : List Nat := [0, 0, 0, 4, 0, 28, 60, 124, 0, 0, 1023]
theorem dropperref05_isFeed.tab4 : rtab .any (opsOf Tryd.f32 4) = dropperref05_isFeed.T4 := by kernel_rfl
theorem dropperref05_isFeed.bits4 : waitsOk dropperref05_isFeed.T4.2 dropperref05_isFeed.B4 = true := by kernel_rfl
set_option maxHeartbeats 8000000 in
set_option maxRecDepth 100000 in
theorem dropperref05_isFeed.calls (k : Nat) (a0_0 : Int) (A0_1 : Option Addr) (c0_1 : Nat) (l0_1 : List (S47)) (A0_2 : Option Addr) (c0_2 : Nat) (l0_2 : List (S49)) (a1 : Int) (a2 : Int) (A3 : Option Addr) (c3 : Nat) (l3 : List Int) (r : Bool) (w : World) (hr0_1 : Kd.C k47 w A0_1 l0_1.length l0_1) (hc0_1 : l0_1.length ≤ c0_1) (hr0_2 : Kd.C k49 w A0_2 l0_2.length l0_2) (hc0_2 : l0_2.length ≤ c0_2) (hr3 : Kd.C (Kd.int .i64) w A3 l3.length l3) (hc3 : l3.length ≤ c3) (h : dropperref05_isFeed.f k a0_0 l0_1 l0_2 a1 a2 l3 = some r) :
  Calls Tryd.prog 32 #[.agg #[.int .i64 a0_0, .slice A0_1 l0_1.length c0_1, .slice A0_2 l0_2.length c0_2], .int .i64 a1, .int .i64 a2, .slice A3 l3.length c3] w fun e w' => e = .returned (.bool r) ∧ Below w.heap.size w w' := by
 have hu25 := Tryd.underlying25; have HR0_1 := A_ hr0_1; have HC0_1 := A_ hc0_1; clear hr0_1 hc0_1; have HR0_2 := A_ hr0_2; have HC0_2 := A_ hc0_2; clear hr0_2 hc0_2; have HR3 := A_ hr3; have HC3 := A_ hc3; clear hr3 hc3; have HB := A_ (Below.refl w.heap.size w); have H : (dropperref05_isFeed.l0 k a1 a2 l3 0 a0_0 l0_1 l0_2) = some r := h; clear h; have H' := A_ H; clear H
 go_enter Tryd.func32, Tryd.ntmps32
 go_wp2_with (first | ((with_reducible refine gate_dst (N := 4) rfl ?_); refine bxW 4 (cs := #[.int .i64 a0_0, .slice A0_1 l0_1.length c0_1, .slice A0_2 l0_2.length c0_2]) (t := 25) ?_; intro gb101 hg w5 hbox hb; have BK101 := A_ (hbox); have GW101 := A_ ((szG hg (bW0 HB.out))); have GE101 := A_ ((szG hg (bW0 HB.out))); replace HB := A_ (below_step (bW0 HB.out) hb); clear hb hbox hg))
 go_loopg [9] k (fun kq v9 w' => ∃ (x9_1 : Int), v9 = .int .i64 x9_1 ∧ Aside0 (dropperref05_isFeed.l0 kq a1 a2 l3 x9_1 a0_0 l0_1 l0_2 = some r) ∧ Aside0 (kq ≤ k) ∧ Aside0 (w'.heap[gb101]? = some (.cells #[.int .i64 a0_0, (.slice A0_1 l0_1.length c0_1), (.slice A0_2 l0_2.length c0_2)] 25 (0, 0))) ∧ Aside0 (Below w.heap.size w w'))
 case atStart => exact ⟨(0), eS, H', ⟨Nat.le_refl _⟩, ⟨bkU BK101⟩, ⟨(bW1 HB.out GE101.out)⟩⟩
 case round =>
  clear H'
  try clear p2; try clear c3
  obtain ⟨x9_1, rfl, HA, HK1, BK101, HB⟩ := hrel
  cases gk with
  | zero => exact absurd HA.out (by simp [dropperref05_isFeed.l0])
  | succ k1 =>
   have H := HA.out; clear HA; simp only [dropperref05_isFeed.l0] at H; by_cases c6 : x9_1 < (l0_2.length : Int); rotate_left
   ·rw [if_neg c6] at H
    have c6b0 : decide (x9_1 < (l0_2.length : Int)) = false := decide_eq_false c6; clear c6; obtain rfl := Option.some.inj H; have hcz16_0 : wr.cell? ⟨gb101, 0, none⟩ = some (.int .i64 a0_0) := (blk_cell BK101.out 0).trans rfl; have hcz16_1 : wr.cell? ⟨gb101, 1, none⟩ = some (.slice A0_1 l0_1.length c0_1) := (blk_cell BK101.out 1).trans rfl; have hcz16_2 : wr.cell? ⟨gb101, 2, none⟩ = some (.slice A0_2 l0_2.length c0_2) := (blk_cell BK101.out 2).trans rfl; have hfz16_0 := blk_frozen BK101.out 0; have hfz16_1 := blk_frozen BK101.out 1; have hfz16_2 := blk_frozen BK101.out 2
    go_wp2
    go_ret
    exact ⟨eQ, (bW1 HB.out GE101.out)⟩
   rw [if_pos c6] at H; have c6b0 : decide (x9_1 < (l0_2.length : Int)) = true := decide_eq_true c6; clear c6; by_cases c7 : 0 ≤ x9_1; rotate_left
   ·rw [if_neg c7] at H
    exact absurd H (by simp)
   rw [if_pos c7] at H; have c7b0 : decide (0 ≤ x9_1) = true := decide_eq_true c7; clear c7; replace H := Option.bind_eq_some_iff.mp H; obtain ⟨t103, A80, H⟩ := H; (try dsimp only at H); have A8 := A_ A80; clear A80; by_cases c9 : t103 = true
   ·subst c9
    rw [if_pos rfl] at H; obtain rfl := Option.some.inj H; have hcz10_0 : wr.cell? ⟨gb101, 0, none⟩ = some (.int .i64 a0_0) := (blk_cell BK101.out 0).trans rfl; have hcz10_1 : wr.cell? ⟨gb101, 1, none⟩ = some (.slice A0_1 l0_1.length c0_1) := (blk_cell BK101.out 1).trans rfl; have hcz10_2 : wr.cell? ⟨gb101, 2, none⟩ = some (.slice A0_2 l0_2.length c0_2) := (blk_cell BK101.out 2).trans rfl; have hfz10_0 := blk_frozen BK101.out 0; have hfz10_1 := blk_frozen BK101.out 1; have hfz10_2 := blk_frozen BK101.out 2
    try go_wp2
    replace BK101 := A_ (blk_drew BK101.out); replace HB := A_ (below_drew1 HB.out); have p102 : 0 ≤ (x9_1 : Int) := oD; have q102 : x9_1 < (l0_2.length : Int) := oD; obtain ⟨ad102, e102, hx102_0, hx102_1⟩ := at_T49 HR0_2.out x9_1 p102 q102; have hw102_1 := hx102_1; have hw102_0 := hx102_0
    cases e102
    replace hx102_0 := (HB.out.cell (World.block_lt_of_cell? w _ hx102_0)).trans hx102_0; replace hx102_1 := (HB.out.cell (World.block_lt_of_cell? w _ hx102_1)).trans hx102_1; replace p102 := eq_true p102; replace q102 := eq_true q102
    refine start_ (n := 11) (S := fun w' => w'.cell? ⟨gb101, 0, none⟩ = some (.int .i64 a0_0) ∧ w'.cell? ⟨gb101, 1, none⟩ = some (.slice A0_1 l0_1.length c0_1) ∧ w'.cell? ⟨gb101, 2, none⟩ = some (.slice (some ad102) l0_2.length c0_2) ∧ w'.cell? (ad102.add ((x9_1).toNat * 2)) = some (.int .i64 ((rd_T49 l0_2 x9_1).f0)) ∧ w'.cell? ⟨(ad102.add ((x9_1).toNat * 2)).block, (ad102.add ((x9_1).toNat * 2)).off + 1, none⟩ = some (.int .i64 ((rd_T49 l0_2 x9_1).f1))) (ds := []) (mkB 11 0) (by kernel_rfl) rfl rfl ⟨(blk_cell BK101.out 0).trans rfl, (blk_cell BK101.out 1).trans rfl, (blk_cell BK101.out 2).trans rfl, (pw_cell_below HB.out hw102_0), (pw_cell_below HB.out hw102_1)⟩ (fun hHeld => ?_); refine with_tabW dropperref05_isFeed.tab4 dropperref05_isFeed.bits4 (fun HT_ HW_ => ?_)
    generalize wr.drew = w11 at BK101 HB hx102_0 hx102_1 hHeld ⊢; refine pr_ 1 (some 18) (mkB 11 2) HT_ ?_; refine pr_ 2 (some 19) (mkB 11 6) HT_ ?_; refine pr_ 4 (some 21) (mkB 11 22) HT_ ?_; refine pr_ 8 (some 25) (mkB 11 278) HT_ ?_; refine pr_ 9 (some 26) (mkB 11 790) HT_ ?_
    refine take_ (i := 0) (N := some 17) (v := ?_) (a' := ?_) (mkB 11 791) rfl rfl (take_ofW HT_.out HW_.out (by kernel_rfl)) (fun _ _ _ h => h) (Or.inl ⟨by rfl, ?_⟩) hHeld ?_ ?_
    rotate_left
    ·rintro w' ⟨s0, s1, s2, s3, s4⟩
     go_simp
     with_reducible rfl
    rotate_left
    ·simp only [Act.put, List.setIfInBounds_toArray, List.set_cons_zero, List.set_cons_succ, i64_w, i32_w]
     rfl
    refine take_ (i := 3) (N := some 20) (v := ?_) (a' := ?_) (mkB 11 799) rfl rfl (take_ofW HT_.out HW_.out (by kernel_rfl)) (fun _ _ _ h => h) (Or.inl ⟨by rfl, ?_⟩) hHeld ?_ ?_
    rotate_left
    ·rintro w' ⟨s0, s1, s2, s3, s4⟩
     go_simp
     with_reducible rfl
    rotate_left
    ·simp only [Act.put, List.setIfInBounds_toArray, List.set_cons_zero, List.set_cons_succ, i64_w, i32_w]
     rfl
    refine pr_ 5 (some 22) (mkB 11 831) HT_ ?_; refine pr_ 6 (some 23) (mkB 11 895) HT_ ?_
    refine take_ (i := 7) (N := some 24) (v := ?_) (a' := ?_) (mkB 11 1023) rfl rfl (take_ofW HT_.out HW_.out (by kernel_rfl)) (fun _ _ _ h => h) (Or.inl ⟨by rfl, ?_⟩) hHeld ?_ ?_
    rotate_left
    ·rintro w' ⟨s0, s1, s2, s3, s4⟩
     go_simp
     with_reducible rfl
    rotate_left
    ·simp only [Act.put, List.setIfInBounds_toArray, List.set_cons_zero, List.set_cons_succ, i64_w, i32_w]
     rfl
    refine one_ (i := 10) (N := some 27) (mkB 11 2047) rfl rfl (one_of HT_.out (by kernel_rfl)) (by decide) (fun K hK => ?_)
    refine goes_ Tryd.func47 (by kernel_rfl) rfl #[.agg #[.int .i64 a0_0, .slice A0_1 l0_1.length c0_1, .slice (some ad102) l0_2.length c0_2], .int .i64 a1, .int .i64 ((rd_T49 l0_2 x9_1).f0), .int .i64 a2, .slice A3 l3.length c3] (by rfl) rfl rfl (by (try simp only [List.map_toArray, List.map_cons, List.map_nil]); first | done | rfl | (simp only [List.length_drop, List.length_take]; rfl)) ?_
    with_reducible refine (dropperref05_leads.calls k1 a0_0 _ _ l0_1 _ _ l0_2 a1 ((rd_T49 l0_2 x9_1).f0) a2 _ _ l3 true _ ?side1 ?side2 ?side3 ?side4 ?side5 ?side6 A8.out).mono ?_
    (case side1 => exact cU (Kd.C_below HR0_1.out HB.out))
    (case side2 => exact HC0_1.out)
    (case side3 => exact cU (Kd.C_below HR0_2.out HB.out))
    (case side4 => exact HC0_2.out)
    (case side5 => exact cU (Kd.C_below HR3.out HB.out))
    (case side6 => exact HC3.out)
    rintro e w12 ⟨rfl, hb⟩
    refine ⟨_, rfl, ?_⟩
    replace BK101 := A_ (bkB BK101 hb); replace HB := A_ (below_step (bW1 HB.out GE101.out) hb)
    (try clear hb)
    (try clear hb2)
    (try clear hk)
    (try clear hi)
    refine hK.out _ _ ⟨(blk_cell BK101.out 0).trans rfl, (blk_cell BK101.out 1).trans rfl, (blk_cell BK101.out 2).trans rfl, (pw_cell_below HB.out hw102_0), (pw_cell_below HB.out hw102_1)⟩ (fun hHeld => ?_)
    clear hK K
    refine norm_ (a' := ?_) ?_ ?_
    rotate_left
    ·show Act.put _ (some 27) _ = _
     simp only [Act.put, List.setIfInBounds_toArray, List.set_cons_zero, List.set_cons_succ, i64_w, i32_w]
     rfl
    refine done_ (done_of HT_.out (by kernel_rfl)) ?_
    try go_wp2
    go_ret
    exact ⟨eQ, (bW1 HB.out GE101.out)⟩
   replace c9 := Bool.eq_false_iff.mpr c9; subst c9; rw [if_neg (show ¬ (false = true) by decide)] at H; have H' := A_ H; clear H; have hcz13_0 : wr.cell? ⟨gb101, 0, none⟩ = some (.int .i64 a0_0) := (blk_cell BK101.out 0).trans rfl; have hcz13_1 : wr.cell? ⟨gb101, 1, none⟩ = some (.slice A0_1 l0_1.length c0_1) := (blk_cell BK101.out 1).trans rfl; have hcz13_2 : wr.cell? ⟨gb101, 2, none⟩ = some (.slice A0_2 l0_2.length c0_2) := (blk_cell BK101.out 2).trans rfl; have hfz13_0 := blk_frozen BK101.out 0; have hfz13_1 := blk_frozen BK101.out 1; have hfz13_2 := blk_frozen BK101.out 2
   try go_wp2
   replace BK101 := A_ (blk_drew BK101.out); replace HB := A_ (below_drew1 HB.out); have p102 : 0 ≤ (x9_1 : Int) := oD; have q102 : x9_1 < (l0_2.length : Int) := oD; obtain ⟨ad102, e102, hx102_0, hx102_1⟩ := at_T49 HR0_2.out x9_1 p102 q102; have hw102_1 := hx102_1; have hw102_0 := hx102_0
   cases e102
   replace hx102_0 := (HB.out.cell (World.block_lt_of_cell? w _ hx102_0)).trans hx102_0; replace hx102_1 := (HB.out.cell (World.block_lt_of_cell? w _ hx102_1)).trans hx102_1; replace p102 := eq_true p102; replace q102 := eq_true q102
   refine start_ (n := 11) (S := fun w' => w'.cell? ⟨gb101, 0, none⟩ = some (.int .i64 a0_0) ∧ w'.cell? ⟨gb101, 1, none⟩ = some (.slice A0_1 l0_1.length c0_1) ∧ w'.cell? ⟨gb101, 2, none⟩ = some (.slice (some ad102) l0_2.length c0_2) ∧ w'.cell? (ad102.add ((x9_1).toNat * 2)) = some (.int .i64 ((rd_T49 l0_2 x9_1).f0)) ∧ w'.cell? ⟨(ad102.add ((x9_1).toNat * 2)).block, (ad102.add ((x9_1).toNat * 2)).off + 1, none⟩ = some (.int .i64 ((rd_T49 l0_2 x9_1).f1))) (ds := []) (mkB 11 0) (by kernel_rfl) rfl rfl ⟨(blk_cell BK101.out 0).trans rfl, (blk_cell BK101.out 1).trans rfl, (blk_cell BK101.out 2).trans rfl, (pw_cell_below HB.out hw102_0), (pw_cell_below HB.out hw102_1)⟩ (fun hHeld => ?_); refine with_tabW dropperref05_isFeed.tab4 dropperref05_isFeed.bits4 (fun HT_ HW_ => ?_)
   generalize wr.drew = w14 at BK101 HB hx102_0 hx102_1 hHeld ⊢; refine pr_ 1 (some 18) (mkB 11 2) HT_ ?_; refine pr_ 2 (some 19) (mkB 11 6) HT_ ?_; refine pr_ 4 (some 21) (mkB 11 22) HT_ ?_; refine pr_ 8 (some 25) (mkB 11 278) HT_ ?_; refine pr_ 9 (some 26) (mkB 11 790) HT_ ?_
   refine take_ (i := 0) (N := some 17) (v := ?_) (a' := ?_) (mkB 11 791) rfl rfl (take_ofW HT_.out HW_.out (by kernel_rfl)) (fun _ _ _ h => h) (Or.inl ⟨by rfl, ?_⟩) hHeld ?_ ?_
   rotate_left
   ·rintro w' ⟨s0, s1, s2, s3, s4⟩
    go_simp
    with_reducible rfl
   rotate_left
   ·simp only [Act.put, List.setIfInBounds_toArray, List.set_cons_zero, List.set_cons_succ, i64_w, i32_w]
    rfl
   refine take_ (i := 3) (N := some 20) (v := ?_) (a' := ?_) (mkB 11 799) rfl rfl (take_ofW HT_.out HW_.out (by kernel_rfl)) (fun _ _ _ h => h) (Or.inl ⟨by rfl, ?_⟩) hHeld ?_ ?_
   rotate_left
   ·rintro w' ⟨s0, s1, s2, s3, s4⟩
    go_simp
    with_reducible rfl
   rotate_left
   ·simp only [Act.put, List.setIfInBounds_toArray, List.set_cons_zero, List.set_cons_succ, i64_w, i32_w]
    rfl
   refine pr_ 5 (some 22) (mkB 11 831) HT_ ?_; refine pr_ 6 (some 23) (mkB 11 895) HT_ ?_
   refine take_ (i := 7) (N := some 24) (v := ?_) (a' := ?_) (mkB 11 1023) rfl rfl (take_ofW HT_.out HW_.out (by kernel_rfl)) (fun _ _ _ h => h) (Or.inl ⟨by rfl, ?_⟩) hHeld ?_ ?_
   rotate_left
   ·rintro w' ⟨s0, s1, s2, s3, s4⟩
    go_simp
    with_reducible rfl
   rotate_left
   ·simp only [Act.put, List.setIfInBounds_toArray, List.set_cons_zero, List.set_cons_succ, i64_w, i32_w]
    rfl
   refine one_ (i := 10) (N := some 27) (mkB 11 2047) rfl rfl (one_of HT_.out (by kernel_rfl)) (by decide) (fun K hK => ?_)
   refine goes_ Tryd.func47 (by kernel_rfl) rfl #[.agg #[.int .i64 a0_0, .slice A0_1 l0_1.length c0_1, .slice (some ad102) l0_2.length c0_2], .int .i64 a1, .int .i64 ((rd_T49 l0_2 x9_1).f0), .int .i64 a2, .slice A3 l3.length c3] (by rfl) rfl rfl (by (try simp only [List.map_toArray, List.map_cons, List.map_nil]); first | done | rfl | (simp only [List.length_drop, List.length_take]; rfl)) ?_
   with_reducible refine (dropperref05_leads.calls k1 a0_0 _ _ l0_1 _ _ l0_2 a1 ((rd_T49 l0_2 x9_1).f0) a2 _ _ l3 false _ ?side1 ?side2 ?side3 ?side4 ?side5 ?side6 A8.out).mono ?_
   (case side1 => exact cU (Kd.C_below HR0_1.out HB.out))
   (case side2 => exact HC0_1.out)
   (case side3 => exact cU (Kd.C_below HR0_2.out HB.out))
   (case side4 => exact HC0_2.out)
   (case side5 => exact cU (Kd.C_below HR3.out HB.out))
   (case side6 => exact HC3.out)
   rintro e w15 ⟨rfl, hb⟩
   refine ⟨_, rfl, ?_⟩
   replace BK101 := A_ (bkB BK101 hb); replace HB := A_ (below_step (bW1 HB.out GE101.out) hb)
   (try clear hb)
   (try clear hb2)
   (try clear hk)
   (try clear hi)
   refine hK.out _ _ ⟨(blk_cell BK101.out 0).trans rfl, (blk_cell BK101.out 1).trans rfl, (blk_cell BK101.out 2).trans rfl, (pw_cell_below HB.out hw102_0), (pw_cell_below HB.out hw102_1)⟩ (fun hHeld => ?_)
   clear hK K
   refine norm_ (a' := ?_) ?_ ?_
   rotate_left
   ·show Act.put _ (some 27) _ = _
    simp only [Act.put, List.setIfInBounds_toArray, List.set_cons_zero, List.set_cons_succ, i64_w, i32_w]
    rfl
   refine done_ (done_of HT_.out (by kernel_rfl)) ?_
   try go_wp2
   go_roundg k1
   case measure => have := HK1.out; omega
   case rel => exact ⟨(wrap64 (x9_1 + 1)), eS, H', ⟨by have := HK1.out; omega⟩, ⟨bkU BK101⟩, ⟨(bW1 HB.out GE101.out)⟩⟩
mutual
def dropperref05_AreFeeds.l0 : Nat → Int → Int → List (List Int) → List Bool → Int → Int → List (S47) → List (S49) → Option (Bool × Int)
 | 0, _, _, _, _, _, _, _, _ => none
 | k + 1, x1, x2, x3, x11, x12, x102000, x102001, x102002 => if x12 < (x3.length : Int) then (if 0 ≤ x12 then ((dropperref05_isFeed.f k x102000 x102001 x102002 x1 x2 (rd_L4 x3 x12)).bind fun t107 => (if t107 = true then (dropperref05_AreFeeds.l1 k x1 x2 x3 x11 x12 0 x102000 x102001 x102002) else (some (false, 0)))) else (none)) else (some (true, 0))
def dropperref05_AreFeeds.l1 : Nat → Int → Int → List (List Int) → List Bool → Int → Int → Int → List (S47) → List (S49) → Option (Bool × Int)
 | 0, _, _, _, _, _, _, _, _, _ => none
 | k + 1, x1, x2, x3, x11, x12, x13, x102000, x102001, x102002 => if 0 ≤ x12 then (if x12 < (x3.length : Int) then (if x13 < ((rd_L4 x3 x12).length : Int) then (if 0 ≤ x13 then (if 0 ≤ (rd (rd_L4 x3 x12) x13) then (if (rd (rd_L4 x3 x12) x13) < (x11.length : Int) then (if rdOf false x11 (rd (rd_L4 x3 x12) x13) = true then (some (false, 0)) else (dropperref05_AreFeeds.l1 k x1 x2 x3 (x11.set ((rd (rd_L4 x3 x12) x13) : Int).toNat true) x12 (wrap64 (x13 + 1)) x102000 x102001 x102002)) else (none)) else (none)) else (none)) else (dropperref05_AreFeeds.l0 k x1 x2 x3 x11 (wrap64 (x12 + 1)) x102000 x102001 x102002)) else (none)) else (none)
end
def dropperref05_AreFeeds.f (k : Nat) (a0_0 : Int) (l0_1 : List (S47)) (l0_2 : List (S49)) (a1 : Int) (a2 : Int) (l3 : List (List Int)) : Option (Bool × Int) := (dropperref05_Why.f k a0_0 l0_1 l0_2 a1 a2).bind fun t102 => (if t102 = 0 then (if (l3.length : Int) > 20 then (some (false, 0)) else (if 0 ≤ (l0_1.length : Int) then (if ((l0_1.length : Int) : Int).toNat ≤ 281474976710656 then (dropperref05_AreFeeds.l0 k a1 a2 l3 (List.replicate ((l0_1.length : Int) : Int).toNat false) 0 a0_0 l0_1 l0_2) else (none)) else (none))) else (some (false, t102)))
def dropperref05_AreFeeds.T10 : Bool × List (List Nat × List Nat) := (true, [([], []), ([], []), ([], []), ([], []), ([], []), ([3, 4], [3, 4]), ([5], [5]), ([0, 1, 2, 6], [0, 1, 2, 6]), ([7], [7])])
def dropperref05_AreFeeds.B10 : List Nat := [0, 0, 0, 0, 0, 24, 56, 127, 255]
theorem dropperref05_AreFeeds.tab10 : rtab .any (opsOf Tryd.f14 10) = dropperref05_AreFeeds.T10 := by kernel_rfl
theorem dropperref05_AreFeeds.bits10 : waitsOk dropperref05_AreFeeds.T10.2 dropperref05_AreFeeds.B10 = true := by kernel_rfl
set_option maxHeartbeats 8000000 in
set_option maxRecDepth 100000 in
theorem dropperref05_AreFeeds.calls (k : Nat) (a0_0 : Int) (A0_1 : Option Addr) (c0_1 : Nat) (l0_1 : List (S47)) (A0_2 : Option Addr) (c0_2 : Nat) (l0_2 : List (S49)) (a1 : Int) (a2 : Int) (A3 : Option Addr) (c3 : Nat) (l3 : List (List Int)) (r1 : Bool) (r2 : Int) (w : World) (hr0_1 : Kd.C k47 w A0_1 l0_1.length l0_1) (hc0_1 : l0_1.length ≤ c0_1) (hr0_2 : Kd.C k49 w A0_2 l0_2.length l0_2) (hc0_2 : l0_2.length ≤ c0_2) (hr3 : Kd.C (Kd.slice 3 (Kd.int .i64)) w A3 l3.length l3) (hc3 : l3.length ≤ c3) (h : dropperref05_AreFeeds.f k a0_0 l0_1 l0_2 a1 a2 l3 = some (r1, r2)) :
  Calls Tryd.prog 14 #[.agg #[.int .i64 a0_0, .slice A0_1 l0_1.length c0_1, .slice A0_2 l0_2.length c0_2], .int .i64 a1, .int .i64 a2, .slice A3 l3.length c3] w fun e w' => e = .returned (.tuple #[.bool r1, .int .i64 r2]) ∧ Below w.heap.size w w' := by
 have hu25 := Tryd.underlying25; have HR0_1 := A_ hr0_1; have HC0_1 := A_ hc0_1; clear hr0_1 hc0_1; have HR0_2 := A_ hr0_2; have HC0_2 := A_ hc0_2; clear hr0_2 hc0_2; have HR3 := A_ hr3; have HC3 := A_ hc3; clear hr3 hc3; have HB := A_ (Below.refl w.heap.size w)
 have H : ((dropperref05_Why.f k a0_0 l0_1 l0_2 a1 a2).bind fun t102 => (if t102 = 0 then (if (l3.length : Int) > 20 then (some (false, 0)) else (if 0 ≤ (l0_1.length : Int) then (if ((l0_1.length : Int) : Int).toNat ≤ 281474976710656 then (dropperref05_AreFeeds.l0 k a1 a2 l3 (List.replicate ((l0_1.length : Int) : Int).toNat false) 0 a0_0 l0_1 l0_2) else (none)) else (none))) else (some (false, t102)))) = some (r1, r2) := h
 clear h; replace H := Option.bind_eq_some_iff.mp H; obtain ⟨t102, A50, H⟩ := H; (try dsimp only at H); have A5 := A_ A50; clear A50; by_cases c6 : t102 = 0; rotate_left
 ·rw [if_neg c6] at H
  have c6b0 : (t102 == 0) = false := beq_eq_false_iff_ne.mpr c6; have c6b1 : (t102 != 0) = true := bne_iff_ne.mpr c6; simp only [Option.some.injEq, Prod.mk.injEq] at H; obtain ⟨rfl, rfl⟩ := H
  go_enter Tryd.func14, Tryd.ntmps14
  go_wp2_with (first | ((with_reducible refine gate_dst (N := 4) rfl ?_); refine bxW 4 (cs := #[.int .i64 a0_0, .slice A0_1 l0_1.length c0_1, .slice A0_2 l0_2.length c0_2]) (t := 25) ?_; intro gb101 hg w40 hbox hb; have BK101 := A_ (hbox); have GW101 := A_ ((szG hg (bW0 HB.out))); have GE101 := A_ ((szG hg (bW0 HB.out))); replace HB := A_ (below_step (bW0 HB.out) hb); clear hb hbox hg; have hcz41_0 : w40.cell? ⟨gb101, 0, none⟩ = some (.int .i64 a0_0) := (blk_cell BK101.out 0).trans rfl; have hcz41_1 : w40.cell? ⟨gb101, 1, none⟩ = some (.slice A0_1 l0_1.length c0_1) := (blk_cell BK101.out 1).trans rfl; have hcz41_2 : w40.cell? ⟨gb101, 2, none⟩ = some (.slice A0_2 l0_2.length c0_2) := (blk_cell BK101.out 2).trans rfl; have hfz41_0 := blk_frozen BK101.out 0; have hfz41_1 := blk_frozen BK101.out 1; have hfz41_2 := blk_frozen BK101.out 2) | ((with_reducible refine gate_callee (f := 6) rfl ?_); refine goesL_ (some 17) rfl rfl Tryd.func6 (by kernel_rfl) rfl #[.agg #[.int .i64 a0_0, .slice A0_1 l0_1.length c0_1, .slice A0_2 l0_2.length c0_2], .int .i64 a1, .int .i64 a2] rfl (by (try simp only [List.map_toArray, List.map_cons, List.map_nil]); first | done | rfl | (simp only [List.length_drop, List.length_take]; rfl)) ?_; (with_reducible refine (dropperref05_Why.calls k a0_0 _ _ l0_1 _ _ l0_2 a1 a2 t102 _ ?side1 ?side2 ?side3 ?side4 A5.out).mono ?_); (case side1 => exact cU (Kd.C_below HR0_1.out HB.out)); (case side2 => exact HC0_1.out); (case side3 => exact cU (Kd.C_below HR0_2.out HB.out)); (case side4 => exact HC0_2.out); rintro e w42 ⟨rfl, hb⟩; refine ⟨_, rfl, ?_⟩; replace BK101 := A_ (bkB BK101 hb); replace HB := A_ (below_step (bW1 HB.out GE101.out) hb); (try clear hb)))
  go_ret2
  exact ⟨eQ, (bW1 HB.out GE101.out)⟩
 rw [if_pos c6] at H; have c6b0 : (t102 == 0) = true := beq_iff_eq.mpr c6; have c6b1 : (t102 != 0) = false := bne_eq_false_iff_eq.mpr c6; clear c6; by_cases c7 : (l3.length : Int) > 20
 ·rw [if_pos c7] at H
  have c7b0 : decide (20 < (l3.length : Int)) = true := decide_eq_true c7
  have c7b1 : decide (20 < l3.length) = true := decide_eq_true (by omega)
  clear c7; simp only [Option.some.injEq, Prod.mk.injEq] at H; obtain ⟨rfl, rfl⟩ := H
  go_enter Tryd.func14, Tryd.ntmps14
  go_wp2_with (first | ((with_reducible refine gate_dst (N := 4) rfl ?_); refine bxW 4 (cs := #[.int .i64 a0_0, .slice A0_1 l0_1.length c0_1, .slice A0_2 l0_2.length c0_2]) (t := 25) ?_; intro gb101 hg w8 hbox hb; have BK101 := A_ (hbox); have GW101 := A_ ((szG hg (bW0 HB.out))); have GE101 := A_ ((szG hg (bW0 HB.out))); replace HB := A_ (below_step (bW0 HB.out) hb); clear hb hbox hg; have hcz9_0 : w8.cell? ⟨gb101, 0, none⟩ = some (.int .i64 a0_0) := (blk_cell BK101.out 0).trans rfl; have hcz9_1 : w8.cell? ⟨gb101, 1, none⟩ = some (.slice A0_1 l0_1.length c0_1) := (blk_cell BK101.out 1).trans rfl; have hcz9_2 : w8.cell? ⟨gb101, 2, none⟩ = some (.slice A0_2 l0_2.length c0_2) := (blk_cell BK101.out 2).trans rfl; have hfz9_0 := blk_frozen BK101.out 0; have hfz9_1 := blk_frozen BK101.out 1; have hfz9_2 := blk_frozen BK101.out 2) | ((with_reducible refine gate_callee (f := 6) rfl ?_); refine goesL_ (some 17) rfl rfl Tryd.func6 (by kernel_rfl) rfl #[.agg #[.int .i64 a0_0, .slice A0_1 l0_1.length c0_1, .slice A0_2 l0_2.length c0_2], .int .i64 a1, .int .i64 a2] rfl (by (try simp only [List.map_toArray, List.map_cons, List.map_nil]); first | done | rfl | (simp only [List.length_drop, List.length_take]; rfl)) ?_; (with_reducible refine (dropperref05_Why.calls k a0_0 _ _ l0_1 _ _ l0_2 a1 a2 t102 _ ?side1 ?side2 ?side3 ?side4 A5.out).mono ?_); (case side1 => exact cU (Kd.C_below HR0_1.out HB.out)); (case side2 => exact HC0_1.out); (case side3 => exact cU (Kd.C_below HR0_2.out HB.out)); (case side4 => exact HC0_2.out); rintro e w10 ⟨rfl, hb⟩; refine ⟨_, rfl, ?_⟩; replace BK101 := A_ (bkB BK101 hb); replace HB := A_ (below_step (bW1 HB.out GE101.out) hb); (try clear hb)))
  go_ret2
  exact ⟨eQ, (bW1 HB.out GE101.out)⟩
 rw [if_neg c7] at H; have c7b0 : decide (20 < (l3.length : Int)) = false := decide_eq_false c7
 have c7b1 : decide (20 < l3.length) = false := decide_eq_false (by omega)
 clear c7; by_cases c11 : 0 ≤ (l0_1.length : Int); rotate_left
 ·rw [if_neg c11] at H
  exact absurd H (by simp)
 rw [if_pos c11] at H; have c11b0 := eq_true c11; have c11b1 : decide (0 ≤ (l0_1.length : Int)) = true := decide_eq_true c11; clear c11; by_cases c12 : ((l0_1.length : Int) : Int).toNat ≤ 281474976710656; rotate_left
 ·rw [if_neg c12] at H
  exact absurd H (by simp)
 rw [if_pos c12] at H; have c12b0 := eq_true c12; have c12b1 : decide (((l0_1.length : Int) : Int).toNat ≤ 281474976710656) = true := decide_eq_true c12; clear c12; obtain ⟨y103, hy103⟩ : ∃ y_ : List Bool, y_ = (List.replicate ((l0_1.length : Int) : Int).toNat false) := ⟨_, rfl⟩
 replace H : (dropperref05_AreFeeds.l0 k a1 a2 l3 y103 0 a0_0 l0_1 l0_2) = some (r1, r2) := by first | (rw [hy103]; with_reducible exact H) | (have H2_ := (Option.bind_some _ _).symm.trans H; rw [hy103]; with_reducible exact H2_) | (have H2_ := (Option.bind_some _ _).symm.trans H; with_reducible exact H2_) | with_reducible exact H | (rw [hy103]; exact H) | exact H
 have Ny103 := A_ hy103; clear hy103; have H' := A_ H; clear H
 go_enter Tryd.func14, Tryd.ntmps14
 go_wp2_with (first | ((with_reducible refine gate_dst (N := 4) rfl ?_); refine bxW 4 (cs := #[.int .i64 a0_0, .slice A0_1 l0_1.length c0_1, .slice A0_2 l0_2.length c0_2]) (t := 25) ?_; intro gb101 hg w13 hbox hb; have BK101 := A_ (hbox); have GW101 := A_ ((szG hg (bW0 HB.out))); have GE101 := A_ ((szG hg (bW0 HB.out))); replace HB := A_ (below_step (bW0 HB.out) hb); clear hb hbox hg; have hcz14_0 : w13.cell? ⟨gb101, 0, none⟩ = some (.int .i64 a0_0) := (blk_cell BK101.out 0).trans rfl; have hcz14_1 : w13.cell? ⟨gb101, 1, none⟩ = some (.slice A0_1 l0_1.length c0_1) := (blk_cell BK101.out 1).trans rfl; have hcz14_2 : w13.cell? ⟨gb101, 2, none⟩ = some (.slice A0_2 l0_2.length c0_2) := (blk_cell BK101.out 2).trans rfl; have hfz14_0 := blk_frozen BK101.out 0; have hfz14_1 := blk_frozen BK101.out 1; have hfz14_2 := blk_frozen BK101.out 2) | ((with_reducible refine gate_callee (f := 6) rfl ?_); refine goesL_ (some 17) rfl rfl Tryd.func6 (by kernel_rfl) rfl #[.agg #[.int .i64 a0_0, .slice A0_1 l0_1.length c0_1, .slice A0_2 l0_2.length c0_2], .int .i64 a1, .int .i64 a2] rfl (by (try simp only [List.map_toArray, List.map_cons, List.map_nil]); first | done | rfl | (simp only [List.length_drop, List.length_take]; rfl)) ?_; (with_reducible refine (dropperref05_Why.calls k a0_0 _ _ l0_1 _ _ l0_2 a1 a2 t102 _ ?side1 ?side2 ?side3 ?side4 A5.out).mono ?_); (case side1 => exact cU (Kd.C_below HR0_1.out HB.out)); (case side2 => exact HC0_1.out); (case side3 => exact cU (Kd.C_below HR0_2.out HB.out)); (case side4 => exact HC0_2.out); rintro e w15 ⟨rfl, hb⟩; refine ⟨_, rfl, ?_⟩; replace BK101 := A_ (bkB BK101 hb); replace HB := A_ (below_step (bW1 HB.out GE101.out) hb); (try clear hb); have hcz16_0 : w15.cell? ⟨gb101, 0, none⟩ = some (.int .i64 a0_0) := (blk_cell BK101.out 0).trans rfl; have hcz16_1 : w15.cell? ⟨gb101, 1, none⟩ = some (.slice A0_1 l0_1.length c0_1) := (blk_cell BK101.out 1).trans rfl; have hcz16_2 : w15.cell? ⟨gb101, 2, none⟩ = some (.slice A0_2 l0_2.length c0_2) := (blk_cell BK101.out 2).trans rfl; have hfz16_0 := blk_frozen BK101.out 0; have hfz16_1 := blk_frozen BK101.out 1; have hfz16_2 := blk_frozen BK101.out 2) | ((with_reducible refine gate_dst (N := 27) rfl ?_); refine Kd.R_make Kd.bool _ 4 rfl (N := 27) rfl 73 _ _ rfl (l0_1.length : Int) rfl rfl Tryd.underlying73 (.bool false) 1 info4 rfl (by decide) (by omega) false (ok := fun _ => True) (okp := fun _ => True) rfl (fun _ hk => hk) trivial (oD) (Nat.le_trans (Nat.mul_le_mul_right _ (oD : (l0_1.length : Int).toNat ≤ 281474976710656)) (by omega)) (Below.refl _ _) (Nat.le_refl _) ?_; intro v104 w17 ho18 hb hg_ hnew_; clear hg_ hnew_; (first | rw [← Ny103.out] at ho18 | (simp only [Int.reduceToNat] at ho18; rw [← Ny103.out] at ho18)); have HO105 := A_ (Kd.R_lower ho18 (below_size (bW1 HB.out GE101.out))); replace BK101 := A_ (bkB BK101 hb); replace HB := A_ (below_step (bW1 HB.out GE101.out) hb); clear hb ho18))
 go_loopg [12] k (fun kq v12 w' => ∃ (x11_1 : List Bool) (x12_1 : Int), v12 = .int .i64 x12_1 ∧ Aside0 (dropperref05_AreFeeds.l0 kq a1 a2 l3 x11_1 x12_1 a0_0 l0_1 l0_2 = some (r1, r2)) ∧ Aside0 (kq ≤ k) ∧ Aside0 (Kd.R Kd.bool 4 w' w.heap.size (fun _ => True) v104 x11_1) ∧ Aside0 (w'.heap[gb101]? = some (.cells #[.int .i64 a0_0, (.slice A0_1 l0_1.length c0_1), (.slice A0_2 l0_2.length c0_2)] 25 (0, 0))) ∧ Aside0 (Below w.heap.size w w'))
 case atStart => exact ⟨(y103), (0), eS, H', ⟨Nat.le_refl _⟩, ⟨rU HO105.out⟩, ⟨bkU BK101⟩, ⟨(bW1 HB.out GE101.out)⟩⟩
 case round =>
  clear H'
  try clear c1; try clear p2; try clear c3; try clear c6; try clear c6b0; try clear c6b1; try clear c7; try clear c7b0; try clear c7b1; try clear c11; try clear c11b0; try clear c11b1; try clear c12; try clear c12b0; try clear c12b1; try clear c14; try clear hcz14_0; try clear hcz14_1; try clear hcz14_2; try clear hcz16_0; try clear hcz16_1; try clear hcz16_2; try clear hcz9_0; try clear hcz9_1; try clear hcz9_2; try clear hfz14_0; try clear hfz14_1; try clear hfz14_2; try clear hfz16_0; try clear hfz16_1; try clear hfz16_2; try clear hfz9_0; try clear hfz9_1; try clear hfz9_2
  obtain ⟨x11_1, x12_1, rfl, HA, HK1, HO_11, BK101, HB⟩ := hrel
  cases gk with
  | zero => exact absurd HA.out (by simp [dropperref05_AreFeeds.l0])
  | succ k1 =>
   have H := HA.out; clear HA; simp only [dropperref05_AreFeeds.l0] at H; by_cases c19 : x12_1 < (l3.length : Int); rotate_left
   ·rw [if_neg c19] at H
    have c19b0 : decide (x12_1 < (l3.length : Int)) = false := decide_eq_false c19; clear c19; simp only [Option.some.injEq, Prod.mk.injEq] at H; obtain ⟨rfl, rfl⟩ := H
    go_wp2
    go_ret2
    exact ⟨eQ, (bW1 HB.out GE101.out)⟩
   rw [if_pos c19] at H; have c19b0 : decide (x12_1 < (l3.length : Int)) = true := decide_eq_true c19; clear c19; by_cases c20 : 0 ≤ x12_1; rotate_left
   ·rw [if_neg c20] at H
    exact absurd H (by simp)
   rw [if_pos c20] at H; have c20b0 : decide (0 ≤ x12_1) = true := decide_eq_true c20; clear c20; replace H := Option.bind_eq_some_iff.mp H; obtain ⟨t107, A210, H⟩ := H; (try dsimp only at H); have A21 := A_ A210; clear A210; by_cases c22 : t107 = true; rotate_left
   ·replace c22 := Bool.eq_false_iff.mpr c22
    subst c22; rw [if_neg (show ¬ (false = true) by decide)] at H; simp only [Option.some.injEq, Prod.mk.injEq] at H; obtain ⟨rfl, rfl⟩ := H
    try go_wp2
    replace HO_11 := A_ (Kd.R_drew HO_11.out); replace BK101 := A_ (blk_drew BK101.out); replace HB := A_ (below_drew1 HB.out); have p106 : 0 ≤ (x12_1 : Int) := oD; have q106 : x12_1 < (l3.length : Int) := oD; obtain ⟨ad106, A106_0, c106_0, e106, hx106_0, hl106_0, hi106_0⟩ := at_L4 HR3.out x12_1 p106 q106; have hw106_0 := hx106_0
    cases e106
    replace hx106_0 := (HB.out.cell (World.block_lt_of_cell? w _ hx106_0)).trans hx106_0; have HR106_0 := A_ hi106_0; have HC106_0 := A_ hl106_0; clear hi106_0 hl106_0; replace p106 := eq_true p106; replace q106 := eq_true q106
    refine start_ (n := 9) (S := fun w' => w'.cell? ⟨gb101, 0, none⟩ = some (.int .i64 a0_0) ∧ w'.cell? ⟨gb101, 1, none⟩ = some (.slice A0_1 l0_1.length c0_1) ∧ w'.cell? ⟨gb101, 2, none⟩ = some (.slice A0_2 l0_2.length c0_2) ∧ w'.cell? (ad106.add (x12_1).toNat) = some (.slice A106_0 (rd_L4 l3 x12_1).length c106_0)) (ds := []) (mkB 9 0) (by kernel_rfl) rfl rfl ⟨(blk_cell BK101.out 0).trans rfl, (blk_cell BK101.out 1).trans rfl, (blk_cell BK101.out 2).trans rfl, (pw_cell_below HB.out hw106_0)⟩ (fun hHeld => ?_); refine with_tabW dropperref05_AreFeeds.tab10 dropperref05_AreFeeds.bits10 (fun HT_ HW_ => ?_)
    generalize wr.drew = w38 at HO_11 BK101 HB HR106_0 hx106_0 hHeld ⊢; refine pr_ 1 (some 35) (mkB 9 2) HT_ ?_; refine pr_ 2 (some 36) (mkB 9 6) HT_ ?_; refine pr_ 3 (some 37) (mkB 9 14) HT_ ?_; refine pr_ 4 (some 38) (mkB 9 30) HT_ ?_; refine pr_ 5 (some 39) (mkB 9 62) HT_ ?_
    refine take_ (i := 0) (N := some 34) (v := ?_) (a' := ?_) (mkB 9 63) rfl rfl (take_ofW HT_.out HW_.out (by kernel_rfl)) (fun _ _ _ h => h) (Or.inl ⟨by rfl, ?_⟩) hHeld ?_ ?_
    rotate_left
    ·rintro w' ⟨s0, s1, s2, s3⟩
     go_simp
     with_reducible rfl
    rotate_left
    ·simp only [Act.put, List.setIfInBounds_toArray, List.set_cons_zero, List.set_cons_succ, i64_w, i32_w]
     rfl
    refine take_ (i := 6) (N := some 40) (v := ?_) (a' := ?_) (mkB 9 127) rfl rfl (take_ofW HT_.out HW_.out (by kernel_rfl)) (fun _ _ _ h => h) (Or.inl ⟨by rfl, ?_⟩) hHeld ?_ ?_
    rotate_left
    ·rintro w' ⟨s0, s1, s2, s3⟩
     go_simp
     with_reducible rfl
    rotate_left
    ·simp only [Act.put, List.setIfInBounds_toArray, List.set_cons_zero, List.set_cons_succ, i64_w, i32_w]
     rfl
    refine one_ (i := 7) (N := some 41) (mkB 9 255) rfl rfl (one_of HT_.out (by kernel_rfl)) (by decide) (fun K hK => ?_)
    refine goes_ Tryd.func32 (by kernel_rfl) rfl #[.agg #[.int .i64 a0_0, .slice A0_1 l0_1.length c0_1, .slice A0_2 l0_2.length c0_2], .int .i64 a1, .int .i64 a2, .slice A106_0 (rd_L4 l3 x12_1).length c106_0] (by rfl) rfl rfl (by (try simp only [List.map_toArray, List.map_cons, List.map_nil]); first | done | rfl | (simp only [List.length_drop, List.length_take]; rfl)) ?_
    with_reducible refine (dropperref05_isFeed.calls k1 a0_0 _ _ l0_1 _ _ l0_2 a1 a2 _ _ (rd_L4 l3 x12_1) false _ ?side1 ?side2 ?side3 ?side4 ?side5 ?side6 A21.out).mono ?_
    (case side1 => exact cU (Kd.C_below HR0_1.out HB.out))
    (case side2 => exact HC0_1.out)
    (case side3 => exact cU (Kd.C_below HR0_2.out HB.out))
    (case side4 => exact HC0_2.out)
    (case side5 => exact cU (Kd.C_below HR106_0.out HB.out))
    (case side6 => exact HC106_0.out)
    rintro e w39 ⟨rfl, hb⟩
    refine ⟨_, rfl, ?_⟩
    replace HO_11 := A_ (Kd.R_below (rU HO_11.out) hb); replace BK101 := A_ (bkB BK101 hb); replace HB := A_ (below_step (bW1 HB.out GE101.out) hb)
    (try clear hb)
    (try clear hb2)
    (try clear hk)
    (try clear hi)
    refine hK.out _ _ ⟨(blk_cell BK101.out 0).trans rfl, (blk_cell BK101.out 1).trans rfl, (blk_cell BK101.out 2).trans rfl, (pw_cell_below HB.out hw106_0)⟩ (fun hHeld => ?_)
    clear hK K
    refine norm_ (a' := ?_) ?_ ?_
    rotate_left
    ·show Act.put _ (some 41) _ = _
     simp only [Act.put, List.setIfInBounds_toArray, List.set_cons_zero, List.set_cons_succ, i64_w, i32_w]
     rfl
    refine pr_ 8 (some 42) (mkB 9 511) HT_ ?_
    refine done_ (done_of HT_.out (by kernel_rfl)) ?_
    try go_wp2
    go_ret2
    exact ⟨eQ, (bW1 HB.out GE101.out)⟩
   subst c22; rw [if_pos rfl] at H; have H' := A_ H; clear H
   try go_wp2
   replace HO_11 := A_ (Kd.R_drew HO_11.out); replace BK101 := A_ (blk_drew BK101.out); replace HB := A_ (below_drew1 HB.out); have p106 : 0 ≤ (x12_1 : Int) := oD; have q106 : x12_1 < (l3.length : Int) := oD; obtain ⟨ad106, A106_0, c106_0, e106, hx106_0, hl106_0, hi106_0⟩ := at_L4 HR3.out x12_1 p106 q106; have hw106_0 := hx106_0
   cases e106
   replace hx106_0 := (HB.out.cell (World.block_lt_of_cell? w _ hx106_0)).trans hx106_0; have HR106_0 := A_ hi106_0; have HC106_0 := A_ hl106_0; clear hi106_0 hl106_0; replace p106 := eq_true p106; replace q106 := eq_true q106
   refine start_ (n := 9) (S := fun w' => w'.cell? ⟨gb101, 0, none⟩ = some (.int .i64 a0_0) ∧ w'.cell? ⟨gb101, 1, none⟩ = some (.slice A0_1 l0_1.length c0_1) ∧ w'.cell? ⟨gb101, 2, none⟩ = some (.slice A0_2 l0_2.length c0_2) ∧ w'.cell? (ad106.add (x12_1).toNat) = some (.slice A106_0 (rd_L4 l3 x12_1).length c106_0)) (ds := []) (mkB 9 0) (by kernel_rfl) rfl rfl ⟨(blk_cell BK101.out 0).trans rfl, (blk_cell BK101.out 1).trans rfl, (blk_cell BK101.out 2).trans rfl, (pw_cell_below HB.out hw106_0)⟩ (fun hHeld => ?_); refine with_tabW dropperref05_AreFeeds.tab10 dropperref05_AreFeeds.bits10 (fun HT_ HW_ => ?_)
   generalize wr.drew = w23 at HO_11 BK101 HB HR106_0 hx106_0 hHeld ⊢; refine pr_ 1 (some 35) (mkB 9 2) HT_ ?_; refine pr_ 2 (some 36) (mkB 9 6) HT_ ?_; refine pr_ 3 (some 37) (mkB 9 14) HT_ ?_; refine pr_ 4 (some 38) (mkB 9 30) HT_ ?_; refine pr_ 5 (some 39) (mkB 9 62) HT_ ?_
   refine take_ (i := 0) (N := some 34) (v := ?_) (a' := ?_) (mkB 9 63) rfl rfl (take_ofW HT_.out HW_.out (by kernel_rfl)) (fun _ _ _ h => h) (Or.inl ⟨by rfl, ?_⟩) hHeld ?_ ?_
   rotate_left
   ·rintro w' ⟨s0, s1, s2, s3⟩
    go_simp
    with_reducible rfl
   rotate_left
   ·simp only [Act.put, List.setIfInBounds_toArray, List.set_cons_zero, List.set_cons_succ, i64_w, i32_w]
    rfl
   refine take_ (i := 6) (N := some 40) (v := ?_) (a' := ?_) (mkB 9 127) rfl rfl (take_ofW HT_.out HW_.out (by kernel_rfl)) (fun _ _ _ h => h) (Or.inl ⟨by rfl, ?_⟩) hHeld ?_ ?_
   rotate_left
   ·rintro w' ⟨s0, s1, s2, s3⟩
    go_simp
    with_reducible rfl
   rotate_left
   ·simp only [Act.put, List.setIfInBounds_toArray, List.set_cons_zero, List.set_cons_succ, i64_w, i32_w]
    rfl
   refine one_ (i := 7) (N := some 41) (mkB 9 255) rfl rfl (one_of HT_.out (by kernel_rfl)) (by decide) (fun K hK => ?_)
   refine goes_ Tryd.func32 (by kernel_rfl) rfl #[.agg #[.int .i64 a0_0, .slice A0_1 l0_1.length c0_1, .slice A0_2 l0_2.length c0_2], .int .i64 a1, .int .i64 a2, .slice A106_0 (rd_L4 l3 x12_1).length c106_0] (by rfl) rfl rfl (by (try simp only [List.map_toArray, List.map_cons, List.map_nil]); first | done | rfl | (simp only [List.length_drop, List.length_take]; rfl)) ?_
   with_reducible refine (dropperref05_isFeed.calls k1 a0_0 _ _ l0_1 _ _ l0_2 a1 a2 _ _ (rd_L4 l3 x12_1) true _ ?side1 ?side2 ?side3 ?side4 ?side5 ?side6 A21.out).mono ?_
   (case side1 => exact cU (Kd.C_below HR0_1.out HB.out))
   (case side2 => exact HC0_1.out)
   (case side3 => exact cU (Kd.C_below HR0_2.out HB.out))
   (case side4 => exact HC0_2.out)
   (case side5 => exact cU (Kd.C_below HR106_0.out HB.out))
   (case side6 => exact HC106_0.out)
   rintro e w24 ⟨rfl, hb⟩
   refine ⟨_, rfl, ?_⟩
   replace HO_11 := A_ (Kd.R_below (rU HO_11.out) hb); replace BK101 := A_ (bkB BK101 hb); replace HB := A_ (below_step (bW1 HB.out GE101.out) hb)
   (try clear hb)
   (try clear hb2)
   (try clear hk)
   (try clear hi)
   refine hK.out _ _ ⟨(blk_cell BK101.out 0).trans rfl, (blk_cell BK101.out 1).trans rfl, (blk_cell BK101.out 2).trans rfl, (pw_cell_below HB.out hw106_0)⟩ (fun hHeld => ?_)
   clear hK K
   refine norm_ (a' := ?_) ?_ ?_
   rotate_left
   ·show Act.put _ (some 41) _ = _
    simp only [Act.put, List.setIfInBounds_toArray, List.set_cons_zero, List.set_cons_succ, i64_w, i32_w]
    rfl
   refine pr_ 8 (some 42) (mkB 9 511) HT_ ?_
   refine done_ (done_of HT_.out (by kernel_rfl)) ?_
   try go_wp2
   go_loopg [13] k1 (fun kq v13 w' => ∃ (x11_2 : List Bool) (x13_2 : Int), v13 = .int .i64 x13_2 ∧ Aside0 (dropperref05_AreFeeds.l1 kq a1 a2 l3 x11_2 x12_1 x13_2 a0_0 l0_1 l0_2 = some (r1, r2)) ∧ Aside0 (kq ≤ k1) ∧ Aside0 (Kd.R Kd.bool 4 w' w.heap.size (fun _ => True) v104 x11_2) ∧ Aside0 (w'.heap[gb101]? = some (.cells #[.int .i64 a0_0, (.slice A0_1 l0_1.length c0_1), (.slice A0_2 l0_2.length c0_2)] 25 (0, 0))) ∧ Aside0 (Below w.heap.size w w'))
   case atStart => exact ⟨(x11_1), (0), eS, H', ⟨Nat.le_refl _⟩, ⟨rU HO_11.out⟩, ⟨bkU BK101⟩, ⟨(bW1 HB.out GE101.out)⟩⟩
   case round =>
    clear H'
    try clear c1; try clear p1; try clear q1; try clear hx1; try clear c2; try clear p2; try clear c3; try clear c6; try clear c6b0; try clear c6b1; try clear c7; try clear c7b0; try clear c7b1; try clear c10; try clear p10; try clear q10; try clear hx10; try clear c11; try clear c11b0; try clear c11b1; try clear c12; try clear c12b0; try clear c12b1; try clear c14; try clear c19; try clear c19b0; try clear c20; try clear c20b0; try clear c22; try clear hcz14_0; try clear hcz14_1; try clear hcz14_2; try clear hcz16_0; try clear hcz16_1; try clear hcz16_2; try clear hcz9_0; try clear hcz9_1; try clear hcz9_2; try clear hfz14_0; try clear hfz14_1; try clear hfz14_2; try clear hfz16_0; try clear hfz16_1; try clear hfz16_2; try clear hfz9_0; try clear hfz9_1; try clear hfz9_2; try clear hx106_0; try clear p106; try clear p2; try clear q106
    obtain ⟨x11_2, x13_2, rfl, HA, HK2, HO_11, BK101, HB⟩ := hrel
    cases gk with
    | zero => exact absurd HA.out (by simp [dropperref05_AreFeeds.l1])
    | succ k2 =>
     have H := HA.out; clear HA; simp only [dropperref05_AreFeeds.l1] at H; by_cases c25 : 0 ≤ x12_1; rotate_left
     ·rw [if_neg c25] at H
      exact absurd H (by simp)
     rw [if_pos c25] at H; have c25b0 : decide (0 ≤ x12_1) = true := decide_eq_true c25; clear c25; by_cases c26 : x12_1 < (l3.length : Int); rotate_left
     ·rw [if_neg c26] at H
      exact absurd H (by simp)
     rw [if_pos c26] at H; have c26b0 : decide (x12_1 < (l3.length : Int)) = true := decide_eq_true c26; clear c26; by_cases c27 : x13_2 < ((rd_L4 l3 x12_1).length : Int); rotate_left
     ·rw [if_neg c27] at H
      have c27b0 : decide (x13_2 < ((rd_L4 l3 x12_1).length : Int)) = false := decide_eq_false c27; clear c27; have H' := A_ H; clear H; have p108 : 0 ≤ (x12_1 : Int) := oD; have q108 : x12_1 < (l3.length : Int) := oD; obtain ⟨ad108, A108_0, c108_0, e108, hx108_0, hl108_0, hi108_0⟩ := at_L4 HR3.out x12_1 p108 q108
      obtain rfl : ad106 = ad108 := (by injection e108)
      replace hx108_0 := (HB.out.cell (World.block_lt_of_cell? w _ hx108_0)).trans hx108_0; have HR108_0 := A_ hi108_0; have HC108_0 := A_ hl108_0; clear hi108_0 hl108_0; replace p108 := eq_true p108; replace q108 := eq_true q108
      go_wp2
      go_roundg k2
      case measure => have := HK1.out; have := HK2.out; omega
      case rel => exact ⟨(x11_2), (wrap64 (x12_1 + 1)), eS, H', ⟨by have := HK1.out; have := HK2.out; omega⟩, ⟨rU HO_11.out⟩, ⟨bkU BK101⟩, ⟨(bW1 HB.out GE101.out)⟩⟩
     rw [if_pos c27] at H; have c27b0 : decide (x13_2 < ((rd_L4 l3 x12_1).length : Int)) = true := decide_eq_true c27; clear c27; by_cases c28 : 0 ≤ x13_2; rotate_left
     ·rw [if_neg c28] at H
      exact absurd H (by simp)
     rw [if_pos c28] at H; have c28b0 : decide (0 ≤ x13_2) = true := decide_eq_true c28; clear c28; by_cases c29 : 0 ≤ (rd (rd_L4 l3 x12_1) x13_2); rotate_left
     ·rw [if_neg c29] at H
      exact absurd H (by simp)
     rw [if_pos c29] at H; have c29b0 : decide (0 ≤ (rd (rd_L4 l3 x12_1) x13_2)) = true := decide_eq_true c29; clear c29; by_cases c30 : (rd (rd_L4 l3 x12_1) x13_2) < (x11_2.length : Int); rotate_left
     ·rw [if_neg c30] at H
      exact absurd H (by simp)
     rw [if_pos c30] at H; have c30b0 : decide ((rd (rd_L4 l3 x12_1) x13_2) < (x11_2.length : Int)) = true := decide_eq_true c30; clear c30; obtain ⟨bq31, hbq31⟩ : ∃ b_ : Bool, b_ = (rdOf false x11_2 (rd (rd_L4 l3 x12_1) x13_2)) := ⟨_, rfl⟩
     replace H : (if bq31 = true then (some (false, 0)) else (dropperref05_AreFeeds.l1 k2 a1 a2 l3 (x11_2.set ((rd (rd_L4 l3 x12_1) x13_2) : Int).toNat true) x12_1 (wrap64 (x13_2 + 1)) a0_0 l0_1 l0_2)) = some (r1, r2) := by rw [← hbq31] at H; exact H
     have Nbq31 := A_ hbq31; clear hbq31; by_cases c32 : bq31 = true
     ·subst c32
      rw [if_pos rfl] at H; simp only [Option.some.injEq, Prod.mk.injEq] at H; obtain ⟨rfl, rfl⟩ := H; have p108 : 0 ≤ (x12_1 : Int) := oD; have q108 : x12_1 < (l3.length : Int) := oD; obtain ⟨ad108, A108_0, c108_0, e108, hx108_0, hl108_0, hi108_0⟩ := at_L4 HR3.out x12_1 p108 q108
      obtain rfl : ad106 = ad108 := (by injection e108)
      replace hx108_0 := (HB.out.cell (World.block_lt_of_cell? w _ hx108_0)).trans hx108_0; have HR108_0 := A_ hi108_0; have HC108_0 := A_ hl108_0; clear hi108_0 hl108_0; replace p108 := eq_true p108; replace q108 := eq_true q108; have p109 : 0 ≤ (x12_1 : Int) := oD; have q109 : x12_1 < (l3.length : Int) := oD; obtain ⟨ad109, A109_0, c109_0, e109, hx109_0, hl109_0, hi109_0⟩ := at_L4 HR3.out x12_1 p109 q109
      obtain rfl : ad106 = ad109 := (by injection e109)
      replace hx109_0 := (HB.out.cell (World.block_lt_of_cell? w _ hx109_0)).trans hx109_0; have HR109_0 := A_ hi109_0; have HC109_0 := A_ hl109_0; clear hi109_0 hl109_0; replace p109 := eq_true p109; replace q109 := eq_true q109; have ea_ := Option.some.inj (hx108_0.symm.trans hx109_0)
      injection ea_ with ea_ en_ ec_
      subst ea_; subst ec_; clear en_; have p110 : 0 ≤ (x13_2 : Int) := oD; have q110 : x13_2 < ((rd_L4 l3 x12_1).length : Int) := oD; obtain ⟨ad110, e110, hx110_0⟩ := Kd.at_int HR109_0.out x13_2 p110 q110
      cases e110
      replace hx110_0 := (HB.out.cell (World.block_lt_of_cell? w _ hx110_0)).trans hx110_0; replace p110 := eq_true p110; replace q110 := eq_true q110; obtain ⟨Ao33, co33, eo33⟩ := Kd.R_slice HO_11.out; subst eo33; have p111 : 0 ≤ ((rd (rd_L4 l3 x12_1) x13_2) : Int) := oD; have q111 : (rd (rd_L4 l3 x12_1) x13_2) < (x11_2.length : Int) := oD; obtain ⟨ad111, e111, hx111_0⟩ := Kd.at_bool (Kd.R_reads' HO_11.out).2.2 (rd (rd_L4 l3 x12_1) x13_2) p111 q111
      (try rw [← Nbq31.out] at hx111_0)
      cases e111
      replace p111 := eq_true p111; replace q111 := eq_true q111
      go_wp2
      go_ret2
      exact ⟨eQ, (bW1 HB.out GE101.out)⟩
     replace c32 := Bool.eq_false_iff.mpr c32; subst c32; rw [if_neg (show ¬ (false = true) by decide)] at H; obtain ⟨y114, hy114⟩ : ∃ y_ : List Bool, y_ = (x11_2.set ((rd (rd_L4 l3 x12_1) x13_2) : Int).toNat true) := ⟨_, rfl⟩
     replace H : (dropperref05_AreFeeds.l1 k2 a1 a2 l3 y114 x12_1 (wrap64 (x13_2 + 1)) a0_0 l0_1 l0_2) = some (r1, r2) := by first | (rw [hy114]; with_reducible exact H) | (have H2_ := (Option.bind_some _ _).symm.trans H; rw [hy114]; with_reducible exact H2_) | (have H2_ := (Option.bind_some _ _).symm.trans H; with_reducible exact H2_) | with_reducible exact H | (rw [hy114]; exact H) | exact H
     have Ny114 := A_ hy114; clear hy114; have H' := A_ H; clear H; have p108 : 0 ≤ (x12_1 : Int) := oD; have q108 : x12_1 < (l3.length : Int) := oD; obtain ⟨ad108, A108_0, c108_0, e108, hx108_0, hl108_0, hi108_0⟩ := at_L4 HR3.out x12_1 p108 q108
     obtain rfl : ad106 = ad108 := (by injection e108)
     replace hx108_0 := (HB.out.cell (World.block_lt_of_cell? w _ hx108_0)).trans hx108_0; have HR108_0 := A_ hi108_0; have HC108_0 := A_ hl108_0; clear hi108_0 hl108_0; replace p108 := eq_true p108; replace q108 := eq_true q108; have p109 : 0 ≤ (x12_1 : Int) := oD; have q109 : x12_1 < (l3.length : Int) := oD; obtain ⟨ad109, A109_0, c109_0, e109, hx109_0, hl109_0, hi109_0⟩ := at_L4 HR3.out x12_1 p109 q109
     obtain rfl : ad106 = ad109 := (by injection e109)
     replace hx109_0 := (HB.out.cell (World.block_lt_of_cell? w _ hx109_0)).trans hx109_0; have HR109_0 := A_ hi109_0; have HC109_0 := A_ hl109_0; clear hi109_0 hl109_0; replace p109 := eq_true p109; replace q109 := eq_true q109; have ea_ := Option.some.inj (hx108_0.symm.trans hx109_0)
     injection ea_ with ea_ en_ ec_
     subst ea_; subst ec_; clear en_; have p110 : 0 ≤ (x13_2 : Int) := oD; have q110 : x13_2 < ((rd_L4 l3 x12_1).length : Int) := oD; obtain ⟨ad110, e110, hx110_0⟩ := Kd.at_int HR109_0.out x13_2 p110 q110
     cases e110
     replace hx110_0 := (HB.out.cell (World.block_lt_of_cell? w _ hx110_0)).trans hx110_0; replace p110 := eq_true p110; replace q110 := eq_true q110; obtain ⟨Ao35, co35, eo35⟩ := Kd.R_slice HO_11.out; subst eo35; have p111 : 0 ≤ ((rd (rd_L4 l3 x12_1) x13_2) : Int) := oD; have q111 : (rd (rd_L4 l3 x12_1) x13_2) < (x11_2.length : Int) := oD; obtain ⟨ad111, e111, hx111_0⟩ := Kd.at_bool (Kd.R_reads' HO_11.out).2.2 (rd (rd_L4 l3 x12_1) x13_2) p111 q111
     (try rw [← Nbq31.out] at hx111_0)
     cases e111
     replace p111 := eq_true p111; replace q111 := eq_true q111; have p112 : 0 ≤ (x12_1 : Int) := oD; have q112 : x12_1 < (l3.length : Int) := oD; obtain ⟨ad112, A112_0, c112_0, e112, hx112_0, hl112_0, hi112_0⟩ := at_L4 HR3.out x12_1 p112 q112
     obtain rfl : ad106 = ad112 := (by injection e112)
     replace hx112_0 := (HB.out.cell (World.block_lt_of_cell? w _ hx112_0)).trans hx112_0; have HR112_0 := A_ hi112_0; have HC112_0 := A_ hl112_0; clear hi112_0 hl112_0; replace p112 := eq_true p112; replace q112 := eq_true q112; have ea_ := Option.some.inj (hx108_0.symm.trans hx112_0)
     injection ea_ with ea_ en_ ec_
     subst ea_; subst ec_; clear en_; have p113 : 0 ≤ (x13_2 : Int) := oD; have q113 : x13_2 < ((rd_L4 l3 x12_1).length : Int) := oD; obtain ⟨ad113, e113, hx113_0⟩ := Kd.at_int HR112_0.out x13_2 p113 q113
     cases e113
     replace hx113_0 := (HB.out.cell (World.block_lt_of_cell? w _ hx113_0)).trans hx113_0; replace p113 := eq_true p113; replace q113 := eq_true q113; have p34 : 0 ≤ ((rd (rd_L4 l3 x12_1) x13_2) : Int) := oD; have q34 : ((rd (rd_L4 l3 x12_1) x13_2) : Int) < ((x11_2.length : Int) : Int) := oD
     obtain ⟨go34, co34, eo34, gb34, gl34, cl34, HG34⟩ := Kd.R_form HO_11.out (by omega)
     (first | cases eo34 | (injection eo34 with ea_ en_ ec_; (first | subst ea_ | (injection ea_ with ea_; subst ea_)); subst ec_; clear en_))
     have GB34 := A_ gb34; have GG34 := A_ HG34; clear gb34 gl34 HG34
     (first | simp only [add_plain] at hx111_0 | skip)
     obtain ⟨hx34_0, hf34_0⟩ := Kd.R_celln false HO_11.out ((rd (rd_L4 l3 x12_1) x13_2) : Int) p34 q34; replace p34 := eq_true p34; replace q34 := eq_true q34; have HP36 := Kd.R_putg HO_11.out ((rd (rd_L4 l3 x12_1) x13_2) : Int) true
     go_wp2_with (first | ((with_reducible refine gate_store (t := 4) (p := 70) rfl ?_); refine store_event (t := 4) (p := 70) (v := ?vo_w37) (w1 := (wr.setCell ⟨go34, ((rd (rd_L4 l3 x12_1) x13_2) : Int).toNat, none⟩ (.bool true))) ?hg ?ho ?hn ?hr ?_; (case ho => rfl); (case hg => rfl); (case hn => rfl); (case hr => first | (go_simp; done) | (go_simp; rfl)); intro w37 hw; have hg : wr.grownBy w37 (some go34) := (by rw [hw]; exact HP36.2); have hp_ : Kd.R Kd.bool 4 w37 w.heap.size (fun _ => True) (.slice (some ⟨go34, 0, none⟩) x11_2.length co35) y114 := (by rw [hw, Ny114.out]; exact HP36.1); clear HP36; have n0_ := A_ (hp_); have n1_ := A_ (blk_grown (g := gb101) (o := .cells #[.int .i64 a0_0, .slice A0_1 l0_1.length c0_1, .slice A0_2 l0_2.length c0_2] 25 (0, 0)) (bkU BK101) hg (Kd.R_ne HO_11.out BK101.out (by decide))); have n2_ := A_ ((by rw [hw]; exact below_set (HB.out) GB34.out : Below w.heap.size w w37)); clear HO_11; clear BK101; clear HB; have HO_11 := n0_; have BK101 := n1_; have HB := n2_; clear n0_ n1_ n2_; clear hg hw hp_))
     go_roundg k2
     case measure => have := HK1.out; have := HK2.out; omega
     case rel => exact ⟨(y114), (wrap64 (x13_2 + 1)), eS, H', ⟨by have := HK1.out; have := HK2.out; omega⟩, ⟨rU HO_11.out⟩, ⟨bkU BK101⟩, ⟨(bW1 HB.out GE101.out)⟩⟩
end Go.Proofs.YtbbjonbnmoomlaaDoor.G
end
