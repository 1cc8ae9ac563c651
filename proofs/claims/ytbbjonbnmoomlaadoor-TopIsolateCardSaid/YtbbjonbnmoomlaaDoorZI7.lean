/- Functions of the seat and plain laws about them: GF6, GF7, GF23. -/
import Derived.Test.YtbbjonbnmoomlaaDoorGBase
import Derived.Test.YtbbjonbnmoomlaaDoorZI0
import Derived.Test.YtbbjonbnmoomlaaDoorZI6
section
namespace Go.Proofs.YtbbjonbnmoomlaaDoor.G
open Go.RowKit Go.Proofs.YtbbjonbnmoomlaaDoorW.PrintWords Go.Proofs.YtbbjonbnmoomlaaDoorW.PrintLast Go.Proofs.YtbbjonbnmoomlaaDoorW.PrintMore
attribute [local go_sem] max2_int min2_int max_two min_two max_three min_three max_four min_four
set_option linter.unusedVariables false
set_option linter.unusedSimpArgs false
def dropperref05_Why.f (k : Nat) (a0_0 : Int) (l0_1 : List (S47)) (l0_2 : List (S49)) (a1 : Int) (a2 : Int) : Option (Int) := (dropperref05_asked.f k a0_0 l0_1 l0_2 a1).bind fun t102 => (if t102 = 0 then ((dropperref05_section.f a0_0 l0_1 l0_2 a2).bind fun t103 => (if t103 = true then (some 0) else (some 2))) else (some t102))
set_option maxHeartbeats 8000000 in
set_option maxRecDepth 100000 in
theorem dropperref05_Why.calls (k : Nat) (a0_0 : Int) (A0_1 : Option Addr) (c0_1 : Nat) (l0_1 : List (S47)) (A0_2 : Option Addr) (c0_2 : Nat) (l0_2 : List (S49)) (a1 : Int) (a2 : Int) (r : Int) (w : World) (hr0_1 : Kd.C k47 w A0_1 l0_1.length l0_1) (hc0_1 : l0_1.length ≤ c0_1) (hr0_2 : Kd.C k49 w A0_2 l0_2.length l0_2) (hc0_2 : l0_2.length ≤ c0_2) (h : dropperref05_Why.f k a0_0 l0_1 l0_2 a1 a2 = some r) :
  Calls Tryd.prog 6 #[.agg #[.int .i64 a0_0, .slice A0_1 l0_1.length c0_1, .slice A0_2 l0_2.length c0_2], .int .i64 a1, .int .i64 a2] w fun e w' => e = .returned (.int .i64 r) ∧ Below w.heap.size w w' := by
 have hu25 := Tryd.underlying25; have HR0_1 := A_ hr0_1; have HC0_1 := A_ hc0_1; clear hr0_1 hc0_1; have HR0_2 := A_ hr0_2; have HC0_2 := A_ hc0_2; clear hr0_2 hc0_2; have HB := A_ (Below.refl w.heap.size w)
 have H : ((dropperref05_asked.f k a0_0 l0_1 l0_2 a1).bind fun t102 => (if t102 = 0 then ((dropperref05_section.f a0_0 l0_1 l0_2 a2).bind fun t103 => (if t103 = true then (some 0) else (some 2))) else (some t102))) = some r := h
 clear h; replace H := Option.bind_eq_some_iff.mp H; obtain ⟨t102, A40, H⟩ := H; (try dsimp only at H); have A4 := A_ A40; clear A40; by_cases c5 : t102 = 0; rotate_left
 ·rw [if_neg c5] at H
  have c5b0 : (t102 == 0) = false := beq_eq_false_iff_ne.mpr c5; have c5b1 : (t102 != 0) = true := bne_iff_ne.mpr c5; obtain rfl := Option.some.inj H
  go_enter Tryd.func6, Tryd.ntmps6
  go_wp2_with (first | ((with_reducible refine gate_dst (N := 3) rfl ?_); refine bxW 3 (cs := #[.int .i64 a0_0, .slice A0_1 l0_1.length c0_1, .slice A0_2 l0_2.length c0_2]) (t := 25) ?_; intro gb101 hg w18 hbox hb; have BK101 := A_ (hbox); have GW101 := A_ ((szG hg (bW0 HB.out))); have GE101 := A_ ((szG hg (bW0 HB.out))); replace HB := A_ (below_step (bW0 HB.out) hb); clear hb hbox hg; have hcz19_0 : w18.cell? ⟨gb101, 0, none⟩ = some (.int .i64 a0_0) := (blk_cell BK101.out 0).trans rfl; have hcz19_1 : w18.cell? ⟨gb101, 1, none⟩ = some (.slice A0_1 l0_1.length c0_1) := (blk_cell BK101.out 1).trans rfl; have hcz19_2 : w18.cell? ⟨gb101, 2, none⟩ = some (.slice A0_2 l0_2.length c0_2) := (blk_cell BK101.out 2).trans rfl; have hfz19_0 := blk_frozen BK101.out 0; have hfz19_1 := blk_frozen BK101.out 1; have hfz19_2 := blk_frozen BK101.out 2) | ((with_reducible refine gate_callee (f := 17) rfl ?_); refine goesL_ (some 10) rfl rfl Tryd.func17 (by kernel_rfl) rfl #[.agg #[.int .i64 a0_0, .slice A0_1 l0_1.length c0_1, .slice A0_2 l0_2.length c0_2], .int .i64 a1] rfl (by (try simp only [List.map_toArray, List.map_cons, List.map_nil]); first | done | rfl | (simp only [List.length_drop, List.length_take]; rfl)) ?_; (with_reducible refine (dropperref05_asked.calls k a0_0 _ _ l0_1 _ _ l0_2 a1 t102 _ ?side1 ?side2 ?side3 ?side4 A4.out).mono ?_); (case side1 => exact cU (Kd.C_below HR0_1.out HB.out)); (case side2 => exact HC0_1.out); (case side3 => exact cU (Kd.C_below HR0_2.out HB.out)); (case side4 => exact HC0_2.out); rintro e w20 ⟨rfl, hb⟩; refine ⟨_, rfl, ?_⟩; replace BK101 := A_ (bkB BK101 hb); replace HB := A_ (below_step (bW1 HB.out GE101.out) hb); (try clear hb)))
  go_ret
  exact ⟨eQ, (bW1 HB.out GE101.out)⟩
 rw [if_pos c5] at H; have c5b0 : (t102 == 0) = true := beq_iff_eq.mpr c5; have c5b1 : (t102 != 0) = false := bne_eq_false_iff_eq.mpr c5; clear c5; replace H := Option.bind_eq_some_iff.mp H; obtain ⟨t103, A60, H⟩ := H; (try dsimp only at H); have A6 := A_ A60; clear A60; by_cases c7 : t103 = true
 ·subst c7
  rw [if_pos rfl] at H; obtain rfl := Option.some.inj H
  go_enter Tryd.func6, Tryd.ntmps6
  go_wp2_with (first | ((with_reducible refine gate_dst (N := 3) rfl ?_); refine bxW 3 (cs := #[.int .i64 a0_0, .slice A0_1 l0_1.length c0_1, .slice A0_2 l0_2.length c0_2]) (t := 25) ?_; intro gb101 hg w8 hbox hb; have BK101 := A_ (hbox); have GW101 := A_ ((szG hg (bW0 HB.out))); have GE101 := A_ ((szG hg (bW0 HB.out))); replace HB := A_ (below_step (bW0 HB.out) hb); clear hb hbox hg; have hcz9_0 : w8.cell? ⟨gb101, 0, none⟩ = some (.int .i64 a0_0) := (blk_cell BK101.out 0).trans rfl; have hcz9_1 : w8.cell? ⟨gb101, 1, none⟩ = some (.slice A0_1 l0_1.length c0_1) := (blk_cell BK101.out 1).trans rfl; have hcz9_2 : w8.cell? ⟨gb101, 2, none⟩ = some (.slice A0_2 l0_2.length c0_2) := (blk_cell BK101.out 2).trans rfl; have hfz9_0 := blk_frozen BK101.out 0; have hfz9_1 := blk_frozen BK101.out 1; have hfz9_2 := blk_frozen BK101.out 2) | ((with_reducible refine gate_callee (f := 17) rfl ?_); refine goesL_ (some 10) rfl rfl Tryd.func17 (by kernel_rfl) rfl #[.agg #[.int .i64 a0_0, .slice A0_1 l0_1.length c0_1, .slice A0_2 l0_2.length c0_2], .int .i64 a1] rfl (by (try simp only [List.map_toArray, List.map_cons, List.map_nil]); first | done | rfl | (simp only [List.length_drop, List.length_take]; rfl)) ?_; (with_reducible refine (dropperref05_asked.calls k a0_0 _ _ l0_1 _ _ l0_2 a1 t102 _ ?side1 ?side2 ?side3 ?side4 A4.out).mono ?_); (case side1 => exact cU (Kd.C_below HR0_1.out HB.out)); (case side2 => exact HC0_1.out); (case side3 => exact cU (Kd.C_below HR0_2.out HB.out)); (case side4 => exact HC0_2.out); rintro e w10 ⟨rfl, hb⟩; refine ⟨_, rfl, ?_⟩; replace BK101 := A_ (bkB BK101 hb); replace HB := A_ (below_step (bW1 HB.out GE101.out) hb); (try clear hb); have hcz11_0 : w10.cell? ⟨gb101, 0, none⟩ = some (.int .i64 a0_0) := (blk_cell BK101.out 0).trans rfl; have hcz11_1 : w10.cell? ⟨gb101, 1, none⟩ = some (.slice A0_1 l0_1.length c0_1) := (blk_cell BK101.out 1).trans rfl; have hcz11_2 : w10.cell? ⟨gb101, 2, none⟩ = some (.slice A0_2 l0_2.length c0_2) := (blk_cell BK101.out 2).trans rfl; have hfz11_0 := blk_frozen BK101.out 0; have hfz11_1 := blk_frozen BK101.out 1; have hfz11_2 := blk_frozen BK101.out 2) | ((with_reducible refine gate_callee (f := 15) rfl ?_); refine goesL_ (some 16) rfl rfl Tryd.func15 (by kernel_rfl) rfl #[.agg #[.int .i64 a0_0, .slice A0_1 l0_1.length c0_1, .slice A0_2 l0_2.length c0_2], .int .i64 a2] rfl (by (try simp only [List.map_toArray, List.map_cons, List.map_nil]); first | done | rfl | (simp only [List.length_drop, List.length_take]; rfl)) ?_; (with_reducible refine (dropperref05_section.calls a0_0 _ _ l0_1 _ _ l0_2 a2 true _ ?side1 ?side2 ?side3 ?side4 A6.out).mono ?_); (case side1 => exact cU (Kd.C_below HR0_1.out HB.out)); (case side2 => exact HC0_1.out); (case side3 => exact cU (Kd.C_below HR0_2.out HB.out)); (case side4 => exact HC0_2.out); rintro e w12 ⟨rfl, hb⟩; refine ⟨_, rfl, ?_⟩; replace BK101 := A_ (bkB BK101 hb); replace HB := A_ (below_step (bW1 HB.out GE101.out) hb); (try clear hb)))
  go_ret
  exact ⟨eQ, (bW1 HB.out GE101.out)⟩
 replace c7 := Bool.eq_false_iff.mpr c7; subst c7; rw [if_neg (show ¬ (false = true) by decide)] at H; obtain rfl := Option.some.inj H
 go_enter Tryd.func6, Tryd.ntmps6
 go_wp2_with (first | ((with_reducible refine gate_dst (N := 3) rfl ?_); refine bxW 3 (cs := #[.int .i64 a0_0, .slice A0_1 l0_1.length c0_1, .slice A0_2 l0_2.length c0_2]) (t := 25) ?_; intro gb101 hg w13 hbox hb; have BK101 := A_ (hbox); have GW101 := A_ ((szG hg (bW0 HB.out))); have GE101 := A_ ((szG hg (bW0 HB.out))); replace HB := A_ (below_step (bW0 HB.out) hb); clear hb hbox hg; have hcz14_0 : w13.cell? ⟨gb101, 0, none⟩ = some (.int .i64 a0_0) := (blk_cell BK101.out 0).trans rfl; have hcz14_1 : w13.cell? ⟨gb101, 1, none⟩ = some (.slice A0_1 l0_1.length c0_1) := (blk_cell BK101.out 1).trans rfl; have hcz14_2 : w13.cell? ⟨gb101, 2, none⟩ = some (.slice A0_2 l0_2.length c0_2) := (blk_cell BK101.out 2).trans rfl; have hfz14_0 := blk_frozen BK101.out 0; have hfz14_1 := blk_frozen BK101.out 1; have hfz14_2 := blk_frozen BK101.out 2) | ((with_reducible refine gate_callee (f := 17) rfl ?_); refine goesL_ (some 10) rfl rfl Tryd.func17 (by kernel_rfl) rfl #[.agg #[.int .i64 a0_0, .slice A0_1 l0_1.length c0_1, .slice A0_2 l0_2.length c0_2], .int .i64 a1] rfl (by (try simp only [List.map_toArray, List.map_cons, List.map_nil]); first | done | rfl | (simp only [List.length_drop, List.length_take]; rfl)) ?_; (with_reducible refine (dropperref05_asked.calls k a0_0 _ _ l0_1 _ _ l0_2 a1 t102 _ ?side1 ?side2 ?side3 ?side4 A4.out).mono ?_); (case side1 => exact cU (Kd.C_below HR0_1.out HB.out)); (case side2 => exact HC0_1.out); (case side3 => exact cU (Kd.C_below HR0_2.out HB.out)); (case side4 => exact HC0_2.out); rintro e w15 ⟨rfl, hb⟩; refine ⟨_, rfl, ?_⟩; replace BK101 := A_ (bkB BK101 hb); replace HB := A_ (below_step (bW1 HB.out GE101.out) hb); (try clear hb); have hcz16_0 : w15.cell? ⟨gb101, 0, none⟩ = some (.int .i64 a0_0) := (blk_cell BK101.out 0).trans rfl; have hcz16_1 : w15.cell? ⟨gb101, 1, none⟩ = some (.slice A0_1 l0_1.length c0_1) := (blk_cell BK101.out 1).trans rfl; have hcz16_2 : w15.cell? ⟨gb101, 2, none⟩ = some (.slice A0_2 l0_2.length c0_2) := (blk_cell BK101.out 2).trans rfl; have hfz16_0 := blk_frozen BK101.out 0; have hfz16_1 := blk_frozen BK101.out 1; have hfz16_2 := blk_frozen BK101.out 2) | ((with_reducible refine gate_callee (f := 15) rfl ?_); refine goesL_ (some 16) rfl rfl Tryd.func15 (by kernel_rfl) rfl #[.agg #[.int .i64 a0_0, .slice A0_1 l0_1.length c0_1, .slice A0_2 l0_2.length c0_2], .int .i64 a2] rfl (by (try simp only [List.map_toArray, List.map_cons, List.map_nil]); first | done | rfl | (simp only [List.length_drop, List.length_take]; rfl)) ?_; (with_reducible refine (dropperref05_section.calls a0_0 _ _ l0_1 _ _ l0_2 a2 false _ ?side1 ?side2 ?side3 ?side4 A6.out).mono ?_); (case side1 => exact cU (Kd.C_below HR0_1.out HB.out)); (case side2 => exact HC0_1.out); (case side3 => exact cU (Kd.C_below HR0_2.out HB.out)); (case side4 => exact HC0_2.out); rintro e w17 ⟨rfl, hb⟩; refine ⟨_, rfl, ?_⟩; replace BK101 := A_ (bkB BK101 hb); replace HB := A_ (below_step (bW1 HB.out GE101.out) hb); (try clear hb)))
 go_ret
 exact ⟨eQ, (bW1 HB.out GE101.out)⟩
def dropperref05_At.l0 : Nat → Int → Int → Int → List (S47) → List (S49) → Option (Bool)
 | 0, _, _, _, _, _ => none
 | k + 1, x1, x5, x102000, x102001, x102002 => if x5 < (x102002.length : Int) then (if 0 ≤ x5 then (if ((rd_T49 x102002 x5).f0) = x1 then (some true) else (dropperref05_At.l0 k x1 (wrap64 (x5 + 1)) x102000 x102001 x102002)) else (none)) else (some false)
def dropperref05_At.f (k : Nat) (a0_0 : Int) (l0_1 : List (S47)) (l0_2 : List (S49)) (a1 : Int) : Option (Bool) := dropperref05_At.l0 k a1 0 a0_0 l0_1 l0_2
set_option maxHeartbeats 8000000 in
set_option maxRecDepth 100000 in
theorem dropperref05_At.calls (k : Nat) (a0_0 : Int) (A0_1 : Option Addr) (c0_1 : Nat) (l0_1 : List (S47)) (A0_2 : Option Addr) (c0_2 : Nat) (l0_2 : List (S49)) (a1 : Int) (r : Bool) (w : World) (hr0_1 : Kd.C k47 w A0_1 l0_1.length l0_1) (hc0_1 : l0_1.length ≤ c0_1) (hr0_2 : Kd.C k49 w A0_2 l0_2.length l0_2) (hc0_2 : l0_2.length ≤ c0_2) (h : dropperref05_At.f k a0_0 l0_1 l0_2 a1 = some r) :
  Calls Tryd.prog 7 #[.agg #[.int .i64 a0_0, .slice A0_1 l0_1.length c0_1, .slice A0_2 l0_2.length c0_2], .int .i64 a1] w fun e w' => e = .returned (.bool r) ∧ Below w.heap.size w w' := by
 have hu25 := Tryd.underlying25; have HR0_1 := A_ hr0_1; have HC0_1 := A_ hc0_1; clear hr0_1 hc0_1; have HR0_2 := A_ hr0_2; have HC0_2 := A_ hc0_2; clear hr0_2 hc0_2; have HB := A_ (Below.refl w.heap.size w); have H : (dropperref05_At.l0 k a1 0 a0_0 l0_1 l0_2) = some r := h; clear h; have H' := A_ H; clear H
 go_enter Tryd.func7, Tryd.ntmps7
 go_wp2_with (first | ((with_reducible refine gate_dst (N := 2) rfl ?_); refine bxW 2 (cs := #[.int .i64 a0_0, .slice A0_1 l0_1.length c0_1, .slice A0_2 l0_2.length c0_2]) (t := 25) ?_; intro gb101 hg w3 hbox hb; have BK101 := A_ (hbox); have GW101 := A_ ((szG hg (bW0 HB.out))); have GE101 := A_ ((szG hg (bW0 HB.out))); replace HB := A_ (below_step (bW0 HB.out) hb); clear hb hbox hg))
 go_loopg [5] k (fun kq v5 w' => ∃ (x5_1 : Int), v5 = .int .i64 x5_1 ∧ Aside0 (dropperref05_At.l0 kq a1 x5_1 a0_0 l0_1 l0_2 = some r) ∧ Aside0 (kq ≤ k) ∧ Aside0 (w'.heap[gb101]? = some (.cells #[.int .i64 a0_0, (.slice A0_1 l0_1.length c0_1), (.slice A0_2 l0_2.length c0_2)] 25 (0, 0))) ∧ Aside0 (Below w.heap.size w w'))
 case atStart => exact ⟨(0), eS, H', ⟨Nat.le_refl _⟩, ⟨bkU BK101⟩, ⟨(bW1 HB.out GE101.out)⟩⟩
 case round =>
  clear H'
  try clear p2
  obtain ⟨x5_1, rfl, HA, HK1, BK101, HB⟩ := hrel
  cases gk with
  | zero => exact absurd HA.out (by simp [dropperref05_At.l0])
  | succ k1 =>
   have H := HA.out; clear HA; simp only [dropperref05_At.l0] at H; by_cases c4 : x5_1 < (l0_2.length : Int); rotate_left
   ·rw [if_neg c4] at H
    have c4b0 : decide (x5_1 < (l0_2.length : Int)) = false := decide_eq_false c4; clear c4; obtain rfl := Option.some.inj H; have hcz9_0 : wr.cell? ⟨gb101, 0, none⟩ = some (.int .i64 a0_0) := (blk_cell BK101.out 0).trans rfl; have hcz9_1 : wr.cell? ⟨gb101, 1, none⟩ = some (.slice A0_1 l0_1.length c0_1) := (blk_cell BK101.out 1).trans rfl; have hcz9_2 : wr.cell? ⟨gb101, 2, none⟩ = some (.slice A0_2 l0_2.length c0_2) := (blk_cell BK101.out 2).trans rfl; have hfz9_0 := blk_frozen BK101.out 0; have hfz9_1 := blk_frozen BK101.out 1; have hfz9_2 := blk_frozen BK101.out 2
    go_wp2
    go_ret
    exact ⟨eQ, (bW1 HB.out GE101.out)⟩
   rw [if_pos c4] at H; have c4b0 : decide (x5_1 < (l0_2.length : Int)) = true := decide_eq_true c4; clear c4; by_cases c5 : 0 ≤ x5_1; rotate_left
   ·rw [if_neg c5] at H
    exact absurd H (by simp)
   rw [if_pos c5] at H; have c5b0 : decide (0 ≤ x5_1) = true := decide_eq_true c5; clear c5; by_cases c6 : ((rd_T49 l0_2 x5_1).f0) = a1
   ·rw [if_pos c6] at H
    have c6b0 : (((rd_T49 l0_2 x5_1).f0) == a1) = true := beq_iff_eq.mpr c6; have c6b1 : (((rd_T49 l0_2 x5_1).f0) != a1) = false := bne_eq_false_iff_eq.mpr c6; clear c6; obtain rfl := Option.some.inj H; have hcz7_0 : wr.cell? ⟨gb101, 0, none⟩ = some (.int .i64 a0_0) := (blk_cell BK101.out 0).trans rfl; have hcz7_1 : wr.cell? ⟨gb101, 1, none⟩ = some (.slice A0_1 l0_1.length c0_1) := (blk_cell BK101.out 1).trans rfl; have hcz7_2 : wr.cell? ⟨gb101, 2, none⟩ = some (.slice A0_2 l0_2.length c0_2) := (blk_cell BK101.out 2).trans rfl; have hfz7_0 := blk_frozen BK101.out 0; have hfz7_1 := blk_frozen BK101.out 1; have hfz7_2 := blk_frozen BK101.out 2; have p102 : 0 ≤ (x5_1 : Int) := oD; have q102 : x5_1 < (l0_2.length : Int) := oD; obtain ⟨ad102, e102, hx102_0, hx102_1⟩ := at_T49 HR0_2.out x5_1 p102 q102
    cases e102
    replace hx102_0 := (HB.out.cell (World.block_lt_of_cell? w _ hx102_0)).trans hx102_0; replace hx102_1 := (HB.out.cell (World.block_lt_of_cell? w _ hx102_1)).trans hx102_1; replace p102 := eq_true p102; replace q102 := eq_true q102
    go_wp2
    go_ret
    exact ⟨eQ, (bW1 HB.out GE101.out)⟩
   rw [if_neg c6] at H; have c6b0 : (((rd_T49 l0_2 x5_1).f0) == a1) = false := beq_eq_false_iff_ne.mpr c6; have c6b1 : (((rd_T49 l0_2 x5_1).f0) != a1) = true := bne_iff_ne.mpr c6; have H' := A_ H; clear H; have hcz8_0 : wr.cell? ⟨gb101, 0, none⟩ = some (.int .i64 a0_0) := (blk_cell BK101.out 0).trans rfl; have hcz8_1 : wr.cell? ⟨gb101, 1, none⟩ = some (.slice A0_1 l0_1.length c0_1) := (blk_cell BK101.out 1).trans rfl; have hcz8_2 : wr.cell? ⟨gb101, 2, none⟩ = some (.slice A0_2 l0_2.length c0_2) := (blk_cell BK101.out 2).trans rfl; have hfz8_0 := blk_frozen BK101.out 0; have hfz8_1 := blk_frozen BK101.out 1; have hfz8_2 := blk_frozen BK101.out 2; have p102 : 0 ≤ (x5_1 : Int) := oD; have q102 : x5_1 < (l0_2.length : Int) := oD; obtain ⟨ad102, e102, hx102_0, hx102_1⟩ := at_T49 HR0_2.out x5_1 p102 q102
   cases e102
   replace hx102_0 := (HB.out.cell (World.block_lt_of_cell? w _ hx102_0)).trans hx102_0; replace hx102_1 := (HB.out.cell (World.block_lt_of_cell? w _ hx102_1)).trans hx102_1; replace p102 := eq_true p102; replace q102 := eq_true q102
   go_wp2
   go_roundg k1
   case measure => have := HK1.out; omega
   case rel => exact ⟨(wrap64 (x5_1 + 1)), eS, H', ⟨by have := HK1.out; omega⟩, ⟨bkU BK101⟩, ⟨(bW1 HB.out GE101.out)⟩⟩
mutual
def feed_choose.l0 : Nat → List (S67) → Int → Int → List (S67) → Int → Int → Option ((List (List Int)) × Bool)
 | 0, _, _, _, _, _, _ => none
 | k + 1, x0, x1, x2, x14, x15, x16 => if x16 < x15 then (if 0 ≤ x16 then (if x16 < (x14.length : Int) then (if (Go.bits .and .i64 ((rd_T67 x14 x16).f0) x2) = 0 then (if 0 ≤ (wrap64 (x16 + 1)) then (if (wrap64 (x16 + 1)) ≤ (x0.length : Int) then ((feed_choose.f k (x0.drop ((wrap64 (x16 + 1)) : Int).toNat) (wrap64 (x1 - 1)) (Go.bits .or .i64 x2 ((rd_T67 x14 x16).f0))).bind fun bt108 => (if bt108.2 = true then ((some (([(rd_T67 x14 x16).f1] : List (List Int)) : List (List Int))).bind fun y112 => (if y112.length + bt108.1.length < 5864062014805 then (some ((y112 ++ bt108.1), true)) else (none))) else (feed_choose.l0 k x0 x1 x2 x14 x15 (wrap64 (x16 + 1))))) else (none)) else (none)) else (feed_choose.l0 k x0 x1 x2 x14 x15 (wrap64 (x16 + 1)))) else (none)) else (none)) else (some (([] : List (List Int)), false))
def feed_choose.f : Nat → List (S67) → Int → Int → Option ((List (List Int)) × Bool)
 | 0, _, _, _ => none
 | k + 1, l0, a1, a2 => if a1 = 0 then (some (([] : List (List Int)), true)) else (feed_choose.l0 k l0 a1 a2 l0 (l0.length : Int) 0)
end
def feed_choose.T7 : Bool × List (List Nat × List Nat) := (true, [([], []), ([], []), ([1], [1]), ([0, 2], [0, 2]), ([], []), ([4], [4]), ([], []), ([], []), ([7], [7]), ([6, 8], [6, 8]), ([3, 5, 9], [3, 5, 9]), ([10], [10]), ([11], [11]), ([11], [11]), ([12, 10, 0, 1, 2, 3, 4, 5, 6, 7, 8, 9, 10, 11, 12], [12]), ([13, 14, 0, 1, 2, 3, 4, 5, 6, 7, 8, 9, 10, 11, 12, 13, 14], [13])])
def feed_choose.B7 : List Nat := [0, 0, 2, 7, 0, 16, 0, 0, 128, 448, 1023, 2047, 4095, 4095, 8191, 32767]
theorem feed_choose.tab7 : rtab .any (opsOf Tryd.f23 7) = feed_choose.T7 := by kernel_rfl
theorem feed_choose.bits7 : waitsOk feed_choose.T7.2 feed_choose.B7 = true := by kernel_rfl
set_option maxHeartbeats 8000000 in
set_option maxRecDepth 100000 in
theorem feed_choose.calls (k : Nat) : ∀ (P0_ : Nat → Prop) (A0 : Option Addr) (c0 : Nat) (l0 : List (S67)) (a1 : Int) (a2 : Int) (r1 : List (List Int)) (r2 : Bool) (w : World) (hs0 : Kd.V k67 67 w w.heap.size (fun k_ => P0_ k_) (.slice A0 l0.length c0) l0) (h : feed_choose.f k l0 a1 a2 = some (r1, r2)),
  Calls Tryd.prog 23 #[.slice A0 l0.length c0, .int .i64 a1, .int .i64 a2] w fun e w' => ∃ v0_ : Value, e = .returned (.tuple #[v0_, .bool r2]) ∧ Kd.N (Kd.slice 3 (Kd.int .i64)) 28 w' w.heap.size (fun k_ => (P0_ k_ ∨ w.heap.size ≤ k_)) v0_ r1 ∧ Below w.heap.size w w' := by
 induction k using Nat.strongRecOn with
 | _ k ih =>
 intro P0_ A0 c0 l0 a1 a2 r1 r2 w hs0 h
 cases k with
 | zero => exact absurd h (by simp [feed_choose.f])
 | succ k =>
 simp only [feed_choose.f] at h; have hu67 := Tryd.underlying67
 have HO0 := A_ (show Kd.V k67 67 w w.heap.size (fun k_ => (P0_ k_ ∨ w.heap.size ≤ k_)) (.slice A0 l0.length c0) l0 from Kd.V_mono hs0 (fun k_ hk => .inl hk))
 have HB := A_ (Below.refl w.heap.size w); have H : (if a1 = 0 then (some (([] : List (List Int)), true)) else (feed_choose.l0 k l0 a1 a2 l0 (l0.length : Int) 0)) = some (r1, r2) := h; clear h; by_cases c4 : a1 = 0
 ·rw [if_pos c4] at H
  have c4b0 : (a1 == 0) = true := beq_iff_eq.mpr c4; have c4b1 : (a1 != 0) = false := bne_eq_false_iff_eq.mpr c4; clear c4; simp only [Option.some.injEq, Prod.mk.injEq] at H; obtain ⟨rfl, rfl⟩ := H
  go_enter Tryd.func23, Tryd.ntmps23
  go_wp2
  go_ret2
  exact ⟨_, by first | rfl | (simp [errW_none, errW_some] <;> rfl) | (simp [*, errW_none, errW_some] <;> rfl), by first | exact Kd.S_nil _ _ _ _ _ | exact Kd.N_nil _ _ _ _ _ | exact Kd.V_nil _ _ _ _ _ | exact Kd.Q_nil _ _ _ _ _ | exact Kd.R_nil _ _ _ _ _, (bW0 HB.out)⟩
 rw [if_neg c4] at H; have c4b0 : (a1 == 0) = false := beq_eq_false_iff_ne.mpr c4; have c4b1 : (a1 != 0) = true := bne_iff_ne.mpr c4; have H' := A_ H; clear H
 go_enter Tryd.func23, Tryd.ntmps23
 go_wp2
 go_loopg [16] k (fun kq v16 w' => ∃ (x16_1 : Int), v16 = .int .i64 x16_1 ∧ Aside0 (feed_choose.l0 kq l0 a1 a2 l0 (l0.length : Int) x16_1 = some (r1, r2)) ∧ Aside0 (kq ≤ k) ∧ Aside0 (Kd.V k67 67 w' w.heap.size (fun k_ => (P0_ k_ ∨ w.heap.size ≤ k_)) (.slice A0 l0.length c0) l0) ∧ Aside0 (Kd.V k67 67 w' w.heap.size (fun k_ => (P0_ k_ ∨ w.heap.size ≤ k_)) (.slice A0 l0.length c0) l0) ∧ Aside0 (Below w.heap.size w w'))
 case atStart => exact ⟨(0), eS, H', ⟨Nat.le_refl _⟩, ⟨vU HO0.out⟩, ⟨vU HO0.out⟩, ⟨(bW0 HB.out)⟩⟩
 case round =>
  clear H'
  try clear c2; try clear p2; try clear c4; try clear c4b0; try clear c4b1
  obtain ⟨x16_1, rfl, HA, HK1, HO_0, HO_14, HB⟩ := hrel
  cases gk with
  | zero => exact absurd HA.out (by simp [feed_choose.l0])
  | succ k1 =>
   have H := HA.out; clear HA; simp only [feed_choose.l0] at H; by_cases c5 : x16_1 < (l0.length : Int); rotate_left
   ·rw [if_neg c5] at H
    have c5b0 : decide (x16_1 < (l0.length : Int)) = false := decide_eq_false c5; clear c5; simp only [Option.some.injEq, Prod.mk.injEq] at H; obtain ⟨rfl, rfl⟩ := H
    go_wp2
    go_ret2
    exact ⟨_, by first | rfl | (simp [errW_none, errW_some] <;> rfl) | (simp [*, errW_none, errW_some] <;> rfl), by first | exact Kd.S_nil _ _ _ _ _ | exact Kd.N_nil _ _ _ _ _ | exact Kd.V_nil _ _ _ _ _ | exact Kd.Q_nil _ _ _ _ _ | exact Kd.R_nil _ _ _ _ _, (bW0 HB.out)⟩
   rw [if_pos c5] at H; have c5b0 : decide (x16_1 < (l0.length : Int)) = true := decide_eq_true c5; clear c5; by_cases c6 : 0 ≤ x16_1; rotate_left
   ·rw [if_neg c6] at H
    exact absurd H (by simp)
   rw [if_pos c6] at H; have c6b0 : decide (0 ≤ x16_1) = true := decide_eq_true c6; clear c6; by_cases c7 : x16_1 < (l0.length : Int); rotate_left
   ·rw [if_neg c7] at H
    exact absurd H (by simp)
   rw [if_pos c7] at H; have c7b0 : decide (x16_1 < (l0.length : Int)) = true := decide_eq_true c7; clear c7; by_cases c8 : (Go.bits .and .i64 ((rd_T67 l0 x16_1).f0) a2) = 0; rotate_left
   ·rw [if_neg c8] at H
    have c8b0 : ((Go.bits .and .i64 ((rd_T67 l0 x16_1).f0) a2) == 0) = false := beq_eq_false_iff_ne.mpr c8; have c8b1 : ((Go.bits .and .i64 ((rd_T67 l0 x16_1).f0) a2) != 0) = true := bne_iff_ne.mpr c8; have H' := A_ H; clear H; have p101 : 0 ≤ (x16_1 : Int) := oD; have q101 : x16_1 < (l0.length : Int) := oD; obtain ⟨ad101, A101_1, c101_1, e101, hx101_0, hx101_1, hl101_1, hi101_1⟩ := at_T67 (Kd.V_reads' HO_14.out).2.2 x16_1 p101 q101
    cases e101
    obtain ⟨ce101, hce101, hMe101, hcc101⟩ := Kd.V_get HO_14.out z67 x16_1 p101 (by first | exact q101 | exact oD | (have e_ := (Kd.V_reads' HO_14.out).1; omega))
    obtain ⟨ua101_1, uc101_1, rfl, ul101_1, ge101_1⟩ := k67_openF hMe101; have hv101_1 := hcc101 1 _ rfl; rw [add_field _ _ 1 (by omega)] at hv101_1; replace hv101_1 := Option.some.inj (hv101_1.symm.trans hx101_1)
    injection hv101_1 with hva_ hvn_ hvc_
    rw [hva_] at ge101_1; rw [hvc_] at ul101_1
    have HL101_1 := A_ (show Kd.V (Kd.int .i64) 3 _ w.heap.size _ _ ((rd_T67 l0 x16_1).f1) from Kd.V_mk ul101_1 ge101_1)
    clear hva_ hvn_ hvc_ ge101_1 ul101_1; clear hcc101 hce101; have HR101_1 := A_ hi101_1; have HC101_1 := A_ hl101_1; clear hi101_1 hl101_1; replace p101 := eq_true p101; replace q101 := eq_true q101
    go_wp2_with (first | ((with_reducible refine gate_dst (N := 9) rfl ?_); refine bxW 9 (cs := #[.int .i64 0, .slice none 0 0]) (t := 67) ?_; intro gb102 hg w32 hbox hb; have BK102 := A_ (hbox); have GW102 := A_ ((szG hg (bW0 HB.out))); have GE102 := A_ ((szG hg (bW0 HB.out))); replace HO_0 := A_ (Kd.V_below (Kd.V_elderB (vU HO_0.out) gb102 (Nat.le_of_eq hg.symm)) hb); replace HO_14 := A_ (Kd.V_below (Kd.V_elderB (vU HO_14.out) gb102 (Nat.le_of_eq hg.symm)) hb); replace HL101_1 := A_ (Kd.V_below (Kd.V_elderB (vU HL101_1.out) gb102 (Nat.le_of_eq hg.symm)) hb); replace HR101_1 := A_ (Kd.C_below (by repeat (first | (with_reducible exact HR101_1.out) | (with_reducible refine Kd.C_alloc ?_ _) | (with_reducible refine Kd.C_drewN ?_ _) | (with_reducible refine Kd.C_drew ?_) | exact HR101_1.out)) hb); replace HB := A_ (below_step (bW0 HB.out) hb); clear hb hbox hg; have hcz33_0 : w32.cell? ⟨gb102, 0, none⟩ = some (.int .i64 0) := (blk_cell BK102.out 0).trans rfl; have hcz33_1 : w32.cell? ⟨gb102, 1, none⟩ = some (.slice none 0 0) := (blk_cell BK102.out 1).trans rfl; have hfz33_0 := blk_frozen BK102.out 0; have hfz33_1 := blk_frozen BK102.out 1))
    go_roundg k1
    case measure => have := HK1.out; omega
    case rel => exact ⟨(wrap64 (x16_1 + 1)), eS, H', ⟨by have := HK1.out; omega⟩, ⟨by (with_reducible repeat (first | apply Kd.V_alloc | apply Kd.V_drewN | apply Kd.V_drew)); exact Kd.V_mono (Kd.V_far (p := ⟨gb102, 1, none⟩) (Kd.V_far (p := ⟨gb102, 0, none⟩) (Kd.V_mono HO_0.out (fun k_ hk => (⟨hk, hk.2⟩ : _ ∧ k_ ≠ gb102))) (fun _ hk => hk.2) (.int .i64 ((rd_T67 l0 x16_1).f0))) (fun _ hk => hk.2) (.slice A101_1 ((rd_T67 l0 x16_1).f1).length c101_1)) (fun _ hk => hk.1.1)⟩, ⟨by (with_reducible repeat (first | apply Kd.V_alloc | apply Kd.V_drewN | apply Kd.V_drew)); exact Kd.V_mono (Kd.V_far (p := ⟨gb102, 1, none⟩) (Kd.V_far (p := ⟨gb102, 0, none⟩) (Kd.V_mono HO_14.out (fun k_ hk => (⟨hk, hk.2⟩ : _ ∧ k_ ≠ gb102))) (fun _ hk => hk.2) (.int .i64 ((rd_T67 l0 x16_1).f0))) (fun _ hk => hk.2) (.slice A101_1 ((rd_T67 l0 x16_1).f1).length c101_1)) (fun _ hk => hk.1.1)⟩, ⟨(bW1 HB.out GE102.out)⟩⟩
   rw [if_pos c8] at H; have c8b0 : ((Go.bits .and .i64 ((rd_T67 l0 x16_1).f0) a2) == 0) = true := beq_iff_eq.mpr c8; have c8b1 : ((Go.bits .and .i64 ((rd_T67 l0 x16_1).f0) a2) != 0) = false := bne_eq_false_iff_eq.mpr c8; clear c8; obtain ⟨ji9, hji9⟩ : ∃ j_ : Int, (wrap64 (x16_1 + 1)) = j_ := ⟨_, rfl⟩
   replace H : (if 0 ≤ (ji9) then (if (ji9) ≤ (l0.length : Int) then ((feed_choose.f k1 (l0.drop ((ji9) : Int).toNat) (wrap64 (a1 - 1)) (Go.bits .or .i64 a2 ((rd_T67 l0 x16_1).f0))).bind fun bt108 => (if bt108.2 = true then ((some (([(rd_T67 l0 x16_1).f1] : List (List Int)) : List (List Int))).bind fun y112 => (if y112.length + bt108.1.length < 5864062014805 then (some ((y112 ++ bt108.1), true)) else (none))) else (feed_choose.l0 k1 l0 a1 a2 l0 (l0.length : Int) ji9))) else (none)) else (none)) = some (r1, r2) := by first | (rw [hji9] at H; exact H) | (simp only [hji9] at H ⊢; exact H)
   have hji9w : (IntKind.i64.wrap (x16_1 + 1)) = ji9 := (i64_w _).trans hji9; by_cases c10 : 0 ≤ (ji9); rotate_left
   ·rw [if_neg c10] at H
    exact absurd H (by simp)
   rw [if_pos c10] at H; have c10b0 := eq_true c10; have c10b1 : decide (0 ≤ (ji9)) = true := decide_eq_true c10; clear c10; by_cases c11 : (ji9) ≤ (l0.length : Int); rotate_left
   ·rw [if_neg c11] at H
    exact absurd H (by simp)
   rw [if_pos c11] at H; have c11b0 := eq_true c11; have c11b1 : decide ((ji9) ≤ (l0.length : Int)) = true := decide_eq_true c11; clear c11; obtain ⟨y103, hy103⟩ : ∃ y_ : List (S67), y_ = (l0.drop ((ji9) : Int).toNat) := ⟨_, rfl⟩
   replace H : ((feed_choose.f k1 y103 (wrap64 (a1 - 1)) (Go.bits .or .i64 a2 ((rd_T67 l0 x16_1).f0))).bind fun bt108 => (if bt108.2 = true then ((some (([(rd_T67 l0 x16_1).f1] : List (List Int)) : List (List Int))).bind fun y112 => (if y112.length + bt108.1.length < 5864062014805 then (some ((y112 ++ bt108.1), true)) else (none))) else (feed_choose.l0 k1 l0 a1 a2 l0 (l0.length : Int) ji9))) = some (r1, r2) := by first | (rw [hy103]; with_reducible exact H) | (have H2_ := (Option.bind_some _ _).symm.trans H; rw [hy103]; with_reducible exact H2_) | (have H2_ := (Option.bind_some _ _).symm.trans H; with_reducible exact H2_) | with_reducible exact H | (rw [hy103]; exact H) | exact H
   have Ny103 := A_ hy103; clear hy103; replace H := Option.bind_eq_some_iff.mp H; obtain ⟨⟨t108, t111⟩, A120, H⟩ := H; (try dsimp only at H); have A12 := A_ A120; clear A120; by_cases c13 : t111 = true; rotate_left
   ·replace c13 := Bool.eq_false_iff.mpr c13
    subst c13; rw [if_neg (show ¬ (false = true) by decide)] at H; have H' := A_ H; clear H; have p101 : 0 ≤ (x16_1 : Int) := oD; have q101 : x16_1 < (l0.length : Int) := oD; obtain ⟨ad101, A101_1, c101_1, e101, hx101_0, hx101_1, hl101_1, hi101_1⟩ := at_T67 (Kd.V_reads' HO_14.out).2.2 x16_1 p101 q101
    cases e101
    obtain ⟨ce101, hce101, hMe101, hcc101⟩ := Kd.V_get HO_14.out z67 x16_1 p101 (by first | exact q101 | exact oD | (have e_ := (Kd.V_reads' HO_14.out).1; omega))
    obtain ⟨ua101_1, uc101_1, rfl, ul101_1, ge101_1⟩ := k67_openF hMe101; have hv101_1 := hcc101 1 _ rfl; rw [add_field _ _ 1 (by omega)] at hv101_1; replace hv101_1 := Option.some.inj (hv101_1.symm.trans hx101_1)
    injection hv101_1 with hva_ hvn_ hvc_
    rw [hva_] at ge101_1; rw [hvc_] at ul101_1
    have HL101_1 := A_ (show Kd.V (Kd.int .i64) 3 _ w.heap.size _ _ ((rd_T67 l0 x16_1).f1) from Kd.V_mk ul101_1 ge101_1)
    clear hva_ hvn_ hvc_ ge101_1 ul101_1; clear hcc101 hce101; have HR101_1 := A_ hi101_1; have HC101_1 := A_ hl101_1; clear hi101_1 hl101_1; replace p101 := eq_true p101; replace q101 := eq_true q101
    try go_wp2_with (first | ((with_reducible refine gate_dst (N := 9) rfl ?_); refine bxW 9 (cs := #[.int .i64 0, .slice none 0 0]) (t := 67) ?_; intro gb102 hg w26 hbox hb; have BK102 := A_ (hbox); have GW102 := A_ ((szG hg (bW0 HB.out))); have GE102 := A_ ((szG hg (bW0 HB.out))); replace HO_0 := A_ (Kd.V_below (Kd.V_elderB (vU HO_0.out) gb102 (Nat.le_of_eq hg.symm)) hb); replace HO_14 := A_ (Kd.V_below (Kd.V_elderB (vU HO_14.out) gb102 (Nat.le_of_eq hg.symm)) hb); replace HL101_1 := A_ (Kd.V_below (Kd.V_elderB (vU HL101_1.out) gb102 (Nat.le_of_eq hg.symm)) hb); replace HR101_1 := A_ (Kd.C_below (by repeat (first | (with_reducible exact HR101_1.out) | (with_reducible refine Kd.C_alloc ?_ _) | (with_reducible refine Kd.C_drewN ?_ _) | (with_reducible refine Kd.C_drew ?_) | exact HR101_1.out)) hb); replace HB := A_ (below_step (bW0 HB.out) hb); clear hb hbox hg; have hcz27_0 : w26.cell? ⟨gb102, 0, none⟩ = some (.int .i64 0) := (blk_cell BK102.out 0).trans rfl; have hcz27_1 : w26.cell? ⟨gb102, 1, none⟩ = some (.slice none 0 0) := (blk_cell BK102.out 1).trans rfl; have hfz27_0 := blk_frozen BK102.out 0; have hfz27_1 := blk_frozen BK102.out 1))
    have n0_ : Aside0 (Kd.V k67 67 ((w26.setCell ⟨gb102, 0, none⟩ (.int .i64 ((rd_T67 l0 x16_1).f0))).setCell ⟨gb102, 1, none⟩ (.slice A101_1 ((rd_T67 l0 x16_1).f1).length c101_1)) w.heap.size (fun k_ => (P0_ k_ ∨ w.heap.size ≤ k_) ∧ k_ ≠ gb102) (.slice (some ad101) l0.length c0) l0) := ⟨by (with_reducible repeat (first | apply Kd.V_alloc | apply Kd.V_drewN | apply Kd.V_drew)); exact Kd.V_mono (Kd.V_far (p := ⟨gb102, 1, none⟩) (Kd.V_far (p := ⟨gb102, 0, none⟩) (Kd.V_mono HO_0.out (fun k_ hk => (⟨hk, hk.2⟩ : _ ∧ k_ ≠ gb102))) (fun _ hk => hk.2) (.int .i64 ((rd_T67 l0 x16_1).f0))) (fun _ hk => hk.2) (.slice A101_1 ((rd_T67 l0 x16_1).f1).length c101_1)) (fun _ hk => ⟨hk.1.1, hk.1.2⟩)⟩
    have n1_ : Aside0 (Kd.V k67 67 ((w26.setCell ⟨gb102, 0, none⟩ (.int .i64 ((rd_T67 l0 x16_1).f0))).setCell ⟨gb102, 1, none⟩ (.slice A101_1 ((rd_T67 l0 x16_1).f1).length c101_1)) w.heap.size (fun k_ => (P0_ k_ ∨ w.heap.size ≤ k_) ∧ k_ ≠ gb102) (.slice (some ad101) l0.length c0) l0) := ⟨by (with_reducible repeat (first | apply Kd.V_alloc | apply Kd.V_drewN | apply Kd.V_drew)); exact Kd.V_mono (Kd.V_far (p := ⟨gb102, 1, none⟩) (Kd.V_far (p := ⟨gb102, 0, none⟩) (Kd.V_mono HO_14.out (fun k_ hk => (⟨hk, hk.2⟩ : _ ∧ k_ ≠ gb102))) (fun _ hk => hk.2) (.int .i64 ((rd_T67 l0 x16_1).f0))) (fun _ hk => hk.2) (.slice A101_1 ((rd_T67 l0 x16_1).f1).length c101_1)) (fun _ hk => ⟨hk.1.1, hk.1.2⟩)⟩
    have n2_ : Aside0 (Kd.V (Kd.int .i64) 3 ((w26.setCell ⟨gb102, 0, none⟩ (.int .i64 ((rd_T67 l0 x16_1).f0))).setCell ⟨gb102, 1, none⟩ (.slice A101_1 ((rd_T67 l0 x16_1).f1).length c101_1)) w.heap.size (fun k_ => (P0_ k_ ∨ w.heap.size ≤ k_) ∧ k_ ≠ gb102) (.slice A101_1 ((rd_T67 l0 x16_1).f1).length c101_1) ((rd_T67 l0 x16_1).f1)) := ⟨by (with_reducible repeat (first | apply Kd.V_alloc | apply Kd.V_drewN | apply Kd.V_drew)); exact Kd.V_mono (Kd.V_far (p := ⟨gb102, 1, none⟩) (Kd.V_far (p := ⟨gb102, 0, none⟩) (Kd.V_mono HL101_1.out (fun k_ hk => (⟨hk, hk.2⟩ : _ ∧ k_ ≠ gb102))) (fun _ hk => hk.2) (.int .i64 ((rd_T67 l0 x16_1).f0))) (fun _ hk => hk.2) (.slice A101_1 ((rd_T67 l0 x16_1).f1).length c101_1)) (fun _ hk => ⟨hk.1.1, hk.1.2⟩)⟩
    have n3_ : Aside0 (((w26.setCell ⟨gb102, 0, none⟩ (.int .i64 ((rd_T67 l0 x16_1).f0))).setCell ⟨gb102, 1, none⟩ (.slice A101_1 ((rd_T67 l0 x16_1).f1).length c101_1)).heap[gb102]? = some (.cells #[.int .i64 ((rd_T67 l0 x16_1).f0), .slice A101_1 ((rd_T67 l0 x16_1).f1).length c101_1] 67 (0, 0))) := ⟨by (with_reducible repeat (first | refine blk_drewN ?_ _ | refine blk_drew ?_ | refine blk_alloc ?_ _)); refine blk_put (cs := #[.int .i64 ((rd_T67 l0 x16_1).f0), .slice none 0 0]) ?_ 1 _ rfl; (with_reducible repeat (first | refine blk_drewN ?_ _ | refine blk_drew ?_ | refine blk_alloc ?_ _)); refine blk_put (cs := #[.int .i64 0, .slice none 0 0]) ?_ 0 _ rfl; exact bkU BK102⟩
    have n4_ : Aside0 (Below w.heap.size w ((w26.setCell ⟨gb102, 0, none⟩ (.int .i64 ((rd_T67 l0 x16_1).f0))).setCell ⟨gb102, 1, none⟩ (.slice A101_1 ((rd_T67 l0 x16_1).f1).length c101_1))) := ⟨(bW1 HB.out GE102.out)⟩
    (try clear HO_0)
    (try clear HO_14)
    (try clear HL101_1)
    (try clear BK102)
    (try clear HB)
    generalize ((w26.setCell ⟨gb102, 0, none⟩ (.int .i64 ((rd_T67 l0 x16_1).f0))).setCell ⟨gb102, 1, none⟩ (.slice A101_1 ((rd_T67 l0 x16_1).f1).length c101_1)) = w28 at n0_ n1_ n2_ n3_ n4_ ⊢; have HO_0 := n0_; have HO_14 := n1_; have HL101_1 := n2_; have BK102 := n3_; have HB := n4_; clear n0_ n1_ n2_ n3_ n4_; replace HO_0 := A_ (Kd.V_drew HO_0.out); replace HO_14 := A_ (Kd.V_drew HO_14.out); replace HL101_1 := A_ (Kd.V_drew HL101_1.out); replace BK102 := A_ (blk_drew BK102.out); replace HB := A_ (below_drew1 HB.out); have q30 : ((ji9) : Int) ≤ ((l0.length : Int) : Int) := oD; obtain ⟨i030, hi030, _, hsz30, _⟩ := info_parts info67; have hroom30 : l0.length ≤ c0 := (Kd.V_reads' HO_0.out).2.1; have hC30 : Kd.F k67 _ _ (some ad101) l0.length l0 := (Kd.V_at (base := w.heap.size) HO_0.out).2.2; have q030 : (0 : Int) ≤ ((ji9) : Int) := oD; have hcut30 := cut_from (P := Tryd.prog) 64 67 .i64 Tryd.underlying64 hi030 2 hsz30 (some ad101) l0.length c0 (ji9) q030 q30
    have hr30 := Kd.F_cut (m := ((ji9) : Int).toNat) (c := c0) hC30 (by omega) hroom30
    obtain ⟨A30, hA30⟩ : ∃ A1, A1 = (if c0 = ((ji9) : Int).toNat then (some ad101) else ((some ad101) : Option Addr).map (·.add (((ji9) : Int).toNat * 2))) := ⟨_, rfl⟩
    obtain ⟨c30, hc30⟩ : ∃ c1, c1 = c0 - ((ji9) : Int).toNat := ⟨_, rfl⟩
    have hy30 : y103.length = l0.length - ((ji9) : Int).toNat := (by rw [Ny103.out, List.length_drop] <;> omega)
    rw [show (l0).drop ((ji9) : Int).toNat = y103 from Ny103.out.symm] at hr30
    replace hr30 : Kd.F k67 _ _ A30 y103.length y103 := (by rw [hA30]; exact hr30)
    rw [← hy30, ← hA30, ← hc30] at hcut30
    have HO107 := A_ (show Kd.V k67 67 _ w.heap.size _ (.slice A30 y103.length c30) y103 from Kd.V_mk (by rw [hy30, hc30]; exact Nat.sub_le_sub_right hroom30 _) hr30)
    have HC107 := A_ (show y103.length ≤ c30 from by rw [hy30, hc30]; exact Nat.sub_le_sub_right hroom30 _)
    clear hr30 hC30 hroom30 hi030 hsz30 hc30; have KY30 := A_ hy30; have KA30 := A_ hA30; clear hy30 hA30; replace q30 := eq_true q30
    refine start_ (n := 16) (S := fun w' => w'.cell? ⟨gb102, 0, none⟩ = some (.int .i64 ((rd_T67 l0 x16_1).f0)) ∧ w'.cell? ⟨gb102, 1, none⟩ = some (.slice A101_1 ((rd_T67 l0 x16_1).f1).length c101_1)) (ds := []) (mkB 16 0) (by kernel_rfl) rfl rfl ⟨(blk_cell BK102.out 0).trans rfl, (blk_cell BK102.out 1).trans rfl⟩ (fun hHeld => ?_); refine with_tabW feed_choose.tab7 feed_choose.bits7 (fun HT_ HW_ => ?_)
    generalize w28.drew = w29 at HO_0 HO_14 HL101_1 BK102 HB HO107 hHeld ⊢; refine pr_ 0 (some 27) (mkB 16 1) HT_ ?_; refine pr_ 1 (some 28) (mkB 16 3) HT_ ?_; refine pr_ 2 (some 29) (mkB 16 7) HT_ ?_; refine pr_ 3 (some 30) (mkB 16 15) HT_ ?_; refine pr_ 4 (some 31) (mkB 16 31) HT_ ?_; refine pr_ 5 (some 32) (mkB 16 63) HT_ ?_; refine pr_ 6 (some 33) (mkB 16 127) HT_ ?_; refine pr_ 7 (some 34) (mkB 16 255) HT_ ?_
    refine take_ (i := 8) (N := some 35) (v := ?_) (a' := ?_) (mkB 16 511) rfl rfl (take_ofW HT_.out HW_.out (by kernel_rfl)) (fun _ _ _ h => h) (Or.inl ⟨by rfl, ?_⟩) hHeld ?_ ?_
    rotate_left
    ·rintro w' ⟨s0, s1⟩
     go_simp
     with_reducible rfl
    rotate_left
    ·simp only [Act.put, List.setIfInBounds_toArray, List.set_cons_zero, List.set_cons_succ, i64_w, i32_w]
     rfl
    refine pr_ 9 (some 36) (mkB 16 1023) HT_ ?_
    refine one_ (i := 10) (N := some 37) (mkB 16 2047) rfl rfl (one_of HT_.out (by kernel_rfl)) (by decide) (fun K hK => ?_)
    refine goes_ Tryd.func23 (by kernel_rfl) rfl #[.slice A30 y103.length c30, .int .i64 (wrap64 (a1 - 1)), .int .i64 (Go.bits .or .i64 a2 ((rd_T67 l0 x16_1).f0))] (by rfl) rfl rfl (by (try simp only [List.map_toArray, List.map_cons, List.map_nil]); first | done | rfl | (simp only [List.length_drop, List.length_take]; rfl)) ?_
    with_reducible refine (ih k1 (by have := HK1.out; omega) (fun k_ => ((P0_ k_ ∨ w.heap.size ≤ k_) ∧ k_ ≠ gb102)) _ _ y103 (wrap64 (a1 - 1)) (Go.bits .or .i64 a2 ((rd_T67 l0 x16_1).f0)) t108 false _ ?side1 A12.out).mono ?_
    (case side1 => exact HO107.out)
    rintro e w31 ⟨v109, rfl, ho0, hb⟩
    refine ⟨_, rfl, ?_⟩
    have n0_ := A_ (Kd.V_elder' (vU HO_0.out) (Kd.N_base ho0) hb); have n1_ := A_ (Kd.V_elder' (vU HO_14.out) (Kd.N_base ho0) hb); have n2_ := A_ (Kd.V_elder' (vU HL101_1.out) (Kd.N_base ho0) hb); have n3_ := A_ (Kd.V_elder' (vU HO107.out) (Kd.N_base ho0) hb)
    have n4_ := A_ (Kd.N_lower (Kd.N_mono (ok' := fun k_ => (P0_ k_ ∨ w.heap.size ≤ k_) ∧ k_ ≠ gb102) ho0 (fun k_ hk_ => ⟨Or.elim hk_ (fun hs_ => hs_.1) (fun hn_ => (.inr (Nat.le_trans (below_size (bW1 HB.out GE102.out)) hn_))), Or.elim hk_ (fun hs_ => hs_.2) (fun hn_ => (Kd.freshB (g := gb102) (o := .cells #[.int .i64 ((rd_T67 l0 x16_1).f0), .slice A101_1 ((rd_T67 l0 x16_1).f1).length c101_1] 67 (0, 0)) (bkU BK102) k_ hn_))⟩)) (below_size (bW1 HB.out GE102.out)))
    have n5_ := A_ (bkB BK102 hb); have n6_ := A_ (below_step (bW1 HB.out GE102.out) hb); clear HO_0 HO_14 HL101_1 HO107 BK102 HB; have HO_0 := n0_; have HO_14 := n1_; have HL101_1 := n2_; have HO107 := n3_; have HO110 := n4_; have BK102 := n5_; have HB := n6_; clear n0_ n1_ n2_ n3_ n4_ n5_ n6_
    (try clear hb)
    (try clear hb2)
    (try clear hk)
    (try clear hi)
    (try clear ho0)
    refine hK.out _ _ ⟨(blk_cell BK102.out 0).trans rfl, (blk_cell BK102.out 1).trans rfl⟩ (fun hHeld => ?_)
    clear hK K
    refine norm_ (a' := ?_) ?_ ?_
    rotate_left
    ·show Act.put _ (some 37) _ = _
     simp only [Act.put, List.setIfInBounds_toArray, List.set_cons_zero, List.set_cons_succ, i64_w, i32_w]
     rfl
    refine pr_ 11 (some 26) (mkB 16 4095) HT_ ?_; refine pr_ 12 (some 38) (mkB 16 8191) HT_ ?_; refine pr_ 13 (some 39) (mkB 16 16383) HT_ ?_; refine pr_ 14 (some 10) (mkB 16 32767) HT_ ?_; refine pr_ 15 (some 11) (mkB 16 65535) HT_ ?_
    refine done_ (done_of HT_.out (by kernel_rfl)) ?_
    try go_wp2
    go_roundg k1
    case measure => have := HK1.out; omega
    case rel => exact ⟨(ji9), (by first | rfl | (simp; done) | (simp only [← hji9] <;> (first | rfl | simp)) | (simp [*]; done)), H', ⟨by have := HK1.out; omega⟩, ⟨by (with_reducible repeat (first | apply Kd.V_alloc | apply Kd.V_drewN | apply Kd.V_drew)); exact Kd.V_mono HO_0.out (fun _ hk => hk.1.1)⟩, ⟨by (with_reducible repeat (first | apply Kd.V_alloc | apply Kd.V_drewN | apply Kd.V_drew)); exact Kd.V_mono HO_14.out (fun _ hk => hk.1.1)⟩, ⟨(bW1 HB.out GE102.out)⟩⟩
   subst c13; rw [if_pos rfl] at H; obtain ⟨y112, hy112⟩ : ∃ y_ : List (List Int), y_ = (([(rd_T67 l0 x16_1).f1] : List (List Int))) := ⟨_, rfl⟩
   replace H : (if y112.length + t108.length < 5864062014805 then (some ((y112 ++ t108), true)) else (none)) = some (r1, r2) := by first | (rw [hy112]; with_reducible exact H) | (have H2_ := (Option.bind_some _ _).symm.trans H; rw [hy112]; with_reducible exact H2_) | (have H2_ := (Option.bind_some _ _).symm.trans H; with_reducible exact H2_) | with_reducible exact H | (rw [hy112]; exact H) | exact H
   have Ny112 := A_ hy112; clear hy112; by_cases c14 : y112.length + t108.length < 5864062014805; rotate_left
   ·rw [if_neg c14] at H
    exact absurd H (by simp)
   rw [if_pos c14] at H; have LMc14 := A_ c14; clear c14; obtain ⟨y115, hy115⟩ : ∃ y_ : List (List Int), y_ = (y112 ++ t108) := ⟨_, rfl⟩
   replace H : (some (y115, true)) = some (r1, r2) := by first | (rw [hy115]; with_reducible exact H) | (have H2_ := (Option.bind_some _ _).symm.trans H; rw [hy115]; with_reducible exact H2_) | (have H2_ := (Option.bind_some _ _).symm.trans H; with_reducible exact H2_) | with_reducible exact H | (rw [hy115]; exact H) | exact H
   have Ny115 := A_ hy115; clear hy115; simp only [Option.some.injEq, Prod.mk.injEq] at H; obtain ⟨rfl, rfl⟩ := H; have p101 : 0 ≤ (x16_1 : Int) := oD; have q101 : x16_1 < (l0.length : Int) := oD; obtain ⟨ad101, A101_1, c101_1, e101, hx101_0, hx101_1, hl101_1, hi101_1⟩ := at_T67 (Kd.V_reads' HO_14.out).2.2 x16_1 p101 q101
   cases e101
   obtain ⟨ce101, hce101, hMe101, hcc101⟩ := Kd.V_get HO_14.out z67 x16_1 p101 (by first | exact q101 | exact oD | (have e_ := (Kd.V_reads' HO_14.out).1; omega))
   obtain ⟨ua101_1, uc101_1, rfl, ul101_1, ge101_1⟩ := k67_openF hMe101; have hv101_1 := hcc101 1 _ rfl; rw [add_field _ _ 1 (by omega)] at hv101_1; replace hv101_1 := Option.some.inj (hv101_1.symm.trans hx101_1)
   injection hv101_1 with hva_ hvn_ hvc_
   rw [hva_] at ge101_1; rw [hvc_] at ul101_1
   have HL101_1 := A_ (show Kd.V (Kd.int .i64) 3 _ w.heap.size _ _ ((rd_T67 l0 x16_1).f1) from Kd.V_mk ul101_1 ge101_1)
   clear hva_ hvn_ hvc_ ge101_1 ul101_1; clear hcc101 hce101; have HR101_1 := A_ hi101_1; have HC101_1 := A_ hl101_1; clear hi101_1 hl101_1; replace p101 := eq_true p101; replace q101 := eq_true q101
   try go_wp2_with (first | ((with_reducible refine gate_dst (N := 9) rfl ?_); refine bxW 9 (cs := #[.int .i64 0, .slice none 0 0]) (t := 67) ?_; intro gb102 hg w15 hbox hb; have BK102 := A_ (hbox); have GW102 := A_ ((szG hg (bW0 HB.out))); have GE102 := A_ ((szG hg (bW0 HB.out))); replace HO_0 := A_ (Kd.V_below (Kd.V_elderB (vU HO_0.out) gb102 (Nat.le_of_eq hg.symm)) hb); replace HO_14 := A_ (Kd.V_below (Kd.V_elderB (vU HO_14.out) gb102 (Nat.le_of_eq hg.symm)) hb); replace HL101_1 := A_ (Kd.V_below (Kd.V_elderB (vU HL101_1.out) gb102 (Nat.le_of_eq hg.symm)) hb); replace HR101_1 := A_ (Kd.C_below (by repeat (first | (with_reducible exact HR101_1.out) | (with_reducible refine Kd.C_alloc ?_ _) | (with_reducible refine Kd.C_drewN ?_ _) | (with_reducible refine Kd.C_drew ?_) | exact HR101_1.out)) hb); replace HB := A_ (below_step (bW0 HB.out) hb); clear hb hbox hg; have hcz16_0 : w15.cell? ⟨gb102, 0, none⟩ = some (.int .i64 0) := (blk_cell BK102.out 0).trans rfl; have hcz16_1 : w15.cell? ⟨gb102, 1, none⟩ = some (.slice none 0 0) := (blk_cell BK102.out 1).trans rfl; have hfz16_0 := blk_frozen BK102.out 0; have hfz16_1 := blk_frozen BK102.out 1))
   have n0_ : Aside0 (Kd.V k67 67 ((w15.setCell ⟨gb102, 0, none⟩ (.int .i64 ((rd_T67 l0 x16_1).f0))).setCell ⟨gb102, 1, none⟩ (.slice A101_1 ((rd_T67 l0 x16_1).f1).length c101_1)) w.heap.size (fun k_ => (P0_ k_ ∨ w.heap.size ≤ k_) ∧ k_ ≠ gb102) (.slice (some ad101) l0.length c0) l0) := ⟨by (with_reducible repeat (first | apply Kd.V_alloc | apply Kd.V_drewN | apply Kd.V_drew)); exact Kd.V_mono (Kd.V_far (p := ⟨gb102, 1, none⟩) (Kd.V_far (p := ⟨gb102, 0, none⟩) (Kd.V_mono HO_0.out (fun k_ hk => (⟨hk, hk.2⟩ : _ ∧ k_ ≠ gb102))) (fun _ hk => hk.2) (.int .i64 ((rd_T67 l0 x16_1).f0))) (fun _ hk => hk.2) (.slice A101_1 ((rd_T67 l0 x16_1).f1).length c101_1)) (fun _ hk => ⟨hk.1.1, hk.1.2⟩)⟩
   have n1_ : Aside0 (Kd.V k67 67 ((w15.setCell ⟨gb102, 0, none⟩ (.int .i64 ((rd_T67 l0 x16_1).f0))).setCell ⟨gb102, 1, none⟩ (.slice A101_1 ((rd_T67 l0 x16_1).f1).length c101_1)) w.heap.size (fun k_ => (P0_ k_ ∨ w.heap.size ≤ k_) ∧ k_ ≠ gb102) (.slice (some ad101) l0.length c0) l0) := ⟨by (with_reducible repeat (first | apply Kd.V_alloc | apply Kd.V_drewN | apply Kd.V_drew)); exact Kd.V_mono (Kd.V_far (p := ⟨gb102, 1, none⟩) (Kd.V_far (p := ⟨gb102, 0, none⟩) (Kd.V_mono HO_14.out (fun k_ hk => (⟨hk, hk.2⟩ : _ ∧ k_ ≠ gb102))) (fun _ hk => hk.2) (.int .i64 ((rd_T67 l0 x16_1).f0))) (fun _ hk => hk.2) (.slice A101_1 ((rd_T67 l0 x16_1).f1).length c101_1)) (fun _ hk => ⟨hk.1.1, hk.1.2⟩)⟩
   have n2_ : Aside0 (Kd.V (Kd.int .i64) 3 ((w15.setCell ⟨gb102, 0, none⟩ (.int .i64 ((rd_T67 l0 x16_1).f0))).setCell ⟨gb102, 1, none⟩ (.slice A101_1 ((rd_T67 l0 x16_1).f1).length c101_1)) w.heap.size (fun k_ => (P0_ k_ ∨ w.heap.size ≤ k_) ∧ k_ ≠ gb102) (.slice A101_1 ((rd_T67 l0 x16_1).f1).length c101_1) ((rd_T67 l0 x16_1).f1)) := ⟨by (with_reducible repeat (first | apply Kd.V_alloc | apply Kd.V_drewN | apply Kd.V_drew)); exact Kd.V_mono (Kd.V_far (p := ⟨gb102, 1, none⟩) (Kd.V_far (p := ⟨gb102, 0, none⟩) (Kd.V_mono HL101_1.out (fun k_ hk => (⟨hk, hk.2⟩ : _ ∧ k_ ≠ gb102))) (fun _ hk => hk.2) (.int .i64 ((rd_T67 l0 x16_1).f0))) (fun _ hk => hk.2) (.slice A101_1 ((rd_T67 l0 x16_1).f1).length c101_1)) (fun _ hk => ⟨hk.1.1, hk.1.2⟩)⟩
   have n3_ : Aside0 (((w15.setCell ⟨gb102, 0, none⟩ (.int .i64 ((rd_T67 l0 x16_1).f0))).setCell ⟨gb102, 1, none⟩ (.slice A101_1 ((rd_T67 l0 x16_1).f1).length c101_1)).heap[gb102]? = some (.cells #[.int .i64 ((rd_T67 l0 x16_1).f0), .slice A101_1 ((rd_T67 l0 x16_1).f1).length c101_1] 67 (0, 0))) := ⟨by (with_reducible repeat (first | refine blk_drewN ?_ _ | refine blk_drew ?_ | refine blk_alloc ?_ _)); refine blk_put (cs := #[.int .i64 ((rd_T67 l0 x16_1).f0), .slice none 0 0]) ?_ 1 _ rfl; (with_reducible repeat (first | refine blk_drewN ?_ _ | refine blk_drew ?_ | refine blk_alloc ?_ _)); refine blk_put (cs := #[.int .i64 0, .slice none 0 0]) ?_ 0 _ rfl; exact bkU BK102⟩
   have n4_ : Aside0 (Below w.heap.size w ((w15.setCell ⟨gb102, 0, none⟩ (.int .i64 ((rd_T67 l0 x16_1).f0))).setCell ⟨gb102, 1, none⟩ (.slice A101_1 ((rd_T67 l0 x16_1).f1).length c101_1))) := ⟨(bW1 HB.out GE102.out)⟩
   (try clear HO_0)
   (try clear HO_14)
   (try clear HL101_1)
   (try clear BK102)
   (try clear HB)
   generalize ((w15.setCell ⟨gb102, 0, none⟩ (.int .i64 ((rd_T67 l0 x16_1).f0))).setCell ⟨gb102, 1, none⟩ (.slice A101_1 ((rd_T67 l0 x16_1).f1).length c101_1)) = w17 at n0_ n1_ n2_ n3_ n4_ ⊢; have HO_0 := n0_; have HO_14 := n1_; have HL101_1 := n2_; have BK102 := n3_; have HB := n4_; clear n0_ n1_ n2_ n3_ n4_; replace HO_0 := A_ (Kd.V_drew HO_0.out); replace HO_14 := A_ (Kd.V_drew HO_14.out); replace HL101_1 := A_ (Kd.V_drew HL101_1.out); replace BK102 := A_ (blk_drew BK102.out); replace HB := A_ (below_drew1 HB.out); have q19 : ((ji9) : Int) ≤ ((l0.length : Int) : Int) := oD; obtain ⟨i019, hi019, _, hsz19, _⟩ := info_parts info67; have hroom19 : l0.length ≤ c0 := (Kd.V_reads' HO_0.out).2.1; have hC19 : Kd.F k67 _ _ (some ad101) l0.length l0 := (Kd.V_at (base := w.heap.size) HO_0.out).2.2; have q019 : (0 : Int) ≤ ((ji9) : Int) := oD; have hcut19 := cut_from (P := Tryd.prog) 64 67 .i64 Tryd.underlying64 hi019 2 hsz19 (some ad101) l0.length c0 (ji9) q019 q19
   have hr19 := Kd.F_cut (m := ((ji9) : Int).toNat) (c := c0) hC19 (by omega) hroom19
   obtain ⟨A19, hA19⟩ : ∃ A1, A1 = (if c0 = ((ji9) : Int).toNat then (some ad101) else ((some ad101) : Option Addr).map (·.add (((ji9) : Int).toNat * 2))) := ⟨_, rfl⟩
   obtain ⟨c19, hc19⟩ : ∃ c1, c1 = c0 - ((ji9) : Int).toNat := ⟨_, rfl⟩
   have hy19 : y103.length = l0.length - ((ji9) : Int).toNat := (by rw [Ny103.out, List.length_drop] <;> omega)
   rw [show (l0).drop ((ji9) : Int).toNat = y103 from Ny103.out.symm] at hr19
   replace hr19 : Kd.F k67 _ _ A19 y103.length y103 := (by rw [hA19]; exact hr19)
   rw [← hy19, ← hA19, ← hc19] at hcut19
   have HO107 := A_ (show Kd.V k67 67 _ w.heap.size _ (.slice A19 y103.length c19) y103 from Kd.V_mk (by rw [hy19, hc19]; exact Nat.sub_le_sub_right hroom19 _) hr19)
   have HC107 := A_ (show y103.length ≤ c19 from by rw [hy19, hc19]; exact Nat.sub_le_sub_right hroom19 _)
   clear hr19 hC19 hroom19 hi019 hsz19 hc19; have KY19 := A_ hy19; have KA19 := A_ hA19; clear hy19 hA19; replace q19 := eq_true q19
   refine start_ (n := 16) (S := fun w' => w'.cell? ⟨gb102, 0, none⟩ = some (.int .i64 ((rd_T67 l0 x16_1).f0)) ∧ w'.cell? ⟨gb102, 1, none⟩ = some (.slice A101_1 ((rd_T67 l0 x16_1).f1).length c101_1)) (ds := []) (mkB 16 0) (by kernel_rfl) rfl rfl ⟨(blk_cell BK102.out 0).trans rfl, (blk_cell BK102.out 1).trans rfl⟩ (fun hHeld => ?_); refine with_tabW feed_choose.tab7 feed_choose.bits7 (fun HT_ HW_ => ?_)
   generalize w17.drew = w18 at HO_0 HO_14 HL101_1 BK102 HB HO107 hHeld ⊢; refine pr_ 0 (some 27) (mkB 16 1) HT_ ?_; refine pr_ 1 (some 28) (mkB 16 3) HT_ ?_; refine pr_ 2 (some 29) (mkB 16 7) HT_ ?_; refine pr_ 3 (some 30) (mkB 16 15) HT_ ?_; refine pr_ 4 (some 31) (mkB 16 31) HT_ ?_; refine pr_ 5 (some 32) (mkB 16 63) HT_ ?_; refine pr_ 6 (some 33) (mkB 16 127) HT_ ?_; refine pr_ 7 (some 34) (mkB 16 255) HT_ ?_
   refine take_ (i := 8) (N := some 35) (v := ?_) (a' := ?_) (mkB 16 511) rfl rfl (take_ofW HT_.out HW_.out (by kernel_rfl)) (fun _ _ _ h => h) (Or.inl ⟨by rfl, ?_⟩) hHeld ?_ ?_
   rotate_left
   ·rintro w' ⟨s0, s1⟩
    go_simp
    with_reducible rfl
   rotate_left
   ·simp only [Act.put, List.setIfInBounds_toArray, List.set_cons_zero, List.set_cons_succ, i64_w, i32_w]
    rfl
   refine pr_ 9 (some 36) (mkB 16 1023) HT_ ?_
   refine one_ (i := 10) (N := some 37) (mkB 16 2047) rfl rfl (one_of HT_.out (by kernel_rfl)) (by decide) (fun K hK => ?_)
   refine goes_ Tryd.func23 (by kernel_rfl) rfl #[.slice A19 y103.length c19, .int .i64 (wrap64 (a1 - 1)), .int .i64 (Go.bits .or .i64 a2 ((rd_T67 l0 x16_1).f0))] (by rfl) rfl rfl (by (try simp only [List.map_toArray, List.map_cons, List.map_nil]); first | done | rfl | (simp only [List.length_drop, List.length_take]; rfl)) ?_
   with_reducible refine (ih k1 (by have := HK1.out; omega) (fun k_ => ((P0_ k_ ∨ w.heap.size ≤ k_) ∧ k_ ≠ gb102)) _ _ y103 (wrap64 (a1 - 1)) (Go.bits .or .i64 a2 ((rd_T67 l0 x16_1).f0)) t108 true _ ?side1 A12.out).mono ?_
   (case side1 => exact HO107.out)
   rintro e w20 ⟨v109, rfl, ho0, hb⟩
   refine ⟨_, rfl, ?_⟩
   have n0_ := A_ (Kd.V_elder' (vU HO_0.out) (Kd.N_base ho0) hb); have n1_ := A_ (Kd.V_elder' (vU HO_14.out) (Kd.N_base ho0) hb); have n2_ := A_ (Kd.V_elder' (vU HL101_1.out) (Kd.N_base ho0) hb); have n3_ := A_ (Kd.V_elder' (vU HO107.out) (Kd.N_base ho0) hb)
   have n4_ := A_ (Kd.N_lower (Kd.N_mono (ok' := fun k_ => (P0_ k_ ∨ w.heap.size ≤ k_) ∧ k_ ≠ gb102) ho0 (fun k_ hk_ => ⟨Or.elim hk_ (fun hs_ => hs_.1) (fun hn_ => (.inr (Nat.le_trans (below_size (bW1 HB.out GE102.out)) hn_))), Or.elim hk_ (fun hs_ => hs_.2) (fun hn_ => (Kd.freshB (g := gb102) (o := .cells #[.int .i64 ((rd_T67 l0 x16_1).f0), .slice A101_1 ((rd_T67 l0 x16_1).f1).length c101_1] 67 (0, 0)) (bkU BK102) k_ hn_))⟩)) (below_size (bW1 HB.out GE102.out)))
   have n5_ := A_ (bkB BK102 hb); have n6_ := A_ (below_step (bW1 HB.out GE102.out) hb); clear HO_0 HO_14 HL101_1 HO107 BK102 HB; have HO_0 := n0_; have HO_14 := n1_; have HL101_1 := n2_; have HO107 := n3_; have HO110 := n4_; have BK102 := n5_; have HB := n6_; clear n0_ n1_ n2_ n3_ n4_ n5_ n6_
   (try clear hb)
   (try clear hb2)
   (try clear hk)
   (try clear hi)
   (try clear ho0)
   refine hK.out _ _ ⟨(blk_cell BK102.out 0).trans rfl, (blk_cell BK102.out 1).trans rfl⟩ (fun hHeld => ?_)
   clear hK K
   refine norm_ (a' := ?_) ?_ ?_
   rotate_left
   ·show Act.put _ (some 37) _ = _
    simp only [Act.put, List.setIfInBounds_toArray, List.set_cons_zero, List.set_cons_succ, i64_w, i32_w]
    rfl
   refine pr_ 11 (some 26) (mkB 16 4095) HT_ ?_; refine pr_ 12 (some 38) (mkB 16 8191) HT_ ?_; refine pr_ 13 (some 39) (mkB 16 16383) HT_ ?_; refine pr_ 14 (some 10) (mkB 16 32767) HT_ ?_; refine pr_ 15 (some 11) (mkB 16 65535) HT_ ?_
   refine done_ (done_of HT_.out (by kernel_rfl)) ?_
   have hcz21_0 : w20.cell? ⟨gb102, 0, none⟩ = some (.int .i64 ((rd_T67 l0 x16_1).f0)) := (blk_cell BK102.out 0).trans rfl; have hcz21_1 : w20.cell? ⟨gb102, 1, none⟩ = some (.slice A101_1 ((rd_T67 l0 x16_1).f1).length c101_1) := (blk_cell BK102.out 1).trans rfl; have hfz21_0 := blk_frozen BK102.out 0; have hfz21_1 := blk_frozen BK102.out 1
   try go_wp2_with (first | ((with_reducible refine gate_dst (N := 43) rfl ?_); refine Kd.N_lit (Kd.slice 3 (Kd.int .i64)) _ 28 ?hg (N' := 43) ?hd (xs := ([(rd_T67 l0 x16_1).f1] : List (List Int))) (inner := [.slice A101_1 ((rd_T67 l0 x16_1).f1).length c101_1]) (ok := (fun k_ => (P0_ k_ ∨ w.heap.size ≤ k_) ∧ some k_ ≠ (v109 : Value).ownBlock ∧ k_ ≠ gb102)) (okp := (fun k_ => (P0_ k_ ∨ w.heap.size ≤ k_) ∧ some k_ ≠ (v109 : Value).ownBlock ∧ k_ ≠ gb102)) ?hr ?hp (fun _ hk => hk) ((show ∀ k_, w20.heap.size ≤ k_ → (fun k_ => (P0_ k_ ∨ w.heap.size ≤ k_) ∧ some k_ ≠ (v109 : Value).ownBlock ∧ k_ ≠ gb102) k_ from fun k_ hk => ⟨(.inr (Nat.le_trans (below_size (bW1 HB.out GE102.out)) hk)), Kd.fresh' (Kd.N_lt (nU HO110.out)) k_ hk, Kd.freshB (g := gb102) (o := .cells #[.int .i64 ((rd_T67 l0 x16_1).f0), .slice A101_1 ((rd_T67 l0 x16_1).f1).length c101_1] 67 (0, 0)) (bkU BK102) k_ hk⟩) _ (Nat.le_refl _)) (Below.refl _ _) (Nat.le_refl _) (by simp) ?_; (case hd => rfl); (case hg => rfl); (case hr => first | (go_simp; done) | (go_simp; rfl)); (case hp => exact (Reps.one (show Kd.FK (Kd.slice 3 (Kd.int .i64)) _ _ ((rd_T67 l0 x16_1).f1) [.slice A101_1 ((rd_T67 l0 x16_1).f1).length c101_1] from (Kd.FK_slice_mk (Kd.V_reads' HL101_1.out).2.1 (Kd.V_F (Kd.V_mono (ok' := (fun k_ => (P0_ k_ ∨ w.heap.size ≤ k_) ∧ some k_ ≠ (v109 : Value).ownBlock ∧ k_ ≠ gb102)) ((show Kd.V (Kd.int .i64) 3 _ _ (fun k_ => (((P0_ k_ ∨ w.heap.size ≤ k_) ∧ k_ ≠ gb102) ∧ some k_ ≠ (v109 : Value).ownBlock)) (.slice A101_1 ((rd_T67 l0 x16_1).f1).length c101_1) ((rd_T67 l0 x16_1).f1) from by (with_reducible repeat (first | apply Kd.V_alloc | apply Kd.V_drewN | apply Kd.V_drew)); exact HL101_1.out)) (fun k_ hk => ⟨hk.1.1, ⟨hk.2, hk.1.2⟩⟩))))) (Reps.none _ _))); intro v113 w22 ho23 hb hg_ hnew_; clear hg_ hnew_; (first | rw [← Ny112.out] at ho23 | (simp only [Int.reduceToNat] at ho23; rw [← Ny112.out] at ho23)); have HO114 := A_ (Kd.N_lower ho23 (below_size (bW1 HB.out GE102.out))); replace HO_0 := A_ (Kd.V_elder' (vU HO_0.out) (Kd.N_base ho23) hb); replace HO_14 := A_ (Kd.V_elder' (vU HO_14.out) (Kd.N_base ho23) hb); replace HL101_1 := A_ (Kd.V_elder' (vU HL101_1.out) (Kd.N_base ho23) hb); replace HO107 := A_ (Kd.V_elder' (vU HO107.out) (Kd.N_base ho23) hb); replace HO110 := A_ (Kd.N_elder' (nU HO110.out) (Kd.N_base ho23) hb); replace BK102 := A_ (bkB BK102 hb); replace HB := A_ (below_step (bW1 HB.out GE102.out) hb); clear hb ho23; obtain ⟨Ao25, co25, eo25⟩ := Kd.N_slice HO110.out; subst eo25) | ((with_reducible refine gate_builtin (b := .append) (xs := #[.tmp 43, .tmp 44]) rfl ?_); at_builtin; refine Kd.N_append_rows (Kd.slice 3 (Kd.int .i64)) (w0 := w) w.heap.size rfl (.tmp 43) (.tmp 44) 29 28 (.slice none 0 0) 24 rfl Tryd.underlying29 info28 rfl (by decide) (by omega) v113 y112 t108 _ _ _ (fun k_ => (P0_ k_ ∨ w.heap.size ≤ k_) ∧ k_ ≠ gb102) (fun k_ => ((fun k_ => (P0_ k_ ∨ w.heap.size ≤ k_) ∧ k_ ≠ gb102)) k_ ∧ some k_ ≠ (v113 : Value).ownBlock) rfl rfl ?aO ?aR (fun _ hk => hk) ?aF ?aB ?aS ?aL ?_; (case aR => exact (by skip; exact Kd.N_F (Kd.N_mono (ok' := (fun k_ => ((fun k_ => (P0_ k_ ∨ w.heap.size ≤ k_) ∧ k_ ≠ gb102)) k_ ∧ some k_ ≠ (v113 : Value).ownBlock)) (HO110.out) (fun k_ hk => ⟨⟨hk.1.1, hk.1.2⟩, hk.2⟩)))); (case aB => exact (bW1 HB.out GE102.out)); (case aF => exact (fun k_ hk => ⟨(.inr (Nat.le_trans (below_size (bW1 HB.out GE102.out)) hk)), Kd.freshB (g := gb102) (o := .cells #[.int .i64 ((rd_T67 l0 x16_1).f0), .slice A101_1 ((rd_T67 l0 x16_1).f1).length c101_1] 67 (0, 0)) (bkU BK102) k_ hk⟩)); (case aO => exact (by (with_reducible repeat (first | apply Kd.N_alloc | apply Kd.N_drewN | apply Kd.N_drew)); exact Kd.N_mono HO114.out (fun _ hk => ⟨hk.1, hk.2.2⟩))); (case aS => exact (below_size (bW1 HB.out GE102.out))); (case aL => have := LMc14.out; omega); intro v116 w24 ho hb hg hat; rw [← Ny115.out] at ho; have n0_ := A_ (Kd.V_afterv (ok := (fun k_ => (P0_ k_ ∨ w.heap.size ≤ k_) ∧ some k_ ≠ (.slice Ao25 t108.length co25 : Value).ownBlock ∧ k_ ≠ gb102)) (by (with_reducible repeat (first | apply Kd.V_alloc | apply Kd.V_drewN | apply Kd.V_drew)); exact Kd.V_mono HO_0.out (fun _ hk => ⟨⟨hk.1.1.1, ⟨hk.1.2, hk.1.1.2⟩⟩, hk.2⟩)) hg hat); have n1_ := A_ (Kd.V_afterv (ok := (fun k_ => (P0_ k_ ∨ w.heap.size ≤ k_) ∧ some k_ ≠ (.slice Ao25 t108.length co25 : Value).ownBlock ∧ k_ ≠ gb102)) (by (with_reducible repeat (first | apply Kd.V_alloc | apply Kd.V_drewN | apply Kd.V_drew)); exact Kd.V_mono HO_14.out (fun _ hk => ⟨⟨hk.1.1.1, ⟨hk.1.2, hk.1.1.2⟩⟩, hk.2⟩)) hg hat); have n2_ := A_ (Kd.V_afterv (ok := (fun k_ => (P0_ k_ ∨ w.heap.size ≤ k_) ∧ some k_ ≠ (.slice Ao25 t108.length co25 : Value).ownBlock ∧ k_ ≠ gb102)) (by (with_reducible repeat (first | apply Kd.V_alloc | apply Kd.V_drewN | apply Kd.V_drew)); exact Kd.V_mono HL101_1.out (fun _ hk => ⟨⟨hk.1.1.1, ⟨hk.1.2, hk.1.1.2⟩⟩, hk.2⟩)) hg hat); have n3_ := A_ (blk_grown (g := gb102) (o := .cells #[.int .i64 ((rd_T67 l0 x16_1).f0), .slice A101_1 ((rd_T67 l0 x16_1).f1).length c101_1] 67 (0, 0)) (bkU BK102) hg (Kd.N_ne HO114.out BK102.out (by decide))); have n4_ := A_ (Kd.V_afterv (ok := (fun k_ => (P0_ k_ ∨ w.heap.size ≤ k_) ∧ some k_ ≠ (.slice Ao25 t108.length co25 : Value).ownBlock ∧ k_ ≠ gb102)) (by (with_reducible repeat (first | apply Kd.V_alloc | apply Kd.V_drewN | apply Kd.V_drew)); exact Kd.V_mono HO107.out (fun _ hk => ⟨⟨hk.1.1.1, ⟨hk.1.2, hk.1.1.2⟩⟩, hk.2⟩)) hg hat); have n5_ := A_ (Kd.N_afterv (ok := (fun k_ => (P0_ k_ ∨ w.heap.size ≤ k_) ∧ k_ ≠ gb102)) (nU HO110.out) hg hat); have n6_ := A_ (hb); have n7_ := A_ (ho); clear HO_0; clear HO_14; clear HL101_1; clear BK102; clear HO107; clear HO110; clear HB; clear HO114; have HO_0 := n0_; have HO_14 := n1_; have HL101_1 := n2_; have BK102 := n3_; have HO107 := n4_; have HO110 := n5_; have HB := n6_; have HO117 := n7_; clear n0_ n1_ n2_ n3_ n4_ n5_ n6_ n7_; clear ho hb hg hat))
   go_ret2
   exact ⟨_, by first | rfl | (simp [errW_none, errW_some] <;> rfl) | (simp only [← hji9]; first | rfl | (simp [errW_none, errW_some] <;> rfl)) | (simp [*, errW_none, errW_some] <;> rfl), by (with_reducible repeat (first | apply Kd.N_alloc | apply Kd.N_drewN | apply Kd.N_drew)); exact Kd.N_mono HO117.out (fun _ hk => hk.1), (bW1 HB.out GE102.out)⟩
end Go.Proofs.YtbbjonbnmoomlaaDoor.G
end
