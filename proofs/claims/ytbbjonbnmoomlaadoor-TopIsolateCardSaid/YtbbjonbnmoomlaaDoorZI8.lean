/- Functions of the seat and plain laws about them: GF24. -/
import Derived.Test.YtbbjonbnmoomlaaDoorGBase
import Derived.Test.YtbbjonbnmoomlaaDoorZI3
section
namespace Go.Proofs.YtbbjonbnmoomlaaDoor.G
open Go.RowKit Go.Proofs.YtbbjonbnmoomlaaDoorW.PrintWords Go.Proofs.YtbbjonbnmoomlaaDoorW.PrintLast Go.Proofs.YtbbjonbnmoomlaaDoorW.PrintMore
attribute [local go_sem] max2_int min2_int max_two min_two max_three min_three max_four min_four
set_option linter.unusedVariables false
set_option linter.unusedSimpArgs false
mutual
def feed_grid_paths.j0 : Nat → Int → Int → Int → List (S67) → Int → List (S47) → List (S49) → Int → List Int → Option ((List (S67)))
 | 0, _, _, _, _, _, _, _, _, _ => none
 | k + 1, x1, x2, x3, x11, x102000, x102001, x102002, x103000, x103001 => feed_grid_paths.l0 k x1 x2 x3 x11 x102001 (x102001.length : Int) 0 x102000 x102001 x102002 x103000 x103001
def feed_grid_paths.l0 : Nat → Int → Int → Int → List (S67) → List (S47) → Int → Int → Int → List (S47) → List (S49) → Int → List Int → Option ((List (S67)))
 | 0, _, _, _, _, _, _, _, _, _, _, _, _ => none
 | k + 1, x1, x2, x3, x11, x25, x26, x27, x102000, x102001, x102002, x103000, x103001 => if x27 < x26 then (if 0 ≤ x27 then (if x27 < (x25.length : Int) then (if (Go.bits .and .i64 (shr .i64 x1 x27) 1) = 0 then (feed_grid_paths.j2 k x1 x2 x3 x11 x27 x25 x26 x27 true x102000 x102001 x102002 x103000 x103001 ((rd_T47 x25 x27).f0) ((rd_T47 x25 x27).f1)) else (if ((rd_T47 x25 x27).f0) = x2 then (feed_grid_paths.j2 k x1 x2 x3 x11 x27 x25 x26 x27 false x102000 x102001 x102002 x103000 x103001 ((rd_T47 x25 x27).f0) ((rd_T47 x25 x27).f1)) else (feed_grid_paths.j2 k x1 x2 x3 x11 x27 x25 x26 x27 (((rd_T47 x25 x27).f1) != x2) x102000 x102001 x102002 x103000 x103001 ((rd_T47 x25 x27).f0) ((rd_T47 x25 x27).f1)))) else (none)) else (none)) else (some x11)
def feed_grid_paths.j2 : Nat → Int → Int → Int → List (S67) → Int → List (S47) → Int → Int → Bool → Int → List (S47) → List (S49) → Int → List Int → Int → Int → Option ((List (S67)))
 | 0, _, _, _, _, _, _, _, _, _, _, _, _, _, _, _, _ => none
 | k + 1, x1, x2, x3, x11, x12, x25, x26, x27, x48, x102000, x102001, x102002, x103000, x103001, x109000, x109001 => if x48 = true then (feed_grid_paths.l0 k x1 x2 x3 x11 x25 x26 (wrap64 (x27 + 1)) x102000 x102001 x102002 x103000 x103001) else (if 0 ≤ (wrap64 ((wrap64 (x109000 + x109001)) - x2)) then (if (Go.bits .and .u64 (shr .u64 x3 (wrap64 ((wrap64 (x109000 + x109001)) - x2))) 1) = 0 then (if 0 ≤ x12 then ((some (([x12] : List Int) : List Int)).bind fun y109 => (if y109.length + x103001.length < 17592186044416 then ((feed_grid_paths.f k x102000 x102001 x102002 x1 (wrap64 ((wrap64 (x109000 + x109001)) - x2)) (Go.bits .or .u64 x3 (shl .u64 1 (wrap64 ((wrap64 (x109000 + x109001)) - x2)))) (Go.bits .or .i64 x103000 (shl .i64 1 x12)) (y109 ++ x103001)).bind fun t116 => (if x11.length + t116.length < 4398046511104 then (feed_grid_paths.l0 k x1 x2 x3 (x11 ++ t116) x25 x26 (wrap64 (x27 + 1)) x102000 x102001 x102002 x103000 x103001) else (none))) else (none))) else (none)) else (feed_grid_paths.l0 k x1 x2 x3 x11 x25 x26 (wrap64 (x27 + 1)) x102000 x102001 x102002 x103000 x103001)) else (none))
def feed_grid_paths.f : Nat → Int → List (S47) → List (S49) → Int → Int → Int → Int → List Int → Option ((List (S67)))
 | 0, _, _, _, _, _, _, _, _ => none
 | k + 1, a0_0, l0_1, l0_2, a1, a2, a3, a4_0, l4_1 => (feed_grid_atHome.f k a0_0 l0_1 l0_2 a2).bind fun t103 => (if t103 = true then (if ([] : List (S67)).length < 4398046511104 then (feed_grid_paths.j0 k a1 a2 a3 (([] : List (S67)) ++ [(⟨a4_0, l4_1⟩ : S67)]) a0_0 l0_1 l0_2 a4_0 l4_1) else (none)) else (feed_grid_paths.j0 k a1 a2 a3 ([] : List (S67)) a0_0 l0_1 l0_2 a4_0 l4_1))
end
def feed_grid_paths.T10 : Bool × List (List Nat × List Nat) := (true, [([], []), ([0], [0]), ([], []), ([2], [2]), ([1, 3], [1, 3]), ([], []), ([5], [5]), ([], []), ([7], [7]), ([6, 8], [6, 8]), ([4, 9], [4, 9]), ([], []), ([11, 10, 9, 0, 1, 2, 3, 4, 5, 6, 7, 8, 9, 10, 11], [10, 11])])
def feed_grid_paths.B10 : List Nat := [0, 1, 0, 4, 15, 0, 32, 0, 128, 480, 1023, 0, 4095]
theorem feed_grid_paths.tab10 : rtab .any (opsOf Tryd.f24 10) = feed_grid_paths.T10 := by kernel_rfl
theorem feed_grid_paths.bits10 : waitsOk feed_grid_paths.T10.2 feed_grid_paths.B10 = true := by kernel_rfl
def feed_grid_paths.T11 : Bool × List (List Nat × List Nat) := (true, [([], []), ([], []), ([], []), ([], []), ([], []), ([], []), ([5], [5]), ([4, 6], [4, 6]), ([], []), ([1, 2, 3, 7, 8], [1, 2, 3, 7, 8]), ([0, 9, 9], [0, 9]), ([10, 10, 0, 1, 2, 3, 4, 5, 6, 7, 8, 9, 10], [0, 10])])
def feed_grid_paths.B11 : List Nat := [0, 0, 0, 0, 0, 0, 32, 112, 0, 510, 1023, 2047]
theorem feed_grid_paths.tab11 : rtab .any (opsOf Tryd.f24 11) = feed_grid_paths.T11 := by kernel_rfl
theorem feed_grid_paths.bits11 : waitsOk feed_grid_paths.T11.2 feed_grid_paths.B11 = true := by kernel_rfl
set_option maxHeartbeats 8000000 in
set_option maxRecDepth 100000 in
theorem feed_grid_paths.calls (k : Nat) : ∀ (a0_0 : Int) (A0_1 : Option Addr) (c0_1 : Nat) (l0_1 : List (S47)) (A0_2 : Option Addr) (c0_2 : Nat) (l0_2 : List (S49)) (a1 : Int) (a2 : Int) (a3 : Int) (a4_0 : Int) (P4_1_ : Nat → Prop) (A4_1 : Option Addr) (c4_1 : Nat) (l4_1 : List Int) (r : List (S67)) (w : World) (hr0_1 : Kd.C k47 w A0_1 l0_1.length l0_1) (hc0_1 : l0_1.length ≤ c0_1) (hr0_2 : Kd.C k49 w A0_2 l0_2.length l0_2) (hc0_2 : l0_2.length ≤ c0_2) (hs4_1 : Kd.V (Kd.int .i64) 3 w w.heap.size (fun k_ => P4_1_ k_) (.slice A4_1 l4_1.length c4_1) l4_1) (h : feed_grid_paths.f k a0_0 l0_1 l0_2 a1 a2 a3 a4_0 l4_1 = some r),
  Calls Tryd.prog 24 #[.agg #[.int .i64 a0_0, .slice A0_1 l0_1.length c0_1, .slice A0_2 l0_2.length c0_2], .int .i64 a1, .int .i64 a2, .int .u64 a3, .agg #[.int .i64 a4_0, .slice A4_1 l4_1.length c4_1]] w fun e w' => ∃ v0_ : Value, e = .returned (v0_) ∧ Kd.N k67 67 w' w.heap.size (fun k_ => (P4_1_ k_ ∨ w.heap.size ≤ k_)) v0_ r ∧ Below w.heap.size w w' := by
 induction k using Nat.strongRecOn with
 | _ k ih =>
 intro a0_0 A0_1 c0_1 l0_1 A0_2 c0_2 l0_2 a1 a2 a3 a4_0 P4_1_ A4_1 c4_1 l4_1 r w hr0_1 hc0_1 hr0_2 hc0_2 hs4_1 h
 cases k with
 | zero => exact absurd h (by simp [feed_grid_paths.f])
 | succ k =>
 simp only [feed_grid_paths.f] at h; have hu54 := Tryd.underlying54; have hu67 := Tryd.underlying67; have hu47 := Tryd.underlying47; have HR0_1 := A_ hr0_1; have HC0_1 := A_ hc0_1; clear hr0_1 hc0_1; have HR0_2 := A_ hr0_2; have HC0_2 := A_ hc0_2; clear hr0_2 hc0_2
 have HO4_1 := A_ (show Kd.V (Kd.int .i64) 3 w w.heap.size (fun k_ => (P4_1_ k_ ∨ w.heap.size ≤ k_)) (.slice A4_1 l4_1.length c4_1) l4_1 from Kd.V_mono hs4_1 (fun k_ hk => .inl hk))
 have HB := A_ (Below.refl w.heap.size w)
 have H : ((feed_grid_atHome.f k a0_0 l0_1 l0_2 a2).bind fun t103 => (if t103 = true then (if ([] : List (S67)).length < 4398046511104 then (feed_grid_paths.j0 k a1 a2 a3 (([] : List (S67)) ++ [(⟨a4_0, l4_1⟩ : S67)]) a0_0 l0_1 l0_2 a4_0 l4_1) else (none)) else (feed_grid_paths.j0 k a1 a2 a3 ([] : List (S67)) a0_0 l0_1 l0_2 a4_0 l4_1))) = some r := h
 clear h; replace H := Option.bind_eq_some_iff.mp H; obtain ⟨t103, A60, H⟩ := H; (try dsimp only at H); have A6 := A_ A60; clear A60; have HC7 := A_ H; clear H
 go_enter Tryd.func24, Tryd.ntmps24
 go_upto_if 18 with (first | ((with_reducible refine gate_dst (N := 5) rfl ?_); refine bxW 5 (cs := #[.int .i64 a0_0, .slice A0_1 l0_1.length c0_1, .slice A0_2 l0_2.length c0_2]) (t := 54) ?_; intro gb101 hg w8 hbox hb; have BK101 := A_ (hbox); have GW101 := A_ ((szG hg (bW0 HB.out))); have GE101 := A_ ((szG hg (bW0 HB.out))); replace HO4_1 := A_ (Kd.V_below (Kd.V_elderB (vU HO4_1.out) gb101 (Nat.le_of_eq hg.symm)) hb); replace HB := A_ (below_step (bW0 HB.out) hb); clear hb hbox hg) | ((with_reducible refine gate_dst (N := 9) rfl ?_); refine bxW 9 (cs := #[.int .i64 a4_0, .slice A4_1 l4_1.length c4_1]) (t := 67) ?_; intro gb102 hg w9 hbox hb; have BK102 := A_ (hbox); have GW102 := A_ ((szG hg (bW1 HB.out GE101.out))); have GE102 := A_ ((szG hg (bW1 HB.out GE101.out))); have NB101_102 := A_ ((bkL BK101 hg : gb101 ≠ gb102)); have NB102_101 := A_ ((bkG BK101 hg : gb102 ≠ gb101)); replace HO4_1 := A_ (Kd.V_below (Kd.V_elderB (vU HO4_1.out) gb102 (Nat.le_of_eq hg.symm)) hb); replace BK101 := A_ (bkB BK101 hb); replace HB := A_ (below_step (bW1 HB.out GE101.out) hb); clear hb hbox hg; have hnb10 := NB101_102.out; have hnc10 := NB102_101.out; have hcz11_0 : w9.cell? ⟨gb101, 0, none⟩ = some (.int .i64 a0_0) := (blk_cell BK101.out 0).trans rfl; have hcz11_1 : w9.cell? ⟨gb101, 1, none⟩ = some (.slice A0_1 l0_1.length c0_1) := (blk_cell BK101.out 1).trans rfl; have hcz11_2 : w9.cell? ⟨gb101, 2, none⟩ = some (.slice A0_2 l0_2.length c0_2) := (blk_cell BK101.out 2).trans rfl; have hfz11_0 := blk_frozen BK101.out 0; have hfz11_1 := blk_frozen BK101.out 1; have hfz11_2 := blk_frozen BK101.out 2) | ((with_reducible refine gate_callee (f := 19) rfl ?_); refine goesL_ (some 18) rfl rfl Tryd.func19 (by kernel_rfl) rfl #[.agg #[.int .i64 a0_0, .slice A0_1 l0_1.length c0_1, .slice A0_2 l0_2.length c0_2], .int .i64 a2] rfl (by (try simp only [List.map_toArray, List.map_cons, List.map_nil]); first | done | rfl | (simp only [List.length_drop, List.length_take]; rfl)) ?_; (with_reducible refine (feed_grid_atHome.calls k a0_0 _ _ l0_1 _ _ l0_2 a2 t103 _ ?side1 ?side2 ?side3 ?side4 A6.out).mono ?_); (case side1 => exact cU (Kd.C_below HR0_1.out HB.out)); (case side2 => exact HC0_1.out); (case side3 => exact cU (Kd.C_below HR0_2.out HB.out)); (case side4 => exact HC0_2.out); rintro e w12 ⟨rfl, hb⟩; refine ⟨_, rfl, ?_⟩; replace HO4_1 := A_ (Kd.V_below (vU HO4_1.out) hb); replace BK101 := A_ (bkB BK101 hb); replace BK102 := A_ (bkB BK102 hb); replace HB := A_ (below_step (bW2 HB.out GE101.out GE102.out) hb); (try clear hb)))
 (try simp only [Act.put, List.setIfInBounds_toArray, List.set_cons_zero, List.set_cons_succ])
 go_cut [11] (fun v11 wc => ∃ (kq : Nat) (x11_6 : List (S67)), Aside0 (feed_grid_paths.j0 kq a1 a2 a3 x11_6 a0_0 l0_1 l0_2 a4_0 l4_1 = some r) ∧ Aside0 (kq ≤ k) ∧ Aside0 (Kd.N k67 67 wc w.heap.size (fun k_ => (P4_1_ k_ ∨ w.heap.size ≤ k_) ∧ k_ ≠ gb101 ∧ k_ ≠ gb102) v11 x11_6) ∧ Aside0 (Kd.V (Kd.int .i64) 3 wc w.heap.size (fun k_ => (P4_1_ k_ ∨ w.heap.size ≤ k_) ∧ some k_ ≠ (v11 : Value).ownBlock ∧ k_ ≠ gb101 ∧ k_ ≠ gb102) (.slice A4_1 l4_1.length c4_1) l4_1) ∧ Aside0 (wc.heap[gb101]? = some (.cells #[.int .i64 a0_0, (.slice A0_1 l0_1.length c0_1), (.slice A0_2 l0_2.length c0_2)] 54 (0, 0))) ∧ Aside0 (wc.heap[gb102]? = some (.cells #[.int .i64 a4_0, (.slice A4_1 l4_1.length c4_1)] 67 (0, 0))) ∧ Aside0 (Below w.heap.size w wc))
 case first =>
  have H := HC7.out; clear HC7; by_cases c13 : t103 = true; rotate_left
  ·replace c13 := Bool.eq_false_iff.mpr c13
   subst c13; rw [if_neg (show ¬ (false = true) by decide)] at H; have H' := A_ H; clear H
   go_wp2
   go_meet
   case rel => exact ⟨_, (([] : List (S67))), H', ⟨by first | omega | exact Nat.le_refl _⟩, ⟨by first | exact Kd.S_nil _ _ _ _ _ | exact Kd.N_nil _ _ _ _ _ | exact Kd.V_nil _ _ _ _ _ | exact Kd.Q_nil _ _ _ _ _ | exact Kd.R_nil _ _ _ _ _⟩, ⟨by (with_reducible repeat (first | apply Kd.V_alloc | apply Kd.V_drewN | apply Kd.V_drew)); exact Kd.V_mono HO4_1.out (fun _ hk => ⟨hk.1.1, ⟨(by simp [Value.ownBlock]), ⟨hk.1.2, hk.2⟩⟩⟩)⟩, ⟨bkU BK101⟩, ⟨bkU BK102⟩, ⟨(bW2 HB.out GE101.out GE102.out)⟩⟩
  subst c13; rw [if_pos rfl] at H; by_cases c14 : ([] : List (S67)).length < 4398046511104; rotate_left
  ·rw [if_neg c14] at H
   exact absurd H (by simp)
  rw [if_pos c14] at H; have LMc14 := A_ c14; clear c14; obtain ⟨y104, hy104⟩ : ∃ y_ : List (S67), y_ = (([] : List (S67)) ++ [(⟨a4_0, l4_1⟩ : S67)]) := ⟨_, rfl⟩
  replace H : (feed_grid_paths.j0 k a1 a2 a3 y104 a0_0 l0_1 l0_2 a4_0 l4_1) = some r := by first | (rw [hy104]; with_reducible exact H) | (have H2_ := (Option.bind_some _ _).symm.trans H; rw [hy104]; with_reducible exact H2_) | (have H2_ := (Option.bind_some _ _).symm.trans H; with_reducible exact H2_) | with_reducible exact H | (rw [hy104]; exact H) | exact H
  have Ny104 := A_ hy104; clear hy104; have H' := A_ H; clear H; have hnb15 := NB102_101.out; have hnc15 := NB101_102.out; have hcz16_0 : w12.cell? ⟨gb102, 0, none⟩ = some (.int .i64 a4_0) := (blk_cell BK102.out 0).trans rfl; have hcz16_1 : w12.cell? ⟨gb102, 1, none⟩ = some (.slice A4_1 l4_1.length c4_1) := (blk_cell BK102.out 1).trans rfl; have hfz16_0 := blk_frozen BK102.out 0; have hfz16_1 := blk_frozen BK102.out 1
  go_wp2_with (first | ((with_reducible refine gate_builtin (b := .append) (xs := #[.tmp 19, .tmp 21]) rfl ?_); at_builtin; refine Kd.N_append k67 (w0 := w) w.heap.size rfl (.tmp 19) (.tmp 21) 64 67 (.agg #[(.int .i64 0), (.slice none 0 0)]) 32 rfl Tryd.underlying64 info67 rfl (by decide) (by omega) (.slice none 0 0) ([] : List (S67)) (⟨a4_0, l4_1⟩ : S67) [.int .i64 a4_0, .slice A4_1 l4_1.length c4_1] (fun k_ => (P4_1_ k_ ∨ w.heap.size ≤ k_) ∧ k_ ≠ gb101 ∧ k_ ≠ gb102) (fun k_ => ((fun k_ => (P4_1_ k_ ∨ w.heap.size ≤ k_) ∧ k_ ≠ gb101 ∧ k_ ≠ gb102)) k_ ∧ some k_ ≠ (.slice none 0 0 : Value).ownBlock) rfl rfl ?aP (fun _ hk => hk) ?aF ?aO ?aB ?aS ?aL ?_; (case aP => exact (k67_mkF _ _ (⟨a4_0, l4_1⟩ : S67) (Kd.V_reads' HO4_1.out).2.1 (Kd.V_F (Kd.V_mono (ok' := (fun k_ => ((fun k_ => (P4_1_ k_ ∨ w.heap.size ≤ k_) ∧ k_ ≠ gb101 ∧ k_ ≠ gb102)) k_ ∧ some k_ ≠ (.slice none 0 0 : Value).ownBlock)) ((show Kd.V (Kd.int .i64) 3 _ _ (fun k_ => (((P4_1_ k_ ∨ w.heap.size ≤ k_) ∧ k_ ≠ gb101) ∧ k_ ≠ gb102)) (.slice A4_1 l4_1.length c4_1) l4_1 from by (with_reducible repeat (first | apply Kd.V_alloc | apply Kd.V_drewN | apply Kd.V_drew)); exact HO4_1.out)) (fun k_ hk => ⟨⟨hk.1.1, ⟨hk.1.2, hk.2⟩⟩, (by simp [Value.ownBlock])⟩))))); (case aB => exact (bW2 HB.out GE101.out GE102.out)); (case aF => exact (fun k_ hk => ⟨(.inr (Nat.le_trans (below_size (bW2 HB.out GE101.out GE102.out)) hk)), Kd.freshB (g := gb101) (o := .cells #[.int .i64 a0_0, .slice A0_1 l0_1.length c0_1, .slice A0_2 l0_2.length c0_2] 54 (0, 0)) (bkU BK101) k_ hk, Kd.freshB (g := gb102) (o := .cells #[.int .i64 a4_0, .slice A4_1 l4_1.length c4_1] 67 (0, 0)) (bkU BK102) k_ hk⟩)); (case aO => exact ((Kd.N_nil _ _ _ _ (fun k_ => (P4_1_ k_ ∨ w.heap.size ≤ k_) ∧ k_ ≠ gb101 ∧ k_ ≠ gb102)))); (case aS => exact (below_size (bW2 HB.out GE101.out GE102.out))); (case aL => have := LMc14.out; omega); intro v105 w17 ho hb hg hat; rw [← Ny104.out] at ho; have HO106 := A_ (ho); replace HO4_1 := A_ (Kd.V_afterv (Kd.V_apart_nil (vU HO4_1.out)) hg hat); replace BK101 := A_ (blk_grown (g := gb101) (o := .cells #[.int .i64 a0_0, .slice A0_1 l0_1.length c0_1, .slice A0_2 l0_2.length c0_2] 54 (0, 0)) (bkU BK101) hg (by simp [Value.ownBlock])); replace BK102 := A_ (blk_grown (g := gb102) (o := .cells #[.int .i64 a4_0, .slice A4_1 l4_1.length c4_1] 67 (0, 0)) (bkU BK102) hg (by simp [Value.ownBlock])); replace HB := A_ (hb); clear ho hb hg hat))
  go_meet
  case rel => exact ⟨_, (y104), H', ⟨by first | omega | exact Nat.le_refl _⟩, ⟨nU HO106.out⟩, ⟨by (with_reducible repeat (first | apply Kd.V_alloc | apply Kd.V_drewN | apply Kd.V_drew)); exact Kd.V_mono HO4_1.out (fun _ hk => ⟨hk.1.1.1, ⟨hk.2, ⟨hk.1.1.2, hk.1.2⟩⟩⟩)⟩, ⟨bkU BK101⟩, ⟨bkU BK102⟩, ⟨(bW2 HB.out GE101.out GE102.out)⟩⟩
 case rest =>
  clear HC7
  try clear c1; try clear c2; try clear p2; try clear c4; try clear c10; try clear c13; try clear c14; try clear c15; try clear hcz11_0; try clear hcz11_1; try clear hcz11_2; try clear hcz16_0; try clear hcz16_1; try clear hfz11_0; try clear hfz11_1; try clear hfz11_2; try clear hfz16_0; try clear hfz16_1
  obtain ⟨kq, x11_6, HA, HJ6, HO_11, HO_103001, BK101, BK102, HB⟩ := hcut
  cases kq with
  | zero => exact absurd HA.out (by simp [feed_grid_paths.j0])
  | succ kj6 =>
   have H := HA.out; clear HA; simp only [feed_grid_paths.j0] at H; have H' := A_ H; clear H; have hnb18 := NB101_102.out; have hnc18 := NB102_101.out; have hcz19_0 : wc.cell? ⟨gb101, 0, none⟩ = some (.int .i64 a0_0) := (blk_cell BK101.out 0).trans rfl; have hcz19_1 : wc.cell? ⟨gb101, 1, none⟩ = some (.slice A0_1 l0_1.length c0_1) := (blk_cell BK101.out 1).trans rfl; have hcz19_2 : wc.cell? ⟨gb101, 2, none⟩ = some (.slice A0_2 l0_2.length c0_2) := (blk_cell BK101.out 2).trans rfl; have hfz19_0 := blk_frozen BK101.out 0; have hfz19_1 := blk_frozen BK101.out 1; have hfz19_2 := blk_frozen BK101.out 2
   go_wp2
   go_loopg [11, 27] kj6 (fun kq v11 v27 w' => ∃ (x11_2 : List (S67)) (x27_2 : Int), v27 = .int .i64 x27_2 ∧ Aside0 (feed_grid_paths.l0 kq a1 a2 a3 x11_2 l0_1 (l0_1.length : Int) x27_2 a0_0 l0_1 l0_2 a4_0 l4_1 = some r) ∧ Aside0 (kq ≤ kj6) ∧ Aside0 (Kd.N k67 67 w' w.heap.size (fun k_ => (P4_1_ k_ ∨ w.heap.size ≤ k_) ∧ k_ ≠ gb101 ∧ k_ ≠ gb102) v11 x11_2) ∧ Aside0 (Kd.V (Kd.int .i64) 3 w' w.heap.size (fun k_ => (P4_1_ k_ ∨ w.heap.size ≤ k_) ∧ some k_ ≠ (v11 : Value).ownBlock ∧ k_ ≠ gb101 ∧ k_ ≠ gb102) (.slice A4_1 l4_1.length c4_1) l4_1) ∧ Aside0 (w'.heap[gb101]? = some (.cells #[.int .i64 a0_0, (.slice A0_1 l0_1.length c0_1), (.slice A0_2 l0_2.length c0_2)] 54 (0, 0))) ∧ Aside0 (w'.heap[gb102]? = some (.cells #[.int .i64 a4_0, (.slice A4_1 l4_1.length c4_1)] 67 (0, 0))) ∧ Aside0 (Below w.heap.size w w'))
   case atStart => exact ⟨(x11_6), (0), eS, H', ⟨Nat.le_refl _⟩, ⟨nU HO_11.out⟩, ⟨vU HO_103001.out⟩, ⟨bkU BK101⟩, ⟨bkU BK102⟩, ⟨(bW2 HB.out GE101.out GE102.out)⟩⟩
   case round =>
    clear H'
    try clear c1; try clear c2; try clear p2; try clear c4; try clear c10; try clear c13; try clear c14; try clear c15; try clear c18; try clear c19; try clear hcz11_0; try clear hcz11_1; try clear hcz11_2; try clear hcz16_0; try clear hcz16_1; try clear hcz19_0; try clear hcz19_1; try clear hcz19_2; try clear hfz11_0; try clear hfz11_1; try clear hfz11_2; try clear hfz16_0; try clear hfz16_1; try clear hfz19_0; try clear hfz19_1; try clear hfz19_2; try clear p2
    obtain ⟨x11_2, x27_2, rfl, HA, HK2, HO_11, HO_103001, BK101, BK102, HB⟩ := hrel
    cases gk with
    | zero => exact absurd HA.out (by simp [feed_grid_paths.l0])
    | succ k2 =>
     have H := HA.out; clear HA; simp only [feed_grid_paths.l0] at H; by_cases c20 : x27_2 < (l0_1.length : Int); rotate_left
     ·rw [if_neg c20] at H
      have c20b0 : decide (x27_2 < (l0_1.length : Int)) = false := decide_eq_false c20; clear c20; obtain rfl := Option.some.inj H
      go_wp2
      go_ret
      exact ⟨_, by first | rfl | (simp [errW_none, errW_some] <;> rfl) | (simp [*, errW_none, errW_some] <;> rfl), by (with_reducible repeat (first | apply Kd.N_alloc | apply Kd.N_drewN | apply Kd.N_drew)); exact Kd.N_mono HO_11.out (fun _ hk => hk.1), (bW2 HB.out GE101.out GE102.out)⟩
     rw [if_pos c20] at H; have c20b0 : decide (x27_2 < (l0_1.length : Int)) = true := decide_eq_true c20; clear c20; by_cases c21 : 0 ≤ x27_2; rotate_left
     ·rw [if_neg c21] at H
      exact absurd H (by simp)
     rw [if_pos c21] at H; have c21b0 : decide (0 ≤ x27_2) = true := decide_eq_true c21; clear c21; by_cases c22 : x27_2 < (l0_1.length : Int); rotate_left
     ·rw [if_neg c22] at H
      exact absurd H (by simp)
     rw [if_pos c22] at H; have c22b0 : decide (x27_2 < (l0_1.length : Int)) = true := decide_eq_true c22; clear c22; have HC23 := A_ H; clear H; have p107 : 0 ≤ (x27_2 : Int) := oD; have q107 : x27_2 < (l0_1.length : Int) := oD; obtain ⟨ad107, e107, hx107_0, hx107_1⟩ := at_T47 HR0_1.out x27_2 p107 q107
     cases e107
     replace hx107_0 := (HB.out.cell (World.block_lt_of_cell? w _ hx107_0)).trans hx107_0; replace hx107_1 := (HB.out.cell (World.block_lt_of_cell? w _ hx107_1)).trans hx107_1; replace p107 := eq_true p107; replace q107 := eq_true q107
     go_upto_region 7 with (first | ((with_reducible refine gate_dst (N := 13) rfl ?_); refine bxW 13 (cs := #[.int .i64 0, .int .i64 0]) (t := 47) ?_; intro gb108 hg w24 hbox hb; have BK108 := A_ (hbox); have GW108 := A_ ((szG hg (bW2 HB.out GE101.out GE102.out))); have GE108 := A_ ((szG hg (bW2 HB.out GE101.out GE102.out))); have NB101_108 := A_ ((bkL BK101 hg : gb101 ≠ gb108)); have NB108_101 := A_ ((bkG BK101 hg : gb108 ≠ gb101)); have NB102_108 := A_ ((bkL BK102 hg : gb102 ≠ gb108)); have NB108_102 := A_ ((bkG BK102 hg : gb108 ≠ gb102)); replace HO_11 := A_ (Kd.N_below (Kd.N_elderB (nU HO_11.out) gb108 (Nat.le_of_eq hg.symm)) hb); replace HO_103001 := A_ (Kd.V_below (Kd.V_elderB (vU HO_103001.out) gb108 (Nat.le_of_eq hg.symm)) hb); replace BK101 := A_ (bkB BK101 hb); replace BK102 := A_ (bkB BK102 hb); replace HB := A_ (below_step (bW2 HB.out GE101.out GE102.out) hb); clear hb hbox hg; have hnb25 := NB108_101.out; have hnc25 := NB101_108.out; have hnb26 := NB108_102.out; have hnc26 := NB102_108.out; have hcz27_0 : w24.cell? ⟨gb108, 0, none⟩ = some (.int .i64 0) := (blk_cell BK108.out 0).trans rfl; have hcz27_1 : w24.cell? ⟨gb108, 1, none⟩ = some (.int .i64 0) := (blk_cell BK108.out 1).trans rfl; have hfz27_0 := blk_frozen BK108.out 0; have hfz27_1 := blk_frozen BK108.out 1))
     (try simp only [Act.put, List.setIfInBounds_toArray, List.set_cons_zero, List.set_cons_succ])
     go_cut [48] (fun v48 wc => ∃ (kq : Nat) (x48_22 : Bool), v48 = .bool x48_22 ∧ Aside0 (feed_grid_paths.j2 kq a1 a2 a3 x11_2 x27_2 l0_1 (l0_1.length : Int) x27_2 x48_22 a0_0 l0_1 l0_2 a4_0 l4_1 ((rd_T47 l0_1 x27_2).f0) ((rd_T47 l0_1 x27_2).f1) = some r) ∧ Aside0 (kq ≤ k2) ∧ Aside0 (Kd.N k67 67 wc w.heap.size (fun k_ => (P4_1_ k_ ∨ w.heap.size ≤ k_) ∧ k_ ≠ gb101 ∧ k_ ≠ gb102 ∧ k_ ≠ gb108) u11 x11_2) ∧ Aside0 (Kd.V (Kd.int .i64) 3 wc w.heap.size (fun k_ => (P4_1_ k_ ∨ w.heap.size ≤ k_) ∧ some k_ ≠ (u11 : Value).ownBlock ∧ k_ ≠ gb101 ∧ k_ ≠ gb102 ∧ k_ ≠ gb108) (.slice A4_1 l4_1.length c4_1) l4_1) ∧ Aside0 (wc.heap[gb101]? = some (.cells #[.int .i64 a0_0, (.slice (some ad107) l0_1.length c0_1), (.slice A0_2 l0_2.length c0_2)] 54 (0, 0))) ∧ Aside0 (wc.heap[gb102]? = some (.cells #[.int .i64 a4_0, (.slice A4_1 l4_1.length c4_1)] 67 (0, 0))) ∧ Aside0 (wc.heap[gb108]? = some (.cells #[.int .i64 ((rd_T47 l0_1 x27_2).f0), .int .i64 ((rd_T47 l0_1 x27_2).f1)] 47 (0, 0))) ∧ Aside0 (Below w.heap.size w wc))
     case first =>
      have H := HC23.out; clear HC23; have c28b0 := eq_true (oD : 0 ≤ x27_2); obtain ⟨ji29, hji29⟩ : ∃ j_ : Int, (shr .i64 a1 x27_2) = j_ := ⟨_, rfl⟩
      replace H : (if (Go.bits .and .i64 (ji29) 1) = 0 then (feed_grid_paths.j2 k2 a1 a2 a3 x11_2 x27_2 l0_1 (l0_1.length : Int) x27_2 true a0_0 l0_1 l0_2 a4_0 l4_1 ((rd_T47 l0_1 x27_2).f0) ((rd_T47 l0_1 x27_2).f1)) else (if ((rd_T47 l0_1 x27_2).f0) = a2 then (feed_grid_paths.j2 k2 a1 a2 a3 x11_2 x27_2 l0_1 (l0_1.length : Int) x27_2 false a0_0 l0_1 l0_2 a4_0 l4_1 ((rd_T47 l0_1 x27_2).f0) ((rd_T47 l0_1 x27_2).f1)) else (feed_grid_paths.j2 k2 a1 a2 a3 x11_2 x27_2 l0_1 (l0_1.length : Int) x27_2 (((rd_T47 l0_1 x27_2).f1) != a2) a0_0 l0_1 l0_2 a4_0 l4_1 ((rd_T47 l0_1 x27_2).f0) ((rd_T47 l0_1 x27_2).f1)))) = some r := by first | (rw [hji29] at H; exact H) | (simp only [hji29] at H ⊢; exact H)
      have hji29_ : (a1 / 2 ^ min x27_2.toNat 64) = ji29 := hji29; have hji29z : x27_2 ≤ 64 → (a1 / 2 ^ x27_2.toNat) = ji29 := shr_small hji29; by_cases c30 : (Go.bits .and .i64 (ji29) 1) = 0
      ·rw [if_pos c30] at H
       have c30b0 : ((Go.bits .and .i64 (ji29) 1) == 0) = true := beq_iff_eq.mpr c30; have c30b1 : ((Go.bits .and .i64 (ji29) 1) != 0) = false := bne_eq_false_iff_eq.mpr c30; clear c30
       (first | rw [c30b0] | (simp only [i64_w, i32_w]; rw [c30b0]) | skip)
       have H' := A_ H; clear H
       go_wp2
       go_meet
       case rel => exact ⟨_, (true), eS, H', ⟨by have := HJ6.out; have := HK2.out; first | omega | exact Nat.le_refl _⟩, ⟨by (with_reducible repeat (first | apply Kd.N_alloc | apply Kd.N_drewN | apply Kd.N_drew)); exact Kd.N_mono (Kd.N_far (p := ⟨gb108, 1, none⟩) (Kd.N_far (p := ⟨gb108, 0, none⟩) (Kd.N_mono HO_11.out (fun k_ hk => (⟨hk, hk.2⟩ : _ ∧ k_ ≠ gb108))) (fun _ hk => hk.2) (.int .i64 ((rd_T47 l0_1 x27_2).f0))) (fun _ hk => hk.2) (.int .i64 ((rd_T47 l0_1 x27_2).f1))) (fun _ hk => ⟨hk.1.1.1, ⟨hk.1.1.2.1, ⟨hk.1.1.2.2, hk.1.2⟩⟩⟩)⟩, ⟨by (with_reducible repeat (first | apply Kd.V_alloc | apply Kd.V_drewN | apply Kd.V_drew)); exact Kd.V_mono (Kd.V_far (p := ⟨gb108, 1, none⟩) (Kd.V_far (p := ⟨gb108, 0, none⟩) (Kd.V_mono HO_103001.out (fun k_ hk => (⟨hk, hk.2⟩ : _ ∧ k_ ≠ gb108))) (fun _ hk => hk.2) (.int .i64 ((rd_T47 l0_1 x27_2).f0))) (fun _ hk => hk.2) (.int .i64 ((rd_T47 l0_1 x27_2).f1))) (fun _ hk => ⟨hk.1.1.1, ⟨hk.1.1.2.1, ⟨hk.1.1.2.2.1, ⟨hk.1.1.2.2.2, hk.1.2⟩⟩⟩⟩)⟩, ⟨by refine bfW ?_ NB101_108.out; refine bfW ?_ NB101_108.out; exact bkU BK101⟩, ⟨by refine bfW ?_ NB102_108.out; refine bfW ?_ NB102_108.out; exact bkU BK102⟩, ⟨by (with_reducible repeat (first | refine blk_drewN ?_ _ | refine blk_drew ?_ | refine blk_alloc ?_ _)); refine blk_put (cs := #[.int .i64 ((rd_T47 l0_1 x27_2).f0), .int .i64 0]) ?_ 1 _ rfl; (with_reducible repeat (first | refine blk_drewN ?_ _ | refine blk_drew ?_ | refine blk_alloc ?_ _)); refine blk_put (cs := #[.int .i64 0, .int .i64 0]) ?_ 0 _ rfl; exact bkU BK108⟩, ⟨(bW3 HB.out GE101.out GE102.out GE108.out)⟩⟩
      rw [if_neg c30] at H; have c30b0 : ((Go.bits .and .i64 (ji29) 1) == 0) = false := beq_eq_false_iff_ne.mpr c30; have c30b1 : ((Go.bits .and .i64 (ji29) 1) != 0) = true := bne_iff_ne.mpr c30
      (first | rw [c30b0] | (simp only [i64_w, i32_w]; rw [c30b0]) | skip)
      by_cases c31 : ((rd_T47 l0_1 x27_2).f0) = a2
      ·rw [if_pos c31] at H
       have c31b0 : (((rd_T47 l0_1 x27_2).f0) == a2) = true := beq_iff_eq.mpr c31; have c31b1 : (((rd_T47 l0_1 x27_2).f0) != a2) = false := bne_eq_false_iff_eq.mpr c31; clear c31; have H' := A_ H; clear H; have hnb32 := NB108_101.out; have hnc32 := NB101_108.out; have hnb33 := NB108_102.out; have hnc33 := NB102_108.out; have hcz34_0 : w24.cell? ⟨gb108, 0, none⟩ = some (.int .i64 0) := (blk_cell BK108.out 0).trans rfl; have hcz34_1 : w24.cell? ⟨gb108, 1, none⟩ = some (.int .i64 0) := (blk_cell BK108.out 1).trans rfl; have hfz34_0 := blk_frozen BK108.out 0; have hfz34_1 := blk_frozen BK108.out 1
       go_wp2
       go_meet
       case rel => exact ⟨_, (false), eS, H', ⟨by have := HJ6.out; have := HK2.out; first | omega | exact Nat.le_refl _⟩, ⟨by (with_reducible repeat (first | apply Kd.N_alloc | apply Kd.N_drewN | apply Kd.N_drew)); exact Kd.N_mono (Kd.N_far (p := ⟨gb108, 1, none⟩) (Kd.N_far (p := ⟨gb108, 0, none⟩) (Kd.N_mono HO_11.out (fun k_ hk => (⟨hk, hk.2⟩ : _ ∧ k_ ≠ gb108))) (fun _ hk => hk.2) (.int .i64 ((rd_T47 l0_1 x27_2).f0))) (fun _ hk => hk.2) (.int .i64 ((rd_T47 l0_1 x27_2).f1))) (fun _ hk => ⟨hk.1.1.1, ⟨hk.1.1.2.1, ⟨hk.1.1.2.2, hk.1.2⟩⟩⟩)⟩, ⟨by (with_reducible repeat (first | apply Kd.V_alloc | apply Kd.V_drewN | apply Kd.V_drew)); exact Kd.V_mono (Kd.V_far (p := ⟨gb108, 1, none⟩) (Kd.V_far (p := ⟨gb108, 0, none⟩) (Kd.V_mono HO_103001.out (fun k_ hk => (⟨hk, hk.2⟩ : _ ∧ k_ ≠ gb108))) (fun _ hk => hk.2) (.int .i64 ((rd_T47 l0_1 x27_2).f0))) (fun _ hk => hk.2) (.int .i64 ((rd_T47 l0_1 x27_2).f1))) (fun _ hk => ⟨hk.1.1.1, ⟨hk.1.1.2.1, ⟨hk.1.1.2.2.1, ⟨hk.1.1.2.2.2, hk.1.2⟩⟩⟩⟩)⟩, ⟨by refine bfW ?_ NB101_108.out; refine bfW ?_ NB101_108.out; exact bkU BK101⟩, ⟨by refine bfW ?_ NB102_108.out; refine bfW ?_ NB102_108.out; exact bkU BK102⟩, ⟨by (with_reducible repeat (first | refine blk_drewN ?_ _ | refine blk_drew ?_ | refine blk_alloc ?_ _)); refine blk_put (cs := #[.int .i64 ((rd_T47 l0_1 x27_2).f0), .int .i64 0]) ?_ 1 _ rfl; (with_reducible repeat (first | refine blk_drewN ?_ _ | refine blk_drew ?_ | refine blk_alloc ?_ _)); refine blk_put (cs := #[.int .i64 0, .int .i64 0]) ?_ 0 _ rfl; exact bkU BK108⟩, ⟨(bW3 HB.out GE101.out GE102.out GE108.out)⟩⟩
      rw [if_neg c31] at H; have c31b0 : (((rd_T47 l0_1 x27_2).f0) == a2) = false := beq_eq_false_iff_ne.mpr c31; have c31b1 : (((rd_T47 l0_1 x27_2).f0) != a2) = true := bne_iff_ne.mpr c31; have H' := A_ H; clear H; have hnb35 := NB108_101.out; have hnc35 := NB101_108.out; have hnb36 := NB108_102.out; have hnc36 := NB102_108.out; have hcz37_0 : w24.cell? ⟨gb108, 0, none⟩ = some (.int .i64 0) := (blk_cell BK108.out 0).trans rfl; have hcz37_1 : w24.cell? ⟨gb108, 1, none⟩ = some (.int .i64 0) := (blk_cell BK108.out 1).trans rfl; have hfz37_0 := blk_frozen BK108.out 0; have hfz37_1 := blk_frozen BK108.out 1
      go_wp2
      go_meet
      case rel => exact ⟨_, ((((rd_T47 l0_1 x27_2).f1) != a2)), eS, H', ⟨by have := HJ6.out; have := HK2.out; first | omega | exact Nat.le_refl _⟩, ⟨by (with_reducible repeat (first | apply Kd.N_alloc | apply Kd.N_drewN | apply Kd.N_drew)); exact Kd.N_mono (Kd.N_far (p := ⟨gb108, 1, none⟩) (Kd.N_far (p := ⟨gb108, 0, none⟩) (Kd.N_mono HO_11.out (fun k_ hk => (⟨hk, hk.2⟩ : _ ∧ k_ ≠ gb108))) (fun _ hk => hk.2) (.int .i64 ((rd_T47 l0_1 x27_2).f0))) (fun _ hk => hk.2) (.int .i64 ((rd_T47 l0_1 x27_2).f1))) (fun _ hk => ⟨hk.1.1.1, ⟨hk.1.1.2.1, ⟨hk.1.1.2.2, hk.1.2⟩⟩⟩)⟩, ⟨by (with_reducible repeat (first | apply Kd.V_alloc | apply Kd.V_drewN | apply Kd.V_drew)); exact Kd.V_mono (Kd.V_far (p := ⟨gb108, 1, none⟩) (Kd.V_far (p := ⟨gb108, 0, none⟩) (Kd.V_mono HO_103001.out (fun k_ hk => (⟨hk, hk.2⟩ : _ ∧ k_ ≠ gb108))) (fun _ hk => hk.2) (.int .i64 ((rd_T47 l0_1 x27_2).f0))) (fun _ hk => hk.2) (.int .i64 ((rd_T47 l0_1 x27_2).f1))) (fun _ hk => ⟨hk.1.1.1, ⟨hk.1.1.2.1, ⟨hk.1.1.2.2.1, ⟨hk.1.1.2.2.2, hk.1.2⟩⟩⟩⟩)⟩, ⟨by refine bfW ?_ NB101_108.out; refine bfW ?_ NB101_108.out; exact bkU BK101⟩, ⟨by refine bfW ?_ NB102_108.out; refine bfW ?_ NB102_108.out; exact bkU BK102⟩, ⟨by (with_reducible repeat (first | refine blk_drewN ?_ _ | refine blk_drew ?_ | refine blk_alloc ?_ _)); refine blk_put (cs := #[.int .i64 ((rd_T47 l0_1 x27_2).f0), .int .i64 0]) ?_ 1 _ rfl; (with_reducible repeat (first | refine blk_drewN ?_ _ | refine blk_drew ?_ | refine blk_alloc ?_ _)); refine blk_put (cs := #[.int .i64 0, .int .i64 0]) ?_ 0 _ rfl; exact bkU BK108⟩, ⟨(bW3 HB.out GE101.out GE102.out GE108.out)⟩⟩
     case rest =>
      clear HC23
      try clear c1; try clear p1; try clear q1; try clear hx1; try clear c2; try clear p2; try clear c3; try clear c4; try clear c10; try clear p10; try clear q10; try clear hx10; try clear c13; try clear c14; try clear c15; try clear c18; try clear c19; try clear c20; try clear c20b0; try clear c21; try clear c21b0; try clear c22; try clear c22b0; try clear c24; try clear c25; try clear c26; try clear c28; try clear c28b0; try clear c30; try clear c30b0; try clear c30b1; try clear c31; try clear c31b0; try clear c31b1; try clear c32; try clear c33; try clear c35; try clear c36; try clear hcz11_0; try clear hcz11_1; try clear hcz11_2; try clear hcz16_0; try clear hcz16_1; try clear hcz19_0; try clear hcz19_1; try clear hcz19_2; try clear hcz27_0; try clear hcz27_1; try clear hcz34_0; try clear hcz34_1; try clear hcz37_0; try clear hcz37_1; try clear hfz11_0; try clear hfz11_1; try clear hfz11_2; try clear hfz16_0; try clear hfz16_1; try clear hfz19_0; try clear hfz19_1; try clear hfz19_2; try clear hfz27_0; try clear hfz27_1; try clear hfz34_0; try clear hfz34_1; try clear hfz37_0; try clear hfz37_1; try clear hx107_0; try clear hx107_1; try clear p107; try clear p2; try clear q107
      obtain ⟨kq, x48_22, rfl, HA, HJ22, HO_11, HO_103001, BK101, BK102, BK108, HB⟩ := hcut
      cases kq with
      | zero => exact absurd HA.out (by simp [feed_grid_paths.j2])
      | succ kj22 =>
       have H := HA.out; clear HA; simp only [feed_grid_paths.j2] at H; by_cases c38 : x48_22 = true
       ·subst c38
        rw [if_pos rfl] at H; have H' := A_ H; clear H
        go_wp2
        go_roundg kj22
        case measure => have := HJ6.out; have := HK2.out; have := HJ22.out; omega
        case rel => exact ⟨(x11_2), (wrap64 (x27_2 + 1)), eS, H', ⟨by have := HJ6.out; have := HK2.out; have := HJ22.out; omega⟩, ⟨by (with_reducible repeat (first | apply Kd.N_alloc | apply Kd.N_drewN | apply Kd.N_drew)); exact Kd.N_mono HO_11.out (fun _ hk => ⟨hk.1, ⟨hk.2.1, hk.2.2.1⟩⟩)⟩, ⟨by (with_reducible repeat (first | apply Kd.V_alloc | apply Kd.V_drewN | apply Kd.V_drew)); exact Kd.V_mono HO_103001.out (fun _ hk => ⟨hk.1, ⟨hk.2.1, ⟨hk.2.2.1, hk.2.2.2.1⟩⟩⟩)⟩, ⟨bkU BK101⟩, ⟨bkU BK102⟩, ⟨(bW3 HB.out GE101.out GE102.out GE108.out)⟩⟩
       replace c38 := Bool.eq_false_iff.mpr c38; subst c38; rw [if_neg (show ¬ (false = true) by decide)] at H; obtain ⟨ji39, hji39⟩ : ∃ j_ : Int, (wrap64 ((wrap64 (((rd_T47 l0_1 x27_2).f0) + ((rd_T47 l0_1 x27_2).f1))) - a2)) = j_ := ⟨_, rfl⟩
       replace H : (if 0 ≤ (ji39) then (if (Go.bits .and .u64 (shr .u64 a3 (ji39)) 1) = 0 then (if 0 ≤ x27_2 then ((some (([x27_2] : List Int) : List Int)).bind fun y109 => (if y109.length + l4_1.length < 17592186044416 then ((feed_grid_paths.f kj22 a0_0 l0_1 l0_2 a1 (ji39) (Go.bits .or .u64 a3 (shl .u64 1 (ji39))) (Go.bits .or .i64 a4_0 (shl .i64 1 x27_2)) (y109 ++ l4_1)).bind fun t116 => (if x11_2.length + t116.length < 4398046511104 then (feed_grid_paths.l0 kj22 a1 a2 a3 (x11_2 ++ t116) l0_1 (l0_1.length : Int) (wrap64 (x27_2 + 1)) a0_0 l0_1 l0_2 a4_0 l4_1) else (none))) else (none))) else (none)) else (feed_grid_paths.l0 kj22 a1 a2 a3 x11_2 l0_1 (l0_1.length : Int) (wrap64 (x27_2 + 1)) a0_0 l0_1 l0_2 a4_0 l4_1)) else (none)) = some r := by first | (rw [hji39] at H; exact H) | (simp only [hji39] at H ⊢; exact H)
       have hji39w : (IntKind.i64.wrap ((wrap64 (((rd_T47 l0_1 x27_2).f0) + ((rd_T47 l0_1 x27_2).f1))) - a2)) = ji39 := (i64_w _).trans hji39; by_cases c40 : 0 ≤ (ji39); rotate_left
       ·rw [if_neg c40] at H
        exact absurd H (by simp)
       rw [if_pos c40] at H; have c40b0 := eq_true c40; have c40b1 : decide (0 ≤ (ji39)) = true := decide_eq_true c40; clear c40; obtain ⟨ji41, hji41⟩ : ∃ j_ : Int, (shr .u64 a3 (ji39)) = j_ := ⟨_, rfl⟩
       replace H : (if (Go.bits .and .u64 (ji41) 1) = 0 then (if 0 ≤ x27_2 then ((some (([x27_2] : List Int) : List Int)).bind fun y109 => (if y109.length + l4_1.length < 17592186044416 then ((feed_grid_paths.f kj22 a0_0 l0_1 l0_2 a1 (ji39) (Go.bits .or .u64 a3 (shl .u64 1 (ji39))) (Go.bits .or .i64 a4_0 (shl .i64 1 x27_2)) (y109 ++ l4_1)).bind fun t116 => (if x11_2.length + t116.length < 4398046511104 then (feed_grid_paths.l0 kj22 a1 a2 a3 (x11_2 ++ t116) l0_1 (l0_1.length : Int) (wrap64 (x27_2 + 1)) a0_0 l0_1 l0_2 a4_0 l4_1) else (none))) else (none))) else (none)) else (feed_grid_paths.l0 kj22 a1 a2 a3 x11_2 l0_1 (l0_1.length : Int) (wrap64 (x27_2 + 1)) a0_0 l0_1 l0_2 a4_0 l4_1)) = some r := by first | (rw [hji41] at H; exact H) | (simp only [hji41] at H ⊢; exact H)
       have hji41_ : (a3 / 2 ^ min (ji39).toNat 64) = ji41 := hji41; have hji41z : (ji39) ≤ 64 → (a3 / 2 ^ (ji39).toNat) = ji41 := shr_small hji41; by_cases c42 : (Go.bits .and .u64 (ji41) 1) = 0; rotate_left
       ·rw [if_neg c42] at H
        have c42b0 : ((Go.bits .and .u64 (ji41) 1) == 0) = false := beq_eq_false_iff_ne.mpr c42; have c42b1 : ((Go.bits .and .u64 (ji41) 1) != 0) = true := bne_iff_ne.mpr c42; have H' := A_ H; clear H; have hnb68 := NB108_101.out; have hnc68 := NB101_108.out; have hnb69 := NB108_102.out; have hnc69 := NB102_108.out; have hcz70_0 : wc.cell? ⟨gb108, 0, none⟩ = some (.int .i64 ((rd_T47 l0_1 x27_2).f0)) := (blk_cell BK108.out 0).trans rfl; have hcz70_1 : wc.cell? ⟨gb108, 1, none⟩ = some (.int .i64 ((rd_T47 l0_1 x27_2).f1)) := (blk_cell BK108.out 1).trans rfl; have hfz70_0 := blk_frozen BK108.out 0; have hfz70_1 := blk_frozen BK108.out 1
        go_wp2
        go_roundg kj22
        case measure => have := HJ6.out; have := HK2.out; have := HJ22.out; omega
        case rel => exact ⟨(x11_2), (wrap64 (x27_2 + 1)), eS, H', ⟨by have := HJ6.out; have := HK2.out; have := HJ22.out; omega⟩, ⟨by (with_reducible repeat (first | apply Kd.N_alloc | apply Kd.N_drewN | apply Kd.N_drew)); exact Kd.N_mono HO_11.out (fun _ hk => ⟨hk.1, ⟨hk.2.1, hk.2.2.1⟩⟩)⟩, ⟨by (with_reducible repeat (first | apply Kd.V_alloc | apply Kd.V_drewN | apply Kd.V_drew)); exact Kd.V_mono HO_103001.out (fun _ hk => ⟨hk.1, ⟨hk.2.1, ⟨hk.2.2.1, hk.2.2.2.1⟩⟩⟩)⟩, ⟨bkU BK101⟩, ⟨bkU BK102⟩, ⟨(bW3 HB.out GE101.out GE102.out GE108.out)⟩⟩
       rw [if_pos c42] at H; have c42b0 : ((Go.bits .and .u64 (ji41) 1) == 0) = true := beq_iff_eq.mpr c42; have c42b1 : ((Go.bits .and .u64 (ji41) 1) != 0) = false := bne_eq_false_iff_eq.mpr c42; clear c42; by_cases c43 : 0 ≤ x27_2; rotate_left
       ·rw [if_neg c43] at H
        exact absurd H (by simp)
       rw [if_pos c43] at H; have c43b0 := eq_true c43; have c43b1 : decide (0 ≤ x27_2) = true := decide_eq_true c43; clear c43; obtain ⟨ji44, hji44⟩ : ∃ j_ : Int, (shl .i64 1 x27_2) = j_ := ⟨_, rfl⟩
       replace H : ((some (([x27_2] : List Int) : List Int)).bind fun y109 => (if y109.length + l4_1.length < 17592186044416 then ((feed_grid_paths.f kj22 a0_0 l0_1 l0_2 a1 (ji39) (Go.bits .or .u64 a3 (shl .u64 1 (ji39))) (Go.bits .or .i64 a4_0 (ji44)) (y109 ++ l4_1)).bind fun t116 => (if x11_2.length + t116.length < 4398046511104 then (feed_grid_paths.l0 kj22 a1 a2 a3 (x11_2 ++ t116) l0_1 (l0_1.length : Int) (wrap64 (x27_2 + 1)) a0_0 l0_1 l0_2 a4_0 l4_1) else (none))) else (none))) = some r := by first | (rw [hji44] at H; exact H) | (simp only [hji44] at H ⊢; exact H)
       have hji44_ : (IntKind.i64.wrap (1 * 2 ^ min x27_2.toNat 64)) = ji44 := hji44; have hji44z : x27_2 ≤ 64 → (IntKind.i64.wrap (1 * 2 ^ x27_2.toNat)) = ji44 := shl_small hji44
       have hji44u : (IntKind.i64.wrap (2 ^ min x27_2.toNat 64)) = ji44 := by have h_ := hji44_; rw [Int.one_mul] at h_; exact h_
       have hji44v : x27_2 ≤ 64 → (IntKind.i64.wrap (2 ^ x27_2.toNat)) = ji44 := fun hle_ => by have h_ := hji44z hle_; rw [Int.one_mul] at h_; exact h_
       have hji44y : (wrap64 (1 * 2 ^ min x27_2.toNat 64)) = ji44 := (i64_w _).symm.trans hji44_
       have hji44x : x27_2 ≤ 64 → (wrap64 (1 * 2 ^ x27_2.toNat)) = ji44 := fun h_ => (i64_w _).symm.trans (hji44z h_)
       obtain ⟨y109, hy109⟩ : ∃ y_ : List Int, y_ = (([x27_2] : List Int)) := ⟨_, rfl⟩
       replace H : (if y109.length + l4_1.length < 17592186044416 then ((feed_grid_paths.f kj22 a0_0 l0_1 l0_2 a1 (ji39) (Go.bits .or .u64 a3 (shl .u64 1 (ji39))) (Go.bits .or .i64 a4_0 (ji44)) (y109 ++ l4_1)).bind fun t116 => (if x11_2.length + t116.length < 4398046511104 then (feed_grid_paths.l0 kj22 a1 a2 a3 (x11_2 ++ t116) l0_1 (l0_1.length : Int) (wrap64 (x27_2 + 1)) a0_0 l0_1 l0_2 a4_0 l4_1) else (none))) else (none)) = some r := by first | (rw [hy109]; with_reducible exact H) | (have H2_ := (Option.bind_some _ _).symm.trans H; rw [hy109]; with_reducible exact H2_) | (have H2_ := (Option.bind_some _ _).symm.trans H; with_reducible exact H2_) | with_reducible exact H | (rw [hy109]; exact H) | exact H
       have Ny109 := A_ hy109; clear hy109; by_cases c45 : y109.length + l4_1.length < 17592186044416; rotate_left
       ·rw [if_neg c45] at H
        exact absurd H (by simp)
       rw [if_pos c45] at H; have LMc45 := A_ c45; clear c45; obtain ⟨y112, hy112⟩ : ∃ y_ : List Int, y_ = (y109 ++ l4_1) := ⟨_, rfl⟩
       replace H : ((feed_grid_paths.f kj22 a0_0 l0_1 l0_2 a1 (ji39) (Go.bits .or .u64 a3 (shl .u64 1 (ji39))) (Go.bits .or .i64 a4_0 (ji44)) y112).bind fun t116 => (if x11_2.length + t116.length < 4398046511104 then (feed_grid_paths.l0 kj22 a1 a2 a3 (x11_2 ++ t116) l0_1 (l0_1.length : Int) (wrap64 (x27_2 + 1)) a0_0 l0_1 l0_2 a4_0 l4_1) else (none))) = some r := by first | (rw [hy112]; with_reducible exact H) | (have H2_ := (Option.bind_some _ _).symm.trans H; rw [hy112]; with_reducible exact H2_) | (have H2_ := (Option.bind_some _ _).symm.trans H; with_reducible exact H2_) | with_reducible exact H | (rw [hy112]; exact H) | exact H
       have Ny112 := A_ hy112; clear hy112; have c46b0 := eq_true (oD : 0 ≤ (ji39)); obtain ⟨ji47, hji47⟩ : ∃ j_ : Int, (shl .u64 1 (ji39)) = j_ := ⟨_, rfl⟩
       replace H : ((feed_grid_paths.f kj22 a0_0 l0_1 l0_2 a1 (ji39) (Go.bits .or .u64 a3 (ji47)) (Go.bits .or .i64 a4_0 (ji44)) y112).bind fun t116 => (if x11_2.length + t116.length < 4398046511104 then (feed_grid_paths.l0 kj22 a1 a2 a3 (x11_2 ++ t116) l0_1 (l0_1.length : Int) (wrap64 (x27_2 + 1)) a0_0 l0_1 l0_2 a4_0 l4_1) else (none))) = some r := by first | (rw [hji47] at H; exact H) | (simp only [hji47] at H ⊢; exact H)
       have hji47_ : (IntKind.u64.wrap (1 * 2 ^ min (ji39).toNat 64)) = ji47 := hji47; have hji47z : (ji39) ≤ 64 → (IntKind.u64.wrap (1 * 2 ^ (ji39).toNat)) = ji47 := shl_small hji47
       have hji47u : (IntKind.u64.wrap (2 ^ min (ji39).toNat 64)) = ji47 := by have h_ := hji47_; rw [Int.one_mul] at h_; exact h_
       have hji47v : (ji39) ≤ 64 → (IntKind.u64.wrap (2 ^ (ji39).toNat)) = ji47 := fun hle_ => by have h_ := hji47z hle_; rw [Int.one_mul] at h_; exact h_
       replace H := Option.bind_eq_some_iff.mp H; obtain ⟨t116, A480, H⟩ := H; (try dsimp only at H); have A48 := A_ A480; clear A480; by_cases c49 : x11_2.length + t116.length < 4398046511104; rotate_left
       ·rw [if_neg c49] at H
        exact absurd H (by simp)
       rw [if_pos c49] at H; have LMc49 := A_ c49; clear c49; obtain ⟨y119, hy119⟩ : ∃ y_ : List (S67), y_ = (x11_2 ++ t116) := ⟨_, rfl⟩
       replace H : (feed_grid_paths.l0 kj22 a1 a2 a3 y119 l0_1 (l0_1.length : Int) (wrap64 (x27_2 + 1)) a0_0 l0_1 l0_2 a4_0 l4_1) = some r := by first | (rw [hy119]; with_reducible exact H) | (have H2_ := (Option.bind_some _ _).symm.trans H; rw [hy119]; with_reducible exact H2_) | (have H2_ := (Option.bind_some _ _).symm.trans H; with_reducible exact H2_) | with_reducible exact H | (rw [hy119]; exact H) | exact H
       have Ny119 := A_ hy119; clear hy119; have H' := A_ H; clear H; have hnb50 := NB108_101.out; have hnc50 := NB101_108.out; have hnb51 := NB108_102.out; have hnc51 := NB102_108.out; have hcz52_0 : wc.cell? ⟨gb108, 0, none⟩ = some (.int .i64 ((rd_T47 l0_1 x27_2).f0)) := (blk_cell BK108.out 0).trans rfl; have hcz52_1 : wc.cell? ⟨gb108, 1, none⟩ = some (.int .i64 ((rd_T47 l0_1 x27_2).f1)) := (blk_cell BK108.out 1).trans rfl; have hfz52_0 := blk_frozen BK108.out 0; have hfz52_1 := blk_frozen BK108.out 1
       try go_wp2
       replace HO_11 := A_ (Kd.N_drew HO_11.out); replace HO_103001 := A_ (Kd.V_drew HO_103001.out); replace BK101 := A_ (blk_drew BK101.out); replace BK102 := A_ (blk_drew BK102.out); replace BK108 := A_ (blk_drew BK108.out); replace HB := A_ (below_drew1 HB.out)
       refine start_ (n := 13) (S := fun w' => w'.cell? ⟨gb102, 0, none⟩ = some (.int .i64 a4_0) ∧ w'.cell? ⟨gb102, 1, none⟩ = some (.slice A4_1 l4_1.length c4_1)) (ds := []) (mkB 13 0) (by kernel_rfl) rfl rfl ⟨(blk_cell BK102.out 0).trans rfl, (blk_cell BK102.out 1).trans rfl⟩ (fun hHeld => ?_); refine with_tabW feed_grid_paths.tab10 feed_grid_paths.bits10 (fun HT_ HW_ => ?_)
       generalize wc.drew = w53 at HO_11 HO_103001 BK101 BK102 BK108 HB hHeld ⊢; refine pr_ 0 (some 61) (mkB 13 1) HT_ ?_; refine pr_ 2 (some 63) (mkB 13 5) HT_ ?_; refine pr_ 3 (some 64) (mkB 13 13) HT_ ?_; refine pr_ 5 (some 66) (mkB 13 45) HT_ ?_; refine pr_ 7 (some 68) (mkB 13 173) HT_ ?_
       refine take_ (i := 1) (N := some 62) (v := ?_) (a' := ?_) (mkB 13 175) rfl rfl (take_ofW HT_.out HW_.out (by kernel_rfl)) (fun _ _ _ h => h) (Or.inl ⟨by rfl, ?_⟩) hHeld ?_ ?_
       rotate_left
       ·rintro w' ⟨s0, s1⟩
        go_simp
        with_reducible rfl
       rotate_left
       ·simp only [Act.put, List.setIfInBounds_toArray, List.set_cons_zero, List.set_cons_succ, i64_w, i32_w]
        rfl
       refine pr_ 4 (some 65) (mkB 13 191) HT_ ?_
       refine take_ (i := 8) (N := some 69) (v := ?_) (a' := ?_) (mkB 13 447) rfl rfl (take_ofW HT_.out HW_.out (by kernel_rfl)) (fun _ _ _ h => h) (Or.inl ⟨by rfl, ?_⟩) hHeld ?_ ?_
       rotate_left
       ·rintro w' ⟨s0, s1⟩
        go_simp
        with_reducible rfl
       rotate_left
       ·simp only [Act.put, List.setIfInBounds_toArray, List.set_cons_zero, List.set_cons_succ, i64_w, i32_w]
        rfl
       refine join_ (σ := Value × Value × Nat) 1 (mkB 13 4095) (fun s_ => [(67, s_.1), (70, s_.2.1), (15, .pointer (some ⟨s_.2.2, 0, none⟩)), (71, .agg #[.int .i64 (Go.bits .or .i64 a4_0 (ji44)), s_.2.1])]) (fun s_ w' => (w'.cell? ⟨gb102, 0, none⟩ = some (.int .i64 a4_0) ∧ w'.cell? ⟨gb102, 1, none⟩ = some (.slice A4_1 l4_1.length c4_1)) ∧ (Kd.R (Kd.int .i64) 3 w' w.heap.size (fun k_ => (w.heap.size ≤ k_)) s_.2.1 y112) ∧ (Kd.V (Kd.int .i64) 3 w' w.heap.size (fun k_ => (P4_1_ k_ ∨ w.heap.size ≤ k_) ∧ some k_ ≠ (s_.2.1 : Value).ownBlock ∧ some k_ ≠ (u11 : Value).ownBlock ∧ k_ ≠ gb101 ∧ k_ ≠ gb102 ∧ k_ ≠ gb108 ∧ k_ ≠ s_.2.2) (.slice A4_1 l4_1.length c4_1) l4_1) ∧ (Kd.N k67 67 w' w.heap.size (fun k_ => (P4_1_ k_ ∨ w.heap.size ≤ k_) ∧ some k_ ≠ (s_.2.1 : Value).ownBlock ∧ k_ ≠ gb101 ∧ k_ ≠ gb102 ∧ k_ ≠ gb108 ∧ k_ ≠ s_.2.2) u11 x11_2) ∧ (w'.heap[gb101]? = some (.cells #[.int .i64 a0_0, .slice (some ad107) l0_1.length c0_1, .slice A0_2 l0_2.length c0_2] 54 (0, 0))) ∧ (w'.heap[gb102]? = some (.cells #[.int .i64 a4_0, .slice A4_1 l4_1.length c4_1] 67 (0, 0))) ∧ (w'.heap[gb108]? = some (.cells #[.int .i64 ((rd_T47 l0_1 x27_2).f0), .int .i64 ((rd_T47 l0_1 x27_2).f1)] 47 (0, 0))) ∧ (w'.heap[s_.2.2]? = some (.cells #[.int .i64 0, .slice none 0 0] 67 (0, 0))) ∧ (w.heap.size ≤ s_.2.2) ∧ (w.heap.size ≤ s_.2.2) ∧ (gb101 ≠ s_.2.2) ∧ (s_.2.2 ≠ gb101) ∧ (gb102 ≠ s_.2.2) ∧ (s_.2.2 ≠ gb102) ∧ (gb108 ≠ s_.2.2) ∧ (s_.2.2 ≠ gb108) ∧ (Below w.heap.size w w')) ?_ ?_
       rotate_left
       ·intro hCont
        refine two_ (i := 6) (j := 11) (Ni := some 67) (Nj := some 15) (mkB 13 511) (mkB 13 2495) rfl rfl rfl rfl (two_of HT_.out (by kernel_rfl)) (by decide) (by decide) (fun K hK => ?_) (fun K hK => ?_)
        ·skip
         refine Kd.R_lit_step (Kd.int .i64) _ 3 ?hg (N := 67) ?hd (xs := ([x27_2] : List Int)) (inner := [.int .i64 x27_2]) (ok := fun _ => True) (okp := fun _ => True) ?hr ?hp (fun _ hk => hk) trivial (Below.refl _ _) (Nat.le_refl _) (by simp) ?_; (case hd => rfl); (case hg => rfl); (case hr => first | (go_simp; done) | (go_simp; rfl)); (case hp => exact (Reps.one (show Kd.M (Kd.int .i64) _ _ _ x27_2 [.int .i64 x27_2] from rfl) (Reps.none _ _)))
         intro v110 w54 ho55 hb hg_ hnew_
         clear hg_ hnew_
         (first | rw [← Ny109.out] at ho55 | (simp only [Int.reduceToNat] at ho55; rw [← Ny109.out] at ho55))
         have n0_ := A_ (Kd.N_elder' (nU HO_11.out) (Kd.R_base ho55) hb); have n1_ := A_ (Kd.V_elder' (vU HO_103001.out) (Kd.R_base ho55) hb)
         have n2_ := A_ (Kd.R_lower (Kd.R_newM (M := fun k_ => (w.heap.size ≤ k_)) ho55 (below_size (bW3 HB.out GE101.out GE102.out GE108.out)) (fun k_ h_ => h_)) (below_size (bW3 HB.out GE101.out GE102.out GE108.out)))
         have n3_ := A_ (bkB BK101 hb); have n4_ := A_ (bkB BK102 hb); have n5_ := A_ (bkB BK108 hb); have n6_ := A_ (below_step (bW3 HB.out GE101.out GE102.out GE108.out) hb); clear HO_11 HO_103001 BK101 BK102 BK108 HB; have HO_11 := n0_; have HO_103001 := n1_; have HO111 := n2_; have BK101 := n3_; have BK102 := n4_; have BK108 := n5_; have HB := n6_; clear n0_ n1_ n2_ n3_ n4_ n5_ n6_ hb ho55
         refine hK.out _ _ ⟨(blk_cell BK102.out 0).trans rfl, (blk_cell BK102.out 1).trans rfl⟩ (fun hHeld => ?_)
         clear hK K
         refine norm_ (a' := ?_) ?_ ?_
         rotate_left
         ·show Act.put _ (some 67) _ = _
          simp only [Act.put, List.setIfInBounds_toArray, List.set_cons_zero, List.set_cons_succ, i64_w, i32_w]
          rfl
         refine two_ (i := 9) (j := 11) (Ni := some 70) (Nj := some 15) (mkB 13 1023) (mkB 13 2559) rfl rfl rfl rfl (two_of HT_.out (by kernel_rfl)) (by decide) (by decide) (fun K hK => ?_) (fun K hK => ?_)
         ·skip
          refine Kd.R_append_rows_step (Kd.int .i64) (w0 := w) w.heap.size (by rfl) (.tmp 67) (.tmp 69) 28 3 (.int .i64 0) 8 rfl Tryd.underlying28 info3 rfl (by decide) (by omega) v110 y109 l4_1 _ _ _ (fun k_ => (w.heap.size ≤ k_)) (fun _ => False) rfl rfl ?aO ?aR (fun _ _ h => h) (fun _ h => h.elim) ?aF ?aB ?aS ?aL ?_
          (case aR => repeat (first | exact (Kd.V_reads' HO_103001.out).2.2 | (with_reducible refine Kd.C_alloc ?_ _) | (with_reducible refine Kd.C_drewN ?_ _) | (with_reducible refine Kd.C_drew ?_)))
          (case aB => exact (bW3 HB.out GE101.out GE102.out GE108.out))
          (case aF => exact (fun k_ hk => (Nat.le_trans (below_size (bW3 HB.out GE101.out GE102.out GE108.out)) hk)))
          (case aO => exact (by (with_reducible repeat (first | apply Kd.R_alloc | apply Kd.R_drewN | apply Kd.R_drew)); exact Kd.R_mono HO111.out (fun _ hk => hk.1)))
          (case aS => exact (below_size (bW3 HB.out GE101.out GE102.out GE108.out)))
          (case aL => have := LMc45.out; omega)
          intro v113 w56 ho hb hg hat
          rw [← Ny112.out] at ho
          have n0_ := A_ (Kd.N_afterv (ok := (fun k_ => (P4_1_ k_ ∨ w.heap.size ≤ k_) ∧ k_ ≠ gb101 ∧ k_ ≠ gb102 ∧ k_ ≠ gb108)) (nU HO_11.out) hg hat)
          have n1_ := A_ (Kd.V_afterv (ok := (fun k_ => (P4_1_ k_ ∨ w.heap.size ≤ k_) ∧ some k_ ≠ (u11 : Value).ownBlock ∧ k_ ≠ gb101 ∧ k_ ≠ gb102 ∧ k_ ≠ gb108)) (vU HO_103001.out) hg hat)
          have n2_ := A_ (blk_grown (g := gb101) (o := .cells #[.int .i64 a0_0, .slice (some ad107) l0_1.length c0_1, .slice A0_2 l0_2.length c0_2] 54 (0, 0)) (bkU BK101) hg (Kd.R_ne HO111.out BK101.out (by decide)))
          have n3_ := A_ (blk_grown (g := gb102) (o := .cells #[.int .i64 a4_0, .slice A4_1 l4_1.length c4_1] 67 (0, 0)) (bkU BK102) hg (Kd.R_ne HO111.out BK102.out (by decide)))
          have n4_ := A_ (blk_grown (g := gb108) (o := .cells #[.int .i64 ((rd_T47 l0_1 x27_2).f0), .int .i64 ((rd_T47 l0_1 x27_2).f1)] 47 (0, 0)) (bkU BK108) hg (Kd.R_ne HO111.out BK108.out (by decide)))
          have n5_ := A_ (hb); have n6_ := A_ (ho); clear HO_11 HO_103001 BK101 BK102 BK108 HB HO111; have HO_11 := n0_; have HO_103001 := n1_; have BK101 := n2_; have BK102 := n3_; have BK108 := n4_; have HB := n5_; have HO114 := n6_; clear n0_ n1_ n2_ n3_ n4_ n5_ n6_ ho hb hg hat; obtain ⟨Ao57, co57, eo57⟩ := Kd.R_slice HO114.out
          (first | subst eo57 | (injection eo57 with f1_ f2_ f3_; have f4_ := f1_.symm; have f5_ := f3_.symm; clear f1_ f2_ f3_; subst f4_; subst f5_))
          refine hK.out _ _ ⟨(blk_cell BK102.out 0).trans rfl, (blk_cell BK102.out 1).trans rfl⟩ (fun hHeld => ?_)
          clear hK K
          refine norm_ (a' := ?_) ?_ ?_
          rotate_left
          ·show Act.put _ (some 70) _ = _
           simp only [Act.put, List.setIfInBounds_toArray, List.set_cons_zero, List.set_cons_succ, i64_w, i32_w]
           rfl
          refine pr_ 10 (some 71) (mkB 13 2047) HT_ ?_
          refine one_ (i := 11) (N := some 15) (mkB 13 4095) rfl rfl (one_of HT_.out (by kernel_rfl)) (by decide) (fun K hK => ?_)
          refine box_step ?hg (N := 15) ?hd (cs := #[.int .i64 0, .slice none 0 0]) (t := 67) ?hr ?_; (case hd => rfl); (case hg => rfl); (case hr => first | (go_simp; done) | (go_simp; rfl))
          intro gb115 hg w58 hbox hb
          have BK115 := A_ (hbox); have GW115 := A_ ((szG hg (bW3 HB.out GE101.out GE102.out GE108.out))); have GE115 := A_ ((szG hg (bW3 HB.out GE101.out GE102.out GE108.out))); have NB101_115 := A_ ((bkL BK101 hg : gb101 ≠ gb115)); have NB115_101 := A_ ((bkG BK101 hg : gb115 ≠ gb101)); have NB102_115 := A_ ((bkL BK102 hg : gb102 ≠ gb115)); have NB115_102 := A_ ((bkG BK102 hg : gb115 ≠ gb102)); have NB108_115 := A_ ((bkL BK108 hg : gb108 ≠ gb115)); have NB115_108 := A_ ((bkG BK108 hg : gb115 ≠ gb108)); replace HO_11 := A_ (Kd.N_below (Kd.N_elderB (nU HO_11.out) gb115 (Nat.le_of_eq hg.symm)) hb); replace HO_103001 := A_ (Kd.V_below (Kd.V_elderB (vU HO_103001.out) gb115 (Nat.le_of_eq hg.symm)) hb); replace HO114 := A_ (Kd.R_below (rU HO114.out) hb); replace BK101 := A_ (bkB BK101 hb); replace BK102 := A_ (bkB BK102 hb); replace BK108 := A_ (bkB BK108 hb); replace HB := A_ (below_step (bW3 HB.out GE101.out GE102.out GE108.out) hb); clear hb hbox hg
          refine hK.out _ _ ⟨(blk_cell BK102.out 0).trans rfl, (blk_cell BK102.out 1).trans rfl⟩ (fun hHeld => ?_)
          clear hK K
          refine norm_ (a' := ?_) ?_ ?_
          rotate_left
          ·show Act.put _ (some 15) _ = _
           simp only [Act.put, List.setIfInBounds_toArray, List.set_cons_zero, List.set_cons_succ, i64_w, i32_w]
           rfl
          exact norm_ (by simp only [putAll, Act.put, List.setIfInBounds_toArray, List.set_cons_zero, List.set_cons_succ]) (hCont (v110, .slice Ao57 y112.length co57, gb115) _ ⟨hHeld, (rU HO114.out), (by (with_reducible repeat (first | apply Kd.V_alloc | apply Kd.V_drewN | apply Kd.V_drew)); exact Kd.V_mono HO_103001.out (fun _ hk => ⟨hk.1.1.1, ⟨hk.1.2, ⟨hk.1.1.2.1, ⟨hk.1.1.2.2.1, ⟨hk.1.1.2.2.2.1, ⟨hk.1.1.2.2.2.2, hk.2⟩⟩⟩⟩⟩⟩)), (by (with_reducible repeat (first | apply Kd.N_alloc | apply Kd.N_drewN | apply Kd.N_drew)); exact Kd.N_mono HO_11.out (fun _ hk => ⟨hk.1.1.1, ⟨hk.1.2, ⟨hk.1.1.2.1, ⟨hk.1.1.2.2.1, ⟨hk.1.1.2.2.2, hk.2⟩⟩⟩⟩⟩)), (bkU BK101), (bkU BK102), (bkU BK108), (bkU BK115), GW115.out, GE115.out, NB101_115.out, NB115_101.out, NB102_115.out, NB115_102.out, NB108_115.out, NB115_108.out, (bW4 HB.out GE101.out GE102.out GE108.out GE115.out)⟩)
         ·skip
          refine box_step ?hg (N := 15) ?hd (cs := #[.int .i64 0, .slice none 0 0]) (t := 67) ?hr ?_; (case hd => rfl); (case hg => rfl); (case hr => first | (go_simp; done) | (go_simp; rfl))
          intro gb115 hg w56 hbox hb
          have BK115 := A_ (hbox); have GW115 := A_ ((szG hg (bW3 HB.out GE101.out GE102.out GE108.out))); have GE115 := A_ ((szG hg (bW3 HB.out GE101.out GE102.out GE108.out))); have NB101_115 := A_ ((bkL BK101 hg : gb101 ≠ gb115)); have NB115_101 := A_ ((bkG BK101 hg : gb115 ≠ gb101)); have NB102_115 := A_ ((bkL BK102 hg : gb102 ≠ gb115)); have NB115_102 := A_ ((bkG BK102 hg : gb115 ≠ gb102)); have NB108_115 := A_ ((bkL BK108 hg : gb108 ≠ gb115)); have NB115_108 := A_ ((bkG BK108 hg : gb115 ≠ gb108)); replace HO_11 := A_ (Kd.N_below (Kd.N_elderB (nU HO_11.out) gb115 (Nat.le_of_eq hg.symm)) hb); replace HO_103001 := A_ (Kd.V_below (Kd.V_elderB (vU HO_103001.out) gb115 (Nat.le_of_eq hg.symm)) hb); replace HO111 := A_ (Kd.R_below (rU HO111.out) hb); replace BK101 := A_ (bkB BK101 hb); replace BK102 := A_ (bkB BK102 hb); replace BK108 := A_ (bkB BK108 hb); replace HB := A_ (below_step (bW3 HB.out GE101.out GE102.out GE108.out) hb); clear hb hbox hg
          refine hK.out _ _ ⟨(blk_cell BK102.out 0).trans rfl, (blk_cell BK102.out 1).trans rfl⟩ (fun hHeld => ?_)
          clear hK K
          refine norm_ (a' := ?_) ?_ ?_
          rotate_left
          ·show Act.put _ (some 15) _ = _
           simp only [Act.put, List.setIfInBounds_toArray, List.set_cons_zero, List.set_cons_succ, i64_w, i32_w]
           rfl
          refine one_ (i := 9) (N := some 70) (mkB 13 3071) rfl rfl (one_of HT_.out (by kernel_rfl)) (by decide) (fun K hK => ?_)
          refine Kd.R_append_rows_step (Kd.int .i64) (w0 := w) w.heap.size (by rfl) (.tmp 67) (.tmp 69) 28 3 (.int .i64 0) 8 rfl Tryd.underlying28 info3 rfl (by decide) (by omega) v110 y109 l4_1 _ _ _ (fun k_ => (w.heap.size ≤ k_)) (fun _ => False) rfl rfl ?aO ?aR (fun _ _ h => h) (fun _ h => h.elim) ?aF ?aB ?aS ?aL ?_
          (case aR => repeat (first | exact (Kd.V_reads' HO_103001.out).2.2 | (with_reducible refine Kd.C_alloc ?_ _) | (with_reducible refine Kd.C_drewN ?_ _) | (with_reducible refine Kd.C_drew ?_)))
          (case aB => exact (bW4 HB.out GE101.out GE102.out GE108.out GE115.out))
          (case aF => exact (fun k_ hk => (Nat.le_trans (below_size (bW4 HB.out GE101.out GE102.out GE108.out GE115.out)) hk)))
          (case aO => exact (by (with_reducible repeat (first | apply Kd.R_alloc | apply Kd.R_drewN | apply Kd.R_drew)); exact Kd.R_mono HO111.out (fun _ hk => hk.1)))
          (case aS => exact (below_size (bW4 HB.out GE101.out GE102.out GE108.out GE115.out)))
          (case aL => have := LMc45.out; omega)
          intro v113 w57 ho hb hg hat
          rw [← Ny112.out] at ho
          have n0_ := A_ (Kd.N_afterv (ok := (fun k_ => (P4_1_ k_ ∨ w.heap.size ≤ k_) ∧ k_ ≠ gb101 ∧ k_ ≠ gb102 ∧ k_ ≠ gb108 ∧ k_ ≠ gb115)) (by (with_reducible repeat (first | apply Kd.N_alloc | apply Kd.N_drewN | apply Kd.N_drew)); exact Kd.N_mono HO_11.out (fun _ hk => ⟨⟨hk.1.1.1, ⟨hk.1.1.2.1, ⟨hk.1.1.2.2.1, ⟨hk.1.1.2.2.2, hk.2⟩⟩⟩⟩, hk.1.2⟩)) hg hat)
          have n1_ := A_ (Kd.V_afterv (ok := (fun k_ => (P4_1_ k_ ∨ w.heap.size ≤ k_) ∧ some k_ ≠ (u11 : Value).ownBlock ∧ k_ ≠ gb101 ∧ k_ ≠ gb102 ∧ k_ ≠ gb108 ∧ k_ ≠ gb115)) (by (with_reducible repeat (first | apply Kd.V_alloc | apply Kd.V_drewN | apply Kd.V_drew)); exact Kd.V_mono HO_103001.out (fun _ hk => ⟨⟨hk.1.1.1, ⟨hk.1.1.2.1, ⟨hk.1.1.2.2.1, ⟨hk.1.1.2.2.2.1, ⟨hk.1.1.2.2.2.2, hk.2⟩⟩⟩⟩⟩, hk.1.2⟩)) hg hat)
          have n2_ := A_ (blk_grown (g := gb101) (o := .cells #[.int .i64 a0_0, .slice (some ad107) l0_1.length c0_1, .slice A0_2 l0_2.length c0_2] 54 (0, 0)) (bkU BK101) hg (Kd.R_ne HO111.out BK101.out (by decide)))
          have n3_ := A_ (blk_grown (g := gb102) (o := .cells #[.int .i64 a4_0, .slice A4_1 l4_1.length c4_1] 67 (0, 0)) (bkU BK102) hg (Kd.R_ne HO111.out BK102.out (by decide)))
          have n4_ := A_ (blk_grown (g := gb108) (o := .cells #[.int .i64 ((rd_T47 l0_1 x27_2).f0), .int .i64 ((rd_T47 l0_1 x27_2).f1)] 47 (0, 0)) (bkU BK108) hg (Kd.R_ne HO111.out BK108.out (by decide)))
          have n5_ := A_ (blk_grown (g := gb115) (o := .cells #[.int .i64 0, .slice none 0 0] 67 (0, 0)) (bkU BK115) hg (Kd.R_ne HO111.out BK115.out (by decide)))
          have n6_ := A_ (hb); have n7_ := A_ (ho); clear HO_11 HO_103001 BK101 BK102 BK108 BK115 HB HO111; have HO_11 := n0_; have HO_103001 := n1_; have BK101 := n2_; have BK102 := n3_; have BK108 := n4_; have BK115 := n5_; have HB := n6_; have HO114 := n7_; clear n0_ n1_ n2_ n3_ n4_ n5_ n6_ n7_ ho hb hg hat; obtain ⟨Ao58, co58, eo58⟩ := Kd.R_slice HO114.out
          (first | subst eo58 | (injection eo58 with f1_ f2_ f3_; have f4_ := f1_.symm; have f5_ := f3_.symm; clear f1_ f2_ f3_; subst f4_; subst f5_))
          refine hK.out _ _ ⟨(blk_cell BK102.out 0).trans rfl, (blk_cell BK102.out 1).trans rfl⟩ (fun hHeld => ?_)
          clear hK K
          refine norm_ (a' := ?_) ?_ ?_
          rotate_left
          ·show Act.put _ (some 70) _ = _
           simp only [Act.put, List.setIfInBounds_toArray, List.set_cons_zero, List.set_cons_succ, i64_w, i32_w]
           rfl
          refine pr_ 10 (some 71) (mkB 13 4095) HT_ ?_
          exact norm_ (by simp only [putAll, Act.put, List.setIfInBounds_toArray, List.set_cons_zero, List.set_cons_succ]) (hCont (v110, .slice Ao58 y112.length co58, gb115) _ ⟨hHeld, (rU HO114.out), (by (with_reducible repeat (first | apply Kd.V_alloc | apply Kd.V_drewN | apply Kd.V_drew)); exact Kd.V_mono HO_103001.out (fun _ hk => ⟨hk.1.1, ⟨hk.2, ⟨hk.1.2.1, ⟨hk.1.2.2.1, ⟨hk.1.2.2.2.1, ⟨hk.1.2.2.2.2.1, hk.1.2.2.2.2.2⟩⟩⟩⟩⟩⟩)), (by (with_reducible repeat (first | apply Kd.N_alloc | apply Kd.N_drewN | apply Kd.N_drew)); exact Kd.N_mono HO_11.out (fun _ hk => ⟨hk.1.1, ⟨hk.2, ⟨hk.1.2.1, ⟨hk.1.2.2.1, ⟨hk.1.2.2.2.1, hk.1.2.2.2.2⟩⟩⟩⟩⟩)), (bkU BK101), (bkU BK102), (bkU BK108), (bkU BK115), GW115.out, GE115.out, NB101_115.out, NB115_101.out, NB102_115.out, NB115_102.out, NB108_115.out, NB115_108.out, (bW4 HB.out GE101.out GE102.out GE108.out GE115.out)⟩)
        ·skip
         refine box_step ?hg (N := 15) ?hd (cs := #[.int .i64 0, .slice none 0 0]) (t := 67) ?hr ?_; (case hd => rfl); (case hg => rfl); (case hr => first | (go_simp; done) | (go_simp; rfl))
         intro gb115 hg w54 hbox hb
         have BK115 := A_ (hbox); have GW115 := A_ ((szG hg (bW3 HB.out GE101.out GE102.out GE108.out))); have GE115 := A_ ((szG hg (bW3 HB.out GE101.out GE102.out GE108.out))); have NB101_115 := A_ ((bkL BK101 hg : gb101 ≠ gb115)); have NB115_101 := A_ ((bkG BK101 hg : gb115 ≠ gb101)); have NB102_115 := A_ ((bkL BK102 hg : gb102 ≠ gb115)); have NB115_102 := A_ ((bkG BK102 hg : gb115 ≠ gb102)); have NB108_115 := A_ ((bkL BK108 hg : gb108 ≠ gb115)); have NB115_108 := A_ ((bkG BK108 hg : gb115 ≠ gb108)); replace HO_11 := A_ (Kd.N_below (Kd.N_elderB (nU HO_11.out) gb115 (Nat.le_of_eq hg.symm)) hb); replace HO_103001 := A_ (Kd.V_below (Kd.V_elderB (vU HO_103001.out) gb115 (Nat.le_of_eq hg.symm)) hb); replace BK101 := A_ (bkB BK101 hb); replace BK102 := A_ (bkB BK102 hb); replace BK108 := A_ (bkB BK108 hb); replace HB := A_ (below_step (bW3 HB.out GE101.out GE102.out GE108.out) hb); clear hb hbox hg
         refine hK.out _ _ ⟨(blk_cell BK102.out 0).trans rfl, (blk_cell BK102.out 1).trans rfl⟩ (fun hHeld => ?_)
         clear hK K
         refine norm_ (a' := ?_) ?_ ?_
         rotate_left
         ·show Act.put _ (some 15) _ = _
          simp only [Act.put, List.setIfInBounds_toArray, List.set_cons_zero, List.set_cons_succ, i64_w, i32_w]
          rfl
         refine one_ (i := 6) (N := some 67) (mkB 13 2559) rfl rfl (one_of HT_.out (by kernel_rfl)) (by decide) (fun K hK => ?_)
         refine Kd.R_lit_step (Kd.int .i64) _ 3 ?hg (N := 67) ?hd (xs := ([x27_2] : List Int)) (inner := [.int .i64 x27_2]) (ok := fun _ => True) (okp := fun _ => True) ?hr ?hp (fun _ hk => hk) trivial (Below.refl _ _) (Nat.le_refl _) (by simp) ?_; (case hd => rfl); (case hg => rfl); (case hr => first | (go_simp; done) | (go_simp; rfl)); (case hp => exact (Reps.one (show Kd.M (Kd.int .i64) _ _ _ x27_2 [.int .i64 x27_2] from rfl) (Reps.none _ _)))
         intro v110 w55 ho56 hb hg_ hnew_
         clear hg_ hnew_
         (first | rw [← Ny109.out] at ho56 | (simp only [Int.reduceToNat] at ho56; rw [← Ny109.out] at ho56))
         have n0_ := A_ (Kd.N_elder' (nU HO_11.out) (Kd.R_base ho56) hb); have n1_ := A_ (Kd.V_elder' (vU HO_103001.out) (Kd.R_base ho56) hb)
         have n2_ := A_ (Kd.R_lower (Kd.R_newM (M := fun k_ => (w.heap.size ≤ k_)) ho56 (below_size (bW4 HB.out GE101.out GE102.out GE108.out GE115.out)) (fun k_ h_ => h_)) (below_size (bW4 HB.out GE101.out GE102.out GE108.out GE115.out)))
         have n3_ := A_ (bkB BK101 hb); have n4_ := A_ (bkB BK102 hb); have n5_ := A_ (bkB BK108 hb); have n6_ := A_ (bkB BK115 hb); have n7_ := A_ (below_step (bW4 HB.out GE101.out GE102.out GE108.out GE115.out) hb); clear HO_11 HO_103001 BK101 BK102 BK108 BK115 HB; have HO_11 := n0_; have HO_103001 := n1_; have HO111 := n2_; have BK101 := n3_; have BK102 := n4_; have BK108 := n5_; have BK115 := n6_; have HB := n7_; clear n0_ n1_ n2_ n3_ n4_ n5_ n6_ n7_ hb ho56
         refine hK.out _ _ ⟨(blk_cell BK102.out 0).trans rfl, (blk_cell BK102.out 1).trans rfl⟩ (fun hHeld => ?_)
         clear hK K
         refine norm_ (a' := ?_) ?_ ?_
         rotate_left
         ·show Act.put _ (some 67) _ = _
          simp only [Act.put, List.setIfInBounds_toArray, List.set_cons_zero, List.set_cons_succ, i64_w, i32_w]
          rfl
         refine one_ (i := 9) (N := some 70) (mkB 13 3071) rfl rfl (one_of HT_.out (by kernel_rfl)) (by decide) (fun K hK => ?_)
         refine Kd.R_append_rows_step (Kd.int .i64) (w0 := w) w.heap.size (by rfl) (.tmp 67) (.tmp 69) 28 3 (.int .i64 0) 8 rfl Tryd.underlying28 info3 rfl (by decide) (by omega) v110 y109 l4_1 _ _ _ (fun k_ => (w.heap.size ≤ k_)) (fun _ => False) rfl rfl ?aO ?aR (fun _ _ h => h) (fun _ h => h.elim) ?aF ?aB ?aS ?aL ?_
         (case aR => repeat (first | exact (Kd.V_reads' HO_103001.out).2.2 | (with_reducible refine Kd.C_alloc ?_ _) | (with_reducible refine Kd.C_drewN ?_ _) | (with_reducible refine Kd.C_drew ?_)))
         (case aB => exact (bW4 HB.out GE101.out GE102.out GE108.out GE115.out))
         (case aF => exact (fun k_ hk => (Nat.le_trans (below_size (bW4 HB.out GE101.out GE102.out GE108.out GE115.out)) hk)))
         (case aO => exact (by (with_reducible repeat (first | apply Kd.R_alloc | apply Kd.R_drewN | apply Kd.R_drew)); exact Kd.R_mono HO111.out (fun _ hk => hk.1)))
         (case aS => exact (below_size (bW4 HB.out GE101.out GE102.out GE108.out GE115.out)))
         (case aL => have := LMc45.out; omega)
         intro v113 w57 ho hb hg hat
         rw [← Ny112.out] at ho
         have n0_ := A_ (Kd.N_afterv (ok := (fun k_ => (P4_1_ k_ ∨ w.heap.size ≤ k_) ∧ k_ ≠ gb101 ∧ k_ ≠ gb102 ∧ k_ ≠ gb108 ∧ k_ ≠ gb115)) (by (with_reducible repeat (first | apply Kd.N_alloc | apply Kd.N_drewN | apply Kd.N_drew)); exact Kd.N_mono HO_11.out (fun _ hk => ⟨⟨hk.1.1.1, ⟨hk.1.1.2.1, ⟨hk.1.1.2.2.1, ⟨hk.1.1.2.2.2, hk.1.2⟩⟩⟩⟩, hk.2⟩)) hg hat)
         have n1_ := A_ (Kd.V_afterv (ok := (fun k_ => (P4_1_ k_ ∨ w.heap.size ≤ k_) ∧ some k_ ≠ (u11 : Value).ownBlock ∧ k_ ≠ gb101 ∧ k_ ≠ gb102 ∧ k_ ≠ gb108 ∧ k_ ≠ gb115)) (by (with_reducible repeat (first | apply Kd.V_alloc | apply Kd.V_drewN | apply Kd.V_drew)); exact Kd.V_mono HO_103001.out (fun _ hk => ⟨⟨hk.1.1.1, ⟨hk.1.1.2.1, ⟨hk.1.1.2.2.1, ⟨hk.1.1.2.2.2.1, ⟨hk.1.1.2.2.2.2, hk.1.2⟩⟩⟩⟩⟩, hk.2⟩)) hg hat)
         have n2_ := A_ (blk_grown (g := gb101) (o := .cells #[.int .i64 a0_0, .slice (some ad107) l0_1.length c0_1, .slice A0_2 l0_2.length c0_2] 54 (0, 0)) (bkU BK101) hg (Kd.R_ne HO111.out BK101.out (by decide)))
         have n3_ := A_ (blk_grown (g := gb102) (o := .cells #[.int .i64 a4_0, .slice A4_1 l4_1.length c4_1] 67 (0, 0)) (bkU BK102) hg (Kd.R_ne HO111.out BK102.out (by decide)))
         have n4_ := A_ (blk_grown (g := gb108) (o := .cells #[.int .i64 ((rd_T47 l0_1 x27_2).f0), .int .i64 ((rd_T47 l0_1 x27_2).f1)] 47 (0, 0)) (bkU BK108) hg (Kd.R_ne HO111.out BK108.out (by decide)))
         have n5_ := A_ (blk_grown (g := gb115) (o := .cells #[.int .i64 0, .slice none 0 0] 67 (0, 0)) (bkU BK115) hg (Kd.R_ne HO111.out BK115.out (by decide)))
         have n6_ := A_ (hb); have n7_ := A_ (ho); clear HO_11 HO_103001 BK101 BK102 BK108 BK115 HB HO111; have HO_11 := n0_; have HO_103001 := n1_; have BK101 := n2_; have BK102 := n3_; have BK108 := n4_; have BK115 := n5_; have HB := n6_; have HO114 := n7_; clear n0_ n1_ n2_ n3_ n4_ n5_ n6_ n7_ ho hb hg hat; obtain ⟨Ao58, co58, eo58⟩ := Kd.R_slice HO114.out
         (first | subst eo58 | (injection eo58 with f1_ f2_ f3_; have f4_ := f1_.symm; have f5_ := f3_.symm; clear f1_ f2_ f3_; subst f4_; subst f5_))
         refine hK.out _ _ ⟨(blk_cell BK102.out 0).trans rfl, (blk_cell BK102.out 1).trans rfl⟩ (fun hHeld => ?_)
         clear hK K
         refine norm_ (a' := ?_) ?_ ?_
         rotate_left
         ·show Act.put _ (some 70) _ = _
          simp only [Act.put, List.setIfInBounds_toArray, List.set_cons_zero, List.set_cons_succ, i64_w, i32_w]
          rfl
         refine pr_ 10 (some 71) (mkB 13 4095) HT_ ?_
         exact norm_ (by simp only [putAll, Act.put, List.setIfInBounds_toArray, List.set_cons_zero, List.set_cons_succ]) (hCont (v110, .slice Ao58 y112.length co58, gb115) _ ⟨hHeld, (rU HO114.out), (by (with_reducible repeat (first | apply Kd.V_alloc | apply Kd.V_drewN | apply Kd.V_drew)); exact Kd.V_mono HO_103001.out (fun _ hk => ⟨hk.1.1, ⟨hk.2, ⟨hk.1.2.1, ⟨hk.1.2.2.1, ⟨hk.1.2.2.2.1, ⟨hk.1.2.2.2.2.1, hk.1.2.2.2.2.2⟩⟩⟩⟩⟩⟩)), (by (with_reducible repeat (first | apply Kd.N_alloc | apply Kd.N_drewN | apply Kd.N_drew)); exact Kd.N_mono HO_11.out (fun _ hk => ⟨hk.1.1, ⟨hk.2, ⟨hk.1.2.1, ⟨hk.1.2.2.1, ⟨hk.1.2.2.2.1, hk.1.2.2.2.2⟩⟩⟩⟩⟩)), (bkU BK101), (bkU BK102), (bkU BK108), (bkU BK115), GW115.out, GE115.out, NB101_115.out, NB115_101.out, NB102_115.out, NB115_102.out, NB108_115.out, NB115_108.out, (bW4 HB.out GE101.out GE102.out GE108.out GE115.out)⟩)
       rintro ⟨v110, v113, gb115⟩ w59 ⟨hS_, h0_, h1_, h2_, h3_, h4_, h5_, h6_, h7_, h8_, h9_, h10_, h11_, h12_, h13_, h14_, h15_⟩
       have n0_ : Aside0 (Kd.R (Kd.int .i64) 3 w59 w.heap.size (fun k_ => (w.heap.size ≤ k_)) v113 y112) := ⟨h0_⟩
       have n1_ : Aside0 (Kd.V (Kd.int .i64) 3 w59 w.heap.size (fun k_ => (P4_1_ k_ ∨ w.heap.size ≤ k_) ∧ some k_ ≠ (v113 : Value).ownBlock ∧ some k_ ≠ (u11 : Value).ownBlock ∧ k_ ≠ gb101 ∧ k_ ≠ gb102 ∧ k_ ≠ gb108 ∧ k_ ≠ gb115) (.slice A4_1 l4_1.length c4_1) l4_1) := ⟨h1_⟩
       have n2_ : Aside0 (Kd.N k67 67 w59 w.heap.size (fun k_ => (P4_1_ k_ ∨ w.heap.size ≤ k_) ∧ some k_ ≠ (v113 : Value).ownBlock ∧ k_ ≠ gb101 ∧ k_ ≠ gb102 ∧ k_ ≠ gb108 ∧ k_ ≠ gb115) u11 x11_2) := ⟨h2_⟩
       have n3_ : Aside0 (w59.heap[gb101]? = some (.cells #[.int .i64 a0_0, .slice (some ad107) l0_1.length c0_1, .slice A0_2 l0_2.length c0_2] 54 (0, 0))) := ⟨h3_⟩; have n4_ : Aside0 (w59.heap[gb102]? = some (.cells #[.int .i64 a4_0, .slice A4_1 l4_1.length c4_1] 67 (0, 0))) := ⟨h4_⟩; have n5_ : Aside0 (w59.heap[gb108]? = some (.cells #[.int .i64 ((rd_T47 l0_1 x27_2).f0), .int .i64 ((rd_T47 l0_1 x27_2).f1)] 47 (0, 0))) := ⟨h5_⟩; have n6_ : Aside0 (w59.heap[gb115]? = some (.cells #[.int .i64 0, .slice none 0 0] 67 (0, 0))) := ⟨h6_⟩; have n7_ : Aside0 (w.heap.size ≤ gb115) := ⟨h7_⟩; have n8_ : Aside0 (w.heap.size ≤ gb115) := ⟨h8_⟩; have n9_ : Aside0 (gb101 ≠ gb115) := ⟨h9_⟩; have n10_ : Aside0 (gb115 ≠ gb101) := ⟨h10_⟩; have n11_ : Aside0 (gb102 ≠ gb115) := ⟨h11_⟩; have n12_ : Aside0 (gb115 ≠ gb102) := ⟨h12_⟩; have n13_ : Aside0 (gb108 ≠ gb115) := ⟨h13_⟩; have n14_ : Aside0 (gb115 ≠ gb108) := ⟨h14_⟩; have n15_ : Aside0 (Below w.heap.size w w59) := ⟨h15_⟩; clear HO_11 HO_103001 BK101 BK102 BK108 HB h0_ h1_ h2_ h3_ h4_ h5_ h6_ h7_ h8_ h9_ h10_ h11_ h12_ h13_ h14_ h15_; have HO114 := n0_; have HO_103001 := n1_; have HO_11 := n2_; have BK101 := n3_; have BK102 := n4_; have BK108 := n5_; have BK115 := n6_; have GW115 := n7_; have GE115 := n8_; have NB101_115 := n9_; have NB115_101 := n10_; have NB102_115 := n11_; have NB115_102 := n12_; have NB108_115 := n13_; have NB115_108 := n14_; have HB := n15_; clear n0_ n1_ n2_ n3_ n4_ n5_ n6_ n7_ n8_ n9_ n10_ n11_ n12_ n13_ n14_ n15_; have hHeld : w59.cell? ⟨gb102, 0, none⟩ = some (.int .i64 a4_0) ∧ w59.cell? ⟨gb102, 1, none⟩ = some (.slice A4_1 l4_1.length c4_1) := hS_
       obtain ⟨Ao60, co60, eo60⟩ := Kd.R_slice HO114.out
       (first | subst eo60 | (injection eo60 with f1_ f2_ f3_; have f4_ := f1_.symm; have f5_ := f3_.symm; clear f1_ f2_ f3_; subst f4_; subst f5_))
       refine norm_ (a' := ?_) ?_ ?_
       rotate_left
       ·simp only [putAll, Act.put, List.setIfInBounds_toArray, List.set_cons_zero, List.set_cons_succ]
        rfl
       refine one_ (i := 12) (N := none) (mkB 13 8191) rfl rfl (one_of HT_.out (by kernel_rfl)) (by decide) (fun K hK => ?_)
       have hs61 : w59.cell? ⟨gb115, 0, none⟩ = some (.int .i64 0) := (blk_cell BK115.out 0).trans rfl; have hfs61 := blk_frozen BK115.out 0; have hns61_0 := NB101_115.out; have hns61_1 := NB102_115.out; have hns61_2 := NB108_115.out; have hms61_0 := NB115_101.out; have hms61_1 := NB115_102.out; have hms61_2 := NB115_108.out; have hs62 : w59.cell? ⟨gb115, 1, none⟩ = some (.slice none 0 0) := (blk_cell BK115.out 1).trans rfl; have hfs62 := blk_frozen BK115.out 1; have hns62_0 := NB101_115.out; have hns62_1 := NB102_115.out; have hns62_2 := NB108_115.out; have hms62_0 := NB115_101.out; have hms62_1 := NB115_102.out; have hms62_2 := NB115_108.out
       refine skip_ (w1 := ?_) (by rfl) rfl ?_ ?_
       rotate_left
       ·go_simp
        rfl
       refine hK.out _ _ ⟨((cell_far (p := ⟨gb115, _, none⟩) NB102_115.out _).trans (((cell_far (p := ⟨gb115, _, none⟩) NB102_115.out _).trans (hHeld.1)))), ((cell_far (p := ⟨gb115, _, none⟩) NB102_115.out _).trans (((cell_far (p := ⟨gb115, _, none⟩) NB102_115.out _).trans (hHeld.2))))⟩ (fun hHeld => ?_)
       clear hK K
       refine done_ (done_of HT_.out (by kernel_rfl)) ?_
       try go_wp2
       have n0_ : Aside0 (Kd.N k67 67 ((w59.setCell ⟨gb115, 0, none⟩ (.int .i64 (Go.bits .or .i64 a4_0 (ji44)))).setCell ⟨gb115, 1, none⟩ (.slice Ao60 y112.length co60)) w.heap.size (fun k_ => (P4_1_ k_ ∨ w.heap.size ≤ k_) ∧ some k_ ≠ (.slice Ao60 y112.length co60 : Value).ownBlock ∧ k_ ≠ gb101 ∧ k_ ≠ gb102 ∧ k_ ≠ gb108 ∧ k_ ≠ gb115) u11 x11_2) := ⟨by (with_reducible repeat (first | apply Kd.N_alloc | apply Kd.N_drewN | apply Kd.N_drew)); exact Kd.N_mono (Kd.N_far (p := ⟨gb115, 1, none⟩) (Kd.N_far (p := ⟨gb115, 0, none⟩) (Kd.N_mono HO_11.out (fun k_ hk => (⟨hk, hk.2.2.2.2.2⟩ : _ ∧ k_ ≠ gb115))) (fun _ hk => hk.2) (.int .i64 (Go.bits .or .i64 a4_0 (ji44)))) (fun _ hk => hk.2) (.slice Ao60 y112.length co60)) (fun _ hk => ⟨hk.1.1, ⟨hk.1.2.1, ⟨hk.1.2.2.1, ⟨hk.1.2.2.2.1, ⟨hk.1.2.2.2.2.1, hk.1.2.2.2.2.2⟩⟩⟩⟩⟩)⟩
       have n1_ : Aside0 (Kd.V (Kd.int .i64) 3 ((w59.setCell ⟨gb115, 0, none⟩ (.int .i64 (Go.bits .or .i64 a4_0 (ji44)))).setCell ⟨gb115, 1, none⟩ (.slice Ao60 y112.length co60)) w.heap.size (fun k_ => (P4_1_ k_ ∨ w.heap.size ≤ k_) ∧ some k_ ≠ (u11 : Value).ownBlock ∧ some k_ ≠ (.slice Ao60 y112.length co60 : Value).ownBlock ∧ k_ ≠ gb101 ∧ k_ ≠ gb102 ∧ k_ ≠ gb108 ∧ k_ ≠ gb115) (.slice A4_1 l4_1.length c4_1) l4_1) := ⟨by (with_reducible repeat (first | apply Kd.V_alloc | apply Kd.V_drewN | apply Kd.V_drew)); exact Kd.V_mono (Kd.V_far (p := ⟨gb115, 1, none⟩) (Kd.V_far (p := ⟨gb115, 0, none⟩) (Kd.V_mono HO_103001.out (fun k_ hk => (⟨hk, hk.2.2.2.2.2.2⟩ : _ ∧ k_ ≠ gb115))) (fun _ hk => hk.2) (.int .i64 (Go.bits .or .i64 a4_0 (ji44)))) (fun _ hk => hk.2) (.slice Ao60 y112.length co60)) (fun _ hk => ⟨hk.1.1, ⟨hk.1.2.2.1, ⟨hk.1.2.1, ⟨hk.1.2.2.2.1, ⟨hk.1.2.2.2.2.1, ⟨hk.1.2.2.2.2.2.1, hk.1.2.2.2.2.2.2⟩⟩⟩⟩⟩⟩)⟩
       have n2_ : Aside0 (Kd.R (Kd.int .i64) 3 ((w59.setCell ⟨gb115, 0, none⟩ (.int .i64 (Go.bits .or .i64 a4_0 (ji44)))).setCell ⟨gb115, 1, none⟩ (.slice Ao60 y112.length co60)) w.heap.size (fun k_ => (w.heap.size ≤ k_)) (.slice Ao60 y112.length co60) y112) := ⟨by (with_reducible repeat (first | apply Kd.R_alloc | apply Kd.R_drewN | apply Kd.R_drew)); exact Kd.R_mono (Kd.R_far (p := ⟨gb115, 1, none⟩) (Kd.R_far (p := ⟨gb115, 0, none⟩) (Kd.R_types HO114.out BK115.out (by decide)) (fun _ hk => hk.2) (.int .i64 (Go.bits .or .i64 a4_0 (ji44)))) (fun _ hk => hk.2) (.slice Ao60 y112.length co60)) (fun _ hk => hk.1)⟩
       have n3_ : Aside0 (((w59.setCell ⟨gb115, 0, none⟩ (.int .i64 (Go.bits .or .i64 a4_0 (ji44)))).setCell ⟨gb115, 1, none⟩ (.slice Ao60 y112.length co60)).heap[gb101]? = some (.cells #[.int .i64 a0_0, .slice (some ad107) l0_1.length c0_1, .slice A0_2 l0_2.length c0_2] 54 (0, 0))) := ⟨by refine bfW ?_ NB101_115.out; refine bfW ?_ NB101_115.out; exact bkU BK101⟩
       have n4_ : Aside0 (((w59.setCell ⟨gb115, 0, none⟩ (.int .i64 (Go.bits .or .i64 a4_0 (ji44)))).setCell ⟨gb115, 1, none⟩ (.slice Ao60 y112.length co60)).heap[gb102]? = some (.cells #[.int .i64 a4_0, .slice A4_1 l4_1.length c4_1] 67 (0, 0))) := ⟨by refine bfW ?_ NB102_115.out; refine bfW ?_ NB102_115.out; exact bkU BK102⟩
       have n5_ : Aside0 (((w59.setCell ⟨gb115, 0, none⟩ (.int .i64 (Go.bits .or .i64 a4_0 (ji44)))).setCell ⟨gb115, 1, none⟩ (.slice Ao60 y112.length co60)).heap[gb108]? = some (.cells #[.int .i64 ((rd_T47 l0_1 x27_2).f0), .int .i64 ((rd_T47 l0_1 x27_2).f1)] 47 (0, 0))) := ⟨by refine bfW ?_ NB108_115.out; refine bfW ?_ NB108_115.out; exact bkU BK108⟩
       have n6_ : Aside0 (((w59.setCell ⟨gb115, 0, none⟩ (.int .i64 (Go.bits .or .i64 a4_0 (ji44)))).setCell ⟨gb115, 1, none⟩ (.slice Ao60 y112.length co60)).heap[gb115]? = some (.cells #[.int .i64 (Go.bits .or .i64 a4_0 (ji44)), .slice Ao60 y112.length co60] 67 (0, 0))) := ⟨by (with_reducible repeat (first | refine blk_drewN ?_ _ | refine blk_drew ?_ | refine blk_alloc ?_ _)); refine blk_put (cs := #[.int .i64 (Go.bits .or .i64 a4_0 (ji44)), .slice none 0 0]) ?_ 1 _ rfl; (with_reducible repeat (first | refine blk_drewN ?_ _ | refine blk_drew ?_ | refine blk_alloc ?_ _)); refine blk_put (cs := #[.int .i64 0, .slice none 0 0]) ?_ 0 _ rfl; exact bkU BK115⟩
       have n7_ : Aside0 (Below w.heap.size w ((w59.setCell ⟨gb115, 0, none⟩ (.int .i64 (Go.bits .or .i64 a4_0 (ji44)))).setCell ⟨gb115, 1, none⟩ (.slice Ao60 y112.length co60))) := ⟨(bW4 HB.out GE101.out GE102.out GE108.out GE115.out)⟩
       (try clear HO_11)
       (try clear HO_103001)
       (try clear HO114)
       (try clear BK101)
       (try clear BK102)
       (try clear BK108)
       (try clear BK115)
       (try clear HB)
       generalize ((w59.setCell ⟨gb115, 0, none⟩ (.int .i64 (Go.bits .or .i64 a4_0 (ji44)))).setCell ⟨gb115, 1, none⟩ (.slice Ao60 y112.length co60)) = w63 at n0_ n1_ n2_ n3_ n4_ n5_ n6_ n7_ ⊢; have HO_11 := n0_; have HO_103001 := n1_; have HO114 := n2_; have BK101 := n3_; have BK102 := n4_; have BK108 := n5_; have BK115 := n6_; have HB := n7_; clear n0_ n1_ n2_ n3_ n4_ n5_ n6_ n7_; replace HO_11 := A_ (Kd.N_drew HO_11.out); replace HO_103001 := A_ (Kd.V_drew HO_103001.out); replace HO114 := A_ (Kd.R_drew HO114.out); replace BK101 := A_ (blk_drew BK101.out); replace BK102 := A_ (blk_drew BK102.out); replace BK108 := A_ (blk_drew BK108.out); replace BK115 := A_ (blk_drew BK115.out); replace HB := A_ (below_drew1 HB.out)
       refine start_ (n := 12) (S := fun w' => w'.cell? ⟨gb101, 0, none⟩ = some (.int .i64 a0_0) ∧ w'.cell? ⟨gb101, 1, none⟩ = some (.slice (some ad107) l0_1.length c0_1) ∧ w'.cell? ⟨gb101, 2, none⟩ = some (.slice A0_2 l0_2.length c0_2) ∧ w'.cell? ⟨gb115, 0, none⟩ = some (.int .i64 (Go.bits .or .i64 a4_0 (ji44))) ∧ w'.cell? ⟨gb115, 1, none⟩ = some (.slice Ao60 y112.length co60)) (ds := []) (mkB 12 0) (by kernel_rfl) rfl rfl ⟨(blk_cell BK101.out 0).trans rfl, (blk_cell BK101.out 1).trans rfl, (blk_cell BK101.out 2).trans rfl, (blk_cell BK115.out 0).trans rfl, (blk_cell BK115.out 1).trans rfl⟩ (fun hHeld => ?_); refine with_tabW feed_grid_paths.tab11 feed_grid_paths.bits11 (fun HT_ HW_ => ?_)
       generalize w63.drew = w64 at HO_11 HO_103001 HO114 BK101 BK102 BK108 BK115 HB hHeld ⊢; refine pr_ 0 (some 72) (mkB 12 1) HT_ ?_; refine pr_ 2 (some 74) (mkB 12 5) HT_ ?_; refine pr_ 3 (some 75) (mkB 12 13) HT_ ?_; refine pr_ 4 (some 76) (mkB 12 29) HT_ ?_; refine pr_ 5 (some 77) (mkB 12 61) HT_ ?_; refine pr_ 6 (some 78) (mkB 12 125) HT_ ?_; refine pr_ 7 (some 79) (mkB 12 253) HT_ ?_
       refine take_ (i := 1) (N := some 73) (v := ?_) (a' := ?_) (mkB 12 255) rfl rfl (take_ofW HT_.out HW_.out (by kernel_rfl)) (fun _ _ _ h => h) (Or.inl ⟨by rfl, ?_⟩) hHeld ?_ ?_
       rotate_left
       ·rintro w' ⟨s0, s1, s2, s3, s4⟩
        go_simp
        with_reducible rfl
       rotate_left
       ·simp only [Act.put, List.setIfInBounds_toArray, List.set_cons_zero, List.set_cons_succ, i64_w, i32_w]
        rfl
       refine take_ (i := 8) (N := some 80) (v := ?_) (a' := ?_) (mkB 12 511) rfl rfl (take_ofW HT_.out HW_.out (by kernel_rfl)) (fun _ _ _ h => h) (Or.inl ⟨by rfl, ?_⟩) hHeld ?_ ?_
       rotate_left
       ·rintro w' ⟨s0, s1, s2, s3, s4⟩
        go_simp
        with_reducible rfl
       rotate_left
       ·simp only [Act.put, List.setIfInBounds_toArray, List.set_cons_zero, List.set_cons_succ, i64_w, i32_w]
        rfl
       refine one_ (i := 9) (N := some 81) (mkB 12 1023) rfl rfl (one_of HT_.out (by kernel_rfl)) (by decide) (fun K hK => ?_)
       refine goes_ Tryd.func24 (by kernel_rfl) rfl #[.agg #[.int .i64 a0_0, .slice (some ad107) l0_1.length c0_1, .slice A0_2 l0_2.length c0_2], .int .i64 a1, .int .i64 ji39, .int .u64 (Go.bits .or .u64 a3 (ji47)), .agg #[.int .i64 (Go.bits .or .i64 a4_0 (ji44)), .slice Ao60 y112.length co60]] (by rfl) rfl rfl (by (try simp only [List.map_toArray, List.map_cons, List.map_nil]); first | done | (simp only [hji39, hji44, hji47]; rfl) | rfl | (simp only [List.length_drop, List.length_take]; rfl)) ?_
       with_reducible refine (ih kj22 (by have := HJ6.out; have := HK2.out; have := HJ22.out; omega) a0_0 _ _ l0_1 _ _ l0_2 a1 ji39 (Go.bits .or .u64 a3 (ji47)) (Go.bits .or .i64 a4_0 (ji44)) (fun k_ => some k_ = (.slice Ao60 y112.length co60 : Value).ownBlock) _ _ y112 t116 _ ?side1 ?side2 ?side3 ?side4 ?side5 A48.out).mono ?_
       (case side1 => exact cU (Kd.C_below HR0_1.out HB.out))
       (case side2 => exact HC0_1.out)
       (case side3 => exact cU (Kd.C_below HR0_2.out HB.out))
       (case side4 => exact HC0_2.out)
       (case side5 => exact Kd.R_V (Kd.R_tight rfl (Kd.R_types (Kd.R_types (Kd.R_types (Kd.R_types (Kd.R_apart' (HO114.out) (Kd.N_typed HO_11.out) (by decide)) BK101.out (by decide)) BK102.out (by decide)) BK108.out (by decide)) BK115.out (by decide))))
       rintro e w65 ⟨v117, rfl, ho0, hb⟩
       refine ⟨_, rfl, ?_⟩
       have n0_ := A_ (Kd.N_elder' (nU HO_11.out) (Kd.N_base ho0) hb); have n1_ := A_ (Kd.V_elder' (vU HO_103001.out) (Kd.N_base ho0) hb); have n2_ := A_ (Kd.R_below (rU HO114.out) hb)
       have n3_ := A_ (Kd.N_lower (Kd.N_mono (ok' := fun k_ => (P4_1_ k_ ∨ w.heap.size ≤ k_) ∧ some k_ ≠ (u11 : Value).ownBlock ∧ k_ ≠ gb101 ∧ k_ ≠ gb102 ∧ k_ ≠ gb108 ∧ k_ ≠ gb115) ho0 (fun k_ hk_ => ⟨Or.elim hk_ (fun hs_ => (.inr (((Kd.R_types (Kd.R_types (Kd.R_types (Kd.R_types (Kd.R_apart' (HO114.out) (Kd.N_typed HO_11.out) (by decide)) BK101.out (by decide)) BK102.out (by decide)) BK108.out (by decide)) BK115.out (by decide)).1 k_ hs_.symm).1.1.1.1.1))) (fun hn_ => (.inr (Nat.le_trans (below_size (bW4 HB.out GE101.out GE102.out GE108.out GE115.out)) hn_))), Or.elim hk_ (fun hs_ => ((Kd.R_types (Kd.R_types (Kd.R_types (Kd.R_types (Kd.R_apart' (HO114.out) (Kd.N_typed HO_11.out) (by decide)) BK101.out (by decide)) BK102.out (by decide)) BK108.out (by decide)) BK115.out (by decide)).1 k_ hs_.symm).1.1.1.1.2) (fun hn_ => (Kd.fresh' (Kd.N_lt (nU HO_11.out)) k_ hn_)), Or.elim hk_ (fun hs_ => ((Kd.R_types (Kd.R_types (Kd.R_types (Kd.R_types (Kd.R_apart' (HO114.out) (Kd.N_typed HO_11.out) (by decide)) BK101.out (by decide)) BK102.out (by decide)) BK108.out (by decide)) BK115.out (by decide)).1 k_ hs_.symm).1.1.1.2) (fun hn_ => (Kd.freshB (g := gb101) (o := .cells #[.int .i64 a0_0, .slice (some ad107) l0_1.length c0_1, .slice A0_2 l0_2.length c0_2] 54 (0, 0)) (bkU BK101) k_ hn_)), Or.elim hk_ (fun hs_ => ((Kd.R_types (Kd.R_types (Kd.R_types (Kd.R_types (Kd.R_apart' (HO114.out) (Kd.N_typed HO_11.out) (by decide)) BK101.out (by decide)) BK102.out (by decide)) BK108.out (by decide)) BK115.out (by decide)).1 k_ hs_.symm).1.1.2) (fun hn_ => (Kd.freshB (g := gb102) (o := .cells #[.int .i64 a4_0, .slice A4_1 l4_1.length c4_1] 67 (0, 0)) (bkU BK102) k_ hn_)), Or.elim hk_ (fun hs_ => ((Kd.R_types (Kd.R_types (Kd.R_types (Kd.R_types (Kd.R_apart' (HO114.out) (Kd.N_typed HO_11.out) (by decide)) BK101.out (by decide)) BK102.out (by decide)) BK108.out (by decide)) BK115.out (by decide)).1 k_ hs_.symm).1.2) (fun hn_ => (Kd.freshB (g := gb108) (o := .cells #[.int .i64 ((rd_T47 l0_1 x27_2).f0), .int .i64 ((rd_T47 l0_1 x27_2).f1)] 47 (0, 0)) (bkU BK108) k_ hn_)), Or.elim hk_ (fun hs_ => ((Kd.R_types (Kd.R_types (Kd.R_types (Kd.R_types (Kd.R_apart' (HO114.out) (Kd.N_typed HO_11.out) (by decide)) BK101.out (by decide)) BK102.out (by decide)) BK108.out (by decide)) BK115.out (by decide)).1 k_ hs_.symm).2) (fun hn_ => (Kd.freshB (g := gb115) (o := .cells #[.int .i64 (Go.bits .or .i64 a4_0 (ji44)), .slice Ao60 y112.length co60] 67 (0, 0)) (bkU BK115) k_ hn_))⟩)) (below_size (bW4 HB.out GE101.out GE102.out GE108.out GE115.out)))
       have n4_ := A_ (bkB BK101 hb); have n5_ := A_ (bkB BK102 hb); have n6_ := A_ (bkB BK108 hb); have n7_ := A_ (bkB BK115 hb); have n8_ := A_ (below_step (bW4 HB.out GE101.out GE102.out GE108.out GE115.out) hb); clear HO_11 HO_103001 HO114 BK101 BK102 BK108 BK115 HB; have HO_11 := n0_; have HO_103001 := n1_; have HO114 := n2_; have HO118 := n3_; have BK101 := n4_; have BK102 := n5_; have BK108 := n6_; have BK115 := n7_; have HB := n8_; clear n0_ n1_ n2_ n3_ n4_ n5_ n6_ n7_ n8_
       (try clear hb)
       (try clear hb2)
       (try clear hk)
       (try clear hi)
       (try clear ho0)
       obtain ⟨Ao67, co67, eo67⟩ := Kd.N_slice HO118.out
       (first | subst eo67 | (injection eo67 with f1_ f2_ f3_; have f4_ := f1_.symm; have f5_ := f3_.symm; clear f1_ f2_ f3_; subst f4_; subst f5_))
       refine hK.out _ _ ⟨(blk_cell BK101.out 0).trans rfl, (blk_cell BK101.out 1).trans rfl, (blk_cell BK101.out 2).trans rfl, (blk_cell BK115.out 0).trans rfl, (blk_cell BK115.out 1).trans rfl⟩ (fun hHeld => ?_)
       clear hK K
       refine norm_ (a' := ?_) ?_ ?_
       rotate_left
       ·show Act.put _ (some 81) _ = _
        simp only [Act.put, List.setIfInBounds_toArray, List.set_cons_zero, List.set_cons_succ, i64_w, i32_w]
        rfl
       refine one_ (i := 10) (N := some 82) (mkB 12 2047) rfl rfl (one_of HT_.out (by kernel_rfl)) (by decide) (fun K hK => ?_)
       refine Kd.N_append_rows_step k67 (w0 := w) w.heap.size (by rfl) (.tmp 72) (.tmp 81) 64 67 (.agg #[(.int .i64 0), (.slice none 0 0)]) 32 rfl Tryd.underlying64 info67 rfl (by decide) (by omega) u11 x11_2 t116 _ _ _ (fun k_ => (P4_1_ k_ ∨ w.heap.size ≤ k_) ∧ k_ ≠ gb101 ∧ k_ ≠ gb102 ∧ k_ ≠ gb108 ∧ k_ ≠ gb115) (fun k_ => ((fun k_ => (P4_1_ k_ ∨ w.heap.size ≤ k_) ∧ k_ ≠ gb101 ∧ k_ ≠ gb102 ∧ k_ ≠ gb108 ∧ k_ ≠ gb115)) k_ ∧ some k_ ≠ (u11 : Value).ownBlock) rfl rfl ?aO ?aR (fun _ hk => hk) ?aF ?aB ?aS ?aL ?_
       (case aR => exact (by skip; exact Kd.N_F (Kd.N_mono (ok' := (fun k_ => ((fun k_ => (P4_1_ k_ ∨ w.heap.size ≤ k_) ∧ k_ ≠ gb101 ∧ k_ ≠ gb102 ∧ k_ ≠ gb108 ∧ k_ ≠ gb115)) k_ ∧ some k_ ≠ (u11 : Value).ownBlock)) (HO118.out) (fun k_ hk => ⟨⟨hk.1, ⟨hk.2.2.1, ⟨hk.2.2.2.1, ⟨hk.2.2.2.2.1, hk.2.2.2.2.2⟩⟩⟩⟩, hk.2.1⟩))))
       (case aB => exact (bW4 HB.out GE101.out GE102.out GE108.out GE115.out))
       (case aF => exact (fun k_ hk => ⟨(.inr (Nat.le_trans (below_size (bW4 HB.out GE101.out GE102.out GE108.out GE115.out)) hk)), Kd.freshB (g := gb101) (o := .cells #[.int .i64 a0_0, .slice (some ad107) l0_1.length c0_1, .slice A0_2 l0_2.length c0_2] 54 (0, 0)) (bkU BK101) k_ hk, Kd.freshB (g := gb102) (o := .cells #[.int .i64 a4_0, .slice A4_1 l4_1.length c4_1] 67 (0, 0)) (bkU BK102) k_ hk, Kd.freshB (g := gb108) (o := .cells #[.int .i64 ((rd_T47 l0_1 x27_2).f0), .int .i64 ((rd_T47 l0_1 x27_2).f1)] 47 (0, 0)) (bkU BK108) k_ hk, Kd.freshB (g := gb115) (o := .cells #[.int .i64 (Go.bits .or .i64 a4_0 (ji44)), .slice Ao60 y112.length co60] 67 (0, 0)) (bkU BK115) k_ hk⟩))
       (case aO => exact (by (with_reducible repeat (first | apply Kd.N_alloc | apply Kd.N_drewN | apply Kd.N_drew)); exact Kd.N_mono HO_11.out (fun _ hk => ⟨hk.1.1, ⟨hk.1.2.2.1, ⟨hk.1.2.2.2.1, ⟨hk.1.2.2.2.2.1, hk.1.2.2.2.2.2⟩⟩⟩⟩)))
       (case aS => exact (below_size (bW4 HB.out GE101.out GE102.out GE108.out GE115.out)))
       (case aL => have := LMc49.out; omega)
       intro v120 w66 ho hb hg hat
       rw [← Ny119.out] at ho
       have n0_ := A_ (Kd.V_afterv (ok := (fun k_ => (P4_1_ k_ ∨ w.heap.size ≤ k_) ∧ some k_ ≠ (.slice Ao60 y112.length co60 : Value).ownBlock ∧ some k_ ≠ (.slice Ao67 t116.length co67 : Value).ownBlock ∧ k_ ≠ gb101 ∧ k_ ≠ gb102 ∧ k_ ≠ gb108 ∧ k_ ≠ gb115)) (by (with_reducible repeat (first | apply Kd.V_alloc | apply Kd.V_drewN | apply Kd.V_drew)); exact Kd.V_mono HO_103001.out (fun _ hk => ⟨⟨hk.1.1, ⟨hk.1.2.2.1, ⟨hk.2, ⟨hk.1.2.2.2.1, ⟨hk.1.2.2.2.2.1, ⟨hk.1.2.2.2.2.2.1, hk.1.2.2.2.2.2.2⟩⟩⟩⟩⟩⟩, hk.1.2.1⟩)) hg hat)
       have n1_ := A_ (blk_grown (g := gb101) (o := .cells #[.int .i64 a0_0, .slice (some ad107) l0_1.length c0_1, .slice A0_2 l0_2.length c0_2] 54 (0, 0)) (bkU BK101) hg (Kd.N_ne HO_11.out BK101.out (by decide)))
       have n2_ := A_ (blk_grown (g := gb102) (o := .cells #[.int .i64 a4_0, .slice A4_1 l4_1.length c4_1] 67 (0, 0)) (bkU BK102) hg (Kd.N_away HO_11.out (fun _ hk => hk.1.2.2.2.1)))
       have n3_ := A_ (blk_grown (g := gb108) (o := .cells #[.int .i64 ((rd_T47 l0_1 x27_2).f0), .int .i64 ((rd_T47 l0_1 x27_2).f1)] 47 (0, 0)) (bkU BK108) hg (Kd.N_ne HO_11.out BK108.out (by decide)))
       have n4_ := A_ (Kd.R_over' (rU HO114.out) (Kd.N_typed (nU HO_11.out)) (by decide) hg)
       have n5_ := A_ (blk_grown (g := gb115) (o := .cells #[.int .i64 (Go.bits .or .i64 a4_0 (ji44)), .slice Ao60 y112.length co60] 67 (0, 0)) (bkU BK115) hg (Kd.N_away HO_11.out (fun _ hk => hk.1.2.2.2.2.2)))
       have n6_ := A_ (Kd.N_afterv (ok := (fun k_ => (P4_1_ k_ ∨ w.heap.size ≤ k_) ∧ k_ ≠ gb101 ∧ k_ ≠ gb102 ∧ k_ ≠ gb108 ∧ k_ ≠ gb115)) (by (with_reducible repeat (first | apply Kd.N_alloc | apply Kd.N_drewN | apply Kd.N_drew)); exact Kd.N_mono HO118.out (fun _ hk => ⟨⟨hk.1, ⟨hk.2.2.1, ⟨hk.2.2.2.1, ⟨hk.2.2.2.2.1, hk.2.2.2.2.2⟩⟩⟩⟩, hk.2.1⟩)) hg hat)
       have n7_ := A_ (hb); have n8_ := A_ (ho); clear HO_103001 BK101 BK102 BK108 HO114 BK115 HO118 HB HO_11; have HO_103001 := n0_; have BK101 := n1_; have BK102 := n2_; have BK108 := n3_; have HO114 := n4_; have BK115 := n5_; have HO118 := n6_; have HB := n7_; have HO121 := n8_; clear n0_ n1_ n2_ n3_ n4_ n5_ n6_ n7_ n8_ ho hb hg hat
       refine hK.out _ _ ⟨(blk_cell BK101.out 0).trans rfl, (blk_cell BK101.out 1).trans rfl, (blk_cell BK101.out 2).trans rfl, (blk_cell BK115.out 0).trans rfl, (blk_cell BK115.out 1).trans rfl⟩ (fun hHeld => ?_)
       clear hK K
       refine norm_ (a' := ?_) ?_ ?_
       rotate_left
       ·show Act.put _ (some 82) _ = _
        simp only [Act.put, List.setIfInBounds_toArray, List.set_cons_zero, List.set_cons_succ, i64_w, i32_w]
        rfl
       refine pr_ 11 (some 11) (mkB 12 4095) HT_ ?_
       refine done_ (done_of HT_.out (by kernel_rfl)) ?_
       try go_wp2
       go_roundg kj22
       case measure => have := HJ6.out; have := HK2.out; have := HJ22.out; omega
       case rel => exact ⟨(y119), (wrap64 (x27_2 + 1)), eS, H', ⟨by have := HJ6.out; have := HK2.out; have := HJ22.out; omega⟩, ⟨by (with_reducible repeat (first | apply Kd.N_alloc | apply Kd.N_drewN | apply Kd.N_drew)); exact Kd.N_mono HO121.out (fun _ hk => ⟨hk.1, ⟨hk.2.1, hk.2.2.1⟩⟩)⟩, ⟨by (with_reducible repeat (first | apply Kd.V_alloc | apply Kd.V_drewN | apply Kd.V_drew)); exact Kd.V_mono HO_103001.out (fun _ hk => ⟨hk.1.1, ⟨hk.2, ⟨hk.1.2.2.2.1, hk.1.2.2.2.2.1⟩⟩⟩)⟩, ⟨bkU BK101⟩, ⟨bkU BK102⟩, ⟨(bW4 HB.out GE101.out GE102.out GE108.out GE115.out)⟩⟩
end Go.Proofs.YtbbjonbnmoomlaaDoor.G
end
