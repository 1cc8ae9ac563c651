/- Functions of the seat and plain laws about them: GF47. -/
import Derived.Test.YtbbjonbnmoomlaaDoorGBase
import Derived.Test.YtbbjonbnmoomlaaDoorZI11
section
namespace Go.Proofs.YtbbjonbnmoomlaaDoor.G
open Go.RowKit Go.Proofs.YtbbjonbnmoomlaaDoorW.PrintWords Go.Proofs.YtbbjonbnmoomlaaDoorW.PrintLast Go.Proofs.YtbbjonbnmoomlaaDoorW.PrintMore
attribute [local go_sem] max2_int min2_int max_two min_two max_three min_three max_four min_four
set_option linter.unusedVariables false
set_option linter.unusedSimpArgs false
mutual
def dropperref05_leads.l0 : Nat → Int → Int → List Int → List Bool → Int → Int → Int → List (S47) → List (S49) → Option (Bool)
 | 0, _, _, _, _, _, _, _, _, _ => none
 | k + 1, x1, x3, x4, x11, x12, x13, x102000, x102001, x102002 => if x13 < (x4.length : Int) then (if 0 ≤ x13 then (if (rd x4 x13) < 0 then (dropperref05_leads.j1 k x1 x3 x4 x11 x12 x13 true x102000 x102001 x102002) else (if (rd x4 x13) ≥ (x102001.length : Int) then (dropperref05_leads.j1 k x1 x3 x4 x11 x12 x13 true x102000 x102001 x102002) else ((dropperref05_closed.f x1 (rd x4 x13)).bind fun t109 => (dropperref05_leads.j1 k x1 x3 x4 x11 x12 x13 (!t109) x102000 x102001 x102002)))) else (none)) else (some (x12 == x3))
def dropperref05_leads.j1 : Nat → Int → Int → List Int → List Bool → Int → Int → Bool → Int → List (S47) → List (S49) → Option (Bool)
 | 0, _, _, _, _, _, _, _, _, _, _ => none
 | k + 1, x1, x3, x4, x11, x12, x13, x52, x102000, x102001, x102002 => if x52 = true then (some false) else (if 0 ≤ x13 then (if x13 < (x4.length : Int) then (if 0 ≤ (rd x4 x13) then (if (rd x4 x13) < (x102001.length : Int) then (if x12 = ((rd_T47 x102001 (rd x4 x13)).f0) then (if 0 ≤ ((rd_T47 x102001 (rd x4 x13)).f1) then (if ((rd_T47 x102001 (rd x4 x13)).f1) < (x11.length : Int) then (if rdOf false x11 ((rd_T47 x102001 (rd x4 x13)).f1) = true then (some false) else (dropperref05_leads.l0 k x1 x3 x4 (x11.set (((rd_T47 x102001 (rd x4 x13)).f1) : Int).toNat true) ((rd_T47 x102001 (rd x4 x13)).f1) (wrap64 (x13 + 1)) x102000 x102001 x102002)) else (none)) else (none)) else (if x12 = ((rd_T47 x102001 (rd x4 x13)).f1) then (if 0 ≤ ((rd_T47 x102001 (rd x4 x13)).f0) then (if ((rd_T47 x102001 (rd x4 x13)).f0) < (x11.length : Int) then (if rdOf false x11 ((rd_T47 x102001 (rd x4 x13)).f0) = true then (some false) else (dropperref05_leads.l0 k x1 x3 x4 (x11.set (((rd_T47 x102001 (rd x4 x13)).f0) : Int).toNat true) ((rd_T47 x102001 (rd x4 x13)).f0) (wrap64 (x13 + 1)) x102000 x102001 x102002)) else (none)) else (none)) else (some false))) else (none)) else (none)) else (none)) else (none))
end
def dropperref05_leads.f (k : Nat) (a0_0 : Int) (l0_1 : List (S47)) (l0_2 : List (S49)) (a1 : Int) (a2 : Int) (a3 : Int) (l4 : List Int) : Option (Bool) := if 0 ≤ a0_0 then (if (a0_0 : Int).toNat ≤ 281474976710656 then ((some (List.replicate (a0_0 : Int).toNat false : List Bool)).bind fun y102 => (if 0 ≤ a2 then (if a2 < (y102.length : Int) then (dropperref05_leads.l0 k a1 a3 l4 (y102.set (a2 : Int).toNat true) a2 0 a0_0 l0_1 l0_2) else (none)) else (none))) else (none)) else (none)
def dropperref05_leads.T7 : Bool × List (List Nat × List Nat) := (true, [([], []), ([], []), ([0, 1], [0, 1]), ([2], [2]), ([3], [3]), ([4], [4]), ([5], [5]), ([5], [5]), ([6, 7, 5], [5, 6, 7]), ([8, 5], [5, 8]), ([5], [5]), ([10, 5], [5, 10]), ([11, 5], [5, 11]), ([9, 12, 5], [5, 9, 12]), ([5, 13], [5, 13]), ([14, 5], [14]), ([15], [15]), ([15], [15]), ([15], [15]), ([17, 18, 15], [15, 17, 18]), ([19, 15], [15, 19]), ([16, 20, 15, 15], [15, 16, 20]), ([21, 15], [15, 21]), ([15, 22], [15, 22])])
def dropperref05_leads.B7 : List Nat := [0, 0, 3, 7, 15, 31, 63, 63, 255, 511, 63, 1087, 3135, 8191, 16383, 32767, 65535, 65535, 65535, 458751, 983039, 2097151, 4194303, 8388607]
theorem dropperref05_leads.tab7 : rtab .any (opsOf Tryd.f47 7) = dropperref05_leads.T7 := by kernel_rfl
theorem dropperref05_leads.bits7 : waitsOk dropperref05_leads.T7.2 dropperref05_leads.B7 = true := by kernel_rfl
def dropperref05_leads.T9 : Bool × List (List Nat × List Nat) := (true, [([], []), ([0], [0]), ([], []), ([], []), ([2, 3], [2, 3]), ([4], [4]), ([1, 5], [1, 5]), ([6], [6]), ([], []), ([8, 7, 0, 1, 2, 3, 4, 5, 6, 7, 8], [7, 8])])
def dropperref05_leads.B9 : List Nat := [0, 1, 0, 0, 12, 28, 63, 127, 0, 511]
theorem dropperref05_leads.tab9 : rtab .any (opsOf Tryd.f47 9) = dropperref05_leads.T9 := by kernel_rfl
theorem dropperref05_leads.bits9 : waitsOk dropperref05_leads.T9.2 dropperref05_leads.B9 = true := by kernel_rfl
set_option maxHeartbeats 8000000 in
set_option maxRecDepth 100000 in
theorem dropperref05_leads.calls (k : Nat) (a0_0 : Int) (A0_1 : Option Addr) (c0_1 : Nat) (l0_1 : List (S47)) (A0_2 : Option Addr) (c0_2 : Nat) (l0_2 : List (S49)) (a1 : Int) (a2 : Int) (a3 : Int) (A4 : Option Addr) (c4 : Nat) (l4 : List Int) (r : Bool) (w : World) (hr0_1 : Kd.C k47 w A0_1 l0_1.length l0_1) (hc0_1 : l0_1.length ≤ c0_1) (hr0_2 : Kd.C k49 w A0_2 l0_2.length l0_2) (hc0_2 : l0_2.length ≤ c0_2) (hr4 : Kd.C (Kd.int .i64) w A4 l4.length l4) (hc4 : l4.length ≤ c4) (h : dropperref05_leads.f k a0_0 l0_1 l0_2 a1 a2 a3 l4 = some r) :
  Calls Tryd.prog 47 #[.agg #[.int .i64 a0_0, .slice A0_1 l0_1.length c0_1, .slice A0_2 l0_2.length c0_2], .int .i64 a1, .int .i64 a2, .int .i64 a3, .slice A4 l4.length c4] w fun e w' => e = .returned (.bool r) ∧ Below w.heap.size w w' := by
 have hu25 := Tryd.underlying25; have hu47 := Tryd.underlying47; have HR0_1 := A_ hr0_1; have HC0_1 := A_ hc0_1; clear hr0_1 hc0_1; have HR0_2 := A_ hr0_2; have HC0_2 := A_ hc0_2; clear hr0_2 hc0_2; have HR4 := A_ hr4; have HC4 := A_ hc4; clear hr4 hc4; have HB := A_ (Below.refl w.heap.size w)
 have H : (if 0 ≤ a0_0 then (if (a0_0 : Int).toNat ≤ 281474976710656 then ((some (List.replicate (a0_0 : Int).toNat false : List Bool)).bind fun y102 => (if 0 ≤ a2 then (if a2 < (y102.length : Int) then (dropperref05_leads.l0 k a1 a3 l4 (y102.set (a2 : Int).toNat true) a2 0 a0_0 l0_1 l0_2) else (none)) else (none))) else (none)) else (none)) = some r := h
 clear h; by_cases c6 : 0 ≤ a0_0; rotate_left
 ·rw [if_neg c6] at H
  exact absurd H (by simp)
 rw [if_pos c6] at H; have c6b0 := eq_true c6; have c6b1 : decide (0 ≤ a0_0) = true := decide_eq_true c6; clear c6; by_cases c7 : (a0_0 : Int).toNat ≤ 281474976710656; rotate_left
 ·rw [if_neg c7] at H
  exact absurd H (by simp)
 rw [if_pos c7] at H; have c7b0 := eq_true c7; have c7b1 : decide ((a0_0 : Int).toNat ≤ 281474976710656) = true := decide_eq_true c7; clear c7; obtain ⟨y102, hy102⟩ : ∃ y_ : List Bool, y_ = (List.replicate (a0_0 : Int).toNat false) := ⟨_, rfl⟩
 replace H : (if 0 ≤ a2 then (if a2 < (y102.length : Int) then (dropperref05_leads.l0 k a1 a3 l4 (y102.set (a2 : Int).toNat true) a2 0 a0_0 l0_1 l0_2) else (none)) else (none)) = some r := by first | (rw [hy102]; with_reducible exact H) | (have H2_ := (Option.bind_some _ _).symm.trans H; rw [hy102]; with_reducible exact H2_) | (have H2_ := (Option.bind_some _ _).symm.trans H; with_reducible exact H2_) | with_reducible exact H | (rw [hy102]; exact H) | exact H
 have Ny102 := A_ hy102; clear hy102; by_cases c8 : 0 ≤ a2; rotate_left
 ·rw [if_neg c8] at H
  exact absurd H (by simp)
 rw [if_pos c8] at H; have c8b0 : decide (0 ≤ a2) = true := decide_eq_true c8; clear c8; by_cases c9 : a2 < (y102.length : Int); rotate_left
 ·rw [if_neg c9] at H
  exact absurd H (by simp)
 rw [if_pos c9] at H; have c9b0 : decide (a2 < (y102.length : Int)) = true := decide_eq_true c9; clear c9; obtain ⟨y105, hy105⟩ : ∃ y_ : List Bool, y_ = (y102.set (a2 : Int).toNat true) := ⟨_, rfl⟩
 replace H : (dropperref05_leads.l0 k a1 a3 l4 y105 a2 0 a0_0 l0_1 l0_2) = some r := by first | (rw [hy105]; with_reducible exact H) | (have H2_ := (Option.bind_some _ _).symm.trans H; rw [hy105]; with_reducible exact H2_) | (have H2_ := (Option.bind_some _ _).symm.trans H; with_reducible exact H2_) | with_reducible exact H | (rw [hy105]; exact H) | exact H
 have Ny105 := A_ hy105; clear hy105; have H' := A_ H; clear H
 go_enter Tryd.func47, Tryd.ntmps47
 go_wp2_with (first | ((with_reducible refine gate_dst (N := 5) rfl ?_); (try (refine gate_guard (by rfl) ?_; dsimp only)); refine bxW 5 (cs := #[.int .i64 a0_0, .slice A0_1 l0_1.length c0_1, .slice A0_2 l0_2.length c0_2]) (t := 25) ?_; intro gb101 hg w11 hbox hb; have BK101 := A_ (hbox); have GW101 := A_ ((szG hg (bW0 HB.out))); have GE101 := A_ ((szG hg (bW0 HB.out))); replace HB := A_ (below_step (bW0 HB.out) hb); clear hb hbox hg; have hcz12_0 : w11.cell? ⟨gb101, 0, none⟩ = some (.int .i64 a0_0) := (blk_cell BK101.out 0).trans rfl; have hcz12_1 : w11.cell? ⟨gb101, 1, none⟩ = some (.slice A0_1 l0_1.length c0_1) := (blk_cell BK101.out 1).trans rfl; have hcz12_2 : w11.cell? ⟨gb101, 2, none⟩ = some (.slice A0_2 l0_2.length c0_2) := (blk_cell BK101.out 2).trans rfl; have hfz12_0 := blk_frozen BK101.out 0; have hfz12_1 := blk_frozen BK101.out 1; have hfz12_2 := blk_frozen BK101.out 2) | ((with_reducible refine gate_dst (N := 18) rfl ?_); (try (refine gate_guard (by rfl) ?_; dsimp only)); refine Kd.R_make Kd.bool _ 4 rfl (N := 18) rfl 73 _ _ rfl a0_0 rfl rfl Tryd.underlying73 (.bool false) 1 info4 rfl (by decide) (by omega) false (ok := fun _ => True) (okp := fun _ => True) rfl (fun _ hk => hk) trivial (oD) (Nat.le_trans (Nat.mul_le_mul_right _ (oD : a0_0.toNat ≤ 281474976710656)) (by omega)) (Below.refl _ _) (Nat.le_refl _) ?_; intro v103 w13 ho14 hb hg_ hnew_; clear hg_ hnew_; (first | rw [← Ny102.out] at ho14 | (simp only [Int.reduceToNat] at ho14; rw [← Ny102.out] at ho14)); have HO104 := A_ (Kd.R_lower ho14 (below_size (bW1 HB.out GE101.out))); replace BK101 := A_ (bkB BK101 hb); replace HB := A_ (below_step (bW1 HB.out GE101.out) hb); clear hb ho14; have p10 : 0 ≤ (a2 : Int) := oD; have q10 : (a2 : Int) < ((y102.length : Int) : Int) := oD; obtain ⟨go10, co10, eo10, gb10, gl10, cl10, HG10⟩ := Kd.R_form HO104.out (by omega); (first | cases eo10 | (injection eo10 with ea_ en_ ec_; (first | subst ea_ | (injection ea_ with ea_; subst ea_)); subst ec_; clear en_)); have GB10 := A_ gb10; have GG10 := A_ HG10; clear gb10 gl10 HG10; obtain ⟨hx10_0, hf10_0⟩ := Kd.R_celln false HO104.out (a2 : Int) p10 q10; replace p10 := eq_true p10; replace q10 := eq_true q10; obtain ⟨hy15_, hz15_⟩ := Kd.R_celln false HO104.out (a2 : Int) (oD) (oD); have HP15 := Kd.R_putg HO104.out (a2 : Int) true) | ((with_reducible refine gate_store (t := 4) (p := 21) rfl ?_); refine store_event (t := 4) (p := 21) (v := ?vo_w16) (w1 := (w13.setCell ⟨go10, (a2 : Int).toNat, none⟩ (.bool true))) ?hg ?ho ?hn ?hr ?_; (case ho => rfl); (case hg => rfl); (case hn => rfl); (case hr => first | (go_simp; done) | (go_simp; rfl)); intro w16 hw; have hg : w13.grownBy w16 (some go10) := (by rw [hw]; exact HP15.2); have hp_ : Kd.R Kd.bool 4 w16 w.heap.size (fun _ => True) (.slice (some ⟨go10, 0, none⟩) y102.length co10) y105 := (by rw [hw, Ny105.out]; exact HP15.1); clear HP15; have n0_ := A_ (blk_grown (g := gb101) (o := .cells #[.int .i64 a0_0, .slice A0_1 l0_1.length c0_1, .slice A0_2 l0_2.length c0_2] 25 (0, 0)) (bkU BK101) hg (Kd.R_ne HO104.out BK101.out (by decide))); have n1_ := A_ (hp_); have n2_ := A_ ((by rw [hw]; exact below_set (HB.out) GB10.out : Below w.heap.size w w16)); clear BK101; clear HO104; clear HB; have BK101 := n0_; have HO104 := n1_; have HB := n2_; clear n0_ n1_ n2_; clear hg hw hp_))
 go_loopg [12, 13] k (fun kq v12 v13 w' => ∃ (x11_1 : List Bool) (x12_1 : Int) (x13_1 : Int), v12 = .int .i64 x12_1 ∧ v13 = .int .i64 x13_1 ∧ Aside0 (dropperref05_leads.l0 kq a1 a3 l4 x11_1 x12_1 x13_1 a0_0 l0_1 l0_2 = some r) ∧ Aside0 (kq ≤ k) ∧ Aside0 (Kd.R Kd.bool 4 w' w.heap.size (fun _ => True) (.slice (some ⟨go10, 0, none⟩) y102.length co10) x11_1) ∧ Aside0 (w'.heap[gb101]? = some (.cells #[.int .i64 a0_0, (.slice A0_1 l0_1.length c0_1), (.slice A0_2 l0_2.length c0_2)] 25 (0, 0))) ∧ Aside0 (Below w.heap.size w w'))
 case atStart => exact ⟨(y105), (a2), (0), eS, eS, H', ⟨Nat.le_refl _⟩, ⟨rU HO104.out⟩, ⟨bkU BK101⟩, ⟨(bW1 HB.out GE101.out)⟩⟩
 case round =>
  clear H'
  try clear p1; try clear q1; try clear hx1; try clear p2; try clear c4; try clear c6; try clear c6b0; try clear c6b1; try clear c7; try clear c7b0; try clear c7b1; try clear c8; try clear c8b0; try clear c9; try clear c9b0; try clear p10; try clear q10; try clear hx10; try clear hf10; try clear hcz12_0; try clear hcz12_1; try clear hcz12_2; try clear hfz12_0; try clear hfz12_1; try clear hfz12_2; try clear hx10_0; try clear p10; try clear q10
  obtain ⟨x11_1, x12_1, x13_1, rfl, rfl, HA, HK1, HO_11, BK101, HB⟩ := hrel; have hl11_1 := (Kd.R_reads' HO_11.out).1; rw [hl11_1] at HO_11
  (try simp only [hl11_1])
  (try simp only [hl11_1] at BK101)
  cases gk with
  | zero => exact absurd HA.out (by simp [dropperref05_leads.l0])
  | succ k1 =>
   have H := HA.out; clear HA; simp only [dropperref05_leads.l0] at H; by_cases c17 : x13_1 < (l4.length : Int); rotate_left
   ·rw [if_neg c17] at H
    have c17b0 : decide (x13_1 < (l4.length : Int)) = false := decide_eq_false c17
    (try (have c17b0h := c17b0; simp only [hl11_1] at c17b0h))
    clear c17; obtain rfl := Option.some.inj H
    go_wp2
    go_ret
    exact ⟨eQ, (bW1 HB.out GE101.out)⟩
   rw [if_pos c17] at H; have c17b0 : decide (x13_1 < (l4.length : Int)) = true := decide_eq_true c17
   (try (have c17b0h := c17b0; simp only [hl11_1] at c17b0h))
   clear c17; have HC18 := A_ H; clear H
   go_upto_region 7 with (fail)
   go_cut [52] (fun v52 wc => ∃ (kq : Nat) (x52_17 : Bool), v52 = .bool x52_17 ∧ Aside0 (dropperref05_leads.j1 kq a1 a3 l4 x11_1 x12_1 x13_1 x52_17 a0_0 l0_1 l0_2 = some r) ∧ Aside0 (kq ≤ k1) ∧ Aside0 (Kd.R Kd.bool 4 wc w.heap.size (fun _ => True) (.slice (some ⟨go10, 0, none⟩) x11_1.length co10) x11_1) ∧ Aside0 (wc.heap[gb101]? = some (.cells #[.int .i64 a0_0, (.slice A0_1 l0_1.length c0_1), (.slice A0_2 l0_2.length c0_2)] 25 (0, 0))) ∧ Aside0 (Below w.heap.size w wc))
   case first =>
    have H := HC18.out; clear HC18; by_cases c19 : 0 ≤ x13_1; rotate_left
    ·rw [if_neg c19] at H
     exact absurd H (by simp)
    rw [if_pos c19] at H; have c19b0 : decide (0 ≤ x13_1) = true := decide_eq_true c19; clear c19
    (first | rw [c19b0] | (simp only [i64_w, i32_w]; rw [c19b0]) | skip)
    by_cases c20 : (rd l4 x13_1) < 0
    ·rw [if_pos c20] at H
     have c20b0 : decide ((rd l4 x13_1) < 0) = true := decide_eq_true c20; clear c20; have H' := A_ H; clear H
     try go_wp2
     replace HO_11 := A_ (Kd.R_drew HO_11.out); replace BK101 := A_ (blk_drew BK101.out); replace HB := A_ (below_drew1 HB.out); have p106 : 0 ≤ (x13_1 : Int) := oD; have q106 : x13_1 < (l4.length : Int) := oD; obtain ⟨ad106, e106, hx106_0⟩ := Kd.at_int HR4.out x13_1 p106 q106; have hw106_0 := hx106_0
     cases e106
     replace hx106_0 := (HB.out.cell (World.block_lt_of_cell? w _ hx106_0)).trans hx106_0; replace p106 := eq_true p106; replace q106 := eq_true q106
     refine start_ (n := 24) (S := fun w' => w'.cell? (ad106.add (x13_1).toNat) = some (.int .i64 (rd l4 x13_1))) (ds := []) (mkB 24 0) (by kernel_rfl) rfl rfl ((pw_cell_below HB.out hw106_0)) (fun hHeld => ?_); refine with_tabW dropperref05_leads.tab7 dropperref05_leads.bits7 (fun HT_ HW_ => ?_)
     generalize wr.drew = w21 at HO_11 BK101 HB hx106_0 hHeld ⊢; refine pr_ 0 (some 29) (mkB 24 1) HT_ ?_; refine pr_ 1 (some 30) (mkB 24 3) HT_ ?_; refine pr_ 2 (some 31) (mkB 24 7) HT_ ?_
     refine take_ (i := 3) (N := some 32) (v := ?_) (a' := ?_) (mkB 24 15) rfl rfl (take_ofW HT_.out HW_.out (by kernel_rfl)) (fun _ _ _ h => h) (Or.inl ⟨by rfl, ?_⟩) hHeld ?_ ?_
     rotate_left
     ·intro w' s0
      go_simp
      with_reducible rfl
     rotate_left
     ·simp only [Act.put, List.setIfInBounds_toArray, List.set_cons_zero, List.set_cons_succ, i64_w, i32_w]
      rfl
     refine pr_ 4 (some 33) (mkB 24 31) HT_ ?_; refine pr_ 5 (some 34) (mkB 24 63) HT_ ?_; refine pu_ 6 (some 35) (mkB 24 127) HT_ ?_; refine pu_ 7 (some 36) (mkB 24 255) HT_ ?_; refine pu_ 8 (some 37) (mkB 24 511) HT_ ?_; refine pu_ 9 (some 38) (mkB 24 1023) HT_ ?_; refine pu_ 10 (some 39) (mkB 24 2047) HT_ ?_; refine pu_ 11 (some 40) (mkB 24 4095) HT_ ?_; refine pu_ 12 (some 41) (mkB 24 8191) HT_ ?_; refine pu_ 13 (some 42) (mkB 24 16383) HT_ ?_; refine pr_ 14 (some 43) (mkB 24 32767) HT_ ?_; refine pr_ 15 (some 44) (mkB 24 65535) HT_ ?_; refine pu_ 16 (some 45) (mkB 24 131071) HT_ ?_; refine pu_ 17 (some 46) (mkB 24 262143) HT_ ?_; refine pu_ 18 (some 47) (mkB 24 524287) HT_ ?_; refine pu_ 19 (some 48) (mkB 24 1048575) HT_ ?_; refine pu_ 20 (some 49) (mkB 24 2097151) HT_ ?_; refine pu_ 21 (some 50) (mkB 24 4194303) HT_ ?_; refine pu_ 22 (some 51) (mkB 24 8388607) HT_ ?_; refine pr_ 23 (some 52) (mkB 24 16777215) HT_ ?_
     refine done_ (done_of HT_.out (by kernel_rfl)) ?_
     try go_wp2
     go_meet
     case rel => exact ⟨_, (true), eS, H', ⟨by have := HK1.out; first | omega | exact Nat.le_refl _⟩, ⟨by (try simp only [hl11_1]); (with_reducible repeat (first | apply Kd.R_alloc | apply Kd.R_drewN | apply Kd.R_drew)); exact HO_11.out⟩, ⟨by (try simp only [hl11_1]); exact bkU BK101⟩, ⟨(bW1 HB.out GE101.out)⟩⟩
    rw [if_neg c20] at H; have c20b0 : decide ((rd l4 x13_1) < 0) = false := decide_eq_false c20; clear c20; by_cases c22 : (rd l4 x13_1) ≥ (l0_1.length : Int)
    ·rw [if_pos c22] at H
     have c22b0 : decide ((l0_1.length : Int) ≤ (rd l4 x13_1)) = true := decide_eq_true c22
     (try (have c22b0h := c22b0; simp only [hl11_1] at c22b0h))
     clear c22; have H' := A_ H; clear H
     try go_wp2
     replace HO_11 := A_ (Kd.R_drew HO_11.out); replace BK101 := A_ (blk_drew BK101.out); replace HB := A_ (below_drew1 HB.out); have p106 : 0 ≤ (x13_1 : Int) := oD; have q106 : x13_1 < (l4.length : Int) := oD; obtain ⟨ad106, e106, hx106_0⟩ := Kd.at_int HR4.out x13_1 p106 q106; have hw106_0 := hx106_0
     cases e106
     replace hx106_0 := (HB.out.cell (World.block_lt_of_cell? w _ hx106_0)).trans hx106_0; replace p106 := eq_true p106; replace q106 := eq_true q106; have p107 : 0 ≤ (x13_1 : Int) := oD; have q107 : x13_1 < (l4.length : Int) := oD; obtain ⟨ad107, e107, hx107_0⟩ := Kd.at_int HR4.out x13_1 p107 q107; have hw107_0 := hx107_0
     obtain rfl : ad106 = ad107 := (by injection e107)
     replace hx107_0 := (HB.out.cell (World.block_lt_of_cell? w _ hx107_0)).trans hx107_0; replace p107 := eq_true p107; replace q107 := eq_true q107
     refine start_ (n := 24) (S := fun w' => w'.cell? ⟨gb101, 0, none⟩ = some (.int .i64 a0_0) ∧ w'.cell? ⟨gb101, 1, none⟩ = some (.slice A0_1 l0_1.length c0_1) ∧ w'.cell? ⟨gb101, 2, none⟩ = some (.slice A0_2 l0_2.length c0_2) ∧ w'.cell? (ad106.add (x13_1).toNat) = some (.int .i64 (rd l4 x13_1)) ∧ w'.cell? (ad106.add (x13_1).toNat) = some (.int .i64 (rd l4 x13_1))) (ds := []) (mkB 24 0) (by kernel_rfl) rfl rfl ⟨(blk_cell BK101.out 0).trans rfl, (blk_cell BK101.out 1).trans rfl, (blk_cell BK101.out 2).trans rfl, (pw_cell_below HB.out hw106_0), (pw_cell_below HB.out hw107_0)⟩ (fun hHeld => ?_); refine with_tabW dropperref05_leads.tab7 dropperref05_leads.bits7 (fun HT_ HW_ => ?_)
     generalize wr.drew = w23 at HO_11 BK101 HB hx106_0 hx107_0 hHeld ⊢; refine pr_ 0 (some 29) (mkB 24 1) HT_ ?_; refine pr_ 1 (some 30) (mkB 24 3) HT_ ?_; refine pr_ 2 (some 31) (mkB 24 7) HT_ ?_
     refine take_ (i := 3) (N := some 32) (v := ?_) (a' := ?_) (mkB 24 15) rfl rfl (take_ofW HT_.out HW_.out (by kernel_rfl)) (fun _ _ _ h => h) (Or.inl ⟨by rfl, ?_⟩) hHeld ?_ ?_
     rotate_left
     ·rintro w' ⟨s0, s1, s2, s3, s4⟩
      go_simp
      with_reducible rfl
     rotate_left
     ·simp only [Act.put, List.setIfInBounds_toArray, List.set_cons_zero, List.set_cons_succ, i64_w, i32_w]
      rfl
     refine pr_ 4 (some 33) (mkB 24 31) HT_ ?_; refine pr_ 5 (some 34) (mkB 24 63) HT_ ?_; refine pr_ 6 (some 35) (mkB 24 127) HT_ ?_; refine pr_ 7 (some 36) (mkB 24 255) HT_ ?_; refine pr_ 8 (some 37) (mkB 24 511) HT_ ?_; refine pr_ 10 (some 39) (mkB 24 1535) HT_ ?_
     refine take_ (i := 9) (N := some 38) (v := ?_) (a' := ?_) (mkB 24 2047) rfl rfl (take_ofW HT_.out HW_.out (by kernel_rfl)) (fun _ _ _ h => h) (Or.inl ⟨by rfl, ?_⟩) hHeld ?_ ?_
     rotate_left
     ·rintro w' ⟨s0, s1, s2, s3, s4⟩
      go_simp
      with_reducible rfl
     rotate_left
     ·simp only [Act.put, List.setIfInBounds_toArray, List.set_cons_zero, List.set_cons_succ, i64_w, i32_w]
      rfl
     refine take_ (i := 11) (N := some 40) (v := ?_) (a' := ?_) (mkB 24 4095) rfl rfl (take_ofW HT_.out HW_.out (by kernel_rfl)) (fun _ _ _ h => h) (Or.inl ⟨by rfl, ?_⟩) hHeld ?_ ?_
     rotate_left
     ·rintro w' ⟨s0, s1, s2, s3, s4⟩
      go_simp
      with_reducible rfl
     rotate_left
     ·simp only [Act.put, List.setIfInBounds_toArray, List.set_cons_zero, List.set_cons_succ, i64_w, i32_w]
      rfl
     refine pr_ 12 (some 41) (mkB 24 8191) HT_ ?_; refine pr_ 13 (some 42) (mkB 24 16383) HT_ ?_; refine pr_ 14 (some 43) (mkB 24 32767) HT_ ?_; refine pr_ 15 (some 44) (mkB 24 65535) HT_ ?_; refine pu_ 16 (some 45) (mkB 24 131071) HT_ ?_; refine pu_ 17 (some 46) (mkB 24 262143) HT_ ?_; refine pu_ 18 (some 47) (mkB 24 524287) HT_ ?_; refine pu_ 19 (some 48) (mkB 24 1048575) HT_ ?_; refine pu_ 20 (some 49) (mkB 24 2097151) HT_ ?_; refine pu_ 21 (some 50) (mkB 24 4194303) HT_ ?_; refine pu_ 22 (some 51) (mkB 24 8388607) HT_ ?_; refine pr_ 23 (some 52) (mkB 24 16777215) HT_ ?_
     refine done_ (done_of HT_.out (by kernel_rfl)) ?_
     try go_wp2
     go_meet
     case rel => exact ⟨_, (true), eS, H', ⟨by have := HK1.out; first | omega | exact Nat.le_refl _⟩, ⟨by (try simp only [hl11_1]); (with_reducible repeat (first | apply Kd.R_alloc | apply Kd.R_drewN | apply Kd.R_drew)); exact HO_11.out⟩, ⟨by (try simp only [hl11_1]); exact bkU BK101⟩, ⟨(bW1 HB.out GE101.out)⟩⟩
    rw [if_neg c22] at H; have c22b0 : decide ((l0_1.length : Int) ≤ (rd l4 x13_1)) = false := decide_eq_false c22
    (try (have c22b0h := c22b0; simp only [hl11_1] at c22b0h))
    clear c22; replace H := Option.bind_eq_some_iff.mp H; obtain ⟨t109, A240, H⟩ := H; (try dsimp only at H); have A24 := A_ A240; clear A240; have H' := A_ H; clear H
    try go_wp2
    replace HO_11 := A_ (Kd.R_drew HO_11.out); replace BK101 := A_ (blk_drew BK101.out); replace HB := A_ (below_drew1 HB.out); have p106 : 0 ≤ (x13_1 : Int) := oD; have q106 : x13_1 < (l4.length : Int) := oD; obtain ⟨ad106, e106, hx106_0⟩ := Kd.at_int HR4.out x13_1 p106 q106; have hw106_0 := hx106_0
    cases e106
    replace hx106_0 := (HB.out.cell (World.block_lt_of_cell? w _ hx106_0)).trans hx106_0; replace p106 := eq_true p106; replace q106 := eq_true q106; have p107 : 0 ≤ (x13_1 : Int) := oD; have q107 : x13_1 < (l4.length : Int) := oD; obtain ⟨ad107, e107, hx107_0⟩ := Kd.at_int HR4.out x13_1 p107 q107; have hw107_0 := hx107_0
    obtain rfl : ad106 = ad107 := (by injection e107)
    replace hx107_0 := (HB.out.cell (World.block_lt_of_cell? w _ hx107_0)).trans hx107_0; replace p107 := eq_true p107; replace q107 := eq_true q107; have p108 : 0 ≤ (x13_1 : Int) := oD; have q108 : x13_1 < (l4.length : Int) := oD; obtain ⟨ad108, e108, hx108_0⟩ := Kd.at_int HR4.out x13_1 p108 q108; have hw108_0 := hx108_0
    obtain rfl : ad106 = ad108 := (by injection e108)
    replace hx108_0 := (HB.out.cell (World.block_lt_of_cell? w _ hx108_0)).trans hx108_0; replace p108 := eq_true p108; replace q108 := eq_true q108
    refine start_ (n := 24) (S := fun w' => w'.cell? ⟨gb101, 0, none⟩ = some (.int .i64 a0_0) ∧ w'.cell? ⟨gb101, 1, none⟩ = some (.slice A0_1 l0_1.length c0_1) ∧ w'.cell? ⟨gb101, 2, none⟩ = some (.slice A0_2 l0_2.length c0_2) ∧ w'.cell? (ad106.add (x13_1).toNat) = some (.int .i64 (rd l4 x13_1)) ∧ w'.cell? (ad106.add (x13_1).toNat) = some (.int .i64 (rd l4 x13_1)) ∧ w'.cell? (ad106.add (x13_1).toNat) = some (.int .i64 (rd l4 x13_1))) (ds := []) (mkB 24 0) (by kernel_rfl) rfl rfl ⟨(blk_cell BK101.out 0).trans rfl, (blk_cell BK101.out 1).trans rfl, (blk_cell BK101.out 2).trans rfl, (pw_cell_below HB.out hw106_0), (pw_cell_below HB.out hw107_0), (pw_cell_below HB.out hw108_0)⟩ (fun hHeld => ?_); refine with_tabW dropperref05_leads.tab7 dropperref05_leads.bits7 (fun HT_ HW_ => ?_)
    generalize wr.drew = w25 at HO_11 BK101 HB hx106_0 hx107_0 hx108_0 hHeld ⊢; refine pr_ 0 (some 29) (mkB 24 1) HT_ ?_; refine pr_ 1 (some 30) (mkB 24 3) HT_ ?_; refine pr_ 2 (some 31) (mkB 24 7) HT_ ?_
    refine take_ (i := 3) (N := some 32) (v := ?_) (a' := ?_) (mkB 24 15) rfl rfl (take_ofW HT_.out HW_.out (by kernel_rfl)) (fun _ _ _ h => h) (Or.inl ⟨by rfl, ?_⟩) hHeld ?_ ?_
    rotate_left
    ·rintro w' ⟨s0, s1, s2, s3, s4, s5⟩
     go_simp
     with_reducible rfl
    rotate_left
    ·simp only [Act.put, List.setIfInBounds_toArray, List.set_cons_zero, List.set_cons_succ, i64_w, i32_w]
     rfl
    refine pr_ 4 (some 33) (mkB 24 31) HT_ ?_; refine pr_ 5 (some 34) (mkB 24 63) HT_ ?_; refine pr_ 6 (some 35) (mkB 24 127) HT_ ?_; refine pr_ 7 (some 36) (mkB 24 255) HT_ ?_; refine pr_ 8 (some 37) (mkB 24 511) HT_ ?_; refine pr_ 10 (some 39) (mkB 24 1535) HT_ ?_
    refine take_ (i := 9) (N := some 38) (v := ?_) (a' := ?_) (mkB 24 2047) rfl rfl (take_ofW HT_.out HW_.out (by kernel_rfl)) (fun _ _ _ h => h) (Or.inl ⟨by rfl, ?_⟩) hHeld ?_ ?_
    rotate_left
    ·rintro w' ⟨s0, s1, s2, s3, s4, s5⟩
     go_simp
     with_reducible rfl
    rotate_left
    ·simp only [Act.put, List.setIfInBounds_toArray, List.set_cons_zero, List.set_cons_succ, i64_w, i32_w]
     rfl
    refine take_ (i := 11) (N := some 40) (v := ?_) (a' := ?_) (mkB 24 4095) rfl rfl (take_ofW HT_.out HW_.out (by kernel_rfl)) (fun _ _ _ h => h) (Or.inl ⟨by rfl, ?_⟩) hHeld ?_ ?_
    rotate_left
    ·rintro w' ⟨s0, s1, s2, s3, s4, s5⟩
     go_simp
     with_reducible rfl
    rotate_left
    ·simp only [Act.put, List.setIfInBounds_toArray, List.set_cons_zero, List.set_cons_succ, i64_w, i32_w]
     rfl
    refine pr_ 12 (some 41) (mkB 24 8191) HT_ ?_; refine pr_ 13 (some 42) (mkB 24 16383) HT_ ?_; refine pr_ 14 (some 43) (mkB 24 32767) HT_ ?_; refine pr_ 15 (some 44) (mkB 24 65535) HT_ ?_; refine pr_ 16 (some 45) (mkB 24 131071) HT_ ?_; refine pr_ 17 (some 46) (mkB 24 262143) HT_ ?_; refine pr_ 18 (some 47) (mkB 24 524287) HT_ ?_; refine pr_ 19 (some 48) (mkB 24 1048575) HT_ ?_
    refine take_ (i := 20) (N := some 49) (v := ?_) (a' := ?_) (mkB 24 2097151) rfl rfl (take_ofW HT_.out HW_.out (by kernel_rfl)) (fun _ _ _ h => h) (Or.inl ⟨by rfl, ?_⟩) hHeld ?_ ?_
    rotate_left
    ·rintro w' ⟨s0, s1, s2, s3, s4, s5⟩
     go_simp
     with_reducible rfl
    rotate_left
    ·simp only [Act.put, List.setIfInBounds_toArray, List.set_cons_zero, List.set_cons_succ, i64_w, i32_w]
     rfl
    refine one_ (i := 21) (N := some 50) (mkB 24 4194303) rfl rfl (one_of HT_.out (by kernel_rfl)) (by decide) (fun K hK => ?_)
    refine goes_ Tryd.func30 (by kernel_rfl) rfl #[.int .i64 a1, .int .i64 (rd l4 x13_1)] (by rfl) rfl rfl (by (try simp only [List.map_toArray, List.map_cons, List.map_nil]); first | done | rfl | (simp only [List.length_drop, List.length_take]; rfl)) ?_
    with_reducible refine (dropperref05_closed.calls a1 (rd l4 x13_1) t109 _ A24.out).mono ?_
    rintro e w' ⟨rfl, ⟨nd, rfl⟩⟩
    refine ⟨_, rfl, ?_⟩
    refine hK.out _ _ ⟨(blk_cell BK101.out 0).trans rfl, (blk_cell BK101.out 1).trans rfl, (blk_cell BK101.out 2).trans rfl, (pw_cell_below HB.out hw106_0), (pw_cell_below HB.out hw107_0), (pw_cell_below HB.out hw108_0)⟩ (fun hHeld => ?_)
    clear hK K
    refine norm_ (a' := ?_) ?_ ?_
    rotate_left
    ·show Act.put _ (some 50) _ = _
     simp only [Act.put, List.setIfInBounds_toArray, List.set_cons_zero, List.set_cons_succ, i64_w, i32_w]
     rfl
    refine pr_ 22 (some 51) (mkB 24 8388607) HT_ ?_; refine pr_ 23 (some 52) (mkB 24 16777215) HT_ ?_
    refine done_ (done_of HT_.out (by kernel_rfl)) ?_
    try go_wp2
    go_meet
    case rel => exact ⟨_, (!t109), eS, H', ⟨by have := HK1.out; first | omega | exact Nat.le_refl _⟩, ⟨by (try simp only [hl11_1]); (with_reducible repeat (first | apply Kd.R_alloc | apply Kd.R_drewN | apply Kd.R_drew)); exact HO_11.out⟩, ⟨by (try simp only [hl11_1]); exact bkU BK101⟩, ⟨(bW1 HB.out GE101.out)⟩⟩
   case rest =>
    clear HC18
    try clear c1; try clear p1; try clear q1; try clear hx1; try clear c2; try clear p2; try clear c3; try clear p10; try clear q10; try clear hx10; try clear c19; try clear c20; try clear c20b0; try clear c22; try clear c22b0; try clear hx106_0; try clear hx107_0; try clear hx108_0; try clear p106; try clear p107; try clear p108; try clear q106; try clear q107; try clear q108
    obtain ⟨kq, x52_17, rfl, HA, HJ17, HO_11, BK101, HB⟩ := hcut
    cases kq with
    | zero => exact absurd HA.out (by simp [dropperref05_leads.j1])
    | succ kj17 =>
     have H := HA.out; clear HA; simp only [dropperref05_leads.j1] at H; by_cases c26 : x52_17 = true
     ·subst c26
      rw [if_pos rfl] at H; obtain rfl := Option.some.inj H
      go_wp2
      go_ret
      exact ⟨eQ, (bW1 HB.out GE101.out)⟩
     replace c26 := Bool.eq_false_iff.mpr c26; subst c26; rw [if_neg (show ¬ (false = true) by decide)] at H; by_cases c27 : 0 ≤ x13_1; rotate_left
     ·rw [if_neg c27] at H
      exact absurd H (by simp)
     rw [if_pos c27] at H; have c27b0 : decide (0 ≤ x13_1) = true := decide_eq_true c27; clear c27; by_cases c28 : x13_1 < (l4.length : Int); rotate_left
     ·rw [if_neg c28] at H
      exact absurd H (by simp)
     rw [if_pos c28] at H; have c28b0 : decide (x13_1 < (l4.length : Int)) = true := decide_eq_true c28
     (try (have c28b0h := c28b0; simp only [hl11_1] at c28b0h))
     clear c28; by_cases c29 : 0 ≤ (rd l4 x13_1); rotate_left
     ·rw [if_neg c29] at H
      exact absurd H (by simp)
     rw [if_pos c29] at H; have c29b0 : decide (0 ≤ (rd l4 x13_1)) = true := decide_eq_true c29; clear c29; by_cases c30 : (rd l4 x13_1) < (l0_1.length : Int); rotate_left
     ·rw [if_neg c30] at H
      exact absurd H (by simp)
     rw [if_pos c30] at H; have c30b0 : decide ((rd l4 x13_1) < (l0_1.length : Int)) = true := decide_eq_true c30
     (try (have c30b0h := c30b0; simp only [hl11_1] at c30b0h))
     clear c30; by_cases c31 : x12_1 = ((rd_T47 l0_1 (rd l4 x13_1)).f0)
     ·rw [if_pos c31] at H
      have c31b0 : (x12_1 == ((rd_T47 l0_1 (rd l4 x13_1)).f0)) = true := beq_iff_eq.mpr c31; have c31b1 : (x12_1 != ((rd_T47 l0_1 (rd l4 x13_1)).f0)) = false := bne_eq_false_iff_eq.mpr c31; clear c31; by_cases c32 : 0 ≤ ((rd_T47 l0_1 (rd l4 x13_1)).f1); rotate_left
      ·rw [if_neg c32] at H
       exact absurd H (by simp)
      rw [if_pos c32] at H; have c32b0 : decide (0 ≤ ((rd_T47 l0_1 (rd l4 x13_1)).f1)) = true := decide_eq_true c32; clear c32; by_cases c33 : ((rd_T47 l0_1 (rd l4 x13_1)).f1) < (x11_1.length : Int); rotate_left
      ·rw [if_neg c33] at H
       exact absurd H (by simp)
      rw [if_pos c33] at H; have c33b0 : decide (((rd_T47 l0_1 (rd l4 x13_1)).f1) < (x11_1.length : Int)) = true := decide_eq_true c33
      (try (have c33b0h := c33b0; simp only [hl11_1] at c33b0h))
      clear c33; obtain ⟨bq34, hbq34⟩ : ∃ b_ : Bool, b_ = (rdOf false x11_1 ((rd_T47 l0_1 (rd l4 x13_1)).f1)) := ⟨_, rfl⟩
      replace H : (if bq34 = true then (some false) else (dropperref05_leads.l0 kj17 a1 a3 l4 (x11_1.set (((rd_T47 l0_1 (rd l4 x13_1)).f1) : Int).toNat true) ((rd_T47 l0_1 (rd l4 x13_1)).f1) (wrap64 (x13_1 + 1)) a0_0 l0_1 l0_2)) = some r := by rw [← hbq34] at H; exact H
      have Nbq34 := A_ hbq34; clear hbq34; by_cases c35 : bq34 = true
      ·subst c35
       rw [if_pos rfl] at H; obtain rfl := Option.some.inj H
       try go_wp2
       replace HO_11 := A_ (Kd.R_drew HO_11.out); replace BK101 := A_ (blk_drew BK101.out); replace HB := A_ (below_drew1 HB.out); have p110 : 0 ≤ (x13_1 : Int) := oD; have q110 : x13_1 < (l4.length : Int) := oD; obtain ⟨ad110, e110, hx110_0⟩ := Kd.at_int HR4.out x13_1 p110 q110; have hw110_0 := hx110_0
       cases e110
       replace hx110_0 := (HB.out.cell (World.block_lt_of_cell? w _ hx110_0)).trans hx110_0; replace p110 := eq_true p110; replace q110 := eq_true q110; have p111 : 0 ≤ ((rd l4 x13_1) : Int) := oD; have q111 : (rd l4 x13_1) < (l0_1.length : Int) := oD; obtain ⟨ad111, e111, hx111_0, hx111_1⟩ := at_T47 HR0_1.out (rd l4 x13_1) p111 q111; have hw111_1 := hx111_1; have hw111_0 := hx111_0
       cases e111
       replace hx111_0 := (HB.out.cell (World.block_lt_of_cell? w _ hx111_0)).trans hx111_0; replace hx111_1 := (HB.out.cell (World.block_lt_of_cell? w _ hx111_1)).trans hx111_1; replace p111 := eq_true p111; replace q111 := eq_true q111
       refine start_ (n := 10) (S := fun w' => w'.cell? ⟨gb101, 0, none⟩ = some (.int .i64 a0_0) ∧ w'.cell? ⟨gb101, 1, none⟩ = some (.slice (some ad111) l0_1.length c0_1) ∧ w'.cell? ⟨gb101, 2, none⟩ = some (.slice A0_2 l0_2.length c0_2) ∧ w'.cell? (ad110.add (x13_1).toNat) = some (.int .i64 (rd l4 x13_1)) ∧ w'.cell? (ad111.add (((rd l4 x13_1)).toNat * 2)) = some (.int .i64 ((rd_T47 l0_1 (rd l4 x13_1)).f0)) ∧ w'.cell? ⟨(ad111.add (((rd l4 x13_1)).toNat * 2)).block, (ad111.add (((rd l4 x13_1)).toNat * 2)).off + 1, none⟩ = some (.int .i64 ((rd_T47 l0_1 (rd l4 x13_1)).f1))) (ds := []) (mkB 10 0) (by kernel_rfl) rfl rfl ⟨(blk_cell BK101.out 0).trans rfl, (blk_cell BK101.out 1).trans rfl, (blk_cell BK101.out 2).trans rfl, (pw_cell_below HB.out hw110_0), (pw_cell_below HB.out hw111_0), (pw_cell_below HB.out hw111_1)⟩ (fun hHeld => ?_); refine with_tabW dropperref05_leads.tab9 dropperref05_leads.bits9 (fun HT_ HW_ => ?_)
       generalize wc.drew = w36 at HO_11 BK101 HB hx110_0 hx111_0 hx111_1 hHeld ⊢; refine pr_ 0 (some 53) (mkB 10 1) HT_ ?_; refine pr_ 2 (some 55) (mkB 10 5) HT_ ?_; refine pr_ 3 (some 56) (mkB 10 13) HT_ ?_; refine pr_ 4 (some 57) (mkB 10 29) HT_ ?_
       refine take_ (i := 1) (N := some 54) (v := ?_) (a' := ?_) (mkB 10 31) rfl rfl (take_ofW HT_.out HW_.out (by kernel_rfl)) (fun _ _ _ h => h) (Or.inl ⟨by rfl, ?_⟩) hHeld ?_ ?_
       rotate_left
       ·rintro w' ⟨s0, s1, s2, s3, s4, s5⟩
        go_simp
        with_reducible rfl
       rotate_left
       ·simp only [Act.put, List.setIfInBounds_toArray, List.set_cons_zero, List.set_cons_succ, i64_w, i32_w]
        rfl
       refine take_ (i := 5) (N := some 58) (v := ?_) (a' := ?_) (mkB 10 63) rfl rfl (take_ofW HT_.out HW_.out (by kernel_rfl)) (fun _ _ _ h => h) (Or.inl ⟨by rfl, ?_⟩) hHeld ?_ ?_
       rotate_left
       ·rintro w' ⟨s0, s1, s2, s3, s4, s5⟩
        go_simp
        with_reducible rfl
       rotate_left
       ·simp only [Act.put, List.setIfInBounds_toArray, List.set_cons_zero, List.set_cons_succ, i64_w, i32_w]
        rfl
       refine pr_ 6 (some 59) (mkB 10 127) HT_ ?_
       refine take_ (i := 7) (N := some 60) (v := ?_) (a' := ?_) (mkB 10 255) rfl rfl (take_ofW HT_.out HW_.out (by kernel_rfl)) (fun _ _ _ h => h) (Or.inl ⟨by rfl, ?_⟩) hHeld ?_ ?_
       rotate_left
       ·rintro w' ⟨s0, s1, s2, s3, s4, s5⟩
        go_simp
        with_reducible rfl
       rotate_left
       ·simp only [Act.put, List.setIfInBounds_toArray, List.set_cons_zero, List.set_cons_succ, i64_w, i32_w]
        rfl
       refine one_ (i := 8) (N := some 14) (mkB 10 511) rfl rfl (one_of HT_.out (by kernel_rfl)) (by decide) (fun K hK => ?_)
       refine box_step ?hg (N := 14) ?hd (cs := #[.int .i64 0, .int .i64 0]) (t := 47) ?hr ?_; (case hd => rfl); (case hg => rfl); (case hr => first | (go_simp; done) | (go_simp; rfl))
       intro gb112 hg w37 hbox hb
       have BK112 := A_ (hbox); have GW112 := A_ ((szG hg (bW1 HB.out GE101.out))); have GE112 := A_ ((szG hg (bW1 HB.out GE101.out))); have NB101_112 := A_ ((bkL BK101 hg : gb101 ≠ gb112)); have NB112_101 := A_ ((bkG BK101 hg : gb112 ≠ gb101)); replace HO_11 := A_ (Kd.R_below (rU HO_11.out) hb); replace BK101 := A_ (bkB BK101 hb); replace HB := A_ (below_step (bW1 HB.out GE101.out) hb); clear hb hbox hg
       refine hK.out _ _ ⟨(blk_cell BK101.out 0).trans rfl, (blk_cell BK101.out 1).trans rfl, (blk_cell BK101.out 2).trans rfl, (pw_cell_below HB.out hw110_0), (pw_cell_below HB.out hw111_0), (pw_cell_below HB.out hw111_1)⟩ (fun hHeld => ?_)
       clear hK K
       refine norm_ (a' := ?_) ?_ ?_
       rotate_left
       ·show Act.put _ (some 14) _ = _
        simp only [Act.put, List.setIfInBounds_toArray, List.set_cons_zero, List.set_cons_succ, i64_w, i32_w]
        rfl
       refine one_ (i := 9) (N := none) (mkB 10 1023) rfl rfl (one_of HT_.out (by kernel_rfl)) (by decide) (fun K hK => ?_)
       have hs38 : w37.cell? ⟨gb112, 0, none⟩ = some (.int .i64 0) := (blk_cell BK112.out 0).trans rfl; have hfs38 := blk_frozen BK112.out 0; have hns38_0 := NB101_112.out; have hms38_0 := NB112_101.out; have hs39 : w37.cell? ⟨gb112, 1, none⟩ = some (.int .i64 0) := (blk_cell BK112.out 1).trans rfl; have hfs39 := blk_frozen BK112.out 1; have hns39_0 := NB101_112.out; have hms39_0 := NB112_101.out
       refine skip_ (w1 := ?_) (by rfl) rfl ?_ ?_
       rotate_left
       ·go_simp
        rfl
       refine hK.out _ _ ⟨((cell_far (p := ⟨gb112, _, none⟩) NB101_112.out _).trans (((cell_far (p := ⟨gb112, _, none⟩) NB101_112.out _).trans (hHeld.1)))), ((cell_far (p := ⟨gb112, _, none⟩) NB101_112.out _).trans (((cell_far (p := ⟨gb112, _, none⟩) NB101_112.out _).trans (hHeld.2.1)))), ((cell_far (p := ⟨gb112, _, none⟩) NB101_112.out _).trans (((cell_far (p := ⟨gb112, _, none⟩) NB101_112.out _).trans (hHeld.2.2.1)))), ((cell_far (p := ⟨gb112, _, none⟩) (by first | exact far1 hw110_0 GW112 | exact far2 hw110_0 GW112) _).trans (((cell_far (p := ⟨gb112, _, none⟩) (by first | exact far1 hw110_0 GW112 | exact far2 hw110_0 GW112) _).trans (hHeld.2.2.2.1)))), ((cell_far (p := ⟨gb112, _, none⟩) (by first | exact far1 hw111_0 GW112 | exact far2 hw111_0 GW112) _).trans (((cell_far (p := ⟨gb112, _, none⟩) (by first | exact far1 hw111_0 GW112 | exact far2 hw111_0 GW112) _).trans (hHeld.2.2.2.2.1)))), ((cell_far (p := ⟨gb112, _, none⟩) (by first | exact far1 hw111_1 GW112 | exact far2 hw111_1 GW112) _).trans (((cell_far (p := ⟨gb112, _, none⟩) (by first | exact far1 hw111_1 GW112 | exact far2 hw111_1 GW112) _).trans (hHeld.2.2.2.2.2))))⟩ (fun hHeld => ?_)
       clear hK K
       refine done_ (done_of HT_.out (by kernel_rfl)) ?_
       have hnb40 := NB112_101.out; have hnc40 := NB101_112.out; have hcz41_0 : w37.cell? ⟨gb112, 0, none⟩ = some (.int .i64 0) := (blk_cell BK112.out 0).trans rfl; have hcz41_1 : w37.cell? ⟨gb112, 1, none⟩ = some (.int .i64 0) := (blk_cell BK112.out 1).trans rfl; have hfz41_0 := blk_frozen BK112.out 0; have hfz41_1 := blk_frozen BK112.out 1; have p113 : 0 ≤ (((rd_T47 l0_1 (rd l4 x13_1)).f1) : Int) := oD; have q113 : ((rd_T47 l0_1 (rd l4 x13_1)).f1) < (x11_1.length : Int) := oD; obtain ⟨ad113, e113, hx113_0⟩ := Kd.at_bool (Kd.R_reads' HO_11.out).2.2 ((rd_T47 l0_1 (rd l4 x13_1)).f1) p113 q113
       (try rw [← Nbq34.out] at hx113_0)
       obtain rfl : (⟨go10, 0, none⟩ : Addr) = ad113 := (by injection e113)
       (first | simp only [add_plain] at hx113_0 | simp only [add_at] at hx113_0 | simp only [Addr.add, Nat.zero_add] at hx113_0 | skip)
       have hn113_0 : (⟨go10, 0, none⟩ : Addr).block ≠ gb112 := Kd.own_blk (Kd.R_ne HO_11.out BK112.out (by decide))
       have hn113_1 : (⟨go10, 0, none⟩ : Addr).block ≠ gb112 := Kd.own_blk (Kd.R_ne HO_11.out BK112.out (by decide))
       replace hx113_0 := (cell_far (p := ⟨gb112, 0, none⟩) (by first | (rw [add_block]; exact hn113_0) | (show (Addr.add _ _).block ≠ _; rw [add_block]; exact hn113_0) | exact hn113_0) (.int .i64 ((rd_T47 l0_1 (rd l4 x13_1)).f0))).trans hx113_0
       replace hx113_0 := (cell_far (p := ⟨gb112, 1, none⟩) (by first | (rw [add_block]; exact hn113_1) | (show (Addr.add _ _).block ≠ _; rw [add_block]; exact hn113_1) | exact hn113_1) (.int .i64 ((rd_T47 l0_1 (rd l4 x13_1)).f1))).trans hx113_0
       clear hn113_0; clear hn113_1; replace p113 := eq_true p113; replace q113 := eq_true q113
       try go_wp2
       go_ret
       exact ⟨eQ, (bW2 HB.out GE101.out GE112.out)⟩
      replace c35 := Bool.eq_false_iff.mpr c35; subst c35; rw [if_neg (show ¬ (false = true) by decide)] at H; obtain ⟨y114, hy114⟩ : ∃ y_ : List Bool, y_ = (x11_1.set (((rd_T47 l0_1 (rd l4 x13_1)).f1) : Int).toNat true) := ⟨_, rfl⟩
      replace H : (dropperref05_leads.l0 kj17 a1 a3 l4 y114 ((rd_T47 l0_1 (rd l4 x13_1)).f1) (wrap64 (x13_1 + 1)) a0_0 l0_1 l0_2) = some r := by first | (rw [hy114]; with_reducible exact H) | (have H2_ := (Option.bind_some _ _).symm.trans H; rw [hy114]; with_reducible exact H2_) | (have H2_ := (Option.bind_some _ _).symm.trans H; with_reducible exact H2_) | with_reducible exact H | (rw [hy114]; exact H) | exact H
      have Ny114 := A_ hy114; clear hy114; have H' := A_ H; clear H
      try go_wp2
      replace HO_11 := A_ (Kd.R_drew HO_11.out); replace BK101 := A_ (blk_drew BK101.out); replace HB := A_ (below_drew1 HB.out); have p110 : 0 ≤ (x13_1 : Int) := oD; have q110 : x13_1 < (l4.length : Int) := oD; obtain ⟨ad110, e110, hx110_0⟩ := Kd.at_int HR4.out x13_1 p110 q110; have hw110_0 := hx110_0
      cases e110
      replace hx110_0 := (HB.out.cell (World.block_lt_of_cell? w _ hx110_0)).trans hx110_0; replace p110 := eq_true p110; replace q110 := eq_true q110; have p111 : 0 ≤ ((rd l4 x13_1) : Int) := oD; have q111 : (rd l4 x13_1) < (l0_1.length : Int) := oD; obtain ⟨ad111, e111, hx111_0, hx111_1⟩ := at_T47 HR0_1.out (rd l4 x13_1) p111 q111; have hw111_1 := hx111_1; have hw111_0 := hx111_0
      cases e111
      replace hx111_0 := (HB.out.cell (World.block_lt_of_cell? w _ hx111_0)).trans hx111_0; replace hx111_1 := (HB.out.cell (World.block_lt_of_cell? w _ hx111_1)).trans hx111_1; replace p111 := eq_true p111; replace q111 := eq_true q111
      refine start_ (n := 10) (S := fun w' => w'.cell? ⟨gb101, 0, none⟩ = some (.int .i64 a0_0) ∧ w'.cell? ⟨gb101, 1, none⟩ = some (.slice (some ad111) l0_1.length c0_1) ∧ w'.cell? ⟨gb101, 2, none⟩ = some (.slice A0_2 l0_2.length c0_2) ∧ w'.cell? (ad110.add (x13_1).toNat) = some (.int .i64 (rd l4 x13_1)) ∧ w'.cell? (ad111.add (((rd l4 x13_1)).toNat * 2)) = some (.int .i64 ((rd_T47 l0_1 (rd l4 x13_1)).f0)) ∧ w'.cell? ⟨(ad111.add (((rd l4 x13_1)).toNat * 2)).block, (ad111.add (((rd l4 x13_1)).toNat * 2)).off + 1, none⟩ = some (.int .i64 ((rd_T47 l0_1 (rd l4 x13_1)).f1))) (ds := []) (mkB 10 0) (by kernel_rfl) rfl rfl ⟨(blk_cell BK101.out 0).trans rfl, (blk_cell BK101.out 1).trans rfl, (blk_cell BK101.out 2).trans rfl, (pw_cell_below HB.out hw110_0), (pw_cell_below HB.out hw111_0), (pw_cell_below HB.out hw111_1)⟩ (fun hHeld => ?_); refine with_tabW dropperref05_leads.tab9 dropperref05_leads.bits9 (fun HT_ HW_ => ?_)
      generalize wc.drew = w43 at HO_11 BK101 HB hx110_0 hx111_0 hx111_1 hHeld ⊢; refine pr_ 0 (some 53) (mkB 10 1) HT_ ?_; refine pr_ 2 (some 55) (mkB 10 5) HT_ ?_; refine pr_ 3 (some 56) (mkB 10 13) HT_ ?_; refine pr_ 4 (some 57) (mkB 10 29) HT_ ?_
      refine take_ (i := 1) (N := some 54) (v := ?_) (a' := ?_) (mkB 10 31) rfl rfl (take_ofW HT_.out HW_.out (by kernel_rfl)) (fun _ _ _ h => h) (Or.inl ⟨by rfl, ?_⟩) hHeld ?_ ?_
      rotate_left
      ·rintro w' ⟨s0, s1, s2, s3, s4, s5⟩
       go_simp
       with_reducible rfl
      rotate_left
      ·simp only [Act.put, List.setIfInBounds_toArray, List.set_cons_zero, List.set_cons_succ, i64_w, i32_w]
       rfl
      refine take_ (i := 5) (N := some 58) (v := ?_) (a' := ?_) (mkB 10 63) rfl rfl (take_ofW HT_.out HW_.out (by kernel_rfl)) (fun _ _ _ h => h) (Or.inl ⟨by rfl, ?_⟩) hHeld ?_ ?_
      rotate_left
      ·rintro w' ⟨s0, s1, s2, s3, s4, s5⟩
       go_simp
       with_reducible rfl
      rotate_left
      ·simp only [Act.put, List.setIfInBounds_toArray, List.set_cons_zero, List.set_cons_succ, i64_w, i32_w]
       rfl
      refine pr_ 6 (some 59) (mkB 10 127) HT_ ?_
      refine take_ (i := 7) (N := some 60) (v := ?_) (a' := ?_) (mkB 10 255) rfl rfl (take_ofW HT_.out HW_.out (by kernel_rfl)) (fun _ _ _ h => h) (Or.inl ⟨by rfl, ?_⟩) hHeld ?_ ?_
      rotate_left
      ·rintro w' ⟨s0, s1, s2, s3, s4, s5⟩
       go_simp
       with_reducible rfl
      rotate_left
      ·simp only [Act.put, List.setIfInBounds_toArray, List.set_cons_zero, List.set_cons_succ, i64_w, i32_w]
       rfl
      refine one_ (i := 8) (N := some 14) (mkB 10 511) rfl rfl (one_of HT_.out (by kernel_rfl)) (by decide) (fun K hK => ?_)
      refine box_step ?hg (N := 14) ?hd (cs := #[.int .i64 0, .int .i64 0]) (t := 47) ?hr ?_; (case hd => rfl); (case hg => rfl); (case hr => first | (go_simp; done) | (go_simp; rfl))
      intro gb112 hg w44 hbox hb
      have BK112 := A_ (hbox); have GW112 := A_ ((szG hg (bW1 HB.out GE101.out))); have GE112 := A_ ((szG hg (bW1 HB.out GE101.out))); have NB101_112 := A_ ((bkL BK101 hg : gb101 ≠ gb112)); have NB112_101 := A_ ((bkG BK101 hg : gb112 ≠ gb101)); replace HO_11 := A_ (Kd.R_below (rU HO_11.out) hb); replace BK101 := A_ (bkB BK101 hb); replace HB := A_ (below_step (bW1 HB.out GE101.out) hb); clear hb hbox hg
      refine hK.out _ _ ⟨(blk_cell BK101.out 0).trans rfl, (blk_cell BK101.out 1).trans rfl, (blk_cell BK101.out 2).trans rfl, (pw_cell_below HB.out hw110_0), (pw_cell_below HB.out hw111_0), (pw_cell_below HB.out hw111_1)⟩ (fun hHeld => ?_)
      clear hK K
      refine norm_ (a' := ?_) ?_ ?_
      rotate_left
      ·show Act.put _ (some 14) _ = _
       simp only [Act.put, List.setIfInBounds_toArray, List.set_cons_zero, List.set_cons_succ, i64_w, i32_w]
       rfl
      refine one_ (i := 9) (N := none) (mkB 10 1023) rfl rfl (one_of HT_.out (by kernel_rfl)) (by decide) (fun K hK => ?_)
      have hs45 : w44.cell? ⟨gb112, 0, none⟩ = some (.int .i64 0) := (blk_cell BK112.out 0).trans rfl; have hfs45 := blk_frozen BK112.out 0; have hns45_0 := NB101_112.out; have hms45_0 := NB112_101.out; have hs46 : w44.cell? ⟨gb112, 1, none⟩ = some (.int .i64 0) := (blk_cell BK112.out 1).trans rfl; have hfs46 := blk_frozen BK112.out 1; have hns46_0 := NB101_112.out; have hms46_0 := NB112_101.out
      refine skip_ (w1 := ?_) (by rfl) rfl ?_ ?_
      rotate_left
      ·go_simp
       rfl
      refine hK.out _ _ ⟨((cell_far (p := ⟨gb112, _, none⟩) NB101_112.out _).trans (((cell_far (p := ⟨gb112, _, none⟩) NB101_112.out _).trans (hHeld.1)))), ((cell_far (p := ⟨gb112, _, none⟩) NB101_112.out _).trans (((cell_far (p := ⟨gb112, _, none⟩) NB101_112.out _).trans (hHeld.2.1)))), ((cell_far (p := ⟨gb112, _, none⟩) NB101_112.out _).trans (((cell_far (p := ⟨gb112, _, none⟩) NB101_112.out _).trans (hHeld.2.2.1)))), ((cell_far (p := ⟨gb112, _, none⟩) (by first | exact far1 hw110_0 GW112 | exact far2 hw110_0 GW112) _).trans (((cell_far (p := ⟨gb112, _, none⟩) (by first | exact far1 hw110_0 GW112 | exact far2 hw110_0 GW112) _).trans (hHeld.2.2.2.1)))), ((cell_far (p := ⟨gb112, _, none⟩) (by first | exact far1 hw111_0 GW112 | exact far2 hw111_0 GW112) _).trans (((cell_far (p := ⟨gb112, _, none⟩) (by first | exact far1 hw111_0 GW112 | exact far2 hw111_0 GW112) _).trans (hHeld.2.2.2.2.1)))), ((cell_far (p := ⟨gb112, _, none⟩) (by first | exact far1 hw111_1 GW112 | exact far2 hw111_1 GW112) _).trans (((cell_far (p := ⟨gb112, _, none⟩) (by first | exact far1 hw111_1 GW112 | exact far2 hw111_1 GW112) _).trans (hHeld.2.2.2.2.2))))⟩ (fun hHeld => ?_)
      clear hK K
      refine done_ (done_of HT_.out (by kernel_rfl)) ?_
      have n0_ : Aside0 (Kd.R Kd.bool 4 ((w44.setCell ⟨gb112, 0, none⟩ (.int .i64 ((rd_T47 l0_1 (rd l4 x13_1)).f0))).setCell ⟨gb112, 1, none⟩ (.int .i64 ((rd_T47 l0_1 (rd l4 x13_1)).f1))) w.heap.size (fun _ => True) (.slice (some ⟨go10, 0, none⟩) x11_1.length co10) x11_1) := ⟨by (with_reducible repeat (first | apply Kd.R_alloc | apply Kd.R_drewN | apply Kd.R_drew)); exact Kd.R_mono (Kd.R_far (p := ⟨gb112, 1, none⟩) (Kd.R_far (p := ⟨gb112, 0, none⟩) (Kd.R_types HO_11.out BK112.out (by decide)) (fun _ hk => hk.2) (.int .i64 ((rd_T47 l0_1 (rd l4 x13_1)).f0))) (fun _ hk => hk.2) (.int .i64 ((rd_T47 l0_1 (rd l4 x13_1)).f1))) (fun _ hk => trivial)⟩
      have n1_ : Aside0 (((w44.setCell ⟨gb112, 0, none⟩ (.int .i64 ((rd_T47 l0_1 (rd l4 x13_1)).f0))).setCell ⟨gb112, 1, none⟩ (.int .i64 ((rd_T47 l0_1 (rd l4 x13_1)).f1))).heap[gb101]? = some (.cells #[.int .i64 a0_0, .slice (some ad111) l0_1.length c0_1, .slice A0_2 l0_2.length c0_2] 25 (0, 0))) := ⟨by refine bfW ?_ NB101_112.out; refine bfW ?_ NB101_112.out; exact bkU BK101⟩
      have n2_ : Aside0 (((w44.setCell ⟨gb112, 0, none⟩ (.int .i64 ((rd_T47 l0_1 (rd l4 x13_1)).f0))).setCell ⟨gb112, 1, none⟩ (.int .i64 ((rd_T47 l0_1 (rd l4 x13_1)).f1))).heap[gb112]? = some (.cells #[.int .i64 ((rd_T47 l0_1 (rd l4 x13_1)).f0), .int .i64 ((rd_T47 l0_1 (rd l4 x13_1)).f1)] 47 (0, 0))) := ⟨by (with_reducible repeat (first | refine blk_drewN ?_ _ | refine blk_drew ?_ | refine blk_alloc ?_ _)); refine blk_put (cs := #[.int .i64 ((rd_T47 l0_1 (rd l4 x13_1)).f0), .int .i64 0]) ?_ 1 _ rfl; (with_reducible repeat (first | refine blk_drewN ?_ _ | refine blk_drew ?_ | refine blk_alloc ?_ _)); refine blk_put (cs := #[.int .i64 0, .int .i64 0]) ?_ 0 _ rfl; exact bkU BK112⟩
      have n3_ : Aside0 (Below w.heap.size w ((w44.setCell ⟨gb112, 0, none⟩ (.int .i64 ((rd_T47 l0_1 (rd l4 x13_1)).f0))).setCell ⟨gb112, 1, none⟩ (.int .i64 ((rd_T47 l0_1 (rd l4 x13_1)).f1)))) := ⟨(bW2 HB.out GE101.out GE112.out)⟩
      (try clear HO_11)
      (try clear BK101)
      (try clear BK112)
      (try clear HB)
      generalize ((w44.setCell ⟨gb112, 0, none⟩ (.int .i64 ((rd_T47 l0_1 (rd l4 x13_1)).f0))).setCell ⟨gb112, 1, none⟩ (.int .i64 ((rd_T47 l0_1 (rd l4 x13_1)).f1))) = w47 at n0_ n1_ n2_ n3_ ⊢; have HO_11 := n0_; have BK101 := n1_; have BK112 := n2_; have HB := n3_; clear n0_ n1_ n2_ n3_; have hnb48 := NB112_101.out; have hnc48 := NB101_112.out; have hcz49_0 : w47.cell? ⟨gb112, 0, none⟩ = some (.int .i64 ((rd_T47 l0_1 (rd l4 x13_1)).f0)) := (blk_cell BK112.out 0).trans rfl; have hcz49_1 : w47.cell? ⟨gb112, 1, none⟩ = some (.int .i64 ((rd_T47 l0_1 (rd l4 x13_1)).f1)) := (blk_cell BK112.out 1).trans rfl; have hfz49_0 := blk_frozen BK112.out 0; have hfz49_1 := blk_frozen BK112.out 1; have p113 : 0 ≤ (((rd_T47 l0_1 (rd l4 x13_1)).f1) : Int) := oD; have q113 : ((rd_T47 l0_1 (rd l4 x13_1)).f1) < (x11_1.length : Int) := oD; obtain ⟨ad113, e113, hx113_0⟩ := Kd.at_bool (Kd.R_reads' HO_11.out).2.2 ((rd_T47 l0_1 (rd l4 x13_1)).f1) p113 q113
      (try rw [← Nbq34.out] at hx113_0)
      obtain rfl : (⟨go10, 0, none⟩ : Addr) = ad113 := (by injection e113)
      (first | simp only [add_plain] at hx113_0 | simp only [add_at] at hx113_0 | simp only [Addr.add, Nat.zero_add] at hx113_0 | skip)
      replace p113 := eq_true p113; replace q113 := eq_true q113; have p42 : 0 ≤ (((rd_T47 l0_1 (rd l4 x13_1)).f1) : Int) := oD; have q42 : (((rd_T47 l0_1 (rd l4 x13_1)).f1) : Int) < ((x11_1.length : Int) : Int) := oD; obtain ⟨hx42_0, hf42_0⟩ := Kd.R_celln false HO_11.out (((rd_T47 l0_1 (rd l4 x13_1)).f1) : Int) p42 q42; replace p42 := eq_true p42; replace q42 := eq_true q42; obtain ⟨hy50_, hz50_⟩ := Kd.R_celln false HO_11.out (((rd_T47 l0_1 (rd l4 x13_1)).f1) : Int) (oD) (oD); have HP50 := Kd.R_putg HO_11.out (((rd_T47 l0_1 (rd l4 x13_1)).f1) : Int) true
      try go_wp2_with (first | ((with_reducible refine gate_store (t := 4) (p := 80) rfl ?_); refine store_event (t := 4) (p := 80) (v := ?vo_w51) (w1 := (w47.setCell ⟨go10, (((rd_T47 l0_1 (rd l4 x13_1)).f1) : Int).toNat, none⟩ (.bool true))) ?hg ?ho ?hn ?hr ?_; (case ho => rfl); (case hg => rfl); (case hn => rfl); (case hr => first | (go_simp; done) | (go_simp; rfl)); intro w51 hw; have hg : w47.grownBy w51 (some go10) := (by rw [hw]; exact HP50.2); have hp_ : Kd.R Kd.bool 4 w51 w.heap.size (fun _ => True) (.slice (some ⟨go10, 0, none⟩) x11_1.length co10) y114 := (by rw [hw, Ny114.out]; exact HP50.1); clear HP50; have n0_ := A_ (hp_); have n1_ := A_ (blk_grown (g := gb101) (o := .cells #[.int .i64 a0_0, .slice (some ad111) l0_1.length c0_1, .slice A0_2 l0_2.length c0_2] 25 (0, 0)) (bkU BK101) hg (Kd.R_ne HO_11.out BK101.out (by decide))); have n2_ := A_ (blk_grown (g := gb112) (o := .cells #[.int .i64 ((rd_T47 l0_1 (rd l4 x13_1)).f0), .int .i64 ((rd_T47 l0_1 (rd l4 x13_1)).f1)] 47 (0, 0)) (bkU BK112) hg (Kd.R_ne HO_11.out BK112.out (by decide))); have n3_ := A_ ((by rw [hw]; exact below_set (HB.out) GB10.out : Below w.heap.size w w51)); clear HO_11; clear BK101; clear BK112; clear HB; have HO_11 := n0_; have BK101 := n1_; have BK112 := n2_; have HB := n3_; clear n0_ n1_ n2_ n3_; clear hg hw hp_))
      (try simp only [← hl11_1])
      go_roundg kj17
      case measure => have := HK1.out; have := HJ17.out; omega
      case rel => exact ⟨(y114), ((rd_T47 l0_1 (rd l4 x13_1)).f1), (wrap64 (x13_1 + 1)), eS, eS, H', ⟨by have := HK1.out; have := HJ17.out; omega⟩, ⟨by (try simp only [hl11_1]); (with_reducible repeat (first | apply Kd.R_alloc | apply Kd.R_drewN | apply Kd.R_drew)); exact HO_11.out⟩, ⟨by (try simp only [hl11_1]); exact bkU BK101⟩, ⟨(bW2 HB.out GE101.out GE112.out)⟩⟩
     rw [if_neg c31] at H; have c31b0 : (x12_1 == ((rd_T47 l0_1 (rd l4 x13_1)).f0)) = false := beq_eq_false_iff_ne.mpr c31; have c31b1 : (x12_1 != ((rd_T47 l0_1 (rd l4 x13_1)).f0)) = true := bne_iff_ne.mpr c31; by_cases c52 : x12_1 = ((rd_T47 l0_1 (rd l4 x13_1)).f1); rotate_left
     ·rw [if_neg c52] at H
      have c52b0 : (x12_1 == ((rd_T47 l0_1 (rd l4 x13_1)).f1)) = false := beq_eq_false_iff_ne.mpr c52; have c52b1 : (x12_1 != ((rd_T47 l0_1 (rd l4 x13_1)).f1)) = true := bne_iff_ne.mpr c52; obtain rfl := Option.some.inj H
      try go_wp2
      replace HO_11 := A_ (Kd.R_drew HO_11.out); replace BK101 := A_ (blk_drew BK101.out); replace HB := A_ (below_drew1 HB.out); have p110 : 0 ≤ (x13_1 : Int) := oD; have q110 : x13_1 < (l4.length : Int) := oD; obtain ⟨ad110, e110, hx110_0⟩ := Kd.at_int HR4.out x13_1 p110 q110; have hw110_0 := hx110_0
      cases e110
      replace hx110_0 := (HB.out.cell (World.block_lt_of_cell? w _ hx110_0)).trans hx110_0; replace p110 := eq_true p110; replace q110 := eq_true q110; have p111 : 0 ≤ ((rd l4 x13_1) : Int) := oD; have q111 : (rd l4 x13_1) < (l0_1.length : Int) := oD; obtain ⟨ad111, e111, hx111_0, hx111_1⟩ := at_T47 HR0_1.out (rd l4 x13_1) p111 q111; have hw111_1 := hx111_1; have hw111_0 := hx111_0
      cases e111
      replace hx111_0 := (HB.out.cell (World.block_lt_of_cell? w _ hx111_0)).trans hx111_0; replace hx111_1 := (HB.out.cell (World.block_lt_of_cell? w _ hx111_1)).trans hx111_1; replace p111 := eq_true p111; replace q111 := eq_true q111
      refine start_ (n := 10) (S := fun w' => w'.cell? ⟨gb101, 0, none⟩ = some (.int .i64 a0_0) ∧ w'.cell? ⟨gb101, 1, none⟩ = some (.slice (some ad111) l0_1.length c0_1) ∧ w'.cell? ⟨gb101, 2, none⟩ = some (.slice A0_2 l0_2.length c0_2) ∧ w'.cell? (ad110.add (x13_1).toNat) = some (.int .i64 (rd l4 x13_1)) ∧ w'.cell? (ad111.add (((rd l4 x13_1)).toNat * 2)) = some (.int .i64 ((rd_T47 l0_1 (rd l4 x13_1)).f0)) ∧ w'.cell? ⟨(ad111.add (((rd l4 x13_1)).toNat * 2)).block, (ad111.add (((rd l4 x13_1)).toNat * 2)).off + 1, none⟩ = some (.int .i64 ((rd_T47 l0_1 (rd l4 x13_1)).f1))) (ds := []) (mkB 10 0) (by kernel_rfl) rfl rfl ⟨(blk_cell BK101.out 0).trans rfl, (blk_cell BK101.out 1).trans rfl, (blk_cell BK101.out 2).trans rfl, (pw_cell_below HB.out hw110_0), (pw_cell_below HB.out hw111_0), (pw_cell_below HB.out hw111_1)⟩ (fun hHeld => ?_); refine with_tabW dropperref05_leads.tab9 dropperref05_leads.bits9 (fun HT_ HW_ => ?_)
      generalize wc.drew = w73 at HO_11 BK101 HB hx110_0 hx111_0 hx111_1 hHeld ⊢; refine pr_ 0 (some 53) (mkB 10 1) HT_ ?_; refine pr_ 2 (some 55) (mkB 10 5) HT_ ?_; refine pr_ 3 (some 56) (mkB 10 13) HT_ ?_; refine pr_ 4 (some 57) (mkB 10 29) HT_ ?_
      refine take_ (i := 1) (N := some 54) (v := ?_) (a' := ?_) (mkB 10 31) rfl rfl (take_ofW HT_.out HW_.out (by kernel_rfl)) (fun _ _ _ h => h) (Or.inl ⟨by rfl, ?_⟩) hHeld ?_ ?_
      rotate_left
      ·rintro w' ⟨s0, s1, s2, s3, s4, s5⟩
       go_simp
       with_reducible rfl
      rotate_left
      ·simp only [Act.put, List.setIfInBounds_toArray, List.set_cons_zero, List.set_cons_succ, i64_w, i32_w]
       rfl
      refine take_ (i := 5) (N := some 58) (v := ?_) (a' := ?_) (mkB 10 63) rfl rfl (take_ofW HT_.out HW_.out (by kernel_rfl)) (fun _ _ _ h => h) (Or.inl ⟨by rfl, ?_⟩) hHeld ?_ ?_
      rotate_left
      ·rintro w' ⟨s0, s1, s2, s3, s4, s5⟩
       go_simp
       with_reducible rfl
      rotate_left
      ·simp only [Act.put, List.setIfInBounds_toArray, List.set_cons_zero, List.set_cons_succ, i64_w, i32_w]
       rfl
      refine pr_ 6 (some 59) (mkB 10 127) HT_ ?_
      refine take_ (i := 7) (N := some 60) (v := ?_) (a' := ?_) (mkB 10 255) rfl rfl (take_ofW HT_.out HW_.out (by kernel_rfl)) (fun _ _ _ h => h) (Or.inl ⟨by rfl, ?_⟩) hHeld ?_ ?_
      rotate_left
      ·rintro w' ⟨s0, s1, s2, s3, s4, s5⟩
       go_simp
       with_reducible rfl
      rotate_left
      ·simp only [Act.put, List.setIfInBounds_toArray, List.set_cons_zero, List.set_cons_succ, i64_w, i32_w]
       rfl
      refine one_ (i := 8) (N := some 14) (mkB 10 511) rfl rfl (one_of HT_.out (by kernel_rfl)) (by decide) (fun K hK => ?_)
      refine box_step ?hg (N := 14) ?hd (cs := #[.int .i64 0, .int .i64 0]) (t := 47) ?hr ?_; (case hd => rfl); (case hg => rfl); (case hr => first | (go_simp; done) | (go_simp; rfl))
      intro gb112 hg w74 hbox hb
      have BK112 := A_ (hbox); have GW112 := A_ ((szG hg (bW1 HB.out GE101.out))); have GE112 := A_ ((szG hg (bW1 HB.out GE101.out))); have NB101_112 := A_ ((bkL BK101 hg : gb101 ≠ gb112)); have NB112_101 := A_ ((bkG BK101 hg : gb112 ≠ gb101)); replace HO_11 := A_ (Kd.R_below (rU HO_11.out) hb); replace BK101 := A_ (bkB BK101 hb); replace HB := A_ (below_step (bW1 HB.out GE101.out) hb); clear hb hbox hg
      refine hK.out _ _ ⟨(blk_cell BK101.out 0).trans rfl, (blk_cell BK101.out 1).trans rfl, (blk_cell BK101.out 2).trans rfl, (pw_cell_below HB.out hw110_0), (pw_cell_below HB.out hw111_0), (pw_cell_below HB.out hw111_1)⟩ (fun hHeld => ?_)
      clear hK K
      refine norm_ (a' := ?_) ?_ ?_
      rotate_left
      ·show Act.put _ (some 14) _ = _
       simp only [Act.put, List.setIfInBounds_toArray, List.set_cons_zero, List.set_cons_succ, i64_w, i32_w]
       rfl
      refine one_ (i := 9) (N := none) (mkB 10 1023) rfl rfl (one_of HT_.out (by kernel_rfl)) (by decide) (fun K hK => ?_)
      have hs75 : w74.cell? ⟨gb112, 0, none⟩ = some (.int .i64 0) := (blk_cell BK112.out 0).trans rfl; have hfs75 := blk_frozen BK112.out 0; have hns75_0 := NB101_112.out; have hms75_0 := NB112_101.out; have hs76 : w74.cell? ⟨gb112, 1, none⟩ = some (.int .i64 0) := (blk_cell BK112.out 1).trans rfl; have hfs76 := blk_frozen BK112.out 1; have hns76_0 := NB101_112.out; have hms76_0 := NB112_101.out
      refine skip_ (w1 := ?_) (by rfl) rfl ?_ ?_
      rotate_left
      ·go_simp
       rfl
      refine hK.out _ _ ⟨((cell_far (p := ⟨gb112, _, none⟩) NB101_112.out _).trans (((cell_far (p := ⟨gb112, _, none⟩) NB101_112.out _).trans (hHeld.1)))), ((cell_far (p := ⟨gb112, _, none⟩) NB101_112.out _).trans (((cell_far (p := ⟨gb112, _, none⟩) NB101_112.out _).trans (hHeld.2.1)))), ((cell_far (p := ⟨gb112, _, none⟩) NB101_112.out _).trans (((cell_far (p := ⟨gb112, _, none⟩) NB101_112.out _).trans (hHeld.2.2.1)))), ((cell_far (p := ⟨gb112, _, none⟩) (by first | exact far1 hw110_0 GW112 | exact far2 hw110_0 GW112) _).trans (((cell_far (p := ⟨gb112, _, none⟩) (by first | exact far1 hw110_0 GW112 | exact far2 hw110_0 GW112) _).trans (hHeld.2.2.2.1)))), ((cell_far (p := ⟨gb112, _, none⟩) (by first | exact far1 hw111_0 GW112 | exact far2 hw111_0 GW112) _).trans (((cell_far (p := ⟨gb112, _, none⟩) (by first | exact far1 hw111_0 GW112 | exact far2 hw111_0 GW112) _).trans (hHeld.2.2.2.2.1)))), ((cell_far (p := ⟨gb112, _, none⟩) (by first | exact far1 hw111_1 GW112 | exact far2 hw111_1 GW112) _).trans (((cell_far (p := ⟨gb112, _, none⟩) (by first | exact far1 hw111_1 GW112 | exact far2 hw111_1 GW112) _).trans (hHeld.2.2.2.2.2))))⟩ (fun hHeld => ?_)
      clear hK K
      refine done_ (done_of HT_.out (by kernel_rfl)) ?_
      have hnb77 := NB112_101.out; have hnc77 := NB101_112.out; have hcz78_0 : w74.cell? ⟨gb112, 0, none⟩ = some (.int .i64 0) := (blk_cell BK112.out 0).trans rfl; have hcz78_1 : w74.cell? ⟨gb112, 1, none⟩ = some (.int .i64 0) := (blk_cell BK112.out 1).trans rfl; have hfz78_0 := blk_frozen BK112.out 0; have hfz78_1 := blk_frozen BK112.out 1
      try go_wp2
      go_ret
      exact ⟨eQ, (bW2 HB.out GE101.out GE112.out)⟩
     rw [if_pos c52] at H; have c52b0 : (x12_1 == ((rd_T47 l0_1 (rd l4 x13_1)).f1)) = true := beq_iff_eq.mpr c52; have c52b1 : (x12_1 != ((rd_T47 l0_1 (rd l4 x13_1)).f1)) = false := bne_eq_false_iff_eq.mpr c52; clear c52; by_cases c53 : 0 ≤ ((rd_T47 l0_1 (rd l4 x13_1)).f0); rotate_left
     ·rw [if_neg c53] at H
      exact absurd H (by simp)
     rw [if_pos c53] at H; have c53b0 : decide (0 ≤ ((rd_T47 l0_1 (rd l4 x13_1)).f0)) = true := decide_eq_true c53; clear c53; by_cases c54 : ((rd_T47 l0_1 (rd l4 x13_1)).f0) < (x11_1.length : Int); rotate_left
     ·rw [if_neg c54] at H
      exact absurd H (by simp)
     rw [if_pos c54] at H; have c54b0 : decide (((rd_T47 l0_1 (rd l4 x13_1)).f0) < (x11_1.length : Int)) = true := decide_eq_true c54
     (try (have c54b0h := c54b0; simp only [hl11_1] at c54b0h))
     clear c54; obtain ⟨bq55, hbq55⟩ : ∃ b_ : Bool, b_ = (rdOf false x11_1 ((rd_T47 l0_1 (rd l4 x13_1)).f0)) := ⟨_, rfl⟩
     replace H : (if bq55 = true then (some false) else (dropperref05_leads.l0 kj17 a1 a3 l4 (x11_1.set (((rd_T47 l0_1 (rd l4 x13_1)).f0) : Int).toNat true) ((rd_T47 l0_1 (rd l4 x13_1)).f0) (wrap64 (x13_1 + 1)) a0_0 l0_1 l0_2)) = some r := by rw [← hbq55] at H; exact H
     have Nbq55 := A_ hbq55; clear hbq55; by_cases c56 : bq55 = true
     ·subst c56
      rw [if_pos rfl] at H; obtain rfl := Option.some.inj H
      try go_wp2
      replace HO_11 := A_ (Kd.R_drew HO_11.out); replace BK101 := A_ (blk_drew BK101.out); replace HB := A_ (below_drew1 HB.out); have p110 : 0 ≤ (x13_1 : Int) := oD; have q110 : x13_1 < (l4.length : Int) := oD; obtain ⟨ad110, e110, hx110_0⟩ := Kd.at_int HR4.out x13_1 p110 q110; have hw110_0 := hx110_0
      cases e110
      replace hx110_0 := (HB.out.cell (World.block_lt_of_cell? w _ hx110_0)).trans hx110_0; replace p110 := eq_true p110; replace q110 := eq_true q110; have p111 : 0 ≤ ((rd l4 x13_1) : Int) := oD; have q111 : (rd l4 x13_1) < (l0_1.length : Int) := oD; obtain ⟨ad111, e111, hx111_0, hx111_1⟩ := at_T47 HR0_1.out (rd l4 x13_1) p111 q111; have hw111_1 := hx111_1; have hw111_0 := hx111_0
      cases e111
      replace hx111_0 := (HB.out.cell (World.block_lt_of_cell? w _ hx111_0)).trans hx111_0; replace hx111_1 := (HB.out.cell (World.block_lt_of_cell? w _ hx111_1)).trans hx111_1; replace p111 := eq_true p111; replace q111 := eq_true q111
      refine start_ (n := 10) (S := fun w' => w'.cell? ⟨gb101, 0, none⟩ = some (.int .i64 a0_0) ∧ w'.cell? ⟨gb101, 1, none⟩ = some (.slice (some ad111) l0_1.length c0_1) ∧ w'.cell? ⟨gb101, 2, none⟩ = some (.slice A0_2 l0_2.length c0_2) ∧ w'.cell? (ad110.add (x13_1).toNat) = some (.int .i64 (rd l4 x13_1)) ∧ w'.cell? (ad111.add (((rd l4 x13_1)).toNat * 2)) = some (.int .i64 ((rd_T47 l0_1 (rd l4 x13_1)).f0)) ∧ w'.cell? ⟨(ad111.add (((rd l4 x13_1)).toNat * 2)).block, (ad111.add (((rd l4 x13_1)).toNat * 2)).off + 1, none⟩ = some (.int .i64 ((rd_T47 l0_1 (rd l4 x13_1)).f1))) (ds := []) (mkB 10 0) (by kernel_rfl) rfl rfl ⟨(blk_cell BK101.out 0).trans rfl, (blk_cell BK101.out 1).trans rfl, (blk_cell BK101.out 2).trans rfl, (pw_cell_below HB.out hw110_0), (pw_cell_below HB.out hw111_0), (pw_cell_below HB.out hw111_1)⟩ (fun hHeld => ?_); refine with_tabW dropperref05_leads.tab9 dropperref05_leads.bits9 (fun HT_ HW_ => ?_)
      generalize wc.drew = w57 at HO_11 BK101 HB hx110_0 hx111_0 hx111_1 hHeld ⊢; refine pr_ 0 (some 53) (mkB 10 1) HT_ ?_; refine pr_ 2 (some 55) (mkB 10 5) HT_ ?_; refine pr_ 3 (some 56) (mkB 10 13) HT_ ?_; refine pr_ 4 (some 57) (mkB 10 29) HT_ ?_
      refine take_ (i := 1) (N := some 54) (v := ?_) (a' := ?_) (mkB 10 31) rfl rfl (take_ofW HT_.out HW_.out (by kernel_rfl)) (fun _ _ _ h => h) (Or.inl ⟨by rfl, ?_⟩) hHeld ?_ ?_
      rotate_left
      ·rintro w' ⟨s0, s1, s2, s3, s4, s5⟩
       go_simp
       with_reducible rfl
      rotate_left
      ·simp only [Act.put, List.setIfInBounds_toArray, List.set_cons_zero, List.set_cons_succ, i64_w, i32_w]
       rfl
      refine take_ (i := 5) (N := some 58) (v := ?_) (a' := ?_) (mkB 10 63) rfl rfl (take_ofW HT_.out HW_.out (by kernel_rfl)) (fun _ _ _ h => h) (Or.inl ⟨by rfl, ?_⟩) hHeld ?_ ?_
      rotate_left
      ·rintro w' ⟨s0, s1, s2, s3, s4, s5⟩
       go_simp
       with_reducible rfl
      rotate_left
      ·simp only [Act.put, List.setIfInBounds_toArray, List.set_cons_zero, List.set_cons_succ, i64_w, i32_w]
       rfl
      refine pr_ 6 (some 59) (mkB 10 127) HT_ ?_
      refine take_ (i := 7) (N := some 60) (v := ?_) (a' := ?_) (mkB 10 255) rfl rfl (take_ofW HT_.out HW_.out (by kernel_rfl)) (fun _ _ _ h => h) (Or.inl ⟨by rfl, ?_⟩) hHeld ?_ ?_
      rotate_left
      ·rintro w' ⟨s0, s1, s2, s3, s4, s5⟩
       go_simp
       with_reducible rfl
      rotate_left
      ·simp only [Act.put, List.setIfInBounds_toArray, List.set_cons_zero, List.set_cons_succ, i64_w, i32_w]
       rfl
      refine one_ (i := 8) (N := some 14) (mkB 10 511) rfl rfl (one_of HT_.out (by kernel_rfl)) (by decide) (fun K hK => ?_)
      refine box_step ?hg (N := 14) ?hd (cs := #[.int .i64 0, .int .i64 0]) (t := 47) ?hr ?_; (case hd => rfl); (case hg => rfl); (case hr => first | (go_simp; done) | (go_simp; rfl))
      intro gb112 hg w58 hbox hb
      have BK112 := A_ (hbox); have GW112 := A_ ((szG hg (bW1 HB.out GE101.out))); have GE112 := A_ ((szG hg (bW1 HB.out GE101.out))); have NB101_112 := A_ ((bkL BK101 hg : gb101 ≠ gb112)); have NB112_101 := A_ ((bkG BK101 hg : gb112 ≠ gb101)); replace HO_11 := A_ (Kd.R_below (rU HO_11.out) hb); replace BK101 := A_ (bkB BK101 hb); replace HB := A_ (below_step (bW1 HB.out GE101.out) hb); clear hb hbox hg
      refine hK.out _ _ ⟨(blk_cell BK101.out 0).trans rfl, (blk_cell BK101.out 1).trans rfl, (blk_cell BK101.out 2).trans rfl, (pw_cell_below HB.out hw110_0), (pw_cell_below HB.out hw111_0), (pw_cell_below HB.out hw111_1)⟩ (fun hHeld => ?_)
      clear hK K
      refine norm_ (a' := ?_) ?_ ?_
      rotate_left
      ·show Act.put _ (some 14) _ = _
       simp only [Act.put, List.setIfInBounds_toArray, List.set_cons_zero, List.set_cons_succ, i64_w, i32_w]
       rfl
      refine one_ (i := 9) (N := none) (mkB 10 1023) rfl rfl (one_of HT_.out (by kernel_rfl)) (by decide) (fun K hK => ?_)
      have hs59 : w58.cell? ⟨gb112, 0, none⟩ = some (.int .i64 0) := (blk_cell BK112.out 0).trans rfl; have hfs59 := blk_frozen BK112.out 0; have hns59_0 := NB101_112.out; have hms59_0 := NB112_101.out; have hs60 : w58.cell? ⟨gb112, 1, none⟩ = some (.int .i64 0) := (blk_cell BK112.out 1).trans rfl; have hfs60 := blk_frozen BK112.out 1; have hns60_0 := NB101_112.out; have hms60_0 := NB112_101.out
      refine skip_ (w1 := ?_) (by rfl) rfl ?_ ?_
      rotate_left
      ·go_simp
       rfl
      refine hK.out _ _ ⟨((cell_far (p := ⟨gb112, _, none⟩) NB101_112.out _).trans (((cell_far (p := ⟨gb112, _, none⟩) NB101_112.out _).trans (hHeld.1)))), ((cell_far (p := ⟨gb112, _, none⟩) NB101_112.out _).trans (((cell_far (p := ⟨gb112, _, none⟩) NB101_112.out _).trans (hHeld.2.1)))), ((cell_far (p := ⟨gb112, _, none⟩) NB101_112.out _).trans (((cell_far (p := ⟨gb112, _, none⟩) NB101_112.out _).trans (hHeld.2.2.1)))), ((cell_far (p := ⟨gb112, _, none⟩) (by first | exact far1 hw110_0 GW112 | exact far2 hw110_0 GW112) _).trans (((cell_far (p := ⟨gb112, _, none⟩) (by first | exact far1 hw110_0 GW112 | exact far2 hw110_0 GW112) _).trans (hHeld.2.2.2.1)))), ((cell_far (p := ⟨gb112, _, none⟩) (by first | exact far1 hw111_0 GW112 | exact far2 hw111_0 GW112) _).trans (((cell_far (p := ⟨gb112, _, none⟩) (by first | exact far1 hw111_0 GW112 | exact far2 hw111_0 GW112) _).trans (hHeld.2.2.2.2.1)))), ((cell_far (p := ⟨gb112, _, none⟩) (by first | exact far1 hw111_1 GW112 | exact far2 hw111_1 GW112) _).trans (((cell_far (p := ⟨gb112, _, none⟩) (by first | exact far1 hw111_1 GW112 | exact far2 hw111_1 GW112) _).trans (hHeld.2.2.2.2.2))))⟩ (fun hHeld => ?_)
      clear hK K
      refine done_ (done_of HT_.out (by kernel_rfl)) ?_
      have hnb61 := NB112_101.out; have hnc61 := NB101_112.out; have hcz62_0 : w58.cell? ⟨gb112, 0, none⟩ = some (.int .i64 0) := (blk_cell BK112.out 0).trans rfl; have hcz62_1 : w58.cell? ⟨gb112, 1, none⟩ = some (.int .i64 0) := (blk_cell BK112.out 1).trans rfl; have hfz62_0 := blk_frozen BK112.out 0; have hfz62_1 := blk_frozen BK112.out 1; have p115 : 0 ≤ (((rd_T47 l0_1 (rd l4 x13_1)).f0) : Int) := oD; have q115 : ((rd_T47 l0_1 (rd l4 x13_1)).f0) < (x11_1.length : Int) := oD; obtain ⟨ad115, e115, hx115_0⟩ := Kd.at_bool (Kd.R_reads' HO_11.out).2.2 ((rd_T47 l0_1 (rd l4 x13_1)).f0) p115 q115
      (try rw [← Nbq55.out] at hx115_0)
      obtain rfl : (⟨go10, 0, none⟩ : Addr) = ad115 := (by injection e115)
      (first | simp only [add_plain] at hx115_0 | simp only [add_at] at hx115_0 | simp only [Addr.add, Nat.zero_add] at hx115_0 | skip)
      have hn115_0 : (⟨go10, 0, none⟩ : Addr).block ≠ gb112 := Kd.own_blk (Kd.R_ne HO_11.out BK112.out (by decide))
      have hn115_1 : (⟨go10, 0, none⟩ : Addr).block ≠ gb112 := Kd.own_blk (Kd.R_ne HO_11.out BK112.out (by decide))
      replace hx115_0 := (cell_far (p := ⟨gb112, 0, none⟩) (by first | (rw [add_block]; exact hn115_0) | (show (Addr.add _ _).block ≠ _; rw [add_block]; exact hn115_0) | exact hn115_0) (.int .i64 ((rd_T47 l0_1 (rd l4 x13_1)).f0))).trans hx115_0
      replace hx115_0 := (cell_far (p := ⟨gb112, 1, none⟩) (by first | (rw [add_block]; exact hn115_1) | (show (Addr.add _ _).block ≠ _; rw [add_block]; exact hn115_1) | exact hn115_1) (.int .i64 ((rd_T47 l0_1 (rd l4 x13_1)).f1))).trans hx115_0
      clear hn115_0; clear hn115_1; replace p115 := eq_true p115; replace q115 := eq_true q115
      try go_wp2
      go_ret
      exact ⟨eQ, (bW2 HB.out GE101.out GE112.out)⟩
     replace c56 := Bool.eq_false_iff.mpr c56; subst c56; rw [if_neg (show ¬ (false = true) by decide)] at H; obtain ⟨y116, hy116⟩ : ∃ y_ : List Bool, y_ = (x11_1.set (((rd_T47 l0_1 (rd l4 x13_1)).f0) : Int).toNat true) := ⟨_, rfl⟩
     replace H : (dropperref05_leads.l0 kj17 a1 a3 l4 y116 ((rd_T47 l0_1 (rd l4 x13_1)).f0) (wrap64 (x13_1 + 1)) a0_0 l0_1 l0_2) = some r := by first | (rw [hy116]; with_reducible exact H) | (have H2_ := (Option.bind_some _ _).symm.trans H; rw [hy116]; with_reducible exact H2_) | (have H2_ := (Option.bind_some _ _).symm.trans H; with_reducible exact H2_) | with_reducible exact H | (rw [hy116]; exact H) | exact H
     have Ny116 := A_ hy116; clear hy116; have H' := A_ H; clear H
     try go_wp2
     replace HO_11 := A_ (Kd.R_drew HO_11.out); replace BK101 := A_ (blk_drew BK101.out); replace HB := A_ (below_drew1 HB.out); have p110 : 0 ≤ (x13_1 : Int) := oD; have q110 : x13_1 < (l4.length : Int) := oD; obtain ⟨ad110, e110, hx110_0⟩ := Kd.at_int HR4.out x13_1 p110 q110; have hw110_0 := hx110_0
     cases e110
     replace hx110_0 := (HB.out.cell (World.block_lt_of_cell? w _ hx110_0)).trans hx110_0; replace p110 := eq_true p110; replace q110 := eq_true q110; have p111 : 0 ≤ ((rd l4 x13_1) : Int) := oD; have q111 : (rd l4 x13_1) < (l0_1.length : Int) := oD; obtain ⟨ad111, e111, hx111_0, hx111_1⟩ := at_T47 HR0_1.out (rd l4 x13_1) p111 q111; have hw111_1 := hx111_1; have hw111_0 := hx111_0
     cases e111
     replace hx111_0 := (HB.out.cell (World.block_lt_of_cell? w _ hx111_0)).trans hx111_0; replace hx111_1 := (HB.out.cell (World.block_lt_of_cell? w _ hx111_1)).trans hx111_1; replace p111 := eq_true p111; replace q111 := eq_true q111
     refine start_ (n := 10) (S := fun w' => w'.cell? ⟨gb101, 0, none⟩ = some (.int .i64 a0_0) ∧ w'.cell? ⟨gb101, 1, none⟩ = some (.slice (some ad111) l0_1.length c0_1) ∧ w'.cell? ⟨gb101, 2, none⟩ = some (.slice A0_2 l0_2.length c0_2) ∧ w'.cell? (ad110.add (x13_1).toNat) = some (.int .i64 (rd l4 x13_1)) ∧ w'.cell? (ad111.add (((rd l4 x13_1)).toNat * 2)) = some (.int .i64 ((rd_T47 l0_1 (rd l4 x13_1)).f0)) ∧ w'.cell? ⟨(ad111.add (((rd l4 x13_1)).toNat * 2)).block, (ad111.add (((rd l4 x13_1)).toNat * 2)).off + 1, none⟩ = some (.int .i64 ((rd_T47 l0_1 (rd l4 x13_1)).f1))) (ds := []) (mkB 10 0) (by kernel_rfl) rfl rfl ⟨(blk_cell BK101.out 0).trans rfl, (blk_cell BK101.out 1).trans rfl, (blk_cell BK101.out 2).trans rfl, (pw_cell_below HB.out hw110_0), (pw_cell_below HB.out hw111_0), (pw_cell_below HB.out hw111_1)⟩ (fun hHeld => ?_); refine with_tabW dropperref05_leads.tab9 dropperref05_leads.bits9 (fun HT_ HW_ => ?_)
     generalize wc.drew = w64 at HO_11 BK101 HB hx110_0 hx111_0 hx111_1 hHeld ⊢; refine pr_ 0 (some 53) (mkB 10 1) HT_ ?_; refine pr_ 2 (some 55) (mkB 10 5) HT_ ?_; refine pr_ 3 (some 56) (mkB 10 13) HT_ ?_; refine pr_ 4 (some 57) (mkB 10 29) HT_ ?_
     refine take_ (i := 1) (N := some 54) (v := ?_) (a' := ?_) (mkB 10 31) rfl rfl (take_ofW HT_.out HW_.out (by kernel_rfl)) (fun _ _ _ h => h) (Or.inl ⟨by rfl, ?_⟩) hHeld ?_ ?_
     rotate_left
     ·rintro w' ⟨s0, s1, s2, s3, s4, s5⟩
      go_simp
      with_reducible rfl
     rotate_left
     ·simp only [Act.put, List.setIfInBounds_toArray, List.set_cons_zero, List.set_cons_succ, i64_w, i32_w]
      rfl
     refine take_ (i := 5) (N := some 58) (v := ?_) (a' := ?_) (mkB 10 63) rfl rfl (take_ofW HT_.out HW_.out (by kernel_rfl)) (fun _ _ _ h => h) (Or.inl ⟨by rfl, ?_⟩) hHeld ?_ ?_
     rotate_left
     ·rintro w' ⟨s0, s1, s2, s3, s4, s5⟩
      go_simp
      with_reducible rfl
     rotate_left
     ·simp only [Act.put, List.setIfInBounds_toArray, List.set_cons_zero, List.set_cons_succ, i64_w, i32_w]
      rfl
     refine pr_ 6 (some 59) (mkB 10 127) HT_ ?_
     refine take_ (i := 7) (N := some 60) (v := ?_) (a' := ?_) (mkB 10 255) rfl rfl (take_ofW HT_.out HW_.out (by kernel_rfl)) (fun _ _ _ h => h) (Or.inl ⟨by rfl, ?_⟩) hHeld ?_ ?_
     rotate_left
     ·rintro w' ⟨s0, s1, s2, s3, s4, s5⟩
      go_simp
      with_reducible rfl
     rotate_left
     ·simp only [Act.put, List.setIfInBounds_toArray, List.set_cons_zero, List.set_cons_succ, i64_w, i32_w]
      rfl
     refine one_ (i := 8) (N := some 14) (mkB 10 511) rfl rfl (one_of HT_.out (by kernel_rfl)) (by decide) (fun K hK => ?_)
     refine box_step ?hg (N := 14) ?hd (cs := #[.int .i64 0, .int .i64 0]) (t := 47) ?hr ?_; (case hd => rfl); (case hg => rfl); (case hr => first | (go_simp; done) | (go_simp; rfl))
     intro gb112 hg w65 hbox hb
     have BK112 := A_ (hbox); have GW112 := A_ ((szG hg (bW1 HB.out GE101.out))); have GE112 := A_ ((szG hg (bW1 HB.out GE101.out))); have NB101_112 := A_ ((bkL BK101 hg : gb101 ≠ gb112)); have NB112_101 := A_ ((bkG BK101 hg : gb112 ≠ gb101)); replace HO_11 := A_ (Kd.R_below (rU HO_11.out) hb); replace BK101 := A_ (bkB BK101 hb); replace HB := A_ (below_step (bW1 HB.out GE101.out) hb); clear hb hbox hg
     refine hK.out _ _ ⟨(blk_cell BK101.out 0).trans rfl, (blk_cell BK101.out 1).trans rfl, (blk_cell BK101.out 2).trans rfl, (pw_cell_below HB.out hw110_0), (pw_cell_below HB.out hw111_0), (pw_cell_below HB.out hw111_1)⟩ (fun hHeld => ?_)
     clear hK K
     refine norm_ (a' := ?_) ?_ ?_
     rotate_left
     ·show Act.put _ (some 14) _ = _
      simp only [Act.put, List.setIfInBounds_toArray, List.set_cons_zero, List.set_cons_succ, i64_w, i32_w]
      rfl
     refine one_ (i := 9) (N := none) (mkB 10 1023) rfl rfl (one_of HT_.out (by kernel_rfl)) (by decide) (fun K hK => ?_)
     have hs66 : w65.cell? ⟨gb112, 0, none⟩ = some (.int .i64 0) := (blk_cell BK112.out 0).trans rfl; have hfs66 := blk_frozen BK112.out 0; have hns66_0 := NB101_112.out; have hms66_0 := NB112_101.out; have hs67 : w65.cell? ⟨gb112, 1, none⟩ = some (.int .i64 0) := (blk_cell BK112.out 1).trans rfl; have hfs67 := blk_frozen BK112.out 1; have hns67_0 := NB101_112.out; have hms67_0 := NB112_101.out
     refine skip_ (w1 := ?_) (by rfl) rfl ?_ ?_
     rotate_left
     ·go_simp
      rfl
     refine hK.out _ _ ⟨((cell_far (p := ⟨gb112, _, none⟩) NB101_112.out _).trans (((cell_far (p := ⟨gb112, _, none⟩) NB101_112.out _).trans (hHeld.1)))), ((cell_far (p := ⟨gb112, _, none⟩) NB101_112.out _).trans (((cell_far (p := ⟨gb112, _, none⟩) NB101_112.out _).trans (hHeld.2.1)))), ((cell_far (p := ⟨gb112, _, none⟩) NB101_112.out _).trans (((cell_far (p := ⟨gb112, _, none⟩) NB101_112.out _).trans (hHeld.2.2.1)))), ((cell_far (p := ⟨gb112, _, none⟩) (by first | exact far1 hw110_0 GW112 | exact far2 hw110_0 GW112) _).trans (((cell_far (p := ⟨gb112, _, none⟩) (by first | exact far1 hw110_0 GW112 | exact far2 hw110_0 GW112) _).trans (hHeld.2.2.2.1)))), ((cell_far (p := ⟨gb112, _, none⟩) (by first | exact far1 hw111_0 GW112 | exact far2 hw111_0 GW112) _).trans (((cell_far (p := ⟨gb112, _, none⟩) (by first | exact far1 hw111_0 GW112 | exact far2 hw111_0 GW112) _).trans (hHeld.2.2.2.2.1)))), ((cell_far (p := ⟨gb112, _, none⟩) (by first | exact far1 hw111_1 GW112 | exact far2 hw111_1 GW112) _).trans (((cell_far (p := ⟨gb112, _, none⟩) (by first | exact far1 hw111_1 GW112 | exact far2 hw111_1 GW112) _).trans (hHeld.2.2.2.2.2))))⟩ (fun hHeld => ?_)
     clear hK K
     refine done_ (done_of HT_.out (by kernel_rfl)) ?_
     have n0_ : Aside0 (Kd.R Kd.bool 4 ((w65.setCell ⟨gb112, 0, none⟩ (.int .i64 ((rd_T47 l0_1 (rd l4 x13_1)).f0))).setCell ⟨gb112, 1, none⟩ (.int .i64 ((rd_T47 l0_1 (rd l4 x13_1)).f1))) w.heap.size (fun _ => True) (.slice (some ⟨go10, 0, none⟩) x11_1.length co10) x11_1) := ⟨by (with_reducible repeat (first | apply Kd.R_alloc | apply Kd.R_drewN | apply Kd.R_drew)); exact Kd.R_mono (Kd.R_far (p := ⟨gb112, 1, none⟩) (Kd.R_far (p := ⟨gb112, 0, none⟩) (Kd.R_types HO_11.out BK112.out (by decide)) (fun _ hk => hk.2) (.int .i64 ((rd_T47 l0_1 (rd l4 x13_1)).f0))) (fun _ hk => hk.2) (.int .i64 ((rd_T47 l0_1 (rd l4 x13_1)).f1))) (fun _ hk => trivial)⟩
     have n1_ : Aside0 (((w65.setCell ⟨gb112, 0, none⟩ (.int .i64 ((rd_T47 l0_1 (rd l4 x13_1)).f0))).setCell ⟨gb112, 1, none⟩ (.int .i64 ((rd_T47 l0_1 (rd l4 x13_1)).f1))).heap[gb101]? = some (.cells #[.int .i64 a0_0, .slice (some ad111) l0_1.length c0_1, .slice A0_2 l0_2.length c0_2] 25 (0, 0))) := ⟨by refine bfW ?_ NB101_112.out; refine bfW ?_ NB101_112.out; exact bkU BK101⟩
     have n2_ : Aside0 (((w65.setCell ⟨gb112, 0, none⟩ (.int .i64 ((rd_T47 l0_1 (rd l4 x13_1)).f0))).setCell ⟨gb112, 1, none⟩ (.int .i64 ((rd_T47 l0_1 (rd l4 x13_1)).f1))).heap[gb112]? = some (.cells #[.int .i64 ((rd_T47 l0_1 (rd l4 x13_1)).f0), .int .i64 ((rd_T47 l0_1 (rd l4 x13_1)).f1)] 47 (0, 0))) := ⟨by (with_reducible repeat (first | refine blk_drewN ?_ _ | refine blk_drew ?_ | refine blk_alloc ?_ _)); refine blk_put (cs := #[.int .i64 ((rd_T47 l0_1 (rd l4 x13_1)).f0), .int .i64 0]) ?_ 1 _ rfl; (with_reducible repeat (first | refine blk_drewN ?_ _ | refine blk_drew ?_ | refine blk_alloc ?_ _)); refine blk_put (cs := #[.int .i64 0, .int .i64 0]) ?_ 0 _ rfl; exact bkU BK112⟩
     have n3_ : Aside0 (Below w.heap.size w ((w65.setCell ⟨gb112, 0, none⟩ (.int .i64 ((rd_T47 l0_1 (rd l4 x13_1)).f0))).setCell ⟨gb112, 1, none⟩ (.int .i64 ((rd_T47 l0_1 (rd l4 x13_1)).f1)))) := ⟨(bW2 HB.out GE101.out GE112.out)⟩
     (try clear HO_11)
     (try clear BK101)
     (try clear BK112)
     (try clear HB)
     generalize ((w65.setCell ⟨gb112, 0, none⟩ (.int .i64 ((rd_T47 l0_1 (rd l4 x13_1)).f0))).setCell ⟨gb112, 1, none⟩ (.int .i64 ((rd_T47 l0_1 (rd l4 x13_1)).f1))) = w68 at n0_ n1_ n2_ n3_ ⊢; have HO_11 := n0_; have BK101 := n1_; have BK112 := n2_; have HB := n3_; clear n0_ n1_ n2_ n3_; have hnb69 := NB112_101.out; have hnc69 := NB101_112.out; have hcz70_0 : w68.cell? ⟨gb112, 0, none⟩ = some (.int .i64 ((rd_T47 l0_1 (rd l4 x13_1)).f0)) := (blk_cell BK112.out 0).trans rfl; have hcz70_1 : w68.cell? ⟨gb112, 1, none⟩ = some (.int .i64 ((rd_T47 l0_1 (rd l4 x13_1)).f1)) := (blk_cell BK112.out 1).trans rfl; have hfz70_0 := blk_frozen BK112.out 0; have hfz70_1 := blk_frozen BK112.out 1; have p115 : 0 ≤ (((rd_T47 l0_1 (rd l4 x13_1)).f0) : Int) := oD; have q115 : ((rd_T47 l0_1 (rd l4 x13_1)).f0) < (x11_1.length : Int) := oD; obtain ⟨ad115, e115, hx115_0⟩ := Kd.at_bool (Kd.R_reads' HO_11.out).2.2 ((rd_T47 l0_1 (rd l4 x13_1)).f0) p115 q115
     (try rw [← Nbq55.out] at hx115_0)
     obtain rfl : (⟨go10, 0, none⟩ : Addr) = ad115 := (by injection e115)
     (first | simp only [add_plain] at hx115_0 | simp only [add_at] at hx115_0 | simp only [Addr.add, Nat.zero_add] at hx115_0 | skip)
     replace p115 := eq_true p115; replace q115 := eq_true q115; have p63 : 0 ≤ (((rd_T47 l0_1 (rd l4 x13_1)).f0) : Int) := oD; have q63 : (((rd_T47 l0_1 (rd l4 x13_1)).f0) : Int) < ((x11_1.length : Int) : Int) := oD; obtain ⟨hx63_0, hf63_0⟩ := Kd.R_celln false HO_11.out (((rd_T47 l0_1 (rd l4 x13_1)).f0) : Int) p63 q63; replace p63 := eq_true p63; replace q63 := eq_true q63; obtain ⟨hy71_, hz71_⟩ := Kd.R_celln false HO_11.out (((rd_T47 l0_1 (rd l4 x13_1)).f0) : Int) (oD) (oD); have HP71 := Kd.R_putg HO_11.out (((rd_T47 l0_1 (rd l4 x13_1)).f0) : Int) true
     try go_wp2_with (first | ((with_reducible refine gate_store (t := 4) (p := 80) rfl ?_); refine store_event (t := 4) (p := 80) (v := ?vo_w72) (w1 := (w68.setCell ⟨go10, (((rd_T47 l0_1 (rd l4 x13_1)).f0) : Int).toNat, none⟩ (.bool true))) ?hg ?ho ?hn ?hr ?_; (case ho => rfl); (case hg => rfl); (case hn => rfl); (case hr => first | (go_simp; done) | (go_simp; rfl)); intro w72 hw; have hg : w68.grownBy w72 (some go10) := (by rw [hw]; exact HP71.2); have hp_ : Kd.R Kd.bool 4 w72 w.heap.size (fun _ => True) (.slice (some ⟨go10, 0, none⟩) x11_1.length co10) y116 := (by rw [hw, Ny116.out]; exact HP71.1); clear HP71; have n0_ := A_ (hp_); have n1_ := A_ (blk_grown (g := gb101) (o := .cells #[.int .i64 a0_0, .slice (some ad111) l0_1.length c0_1, .slice A0_2 l0_2.length c0_2] 25 (0, 0)) (bkU BK101) hg (Kd.R_ne HO_11.out BK101.out (by decide))); have n2_ := A_ (blk_grown (g := gb112) (o := .cells #[.int .i64 ((rd_T47 l0_1 (rd l4 x13_1)).f0), .int .i64 ((rd_T47 l0_1 (rd l4 x13_1)).f1)] 47 (0, 0)) (bkU BK112) hg (Kd.R_ne HO_11.out BK112.out (by decide))); have n3_ := A_ ((by rw [hw]; exact below_set (HB.out) GB10.out : Below w.heap.size w w72)); clear HO_11; clear BK101; clear BK112; clear HB; have HO_11 := n0_; have BK101 := n1_; have BK112 := n2_; have HB := n3_; clear n0_ n1_ n2_ n3_; clear hg hw hp_))
     (try simp only [← hl11_1])
     go_roundg kj17
     case measure => have := HK1.out; have := HJ17.out; omega
     case rel => exact ⟨(y116), ((rd_T47 l0_1 (rd l4 x13_1)).f0), (wrap64 (x13_1 + 1)), eS, eS, H', ⟨by have := HK1.out; have := HJ17.out; omega⟩, ⟨by (try simp only [hl11_1]); (with_reducible repeat (first | apply Kd.R_alloc | apply Kd.R_drewN | apply Kd.R_drew)); exact HO_11.out⟩, ⟨by (try simp only [hl11_1]); exact bkU BK101⟩, ⟨(bW2 HB.out GE101.out GE112.out)⟩⟩
end Go.Proofs.YtbbjonbnmoomlaaDoor.G
end
