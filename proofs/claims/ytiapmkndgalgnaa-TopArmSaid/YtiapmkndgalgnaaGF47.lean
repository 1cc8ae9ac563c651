-- Written by this session's driver (wip/tools/printmore.py) over the kit's print, with hand-written parts.
import Derived.Test.YtiapmkndgalgnaaGBase
import Derived.Test.YtiapmkndgalgnaaGF23
import Derived.Test.YtiapmkndgalgnaaGF71
namespace Go.Proofs.Ytiapmkndgalgnaa.G
open Go.RowKit Go.Proofs.YtiapmkndgalgnaaW.PrintWords Go.Proofs.YtiapmkndgalgnaaW.PrintLast Go.Proofs.YtiapmkndgalgnaaW.PrintMore
attribute [local go_sem] max2_int min2_int max_two min_two max_three min_three max_four min_four   -- for this text's walks alone
set_option linter.unusedVariables false
set_option linter.unusedSimpArgs false

/-! ### arm_AreBlocks: function 47 -/
def arm_AreBlocks.i0 : Nat → List (S84) → (Int → Int → Int → Option (Bool × Int)) → Int → Int → Int → Option (Int × Int)
 | 0, _, _, _, _, _ => none
 | k + 1, x0, x1, x7, x8, en => if x8 < x7 then (if 0 ≤ x8 then (if x8 < (x0.length : Int) then ((x1 ((rd_T84 x0 x8).f0) ((rd_T84 x0 x8).f1) en).bind fun t102 => (if t102.1 = true then (some (x8, t102.2)) else (arm_AreBlocks.i0 k x0 x1 x7 (wrap64 (x8 + 1)) t102.2))) else (none)) else (none)) else (some (-1, en))
def arm_AreBlocks.c (k : Nat) (l0 : List (S84)) (a1 : (Int → Int → Int → Option (Bool × Int))) (en : Int) : Option (Bool × Int) := (arm_AreBlocks.i0 k l0 a1 (l0.length : Int) 0 en).bind fun t101 => (some (decide (t101.1 ≥ 0), t101.2))
def arm_AreBlocks.f (k : Nat) (l0 : List (S73)) (l1 : List (S84)) : Option (Bool × Int) := (arm_Valid.f k l0).bind fun t102 => (if t102 = true then (if (l1.length : Int) ≤ 30 then ((arm_AreBlocks.c k l1 (fun z0_ z1_ e_ => arm_AreBlocks_1.f k z0_ z1_ e_ l0) 0).bind fun t104 => (some (!t104.1, 0))) else (some (false, 0))) else (some (false, 20)))
theorem arm_AreBlocks.i0_mono (q q2 : Int → Int → Int → Option (Bool × Int)) (hq : ∀ a b c, LeO (q a b c) (q2 a b c)) : ∀ k l x y z, LeO (arm_AreBlocks.i0 k l q x y z) (arm_AreBlocks.i0 (k + 1) l q2 x y z)
 | 0 => fun _ _ _ _ r h => by simp [arm_AreBlocks.i0] at h
 | k + 1 => by
  have ih0 := arm_AreBlocks.i0_mono q q2 hq k
  intro l x y z
  unfold arm_AreBlocks.i0
  refine LeO.ite (LeO.ite (LeO.ite (LeO.bind (hq _ _ _) (fun _ => LeO.ite (LeO.refl _) (ih0 _ _ _ _))) (LeO.none _)) (LeO.none _)) (LeO.refl _)
theorem arm_AreBlocks.mono : ∀ a0 a1 k, LeO (arm_AreBlocks.f k a0 a1) (arm_AreBlocks.f (k + 1) a0 a1) := by
 intro a0 a1 k
 unfold arm_AreBlocks.f arm_AreBlocks.c
 exact LeO.bind (arm_Valid.mono _ _) (fun _ => LeO.ite (LeO.ite (LeO.bind (LeO.bind (arm_AreBlocks.i0_mono _ _ (fun _ _ _ => arm_AreBlocks_1.mono _ _ _ _ _) _ _ _ _ _) (fun _ => LeO.refl _)) (fun _ => LeO.refl _)) (LeO.refl _)) (LeO.refl _))
set_option maxHeartbeats 8000000 in
set_option maxRecDepth 100000 in
theorem arm_AreBlocks.i_calls (k : Nat) (A0 : Option Addr) (c0 : Nat) (l0 : List (S84)) {g1 : FuncId} {lb1 : Array Value} (hen1 : EntersF Try.prog g1) (a1 : (Int → Int → Int → Option (Bool × Int))) (I : Int → World → Prop) (r : Int) (en en' : Int) (w0 w : World) (hr0 : Kd.C k84 w0 A0 l0.length l0) (hc0 : l0.length ≤ c0) (hbI : ∀ (e_ : Int) (W_ : World), I e_ W_ → Below w0.heap.size w0 W_) (hfn1 : ∀ (z0_ : Int) (z1_ : Int) (e_ : Int) (q0_ : Bool) (e2_ : Int) (W_ : World), I e_ W_ → a1 z0_ z1_ e_ = some (q0_, e2_) → Calls Try.prog g1 (#[.agg #[.int .i64 z0_, .int .i64 z1_]] ++ lb1) W_ fun e w' => e = .returned (.bool q0_) ∧ I e2_ w') (hi : I en w) (h : arm_AreBlocks.i0 k l0 a1 (l0.length : Int) 0 en = some (r, en')) :
  Calls Try.prog 78 #[.slice A0 l0.length c0, .func (.func g1) #[] lb1] w fun e w' => e = .returned (.int .i64 r) ∧ I en' w' := by
 have hu84 := Try.underlying84
 have HR0 := A_ hr0
 have HC0 := A_ hc0
 clear hr0 hc0
 have HFN1 := A_ hfn1
 have HEN1 := A_ hen1
 have HBI := A_ hbI
 have HI := A_ hi
 clear hfn1 hen1 hbI hi
 have H : (arm_AreBlocks.i0 k l0 a1 (l0.length : Int) 0 en) = some (r, en') := h
 clear h
 have H' := A_ H
 clear H
 go_enter Try.func78, Try.ntmps78
 go_wp2
 go_loopg [8] k (fun kq v8 w' => ∃ (x8_1 : Int) (en_1 : Int), v8 = .int .i64 x8_1 ∧ Aside0 (arm_AreBlocks.i0 kq l0 a1 (l0.length : Int) x8_1 en_1 = some (r, en')) ∧ Aside0 (kq ≤ k) ∧ Aside0 (I en_1 w'))
 case atStart => exact ⟨(0), en, eS, H', ⟨Nat.le_refl _⟩, HI⟩
 case round =>
  clear H'
  try clear p2
  clear HI
  obtain ⟨x8_1, en_1, rfl, HA, HK1, HI⟩ := hrel
  have HB := A_ (HBI.out _ _ HI.out)
  cases gk with
  | zero => exact absurd HA.out (by simp [arm_AreBlocks.i0])
  | succ k1 =>
   have H := HA.out
   clear HA
   simp only [arm_AreBlocks.i0] at H
   by_cases c3 : x8_1 < (l0.length : Int)
   rotate_left
   ·rw [if_neg c3] at H
    have c3b0 : decide (x8_1 < (l0.length : Int)) = false := decide_eq_false c3
    clear c3
    simp only [Option.some.injEq, Prod.mk.injEq] at H; obtain ⟨rfl, rfl⟩ := H
    go_wp2
    go_ret
    exact ⟨(by first | rfl | (simp [errW_none, errW_some] <;> rfl) | (simp [*, errW_none, errW_some] <;> rfl)), HI.out⟩

   rw [if_pos c3] at H
   have c3b0 : decide (x8_1 < (l0.length : Int)) = true := decide_eq_true c3
   clear c3
   by_cases c4 : 0 ≤ x8_1
   rotate_left
   ·rw [if_neg c4] at H
    exact absurd H (by simp)
   rw [if_pos c4] at H
   have c4b0 : decide (0 ≤ x8_1) = true := decide_eq_true c4
   clear c4
   by_cases c5 : x8_1 < (l0.length : Int)
   rotate_left
   ·rw [if_neg c5] at H
    exact absurd H (by simp)
   rw [if_pos c5] at H
   have c5b0 : decide (x8_1 < (l0.length : Int)) = true := decide_eq_true c5
   clear c5
   replace H := Option.bind_eq_some_iff.mp H
   obtain ⟨⟨t102, e102⟩, A60, H⟩ := H
   replace H : (if t102 = true then (some (x8_1, e102)) else (arm_AreBlocks.i0 k1 l0 a1 (l0.length : Int) (wrap64 (x8_1 + 1)) e102)) = some (r, en') := H
   have A6 := A_ A60
   clear A60
   by_cases c7 : t102 = true
   ·subst c7
    have H1 : (some (x8_1, e102)) = some (r, en') := by rw [if_pos rfl] at H; exact H
    clear H
    have H := H1
    clear H1
    simp only [Option.some.injEq, Prod.mk.injEq] at H; obtain ⟨rfl, rfl⟩ := H
    have p101 : 0 ≤ (x8_1 : Int) := oD
    have q101 : x8_1 < (l0.length : Int) := oD
    obtain ⟨ad101, e101, hx101_0, hx101_1⟩ := at_T84 HR0.out x8_1 p101 q101
    cases e101
    replace hx101_0 := (HB.out.cell (World.block_lt_of_cell? w0 _ hx101_0)).trans hx101_0
    replace hx101_1 := (HB.out.cell (World.block_lt_of_cell? w0 _ hx101_1)).trans hx101_1
    replace p101 := eq_true p101
    replace q101 := eq_true q101
    go_wp2_with (first | ((with_reducible refine gate_fv (T := 11) rfl ?_); refine goesF_ (some 16) rfl rfl HEN1.out (lb := lb1) #[.agg #[.int .i64 ((rd_T84 l0 x8_1).f0), .int .i64 ((rd_T84 l0 x8_1).f1)]] rfl rfl (by (try simp only [List.map_toArray, List.map_cons, List.map_nil]); first | done | rfl | (simp only [List.length_drop, List.length_take]; rfl)) ?_; (with_reducible refine (HFN1.out ((rd_T84 l0 x8_1).f0) ((rd_T84 l0 x8_1).f1) en_1 true e102 _ HI.out A6.out).mono ?_); rintro e w9 ⟨rfl, hb⟩; refine ⟨_, rfl, ?_⟩; clear HB; clear HI; have HI := A_ hb; (try clear hb)))
    go_ret
    exact ⟨(by first | rfl | (simp [errW_none, errW_some] <;> rfl) | (simp [*, errW_none, errW_some] <;> rfl)), HI.out⟩
   replace c7 := Bool.eq_false_iff.mpr c7
   subst c7
   have H1 : (arm_AreBlocks.i0 k1 l0 a1 (l0.length : Int) (wrap64 (x8_1 + 1)) e102) = some (r, en') := by rw [if_neg (show ¬ (false = true) by decide)] at H; exact H
   clear H
   have H := H1
   clear H1
   have H' := A_ H
   clear H
   have p101 : 0 ≤ (x8_1 : Int) := oD
   have q101 : x8_1 < (l0.length : Int) := oD
   obtain ⟨ad101, e101, hx101_0, hx101_1⟩ := at_T84 HR0.out x8_1 p101 q101
   cases e101
   replace hx101_0 := (HB.out.cell (World.block_lt_of_cell? w0 _ hx101_0)).trans hx101_0
   replace hx101_1 := (HB.out.cell (World.block_lt_of_cell? w0 _ hx101_1)).trans hx101_1
   replace p101 := eq_true p101
   replace q101 := eq_true q101
   go_wp2_with (first | ((with_reducible refine gate_fv (T := 11) rfl ?_); refine goesF_ (some 16) rfl rfl HEN1.out (lb := lb1) #[.agg #[.int .i64 ((rd_T84 l0 x8_1).f0), .int .i64 ((rd_T84 l0 x8_1).f1)]] rfl rfl (by (try simp only [List.map_toArray, List.map_cons, List.map_nil]); first | done | rfl | (simp only [List.length_drop, List.length_take]; rfl)) ?_; (with_reducible refine (HFN1.out ((rd_T84 l0 x8_1).f0) ((rd_T84 l0 x8_1).f1) en_1 false e102 _ HI.out A6.out).mono ?_); rintro e w9 ⟨rfl, hb⟩; refine ⟨_, rfl, ?_⟩; clear HB; clear HI; have HI := A_ hb; (try clear hb)))
   go_roundg k1
   case measure => have := HK1.out; omega
   case rel => exact ⟨(wrap64 (x8_1 + 1)), e102, eS, H', ⟨by have := HK1.out; omega⟩, HI⟩
set_option maxHeartbeats 8000000 in
set_option maxRecDepth 100000 in
theorem arm_AreBlocks.c_calls (k : Nat) (A0 : Option Addr) (c0 : Nat) (l0 : List (S84)) {g1 : FuncId} {lb1 : Array Value} (hen1 : EntersF Try.prog g1) (a1 : (Int → Int → Int → Option (Bool × Int))) (I : Int → World → Prop) (r : Bool) (en en' : Int) (w0 w : World) (hr0 : Kd.C k84 w0 A0 l0.length l0) (hc0 : l0.length ≤ c0) (hbI : ∀ (e_ : Int) (W_ : World), I e_ W_ → Below w0.heap.size w0 W_) (hfn1 : ∀ (z0_ : Int) (z1_ : Int) (e_ : Int) (q0_ : Bool) (e2_ : Int) (W_ : World), I e_ W_ → a1 z0_ z1_ e_ = some (q0_, e2_) → Calls Try.prog g1 (#[.agg #[.int .i64 z0_, .int .i64 z1_]] ++ lb1) W_ fun e w' => e = .returned (.bool q0_) ∧ I e2_ w') (hi : I en w) (h : arm_AreBlocks.c k l0 a1 en = some (r, en')) :
  Calls Try.prog 72 #[.slice A0 l0.length c0, .func (.func g1) #[] lb1] w fun e w' => e = .returned (.bool r) ∧ I en' w' := by
 have HR0 := A_ hr0
 have HC0 := A_ hc0
 clear hr0 hc0
 have HFN1 := A_ hfn1
 have HEN1 := A_ hen1
 have HBI := A_ hbI
 have HI := A_ hi
 clear hfn1 hen1 hbI hi
 have H : ((arm_AreBlocks.i0 k l0 a1 (l0.length : Int) 0 en).bind fun t101 => (some (decide (t101.1 ≥ 0), t101.2))) = some (r, en') := h
 clear h
 replace H := Option.bind_eq_some_iff.mp H
 obtain ⟨⟨t101, e101⟩, A30, H⟩ := H
 replace H : (some (decide (t101 ≥ 0), e101)) = some (r, en') := H
 have A3 := A_ A30
 clear A30
 simp only [Option.some.injEq, Prod.mk.injEq] at H; obtain ⟨rfl, rfl⟩ := H
 go_enter Try.func72, Try.ntmps72
 go_wp2_with (first | ((with_reducible refine gate_callee (f := 78) rfl ?_); refine goesW_ (some 7) Try.func78 #[.slice A0 l0.length c0, .func (.func g1) #[] lb1] ?_; (with_reducible refine (arm_AreBlocks.i_calls k _ _ l0 HEN1.out a1 I t101 en e101 w0 _ ?side1 ?side2 ?side3 ?side4 ?side5 A3.out).mono ?_); (case side1 => exact HR0.out); (case side2 => exact HC0.out); (case side3 => exact HBI.out); (case side4 => exact HFN1.out); (case side5 => exact HI.out); rintro e w4 ⟨rfl, hb⟩; refine ⟨_, rfl, ?_⟩; clear HI; have HI := A_ hb; (try clear hb)))
 go_ret
 exact ⟨(by first | rfl | (simp [errW_none, errW_some] <;> rfl) | (simp [*, errW_none, errW_some] <;> rfl)), HI.out⟩
set_option maxHeartbeats 8000000 in
set_option maxRecDepth 100000 in
theorem arm_AreBlocks.calls (k : Nat) (A0 : Option Addr) (c0 : Nat) (l0 : List (S73)) (A1 : Option Addr) (c1 : Nat) (l1 : List (S84)) (r1 : Bool) (r2 : Int) (w : World) (hr0 : Kd.C k73 w A0 l0.length l0) (hc0 : l0.length ≤ c0) (hr1 : Kd.C k84 w A1 l1.length l1) (hc1 : l1.length ≤ c1) (h : arm_AreBlocks.f k l0 l1 = some (r1, r2)) :
  Calls Try.prog 47 #[.slice A0 l0.length c0, .slice A1 l1.length c1] w fun e w' => e = .returned (.tuple #[.bool r1, .int .i64 r2]) ∧ Below w.heap.size w w' := by
 have HR0 := A_ hr0
 have HC0 := A_ hc0
 clear hr0 hc0
 have HR1 := A_ hr1
 have HC1 := A_ hc1
 clear hr1 hc1
 have HB := A_ (Below.refl w.heap.size w)
 have H : ((arm_Valid.f k l0).bind fun t102 => (if t102 = true then (if (l1.length : Int) ≤ 30 then ((arm_AreBlocks.c k l1 (fun z0_ z1_ e_ => arm_AreBlocks_1.f k z0_ z1_ e_ l0) 0).bind fun t104 => (some (!t104.1, 0))) else (some (false, 0))) else (some (false, 20)))) = some (r1, r2) := h
 clear h
 replace H := Option.bind_eq_some_iff.mp H
 obtain ⟨t102, A30, H⟩ := H
 replace H : (if t102 = true then (if (l1.length : Int) ≤ 30 then ((arm_AreBlocks.c k l1 (fun z0_ z1_ e_ => arm_AreBlocks_1.f k z0_ z1_ e_ l0) 0).bind fun t104 => (some (!t104.1, 0))) else (some (false, 0))) else (some (false, 20))) = some (r1, r2) := H
 have A3 := A_ A30
 clear A30
 by_cases c4 : t102 = true
 rotate_left
 ·replace c4 := Bool.eq_false_iff.mpr c4
  subst c4
  have H1 : (some (false, 20)) = some (r1, r2) := by rw [if_neg (show ¬ (false = true) by decide)] at H; exact H
  clear H
  have H := H1
  clear H1
  simp only [Option.some.injEq, Prod.mk.injEq] at H
  obtain ⟨rfl, rfl⟩ := H
  go_enter Try.func47, Try.ntmps47
  go_wp2_with (first | ((with_reducible refine gate_dst (N := 2) rfl ?_); refine bxW 2 (cs := #[.slice A0 l0.length c0]) (t := 30) ?_; intro gb101 hg w20 hbox hb; have n0_ := A_ (below_step (bW0 HB.out) hb); have n1_ := A_ (hbox); have n2_ := A_ ((szG hg (bW0 HB.out))); have n3_ := A_ ((szG hg (bW0 HB.out))); clear HB; have HB := n0_; have BK101 := n1_; have GW101 := n2_; have GE101 := n3_; clear n0_ n1_ n2_ n3_; clear hb hbox hg; have hcz21_0 : w20.cell? ⟨gb101, 0, none⟩ = some (.slice A0 l0.length c0) := (blk_cell BK101.out 0).trans rfl; have hfz21_0 := blk_frozen BK101.out 0) | ((with_reducible refine gate_callee (f := 23) rfl ?_); refine goesW_ (some 9) Try.func23 #[.slice A0 l0.length c0] ?_; (with_reducible refine (arm_Valid.calls k _ _ l0 false _ ?side1 ?side2 A3.out).mono ?_); (case side1 => exact cU (Kd.C_below HR0.out HB.out)); (case side2 => exact HC0.out); rintro e w22 ⟨rfl, hb⟩; refine ⟨_, rfl, ?_⟩; have n0_ := A_ (bkB BK101 hb); have n1_ := A_ (below_step (bW1 HB.out GE101.out) hb); clear BK101; clear HB; have BK101 := n0_; have HB := n1_; clear n0_ n1_; (try clear hb)))
  go_ret2
  exact ⟨eQ, by repeat (first | (with_reducible first | exact HB.out | apply below_alloc | apply pw_below_drewN | apply below_drew1 | refine below_set ?_ GE101.out) | exact HB.out)⟩

 subst c4
 have H1 : (if (l1.length : Int) ≤ 30 then ((arm_AreBlocks.c k l1 (fun z0_ z1_ e_ => arm_AreBlocks_1.f k z0_ z1_ e_ l0) 0).bind fun t104 => (some (!t104.1, 0))) else (some (false, 0))) = some (r1, r2) := by rw [if_pos rfl] at H; exact H
 clear H
 have H := H1
 clear H1
 by_cases c5 : (l1.length : Int) ≤ 30
 rotate_left
 ·rw [if_neg c5] at H
  have c5b0 : decide ((l1.length : Int) ≤ 30) = false := decide_eq_false c5
  have c5b1 : decide (l1.length ≤ 30) = false := decide_eq_false (by omega)
  clear c5
  simp only [Option.some.injEq, Prod.mk.injEq] at H
  obtain ⟨rfl, rfl⟩ := H
  go_enter Try.func47, Try.ntmps47
  go_wp2_with (first | ((with_reducible refine gate_dst (N := 2) rfl ?_); refine bxW 2 (cs := #[.slice A0 l0.length c0]) (t := 30) ?_; intro gb101 hg w14 hbox hb; have n0_ := A_ (below_step (bW0 HB.out) hb); have n1_ := A_ (hbox); have n2_ := A_ ((szG hg (bW0 HB.out))); have n3_ := A_ ((szG hg (bW0 HB.out))); clear HB; have HB := n0_; have BK101 := n1_; have GW101 := n2_; have GE101 := n3_; clear n0_ n1_ n2_ n3_; clear hb hbox hg; have hcz15_0 : w14.cell? ⟨gb101, 0, none⟩ = some (.slice A0 l0.length c0) := (blk_cell BK101.out 0).trans rfl; have hfz15_0 := blk_frozen BK101.out 0) | ((with_reducible refine gate_callee (f := 23) rfl ?_); refine goesW_ (some 9) Try.func23 #[.slice A0 l0.length c0] ?_; (with_reducible refine (arm_Valid.calls k _ _ l0 true _ ?side1 ?side2 A3.out).mono ?_); (case side1 => exact cU (Kd.C_below HR0.out HB.out)); (case side2 => exact HC0.out); rintro e w16 ⟨rfl, hb⟩; refine ⟨_, rfl, ?_⟩; have n0_ := A_ (bkB BK101 hb); have n1_ := A_ (below_step (bW1 HB.out GE101.out) hb); clear BK101; clear HB; have BK101 := n0_; have HB := n1_; clear n0_ n1_; (try clear hb)) | ((with_reducible refine gate_dst (N := 6) rfl ?_); refine bxW 6 (cs := #[.int .i64 0]) (t := 3) ?_; intro gb103 hg w17 hbox hb; have n0_ := A_ (bkB BK101 hb); have n1_ := A_ (below_step (bW1 HB.out GE101.out) hb); have n2_ := A_ (hbox); have n3_ := A_ ((szG hg (bW1 HB.out GE101.out))); have n4_ := A_ ((szG hg (bW1 HB.out GE101.out))); have n5_ := A_ ((bkL BK101 hg : gb101 ≠ gb103)); have n6_ := A_ ((bkG BK101 hg : gb103 ≠ gb101)); clear BK101; clear HB; have BK101 := n0_; have HB := n1_; have BK103 := n2_; have GW103 := n3_; have GE103 := n4_; have NB101_103 := n5_; have NB103_101 := n6_; clear n0_ n1_ n2_ n3_ n4_ n5_ n6_; clear hb hbox hg; have hnb18 := NB103_101.out; have hnc18 := NB101_103.out; have hcz19_0 : w17.cell? ⟨gb103, 0, none⟩ = some (.int .i64 0) := (blk_cell BK103.out 0).trans rfl; have hfz19_0 := blk_frozen BK103.out 0))
  go_ret2
  exact ⟨eQ, by repeat (first | (with_reducible first | exact HB.out | apply below_alloc | apply pw_below_drewN | apply below_drew1 | refine below_set ?_ GE101.out | refine below_set ?_ GE103.out) | exact HB.out)⟩
 rw [if_pos c5] at H
 have c5b0 : decide ((l1.length : Int) ≤ 30) = true := decide_eq_true c5
 have c5b1 : decide (l1.length ≤ 30) = true := decide_eq_true (by omega)
 clear c5
 replace H := Option.bind_eq_some_iff.mp H
 obtain ⟨⟨t104, t105⟩, A60, H⟩ := H
 replace H : (some (!t104, 0)) = some (r1, r2) := H
 have A6 := A_ A60
 clear A60
 simp only [Option.some.injEq, Prod.mk.injEq] at H
 obtain ⟨rfl, rfl⟩ := H
 go_enter Try.func47, Try.ntmps47
 go_wp2_with (first | ((with_reducible refine gate_dst (N := 2) rfl ?_); refine bxW 2 (cs := #[.slice A0 l0.length c0]) (t := 30) ?_; intro gb101 hg w7 hbox hb; have n0_ := A_ (below_step (bW0 HB.out) hb); have n1_ := A_ (hbox); have n2_ := A_ ((szG hg (bW0 HB.out))); have n3_ := A_ ((szG hg (bW0 HB.out))); clear HB; have HB := n0_; have BK101 := n1_; have GW101 := n2_; have GE101 := n3_; clear n0_ n1_ n2_ n3_; clear hb hbox hg; have hcz8_0 : w7.cell? ⟨gb101, 0, none⟩ = some (.slice A0 l0.length c0) := (blk_cell BK101.out 0).trans rfl; have hfz8_0 := blk_frozen BK101.out 0) | ((with_reducible refine gate_callee (f := 23) rfl ?_); refine goesW_ (some 9) Try.func23 #[.slice A0 l0.length c0] ?_; (with_reducible refine (arm_Valid.calls k _ _ l0 true _ ?side1 ?side2 A3.out).mono ?_); (case side1 => exact cU (Kd.C_below HR0.out HB.out)); (case side2 => exact HC0.out); rintro e w9 ⟨rfl, hb⟩; refine ⟨_, rfl, ?_⟩; have n0_ := A_ (bkB BK101 hb); have n1_ := A_ (below_step (bW1 HB.out GE101.out) hb); clear BK101; clear HB; have BK101 := n0_; have HB := n1_; clear n0_ n1_; (try clear hb)) | ((with_reducible refine gate_dst (N := 6) rfl ?_); refine bxW 6 (cs := #[.int .i64 0]) (t := 3) ?_; intro gb103 hg w10 hbox hb; have n0_ := A_ (bkB BK101 hb); have n1_ := A_ (below_step (bW1 HB.out GE101.out) hb); have n2_ := A_ (hbox); have n3_ := A_ ((szG hg (bW1 HB.out GE101.out))); have n4_ := A_ ((szG hg (bW1 HB.out GE101.out))); have n5_ := A_ ((bkL BK101 hg : gb101 ≠ gb103)); have n6_ := A_ ((bkG BK101 hg : gb103 ≠ gb101)); clear BK101; clear HB; have BK101 := n0_; have HB := n1_; have BK103 := n2_; have GW103 := n3_; have GE103 := n4_; have NB101_103 := n5_; have NB103_101 := n6_; clear n0_ n1_ n2_ n3_ n4_ n5_ n6_; clear hb hbox hg; have hnb11 := NB103_101.out; have hnc11 := NB101_103.out; have hcz12_0 : w10.cell? ⟨gb103, 0, none⟩ = some (.int .i64 0) := (blk_cell BK103.out 0).trans rfl; have hfz12_0 := blk_frozen BK103.out 0) | (go_at_call 72; (with_reducible refine (arm_AreBlocks.c_calls k _ _ l1 (enters_f Try.func71 (by kernel_rfl) rfl) (fun z0_ z1_ e_ => arm_AreBlocks_1.f k z0_ z1_ e_ l0) (fun e_ W_ => Below w.heap.size w W_ ∧ W_.heap[gb103]? = some (.cells #[.int .i64 e_] 3 (0, 0)) ∧ W_.heap[gb101]? = some (.cells #[.slice A0 l0.length c0] 30 (0, 0))) t104 0 t105 w _ ?side1 ?side2 ?side3 ?side4 ?side5 A6.out).mono ?_); (case side1 => exact HR1.out); (case side2 => exact HC1.out); (case side3 => exact fun e_ W_ h_ => h_.1); (case side4 => intro z0_ z1_ e_ q0_ e2_ W_ hI_ hq_; exact (arm_AreBlocks_1.calls k z0_ z1_ gb103 e_ gb101 _ _ l0 q0_ e2_ w.heap.size W_ GE103.out NB103_101.out hI_.2.1 hI_.2.2 (Kd.C_below HR0.out hI_.1) HC0.out hq_).mono (fun _ _ h_ => ⟨h_.1, Below.trans hI_.1 h_.2.1, h_.2.2.1, h_.2.2.2⟩)); (case side5 => exact ⟨by repeat (first | (with_reducible first | exact HB.out | apply below_alloc | apply pw_below_drewN | apply below_drew1 | refine below_set ?_ GE101.out | refine below_set ?_ GE103.out) | exact HB.out), (by (with_reducible repeat (first | refine blk_drewN ?_ _ | refine blk_drew ?_ | refine blk_alloc ?_ _)); refine blk_put (cs := #[.int .i64 0]) ?_ 0 _ rfl; exact bkU BK103), bkF1 BK101 NB101_103⟩); rintro e w13 ⟨rfl, hI⟩; clear BK101; clear BK103; clear HB; have HB := A_ hI.1; clear hI))
 go_ret2
 exact ⟨eQ, by repeat (first | (with_reducible first | exact HB.out | apply below_alloc | apply pw_below_drewN | apply below_drew1 | refine below_set ?_ GE101.out | refine below_set ?_ GE103.out) | exact HB.out)⟩

end Go.Proofs.Ytiapmkndgalgnaa.G
