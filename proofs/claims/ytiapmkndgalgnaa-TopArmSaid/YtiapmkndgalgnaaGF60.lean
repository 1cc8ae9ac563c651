-- Written by this session's driver (wip/tools/printmore.py) over the kit's print, with hand-written parts.
import Derived.Test.YtiapmkndgalgnaaGBase
import Derived.Test.YtiapmkndgalgnaaGF58
namespace Go.Proofs.Ytiapmkndgalgnaa.G
open Go.RowKit Go.Proofs.YtiapmkndgalgnaaW.PrintWords Go.Proofs.YtiapmkndgalgnaaW.PrintLast Go.Proofs.YtiapmkndgalgnaaW.PrintMore
attribute [local go_sem] max2_int min2_int max_two min_two max_three min_three max_four min_four   -- for this text's walks alone
set_option linter.unusedVariables false
set_option linter.unusedSimpArgs false

/-! ### arm_pieces: function 60 -/
def arm_pieces.l0 : Nat → List (S73) → List Int → Int → Int → Option (List Int)
 | 0, _, _, _, _ => none
 | k + 1, x0, x3, x8, x9 => if x9 < x8 then (if 0 ≤ (wrap64 ((x3.length : Int) - 1)) then (if (wrap64 ((x3.length : Int) - 1)) < (x3.length : Int) then (if 0 ≤ (rd x3 (wrap64 ((x3.length : Int) - 1))) then (if (rd x3 (wrap64 ((x3.length : Int) - 1))) ≤ (wrap64 (x9 + 1)) then (if (wrap64 (x9 + 1)) ≤ (x0.length : Int) then ((arm_can.f k ((x0.take ((wrap64 (x9 + 1)) : Int).toNat).drop ((rd x3 (wrap64 ((x3.length : Int) - 1))) : Int).toNat)).bind fun t109 => (if t109 = true then (arm_pieces.l0 k x0 x3 x8 (wrap64 (x9 + 1))) else (if x3.length < 17592186044416 then (arm_pieces.l0 k x0 (x3 ++ [x9]) x8 (wrap64 (x9 + 1))) else (none)))) else (none)) else (none)) else (none)) else (none)) else (none)) else (some x3)
def arm_pieces.f (k : Nat) (l0 : List (S73)) : Option (List Int) := arm_pieces.l0 k l0 (([0] : List Int)) (l0.length : Int) 0
theorem arm_pieces.mono_l : ∀ k, (∀ y0 y1 y2 y3, LeO (arm_pieces.l0 k y0 y1 y2 y3) (arm_pieces.l0 (k + 1) y0 y1 y2 y3))
 | 0 => fun _ _ _ _ r h => by simp [arm_pieces.l0] at h
 | k + 1 => by
  have ih0 := arm_pieces.mono_l k
  ·intro y0 y1 y2 y3
   unfold arm_pieces.l0
   repeat' first
   | (with_reducible exact ih0 _ _ _ _)
   | (with_reducible exact arm_can.mono _ _)
   | (with_reducible exact LeO.refl _)
   | (with_reducible exact LeO.none _)
   | (with_reducible refine LeO.ite ?_ ?_)
   | (with_reducible refine LeO.bind ?_ (fun _ => ?_))
   | exact ih0 _ _ _ _
   | exact arm_can.mono _ _
   | exact LeO.none _
   | refine LeO.ite ?_ ?_
   | refine LeO.bind ?_ (fun _ => ?_)
theorem arm_pieces.mono : ∀ a0 k, LeO (arm_pieces.f k a0) (arm_pieces.f (k + 1) a0) := by
 intro a0 k
 have ih0 := arm_pieces.mono_l k
 unfold arm_pieces.f
 repeat' first
   | (with_reducible exact ih0 _ _ _ _)
   | (with_reducible exact arm_can.mono _ _)
   | (with_reducible exact LeO.refl _)
   | (with_reducible exact LeO.none _)
   | (with_reducible refine LeO.ite ?_ ?_)
   | (with_reducible refine LeO.bind ?_ (fun _ => ?_))
   | exact ih0 _ _ _ _
   | exact arm_can.mono _ _
   | exact LeO.none _
   | refine LeO.ite ?_ ?_
   | refine LeO.bind ?_ (fun _ => ?_)
set_option maxHeartbeats 8000000 in
set_option maxRecDepth 100000 in
theorem arm_pieces.calls (k : Nat) (A0 : Option Addr) (c0 : Nat) (l0 : List (S73)) (r : List Int) (w : World) (hr0 : Kd.C k73 w A0 l0.length l0) (hc0 : l0.length ≤ c0) (h : arm_pieces.f k l0 = some r) :
  Calls Try.prog 60 #[.slice A0 l0.length c0] w fun e w' => ∃ v0_ : Value, e = .returned (v0_) ∧ Kd.R (Kd.int .i64) 3 w' w.heap.size (fun _ => True) v0_ r ∧ Below w.heap.size w w' := by
 have HR0 := A_ hr0; have HC0 := A_ hc0; clear hr0 hc0; have HB := A_ (Below.refl w.heap.size w); have H : (arm_pieces.l0 k l0 (([0] : List Int)) (l0.length : Int) 0) = some r := h; clear h; obtain ⟨y101, hy101⟩ : ∃ y_ : List Int, y_ = (([0] : List Int)) := ⟨_, rfl⟩
 replace H : (arm_pieces.l0 k l0 y101 (l0.length : Int) 0) = some r := by first | (rw [hy101]; with_reducible exact H) | (have H2_ := (Option.bind_some _ _).symm.trans H; rw [hy101]; with_reducible exact H2_) | (have H2_ := (Option.bind_some _ _).symm.trans H; with_reducible exact H2_) | with_reducible exact H | (rw [hy101]; exact H) | exact H
 have Ny101 := A_ hy101; clear hy101; have H' := A_ H; clear H
 go_enter Try.func60, Try.ntmps60
 go_wp2_with (first | ((with_reducible refine gate_dst (N := 6) rfl ?_); refine Kd.R_lit (Kd.int .i64) _ 3 ?hg (N := 6) ?hd (xs := ([0] : List Int)) (inner := [.int .i64 0]) (ok := fun _ => True) (okp := fun _ => True) ?hr ?hp (fun _ hk => hk) trivial (Below.refl _ _) (Nat.le_refl _) (by simp) ?_; (case hd => rfl); (case hg => rfl); (case hr => first | (go_simp; done) | (go_simp; rfl)); (case hp => exact (Reps.one (show Kd.M (Kd.int .i64) _ _ _ 0 [.int .i64 0] from rfl) (Reps.none _ _))); intro v102 w2 ho3 hb hg_ hnew_; clear hg_ hnew_; (first | rw [← Ny101.out] at ho3 | (simp only [Int.reduceToNat] at ho3; rw [← Ny101.out] at ho3)); have n0_ := A_ (Kd.R_lower ho3 (below_size (bW0 HB.out))); have n1_ := A_ (below_step (bW0 HB.out) hb); clear HB; have HO103 := n0_; have HB := n1_; clear n0_ n1_; clear hb ho3))
 go_loopg [3, 9] k (fun kq v3 v9 w' => ∃ (x3_1 : List Int) (x9_1 : Int), v9 = .int .i64 x9_1 ∧ Aside0 (arm_pieces.l0 kq l0 x3_1 (l0.length : Int) x9_1 = some r) ∧ Aside0 (kq ≤ k) ∧ Aside0 (Kd.R (Kd.int .i64) 3 w' w.heap.size (fun _ => True) v3 x3_1) ∧ Aside0 (Below w.heap.size w w'))
 case atStart => exact ⟨(y101), (0), eS, H', ⟨Nat.le_refl _⟩, ⟨rU HO103.out⟩, ⟨by repeat (first | (with_reducible first | exact HB.out | apply below_alloc | apply pw_below_drewN | apply below_drew1) | exact HB.out)⟩⟩
 case round =>
  clear H'
  try clear p2
  obtain ⟨x3_1, x9_1, rfl, HA, HK1, HO_3, HB⟩ := hrel
  cases gk with
  | zero => exact absurd HA.out (by simp [arm_pieces.l0])
  | succ k1 =>
   have H := HA.out; clear HA; simp only [arm_pieces.l0] at H; by_cases c4 : x9_1 < (l0.length : Int); rotate_left
   ·rw [if_neg c4] at H
    have c4b0 : decide (x9_1 < (l0.length : Int)) = false := decide_eq_false c4; clear c4; obtain rfl := Option.some.inj H
    go_wp2
    go_ret
    exact ⟨_, by first | rfl | (simp [errW_none, errW_some] <;> rfl) | (simp [*, errW_none, errW_some] <;> rfl), by (with_reducible repeat (first | apply Kd.R_alloc | apply Kd.R_drewN | apply Kd.R_drew)); exact HO_3.out, by repeat (first | (with_reducible first | exact HB.out | apply below_alloc | apply pw_below_drewN | apply below_drew1) | exact HB.out)⟩

   rw [if_pos c4] at H; have c4b0 : decide (x9_1 < (l0.length : Int)) = true := decide_eq_true c4; clear c4; obtain ⟨ji5, hji5⟩ : ∃ j_ : Int, (wrap64 ((x3_1.length : Int) - 1)) = j_ := ⟨_, rfl⟩
   replace H : (if 0 ≤ (ji5) then (if (ji5) < (x3_1.length : Int) then (if 0 ≤ (rd x3_1 (ji5)) then (if (rd x3_1 (ji5)) ≤ (wrap64 (x9_1 + 1)) then (if (wrap64 (x9_1 + 1)) ≤ (l0.length : Int) then ((arm_can.f k1 ((l0.take ((wrap64 (x9_1 + 1)) : Int).toNat).drop ((rd x3_1 (ji5)) : Int).toNat)).bind fun t109 => (if t109 = true then (arm_pieces.l0 k1 l0 x3_1 (l0.length : Int) (wrap64 (x9_1 + 1))) else (if x3_1.length < 17592186044416 then (arm_pieces.l0 k1 l0 (x3_1 ++ [x9_1]) (l0.length : Int) (wrap64 (x9_1 + 1))) else (none)))) else (none)) else (none)) else (none)) else (none)) else (none)) = some r := by first | (rw [hji5] at H; exact H) | (simp only [hji5] at H ⊢; exact H)
   have hji5w : (IntKind.i64.wrap ((x3_1.length : Int) - 1)) = ji5 := (i64_w _).trans hji5; by_cases c6 : 0 ≤ (ji5); rotate_left
   ·rw [if_neg c6] at H
    exact absurd H (by simp)
   rw [if_pos c6] at H; have c6b0 : decide (0 ≤ (ji5)) = true := decide_eq_true c6; clear c6; by_cases c7 : (ji5) < (x3_1.length : Int); rotate_left
   ·rw [if_neg c7] at H
    exact absurd H (by simp)
   rw [if_pos c7] at H; have c7b0 : decide ((ji5) < (x3_1.length : Int)) = true := decide_eq_true c7; clear c7; by_cases c8 : 0 ≤ (rd x3_1 (ji5)); rotate_left
   ·rw [if_neg c8] at H
    exact absurd H (by simp)
   rw [if_pos c8] at H; have c8b0 := eq_true c8; have c8b1 : decide (0 ≤ (rd x3_1 (ji5))) = true := decide_eq_true c8; clear c8; by_cases c9 : (rd x3_1 (ji5)) ≤ (wrap64 (x9_1 + 1)); rotate_left
   ·rw [if_neg c9] at H
    exact absurd H (by simp)
   rw [if_pos c9] at H; have c9b0 := eq_true c9; have c9b1 : decide ((rd x3_1 (ji5)) ≤ (wrap64 (x9_1 + 1))) = true := decide_eq_true c9; by_cases c10 : (wrap64 (x9_1 + 1)) ≤ (l0.length : Int); rotate_left
   ·rw [if_neg c10] at H
    exact absurd H (by simp)
   rw [if_pos c10] at H; have c10b0 := eq_true c10; have c10b1 : decide ((wrap64 (x9_1 + 1)) ≤ (l0.length : Int)) = true := decide_eq_true c10; obtain ⟨y105, hy105⟩ : ∃ y_ : List (S73), y_ = ((l0.take ((wrap64 (x9_1 + 1)) : Int).toNat).drop ((rd x3_1 (ji5)) : Int).toNat) := ⟨_, rfl⟩
   replace H : ((arm_can.f k1 y105).bind fun t109 => (if t109 = true then (arm_pieces.l0 k1 l0 x3_1 (l0.length : Int) (wrap64 (x9_1 + 1))) else (if x3_1.length < 17592186044416 then (arm_pieces.l0 k1 l0 (x3_1 ++ [x9_1]) (l0.length : Int) (wrap64 (x9_1 + 1))) else (none)))) = some r := by first | (rw [hy105]; with_reducible exact H) | (have H2_ := (Option.bind_some _ _).symm.trans H; rw [hy105]; with_reducible exact H2_) | (have H2_ := (Option.bind_some _ _).symm.trans H; with_reducible exact H2_) | with_reducible exact H | (rw [hy105]; exact H) | exact H
   have Ny105 := A_ hy105; clear hy105; replace H := Option.bind_eq_some_iff.mp H; obtain ⟨t109, A110, H⟩ := H; (try dsimp only at H); have A11 := A_ A110; clear A110; by_cases c12 : t109 = true
   ·subst c12
    rw [if_pos rfl] at H; have H' := A_ H; clear H; obtain ⟨Ao13, co13, eo13⟩ := Kd.R_slice HO_3.out; subst eo13; have p104 : 0 ≤ ((ji5) : Int) := oD; have q104 : (ji5) < (x3_1.length : Int) := oD; obtain ⟨ad104, e104, hx104_0⟩ := Kd.at_int (Kd.R_reads' HO_3.out).2.2 (ji5) p104 q104
    cases e104
    replace p104 := eq_true p104; replace q104 := eq_true q104; have q14 : ((wrap64 (x9_1 + 1)) : Int) ≤ ((l0.length : Int) : Int) := oD; obtain ⟨i014, hi014, _, hsz14, _⟩ := info_parts info73; have hroom14 : l0.length ≤ c0 := HC0.out; have hC14 : Kd.C k73 _ A0 l0.length l0 := HR0.out; have ql14 : ((rd x3_1 (ji5)) : Int) ≤ ((wrap64 (x9_1 + 1)) : Int) := oD; have q014 : (0 : Int) ≤ ((rd x3_1 (ji5)) : Int) := oD; have hcut14 := cut_mid (P := Try.prog) 30 73 .i64 .i64 Try.underlying30 hi014 3 hsz14 A0 l0.length c0 (rd x3_1 (ji5)) (wrap64 (x9_1 + 1)) q014 ql14 q14 hroom14
    have hr14 := Kd.C_mid (lo := ((rd x3_1 (ji5)) : Int).toNat) (hi := ((wrap64 (x9_1 + 1)) : Int).toNat) (c := c0) hC14 (by omega) (by omega) hroom14
    obtain ⟨A14, hA14⟩ : ∃ A1, A1 = (if c0 = ((rd x3_1 (ji5)) : Int).toNat then A0 else (A0 : Option Addr).map (·.add (((rd x3_1 (ji5)) : Int).toNat * 3))) := ⟨_, rfl⟩
    obtain ⟨c14, hc14⟩ : ∃ c1, c1 = c0 - ((rd x3_1 (ji5)) : Int).toNat := ⟨_, rfl⟩
    have hy14 : y105.length = ((wrap64 (x9_1 + 1)) : Int).toNat - ((rd x3_1 (ji5)) : Int).toNat := (by rw [Ny105.out, List.length_drop, List.length_take] <;> omega)
    rw [show ((l0).take ((wrap64 (x9_1 + 1)) : Int).toNat).drop ((rd x3_1 (ji5)) : Int).toNat = y105 from Ny105.out.symm] at hr14
    replace hr14 : Kd.C k73 _ A14 y105.length y105 := (by rw [hA14]; exact hr14)
    rw [← hy14, ← hA14, ← hc14] at hcut14; have HR108 := A_ hr14
    have HC108 := A_ (show y105.length ≤ c14 from by rw [hy14, hc14]; exact Nat.sub_le_sub_right (Nat.le_trans (by omega) hroom14) _)
    clear hr14 hC14 hroom14 hi014 hsz14 hc14; have KY14 := A_ hy14; have KA14 := A_ hA14; clear hy14 hA14; replace q14 := eq_true q14
    go_wp2_with (first | ((with_reducible refine gate_callee (f := 58) rfl ?_); refine goesW_ (some 23) Try.func58 #[.slice A14 y105.length c14] ?_; (with_reducible refine (arm_can.calls k1 _ _ y105 true _ ?side1 ?side2 A11.out).mono ?_); (case side1 => exact cU (Kd.C_below HR108.out HB.out)); (case side2 => exact HC108.out); rintro e w15 ⟨rfl, hb⟩; refine ⟨_, rfl, ?_⟩; have n0_ := A_ (Kd.R_below (rU HO_3.out) hb); have n1_ := A_ (below_step (bW0 HB.out) hb); clear HO_3; clear HB; have HO_3 := n0_; have HB := n1_; clear n0_ n1_; (try clear hb)))
    go_roundg k1
    case measure => have := HK1.out; omega
    case rel => exact ⟨(x3_1), (wrap64 (x9_1 + 1)), eS, H', ⟨by have := HK1.out; omega⟩, ⟨rU HO_3.out⟩, ⟨by repeat (first | (with_reducible first | exact HB.out | apply below_alloc | apply pw_below_drewN | apply below_drew1) | exact HB.out)⟩⟩
   replace c12 := Bool.eq_false_iff.mpr c12; subst c12; rw [if_neg (show ¬ (false = true) by decide)] at H; by_cases c16 : x3_1.length < 17592186044416; rotate_left
   ·rw [if_neg c16] at H
    exact absurd H (by simp)
   rw [if_pos c16] at H; have LMc16 := A_ c16; clear c16; obtain ⟨y110, hy110⟩ : ∃ y_ : List Int, y_ = (x3_1 ++ [x9_1]) := ⟨_, rfl⟩
   replace H : (arm_pieces.l0 k1 l0 y110 (l0.length : Int) (wrap64 (x9_1 + 1))) = some r := by first | (rw [hy110]; with_reducible exact H) | (have H2_ := (Option.bind_some _ _).symm.trans H; rw [hy110]; with_reducible exact H2_) | (have H2_ := (Option.bind_some _ _).symm.trans H; with_reducible exact H2_) | with_reducible exact H | (rw [hy110]; exact H) | exact H
   have Ny110 := A_ hy110; clear hy110; have H' := A_ H; clear H; obtain ⟨Ao17, co17, eo17⟩ := Kd.R_slice HO_3.out; subst eo17; have p104 : 0 ≤ ((ji5) : Int) := oD; have q104 : (ji5) < (x3_1.length : Int) := oD; obtain ⟨ad104, e104, hx104_0⟩ := Kd.at_int (Kd.R_reads' HO_3.out).2.2 (ji5) p104 q104
   cases e104
   replace p104 := eq_true p104; replace q104 := eq_true q104; have q18 : ((wrap64 (x9_1 + 1)) : Int) ≤ ((l0.length : Int) : Int) := oD; obtain ⟨i018, hi018, _, hsz18, _⟩ := info_parts info73; have hroom18 : l0.length ≤ c0 := HC0.out; have hC18 : Kd.C k73 _ A0 l0.length l0 := HR0.out; have ql18 : ((rd x3_1 (ji5)) : Int) ≤ ((wrap64 (x9_1 + 1)) : Int) := oD; have q018 : (0 : Int) ≤ ((rd x3_1 (ji5)) : Int) := oD; have hcut18 := cut_mid (P := Try.prog) 30 73 .i64 .i64 Try.underlying30 hi018 3 hsz18 A0 l0.length c0 (rd x3_1 (ji5)) (wrap64 (x9_1 + 1)) q018 ql18 q18 hroom18
   have hr18 := Kd.C_mid (lo := ((rd x3_1 (ji5)) : Int).toNat) (hi := ((wrap64 (x9_1 + 1)) : Int).toNat) (c := c0) hC18 (by omega) (by omega) hroom18
   obtain ⟨A18, hA18⟩ : ∃ A1, A1 = (if c0 = ((rd x3_1 (ji5)) : Int).toNat then A0 else (A0 : Option Addr).map (·.add (((rd x3_1 (ji5)) : Int).toNat * 3))) := ⟨_, rfl⟩
   obtain ⟨c18, hc18⟩ : ∃ c1, c1 = c0 - ((rd x3_1 (ji5)) : Int).toNat := ⟨_, rfl⟩
   have hy18 : y105.length = ((wrap64 (x9_1 + 1)) : Int).toNat - ((rd x3_1 (ji5)) : Int).toNat := (by rw [Ny105.out, List.length_drop, List.length_take] <;> omega)
   rw [show ((l0).take ((wrap64 (x9_1 + 1)) : Int).toNat).drop ((rd x3_1 (ji5)) : Int).toNat = y105 from Ny105.out.symm] at hr18
   replace hr18 : Kd.C k73 _ A18 y105.length y105 := (by rw [hA18]; exact hr18)
   rw [← hy18, ← hA18, ← hc18] at hcut18; have HR108 := A_ hr18
   have HC108 := A_ (show y105.length ≤ c18 from by rw [hy18, hc18]; exact Nat.sub_le_sub_right (Nat.le_trans (by omega) hroom18) _)
   clear hr18 hC18 hroom18 hi018 hsz18 hc18; have KY18 := A_ hy18; have KA18 := A_ hA18; clear hy18 hA18; replace q18 := eq_true q18
   go_wp2_with (first | ((with_reducible refine gate_callee (f := 58) rfl ?_); refine goesW_ (some 23) Try.func58 #[.slice A18 y105.length c18] ?_; (with_reducible refine (arm_can.calls k1 _ _ y105 false _ ?side1 ?side2 A11.out).mono ?_); (case side1 => exact cU (Kd.C_below HR108.out HB.out)); (case side2 => exact HC108.out); rintro e w19 ⟨rfl, hb⟩; refine ⟨_, rfl, ?_⟩; have n0_ := A_ (Kd.R_below (rU HO_3.out) hb); have n1_ := A_ (below_step (bW0 HB.out) hb); clear HO_3; clear HB; have HO_3 := n0_; have HB := n1_; clear n0_ n1_; (try clear hb)) | ((with_reducible refine gate_builtin (b := .append) (xs := #[.tmp 25, .tmp 27]) rfl ?_); at_builtin; refine Kd.R_append (Kd.int .i64) (w0 := w) w.heap.size rfl (.tmp 25) (.tmp 27) 45 3 (.int .i64 0) 8 rfl Try.underlying45 info3 rfl (by decide) (by omega) (.slice (some ad104) x3_1.length co17) x3_1 x9_1 [.int .i64 x9_1] (fun _ => True) (fun _ => False) rfl rfl ?aP (fun _ hk => hk.elim) ?aF ?aO ?aB ?aS ?aL ?_; (case aP => exact rfl); (case aB => exact (bW0 HB.out)); (case aF => exact (fun _ _ => trivial)); (case aO => exact (rU HO_3.out)); (case aS => exact (below_size (bW0 HB.out))); (case aL => have := LMc16.out; omega); intro v111 w20 ho hb hg hat; rw [← Ny110.out] at ho; have n0_ := A_ (hb); have n1_ := A_ (ho); clear HB; clear HO_3; have HB := n0_; have HO112 := n1_; clear n0_ n1_; clear ho hb hg hat))
   go_roundg k1
   case measure => have := HK1.out; omega
   case rel => exact ⟨(y110), (wrap64 (x9_1 + 1)), eS, H', ⟨by have := HK1.out; omega⟩, ⟨rU HO112.out⟩, ⟨by repeat (first | (with_reducible first | exact HB.out | apply below_alloc | apply pw_below_drewN | apply below_drew1) | exact HB.out)⟩⟩
end Go.Proofs.Ytiapmkndgalgnaa.G
