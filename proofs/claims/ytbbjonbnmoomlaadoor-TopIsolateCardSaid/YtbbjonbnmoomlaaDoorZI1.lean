/- Functions of the seat and plain laws about them: GF25, GF33, GF51, GF37, GF60, GF55, GF56, GF57, GF45. -/
import Derived.Test.YtbbjonbnmoomlaaDoorGBase
section
namespace Go.Proofs.YtbbjonbnmoomlaaDoor.G
open Go.RowKit Go.Proofs.YtbbjonbnmoomlaaDoorW.PrintWords Go.Proofs.YtbbjonbnmoomlaaDoorW.PrintLast Go.Proofs.YtbbjonbnmoomlaaDoorW.PrintMore
attribute [local go_sem] max2_int min2_int max_two min_two max_three min_three max_four min_four
set_option linter.unusedVariables false
set_option linter.unusedSimpArgs false
def feed_within.f (a0 : Int) (a1 : Int) (a2 : Int) : Option (Bool) := if a0 ≤ a1 then (some (decide (a1 ≤ a2))) else (some false)
set_option maxHeartbeats 8000000 in
set_option maxRecDepth 100000 in
theorem feed_within.calls (a0 : Int) (a1 : Int) (a2 : Int) (r : Bool) (w : World) (h : feed_within.f a0 a1 a2 = some r) :
  Calls Tryd.prog 25 #[.int .i64 a0, .int .i64 a1, .int .i64 a2] w fun e w' => e = .returned (.bool r) ∧ Drawn0 w w' := by
 have H : (if a0 ≤ a1 then (some (decide (a1 ≤ a2))) else (some false)) = some r := h; clear h; by_cases c4 : a0 ≤ a1
 ·rw [if_pos c4] at H
  have c4b0 : decide (a0 ≤ a1) = true := decide_eq_true c4; clear c4; obtain rfl := Option.some.inj H
  go_enter Tryd.func25, Tryd.ntmps25
  go_wp2
  go_ret
  exact ⟨by first | rfl | (simp; done) | (simp [*]; done), by repeat (first | exact Drawn0.refl _ | apply Drawn0.step)⟩
 rw [if_neg c4] at H; have c4b0 : decide (a0 ≤ a1) = false := decide_eq_false c4; clear c4; obtain rfl := Option.some.inj H
 go_enter Tryd.func25, Tryd.ntmps25
 go_wp2
 go_ret
 exact ⟨by first | rfl | (simp; done) | (simp [*]; done), by repeat (first | exact Drawn0.refl _ | apply Drawn0.step)⟩
def feed_grid_all.f (a0_0 : Int) (l0_1 : List (S47)) (l0_2 : List (S49)) : Option (Int) := some (shl .i64 1 (l0_1.length : Int))
set_option maxHeartbeats 8000000 in
set_option maxRecDepth 100000 in
theorem feed_grid_all.calls (a0_0 : Int) (A0_1 : Option Addr) (c0_1 : Nat) (l0_1 : List (S47)) (A0_2 : Option Addr) (c0_2 : Nat) (l0_2 : List (S49)) (r : Int) (w : World) (hr0_1 : Kd.C k47 w A0_1 l0_1.length l0_1) (hc0_1 : l0_1.length ≤ c0_1) (hr0_2 : Kd.C k49 w A0_2 l0_2.length l0_2) (hc0_2 : l0_2.length ≤ c0_2) (h : feed_grid_all.f a0_0 l0_1 l0_2 = some r) :
  Calls Tryd.prog 33 #[.agg #[.int .i64 a0_0, .slice A0_1 l0_1.length c0_1, .slice A0_2 l0_2.length c0_2]] w fun e w' => e = .returned (.int .i64 r) ∧ Below w.heap.size w w' := by
 have hu54 := Tryd.underlying54; have HR0_1 := A_ hr0_1; have HC0_1 := A_ hc0_1; clear hr0_1 hc0_1; have HR0_2 := A_ hr0_2; have HC0_2 := A_ hc0_2; clear hr0_2 hc0_2; have HB := A_ (Below.refl w.heap.size w); have H : (some (shl .i64 1 (l0_1.length : Int))) = some r := h; clear h; obtain ⟨ji2, hji2⟩ : ∃ j_ : Int, (shl .i64 1 (l0_1.length : Int)) = j_ := ⟨_, rfl⟩
 replace H : (some ji2) = some r := by first | (rw [hji2] at H; exact H) | (simp only [hji2] at H ⊢; exact H)
 have hji2_ : (IntKind.i64.wrap (1 * 2 ^ min (l0_1.length : Int).toNat 64)) = ji2 := hji2; have hji2z : (l0_1.length : Int) ≤ 64 → (IntKind.i64.wrap (1 * 2 ^ (l0_1.length : Int).toNat)) = ji2 := shl_small hji2; have hji2p : (IntKind.i64.wrap (1 * 2 ^ min l0_1.length 64)) = ji2 := hji2_; have hji2q : (l0_1.length : Int) ≤ 64 → (IntKind.i64.wrap (1 * 2 ^ l0_1.length)) = ji2 := hji2z
 have hji2r : (IntKind.i64.wrap (2 ^ min l0_1.length 64)) = ji2 := by have h_ := hji2p; rw [Int.one_mul] at h_; exact h_
 have hji2s : (l0_1.length : Int) ≤ 64 → (IntKind.i64.wrap (2 ^ l0_1.length)) = ji2 := fun hle_ => by have h_ := hji2q hle_; rw [Int.one_mul] at h_; exact h_
 have hji2u : (IntKind.i64.wrap (2 ^ min (l0_1.length : Int).toNat 64)) = ji2 := by have h_ := hji2_; rw [Int.one_mul] at h_; exact h_
 have hji2v : (l0_1.length : Int) ≤ 64 → (IntKind.i64.wrap (2 ^ (l0_1.length : Int).toNat)) = ji2 := fun hle_ => by have h_ := hji2z hle_; rw [Int.one_mul] at h_; exact h_
 have hji2y : (wrap64 (1 * 2 ^ min (l0_1.length : Int).toNat 64)) = ji2 := (i64_w _).symm.trans hji2_
 have hji2x : (l0_1.length : Int) ≤ 64 → (wrap64 (1 * 2 ^ (l0_1.length : Int).toNat)) = ji2 := fun h_ => (i64_w _).symm.trans (hji2z h_)
 obtain rfl := Option.some.inj H
 go_enter Tryd.func33, Tryd.ntmps33
 go_wp2_with (first | ((with_reducible refine gate_dst (N := 1) rfl ?_); refine bxW 1 (cs := #[.int .i64 a0_0, .slice A0_1 l0_1.length c0_1, .slice A0_2 l0_2.length c0_2]) (t := 54) ?_; intro gb101 hg w3 hbox hb; have BK101 := A_ (hbox); have GW101 := A_ ((szG hg (bW0 HB.out))); have GE101 := A_ ((szG hg (bW0 HB.out))); replace HB := A_ (below_step (bW0 HB.out) hb); clear hb hbox hg; have hcz4_0 : w3.cell? ⟨gb101, 0, none⟩ = some (.int .i64 a0_0) := (blk_cell BK101.out 0).trans rfl; have hcz4_1 : w3.cell? ⟨gb101, 1, none⟩ = some (.slice A0_1 l0_1.length c0_1) := (blk_cell BK101.out 1).trans rfl; have hcz4_2 : w3.cell? ⟨gb101, 2, none⟩ = some (.slice A0_2 l0_2.length c0_2) := (blk_cell BK101.out 2).trans rfl; have hfz4_0 := blk_frozen BK101.out 0; have hfz4_1 := blk_frozen BK101.out 1; have hfz4_2 := blk_frozen BK101.out 2))
 go_ret
 exact ⟨by first | rfl | (simp [errW_none, errW_some] <;> rfl) | (simp only [← hji2]; first | rfl | (simp [errW_none, errW_some] <;> rfl)) | (simp [*, errW_none, errW_some] <;> rfl), (bW1 HB.out GE101.out)⟩
def api_Feeder_51.l0 : Nat → List (S49) → (Int → Int → Option (Bool)) → Int → Int → Option (Int)
 | 0, _, _, _, _ => none
 | k + 1, x0, x1, x7, x8 => if x8 < x7 then (if 0 ≤ x8 then (if x8 < (x0.length : Int) then ((x1 ((rd_T49 x0 x8).f0) ((rd_T49 x0 x8).f1)).bind fun t102 => (if t102 = true then (some x8) else (api_Feeder_51.l0 k x0 x1 x7 (wrap64 (x8 + 1))))) else (none)) else (none)) else (some (-1))
def api_Feeder_51.f (k : Nat) (l0 : List (S49)) (a1 : (Int → Int → Option (Bool))) : Option (Int) := api_Feeder_51.l0 k l0 a1 (l0.length : Int) 0
theorem api_Feeder_51.mono_l : ∀ k, (∀ y0 y1 y2 y3, LeO (api_Feeder_51.l0 k y0 y1 y2 y3) (api_Feeder_51.l0 (k + 1) y0 y1 y2 y3))
 | 0 => fun _ _ _ _ r h => by simp [api_Feeder_51.l0] at h
 | k + 1 => by
  have ih0 := api_Feeder_51.mono_l k
  ·intro y0 y1 y2 y3
   unfold api_Feeder_51.l0
   repeat' first
   | (with_reducible exact ih0 _ _ _ _)
   | (with_reducible exact LeO.refl _)
   | (with_reducible exact LeO.none _)
   | (with_reducible refine LeO.ite ?_ ?_)
   | (with_reducible refine LeO.bind ?_ (fun _ => ?_))
   | exact ih0 _ _ _ _
   | exact LeO.none _
   | refine LeO.ite ?_ ?_
   | refine LeO.bind ?_ (fun _ => ?_)
theorem api_Feeder_51.mono : ∀ a0 a1 k, LeO (api_Feeder_51.f k a0 a1) (api_Feeder_51.f (k + 1) a0 a1) := by
 intro a0 a1 k
 have ih0 := api_Feeder_51.mono_l k
 unfold api_Feeder_51.f
 repeat' first
   | (with_reducible exact ih0 _ _ _ _)
   | (with_reducible exact LeO.refl _)
   | (with_reducible exact LeO.none _)
   | (with_reducible refine LeO.ite ?_ ?_)
   | (with_reducible refine LeO.bind ?_ (fun _ => ?_))
   | exact ih0 _ _ _ _
   | exact LeO.none _
   | refine LeO.ite ?_ ?_
   | refine LeO.bind ?_ (fun _ => ?_)
set_option maxHeartbeats 8000000 in
set_option maxRecDepth 100000 in
theorem api_Feeder_51.calls (k : Nat) (A0 : Option Addr) (c0 : Nat) (l0 : List (S49)) {g1 : FuncId} {lb1 : Array Value} (hen1 : EntersF Tryd.prog g1) (a1 : (Int → Int → Option (Bool))) (r : Int) (w : World) (hr0 : Kd.C k49 w A0 l0.length l0) (hc0 : l0.length ≤ c0) (hfn1 : ∀ (z0_ : Int) (z1_ : Int) (q0_ : Bool) (W_ : World), Below w.heap.size w W_ → a1 z0_ z1_ = some q0_ → Calls Tryd.prog g1 (#[.agg #[.int .i64 z0_, .int .i64 z1_]] ++ lb1) W_ fun e w' => e = .returned (.bool q0_) ∧ Below W_.heap.size W_ w') (h : api_Feeder_51.f k l0 a1 = some r) :
  Calls Tryd.prog 51 #[.slice A0 l0.length c0, .func (.func g1) #[] lb1] w fun e w' => e = .returned (.int .i64 r) ∧ Below w.heap.size w w' := by
 have hu49 := Tryd.underlying49; have HR0 := A_ hr0; have HC0 := A_ hc0; clear hr0 hc0; have HFN1 := A_ hfn1; have HEN1 := A_ hen1; clear hfn1 hen1; have HB := A_ (Below.refl w.heap.size w); have H : (api_Feeder_51.l0 k l0 a1 (l0.length : Int) 0) = some r := h; clear h; have H' := A_ H; clear H
 go_enter Tryd.func51, Tryd.ntmps51
 go_wp2
 go_loopg [8] k (fun kq v8 w' => ∃ (x8_1 : Int), v8 = .int .i64 x8_1 ∧ Aside0 (api_Feeder_51.l0 kq l0 a1 (l0.length : Int) x8_1 = some r) ∧ Aside0 (kq ≤ k) ∧ Aside0 (Below w.heap.size w w'))
 case atStart => exact ⟨(0), eS, H', ⟨Nat.le_refl _⟩, ⟨(bW0 HB.out)⟩⟩
 case round =>
  clear H'
  try clear p2
  obtain ⟨x8_1, rfl, HA, HK1, HB⟩ := hrel
  cases gk with
  | zero => exact absurd HA.out (by simp [api_Feeder_51.l0])
  | succ k1 =>
   have H := HA.out; clear HA; simp only [api_Feeder_51.l0] at H; by_cases c3 : x8_1 < (l0.length : Int); rotate_left
   ·rw [if_neg c3] at H
    have c3b0 : decide (x8_1 < (l0.length : Int)) = false := decide_eq_false c3; clear c3; obtain rfl := Option.some.inj H
    go_wp2
    go_ret
    exact ⟨eQ, (bW0 HB.out)⟩
   rw [if_pos c3] at H; have c3b0 : decide (x8_1 < (l0.length : Int)) = true := decide_eq_true c3; clear c3; by_cases c4 : 0 ≤ x8_1; rotate_left
   ·rw [if_neg c4] at H
    exact absurd H (by simp)
   rw [if_pos c4] at H; have c4b0 : decide (0 ≤ x8_1) = true := decide_eq_true c4; clear c4; by_cases c5 : x8_1 < (l0.length : Int); rotate_left
   ·rw [if_neg c5] at H
    exact absurd H (by simp)
   rw [if_pos c5] at H; have c5b0 : decide (x8_1 < (l0.length : Int)) = true := decide_eq_true c5; clear c5; replace H := Option.bind_eq_some_iff.mp H; obtain ⟨t102, A60, H⟩ := H; (try dsimp only at H); have A6 := A_ A60; clear A60; by_cases c7 : t102 = true
   ·subst c7
    rw [if_pos rfl] at H; obtain rfl := Option.some.inj H; have p101 : 0 ≤ (x8_1 : Int) := oD; have q101 : x8_1 < (l0.length : Int) := oD; obtain ⟨ad101, e101, hx101_0, hx101_1⟩ := at_T49 HR0.out x8_1 p101 q101
    cases e101
    replace hx101_0 := (HB.out.cell (World.block_lt_of_cell? w _ hx101_0)).trans hx101_0; replace hx101_1 := (HB.out.cell (World.block_lt_of_cell? w _ hx101_1)).trans hx101_1; replace p101 := eq_true p101; replace q101 := eq_true q101
    go_wp2_with (first | ((with_reducible refine gate_fv (T := 11) rfl ?_); refine goesF_ (some 16) rfl rfl HEN1.out (lb := lb1) #[.agg #[.int .i64 ((rd_T49 l0 x8_1).f0), .int .i64 ((rd_T49 l0 x8_1).f1)]] rfl rfl (by (try simp only [List.map_toArray, List.map_cons, List.map_nil]); first | done | rfl | (simp only [List.length_drop, List.length_take]; rfl)) ?_; (with_reducible refine (HFN1.out ((rd_T49 l0 x8_1).f0) ((rd_T49 l0 x8_1).f1) true _ (bW0 HB.out) A6.out).mono ?_); rintro e w8 ⟨rfl, hb⟩; refine ⟨_, rfl, ?_⟩; replace HB := A_ (below_step (bW0 HB.out) hb); (try clear hb)))
    go_ret
    exact ⟨eQ, (bW0 HB.out)⟩
   replace c7 := Bool.eq_false_iff.mpr c7; subst c7; rw [if_neg (show ¬ (false = true) by decide)] at H; have H' := A_ H; clear H; have p101 : 0 ≤ (x8_1 : Int) := oD; have q101 : x8_1 < (l0.length : Int) := oD; obtain ⟨ad101, e101, hx101_0, hx101_1⟩ := at_T49 HR0.out x8_1 p101 q101
   cases e101
   replace hx101_0 := (HB.out.cell (World.block_lt_of_cell? w _ hx101_0)).trans hx101_0; replace hx101_1 := (HB.out.cell (World.block_lt_of_cell? w _ hx101_1)).trans hx101_1; replace p101 := eq_true p101; replace q101 := eq_true q101
   go_wp2_with (first | ((with_reducible refine gate_fv (T := 11) rfl ?_); refine goesF_ (some 16) rfl rfl HEN1.out (lb := lb1) #[.agg #[.int .i64 ((rd_T49 l0 x8_1).f0), .int .i64 ((rd_T49 l0 x8_1).f1)]] rfl rfl (by (try simp only [List.map_toArray, List.map_cons, List.map_nil]); first | done | rfl | (simp only [List.length_drop, List.length_take]; rfl)) ?_; (with_reducible refine (HFN1.out ((rd_T49 l0 x8_1).f0) ((rd_T49 l0 x8_1).f1) false _ (bW0 HB.out) A6.out).mono ?_); rintro e w9 ⟨rfl, hb⟩; refine ⟨_, rfl, ?_⟩; replace HB := A_ (below_step (bW0 HB.out) hb); (try clear hb)))
   go_roundg k1
   case measure => have := HK1.out; omega
   case rel => exact ⟨(wrap64 (x8_1 + 1)), eS, H', ⟨by have := HK1.out; omega⟩, ⟨(bW0 HB.out)⟩⟩
def api_Feeder_37.f (k : Nat) (l0 : List (S49)) (a1 : (Int → Int → Option (Bool))) : Option (Bool) := (api_Feeder_51.f k l0 a1).bind fun t101 => (some (decide (t101 ≥ 0)))
theorem api_Feeder_37.mono : ∀ a0 a1 k, LeO (api_Feeder_37.f k a0 a1) (api_Feeder_37.f (k + 1) a0 a1) := by
 intro a0 a1 k
 unfold api_Feeder_37.f
 repeat' first
   | (with_reducible exact api_Feeder_51.mono _ _ _)
   | (with_reducible exact LeO.refl _)
   | (with_reducible exact LeO.none _)
   | (with_reducible refine LeO.ite ?_ ?_)
   | (with_reducible refine LeO.bind ?_ (fun _ => ?_))
   | exact api_Feeder_51.mono _ _ _
   | exact LeO.none _
   | refine LeO.ite ?_ ?_
   | refine LeO.bind ?_ (fun _ => ?_)
set_option maxHeartbeats 8000000 in
set_option maxRecDepth 100000 in
theorem api_Feeder_37.calls (k : Nat) (A0 : Option Addr) (c0 : Nat) (l0 : List (S49)) {g1 : FuncId} {lb1 : Array Value} (hen1 : EntersF Tryd.prog g1) (a1 : (Int → Int → Option (Bool))) (r : Bool) (w : World) (hr0 : Kd.C k49 w A0 l0.length l0) (hc0 : l0.length ≤ c0) (hfn1 : ∀ (z0_ : Int) (z1_ : Int) (q0_ : Bool) (W_ : World), Below w.heap.size w W_ → a1 z0_ z1_ = some q0_ → Calls Tryd.prog g1 (#[.agg #[.int .i64 z0_, .int .i64 z1_]] ++ lb1) W_ fun e w' => e = .returned (.bool q0_) ∧ Below W_.heap.size W_ w') (h : api_Feeder_37.f k l0 a1 = some r) :
  Calls Tryd.prog 37 #[.slice A0 l0.length c0, .func (.func g1) #[] lb1] w fun e w' => e = .returned (.bool r) ∧ Below w.heap.size w w' := by
 have HR0 := A_ hr0; have HC0 := A_ hc0; clear hr0 hc0; have HFN1 := A_ hfn1; have HEN1 := A_ hen1; clear hfn1 hen1; have HB := A_ (Below.refl w.heap.size w)
 have H : ((api_Feeder_51.f k l0 a1).bind fun t101 => (some (decide (t101 ≥ 0)))) = some r := h
 clear h; replace H := Option.bind_eq_some_iff.mp H; obtain ⟨t101, A30, H⟩ := H; (try dsimp only at H); have A3 := A_ A30; clear A30; obtain rfl := Option.some.inj H
 go_enter Tryd.func37, Tryd.ntmps37
 go_wp2_with (first | ((with_reducible refine gate_callee (f := 51) rfl ?_); refine goesL_ (some 7) rfl rfl Tryd.func51 (by kernel_rfl) rfl #[.slice A0 l0.length c0, .func (.func g1) #[] lb1] rfl (by (try simp only [List.map_toArray, List.map_cons, List.map_nil]); first | done | rfl | (simp only [List.length_drop, List.length_take]; rfl)) ?_; (with_reducible refine (api_Feeder_51.calls k _ _ l0 HEN1.out a1 t101 _ ?side1 ?side2 ?side3 A3.out).mono ?_); (case side1 => exact cU HR0.out); (case side2 => exact HC0.out); (case side3 => exact fun z0_ z1_ q0_ W_ hW_ hq_ => HFN1.out z0_ z1_ q0_ W_ (below_step (bW0 HB.out) hW_) hq_); rintro e w4 ⟨rfl, hb⟩; refine ⟨_, rfl, ?_⟩; replace HB := A_ (below_step (bW0 HB.out) hb); (try clear hb)))
 go_ret
 exact ⟨eQ, (bW0 HB.out)⟩
def api_Switch_60.l0 : Nat → List (S47) → (Int → Int → Option (Bool)) → Int → Int → Option (Int)
 | 0, _, _, _, _ => none
 | k + 1, x0, x1, x7, x8 => if x8 < x7 then (if 0 ≤ x8 then (if x8 < (x0.length : Int) then ((x1 ((rd_T47 x0 x8).f0) ((rd_T47 x0 x8).f1)).bind fun t102 => (if t102 = true then (some x8) else (api_Switch_60.l0 k x0 x1 x7 (wrap64 (x8 + 1))))) else (none)) else (none)) else (some (-1))
def api_Switch_60.f (k : Nat) (l0 : List (S47)) (a1 : (Int → Int → Option (Bool))) : Option (Int) := api_Switch_60.l0 k l0 a1 (l0.length : Int) 0
theorem api_Switch_60.mono_l : ∀ k, (∀ y0 y1 y2 y3, LeO (api_Switch_60.l0 k y0 y1 y2 y3) (api_Switch_60.l0 (k + 1) y0 y1 y2 y3))
 | 0 => fun _ _ _ _ r h => by simp [api_Switch_60.l0] at h
 | k + 1 => by
  have ih0 := api_Switch_60.mono_l k
  ·intro y0 y1 y2 y3
   unfold api_Switch_60.l0
   repeat' first
   | (with_reducible exact ih0 _ _ _ _)
   | (with_reducible exact LeO.refl _)
   | (with_reducible exact LeO.none _)
   | (with_reducible refine LeO.ite ?_ ?_)
   | (with_reducible refine LeO.bind ?_ (fun _ => ?_))
   | exact ih0 _ _ _ _
   | exact LeO.none _
   | refine LeO.ite ?_ ?_
   | refine LeO.bind ?_ (fun _ => ?_)
theorem api_Switch_60.mono : ∀ a0 a1 k, LeO (api_Switch_60.f k a0 a1) (api_Switch_60.f (k + 1) a0 a1) := by
 intro a0 a1 k
 have ih0 := api_Switch_60.mono_l k
 unfold api_Switch_60.f
 repeat' first
   | (with_reducible exact ih0 _ _ _ _)
   | (with_reducible exact LeO.refl _)
   | (with_reducible exact LeO.none _)
   | (with_reducible refine LeO.ite ?_ ?_)
   | (with_reducible refine LeO.bind ?_ (fun _ => ?_))
   | exact ih0 _ _ _ _
   | exact LeO.none _
   | refine LeO.ite ?_ ?_
   | refine LeO.bind ?_ (fun _ => ?_)
set_option maxHeartbeats 8000000 in
set_option maxRecDepth 100000 in
theorem api_Switch_60.calls (k : Nat) (A0 : Option Addr) (c0 : Nat) (l0 : List (S47)) {g1 : FuncId} {lb1 : Array Value} (hen1 : EntersF Tryd.prog g1) (a1 : (Int → Int → Option (Bool))) (r : Int) (w : World) (hr0 : Kd.C k47 w A0 l0.length l0) (hc0 : l0.length ≤ c0) (hfn1 : ∀ (z0_ : Int) (z1_ : Int) (q0_ : Bool) (W_ : World), Below w.heap.size w W_ → a1 z0_ z1_ = some q0_ → Calls Tryd.prog g1 (#[.agg #[.int .i64 z0_, .int .i64 z1_]] ++ lb1) W_ fun e w' => e = .returned (.bool q0_) ∧ Below W_.heap.size W_ w') (h : api_Switch_60.f k l0 a1 = some r) :
  Calls Tryd.prog 60 #[.slice A0 l0.length c0, .func (.func g1) #[] lb1] w fun e w' => e = .returned (.int .i64 r) ∧ Below w.heap.size w w' := by
 have hu47 := Tryd.underlying47; have HR0 := A_ hr0; have HC0 := A_ hc0; clear hr0 hc0; have HFN1 := A_ hfn1; have HEN1 := A_ hen1; clear hfn1 hen1; have HB := A_ (Below.refl w.heap.size w); have H : (api_Switch_60.l0 k l0 a1 (l0.length : Int) 0) = some r := h; clear h; have H' := A_ H; clear H
 go_enter Tryd.func60, Tryd.ntmps60
 go_wp2
 go_loopg [8] k (fun kq v8 w' => ∃ (x8_1 : Int), v8 = .int .i64 x8_1 ∧ Aside0 (api_Switch_60.l0 kq l0 a1 (l0.length : Int) x8_1 = some r) ∧ Aside0 (kq ≤ k) ∧ Aside0 (Below w.heap.size w w'))
 case atStart => exact ⟨(0), eS, H', ⟨Nat.le_refl _⟩, ⟨(bW0 HB.out)⟩⟩
 case round =>
  clear H'
  try clear p2
  obtain ⟨x8_1, rfl, HA, HK1, HB⟩ := hrel
  cases gk with
  | zero => exact absurd HA.out (by simp [api_Switch_60.l0])
  | succ k1 =>
   have H := HA.out; clear HA; simp only [api_Switch_60.l0] at H; by_cases c3 : x8_1 < (l0.length : Int); rotate_left
   ·rw [if_neg c3] at H
    have c3b0 : decide (x8_1 < (l0.length : Int)) = false := decide_eq_false c3; clear c3; obtain rfl := Option.some.inj H
    go_wp2
    go_ret
    exact ⟨eQ, (bW0 HB.out)⟩
   rw [if_pos c3] at H; have c3b0 : decide (x8_1 < (l0.length : Int)) = true := decide_eq_true c3; clear c3; by_cases c4 : 0 ≤ x8_1; rotate_left
   ·rw [if_neg c4] at H
    exact absurd H (by simp)
   rw [if_pos c4] at H; have c4b0 : decide (0 ≤ x8_1) = true := decide_eq_true c4; clear c4; by_cases c5 : x8_1 < (l0.length : Int); rotate_left
   ·rw [if_neg c5] at H
    exact absurd H (by simp)
   rw [if_pos c5] at H; have c5b0 : decide (x8_1 < (l0.length : Int)) = true := decide_eq_true c5; clear c5; replace H := Option.bind_eq_some_iff.mp H; obtain ⟨t102, A60, H⟩ := H; (try dsimp only at H); have A6 := A_ A60; clear A60; by_cases c7 : t102 = true
   ·subst c7
    rw [if_pos rfl] at H; obtain rfl := Option.some.inj H; have p101 : 0 ≤ (x8_1 : Int) := oD; have q101 : x8_1 < (l0.length : Int) := oD; obtain ⟨ad101, e101, hx101_0, hx101_1⟩ := at_T47 HR0.out x8_1 p101 q101
    cases e101
    replace hx101_0 := (HB.out.cell (World.block_lt_of_cell? w _ hx101_0)).trans hx101_0; replace hx101_1 := (HB.out.cell (World.block_lt_of_cell? w _ hx101_1)).trans hx101_1; replace p101 := eq_true p101; replace q101 := eq_true q101
    go_wp2_with (first | ((with_reducible refine gate_fv (T := 11) rfl ?_); refine goesF_ (some 16) rfl rfl HEN1.out (lb := lb1) #[.agg #[.int .i64 ((rd_T47 l0 x8_1).f0), .int .i64 ((rd_T47 l0 x8_1).f1)]] rfl rfl (by (try simp only [List.map_toArray, List.map_cons, List.map_nil]); first | done | rfl | (simp only [List.length_drop, List.length_take]; rfl)) ?_; (with_reducible refine (HFN1.out ((rd_T47 l0 x8_1).f0) ((rd_T47 l0 x8_1).f1) true _ (bW0 HB.out) A6.out).mono ?_); rintro e w8 ⟨rfl, hb⟩; refine ⟨_, rfl, ?_⟩; replace HB := A_ (below_step (bW0 HB.out) hb); (try clear hb)))
    go_ret
    exact ⟨eQ, (bW0 HB.out)⟩
   replace c7 := Bool.eq_false_iff.mpr c7; subst c7; rw [if_neg (show ¬ (false = true) by decide)] at H; have H' := A_ H; clear H; have p101 : 0 ≤ (x8_1 : Int) := oD; have q101 : x8_1 < (l0.length : Int) := oD; obtain ⟨ad101, e101, hx101_0, hx101_1⟩ := at_T47 HR0.out x8_1 p101 q101
   cases e101
   replace hx101_0 := (HB.out.cell (World.block_lt_of_cell? w _ hx101_0)).trans hx101_0; replace hx101_1 := (HB.out.cell (World.block_lt_of_cell? w _ hx101_1)).trans hx101_1; replace p101 := eq_true p101; replace q101 := eq_true q101
   go_wp2_with (first | ((with_reducible refine gate_fv (T := 11) rfl ?_); refine goesF_ (some 16) rfl rfl HEN1.out (lb := lb1) #[.agg #[.int .i64 ((rd_T47 l0 x8_1).f0), .int .i64 ((rd_T47 l0 x8_1).f1)]] rfl rfl (by (try simp only [List.map_toArray, List.map_cons, List.map_nil]); first | done | rfl | (simp only [List.length_drop, List.length_take]; rfl)) ?_; (with_reducible refine (HFN1.out ((rd_T47 l0 x8_1).f0) ((rd_T47 l0 x8_1).f1) false _ (bW0 HB.out) A6.out).mono ?_); rintro e w9 ⟨rfl, hb⟩; refine ⟨_, rfl, ?_⟩; replace HB := A_ (below_step (bW0 HB.out) hb); (try clear hb)))
   go_roundg k1
   case measure => have := HK1.out; omega
   case rel => exact ⟨(wrap64 (x8_1 + 1)), eS, H', ⟨by have := HK1.out; omega⟩, ⟨(bW0 HB.out)⟩⟩
def api_Switch_55.f (k : Nat) (l0 : List (S47)) (a1 : (Int → Int → Option (Bool))) : Option (Bool) := (api_Switch_60.f k l0 a1).bind fun t101 => (some (decide (t101 ≥ 0)))
theorem api_Switch_55.mono : ∀ a0 a1 k, LeO (api_Switch_55.f k a0 a1) (api_Switch_55.f (k + 1) a0 a1) := by
 intro a0 a1 k
 unfold api_Switch_55.f
 repeat' first
   | (with_reducible exact api_Switch_60.mono _ _ _)
   | (with_reducible exact LeO.refl _)
   | (with_reducible exact LeO.none _)
   | (with_reducible refine LeO.ite ?_ ?_)
   | (with_reducible refine LeO.bind ?_ (fun _ => ?_))
   | exact api_Switch_60.mono _ _ _
   | exact LeO.none _
   | refine LeO.ite ?_ ?_
   | refine LeO.bind ?_ (fun _ => ?_)
set_option maxHeartbeats 8000000 in
set_option maxRecDepth 100000 in
theorem api_Switch_55.calls (k : Nat) (A0 : Option Addr) (c0 : Nat) (l0 : List (S47)) {g1 : FuncId} {lb1 : Array Value} (hen1 : EntersF Tryd.prog g1) (a1 : (Int → Int → Option (Bool))) (r : Bool) (w : World) (hr0 : Kd.C k47 w A0 l0.length l0) (hc0 : l0.length ≤ c0) (hfn1 : ∀ (z0_ : Int) (z1_ : Int) (q0_ : Bool) (W_ : World), Below w.heap.size w W_ → a1 z0_ z1_ = some q0_ → Calls Tryd.prog g1 (#[.agg #[.int .i64 z0_, .int .i64 z1_]] ++ lb1) W_ fun e w' => e = .returned (.bool q0_) ∧ Below W_.heap.size W_ w') (h : api_Switch_55.f k l0 a1 = some r) :
  Calls Tryd.prog 55 #[.slice A0 l0.length c0, .func (.func g1) #[] lb1] w fun e w' => e = .returned (.bool r) ∧ Below w.heap.size w w' := by
 have HR0 := A_ hr0; have HC0 := A_ hc0; clear hr0 hc0; have HFN1 := A_ hfn1; have HEN1 := A_ hen1; clear hfn1 hen1; have HB := A_ (Below.refl w.heap.size w)
 have H : ((api_Switch_60.f k l0 a1).bind fun t101 => (some (decide (t101 ≥ 0)))) = some r := h
 clear h; replace H := Option.bind_eq_some_iff.mp H; obtain ⟨t101, A30, H⟩ := H; (try dsimp only at H); have A3 := A_ A30; clear A30; obtain rfl := Option.some.inj H
 go_enter Tryd.func55, Tryd.ntmps55
 go_wp2_with (first | ((with_reducible refine gate_callee (f := 60) rfl ?_); refine goesL_ (some 7) rfl rfl Tryd.func60 (by kernel_rfl) rfl #[.slice A0 l0.length c0, .func (.func g1) #[] lb1] rfl (by (try simp only [List.map_toArray, List.map_cons, List.map_nil]); first | done | rfl | (simp only [List.length_drop, List.length_take]; rfl)) ?_; (with_reducible refine (api_Switch_60.calls k _ _ l0 HEN1.out a1 t101 _ ?side1 ?side2 ?side3 A3.out).mono ?_); (case side1 => exact cU HR0.out); (case side2 => exact HC0.out); (case side3 => exact fun z0_ z1_ q0_ W_ hW_ hq_ => HFN1.out z0_ z1_ q0_ W_ (below_step (bW0 HB.out) hW_) hq_); rintro e w4 ⟨rfl, hb⟩; refine ⟨_, rfl, ?_⟩; replace HB := A_ (below_step (bW0 HB.out) hb); (try clear hb)))
 go_ret
 exact ⟨eQ, (bW0 HB.out)⟩
def feed_Valid_1.f (a0_0 : Int) (a0_1 : Int) (a1_0 : Int) (l1_1 : List (S47)) (l1_2 : List (S49)) : Option (Bool) := (feed_within.f 0 a0_0 (wrap64 (a1_0 - 1))).bind fun t102 => (if t102 = true then ((feed_within.f 0 a0_1 (wrap64 (a1_0 - 1))).bind fun t103 => (if t103 = true then (some (a0_0 == a0_1)) else (some true))) else (some true))
set_option maxHeartbeats 8000000 in
set_option maxRecDepth 100000 in
theorem feed_Valid_1.calls (a0_0 : Int) (a0_1 : Int) (b1 : Nat) (a1_0 : Int) (A1_1 : Option Addr) (c1_1 : Nat) (l1_1 : List (S47)) (A1_2 : Option Addr) (c1_2 : Nat) (l1_2 : List (S49)) (r : Bool) (w : World) (hbk1 : w.heap[b1]? = some (.cells #[.int .i64 a1_0, .slice A1_1 l1_1.length c1_1, .slice A1_2 l1_2.length c1_2] 25 (0, 0))) (hr1_1 : Kd.C k47 w A1_1 l1_1.length l1_1) (hc1_1 : l1_1.length ≤ c1_1) (hr1_2 : Kd.C k49 w A1_2 l1_2.length l1_2) (hc1_2 : l1_2.length ≤ c1_2) (h : feed_Valid_1.f a0_0 a0_1 a1_0 l1_1 l1_2 = some r) :
  Calls Tryd.prog 56 #[.agg #[.int .i64 a0_0, .int .i64 a0_1], .pointer (some ⟨b1, 0, none⟩)] w fun e w' => e = .returned (.bool r) ∧ Below w.heap.size w w' := by
 have hu47 := Tryd.underlying47; have HR1_1 := A_ hr1_1; have HC1_1 := A_ hc1_1; clear hr1_1 hc1_1; have HR1_2 := A_ hr1_2; have HC1_2 := A_ hc1_2; clear hr1_2 hc1_2; have BK1 := A_ hbk1; clear hbk1; have HB := A_ (Below.refl w.heap.size w)
 have H : ((feed_within.f 0 a0_0 (wrap64 (a1_0 - 1))).bind fun t102 => (if t102 = true then ((feed_within.f 0 a0_1 (wrap64 (a1_0 - 1))).bind fun t103 => (if t103 = true then (some (a0_0 == a0_1)) else (some true))) else (some true))) = some r := h
 clear h; replace H := Option.bind_eq_some_iff.mp H; obtain ⟨t102, A30, H⟩ := H; (try dsimp only at H); have A3 := A_ A30; clear A30; by_cases c4 : t102 = true; rotate_left
 ·replace c4 := Bool.eq_false_iff.mpr c4
  subst c4; rw [if_neg (show ¬ (false = true) by decide)] at H; obtain rfl := Option.some.inj H
  go_enter Tryd.func56, Tryd.ntmps56
  go_wp2_with (first | ((with_reducible refine gate_dst (N := 2) rfl ?_); refine bxW 2 (cs := #[.int .i64 a0_0, .int .i64 a0_1]) (t := 47) ?_; intro gb101 hg w15 hbox hb; have n0_ := A_ (blk_below (g := b1) (o := .cells #[.int .i64 a1_0, .slice A1_1 l1_1.length c1_1, .slice A1_2 l1_2.length c1_2] 25 (0, 0)) (bkU BK1) hb); have n1_ := A_ (below_step (bW0 HB.out) hb); have n2_ := A_ (hbox); have n3_ := A_ ((szG hg (bW0 HB.out))); have n4_ := A_ ((szG hg (bW0 HB.out))); have n5_ := A_ ((by rw [hg]; exact Nat.ne_of_lt (blk_lt (g := b1) (o := .cells #[.int .i64 a1_0, .slice A1_1 l1_1.length c1_1, .slice A1_2 l1_2.length c1_2] 25 (0, 0)) (bkU BK1)) : b1 ≠ gb101)); have n6_ := A_ ((by rw [hg]; exact Nat.ne_of_gt (blk_lt (g := b1) (o := .cells #[.int .i64 a1_0, .slice A1_1 l1_1.length c1_1, .slice A1_2 l1_2.length c1_2] 25 (0, 0)) (bkU BK1)) : gb101 ≠ b1)); clear BK1; clear HB; have BK1 := n0_; have HB := n1_; have BK101 := n2_; have GW101 := n3_; have GE101 := n4_; have NB1_101 := n5_; have NB101_1 := n6_; clear n0_ n1_ n2_ n3_ n4_ n5_ n6_; clear hb hbox hg; have hnb16 := NB101_1.out; have hnc16 := NB1_101.out; have hcz17_0 : w15.cell? ⟨gb101, 0, none⟩ = some (.int .i64 a0_0) := (blk_cell BK101.out 0).trans rfl; have hcz17_1 : w15.cell? ⟨gb101, 1, none⟩ = some (.int .i64 a0_1) := (blk_cell BK101.out 1).trans rfl; have hfz17_0 := blk_frozen BK101.out 0; have hfz17_1 := blk_frozen BK101.out 1; have hcz18_0 : w15.cell? ⟨b1, 0, none⟩ = some (.int .i64 a1_0) := (blk_cell BK1.out 0).trans rfl; have hcz18_1 : w15.cell? ⟨b1, 1, none⟩ = some (.slice A1_1 l1_1.length c1_1) := (blk_cell BK1.out 1).trans rfl; have hcz18_2 : w15.cell? ⟨b1, 2, none⟩ = some (.slice A1_2 l1_2.length c1_2) := (blk_cell BK1.out 2).trans rfl; have hfz18_0 := blk_frozen BK1.out 0; have hfz18_1 := blk_frozen BK1.out 1; have hfz18_2 := blk_frozen BK1.out 2) | ((with_reducible refine gate_callee (f := 25) rfl ?_); refine goesL_ (some 9) rfl rfl Tryd.func25 (by kernel_rfl) rfl #[.int .i64 0, .int .i64 a0_0, .int .i64 (wrap64 (a1_0 - 1))] rfl (by (try simp only [List.map_toArray, List.map_cons, List.map_nil]); first | done | rfl | (simp only [List.length_drop, List.length_take]; rfl)) ?_; (with_reducible refine (feed_within.calls 0 a0_0 (wrap64 (a1_0 - 1)) false _ A3.out).mono ?_); rintro e w' ⟨rfl, ⟨nd, rfl⟩⟩; refine ⟨_, rfl, ?_⟩))
  go_ret
  exact ⟨eQ, by repeat (first | (with_reducible first | exact HB.out | apply below_alloc | apply pw_below_drewN | apply below_drew1 | refine below_set ?_ GE1.out | refine below_set ?_ GE101.out) | exact HB.out)⟩
 subst c4; rw [if_pos rfl] at H; replace H := Option.bind_eq_some_iff.mp H; obtain ⟨t103, A50, H⟩ := H; (try dsimp only at H); have A5 := A_ A50; clear A50; by_cases c6 : t103 = true
 ·subst c6
  rw [if_pos rfl] at H; obtain rfl := Option.some.inj H
  go_enter Tryd.func56, Tryd.ntmps56
  go_wp2_with (first | ((with_reducible refine gate_dst (N := 2) rfl ?_); refine bxW 2 (cs := #[.int .i64 a0_0, .int .i64 a0_1]) (t := 47) ?_; intro gb101 hg w7 hbox hb; have n0_ := A_ (blk_below (g := b1) (o := .cells #[.int .i64 a1_0, .slice A1_1 l1_1.length c1_1, .slice A1_2 l1_2.length c1_2] 25 (0, 0)) (bkU BK1) hb); have n1_ := A_ (below_step (bW0 HB.out) hb); have n2_ := A_ (hbox); have n3_ := A_ ((szG hg (bW0 HB.out))); have n4_ := A_ ((szG hg (bW0 HB.out))); have n5_ := A_ ((by rw [hg]; exact Nat.ne_of_lt (blk_lt (g := b1) (o := .cells #[.int .i64 a1_0, .slice A1_1 l1_1.length c1_1, .slice A1_2 l1_2.length c1_2] 25 (0, 0)) (bkU BK1)) : b1 ≠ gb101)); have n6_ := A_ ((by rw [hg]; exact Nat.ne_of_gt (blk_lt (g := b1) (o := .cells #[.int .i64 a1_0, .slice A1_1 l1_1.length c1_1, .slice A1_2 l1_2.length c1_2] 25 (0, 0)) (bkU BK1)) : gb101 ≠ b1)); clear BK1; clear HB; have BK1 := n0_; have HB := n1_; have BK101 := n2_; have GW101 := n3_; have GE101 := n4_; have NB1_101 := n5_; have NB101_1 := n6_; clear n0_ n1_ n2_ n3_ n4_ n5_ n6_; clear hb hbox hg; have hnb8 := NB101_1.out; have hnc8 := NB1_101.out; have hcz9_0 : w7.cell? ⟨gb101, 0, none⟩ = some (.int .i64 a0_0) := (blk_cell BK101.out 0).trans rfl; have hcz9_1 : w7.cell? ⟨gb101, 1, none⟩ = some (.int .i64 a0_1) := (blk_cell BK101.out 1).trans rfl; have hfz9_0 := blk_frozen BK101.out 0; have hfz9_1 := blk_frozen BK101.out 1; have hcz10_0 : w7.cell? ⟨b1, 0, none⟩ = some (.int .i64 a1_0) := (blk_cell BK1.out 0).trans rfl; have hcz10_1 : w7.cell? ⟨b1, 1, none⟩ = some (.slice A1_1 l1_1.length c1_1) := (blk_cell BK1.out 1).trans rfl; have hcz10_2 : w7.cell? ⟨b1, 2, none⟩ = some (.slice A1_2 l1_2.length c1_2) := (blk_cell BK1.out 2).trans rfl; have hfz10_0 := blk_frozen BK1.out 0; have hfz10_1 := blk_frozen BK1.out 1; have hfz10_2 := blk_frozen BK1.out 2) | ((with_reducible refine gate_callee (f := 25) rfl ?_); refine goesL_ (some 9) rfl rfl Tryd.func25 (by kernel_rfl) rfl #[.int .i64 0, .int .i64 a0_0, .int .i64 (wrap64 (a1_0 - 1))] rfl (by (try simp only [List.map_toArray, List.map_cons, List.map_nil]); first | done | rfl | (simp only [List.length_drop, List.length_take]; rfl)) ?_; (with_reducible refine (feed_within.calls 0 a0_0 (wrap64 (a1_0 - 1)) true _ A3.out).mono ?_); rintro e w' ⟨rfl, ⟨nd, rfl⟩⟩; refine ⟨_, rfl, ?_⟩) | (go_at_call 25; (with_reducible refine (feed_within.calls 0 a0_1 (wrap64 (a1_0 - 1)) true _ A5.out).mono ?_); rintro e w' ⟨rfl, ⟨nd, rfl⟩⟩))
  go_ret
  exact ⟨eQ, by repeat (first | (with_reducible first | exact HB.out | apply below_alloc | apply pw_below_drewN | apply below_drew1 | refine below_set ?_ GE1.out | refine below_set ?_ GE101.out) | exact HB.out)⟩
 replace c6 := Bool.eq_false_iff.mpr c6; subst c6; rw [if_neg (show ¬ (false = true) by decide)] at H; obtain rfl := Option.some.inj H
 go_enter Tryd.func56, Tryd.ntmps56
 go_wp2_with (first | ((with_reducible refine gate_dst (N := 2) rfl ?_); refine bxW 2 (cs := #[.int .i64 a0_0, .int .i64 a0_1]) (t := 47) ?_; intro gb101 hg w11 hbox hb; have n0_ := A_ (blk_below (g := b1) (o := .cells #[.int .i64 a1_0, .slice A1_1 l1_1.length c1_1, .slice A1_2 l1_2.length c1_2] 25 (0, 0)) (bkU BK1) hb); have n1_ := A_ (below_step (bW0 HB.out) hb); have n2_ := A_ (hbox); have n3_ := A_ ((szG hg (bW0 HB.out))); have n4_ := A_ ((szG hg (bW0 HB.out))); have n5_ := A_ ((by rw [hg]; exact Nat.ne_of_lt (blk_lt (g := b1) (o := .cells #[.int .i64 a1_0, .slice A1_1 l1_1.length c1_1, .slice A1_2 l1_2.length c1_2] 25 (0, 0)) (bkU BK1)) : b1 ≠ gb101)); have n6_ := A_ ((by rw [hg]; exact Nat.ne_of_gt (blk_lt (g := b1) (o := .cells #[.int .i64 a1_0, .slice A1_1 l1_1.length c1_1, .slice A1_2 l1_2.length c1_2] 25 (0, 0)) (bkU BK1)) : gb101 ≠ b1)); clear BK1; clear HB; have BK1 := n0_; have HB := n1_; have BK101 := n2_; have GW101 := n3_; have GE101 := n4_; have NB1_101 := n5_; have NB101_1 := n6_; clear n0_ n1_ n2_ n3_ n4_ n5_ n6_; clear hb hbox hg; have hnb12 := NB101_1.out; have hnc12 := NB1_101.out; have hcz13_0 : w11.cell? ⟨gb101, 0, none⟩ = some (.int .i64 a0_0) := (blk_cell BK101.out 0).trans rfl; have hcz13_1 : w11.cell? ⟨gb101, 1, none⟩ = some (.int .i64 a0_1) := (blk_cell BK101.out 1).trans rfl; have hfz13_0 := blk_frozen BK101.out 0; have hfz13_1 := blk_frozen BK101.out 1; have hcz14_0 : w11.cell? ⟨b1, 0, none⟩ = some (.int .i64 a1_0) := (blk_cell BK1.out 0).trans rfl; have hcz14_1 : w11.cell? ⟨b1, 1, none⟩ = some (.slice A1_1 l1_1.length c1_1) := (blk_cell BK1.out 1).trans rfl; have hcz14_2 : w11.cell? ⟨b1, 2, none⟩ = some (.slice A1_2 l1_2.length c1_2) := (blk_cell BK1.out 2).trans rfl; have hfz14_0 := blk_frozen BK1.out 0; have hfz14_1 := blk_frozen BK1.out 1; have hfz14_2 := blk_frozen BK1.out 2) | ((with_reducible refine gate_callee (f := 25) rfl ?_); refine goesL_ (some 9) rfl rfl Tryd.func25 (by kernel_rfl) rfl #[.int .i64 0, .int .i64 a0_0, .int .i64 (wrap64 (a1_0 - 1))] rfl (by (try simp only [List.map_toArray, List.map_cons, List.map_nil]); first | done | rfl | (simp only [List.length_drop, List.length_take]; rfl)) ?_; (with_reducible refine (feed_within.calls 0 a0_0 (wrap64 (a1_0 - 1)) true _ A3.out).mono ?_); rintro e w' ⟨rfl, ⟨nd, rfl⟩⟩; refine ⟨_, rfl, ?_⟩) | (go_at_call 25; (with_reducible refine (feed_within.calls 0 a0_1 (wrap64 (a1_0 - 1)) false _ A5.out).mono ?_); rintro e w' ⟨rfl, ⟨nd, rfl⟩⟩))
 go_ret
 exact ⟨eQ, by repeat (first | (with_reducible first | exact HB.out | apply below_alloc | apply pw_below_drewN | apply below_drew1 | refine below_set ?_ GE1.out | refine below_set ?_ GE101.out) | exact HB.out)⟩
def feed_Valid_2.f (a0_0 : Int) (a0_1 : Int) (a1_0 : Int) (l1_1 : List (S47)) (l1_2 : List (S49)) : Option (Bool) := (feed_within.f 0 a0_0 (wrap64 (a1_0 - 1))).bind fun t102 => (if t102 = true then ((feed_within.f 1 a0_1 3).bind fun t103 => (some (!t103))) else (some true))
set_option maxHeartbeats 8000000 in
set_option maxRecDepth 100000 in
theorem feed_Valid_2.calls (a0_0 : Int) (a0_1 : Int) (b1 : Nat) (a1_0 : Int) (A1_1 : Option Addr) (c1_1 : Nat) (l1_1 : List (S47)) (A1_2 : Option Addr) (c1_2 : Nat) (l1_2 : List (S49)) (r : Bool) (w : World) (hbk1 : w.heap[b1]? = some (.cells #[.int .i64 a1_0, .slice A1_1 l1_1.length c1_1, .slice A1_2 l1_2.length c1_2] 25 (0, 0))) (hr1_1 : Kd.C k47 w A1_1 l1_1.length l1_1) (hc1_1 : l1_1.length ≤ c1_1) (hr1_2 : Kd.C k49 w A1_2 l1_2.length l1_2) (hc1_2 : l1_2.length ≤ c1_2) (h : feed_Valid_2.f a0_0 a0_1 a1_0 l1_1 l1_2 = some r) :
  Calls Tryd.prog 57 #[.agg #[.int .i64 a0_0, .int .i64 a0_1], .pointer (some ⟨b1, 0, none⟩)] w fun e w' => e = .returned (.bool r) ∧ Below w.heap.size w w' := by
 have hu49 := Tryd.underlying49; have HR1_1 := A_ hr1_1; have HC1_1 := A_ hc1_1; clear hr1_1 hc1_1; have HR1_2 := A_ hr1_2; have HC1_2 := A_ hc1_2; clear hr1_2 hc1_2; have BK1 := A_ hbk1; clear hbk1; have HB := A_ (Below.refl w.heap.size w)
 have H : ((feed_within.f 0 a0_0 (wrap64 (a1_0 - 1))).bind fun t102 => (if t102 = true then ((feed_within.f 1 a0_1 3).bind fun t103 => (some (!t103))) else (some true))) = some r := h
 clear h; replace H := Option.bind_eq_some_iff.mp H; obtain ⟨t102, A30, H⟩ := H; (try dsimp only at H); have A3 := A_ A30; clear A30; by_cases c4 : t102 = true; rotate_left
 ·replace c4 := Bool.eq_false_iff.mpr c4
  subst c4; rw [if_neg (show ¬ (false = true) by decide)] at H; obtain rfl := Option.some.inj H
  go_enter Tryd.func57, Tryd.ntmps57
  go_wp2_with (first | ((with_reducible refine gate_dst (N := 2) rfl ?_); refine bxW 2 (cs := #[.int .i64 a0_0, .int .i64 a0_1]) (t := 49) ?_; intro gb101 hg w10 hbox hb; have n0_ := A_ (blk_below (g := b1) (o := .cells #[.int .i64 a1_0, .slice A1_1 l1_1.length c1_1, .slice A1_2 l1_2.length c1_2] 25 (0, 0)) (bkU BK1) hb); have n1_ := A_ (below_step (bW0 HB.out) hb); have n2_ := A_ (hbox); have n3_ := A_ ((szG hg (bW0 HB.out))); have n4_ := A_ ((szG hg (bW0 HB.out))); have n5_ := A_ ((by rw [hg]; exact Nat.ne_of_lt (blk_lt (g := b1) (o := .cells #[.int .i64 a1_0, .slice A1_1 l1_1.length c1_1, .slice A1_2 l1_2.length c1_2] 25 (0, 0)) (bkU BK1)) : b1 ≠ gb101)); have n6_ := A_ ((by rw [hg]; exact Nat.ne_of_gt (blk_lt (g := b1) (o := .cells #[.int .i64 a1_0, .slice A1_1 l1_1.length c1_1, .slice A1_2 l1_2.length c1_2] 25 (0, 0)) (bkU BK1)) : gb101 ≠ b1)); clear BK1; clear HB; have BK1 := n0_; have HB := n1_; have BK101 := n2_; have GW101 := n3_; have GE101 := n4_; have NB1_101 := n5_; have NB101_1 := n6_; clear n0_ n1_ n2_ n3_ n4_ n5_ n6_; clear hb hbox hg; have hnb11 := NB101_1.out; have hnc11 := NB1_101.out; have hcz12_0 : w10.cell? ⟨gb101, 0, none⟩ = some (.int .i64 a0_0) := (blk_cell BK101.out 0).trans rfl; have hcz12_1 : w10.cell? ⟨gb101, 1, none⟩ = some (.int .i64 a0_1) := (blk_cell BK101.out 1).trans rfl; have hfz12_0 := blk_frozen BK101.out 0; have hfz12_1 := blk_frozen BK101.out 1; have hcz13_0 : w10.cell? ⟨b1, 0, none⟩ = some (.int .i64 a1_0) := (blk_cell BK1.out 0).trans rfl; have hcz13_1 : w10.cell? ⟨b1, 1, none⟩ = some (.slice A1_1 l1_1.length c1_1) := (blk_cell BK1.out 1).trans rfl; have hcz13_2 : w10.cell? ⟨b1, 2, none⟩ = some (.slice A1_2 l1_2.length c1_2) := (blk_cell BK1.out 2).trans rfl; have hfz13_0 := blk_frozen BK1.out 0; have hfz13_1 := blk_frozen BK1.out 1; have hfz13_2 := blk_frozen BK1.out 2) | ((with_reducible refine gate_callee (f := 25) rfl ?_); refine goesL_ (some 9) rfl rfl Tryd.func25 (by kernel_rfl) rfl #[.int .i64 0, .int .i64 a0_0, .int .i64 (wrap64 (a1_0 - 1))] rfl (by (try simp only [List.map_toArray, List.map_cons, List.map_nil]); first | done | rfl | (simp only [List.length_drop, List.length_take]; rfl)) ?_; (with_reducible refine (feed_within.calls 0 a0_0 (wrap64 (a1_0 - 1)) false _ A3.out).mono ?_); rintro e w' ⟨rfl, ⟨nd, rfl⟩⟩; refine ⟨_, rfl, ?_⟩))
  go_ret
  exact ⟨eQ, by repeat (first | (with_reducible first | exact HB.out | apply below_alloc | apply pw_below_drewN | apply below_drew1 | refine below_set ?_ GE1.out | refine below_set ?_ GE101.out) | exact HB.out)⟩
 subst c4; rw [if_pos rfl] at H; replace H := Option.bind_eq_some_iff.mp H; obtain ⟨t103, A50, H⟩ := H; (try dsimp only at H); have A5 := A_ A50; clear A50; obtain rfl := Option.some.inj H
 go_enter Tryd.func57, Tryd.ntmps57
 go_wp2_with (first | ((with_reducible refine gate_dst (N := 2) rfl ?_); refine bxW 2 (cs := #[.int .i64 a0_0, .int .i64 a0_1]) (t := 49) ?_; intro gb101 hg w6 hbox hb; have n0_ := A_ (blk_below (g := b1) (o := .cells #[.int .i64 a1_0, .slice A1_1 l1_1.length c1_1, .slice A1_2 l1_2.length c1_2] 25 (0, 0)) (bkU BK1) hb); have n1_ := A_ (below_step (bW0 HB.out) hb); have n2_ := A_ (hbox); have n3_ := A_ ((szG hg (bW0 HB.out))); have n4_ := A_ ((szG hg (bW0 HB.out))); have n5_ := A_ ((by rw [hg]; exact Nat.ne_of_lt (blk_lt (g := b1) (o := .cells #[.int .i64 a1_0, .slice A1_1 l1_1.length c1_1, .slice A1_2 l1_2.length c1_2] 25 (0, 0)) (bkU BK1)) : b1 ≠ gb101)); have n6_ := A_ ((by rw [hg]; exact Nat.ne_of_gt (blk_lt (g := b1) (o := .cells #[.int .i64 a1_0, .slice A1_1 l1_1.length c1_1, .slice A1_2 l1_2.length c1_2] 25 (0, 0)) (bkU BK1)) : gb101 ≠ b1)); clear BK1; clear HB; have BK1 := n0_; have HB := n1_; have BK101 := n2_; have GW101 := n3_; have GE101 := n4_; have NB1_101 := n5_; have NB101_1 := n6_; clear n0_ n1_ n2_ n3_ n4_ n5_ n6_; clear hb hbox hg; have hnb7 := NB101_1.out; have hnc7 := NB1_101.out; have hcz8_0 : w6.cell? ⟨gb101, 0, none⟩ = some (.int .i64 a0_0) := (blk_cell BK101.out 0).trans rfl; have hcz8_1 : w6.cell? ⟨gb101, 1, none⟩ = some (.int .i64 a0_1) := (blk_cell BK101.out 1).trans rfl; have hfz8_0 := blk_frozen BK101.out 0; have hfz8_1 := blk_frozen BK101.out 1; have hcz9_0 : w6.cell? ⟨b1, 0, none⟩ = some (.int .i64 a1_0) := (blk_cell BK1.out 0).trans rfl; have hcz9_1 : w6.cell? ⟨b1, 1, none⟩ = some (.slice A1_1 l1_1.length c1_1) := (blk_cell BK1.out 1).trans rfl; have hcz9_2 : w6.cell? ⟨b1, 2, none⟩ = some (.slice A1_2 l1_2.length c1_2) := (blk_cell BK1.out 2).trans rfl; have hfz9_0 := blk_frozen BK1.out 0; have hfz9_1 := blk_frozen BK1.out 1; have hfz9_2 := blk_frozen BK1.out 2) | ((with_reducible refine gate_callee (f := 25) rfl ?_); refine goesL_ (some 9) rfl rfl Tryd.func25 (by kernel_rfl) rfl #[.int .i64 0, .int .i64 a0_0, .int .i64 (wrap64 (a1_0 - 1))] rfl (by (try simp only [List.map_toArray, List.map_cons, List.map_nil]); first | done | rfl | (simp only [List.length_drop, List.length_take]; rfl)) ?_; (with_reducible refine (feed_within.calls 0 a0_0 (wrap64 (a1_0 - 1)) true _ A3.out).mono ?_); rintro e w' ⟨rfl, ⟨nd, rfl⟩⟩; refine ⟨_, rfl, ?_⟩) | (go_at_call 25; (with_reducible refine (feed_within.calls 1 a0_1 3 t103 _ A5.out).mono ?_); rintro e w' ⟨rfl, ⟨nd, rfl⟩⟩))
 go_ret
 exact ⟨eQ, by repeat (first | (with_reducible first | exact HB.out | apply below_alloc | apply pw_below_drewN | apply below_drew1 | refine below_set ?_ GE1.out | refine below_set ?_ GE101.out) | exact HB.out)⟩
def feed_Valid.j0 : Nat → Bool → Int → List (S47) → List (S49) → Option (Bool)
 | 0, _, _, _, _ => none
 | k + 1, x18, x102000, x102001, x102002 => if x18 = true then (some false) else ((api_Switch_55.f k x102001 (fun z0_ z1_ => feed_Valid_1.f z0_ z1_ x102000 x102001 x102002)).bind fun t103 => (if t103 = true then (some false) else ((api_Feeder_37.f k x102002 (fun z0_ z1_ => feed_Valid_2.f z0_ z1_ x102000 x102001 x102002)).bind fun t104 => (some (!t104)))))
def feed_Valid.f (k : Nat) (a0_0 : Int) (l0_1 : List (S47)) (l0_2 : List (S49)) : Option (Bool) := (feed_within.f 1 a0_0 8).bind fun t102 => (if t102 = true then (if (l0_1.length : Int) > 10 then (feed_Valid.j0 k true a0_0 l0_1 l0_2) else (feed_Valid.j0 k (decide ((l0_2.length : Int) > 6)) a0_0 l0_1 l0_2)) else (feed_Valid.j0 k true a0_0 l0_1 l0_2))
theorem feed_Valid.mono_l : ∀ k, (∀ y0 y1 y2 y3, LeO (feed_Valid.j0 k y0 y1 y2 y3) (feed_Valid.j0 (k + 1) y0 y1 y2 y3))
 | 0 => fun _ _ _ _ r h => by simp [feed_Valid.j0] at h
 | k + 1 => by
  have ih0 := feed_Valid.mono_l k
  ·intro y0 y1 y2 y3
   unfold feed_Valid.j0
   repeat' first
   | (with_reducible exact ih0 _ _ _ _)
   | (with_reducible exact api_Feeder_37.mono _ _ _)
   | (with_reducible exact api_Switch_55.mono _ _ _)
   | (with_reducible exact LeO.refl _)
   | (with_reducible exact LeO.none _)
   | (with_reducible refine LeO.ite ?_ ?_)
   | (with_reducible refine LeO.bind ?_ (fun _ => ?_))
   | exact ih0 _ _ _ _
   | exact api_Feeder_37.mono _ _ _
   | exact api_Switch_55.mono _ _ _
   | exact LeO.none _
   | refine LeO.ite ?_ ?_
   | refine LeO.bind ?_ (fun _ => ?_)
theorem feed_Valid.mono : ∀ a0 a1 a2 k, LeO (feed_Valid.f k a0 a1 a2) (feed_Valid.f (k + 1) a0 a1 a2) := by
 intro a0 a1 a2 k
 have ih0 := feed_Valid.mono_l k
 unfold feed_Valid.f
 repeat' first
   | (with_reducible exact ih0 _ _ _ _)
   | (with_reducible exact api_Feeder_37.mono _ _ _)
   | (with_reducible exact api_Switch_55.mono _ _ _)
   | (with_reducible exact LeO.refl _)
   | (with_reducible exact LeO.none _)
   | (with_reducible refine LeO.ite ?_ ?_)
   | (with_reducible refine LeO.bind ?_ (fun _ => ?_))
   | exact ih0 _ _ _ _
   | exact api_Feeder_37.mono _ _ _
   | exact api_Switch_55.mono _ _ _
   | exact LeO.none _
   | refine LeO.ite ?_ ?_
   | refine LeO.bind ?_ (fun _ => ?_)
set_option maxHeartbeats 8000000 in
set_option maxRecDepth 100000 in
theorem feed_Valid.calls (k : Nat) (a0_0 : Int) (A0_1 : Option Addr) (c0_1 : Nat) (l0_1 : List (S47)) (A0_2 : Option Addr) (c0_2 : Nat) (l0_2 : List (S49)) (r : Bool) (w : World) (hr0_1 : Kd.C k47 w A0_1 l0_1.length l0_1) (hc0_1 : l0_1.length ≤ c0_1) (hr0_2 : Kd.C k49 w A0_2 l0_2.length l0_2) (hc0_2 : l0_2.length ≤ c0_2) (h : feed_Valid.f k a0_0 l0_1 l0_2 = some r) :
  Calls Tryd.prog 45 #[.agg #[.int .i64 a0_0, .slice A0_1 l0_1.length c0_1, .slice A0_2 l0_2.length c0_2]] w fun e w' => e = .returned (.bool r) ∧ Below w.heap.size w w' := by
 have hu25 := Tryd.underlying25; have HR0_1 := A_ hr0_1; have HC0_1 := A_ hc0_1; clear hr0_1 hc0_1; have HR0_2 := A_ hr0_2; have HC0_2 := A_ hc0_2; clear hr0_2 hc0_2; have HB := A_ (Below.refl w.heap.size w)
 have H : ((feed_within.f 1 a0_0 8).bind fun t102 => (if t102 = true then (if (l0_1.length : Int) > 10 then (feed_Valid.j0 k true a0_0 l0_1 l0_2) else (feed_Valid.j0 k (decide ((l0_2.length : Int) > 6)) a0_0 l0_1 l0_2)) else (feed_Valid.j0 k true a0_0 l0_1 l0_2))) = some r := h
 clear h; have HC2 := A_ H; clear H
 go_enter Tryd.func45, Tryd.ntmps45
 go_upto_region 1 with (first | ((with_reducible refine gate_dst (N := 1) rfl ?_); (try (refine gate_guard (by rfl) ?_; dsimp only)); refine bxW 1 (cs := #[.int .i64 a0_0, .slice A0_1 l0_1.length c0_1, .slice A0_2 l0_2.length c0_2]) (t := 25) ?_; intro gb101 hg w3 hbox hb; have BK101 := A_ (hbox); have GW101 := A_ ((szG hg (bW0 HB.out))); have GE101 := A_ ((szG hg (bW0 HB.out))); replace HB := A_ (below_step (bW0 HB.out) hb); clear hb hbox hg))
 (try simp only [Act.put, List.setIfInBounds_toArray, List.set_cons_zero, List.set_cons_succ])
 go_cut [18] (fun v18 wc => ∃ (kq : Nat) (x18_1 : Bool), v18 = .bool x18_1 ∧ Aside0 (feed_Valid.j0 kq x18_1 a0_0 l0_1 l0_2 = some r) ∧ Aside0 (kq ≤ k) ∧ Aside0 (wc.heap[gb101]? = some (.cells #[.int .i64 a0_0, (.slice A0_1 l0_1.length c0_1), (.slice A0_2 l0_2.length c0_2)] 25 (0, 0))) ∧ Aside0 (Below w.heap.size w wc))
 case first =>
  have H := HC2.out; clear HC2; replace H := Option.bind_eq_some_iff.mp H; obtain ⟨t102, A40, H⟩ := H; (try dsimp only at H); have A4 := A_ A40; clear A40; by_cases c5 : t102 = true; rotate_left
  ·replace c5 := Bool.eq_false_iff.mpr c5
   subst c5; rw [if_neg (show ¬ (false = true) by decide)] at H; have H' := A_ H; clear H; have hcz9_0 : w3.cell? ⟨gb101, 0, none⟩ = some (.int .i64 a0_0) := (blk_cell BK101.out 0).trans rfl; have hcz9_1 : w3.cell? ⟨gb101, 1, none⟩ = some (.slice A0_1 l0_1.length c0_1) := (blk_cell BK101.out 1).trans rfl; have hcz9_2 : w3.cell? ⟨gb101, 2, none⟩ = some (.slice A0_2 l0_2.length c0_2) := (blk_cell BK101.out 2).trans rfl; have hfz9_0 := blk_frozen BK101.out 0; have hfz9_1 := blk_frozen BK101.out 1; have hfz9_2 := blk_frozen BK101.out 2
   go_wp2_with (first | ((with_reducible refine gate_callee (f := 25) rfl ?_); refine goesL_ (some 5) rfl rfl Tryd.func25 (by kernel_rfl) rfl #[.int .i64 1, .int .i64 a0_0, .int .i64 8] rfl (by (try simp only [List.map_toArray, List.map_cons, List.map_nil]); first | done | rfl | (simp only [List.length_drop, List.length_take]; rfl)) ?_; (with_reducible refine (feed_within.calls 1 a0_0 8 false _ A4.out).mono ?_); rintro e w' ⟨rfl, ⟨nd, rfl⟩⟩; refine ⟨_, rfl, ?_⟩))
   go_meet
   case rel => exact ⟨_, (true), eS, H', ⟨by first | omega | exact Nat.le_refl _⟩, ⟨bkU BK101⟩, ⟨(bW1 HB.out GE101.out)⟩⟩
  subst c5; rw [if_pos rfl] at H; by_cases c6 : (l0_1.length : Int) > 10
  ·rw [if_pos c6] at H
   have c6b0 : decide (10 < (l0_1.length : Int)) = true := decide_eq_true c6
   have c6b1 : decide (10 < l0_1.length) = true := decide_eq_true (by omega)
   clear c6
   (first | rw [c6b0] | (simp only [i64_w, i32_w]; rw [c6b0]) | skip)
   have H' := A_ H; clear H; have hcz7_0 : w3.cell? ⟨gb101, 0, none⟩ = some (.int .i64 a0_0) := (blk_cell BK101.out 0).trans rfl; have hcz7_1 : w3.cell? ⟨gb101, 1, none⟩ = some (.slice A0_1 l0_1.length c0_1) := (blk_cell BK101.out 1).trans rfl; have hcz7_2 : w3.cell? ⟨gb101, 2, none⟩ = some (.slice A0_2 l0_2.length c0_2) := (blk_cell BK101.out 2).trans rfl; have hfz7_0 := blk_frozen BK101.out 0; have hfz7_1 := blk_frozen BK101.out 1; have hfz7_2 := blk_frozen BK101.out 2
   go_wp2_with (first | ((with_reducible refine gate_callee (f := 25) rfl ?_); refine goesL_ (some 5) rfl rfl Tryd.func25 (by kernel_rfl) rfl #[.int .i64 1, .int .i64 a0_0, .int .i64 8] rfl (by (try simp only [List.map_toArray, List.map_cons, List.map_nil]); first | done | rfl | (simp only [List.length_drop, List.length_take]; rfl)) ?_; (with_reducible refine (feed_within.calls 1 a0_0 8 true _ A4.out).mono ?_); rintro e w' ⟨rfl, ⟨nd, rfl⟩⟩; refine ⟨_, rfl, ?_⟩))
   go_meet
   case rel => exact ⟨_, (true), eS, H', ⟨by first | omega | exact Nat.le_refl _⟩, ⟨bkU BK101⟩, ⟨(bW1 HB.out GE101.out)⟩⟩
  rw [if_neg c6] at H; have c6b0 : decide (10 < (l0_1.length : Int)) = false := decide_eq_false c6
  have c6b1 : decide (10 < l0_1.length) = false := decide_eq_false (by omega)
  clear c6
  (first | rw [c6b0] | (simp only [i64_w, i32_w]; rw [c6b0]) | skip)
  have H' := A_ H; clear H; have hcz8_0 : w3.cell? ⟨gb101, 0, none⟩ = some (.int .i64 a0_0) := (blk_cell BK101.out 0).trans rfl; have hcz8_1 : w3.cell? ⟨gb101, 1, none⟩ = some (.slice A0_1 l0_1.length c0_1) := (blk_cell BK101.out 1).trans rfl; have hcz8_2 : w3.cell? ⟨gb101, 2, none⟩ = some (.slice A0_2 l0_2.length c0_2) := (blk_cell BK101.out 2).trans rfl; have hfz8_0 := blk_frozen BK101.out 0; have hfz8_1 := blk_frozen BK101.out 1; have hfz8_2 := blk_frozen BK101.out 2
  go_wp2_with (first | ((with_reducible refine gate_callee (f := 25) rfl ?_); refine goesL_ (some 5) rfl rfl Tryd.func25 (by kernel_rfl) rfl #[.int .i64 1, .int .i64 a0_0, .int .i64 8] rfl (by (try simp only [List.map_toArray, List.map_cons, List.map_nil]); first | done | rfl | (simp only [List.length_drop, List.length_take]; rfl)) ?_; (with_reducible refine (feed_within.calls 1 a0_0 8 true _ A4.out).mono ?_); rintro e w' ⟨rfl, ⟨nd, rfl⟩⟩; refine ⟨_, rfl, ?_⟩))
  go_meet
  case rel => exact ⟨_, (decide ((l0_2.length : Int) > 6)), eS, H', ⟨by first | omega | exact Nat.le_refl _⟩, ⟨bkU BK101⟩, ⟨(bW1 HB.out GE101.out)⟩⟩
 case rest =>
  clear HC2
  try clear c2; try clear p2; try clear c4; try clear c5; try clear c6; try clear c6b0; try clear c6b1; try clear hcz7_0; try clear hcz7_1; try clear hcz7_2; try clear hcz8_0; try clear hcz8_1; try clear hcz8_2; try clear hcz9_0; try clear hcz9_1; try clear hcz9_2; try clear hfz7_0; try clear hfz7_1; try clear hfz7_2; try clear hfz8_0; try clear hfz8_1; try clear hfz8_2; try clear hfz9_0; try clear hfz9_1; try clear hfz9_2
  obtain ⟨kq, x18_1, rfl, HA, HJ1, BK101, HB⟩ := hcut
  cases kq with
  | zero => exact absurd HA.out (by simp [feed_Valid.j0])
  | succ kj1 =>
   have H := HA.out; clear HA; simp only [feed_Valid.j0] at H; by_cases c10 : x18_1 = true
   ·subst c10
    rw [if_pos rfl] at H; obtain rfl := Option.some.inj H
    go_wp2
    go_ret
    exact ⟨eQ, (bW1 HB.out GE101.out)⟩
   replace c10 := Bool.eq_false_iff.mpr c10; subst c10; rw [if_neg (show ¬ (false = true) by decide)] at H; replace H := Option.bind_eq_some_iff.mp H; obtain ⟨t103, A110, H⟩ := H; (try dsimp only at H); have A11 := A_ A110; clear A110; by_cases c12 : t103 = true
   ·subst c12
    rw [if_pos rfl] at H; obtain rfl := Option.some.inj H; have hcz13_0 : wc.cell? ⟨gb101, 0, none⟩ = some (.int .i64 a0_0) := (blk_cell BK101.out 0).trans rfl; have hcz13_1 : wc.cell? ⟨gb101, 1, none⟩ = some (.slice A0_1 l0_1.length c0_1) := (blk_cell BK101.out 1).trans rfl; have hcz13_2 : wc.cell? ⟨gb101, 2, none⟩ = some (.slice A0_2 l0_2.length c0_2) := (blk_cell BK101.out 2).trans rfl; have hfz13_0 := blk_frozen BK101.out 0; have hfz13_1 := blk_frozen BK101.out 1; have hfz13_2 := blk_frozen BK101.out 2
    go_wp2_with (first | ((with_reducible refine gate_callee (f := 55) rfl ?_); refine goesL_ (some 22) rfl rfl Tryd.func55 (by kernel_rfl) rfl #[.slice A0_1 l0_1.length c0_1, .func (.func 56) #[] #[.pointer (some ⟨gb101, 0, none⟩)]] rfl (by (try simp only [List.map_toArray, List.map_cons, List.map_nil]); first | done | rfl | (simp only [List.length_drop, List.length_take]; rfl)) ?_; (with_reducible refine (api_Switch_55.calls kj1 _ _ l0_1 (enters_f Tryd.func56 (by kernel_rfl) rfl) (fun z0_ z1_ => feed_Valid_1.f z0_ z1_ a0_0 l0_1 l0_2) true _ ?side1 ?side2 ?side3 A11.out).mono ?_); (case side1 => exact cU (Kd.C_below HR0_1.out HB.out)); (case side2 => exact HC0_1.out); (case side3 => intro z0_ z1_ q0_ W_ hW_ hq_; have hc_ := feed_Valid_1.calls z0_ z1_ gb101 a0_0 _ _ l0_1 _ _ l0_2 q0_ W_ (blk_below (g := gb101) (o := .cells #[.int .i64 a0_0, .slice A0_1 l0_1.length c0_1, .slice A0_2 l0_2.length c0_2] 25 (0, 0)) (bkU BK101) hW_) (Kd.C_below (by exact cU (Kd.C_below HR0_1.out HB.out)) hW_) (by exact HC0_1.out) (Kd.C_below (by exact cU (Kd.C_below HR0_2.out HB.out)) hW_) (by exact HC0_2.out) hq_; exact hc_.mono (fun e_ w_ h_ => h_)); rintro e w14 ⟨rfl, hb⟩; refine ⟨_, rfl, ?_⟩; replace BK101 := A_ (bkB BK101 hb); replace HB := A_ (below_step (bW1 HB.out GE101.out) hb); (try clear hb)))
    go_ret
    exact ⟨eQ, (bW1 HB.out GE101.out)⟩
   replace c12 := Bool.eq_false_iff.mpr c12; subst c12; rw [if_neg (show ¬ (false = true) by decide)] at H; replace H := Option.bind_eq_some_iff.mp H; obtain ⟨t104, A150, H⟩ := H; (try dsimp only at H); have A15 := A_ A150; clear A150; obtain rfl := Option.some.inj H; have hcz16_0 : wc.cell? ⟨gb101, 0, none⟩ = some (.int .i64 a0_0) := (blk_cell BK101.out 0).trans rfl; have hcz16_1 : wc.cell? ⟨gb101, 1, none⟩ = some (.slice A0_1 l0_1.length c0_1) := (blk_cell BK101.out 1).trans rfl; have hcz16_2 : wc.cell? ⟨gb101, 2, none⟩ = some (.slice A0_2 l0_2.length c0_2) := (blk_cell BK101.out 2).trans rfl; have hfz16_0 := blk_frozen BK101.out 0; have hfz16_1 := blk_frozen BK101.out 1; have hfz16_2 := blk_frozen BK101.out 2
   go_wp2_with (first | ((with_reducible refine gate_callee (f := 55) rfl ?_); refine goesL_ (some 22) rfl rfl Tryd.func55 (by kernel_rfl) rfl #[.slice A0_1 l0_1.length c0_1, .func (.func 56) #[] #[.pointer (some ⟨gb101, 0, none⟩)]] rfl (by (try simp only [List.map_toArray, List.map_cons, List.map_nil]); first | done | rfl | (simp only [List.length_drop, List.length_take]; rfl)) ?_; (with_reducible refine (api_Switch_55.calls kj1 _ _ l0_1 (enters_f Tryd.func56 (by kernel_rfl) rfl) (fun z0_ z1_ => feed_Valid_1.f z0_ z1_ a0_0 l0_1 l0_2) false _ ?side1 ?side2 ?side3 A11.out).mono ?_); (case side1 => exact cU (Kd.C_below HR0_1.out HB.out)); (case side2 => exact HC0_1.out); (case side3 => intro z0_ z1_ q0_ W_ hW_ hq_; have hc_ := feed_Valid_1.calls z0_ z1_ gb101 a0_0 _ _ l0_1 _ _ l0_2 q0_ W_ (blk_below (g := gb101) (o := .cells #[.int .i64 a0_0, .slice A0_1 l0_1.length c0_1, .slice A0_2 l0_2.length c0_2] 25 (0, 0)) (bkU BK101) hW_) (Kd.C_below (by exact cU (Kd.C_below HR0_1.out HB.out)) hW_) (by exact HC0_1.out) (Kd.C_below (by exact cU (Kd.C_below HR0_2.out HB.out)) hW_) (by exact HC0_2.out) hq_; exact hc_.mono (fun e_ w_ h_ => h_)); rintro e w17 ⟨rfl, hb⟩; refine ⟨_, rfl, ?_⟩; replace BK101 := A_ (bkB BK101 hb); replace HB := A_ (below_step (bW1 HB.out GE101.out) hb); (try clear hb); have hcz18_0 : w17.cell? ⟨gb101, 0, none⟩ = some (.int .i64 a0_0) := (blk_cell BK101.out 0).trans rfl; have hcz18_1 : w17.cell? ⟨gb101, 1, none⟩ = some (.slice A0_1 l0_1.length c0_1) := (blk_cell BK101.out 1).trans rfl; have hcz18_2 : w17.cell? ⟨gb101, 2, none⟩ = some (.slice A0_2 l0_2.length c0_2) := (blk_cell BK101.out 2).trans rfl; have hfz18_0 := blk_frozen BK101.out 0; have hfz18_1 := blk_frozen BK101.out 1; have hfz18_2 := blk_frozen BK101.out 2) | (go_at_call 37; (with_reducible refine (api_Feeder_37.calls kj1 _ _ l0_2 (enters_f Tryd.func57 (by kernel_rfl) rfl) (fun z0_ z1_ => feed_Valid_2.f z0_ z1_ a0_0 l0_1 l0_2) t104 _ ?side1 ?side2 ?side3 A15.out).mono ?_); (case side1 => exact cU (Kd.C_below HR0_2.out HB.out)); (case side2 => exact HC0_2.out); (case side3 => intro z0_ z1_ q0_ W_ hW_ hq_; have hc_ := feed_Valid_2.calls z0_ z1_ gb101 a0_0 _ _ l0_1 _ _ l0_2 q0_ W_ (blk_below (g := gb101) (o := .cells #[.int .i64 a0_0, .slice A0_1 l0_1.length c0_1, .slice A0_2 l0_2.length c0_2] 25 (0, 0)) (bkU BK101) hW_) (Kd.C_below (by exact cU (Kd.C_below HR0_1.out HB.out)) hW_) (by exact HC0_1.out) (Kd.C_below (by exact cU (Kd.C_below HR0_2.out HB.out)) hW_) (by exact HC0_2.out) hq_; exact hc_.mono (fun e_ w_ h_ => h_)); rintro e w19 ⟨rfl, hb⟩; replace BK101 := A_ (bkB BK101 hb); replace HB := A_ (below_step (bW1 HB.out GE101.out) hb); (try clear hb)))
   go_ret
   exact ⟨eQ, (bW1 HB.out GE101.out)⟩
end Go.Proofs.YtbbjonbnmoomlaaDoor.G
end
