/- Functions of the seat and plain laws about them: GF23. -/
import Derived.Test.YthbpibdfookbmaaGBase
import Derived.Test.YthbpibdfookbmaaZT0
import Derived.Test.YthbpibdfookbmaaZT2
import Derived.Test.YthbpibdfookbmaaZT3
import Derived.Test.YthbpibdfookbmaaZT5
section
namespace Go.Proofs.Ythbpibdfookbmaa.G
open Go.RowKit Go.Proofs.YthbpibdfookbmaaW.PrintWords Go.Proofs.YthbpibdfookbmaaW.PrintLast Go.Proofs.YthbpibdfookbmaaW.PrintMore
attribute [local go_sem] max2_int min2_int max_two min_two max_three min_three max_four min_four
set_option linter.unusedVariables false
set_option linter.unusedSimpArgs false
theorem V_far_ {α : Type} {d : Kd α} {e base n c g : Nat} {ok : Nat → Prop} {W : World} {A : Option Addr} {xs : List α} (h : Kd.V d e W base ok (.slice A n c) xs) (hs : 0 < d.sz) (hok : ∀ k, ok k → k ≠ g) : ∀ ad, A = some ad → 0 < n → ad.block ≠ g := by
 rintro ad rfl hn he
 obtain ⟨h1, h2, hf⟩ := Kd.V_at h; obtain ⟨_, _, hc0⟩ := Kd.F_now hf
 have hf2 := hf (W.setRow g #[]) (fun k hk _ => setRow_other W g k #[] (hok k hk))
 obtain ⟨_, _, hc1⟩ := hf2
 obtain ⟨a0, e0, hc0⟩ := hc0 (by omega)
 obtain ⟨a1, e1, hc1⟩ := hc1 (by omega)
 injection e0 with e0
 injection e1 with e1
 subst e0; subst e1
 obtain ⟨c0, l0, _, q0⟩ := hc0 0 _ (List.getElem?_eq_getElem (by omega))
 obtain ⟨c1, l1, _, q1⟩ := hc1 0 _ (List.getElem?_eq_getElem (by omega))
 have r0 := q0 0 _ (List.getElem?_eq_getElem (by omega))
 have r1 := q1 0 _ (List.getElem?_eq_getElem (by omega))
 have hb : ∀ z, (Addr.add ad z).block = g := fun z => by rw [add_block]; exact he
 unfold World.cell? at r0 r1
 rw [hb] at r0 r1
 cases hg : W.heap[g]? with
 | none => rw [hg] at r0; cases r0
 | some o =>
  cases o with
  | cells cs t fr =>
   rw [setRow_heap W g cs #[] t fr hg] at r1
   simp at r1
  | _ => rw [hg] at r0; cases r0
mutual
def ice_First.j1 : Nat → Int → List (List Bool) → List Int → List Int → Int → Option (List Int × Int)
 | 0, _, _, _, _, _ => none
 | k + 1, x1, x7, x107000, x107001, x107002 => (ice_game_first.f x107000 x107001 x107002).bind fun bt123 => (if 0 ≤ (mn x1 (wrap64 ((x7.length : Int) - 1))) then (if (mn x1 (wrap64 ((x7.length : Int) - 1))) < (x7.length : Int) then (if 0 ≤ bt123.1 then (if bt123.1 < ((rd_L3 x7 (mn x1 (wrap64 ((x7.length : Int) - 1)))).length : Int) then (if (rdOf false (rd_L3 x7 (mn x1 (wrap64 ((x7.length : Int) - 1)))) bt123.1 = true) then (ice_First.l1 k x7 bt123.1 ([] : List Int) (wrap64 (x1 - 1)) x107000 x107001 bt123.2) else (some (([] : List Int), 5))) else (none)) else (none)) else (none)) else (none))
def ice_First.l1 : Nat → List (List Bool) → Int → List Int → Int → List Int → List Int → Int → Option (List Int × Int)
 | 0, _, _, _, _, _, _, _ => none
 | k + 1, x7, x10, x11, x12, x107000, x107001, x107002 => if x12 ≥ 0 then (if 0 ≤ (mn x12 (wrap64 ((x7.length : Int) - 1))) then (if (mn x12 (wrap64 ((x7.length : Int) - 1))) < (x7.length : Int) then ((ice_game_choices.f k x107000 x107001 x107002 x10 (rd_L3 x7 (mn x12 (wrap64 ((x7.length : Int) - 1))))).bind fun bt128 => (if 0 < (bt128.1.length : Int) then (if x11.length < 17592186044416 then ((ice_game_tonight.f k x107000 x107001 bt128.2 x10 (rd bt128.1 0)).bind fun bt136 => (ice_First.l1 k x7 bt136.1 (x11 ++ [rd bt128.1 0]) (wrap64 (x12 - 1)) x107000 x107001 bt136.2)) else (none)) else (none))) else (none)) else (none)) else (some (x11, 0))
def ice_First.l0 : Nat → Int → List (List Bool) → List Int → List Int → Int → Option (List Int × Int)
 | 0, _, _, _, _, _ => none
 | k + 1, x1, x7, x107000, x107001, x107002 => if (x7.length : Int) ≤ x1 then (if 0 ≤ (wrap64 ((x7.length : Int) - 1)) then (if (wrap64 ((x7.length : Int) - 1)) < (x7.length : Int) then ((ice_game_before.f k x107000 x107001 x107002 (rd_L3 x7 (wrap64 ((x7.length : Int) - 1)))).bind fun bt115 => ((slices_Equal_bool_bool.f k bt115.1 (rd_L3 x7 (wrap64 ((x7.length : Int) - 1)))).bind fun t119 => (if t119 = true then (ice_First.j1 k x1 x7 x107000 x107001 bt115.2) else (if x7.length < 5864062014805 then (ice_First.l0 k x1 (x7 ++ [bt115.1]) x107000 x107001 bt115.2) else (none))))) else (none)) else (none)) else (ice_First.j1 k x1 x7 x107000 x107001 x107002)
end
def ice_First.f (k : Nat) (l0 : List Int) (a1 : Int) : Option (List Int × Int) := (ice_Valid.f k l0).bind fun t101 => (if t101 = true then ((ice_within.f 0 a1 200).bind fun t102 => (if t102 = true then ((ice_gameOf.f k l0).bind fun bt103 => ((ice_game_all.f bt103.1 bt103.2.1 bt103.2.2).bind fun bt107 => (ice_First.l0 k a1 (([bt107.1] : List (List Bool))) bt103.1 bt103.2.1 bt107.2))) else (some (([] : List Int), 2)))) else (some (([] : List Int), 80)))
theorem ice_First.mono_l : ∀ k, (∀ y0 y1 y2 y3 y4, LeO (ice_First.j1 k y0 y1 y2 y3 y4) (ice_First.j1 (k + 1) y0 y1 y2 y3 y4)) ∧ (∀ y0 y1 y2 y3 y4 y5 y6, LeO (ice_First.l1 k y0 y1 y2 y3 y4 y5 y6) (ice_First.l1 (k + 1) y0 y1 y2 y3 y4 y5 y6)) ∧ (∀ y0 y1 y2 y3 y4, LeO (ice_First.l0 k y0 y1 y2 y3 y4) (ice_First.l0 (k + 1) y0 y1 y2 y3 y4))
 | 0 => ⟨fun _ _ _ _ _ r h => by simp [ice_First.j1] at h, fun _ _ _ _ _ _ _ r h => by simp [ice_First.l1] at h, fun _ _ _ _ _ r h => by simp [ice_First.l0] at h⟩
 | k + 1 => by
  obtain ⟨ih0, ih1, ih2⟩ := ice_First.mono_l k
  refine ⟨?_, ?_, ?_⟩
  ·intro y0 y1 y2 y3 y4
   unfold ice_First.j1
   repeat' first
   | (with_reducible exact ih0 _ _ _ _ _)
   | (with_reducible exact ih1 _ _ _ _ _ _ _)
   | (with_reducible exact ih2 _ _ _ _ _)
   | (with_reducible exact ice_Valid.mono _ _)
   | (with_reducible exact ice_gameOf.mono _ _)
   | (with_reducible exact ice_game_before.mono _ _ _ _ _)
   | (with_reducible exact ice_game_choices.mono _ _ _ _ _ _)
   | (with_reducible exact ice_game_tonight.mono _ _ _ _ _ _)
   | (with_reducible exact slices_Equal_bool_bool.mono _ _ _)
   | (with_reducible exact LeO.refl _)
   | (with_reducible exact LeO.none _)
   | (with_reducible refine LeO.ite ?_ ?_)
   | (with_reducible refine LeO.bind ?_ (fun _ => ?_))
   | exact ih0 _ _ _ _ _
   | exact ih1 _ _ _ _ _ _ _
   | exact ih2 _ _ _ _ _
   | exact ice_Valid.mono _ _
   | exact ice_gameOf.mono _ _
   | exact ice_game_before.mono _ _ _ _ _
   | exact ice_game_choices.mono _ _ _ _ _ _
   | exact ice_game_tonight.mono _ _ _ _ _ _
   | exact slices_Equal_bool_bool.mono _ _ _
   | exact LeO.none _
   | refine LeO.ite ?_ ?_
   | refine LeO.bind ?_ (fun _ => ?_)
  ·intro y0 y1 y2 y3 y4 y5 y6
   unfold ice_First.l1
   repeat' first
   | (with_reducible exact ih0 _ _ _ _ _)
   | (with_reducible exact ih1 _ _ _ _ _ _ _)
   | (with_reducible exact ih2 _ _ _ _ _)
   | (with_reducible exact ice_Valid.mono _ _)
   | (with_reducible exact ice_gameOf.mono _ _)
   | (with_reducible exact ice_game_before.mono _ _ _ _ _)
   | (with_reducible exact ice_game_choices.mono _ _ _ _ _ _)
   | (with_reducible exact ice_game_tonight.mono _ _ _ _ _ _)
   | (with_reducible exact slices_Equal_bool_bool.mono _ _ _)
   | (with_reducible exact LeO.refl _)
   | (with_reducible exact LeO.none _)
   | (with_reducible refine LeO.ite ?_ ?_)
   | (with_reducible refine LeO.bind ?_ (fun _ => ?_))
   | exact ih0 _ _ _ _ _
   | exact ih1 _ _ _ _ _ _ _
   | exact ih2 _ _ _ _ _
   | exact ice_Valid.mono _ _
   | exact ice_gameOf.mono _ _
   | exact ice_game_before.mono _ _ _ _ _
   | exact ice_game_choices.mono _ _ _ _ _ _
   | exact ice_game_tonight.mono _ _ _ _ _ _
   | exact slices_Equal_bool_bool.mono _ _ _
   | exact LeO.none _
   | refine LeO.ite ?_ ?_
   | refine LeO.bind ?_ (fun _ => ?_)
  ·intro y0 y1 y2 y3 y4
   unfold ice_First.l0
   repeat' first
   | (with_reducible exact ih0 _ _ _ _ _)
   | (with_reducible exact ih1 _ _ _ _ _ _ _)
   | (with_reducible exact ih2 _ _ _ _ _)
   | (with_reducible exact ice_Valid.mono _ _)
   | (with_reducible exact ice_gameOf.mono _ _)
   | (with_reducible exact ice_game_before.mono _ _ _ _ _)
   | (with_reducible exact ice_game_choices.mono _ _ _ _ _ _)
   | (with_reducible exact ice_game_tonight.mono _ _ _ _ _ _)
   | (with_reducible exact slices_Equal_bool_bool.mono _ _ _)
   | (with_reducible exact LeO.refl _)
   | (with_reducible exact LeO.none _)
   | (with_reducible refine LeO.ite ?_ ?_)
   | (with_reducible refine LeO.bind ?_ (fun _ => ?_))
   | exact ih0 _ _ _ _ _
   | exact ih1 _ _ _ _ _ _ _
   | exact ih2 _ _ _ _ _
   | exact ice_Valid.mono _ _
   | exact ice_gameOf.mono _ _
   | exact ice_game_before.mono _ _ _ _ _
   | exact ice_game_choices.mono _ _ _ _ _ _
   | exact ice_game_tonight.mono _ _ _ _ _ _
   | exact slices_Equal_bool_bool.mono _ _ _
   | exact LeO.none _
   | refine LeO.ite ?_ ?_
   | refine LeO.bind ?_ (fun _ => ?_)
theorem ice_First.mono : ∀ a0 a1 k, LeO (ice_First.f k a0 a1) (ice_First.f (k + 1) a0 a1) := by
 intro a0 a1 k
 obtain ⟨ih0, ih1, ih2⟩ := ice_First.mono_l k
 unfold ice_First.f
 repeat' first
   | (with_reducible exact ih0 _ _ _ _ _)
   | (with_reducible exact ih1 _ _ _ _ _ _ _)
   | (with_reducible exact ih2 _ _ _ _ _)
   | (with_reducible exact ice_Valid.mono _ _)
   | (with_reducible exact ice_gameOf.mono _ _)
   | (with_reducible exact ice_game_before.mono _ _ _ _ _)
   | (with_reducible exact ice_game_choices.mono _ _ _ _ _ _)
   | (with_reducible exact ice_game_tonight.mono _ _ _ _ _ _)
   | (with_reducible exact slices_Equal_bool_bool.mono _ _ _)
   | (with_reducible exact LeO.refl _)
   | (with_reducible exact LeO.none _)
   | (with_reducible refine LeO.ite ?_ ?_)
   | (with_reducible refine LeO.bind ?_ (fun _ => ?_))
   | exact ih0 _ _ _ _ _
   | exact ih1 _ _ _ _ _ _ _
   | exact ih2 _ _ _ _ _
   | exact ice_Valid.mono _ _
   | exact ice_gameOf.mono _ _
   | exact ice_game_before.mono _ _ _ _ _
   | exact ice_game_choices.mono _ _ _ _ _ _
   | exact ice_game_tonight.mono _ _ _ _ _ _
   | exact slices_Equal_bool_bool.mono _ _ _
   | exact LeO.none _
   | refine LeO.ite ?_ ?_
   | refine LeO.bind ?_ (fun _ => ?_)
set_option maxHeartbeats 8000000 in
set_option maxRecDepth 100000 in
theorem ice_First.calls (k : Nat) (A0 : Option Addr) (c0 : Nat) (l0 : List Int) (a1 : Int) (r1 : List Int) (r2 : Int) (w : World) (hr0 : Kd.C (Kd.int .i64) w A0 l0.length l0) (hc0 : l0.length ≤ c0) (h : ice_First.f k l0 a1 = some (r1, r2)) :
  Calls Try.prog 23 #[.slice A0 l0.length c0, .int .i64 a1] w fun e w' => ∃ v0_ : Value, e = .returned (.tuple #[v0_, .int .i64 r2]) ∧ Kd.R (Kd.int .i64) 3 w' w.heap.size (fun _ => True) v0_ r1 ∧ Below w.heap.size w w' := by
 have HR0 := A_ hr0; have HC0 := A_ hc0; clear hr0 hc0; have HB := A_ (Below.refl w.heap.size w); have HB00 := A_ (Below.refl w.heap.size w)
 have H : ((ice_Valid.f k l0).bind fun t101 => (if t101 = true then ((ice_within.f 0 a1 200).bind fun t102 => (if t102 = true then ((ice_gameOf.f k l0).bind fun bt103 => ((ice_game_all.f bt103.1 bt103.2.1 bt103.2.2).bind fun bt107 => (ice_First.l0 k a1 (([bt107.1] : List (List Bool))) bt103.1 bt103.2.1 bt107.2))) else (some (([] : List Int), 2)))) else (some (([] : List Int), 80)))) = some (r1, r2) := h
 clear h; replace H := Option.bind_eq_some_iff.mp H; obtain ⟨t101, A30, H⟩ := H; (try dsimp only at H); have A3 := A_ A30; clear A30; by_cases c4 : t101 = true; rotate_left
 ·replace c4 := Bool.eq_false_iff.mpr c4
  subst c4; rw [if_neg (show ¬ (false = true) by decide)] at H; simp only [Option.some.injEq, Prod.mk.injEq] at H; obtain ⟨rfl, rfl⟩ := H
  go_enter Try.func23, Try.ntmps23
  go_wp2_with (first | ((with_reducible refine gate_callee (f := 29) rfl ?_); refine goesW_ (some 16) Try.func29 #[.slice A0 l0.length c0] ?_; (with_reducible refine (ice_Valid.calls k _ _ l0 false _ ?side1 ?side2 A3.out).mono ?_); (case side1 => exact cU HR0.out); (case side2 => exact HC0.out); rintro e w57 ⟨rfl, hb⟩; refine ⟨_, rfl, ?_⟩; have n0_ := A_ (below_step (bW0 HB.out) hb); clear HB; have HB := n0_; clear n0_; (try clear hb)))
  go_ret2
  exact ⟨_, by first | rfl | (simp [errW_none, errW_some] <;> rfl) | (simp [*, errW_none, errW_some] <;> rfl), by first | exact Kd.R_nil _ _ _ _ _ | exact Kd.N_nil _ _ _ _ _ | exact Kd.V_nil _ _ _ _ _ | exact Kd.Q_nil _ _ _ _ _ | exact Kd.S_nil _ _ _ _ _, below_step HB00.out (bW0 HB.out)⟩
 subst c4; rw [if_pos rfl] at H; replace H := Option.bind_eq_some_iff.mp H; obtain ⟨t102, A50, H⟩ := H; (try dsimp only at H); have A5 := A_ A50; clear A50; by_cases c6 : t102 = true; rotate_left
 ·replace c6 := Bool.eq_false_iff.mpr c6
  subst c6; rw [if_neg (show ¬ (false = true) by decide)] at H; simp only [Option.some.injEq, Prod.mk.injEq] at H; obtain ⟨rfl, rfl⟩ := H
  go_enter Try.func23, Try.ntmps23
  go_wp2_with (first | ((with_reducible refine gate_callee (f := 29) rfl ?_); refine goesW_ (some 16) Try.func29 #[.slice A0 l0.length c0] ?_; (with_reducible refine (ice_Valid.calls k _ _ l0 true _ ?side1 ?side2 A3.out).mono ?_); (case side1 => exact cU HR0.out); (case side2 => exact HC0.out); rintro e w56 ⟨rfl, hb⟩; refine ⟨_, rfl, ?_⟩; have n0_ := A_ (below_step (bW0 HB.out) hb); clear HB; have HB := n0_; clear n0_; (try clear hb)) | ((with_reducible refine gate_callee (f := 50) rfl ?_); refine goesW_ (some 20) Try.func50 #[.int .i64 0, .int .i64 a1, .int .i64 200] ?_; (with_reducible refine (ice_within.calls 0 a1 200 false _ A5.out).mono ?_); rintro e w' ⟨rfl, ⟨nd, rfl⟩⟩; refine ⟨_, rfl, ?_⟩))
  go_ret2
  exact ⟨_, by first | rfl | (simp [errW_none, errW_some] <;> rfl) | (simp [*, errW_none, errW_some] <;> rfl), by first | exact Kd.R_nil _ _ _ _ _ | exact Kd.N_nil _ _ _ _ _ | exact Kd.V_nil _ _ _ _ _ | exact Kd.Q_nil _ _ _ _ _ | exact Kd.S_nil _ _ _ _ _, below_step HB00.out (bW0 HB.out)⟩
 subst c6; rw [if_pos rfl] at H; replace H := Option.bind_eq_some_iff.mp H; obtain ⟨⟨t103, t104, t105⟩, A70, H⟩ := H; (try dsimp only at H); have A7 := A_ A70; clear A70; replace H := Option.bind_eq_some_iff.mp H; obtain ⟨⟨t107, t110⟩, A80, H⟩ := H; (try dsimp only at H); have A8 := A_ A80; clear A80; obtain ⟨y111, hy111⟩ : ∃ y_ : List (List Bool), y_ = (([t107] : List (List Bool))) := ⟨_, rfl⟩
 replace H : (ice_First.l0 k a1 y111 t103 t104 t110) = some (r1, r2) := by first | (rw [hy111]; with_reducible exact H) | (have H2_ := (Option.bind_some _ _).symm.trans H; rw [hy111]; with_reducible exact H2_) | (have H2_ := (Option.bind_some _ _).symm.trans H; with_reducible exact H2_) | with_reducible exact H | (rw [hy111]; exact H) | exact H
 have Ny111 := A_ hy111; clear hy111; have HC9 := A_ H; clear H
 go_enter Try.func23, Try.ntmps23
 go_upto_block 1 with (first | ((with_reducible refine gate_callee (f := 29) rfl ?_); refine goesW_ (some 16) Try.func29 #[.slice A0 l0.length c0] ?_; (with_reducible refine (ice_Valid.calls k _ _ l0 true _ ?side1 ?side2 A3.out).mono ?_); (case side1 => exact cU HR0.out); (case side2 => exact HC0.out); rintro e w10 ⟨rfl, hb⟩; refine ⟨_, rfl, ?_⟩; have n0_ := A_ (below_step (bW0 HB.out) hb); clear HB; have HB := n0_; clear n0_; (try clear hb)) | ((with_reducible refine gate_callee (f := 50) rfl ?_); refine goesW_ (some 20) Try.func50 #[.int .i64 0, .int .i64 a1, .int .i64 200] ?_; (with_reducible refine (ice_within.calls 0 a1 200 true _ A5.out).mono ?_); rintro e w' ⟨rfl, ⟨nd, rfl⟩⟩; refine ⟨_, rfl, ?_⟩) | ((with_reducible refine gate_callee (f := 53) rfl ?_); refine goesW_ (some 23) Try.func53 #[.slice A0 l0.length c0] ?_; (with_reducible refine (ice_gameOf.calls k _ _ l0 t103 t104 t105 w _ ?side1 ?side2 ?side3 A7.out).mono ?_); (case side1 => repeat (first | (with_reducible first | exact HB.out | apply below_alloc | apply pw_below_drewN | apply below_drew1) | exact HB.out)); (case side2 => exact HR0.out); (case side3 => exact HC0.out); rintro e w ⟨g106, rfl, hi, hb, hb2⟩; refine ⟨_, rfl, ?_⟩; have n0_ := A_ (hb); have n1_ := A_ (hi); clear HB; have HB := n0_; have HI106 := n1_; clear n0_ n1_; have HB00_ := A_ (below_step HB00.out HB.out); have n_ := A_ (Kd.C_below HR0.out HB.out); clear HR0; have HR0 := n_; clear n_; clear HB00 HB; have HB00 := HB00_; clear HB00_; have HB := A_ (Below.refl w.heap.size w); (try clear hb); (try clear hb2); (try clear hk); (try clear hi)) | ((with_reducible refine gate_callee (f := 56) rfl ?_); refine goesW_ (some 25) Try.func56 #[.pointer (some ⟨g106, 0, none⟩)] ?_; (with_reducible refine (ice_game_all.calls g106 t103 t104 t105 t107 t110 w _ ?side1 ?side2 A8.out).mono ?_); (case side1 => repeat (first | (with_reducible first | exact HI106.out | apply IsS87.alloc | apply IsS87.drewN | apply IsS87.drew | apply IsS87.set_2) | exact HI106.out)); (case side2 => repeat (first | (with_reducible first | exact HB.out | apply below_alloc | apply pw_below_drewN | apply below_drew1 | refine below_set ?_ (IsS87.ge HI106.out)) | exact HB.out)); rintro e w12 ⟨v108, rfl, ho0, hi, hb, hk⟩; refine ⟨_, rfl, ?_⟩; have n0_ := A_ (Kd.R_lower ho0 (below_size (by repeat (first | (with_reducible first | exact HB.out | apply below_alloc | apply pw_below_drewN | apply below_drew1 | refine below_set ?_ (IsS87.ge HI106.out)) | exact HB.out)))); have n1_ := A_ (hb); have n2_ := A_ (hi); clear HB; clear HI106; have HO109 := n0_; have HB := n1_; have HI106 := n2_; clear n0_ n1_ n2_; (try clear hb); (try clear hk); (try clear hi); (try clear ho0); obtain ⟨Ao13, co13, eo13⟩ := Kd.R_slice HO109.out; subst eo13; have n_ := A_ (Kd.V_mono (ok' := fun k_ => (True ∧ k_ ≠ g106)) (Kd.R_V (base' := w.heap.size) (IsS87.apart HI106.out HO109.out (by decide))) (fun k_ hk => ⟨trivial, hk.2⟩)); clear HO109; have HO109 := n_; clear n_) | ((with_reducible refine gate_dst (N := 26) rfl ?_); refine Kd.N_lit (Kd.slice 4 Kd.bool) _ 56 ?hg (N' := 26) ?hd (xs := ([t107] : List (List Bool))) (inner := [.slice Ao13 t107.length co13]) (ok := (fun k_ => k_ ≠ g106)) (okp := (fun k_ => k_ ≠ g106)) ?hr ?hp (fun _ hk => hk) ((show ∀ k_, w12.heap.size ≤ k_ → (fun k_ => k_ ≠ g106) k_ from fun k_ hk => IsS87.fresh (by repeat (first | (with_reducible first | exact HI106.out | apply IsS87.alloc | apply IsS87.drewN | apply IsS87.drew | apply IsS87.set_2) | exact HI106.out)) k_ hk) _ (Nat.le_refl _)) (Below.refl _ _) (Nat.le_refl _) (by simp) ?_; (case hd => rfl); (case hg => rfl); (case hr => first | (go_simp; done) | (go_simp; rfl)); (case hp => exact (Reps.one (show Kd.FK (Kd.slice 4 Kd.bool) _ _ t107 [.slice Ao13 t107.length co13] from (Kd.FK_slice_mk (Kd.V_reads' HO109.out).2.1 (Kd.V_F (Kd.V_mono (ok' := (fun k_ => k_ ≠ g106)) ((show Kd.V Kd.bool 4 _ _ (fun k_ => (True ∧ k_ ≠ g106)) (.slice Ao13 t107.length co13) t107 from by (with_reducible repeat (first | apply Kd.V_alloc | apply Kd.V_drewN | apply Kd.V_drew)); exact HO109.out)) (fun k_ hk => hk.2))))) (Reps.none _ _))); intro v112 w14 ho15 hb hg_ hnew_; clear hg_ hnew_; (first | rw [← Ny111.out] at ho15 | (simp only [Int.reduceToNat] at ho15; rw [← Ny111.out] at ho15)); have n0_ := A_ (Kd.V_elder' (vU HO109.out) (Kd.N_base ho15) hb); have n1_ := A_ (Kd.N_lower ho15 (below_size (by repeat (first | (with_reducible first | exact HB.out | apply below_alloc | apply pw_below_drewN | apply below_drew1 | refine below_set ?_ (IsS87.ge HI106.out)) | exact HB.out)))); have n2_ := A_ (IsS87.below (by repeat (first | (with_reducible first | exact HI106.out | apply IsS87.alloc | apply IsS87.drewN | apply IsS87.drew | apply IsS87.set_2) | exact HI106.out)) hb); have n3_ := A_ (below_step (by repeat (first | (with_reducible first | exact HB.out | apply below_alloc | apply pw_below_drewN | apply below_drew1 | refine below_set ?_ (IsS87.ge HI106.out)) | exact HB.out)) hb); clear HO109; clear HI106; clear HB; have HO109 := n0_; have HO113 := n1_; have HI106 := n2_; have HB := n3_; clear n0_ n1_ n2_ n3_; clear hb ho15))
 (try simp only [Act.put, List.setIfInBounds_toArray, List.set_cons_zero, List.set_cons_succ])
 go_cut [7] (fun v7 wc => ∃ (kq : Nat) (x7_8 : List (List Bool)) (x107002_8 : Int), Aside0 (ice_First.j1 kq a1 x7_8 t103 t104 x107002_8 = some (r1, r2)) ∧ Aside0 (kq ≤ k) ∧ Aside0 (Kd.N (Kd.slice 4 Kd.bool) 56 wc w.heap.size (fun k_ => k_ ≠ g106) v7 x7_8) ∧ Aside0 (IsS87 w wc g106 t103 t104 x107002_8) ∧ Aside0 (Below w.heap.size w wc))
 case first =>
  have H := HC9.out; clear HC9; have H' := A_ H; clear H
  go_wp2
  go_loopg [7] k (fun kq v7 w' => ∃ (x7_1 : List (List Bool)) (x107002_1 : Int), Aside0 (ice_First.l0 kq a1 x7_1 t103 t104 x107002_1 = some (r1, r2)) ∧ Aside0 (kq ≤ k) ∧ Aside0 (Kd.N (Kd.slice 4 Kd.bool) 56 w' w.heap.size (fun k_ => k_ ≠ g106) v7 x7_1) ∧ Aside0 (IsS87 w w' g106 t103 t104 x107002_1) ∧ Aside0 (Below w.heap.size w w'))
  case atStart => exact ⟨(y111), (t110), H', ⟨Nat.le_refl _⟩, ⟨nU HO113.out⟩, ⟨by repeat (first | (with_reducible first | exact HI106.out | apply IsS87.alloc | apply IsS87.drewN | apply IsS87.drew | apply IsS87.set_2) | exact HI106.out)⟩, ⟨by repeat (first | (with_reducible first | exact HB.out | apply below_alloc | apply pw_below_drewN | apply below_drew1 | refine below_set ?_ (IsS87.ge HI106.out)) | exact HB.out)⟩⟩
  case round =>
   clear H'
   try clear c2; try clear p2; try clear c4; try clear c5; try clear c6
   obtain ⟨x7_1, x107002_1, HA, HK1, HO_7, HI106, HB⟩ := hrel
   cases gk with
   | zero => exact absurd HA.out (by simp [ice_First.l0])
   | succ k1 =>
    have H := HA.out; clear HA; simp only [ice_First.l0] at H; by_cases c16 : (x7_1.length : Int) ≤ a1; rotate_left
    ·rw [if_neg c16] at H
     have c16b0 : decide ((x7_1.length : Int) ≤ a1) = false := decide_eq_false c16; clear c16
     (first | rw [c16b0] | (simp only [i64_w, i32_w]; rw [c16b0]) | skip)
     have H' := A_ H; clear H; obtain ⟨Ao31, co31, eo31⟩ := Kd.N_slice HO_7.out; subst eo31
     go_wp2
     go_meet
     case rel => exact ⟨_, (x7_1), (x107002_1), H', ⟨by have := HK1.out; first | omega | exact Nat.le_refl _⟩, ⟨nU HO_7.out⟩, ⟨by repeat (first | (with_reducible first | exact HI106.out | apply IsS87.alloc | apply IsS87.drewN | apply IsS87.drew | apply IsS87.set_2) | exact HI106.out)⟩, ⟨by repeat (first | (with_reducible first | exact HB.out | apply below_alloc | apply pw_below_drewN | apply below_drew1 | refine below_set ?_ (IsS87.ge HI106.out)) | exact HB.out)⟩⟩
    rw [if_pos c16] at H; have c16b0 : decide ((x7_1.length : Int) ≤ a1) = true := decide_eq_true c16; clear c16
    (first | rw [c16b0] | (simp only [i64_w, i32_w]; rw [c16b0]) | skip)
    obtain ⟨ji17, hji17⟩ : ∃ j_ : Int, (wrap64 ((x7_1.length : Int) - 1)) = j_ := ⟨_, rfl⟩
    replace H : (if 0 ≤ (ji17) then (if (ji17) < (x7_1.length : Int) then ((ice_game_before.f k1 t103 t104 x107002_1 (rd_L3 x7_1 (ji17))).bind fun bt115 => ((slices_Equal_bool_bool.f k1 bt115.1 (rd_L3 x7_1 (ji17))).bind fun t119 => (if t119 = true then (ice_First.j1 k1 a1 x7_1 t103 t104 bt115.2) else (if x7_1.length < 5864062014805 then (ice_First.l0 k1 a1 (x7_1 ++ [bt115.1]) t103 t104 bt115.2) else (none))))) else (none)) else (none)) = some (r1, r2) := by first | (rw [hji17] at H; exact H) | (simp only [hji17] at H ⊢; exact H)
    have hji17w : (IntKind.i64.wrap ((x7_1.length : Int) - 1)) = ji17 := (i64_w _).trans hji17; by_cases c18 : 0 ≤ (ji17); rotate_left
    ·rw [if_neg c18] at H
     exact absurd H (by simp)
    rw [if_pos c18] at H; have c18b0 : decide (0 ≤ (ji17)) = true := decide_eq_true c18; clear c18; by_cases c19 : (ji17) < (x7_1.length : Int); rotate_left
    ·rw [if_neg c19] at H
     exact absurd H (by simp)
    rw [if_pos c19] at H; have c19b0 : decide ((ji17) < (x7_1.length : Int)) = true := decide_eq_true c19; clear c19; replace H := Option.bind_eq_some_iff.mp H; obtain ⟨⟨t115, t118⟩, A200, H⟩ := H; (try dsimp only at H); have A20 := A_ A200; clear A200; replace H := Option.bind_eq_some_iff.mp H; obtain ⟨t119, A210, H⟩ := H; (try dsimp only at H); have A21 := A_ A210; clear A210; by_cases c22 : t119 = true
    ·subst c22
     rw [if_pos rfl] at H; have H' := A_ H; clear H; obtain ⟨Ao23, co23, eo23⟩ := Kd.N_slice HO_7.out; subst eo23; have p114 : 0 ≤ ((ji17) : Int) := oD; have q114 : (ji17) < (x7_1.length : Int) := oD; obtain ⟨ad114, A114_0, c114_0, e114, hx114_0, hl114_0, hi114_0⟩ := at_L3 (Kd.N_reads' HO_7.out).2.2 (ji17) p114 q114
     cases e114
     obtain ⟨ce114, hce114, hMe114, hcc114⟩ := Kd.N_get HO_7.out [] (ji17) p114 (by first | exact q114 | exact oD | (have e_ := (Kd.N_reads' HO_7.out).1; omega))
     obtain ⟨ua114_0, uc114_0, rfl, ul114_0, ge114_0⟩ := Kd.FK_slice_open hMe114; have hv114_0 := hcc114 0 _ rfl; rw [Nat.add_zero, show ((Kd.slice 4 Kd.bool)).sz = 1 from rfl, Nat.mul_one] at hv114_0; replace hv114_0 := Option.some.inj (hv114_0.symm.trans hx114_0)
     injection hv114_0 with hva_ hvn_ hvc_
     rw [hva_] at ge114_0; rw [hvc_] at ul114_0
     have HL114_0 := A_ (show Kd.V Kd.bool 4 _ w.heap.size _ _ (rd_L3 x7_1 (ji17)) from Kd.V_mk ul114_0 ge114_0)
     clear hva_ hvn_ hvc_ ge114_0 ul114_0; clear hcc114 hce114; have HR114_0 := A_ hi114_0; have HC114_0 := A_ hl114_0; clear hi114_0 hl114_0; replace p114 := eq_true p114; replace q114 := eq_true q114
     go_wp2_with (first | ((with_reducible refine gate_callee (f := 57) rfl ?_); refine goesL_ (some 39) rfl rfl Try.func57 (by kernel_rfl) rfl #[.pointer (some ⟨g106, 0, none⟩), .slice A114_0 (rd_L3 x7_1 (ji17)).length c114_0] rfl (by (try simp only [List.map_toArray, List.map_cons, List.map_nil]); first | done | (simp only [hji17]; rfl) | rfl | (simp only [List.length_drop, List.length_take]; rfl)) ?_; (with_reducible refine (ice_game_before.calls k1 g106 t103 t104 x107002_1 _ _ (rd_L3 x7_1 (ji17)) t115 t118 w _ ?side1 ?side2 ?side3 ?side4 ?side5 A20.out).mono ?_); (case side1 => repeat (first | (with_reducible first | exact HI106.out | apply IsS87.alloc | apply IsS87.drewN | apply IsS87.drew | apply IsS87.set_2) | exact HI106.out)); (case side2 => repeat (first | (with_reducible first | exact HB.out | apply below_alloc | apply pw_below_drewN | apply below_drew1 | refine below_set ?_ (IsS87.ge HI106.out)) | exact HB.out)); (case side3 => repeat (first | exact (by repeat (first | (with_reducible exact HR114_0.out) | (with_reducible refine Kd.C_alloc ?_ _) | (with_reducible refine Kd.C_drewN ?_ _) | (with_reducible refine Kd.C_drew ?_) | exact HR114_0.out)) | (with_reducible refine Kd.C_alloc ?_ _) | (with_reducible refine Kd.C_drewN ?_ _) | (with_reducible refine Kd.C_drew ?_))); (case side4 => exact HC114_0.out); (case side5 => exact V_far_ HL114_0.out (by decide) (fun k_ hk_ => hk_.1)); rintro e w24 ⟨v116, rfl, ho0, hi, hb, hk⟩; refine ⟨_, rfl, ?_⟩; have n0_ := A_ (Kd.N_mono (Kd.N_told (Kd.N_oldK (Kd.N_mono (ok := fun k_ => k_ ≠ g106) (nU HO_7.out) (fun k_ hk_ => (⟨hk_, hk_⟩ : _ ∧ k_ ≠ g106))) hk) (Kd.R_base ho0)) (fun _ h_ => h_.1)); have n1_ := A_ (Kd.V_mono (Kd.V_told (Kd.V_oldK (Kd.V_mono (ok := fun k_ => (k_ ≠ g106 ∧ some k_ ≠ (.slice (some ad114) x7_1.length co23 : Value).ownBlock)) (vU HL114_0.out) (fun k_ hk_ => (⟨hk_, hk_.1⟩ : _ ∧ k_ ≠ g106))) hk) (Kd.R_base ho0)) (fun _ h_ => h_.1)); have n2_ := A_ (Kd.R_lower ho0 (below_size (by repeat (first | (with_reducible first | exact HB.out | apply below_alloc | apply pw_below_drewN | apply below_drew1 | refine below_set ?_ (IsS87.ge HI106.out)) | exact HB.out)))); have n3_ := A_ (hb); have n4_ := A_ (hi); clear HO_7; clear HL114_0; clear HB; clear HI106; have HO_7 := n0_; have HL114_0 := n1_; have HO117 := n2_; have HB := n3_; have HI106 := n4_; clear n0_ n1_ n2_ n3_ n4_; (try clear hb); (try clear hk); (try clear hi); (try clear ho0); obtain ⟨Ao25, co25, eo25⟩ := Kd.R_slice HO117.out; subst eo25) | ((with_reducible refine gate_callee (f := 58) rfl ?_); refine goesL_ (some 42) rfl rfl Try.func58 (by kernel_rfl) rfl #[.slice Ao25 t115.length co25, .slice A114_0 (rd_L3 x7_1 (ji17)).length c114_0] rfl (by (try simp only [List.map_toArray, List.map_cons, List.map_nil]); first | done | (simp only [hji17]; rfl) | rfl | (simp only [List.length_drop, List.length_take]; rfl)) ?_; (with_reducible refine (slices_Equal_bool_bool.calls k1 _ _ t115 _ _ (rd_L3 x7_1 (ji17)) true _ ?side1 ?side2 ?side3 ?side4 A21.out).mono ?_); (case side1 => exact cU (Kd.R_reads' HO117.out).2.2); (case side2 => exact (Kd.R_reads' HO117.out).2.1); (case side3 => repeat (first | exact ((Kd.V_reads' (vU HL114_0.out)).2.2) | (with_reducible refine Kd.C_alloc ?_ _) | (with_reducible refine Kd.C_drewN ?_ _) | (with_reducible refine Kd.C_drew ?_))); (case side4 => exact HC114_0.out); rintro e w' ⟨rfl, ⟨nd, rfl⟩⟩; refine ⟨_, rfl, ?_⟩))
     go_meet
     case rel => exact ⟨_, (x7_1), (t118), H', ⟨by have := HK1.out; first | omega | exact Nat.le_refl _⟩, ⟨by (with_reducible repeat (first | apply Kd.N_alloc | apply Kd.N_drewN | apply Kd.N_drew)); exact Kd.N_mono HO_7.out (fun _ hk => hk.1)⟩, ⟨by repeat (first | (with_reducible first | exact HI106.out | apply IsS87.alloc | apply IsS87.drewN | apply IsS87.drew | apply IsS87.set_2) | exact HI106.out)⟩, ⟨by repeat (first | (with_reducible first | exact HB.out | apply below_alloc | apply pw_below_drewN | apply below_drew1 | refine below_set ?_ (IsS87.ge HI106.out)) | exact HB.out)⟩⟩
    replace c22 := Bool.eq_false_iff.mpr c22; subst c22; rw [if_neg (show ¬ (false = true) by decide)] at H; by_cases c26 : x7_1.length < 5864062014805; rotate_left
    ·rw [if_neg c26] at H
     exact absurd H (by simp)
    rw [if_pos c26] at H; have LMc26 := A_ c26; clear c26; obtain ⟨y120, hy120⟩ : ∃ y_ : List (List Bool), y_ = (x7_1 ++ [t115]) := ⟨_, rfl⟩
    replace H : (ice_First.l0 k1 a1 y120 t103 t104 t118) = some (r1, r2) := by first | (rw [hy120]; with_reducible exact H) | (have H2_ := (Option.bind_some _ _).symm.trans H; rw [hy120]; with_reducible exact H2_) | (have H2_ := (Option.bind_some _ _).symm.trans H; with_reducible exact H2_) | with_reducible exact H | (rw [hy120]; exact H) | exact H
    have Ny120 := A_ hy120; clear hy120; have H' := A_ H; clear H; obtain ⟨Ao27, co27, eo27⟩ := Kd.N_slice HO_7.out; subst eo27; have p114 : 0 ≤ ((ji17) : Int) := oD; have q114 : (ji17) < (x7_1.length : Int) := oD; obtain ⟨ad114, A114_0, c114_0, e114, hx114_0, hl114_0, hi114_0⟩ := at_L3 (Kd.N_reads' HO_7.out).2.2 (ji17) p114 q114
    cases e114
    obtain ⟨ce114, hce114, hMe114, hcc114⟩ := Kd.N_get HO_7.out [] (ji17) p114 (by first | exact q114 | exact oD | (have e_ := (Kd.N_reads' HO_7.out).1; omega))
    obtain ⟨ua114_0, uc114_0, rfl, ul114_0, ge114_0⟩ := Kd.FK_slice_open hMe114; have hv114_0 := hcc114 0 _ rfl; rw [Nat.add_zero, show ((Kd.slice 4 Kd.bool)).sz = 1 from rfl, Nat.mul_one] at hv114_0; replace hv114_0 := Option.some.inj (hv114_0.symm.trans hx114_0)
    injection hv114_0 with hva_ hvn_ hvc_
    rw [hva_] at ge114_0; rw [hvc_] at ul114_0
    have HL114_0 := A_ (show Kd.V Kd.bool 4 _ w.heap.size _ _ (rd_L3 x7_1 (ji17)) from Kd.V_mk ul114_0 ge114_0)
    clear hva_ hvn_ hvc_ ge114_0 ul114_0; clear hcc114 hce114; have HR114_0 := A_ hi114_0; have HC114_0 := A_ hl114_0; clear hi114_0 hl114_0; replace p114 := eq_true p114; replace q114 := eq_true q114
    go_wp2_with (first | ((with_reducible refine gate_callee (f := 57) rfl ?_); refine goesL_ (some 39) rfl rfl Try.func57 (by kernel_rfl) rfl #[.pointer (some ⟨g106, 0, none⟩), .slice A114_0 (rd_L3 x7_1 (ji17)).length c114_0] rfl (by (try simp only [List.map_toArray, List.map_cons, List.map_nil]); first | done | (simp only [hji17]; rfl) | rfl | (simp only [List.length_drop, List.length_take]; rfl)) ?_; (with_reducible refine (ice_game_before.calls k1 g106 t103 t104 x107002_1 _ _ (rd_L3 x7_1 (ji17)) t115 t118 w _ ?side1 ?side2 ?side3 ?side4 ?side5 A20.out).mono ?_); (case side1 => repeat (first | (with_reducible first | exact HI106.out | apply IsS87.alloc | apply IsS87.drewN | apply IsS87.drew | apply IsS87.set_2) | exact HI106.out)); (case side2 => repeat (first | (with_reducible first | exact HB.out | apply below_alloc | apply pw_below_drewN | apply below_drew1 | refine below_set ?_ (IsS87.ge HI106.out)) | exact HB.out)); (case side3 => repeat (first | exact (by repeat (first | (with_reducible exact HR114_0.out) | (with_reducible refine Kd.C_alloc ?_ _) | (with_reducible refine Kd.C_drewN ?_ _) | (with_reducible refine Kd.C_drew ?_) | exact HR114_0.out)) | (with_reducible refine Kd.C_alloc ?_ _) | (with_reducible refine Kd.C_drewN ?_ _) | (with_reducible refine Kd.C_drew ?_))); (case side4 => exact HC114_0.out); (case side5 => exact V_far_ HL114_0.out (by decide) (fun k_ hk_ => hk_.1)); rintro e w28 ⟨v116, rfl, ho0, hi, hb, hk⟩; refine ⟨_, rfl, ?_⟩; have n0_ := A_ (Kd.N_mono (Kd.N_told (Kd.N_oldK (Kd.N_mono (ok := fun k_ => k_ ≠ g106) (nU HO_7.out) (fun k_ hk_ => (⟨hk_, hk_⟩ : _ ∧ k_ ≠ g106))) hk) (Kd.R_base ho0)) (fun _ h_ => h_.1)); have n1_ := A_ (Kd.V_mono (Kd.V_told (Kd.V_oldK (Kd.V_mono (ok := fun k_ => (k_ ≠ g106 ∧ some k_ ≠ (.slice (some ad114) x7_1.length co27 : Value).ownBlock)) (vU HL114_0.out) (fun k_ hk_ => (⟨hk_, hk_.1⟩ : _ ∧ k_ ≠ g106))) hk) (Kd.R_base ho0)) (fun _ h_ => h_.1)); have n2_ := A_ (Kd.R_lower ho0 (below_size (by repeat (first | (with_reducible first | exact HB.out | apply below_alloc | apply pw_below_drewN | apply below_drew1 | refine below_set ?_ (IsS87.ge HI106.out)) | exact HB.out)))); have n3_ := A_ (hb); have n4_ := A_ (hi); clear HO_7; clear HL114_0; clear HB; clear HI106; have HO_7 := n0_; have HL114_0 := n1_; have HO117 := n2_; have HB := n3_; have HI106 := n4_; clear n0_ n1_ n2_ n3_ n4_; (try clear hb); (try clear hk); (try clear hi); (try clear ho0); obtain ⟨Ao29, co29, eo29⟩ := Kd.R_slice HO117.out; subst eo29) | ((with_reducible refine gate_callee (f := 58) rfl ?_); refine goesL_ (some 42) rfl rfl Try.func58 (by kernel_rfl) rfl #[.slice Ao29 t115.length co29, .slice A114_0 (rd_L3 x7_1 (ji17)).length c114_0] rfl (by (try simp only [List.map_toArray, List.map_cons, List.map_nil]); first | done | (simp only [hji17]; rfl) | rfl | (simp only [List.length_drop, List.length_take]; rfl)) ?_; (with_reducible refine (slices_Equal_bool_bool.calls k1 _ _ t115 _ _ (rd_L3 x7_1 (ji17)) false _ ?side1 ?side2 ?side3 ?side4 A21.out).mono ?_); (case side1 => exact cU (Kd.R_reads' HO117.out).2.2); (case side2 => exact (Kd.R_reads' HO117.out).2.1); (case side3 => repeat (first | exact ((Kd.V_reads' (vU HL114_0.out)).2.2) | (with_reducible refine Kd.C_alloc ?_ _) | (with_reducible refine Kd.C_drewN ?_ _) | (with_reducible refine Kd.C_drew ?_))); (case side4 => exact HC114_0.out); rintro e w' ⟨rfl, ⟨nd, rfl⟩⟩; refine ⟨_, rfl, ?_⟩; have n_ := A_ (Kd.V_mono (ok' := fun k_ => ((True ∧ k_ ≠ g106) ∧ some k_ ≠ (.slice (some ad114) x7_1.length co27 : Value).ownBlock)) (Kd.R_V (base' := w.heap.size) (Kd.R_apart' (IsS87.apart HI106.out HO117.out (by decide)) (Kd.N_typed HO_7.out) (by decide))) (fun k_ hk => ⟨⟨trivial, hk.1.2⟩, hk.2⟩)); clear HO117; have HO117 := n_; clear n_) | ((with_reducible refine gate_builtin (b := .append) (xs := #[.tmp 43, .tmp 45]) rfl ?_); at_builtin; refine Kd.N_append (Kd.slice 4 Kd.bool) (w0 := w) w.heap.size rfl (.tmp 43) (.tmp 45) 60 56 (.slice none 0 0) 24 rfl Try.underlying60 info56 rfl (by decide) (by omega) (.slice (some ad114) x7_1.length co27) x7_1 t115 [.slice Ao29 t115.length co29] (fun k_ => k_ ≠ g106) (fun k_ => ((fun k_ => k_ ≠ g106)) k_ ∧ some k_ ≠ (.slice (some ad114) x7_1.length co27 : Value).ownBlock) rfl rfl ?aP (fun _ hk => hk) ?aF ?aO ?aB ?aS ?aL ?_; (case aP => exact (Kd.FK_slice_mk (Kd.V_reads' HO117.out).2.1 (Kd.V_F (Kd.V_mono (ok' := (fun k_ => ((fun k_ => k_ ≠ g106)) k_ ∧ some k_ ≠ (.slice (some ad114) x7_1.length co27 : Value).ownBlock)) ((show Kd.V Kd.bool 4 _ _ (fun k_ => ((True ∧ k_ ≠ g106) ∧ some k_ ≠ (.slice (some ad114) x7_1.length co27 : Value).ownBlock)) (.slice Ao29 t115.length co29) t115 from by (with_reducible repeat (first | apply Kd.V_alloc | apply Kd.V_drewN | apply Kd.V_drew)); exact HO117.out)) (fun k_ hk => ⟨hk.1.2, hk.2⟩))))); (case aB => exact (by repeat (first | (with_reducible first | exact HB.out | apply below_alloc | apply pw_below_drewN | apply below_drew1 | refine below_set ?_ (IsS87.ge HI106.out)) | exact HB.out))); (case aF => exact (fun k_ hk => IsS87.fresh (by repeat (first | (with_reducible first | exact HI106.out | apply IsS87.alloc | apply IsS87.drewN | apply IsS87.drew | apply IsS87.set_2) | exact HI106.out)) k_ hk)); (case aO => exact (by (with_reducible repeat (first | apply Kd.N_alloc | apply Kd.N_drewN | apply Kd.N_drew)); exact Kd.N_mono HO_7.out (fun _ hk => hk.1))); (case aS => exact (below_size (by repeat (first | (with_reducible first | exact HB.out | apply below_alloc | apply pw_below_drewN | apply below_drew1 | refine below_set ?_ (IsS87.ge HI106.out)) | exact HB.out)))); (case aL => have := LMc26.out; omega); intro v121 w30 ho hb hg hat; rw [← Ny120.out] at ho; have n0_ := A_ (IsS87.grown (by repeat (first | (with_reducible first | exact HI106.out | apply IsS87.alloc | apply IsS87.drewN | apply IsS87.drew | apply IsS87.set_2) | exact HI106.out)) hg (IsS87.own_neN HI106.out HO_7.out (by decide))); have n1_ := A_ (Kd.V_afterv (ok := (fun k_ => some k_ ≠ (.slice Ao29 t115.length co29 : Value).ownBlock ∧ k_ ≠ g106)) (by (with_reducible repeat (first | apply Kd.V_alloc | apply Kd.V_drewN | apply Kd.V_drew)); exact Kd.V_mono HL114_0.out (fun _ hk => ⟨⟨hk.2, hk.1.1⟩, hk.1.2⟩)) hg hat); have n2_ := A_ (Kd.V_afterv (ok := (fun k_ => k_ ≠ g106)) (by (with_reducible repeat (first | apply Kd.V_alloc | apply Kd.V_drewN | apply Kd.V_drew)); exact Kd.V_mono HO117.out (fun _ hk => ⟨hk.1.2, hk.2⟩)) hg hat); have n3_ := A_ (hb); have n4_ := A_ (ho); clear HI106; clear HL114_0; clear HO117; clear HB; clear HO_7; have HI106 := n0_; have HL114_0 := n1_; have HO117 := n2_; have HB := n3_; have HO122 := n4_; clear n0_ n1_ n2_ n3_ n4_; clear ho hb hg hat))
    go_roundg k1
    case measure => have := HK1.out; omega
    case rel => exact ⟨(y120), (t118), H', ⟨by have := HK1.out; omega⟩, ⟨nU HO122.out⟩, ⟨by repeat (first | (with_reducible first | exact HI106.out | apply IsS87.alloc | apply IsS87.drewN | apply IsS87.drew | apply IsS87.set_2) | exact HI106.out)⟩, ⟨by repeat (first | (with_reducible first | exact HB.out | apply below_alloc | apply pw_below_drewN | apply below_drew1 | refine below_set ?_ (IsS87.ge HI106.out)) | exact HB.out)⟩⟩
 case rest =>
  clear HC9
  try clear c1; try clear p1; try clear q1; try clear hx1; try clear c2; try clear p2; try clear c4; try clear c5; try clear c6; try clear p6; try clear c11; try clear p11; try clear q11; try clear hx11; try clear c16; try clear c16b0; try clear c18; try clear c18b0; try clear c19; try clear c19b0; try clear c22; try clear c23; try clear c26; try clear c29; try clear hx114_0; try clear p114; try clear p2; try clear q114
  obtain ⟨kq, x7_8, x107002_8, HA, HJ8, HO_7, HI106, HB⟩ := hcut
  cases kq with
  | zero => exact absurd HA.out (by simp [ice_First.j1])
  | succ kj8 =>
   have H := HA.out; clear HA; simp only [ice_First.j1] at H; replace H := Option.bind_eq_some_iff.mp H; obtain ⟨⟨t123, t124⟩, A320, H⟩ := H; (try dsimp only at H); have A32 := A_ A320; clear A320; obtain ⟨ji33, hji33⟩ : ∃ j_ : Int, (mn a1 (wrap64 ((x7_8.length : Int) - 1))) = j_ := ⟨_, rfl⟩
   replace H : (if 0 ≤ (ji33) then (if (ji33) < (x7_8.length : Int) then (if 0 ≤ t123 then (if t123 < ((rd_L3 x7_8 (ji33)).length : Int) then (if (rdOf false (rd_L3 x7_8 (ji33)) t123 = true) then (ice_First.l1 kj8 x7_8 t123 ([] : List Int) (wrap64 (a1 - 1)) t103 t104 t124) else (some (([] : List Int), 5))) else (none)) else (none)) else (none)) else (none)) = some (r1, r2) := by first | (rw [hji33] at H; exact H) | (simp only [hji33] at H ⊢; exact H)
   (try rw [hji33] at A32)
   have hji33_ : (if (wrap64 ((x7_8.length : Int) - 1)) < a1 then (wrap64 ((x7_8.length : Int) - 1)) else a1) = ji33 := hji33; by_cases c34 : 0 ≤ (ji33); rotate_left
   ·rw [if_neg c34] at H
    exact absurd H (by simp)
   rw [if_pos c34] at H; have c34b0 : decide (0 ≤ (ji33)) = true := decide_eq_true c34; clear c34; by_cases c35 : (ji33) < (x7_8.length : Int); rotate_left
   ·rw [if_neg c35] at H
    exact absurd H (by simp)
   rw [if_pos c35] at H; have c35b0 : decide ((ji33) < (x7_8.length : Int)) = true := decide_eq_true c35; clear c35; by_cases c36 : 0 ≤ t123; rotate_left
   ·rw [if_neg c36] at H
    exact absurd H (by simp)
   rw [if_pos c36] at H; have c36b0 : decide (0 ≤ t123) = true := decide_eq_true c36; clear c36; by_cases c37 : t123 < ((rd_L3 x7_8 (ji33)).length : Int); rotate_left
   ·rw [if_neg c37] at H
    exact absurd H (by simp)
   rw [if_pos c37] at H; have c37b0 : decide (t123 < ((rd_L3 x7_8 (ji33)).length : Int)) = true := decide_eq_true c37; clear c37; obtain ⟨bq38, hbq38⟩ : ∃ b_ : Bool, b_ = (rdOf false (rd_L3 x7_8 (ji33)) t123) := ⟨_, rfl⟩
   replace H : (if (bq38 = true) then (ice_First.l1 kj8 x7_8 t123 ([] : List Int) (wrap64 (a1 - 1)) t103 t104 t124) else (some (([] : List Int), 5))) = some (r1, r2) := by rw [← hbq38] at H; exact H
   have Nbq38 := A_ hbq38; clear hbq38; by_cases c39 : (bq38 = true); rotate_left
   ·replace c39 := Bool.eq_false_iff.mpr c39
    subst c39; rw [if_neg (show ¬ (false = true) by decide)] at H; simp only [Option.some.injEq, Prod.mk.injEq] at H; obtain ⟨rfl, rfl⟩ := H
    go_wp2_with (first | ((with_reducible refine gate_callee (f := 59) rfl ?_); refine goesW_ (some 48) Try.func59 #[.pointer (some ⟨g106, 0, none⟩)] ?_; (with_reducible refine (ice_game_first.calls g106 t103 t104 x107002_8 t123 t124 w _ ?side1 ?side2 A32.out).mono ?_); (case side1 => repeat (first | (with_reducible first | exact HI106.out | apply IsS87.alloc | apply IsS87.drewN | apply IsS87.drew | apply IsS87.set_2) | exact HI106.out)); (case side2 => repeat (first | (with_reducible first | exact HB.out | apply below_alloc | apply pw_below_drewN | apply below_drew1 | refine below_set ?_ (IsS87.ge HI106.out)) | exact HB.out)); rintro e w54 ⟨rfl, hi, hb, hk⟩; refine ⟨_, rfl, ?_⟩; have n0_ := A_ (Kd.N_mono (Kd.N_keep (Kd.N_mono (ok := fun k_ => k_ ≠ g106) (nU HO_7.out) (fun k_ hk_ => (⟨hk_, hk_⟩ : _ ∧ k_ ≠ g106))) hk (fun _ h => h.2)) (fun _ h => h.1)); have n1_ := A_ (hb); have n2_ := A_ (hi); clear HO_7; clear HB; clear HI106; have HO_7 := n0_; have HB := n1_; have HI106 := n2_; clear n0_ n1_ n2_; (try clear hb); (try clear hk); (try clear hi); obtain ⟨Ao55, co55, eo55⟩ := Kd.N_slice HO_7.out; subst eo55; have p125 : 0 ≤ ((ji33) : Int) := oD; have q125 : (ji33) < (x7_8.length : Int) := oD; obtain ⟨ad125, A125_0, c125_0, e125, hx125_0, hl125_0, hi125_0⟩ := at_L3 (Kd.N_reads' HO_7.out).2.2 (ji33) p125 q125; cases e125; obtain ⟨ce125, hce125, hMe125, hcc125⟩ := Kd.N_get HO_7.out [] (ji33) p125 (by first | exact q125 | exact oD | (have e_ := (Kd.N_reads' HO_7.out).1; omega)); obtain ⟨ua125_0, uc125_0, rfl, ul125_0, ge125_0⟩ := Kd.FK_slice_open hMe125; have hv125_0 := hcc125 0 _ rfl; rw [Nat.add_zero, show ((Kd.slice 4 Kd.bool)).sz = 1 from rfl, Nat.mul_one] at hv125_0; replace hv125_0 := Option.some.inj (hv125_0.symm.trans hx125_0); injection hv125_0 with hva_ hvn_ hvc_; rw [hva_] at ge125_0; rw [hvc_] at ul125_0; have HL125_0 := A_ (show Kd.V Kd.bool 4 _ w.heap.size _ _ (rd_L3 x7_8 (ji33)) from Kd.V_mk ul125_0 ge125_0); clear hva_ hvn_ hvc_ ge125_0 ul125_0; clear hcc125 hce125; have HR125_0 := A_ hi125_0; have HC125_0 := A_ hl125_0; clear hi125_0 hl125_0; replace p125 := eq_true p125; replace q125 := eq_true q125; have p126 : 0 ≤ (t123 : Int) := oD; have q126 : t123 < ((rd_L3 x7_8 (ji33)).length : Int) := oD; obtain ⟨ad126, e126, hx126_0⟩ := Kd.at_bool (by repeat (first | (with_reducible exact HR125_0.out) | (with_reducible refine Kd.C_alloc ?_ _) | (with_reducible refine Kd.C_drewN ?_ _) | (with_reducible refine Kd.C_drew ?_) | exact HR125_0.out)) t123 p126 q126; (try rw [← Nbq38.out] at hx126_0); cases e126; replace p126 := eq_true p126; replace q126 := eq_true q126))
    go_ret2
    exact ⟨_, by first | rfl | (simp [errW_none, errW_some] <;> rfl) | (simp only [← hji33]; first | rfl | (simp [errW_none, errW_some] <;> rfl)) | (simp [*, errW_none, errW_some] <;> rfl), by first | exact Kd.R_nil _ _ _ _ _ | exact Kd.N_nil _ _ _ _ _ | exact Kd.V_nil _ _ _ _ _ | exact Kd.Q_nil _ _ _ _ _ | exact Kd.S_nil _ _ _ _ _, below_step HB00.out (by repeat (first | (with_reducible first | exact HB.out | apply below_alloc | apply pw_below_drewN | apply below_drew1 | refine below_set ?_ (IsS87.ge HI106.out)) | exact HB.out))⟩
   subst c39; rw [if_pos rfl] at H; have H' := A_ H; clear H
   go_wp2_with (first | ((with_reducible refine gate_callee (f := 59) rfl ?_); refine goesW_ (some 48) Try.func59 #[.pointer (some ⟨g106, 0, none⟩)] ?_; (with_reducible refine (ice_game_first.calls g106 t103 t104 x107002_8 t123 t124 w _ ?side1 ?side2 A32.out).mono ?_); (case side1 => repeat (first | (with_reducible first | exact HI106.out | apply IsS87.alloc | apply IsS87.drewN | apply IsS87.drew | apply IsS87.set_2) | exact HI106.out)); (case side2 => repeat (first | (with_reducible first | exact HB.out | apply below_alloc | apply pw_below_drewN | apply below_drew1 | refine below_set ?_ (IsS87.ge HI106.out)) | exact HB.out)); rintro e w40 ⟨rfl, hi, hb, hk⟩; refine ⟨_, rfl, ?_⟩; have n0_ := A_ (Kd.N_mono (Kd.N_keep (Kd.N_mono (ok := fun k_ => k_ ≠ g106) (nU HO_7.out) (fun k_ hk_ => (⟨hk_, hk_⟩ : _ ∧ k_ ≠ g106))) hk (fun _ h => h.2)) (fun _ h => h.1)); have n1_ := A_ (hb); have n2_ := A_ (hi); clear HO_7; clear HB; clear HI106; have HO_7 := n0_; have HB := n1_; have HI106 := n2_; clear n0_ n1_ n2_; (try clear hb); (try clear hk); (try clear hi); obtain ⟨Ao41, co41, eo41⟩ := Kd.N_slice HO_7.out; subst eo41; have p125 : 0 ≤ ((ji33) : Int) := oD; have q125 : (ji33) < (x7_8.length : Int) := oD; obtain ⟨ad125, A125_0, c125_0, e125, hx125_0, hl125_0, hi125_0⟩ := at_L3 (Kd.N_reads' HO_7.out).2.2 (ji33) p125 q125; cases e125; obtain ⟨ce125, hce125, hMe125, hcc125⟩ := Kd.N_get HO_7.out [] (ji33) p125 (by first | exact q125 | exact oD | (have e_ := (Kd.N_reads' HO_7.out).1; omega)); obtain ⟨ua125_0, uc125_0, rfl, ul125_0, ge125_0⟩ := Kd.FK_slice_open hMe125; have hv125_0 := hcc125 0 _ rfl; rw [Nat.add_zero, show ((Kd.slice 4 Kd.bool)).sz = 1 from rfl, Nat.mul_one] at hv125_0; replace hv125_0 := Option.some.inj (hv125_0.symm.trans hx125_0); injection hv125_0 with hva_ hvn_ hvc_; rw [hva_] at ge125_0; rw [hvc_] at ul125_0; have HL125_0 := A_ (show Kd.V Kd.bool 4 _ w.heap.size _ _ (rd_L3 x7_8 (ji33)) from Kd.V_mk ul125_0 ge125_0); clear hva_ hvn_ hvc_ ge125_0 ul125_0; clear hcc125 hce125; have HR125_0 := A_ hi125_0; have HC125_0 := A_ hl125_0; clear hi125_0 hl125_0; replace p125 := eq_true p125; replace q125 := eq_true q125; have p126 : 0 ≤ (t123 : Int) := oD; have q126 : t123 < ((rd_L3 x7_8 (ji33)).length : Int) := oD; obtain ⟨ad126, e126, hx126_0⟩ := Kd.at_bool (by repeat (first | (with_reducible exact HR125_0.out) | (with_reducible refine Kd.C_alloc ?_ _) | (with_reducible refine Kd.C_drewN ?_ _) | (with_reducible refine Kd.C_drew ?_) | exact HR125_0.out)) t123 p126 q126; (try rw [← Nbq38.out] at hx126_0); cases e126; replace p126 := eq_true p126; replace q126 := eq_true q126))
   go_loopg [10, 11, 12] kj8 (fun kq v10 v11 v12 w' => ∃ (x10_2 : Int) (x11_2 : List Int) (x12_2 : Int) (x107002_2 : Int), v10 = .int .i64 x10_2 ∧ v12 = .int .i64 x12_2 ∧ Aside0 (ice_First.l1 kq x7_8 x10_2 x11_2 x12_2 t103 t104 x107002_2 = some (r1, r2)) ∧ Aside0 (kq ≤ kj8) ∧ Aside0 (Kd.N (Kd.slice 4 Kd.bool) 56 w' w.heap.size (fun k_ => some k_ ≠ (v11 : Value).ownBlock ∧ k_ ≠ g106) (.slice (some ad125) x7_8.length co41) x7_8) ∧ Aside0 (Kd.R (Kd.int .i64) 3 w' w.heap.size (fun _ => True) v11 x11_2) ∧ Aside0 (IsS87 w w' g106 t103 t104 x107002_2) ∧ Aside0 (Below w.heap.size w w'))
   case atStart => exact ⟨(t123), (([] : List Int)), (wrap64 (a1 - 1)), (t124), eS, eS, H', ⟨Nat.le_refl _⟩, ⟨by (with_reducible repeat (first | apply Kd.N_alloc | apply Kd.N_drewN | apply Kd.N_drew)); exact Kd.N_mono HO_7.out (fun _ hk => ⟨(by simp [Value.ownBlock]), hk⟩)⟩, ⟨by first | exact Kd.R_nil _ _ _ _ _ | exact Kd.N_nil _ _ _ _ _ | exact Kd.V_nil _ _ _ _ _ | exact Kd.Q_nil _ _ _ _ _ | exact Kd.S_nil _ _ _ _ _⟩, ⟨by repeat (first | (with_reducible first | exact HI106.out | apply IsS87.alloc | apply IsS87.drewN | apply IsS87.drew | apply IsS87.set_2) | exact HI106.out)⟩, ⟨by repeat (first | (with_reducible first | exact HB.out | apply below_alloc | apply pw_below_drewN | apply below_drew1 | refine below_set ?_ (IsS87.ge HI106.out)) | exact HB.out)⟩⟩
   case round =>
    clear H'
    try clear c1; try clear p1; try clear q1; try clear hx1; try clear c2; try clear p2; try clear c3; try clear q3; try clear c4; try clear c5; try clear c6; try clear p6; try clear c11; try clear p11; try clear q11; try clear hx11; try clear c12; try clear p12; try clear q12; try clear hx12; try clear c16; try clear c16b0; try clear c18; try clear c18b0; try clear c19; try clear c19b0; try clear c22; try clear c23; try clear c26; try clear c29; try clear c34; try clear c34b0; try clear c35; try clear c35b0; try clear c36; try clear c36b0; try clear c37; try clear c37b0; try clear q38; try clear c39; try clear hx114_0; try clear hx125_0; try clear hx126_0; try clear p1; try clear p11; try clear p114; try clear p125; try clear p126; try clear p2; try clear p6; try clear q1; try clear q11; try clear q114; try clear q125; try clear q126
    obtain ⟨x10_2, x11_2, x12_2, x107002_2, rfl, rfl, HA, HK2, HO_7, HO_11, HI106, HB⟩ := hrel
    cases gk with
    | zero => exact absurd HA.out (by simp [ice_First.l1])
    | succ k2 =>
     have H := HA.out; clear HA; simp only [ice_First.l1] at H; by_cases c42 : x12_2 ≥ 0; rotate_left
     ·rw [if_neg c42] at H
      have c42b0 : decide (0 ≤ x12_2) = false := decide_eq_false c42; clear c42; simp only [Option.some.injEq, Prod.mk.injEq] at H; obtain ⟨rfl, rfl⟩ := H
      go_wp2
      go_ret2
      exact ⟨_, by first | rfl | (simp [errW_none, errW_some] <;> rfl) | (simp only [← hji33]; first | rfl | (simp [errW_none, errW_some] <;> rfl)) | (simp [*, errW_none, errW_some] <;> rfl), Kd.R_lower (rU HO_11.out) (below_size HB00.out), below_step HB00.out (by repeat (first | (with_reducible first | exact HB.out | apply below_alloc | apply pw_below_drewN | apply below_drew1 | refine below_set ?_ (IsS87.ge HI106.out)) | exact HB.out))⟩
     rw [if_pos c42] at H; have c42b0 : decide (0 ≤ x12_2) = true := decide_eq_true c42; clear c42; obtain ⟨ji43, hji43⟩ : ∃ j_ : Int, (mn x12_2 (wrap64 ((x7_8.length : Int) - 1))) = j_ := ⟨_, rfl⟩
     replace H : (if 0 ≤ (ji43) then (if (ji43) < (x7_8.length : Int) then ((ice_game_choices.f k2 t103 t104 x107002_2 x10_2 (rd_L3 x7_8 (ji43))).bind fun bt128 => (if 0 < (bt128.1.length : Int) then (if x11_2.length < 17592186044416 then ((ice_game_tonight.f k2 t103 t104 bt128.2 x10_2 (rd bt128.1 0)).bind fun bt136 => (ice_First.l1 k2 x7_8 bt136.1 (x11_2 ++ [rd bt128.1 0]) (wrap64 (x12_2 - 1)) t103 t104 bt136.2)) else (none)) else (none))) else (none)) else (none)) = some (r1, r2) := by first | (rw [hji43] at H; exact H) | (simp only [hji43] at H ⊢; exact H)
     have hji43_ : (if (wrap64 ((x7_8.length : Int) - 1)) < x12_2 then (wrap64 ((x7_8.length : Int) - 1)) else x12_2) = ji43 := hji43; by_cases c44 : 0 ≤ (ji43); rotate_left
     ·rw [if_neg c44] at H
      exact absurd H (by simp)
     rw [if_pos c44] at H; have c44b0 : decide (0 ≤ (ji43)) = true := decide_eq_true c44; clear c44; by_cases c45 : (ji43) < (x7_8.length : Int); rotate_left
     ·rw [if_neg c45] at H
      exact absurd H (by simp)
     rw [if_pos c45] at H; have c45b0 : decide ((ji43) < (x7_8.length : Int)) = true := decide_eq_true c45; clear c45; replace H := Option.bind_eq_some_iff.mp H; obtain ⟨⟨t128, t131⟩, A460, H⟩ := H; (try dsimp only at H); have A46 := A_ A460; clear A460; by_cases c47 : 0 < (t128.length : Int); rotate_left
     ·rw [if_neg c47] at H
      exact absurd H (by simp)
     rw [if_pos c47] at H; have c47b0 : decide (0 < (t128.length : Int)) = true := decide_eq_true c47
     have c47b1 : decide (0 < t128.length) = true := decide_eq_true (by omega)
     clear c47; by_cases c48 : x11_2.length < 17592186044416; rotate_left
     ·rw [if_neg c48] at H
      exact absurd H (by simp)
     rw [if_pos c48] at H; have LMc48 := A_ c48; clear c48; obtain ⟨y133, hy133⟩ : ∃ y_ : List Int, y_ = (x11_2 ++ [rd t128 0]) := ⟨_, rfl⟩
     replace H : ((ice_game_tonight.f k2 t103 t104 t131 x10_2 (rd t128 0)).bind fun bt136 => (ice_First.l1 k2 x7_8 bt136.1 y133 (wrap64 (x12_2 - 1)) t103 t104 bt136.2)) = some (r1, r2) := by first | (rw [hy133]; with_reducible exact H) | (have H2_ := (Option.bind_some _ _).symm.trans H; rw [hy133]; with_reducible exact H2_) | (have H2_ := (Option.bind_some _ _).symm.trans H; with_reducible exact H2_) | with_reducible exact H | (rw [hy133]; exact H) | exact H
     have Ny133 := A_ hy133; clear hy133; replace H := Option.bind_eq_some_iff.mp H; obtain ⟨⟨t136, t137⟩, A490, H⟩ := H; (try dsimp only at H); have A49 := A_ A490; clear A490; have H' := A_ H; clear H; have p127 : 0 ≤ ((ji43) : Int) := oD; have q127 : (ji43) < (x7_8.length : Int) := oD; obtain ⟨ad127, A127_0, c127_0, e127, hx127_0, hl127_0, hi127_0⟩ := at_L3 (Kd.N_reads' HO_7.out).2.2 (ji43) p127 q127
     obtain rfl : ad125 = ad127 := (by injection e127)
     obtain ⟨ce127, hce127, hMe127, hcc127⟩ := Kd.N_get HO_7.out [] (ji43) p127 (by first | exact q127 | exact oD | (have e_ := (Kd.N_reads' HO_7.out).1; omega))
     obtain ⟨ua127_0, uc127_0, rfl, ul127_0, ge127_0⟩ := Kd.FK_slice_open hMe127; have hv127_0 := hcc127 0 _ rfl; rw [Nat.add_zero, show ((Kd.slice 4 Kd.bool)).sz = 1 from rfl, Nat.mul_one] at hv127_0; replace hv127_0 := Option.some.inj (hv127_0.symm.trans hx127_0)
     injection hv127_0 with hva_ hvn_ hvc_
     rw [hva_] at ge127_0; rw [hvc_] at ul127_0
     have HL127_0 := A_ (show Kd.V Kd.bool 4 _ w.heap.size _ _ (rd_L3 x7_8 (ji43)) from Kd.V_mk ul127_0 ge127_0)
     clear hva_ hvn_ hvc_ ge127_0 ul127_0; clear hcc127 hce127; have HR127_0 := A_ hi127_0; have HC127_0 := A_ hl127_0; clear hi127_0 hl127_0; replace p127 := eq_true p127; replace q127 := eq_true q127
     go_wp2_with (first | ((with_reducible refine gate_callee (f := 60) rfl ?_); refine goesL_ (some 77) rfl rfl Try.func60 (by kernel_rfl) rfl #[.pointer (some ⟨g106, 0, none⟩), .int .i64 x10_2, .slice A127_0 (rd_L3 x7_8 (ji43)).length c127_0] rfl (by (try simp only [List.map_toArray, List.map_cons, List.map_nil]); first | done | (simp only [hji43]; rfl) | rfl | (simp only [List.length_drop, List.length_take]; rfl)) ?_; (with_reducible refine (ice_game_choices.calls k2 g106 t103 t104 x107002_2 x10_2 _ _ (rd_L3 x7_8 (ji43)) t128 t131 w _ ?side1 ?side2 ?side3 ?side4 ?side5 A46.out).mono ?_); (case side1 => repeat (first | (with_reducible first | exact HI106.out | apply IsS87.alloc | apply IsS87.drewN | apply IsS87.drew | apply IsS87.set_2) | exact HI106.out)); (case side2 => repeat (first | (with_reducible first | exact HB.out | apply below_alloc | apply pw_below_drewN | apply below_drew1 | refine below_set ?_ (IsS87.ge HI106.out)) | exact HB.out)); (case side3 => repeat (first | exact (by repeat (first | (with_reducible exact HR127_0.out) | (with_reducible refine Kd.C_alloc ?_ _) | (with_reducible refine Kd.C_drewN ?_ _) | (with_reducible refine Kd.C_drew ?_) | exact HR127_0.out)) | (with_reducible refine Kd.C_alloc ?_ _) | (with_reducible refine Kd.C_drewN ?_ _) | (with_reducible refine Kd.C_drew ?_))); (case side4 => exact HC127_0.out); (case side5 => exact V_far_ HL127_0.out (by decide) (fun k_ hk_ => hk_.1.2)); rintro e w50 ⟨v129, rfl, ho0, hi, hb, hk⟩; refine ⟨_, rfl, ?_⟩; have n0_ := A_ (Kd.N_mono (Kd.N_told (Kd.N_oldK (Kd.N_mono (ok := fun k_ => (some k_ ≠ (u11 : Value).ownBlock ∧ k_ ≠ g106)) (nU HO_7.out) (fun k_ hk_ => (⟨hk_, hk_.2⟩ : _ ∧ k_ ≠ g106))) hk) (Kd.R_base ho0)) (fun _ h_ => h_.1)); have n1_ := A_ (Kd.R_mono (Kd.R_told (Kd.R_oldK (IsS87.apart (show IsS87 w _ g106 t103 t104 x107002_2 from by repeat (first | (with_reducible first | exact HI106.out | apply IsS87.alloc | apply IsS87.drewN | apply IsS87.drew | apply IsS87.set_2) | exact HI106.out)) (rU HO_11.out) (by decide)) hk) (Kd.R_base ho0)) (fun _ h_ => h_.1)); have n2_ := A_ (Kd.V_mono (Kd.V_told (Kd.V_oldK (Kd.V_mono (ok := fun k_ => ((some k_ ≠ (u11 : Value).ownBlock ∧ k_ ≠ g106) ∧ some k_ ≠ (.slice (some ad125) x7_8.length co41 : Value).ownBlock)) (vU HL127_0.out) (fun k_ hk_ => (⟨hk_, hk_.1.2⟩ : _ ∧ k_ ≠ g106))) hk) (Kd.R_base ho0)) (fun _ h_ => h_.1)); have n3_ := A_ (Kd.R_lower (Kd.R_new' ho0 (Kd.R_lt (rU HO_11.out))) (below_size (by repeat (first | (with_reducible first | exact HB.out | apply below_alloc | apply pw_below_drewN | apply below_drew1 | refine below_set ?_ (IsS87.ge HI106.out)) | exact HB.out)))); have n4_ := A_ (hb); have n5_ := A_ (hi); clear HO_7; clear HO_11; clear HL127_0; clear HB; clear HI106; have HO_7 := n0_; have HO_11 := n1_; have HL127_0 := n2_; have HO130 := n3_; have HB := n4_; have HI106 := n5_; clear n0_ n1_ n2_ n3_ n4_ n5_; (try clear hb); (try clear hk); (try clear hi); (try clear ho0); obtain ⟨Ao51, co51, eo51⟩ := Kd.R_slice HO130.out; subst eo51; have p132 : 0 ≤ (0 : Int) := (by omega); have q132 : 0 < (t128.length : Int) := oD; obtain ⟨ad132, e132, hx132_0⟩ := Kd.at_int (Kd.R_reads' HO130.out).2.2 0 p132 q132; cases e132; have qi132 : (0 < t128.length) = True := eq_true (by omega); (try rw [show ((0 : Int)).toNat = 0 from rfl] at hx132_0); (try rw [Addr.add_zero'] at hx132_0); replace p132 := eq_true p132; replace q132 := eq_true q132) | ((with_reducible refine gate_builtin (b := .append) (xs := #[.tmp 80, .tmp 82]) rfl ?_); at_builtin; refine Kd.R_append (Kd.int .i64) (w0 := w) w.heap.size rfl (.tmp 80) (.tmp 82) 22 3 (.int .i64 0) 8 rfl Try.underlying22 info3 rfl (by decide) (by omega) u11 x11_2 (rd t128 0) [.int .i64 (rd t128 0)] (fun k_ => some k_ ≠ (.slice (some ad132) t128.length co51 : Value).ownBlock) (fun _ => False) rfl rfl ?aP (fun _ hk => hk.elim) ?aF ?aO ?aB ?aS ?aL ?_; (case aP => exact rfl); (case aB => exact (by repeat (first | (with_reducible first | exact HB.out | apply below_alloc | apply pw_below_drewN | apply below_drew1 | refine below_set ?_ (IsS87.ge HI106.out)) | exact HB.out))); (case aF => exact (fun k_ hk => Kd.fresh' (Kd.R_lt (rU HO130.out)) k_ hk)); (case aO => exact (by (with_reducible repeat (first | apply Kd.R_alloc | apply Kd.R_drewN | apply Kd.R_drew)); exact Kd.R_mono HO_11.out (fun _ hk => hk.2))); (case aS => exact (below_size (by repeat (first | (with_reducible first | exact HB.out | apply below_alloc | apply pw_below_drewN | apply below_drew1 | refine below_set ?_ (IsS87.ge HI106.out)) | exact HB.out)))); (case aL => have := LMc48.out; omega); intro v134 w52 ho hb hg hat; rw [← Ny133.out] at ho; have n0_ := A_ (Kd.N_afterv (ok := (fun k_ => some k_ ≠ (.slice (some ad132) t128.length co51 : Value).ownBlock ∧ k_ ≠ g106)) (by (with_reducible repeat (first | apply Kd.N_alloc | apply Kd.N_drewN | apply Kd.N_drew)); exact Kd.N_mono HO_7.out (fun _ hk => ⟨⟨hk.2, hk.1.2⟩, hk.1.1⟩)) hg hat); have n1_ := A_ (IsS87.grown (by repeat (first | (with_reducible first | exact HI106.out | apply IsS87.alloc | apply IsS87.drewN | apply IsS87.drew | apply IsS87.set_2) | exact HI106.out)) hg (IsS87.own_ne HI106.out HO_11.out (by decide))); have n2_ := A_ (Kd.V_afterv (ok := (fun k_ => some k_ ≠ (.slice (some ad125) x7_8.length co41 : Value).ownBlock ∧ some k_ ≠ (.slice (some ad132) t128.length co51 : Value).ownBlock ∧ k_ ≠ g106)) (by (with_reducible repeat (first | apply Kd.V_alloc | apply Kd.V_drewN | apply Kd.V_drew)); exact Kd.V_mono HL127_0.out (fun _ hk => ⟨⟨hk.1.2, ⟨hk.2, hk.1.1.2⟩⟩, hk.1.1.1⟩)) hg hat); have n3_ := A_ (Kd.R_after (ok := (fun _ => True)) (rU HO130.out) hg hat); have n4_ := A_ (hb); have n5_ := A_ (ho); clear HO_7; clear HI106; clear HL127_0; clear HO130; clear HB; clear HO_11; have HO_7 := n0_; have HI106 := n1_; have HL127_0 := n2_; have HO130 := n3_; have HB := n4_; have HO135 := n5_; clear n0_ n1_ n2_ n3_ n4_ n5_; clear ho hb hg hat) | ((with_reducible refine gate_callee (f := 61) rfl ?_); refine goesW_ (some 87) Try.func61 #[.pointer (some ⟨g106, 0, none⟩), .int .i64 x10_2, .int .i64 (rd t128 0)] ?_; (with_reducible refine (ice_game_tonight.calls k2 g106 t103 t104 t131 x10_2 (rd t128 0) t136 t137 w _ ?side1 ?side2 A49.out).mono ?_); (case side1 => repeat (first | (with_reducible first | exact HI106.out | apply IsS87.alloc | apply IsS87.drewN | apply IsS87.drew | apply IsS87.set_2) | exact HI106.out)); (case side2 => repeat (first | (with_reducible first | exact HB.out | apply below_alloc | apply pw_below_drewN | apply below_drew1 | refine below_set ?_ (IsS87.ge HI106.out)) | exact HB.out)); rintro e w53 ⟨rfl, hi, hb, hk⟩; refine ⟨_, rfl, ?_⟩; have n0_ := A_ (Kd.N_mono (Kd.N_keep (Kd.N_mono (ok := fun k_ => ((some k_ ≠ (.slice (some ad132) t128.length co51 : Value).ownBlock ∧ k_ ≠ g106) ∧ some k_ ≠ (v134 : Value).ownBlock)) (nU HO_7.out) (fun k_ hk_ => (⟨hk_, hk_.1.2⟩ : _ ∧ k_ ≠ g106))) hk (fun _ h => h.2)) (fun _ h => h.1)); have n1_ := A_ (Kd.V_mono (Kd.V_keep (Kd.V_mono (ok := fun k_ => ((some k_ ≠ (.slice (some ad125) x7_8.length co41 : Value).ownBlock ∧ (some k_ ≠ (.slice (some ad132) t128.length co51 : Value).ownBlock ∧ k_ ≠ g106)) ∧ some k_ ≠ (v134 : Value).ownBlock)) (vU HL127_0.out) (fun k_ hk_ => (⟨hk_, hk_.1.2.2⟩ : _ ∧ k_ ≠ g106))) hk (fun _ h => h.2)) (fun _ h => h.1)); have n2_ := A_ (Kd.R_mono (Kd.R_keep (IsS87.apart (show IsS87 w _ g106 t103 t104 t131 from by repeat (first | (with_reducible first | exact HI106.out | apply IsS87.alloc | apply IsS87.drewN | apply IsS87.drew | apply IsS87.set_2) | exact HI106.out)) (rU HO130.out) (by decide)) hk (fun _ h => h.2)) (fun _ h => h.1)); have n3_ := A_ (Kd.R_mono (Kd.R_keep (IsS87.apart (show IsS87 w _ g106 t103 t104 t131 from by repeat (first | (with_reducible first | exact HI106.out | apply IsS87.alloc | apply IsS87.drewN | apply IsS87.drew | apply IsS87.set_2) | exact HI106.out)) (rU HO135.out) (by decide)) hk (fun _ h => h.2)) (fun _ h => h.1)); have n4_ := A_ (hb); have n5_ := A_ (hi); clear HO_7; clear HL127_0; clear HO130; clear HO135; clear HB; clear HI106; have HO_7 := n0_; have HL127_0 := n1_; have HO130 := n2_; have HO135 := n3_; have HB := n4_; have HI106 := n5_; clear n0_ n1_ n2_ n3_ n4_ n5_; (try clear hb); (try clear hk); (try clear hi)))
     go_roundg k2
     case measure => have := HJ8.out; have := HK2.out; omega
     case rel => exact ⟨(t136), (y133), (wrap64 (x12_2 - 1)), (t137), eS, eS, H', ⟨by have := HJ8.out; have := HK2.out; omega⟩, ⟨by (with_reducible repeat (first | apply Kd.N_alloc | apply Kd.N_drewN | apply Kd.N_drew)); exact Kd.N_mono HO_7.out (fun _ hk => ⟨hk.2, hk.1.2⟩)⟩, ⟨by (with_reducible repeat (first | apply Kd.R_alloc | apply Kd.R_drewN | apply Kd.R_drew)); exact Kd.R_mono HO135.out (fun _ hk => trivial)⟩, ⟨by repeat (first | (with_reducible first | exact HI106.out | apply IsS87.alloc | apply IsS87.drewN | apply IsS87.drew | apply IsS87.set_2) | exact HI106.out)⟩, ⟨by repeat (first | (with_reducible first | exact HB.out | apply below_alloc | apply pw_below_drewN | apply below_drew1 | refine below_set ?_ (IsS87.ge HI106.out)) | exact HB.out)⟩⟩
end Go.Proofs.Ythbpibdfookbmaa.G
end
