-- Written by this session's driver (wip/tools/printmore.py) over the kit's print, with hand-written parts.
import Derived.Test.YtiapmkndgalgnaaGBase
import Derived.Test.YtiapmkndgalgnaaGF51
import Derived.Test.YtiapmkndgalgnaaGF23
import Derived.Test.YtiapmkndgalgnaaGF65
namespace Go.Proofs.Ytiapmkndgalgnaa.G
open Go.RowKit Go.Proofs.YtiapmkndgalgnaaW.PrintWords Go.Proofs.YtiapmkndgalgnaaW.PrintLast Go.Proofs.YtiapmkndgalgnaaW.PrintMore
attribute [local go_sem] max2_int min2_int max_two min_two max_three min_three max_four min_four   -- for this text's walks alone
set_option linter.unusedVariables false
set_option linter.unusedSimpArgs false

/-! ### arm_Curved: function 36 -/
theorem arm_Curved.blk_new2 (w : World) (o o' : Obj) : ((w.alloc o).alloc o').heap[w.heap.size + 1]? = some o' := by
  have := blk_new (w.alloc o) o'
  rwa [show (w.alloc o).heap.size = w.heap.size + 1 by simp] at this
theorem arm_Curved.put3 {w : World} {g : Nat} {t : TypeId} {a b c : Value} (h : w.heap[g]? = some (.cells #[a, b, c] t (0, 0))) (x y z : Value) : (((w.setCell ⟨g, 0, none⟩ x).setCell ⟨g, 1, none⟩ y).setCell ⟨g, 2, none⟩ z).heap[g]? = some (.cells #[x, y, z] t (0, 0)) :=
  blk_put (cs := #[x, y, c]) (blk_put (cs := #[x, b, c]) (blk_put (cs := #[a, b, c]) h 0 x rfl) 1 y rfl) 2 z rfl
/-- A window on a curve. -/
def arm_Curved.fn (l : List S73) (radius : Int) (x0 x1 x2 : Int) : Option (Int × Int × Int) :=
  if 0 < (l.length : Int) then (if (wrap64 (2 * radius)) = 0 then none else some (x0, mn (wrap64 (x1 + wrap64 (Int.tdiv (wrap64 ((wrap64 (x0 - (rd_T73 l 0).f0)) * (wrap64 (x0 - (rd_T73 l 0).f0)))) (wrap64 (2 * radius))))) 1000, mn (wrap64 (x2 + wrap64 (Int.tdiv (wrap64 ((wrap64 (x0 - (rd_T73 l 0).f0)) * (wrap64 (x0 - (rd_T73 l 0).f0)))) (wrap64 (2 * radius))))) 1000)) else none
set_option maxHeartbeats 8000000 in
set_option maxRecDepth 100000 in
theorem arm_Curved.lit (A : Option Addr) (c : Nat) (l : List S73) (radius x0 x1 x2 r1 r2 r3 : Int) (b b' : Nat) (W : World) (hb : b < W.heap.size) (hb' : b' < W.heap.size) (hL : W.cell? ⟨b, 0, none⟩ = some (.slice A l.length c)) (hR : W.cell? ⟨b', 0, none⟩ = some (.int .i64 radius)) (hC : Kd.C k73 W A l.length l)
    (h : arm_Curved.fn l radius x0 x1 x2 = some (r1, r2, r3)) :
    Calls Try.prog 66 (#[.agg #[.int .i64 x0, .int .i64 x1, .int .i64 x2]] ++ #[.pointer (some ⟨b, 0, none⟩), .pointer (some ⟨b', 0, none⟩)]) W fun e w' => e = .returned (.agg #[.int .i64 r1, .int .i64 r2, .int .i64 r3]) ∧ Below W.heap.size W w' := by
  have hu73 := Try.underlying73
  unfold arm_Curved.fn at h
  by_cases p : 0 < (l.length : Int)
  rotate_left
  · rw [if_neg p] at h; cases h
  rw [if_pos p] at h
  by_cases q : wrap64 (2 * radius) = 0
  · rw [if_pos q] at h; cases h
  rw [if_neg q] at h
  simp only [Option.some.injEq, Prod.mk.injEq] at h
  obtain ⟨rfl, rfl, rfl⟩ := h
  obtain ⟨ad, ead, e0, e1, e2⟩ := at_T73 hC 0 (by omega) p
  cases ead
  have hne : b ≠ W.heap.size := by omega
  have hne' : b' ≠ W.heap.size := by omega
  have hz : (0 : Int).toNat * 3 = 0 := rfl
  have ead0 : ad.add 0 = ad := by simp [Addr.add]
  rw [hz] at e0
  have hbl : ad.block ≠ W.heap.size := by
    have := World.block_lt_of_cell? W _ e0
    rw [ead0] at this
    omega
  generalize (rd_T73 l 0).f0 = z at e0 ⊢
  rw [ead0] at e0
  have hW2 : Below W.heap.size W ((W.alloc (.cells #[.int .i64 x0, .int .i64 x1, .int .i64 x2] 73)).alloc (.cells #[.int .i64 0, .int .i64 0, .int .i64 0] 73)) := below_alloc (below_alloc (Below.refl _ _) _) _
  have fL := (hW2.cell (p := ⟨b, 0, none⟩) hb).trans hL
  have fR := (hW2.cell (p := ⟨b', 0, none⟩) hb').trans hR
  have fE := (hW2.cell (p := ad) (World.block_lt_of_cell? W _ e0)).trans e0
  clear hW2
  have p' := eq_true p
  have pd := decide_eq_true p
  clear e1 e2 hC
  show Calls Try.prog 66 #[.agg #[.int .i64 x0, .int .i64 x1, .int .i64 x2], .pointer (some ⟨b, 0, none⟩), .pointer (some ⟨b', 0, none⟩)] W _
  go_enter Try.func66, Try.ntmps66
  go_wp2
  repeat (go_quiet (fail); try go_wp2)
  all_goals
    refine bodyPost_ret (results_cell_row rfl _ _ (W.heap.size + 1) 73 _ (0, 0) _ rfl (arm_Curved.put3 (blk_drewN (arm_Curved.blk_new2 _ _ _) _) _ _ _) hu73 rfl (by kernel_rfl)) rfl ?_
    refine ⟨?_, below_set (below_set (below_set (pw_below_drewN (below_alloc (below_alloc (Below.refl _ _) _) _) _) (Nat.le_succ _)) (Nat.le_succ _)) (Nat.le_succ _)⟩
    unfold mn
    repeat' split
    all_goals first | rfl | omega
def arm_Curved.f (k : Nat) (l0 : List (S73)) (a1 : Int) : Option ((List (S73)) × Int) := (arm_Valid.f k l0).bind fun t101 => (if t101 = true then ((arm_within.f 1 a1 1000000).bind fun t102 => (if t102 = true then (arm_changed.f (arm_Curved.fn l0 a1) k l0) else (some (([] : List (S73)), 2)))) else (some (([] : List (S73)), 20)))
theorem arm_Curved.mono : ∀ a0 a1 k, LeO (arm_Curved.f k a0 a1) (arm_Curved.f (k + 1) a0 a1) := by
  intro a0 a1 k
  unfold arm_Curved.f
  refine LeO.bind (arm_Valid.mono _ _) (fun _ => LeO.ite (LeO.bind (LeO.refl _) (fun _ => LeO.ite (arm_changed.mono _ _ _) (LeO.refl _))) (LeO.refl _))
set_option maxHeartbeats 8000000 in
set_option maxRecDepth 100000 in
theorem arm_Curved.calls (k : Nat) (A0 : Option Addr) (c0 : Nat) (l0 : List (S73)) (a1 : Int) (r1 : List (S73)) (r2 : Int) (w : World) (hr0 : Kd.C k73 w A0 l0.length l0) (hc0 : l0.length ≤ c0) (h : arm_Curved.f k l0 a1 = some (r1, r2)) :
    Calls Try.prog 36 #[.slice A0 l0.length c0, .int .i64 a1] w fun e w' => ∃ v0_ : Value, e = .returned (.tuple #[v0_, .int .i64 r2]) ∧ Kd.R k73 73 w' w.heap.size (fun _ => True) v0_ r1 ∧ Below w.heap.size w w' := by
  obtain ⟨w0, hw0⟩ : ∃ w0, w0 = (w.alloc (.cells #[.slice A0 l0.length c0] 30)).alloc (.cells #[.int .i64 a1] 3) := ⟨_, rfl⟩
  have hb0 : Below w.heap.size w w0 := by rw [hw0]; exact below_alloc (below_alloc (Below.refl _ _) _) _
  have hs0 : w.heap.size < w0.heap.size := by rw [hw0]; simp; omega
  have hs1 : w.heap.size + 1 < w0.heap.size := by rw [hw0]; simp
  have b0 : w0.cell? ⟨w.heap.size, 0, none⟩ = some (.slice A0 l0.length c0) := by rw [hw0]; exact (((below_alloc (Below.refl (w.alloc (.cells #[.slice A0 l0.length c0] 30)).heap.size _) _)).cell (p := ⟨w.heap.size, 0, none⟩) (by simp)).trans (by simp)
  have b1 : w0.cell? ⟨w.heap.size + 1, 0, none⟩ = some (.int .i64 a1) := by rw [hw0]; exact (blk_cell (arm_Curved.blk_new2 _ _ _) 0).trans rfl
  have HR0 := Aside0.mk (Kd.C_below hr0 hb0)
  unfold arm_Curved.f at h
  obtain ⟨t1, h1, h⟩ := Option.bind_eq_some_iff.mp h
  have call1 := arm_Valid.calls k A0 c0 l0 t1 w0 HR0.out hc0 h1
  cases t1 with
  | false =>
    obtain ⟨rfl, rfl⟩ : [] = r1 ∧ 20 = r2 := by simpa using h
    subst hw0
    go_enter Try.func36, Try.ntmps36
    go_wp2_with (go_at_call 23; refine call1.mono ?_; rintro e w1 ⟨rfl, hb1⟩)
    go_ret2
    exact ⟨_, rfl, Kd.R_nil _ _ _ _ _, hb0.trans (hb1.mono (Nat.le_of_lt hs0))⟩
  | true =>
    simp only [if_true] at h
    obtain ⟨t2, h2, h⟩ := Option.bind_eq_some_iff.mp h
    have call2 := fun w1 => arm_within.calls 1 a1 1000000 t2 w1 h2
    cases t2 with
    | false =>
      obtain ⟨rfl, rfl⟩ : [] = r1 ∧ 2 = r2 := by simpa using h
      subst hw0
      go_enter Try.func36, Try.ntmps36
      go_wp2_with (first
        | (go_at_call 23; refine call1.mono ?_; rintro e w1 ⟨rfl, hb1⟩; have e0 := (hb1.cell (p := ⟨w.heap.size, 0, none⟩) hs0).trans b0; have e1 := (hb1.cell (p := ⟨w.heap.size + 1, 0, none⟩) hs1).trans b1)
        | (go_at_call 51; refine (call2 _).mono ?_; rintro e w2 ⟨rfl, ⟨nd, rfl⟩⟩))
      go_ret2
      exact ⟨_, rfl, Kd.R_nil _ _ _ _ _, pw_below_drewN (hb0.trans (hb1.mono (Nat.le_of_lt hs0))) _⟩
    | true =>
      simp only [if_true] at h
      have call3 := fun (w2 : World) (hb : Below w0.heap.size w0 w2) => arm_changed.calls (g := 66) (lb := #[.pointer (some ⟨w.heap.size, 0, none⟩), .pointer (some ⟨w.heap.size + 1, 0, none⟩)]) (enters_f Try.func66 (by kernel_rfl) rfl) (arm_Curved.fn l0 a1) k A0 c0 l0 r1 r2 w2 (Kd.C_below HR0.out hb) hc0
        (fun x0 x1 x2 q1 q2 q3 W hW hq => arm_Curved.lit A0 c0 l0 a1 x0 x1 x2 q1 q2 q3 w.heap.size (w.heap.size + 1) W (Nat.lt_of_lt_of_le hs0 (Nat.le_trans hb.size hW.size)) (Nat.lt_of_lt_of_le hs1 (Nat.le_trans hb.size hW.size)) ((hW.cell (p := ⟨w.heap.size, 0, none⟩) (Nat.lt_of_lt_of_le hs0 hb.size)).trans ((hb.cell (p := ⟨w.heap.size, 0, none⟩) hs0).trans b0)) ((hW.cell (p := ⟨w.heap.size + 1, 0, none⟩) (Nat.lt_of_lt_of_le hs1 hb.size)).trans ((hb.cell (p := ⟨w.heap.size + 1, 0, none⟩) hs1).trans b1)) (Kd.C_below (Kd.C_below HR0.out hb) hW) hq) h
      subst hw0
      go_enter Try.func36, Try.ntmps36
      go_wp2_with (first
        | (go_at_call 23; refine call1.mono ?_; rintro e w1 ⟨rfl, hb1⟩; have e0 := (hb1.cell (p := ⟨w.heap.size, 0, none⟩) hs0).trans b0; have e1 := (hb1.cell (p := ⟨w.heap.size + 1, 0, none⟩) hs1).trans b1)
        | (go_at_call 51; refine (call2 _).mono ?_; rintro e w2 ⟨rfl, ⟨nd, rfl⟩⟩)
        | (go_at_call 65; refine (call3 _ (pw_below_drewN hb1 _)).mono ?_; rintro e w3 ⟨v, rfl, ho, hb3⟩; have hsz := (pw_below_drewN hb1 nd).size))
      go_ret2
      exact ⟨_, rfl, Kd.R_lower ho (Nat.le_trans (Nat.le_of_lt hs0) hsz), hb0.trans (((pw_below_drewN hb1 nd).mono (Nat.le_of_lt hs0)).trans (hb3.mono (Nat.le_trans (Nat.le_of_lt hs0) hsz)))⟩

end Go.Proofs.Ytiapmkndgalgnaa.G
