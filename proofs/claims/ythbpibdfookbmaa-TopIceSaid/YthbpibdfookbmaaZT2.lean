/- Functions of the seat and plain laws about them: GF53, GF82, GF56, GF83. -/
import Derived.Test.YthbpibdfookbmaaGBase
import Derived.Test.YthbpibdfookbmaaZT0
section
namespace Go.Proofs.Ythbpibdfookbmaa.G
open Go.RowKit Go.Proofs.YthbpibdfookbmaaW.PrintWords Go.Proofs.YthbpibdfookbmaaW.PrintLast Go.Proofs.YthbpibdfookbmaaW.PrintMore
attribute [local go_sem] max2_int min2_int max_two min_two max_three min_three max_four min_four
set_option linter.unusedVariables false
set_option linter.unusedSimpArgs false
/-- A state of type 87 at block g of W; what its slices lead to came in by w0. -/
def IsS87 (w0 W : World) (g : Nat) (f0 : List Int) (f1 : List Int) (f2 : Int) : Prop := ∃ A0 c0, ∃ A1 c1, W.heap[g]? = some (.cells #[.slice A0 f0.length c0, .slice A1 f1.length c1, .int .i64 f2] 87 (0, 0)) ∧ True ∧ (Kd.C (Kd.int .i64) w0 A0 f0.length f0 ∧ f0.length ≤ c0) ∧ (Kd.C (Kd.int .i64) w0 A1 f1.length f1 ∧ f1.length ≤ c1)
theorem IsS87.grown {w0 W : World} {g : Nat} {f0 : List Int} {f1 : List Int} {f2 : Int} {W1 : World} {row : Option Nat} (h : IsS87 w0 W g f0 f1 f2) (hw : W.grownBy W1 row) (hne : some g ≠ row) : IsS87 w0 W1 g f0 f1 f2 := by
 obtain ⟨A0, c0, A1, c1, hb, hg, hr0, hr1⟩ := h; exact ⟨A0, c0, A1, c1, blk_grown hb hw hne, hg, hr0, hr1⟩
theorem IsS87.own_neN {w0 W : World} {g : Nat} {f0 : List Int} {f1 : List Int} {f2 : Int} {α : Type} {d : Kd α} {e : Nat} {base : Nat} {ok : Nat → Prop} {v : Value} {xs : List α} (h : IsS87 w0 W g f0 f1 f2) (ho : Kd.N d e W base ok v xs) (ht : e ≠ 87) : some g ≠ v.ownBlock := by
 obtain ⟨A0, c0, A1, c1, hb, hg, hr0, hr1⟩ := h; exact Kd.N_ne ho hb ht
theorem IsS87.fresh {w0 W : World} {g : Nat} {f0 : List Int} {f1 : List Int} {f2 : Int} (h : IsS87 w0 W g f0 f1 f2) : ∀ k, W.heap.size ≤ k → k ≠ g := by
 obtain ⟨A0, c0, A1, c1, hb, hg, hr0, hr1⟩ := h; exact Kd.freshB hb
theorem IsS87.kept {w0 W : World} {g : Nat} {f0 : List Int} {f1 : List Int} {f2 : Int} {W1 : World} {S : Nat → Prop} (h : IsS87 w0 W g f0 f1 f2) (hk : Kept W W1 S) (hne : ¬ S g) : IsS87 w0 W1 g f0 f1 f2 := by
 obtain ⟨A0, c0, A1, c1, hb, hg, hr0, hr1⟩ := h; exact ⟨A0, c0, A1, c1, blk_kept hb hk hne, hg, hr0, hr1⟩
theorem IsS87.below {w0 W : World} {g : Nat} {f0 : List Int} {f1 : List Int} {f2 : Int} {W1 : World} (h : IsS87 w0 W g f0 f1 f2) (hw : Below W.heap.size W W1) : IsS87 w0 W1 g f0 f1 f2 := h.grown (grown_of_below hw none) (by simp)
theorem IsS87.alloc {w0 W : World} {g : Nat} {f0 : List Int} {f1 : List Int} {f2 : Int} (h : IsS87 w0 W g f0 f1 f2) (o : Obj) : IsS87 w0 (W.alloc o) g f0 f1 f2 := h.below (below_alloc (Below.refl _ _) o)
theorem IsS87.drewN {w0 W : World} {g : Nat} {f0 : List Int} {f1 : List Int} {f2 : Int} (h : IsS87 w0 W g f0 f1 f2) (m : Nat) : IsS87 w0 (W.drewN m) g f0 f1 f2 := h
theorem IsS87.drew {w0 W : World} {g : Nat} {f0 : List Int} {f1 : List Int} {f2 : Int} (h : IsS87 w0 W g f0 f1 f2) : IsS87 w0 W.drew g f0 f1 f2 := h
theorem IsS87.at_ {w0 W : World} {g : Nat} {f0 : List Int} {f1 : List Int} {f2 : Int} {w' : World} {m : Nat} (hq : W.drewN m = w') (h : IsS87 w0 W g f0 f1 f2) : IsS87 w0 w' g f0 f1 f2 := by subst hq; exact IsS87.drewN h m
theorem IsS87.apart {w0 W : World} {g : Nat} {f0 : List Int} {f1 : List Int} {f2 : Int} {α : Type} {d : Kd α} {e : Nat} {base : Nat} {ok : Nat → Prop} {v : Value} {xs : List α} (h : IsS87 w0 W g f0 f1 f2) (ho : d.R e W base ok v xs) (ht : ∀ q, q ∈ e :: d.E → q ≠ 87) : d.R e W base (fun k => ok k ∧ k ≠ g) v xs := by
 obtain ⟨A0, c0, A1, c1, hb, hg, hr0, hr1⟩ := h; exact Kd.R_types ho hb ht
theorem IsS87.own_ne {w0 W : World} {g : Nat} {f0 : List Int} {f1 : List Int} {f2 : Int} {α : Type} {d : Kd α} {e : Nat} {base : Nat} {ok : Nat → Prop} {v : Value} {xs : List α} (h : IsS87 w0 W g f0 f1 f2) (ho : d.R e W base ok v xs) (ht : e ≠ 87) : some g ≠ v.ownBlock := by
 obtain ⟨A0, c0, A1, c1, hb, hg, hr0, hr1⟩ := h; exact Kd.R_ne ho hb ht
theorem IsS87.apartQ {w0 W : World} {g : Nat} {f0 : List Int} {f1 : List Int} {f2 : Int} {α : Type} {d : Kd α} {e : Nat} {base : Nat} {ok : Nat → Prop} {v : Value} {xs : List α} (h : IsS87 w0 W g f0 f1 f2) (ho : d.Q e W base ok v xs) (ht : ∀ q, q ∈ e :: d.E → q ≠ 87) : d.Q e W base (fun k => ok k ∧ k ≠ g) v xs := by
 obtain ⟨A0, c0, A1, c1, hb, hg, hr0, hr1⟩ := h; exact Kd.Q_types ho hb ht
theorem IsS87.own_neQ {w0 W : World} {g : Nat} {f0 : List Int} {f1 : List Int} {f2 : Int} {α : Type} {d : Kd α} {e : Nat} {base : Nat} {ok : Nat → Prop} {v : Value} {xs : List α} (h : IsS87 w0 W g f0 f1 f2) (ho : d.Q e W base ok v xs) (ht : e ≠ 87) : some g ≠ v.ownBlock := by
 obtain ⟨A0, c0, A1, c1, hb, hg, hr0, hr1⟩ := h; exact Kd.Q_ne ho hb ht
theorem IsS87.apartS {w0 W : World} {g : Nat} {f0 : List Int} {f1 : List Int} {f2 : Int} {α : Type} {d : Kd α} {e : Nat} {base : Nat} {ok : Nat → Prop} {v : Value} {xs : List α} (h : IsS87 w0 W g f0 f1 f2) (ho : d.S e W base ok v xs) (ht : ∀ q, q ∈ e :: d.E → q ≠ 87) : d.S e W base (fun k => ok k ∧ k ≠ g) v xs := by
 obtain ⟨A0, c0, A1, c1, hb, hg, hr0, hr1⟩ := h; exact Kd.S_types ho hb ht
theorem IsS87.own_neS {w0 W : World} {g : Nat} {f0 : List Int} {f1 : List Int} {f2 : Int} {α : Type} {d : Kd α} {e : Nat} {base : Nat} {ok : Nat → Prop} {v : Value} {xs : List α} (h : IsS87 w0 W g f0 f1 f2) (ho : d.S e W base ok v xs) (ht : e ≠ 87) : some g ≠ v.ownBlock := by
 obtain ⟨A0, c0, A1, c1, hb, hg, hr0, hr1⟩ := h; exact Kd.S_ne ho hb ht
theorem IsS87.lt {w0 W : World} {g : Nat} {f0 : List Int} {f1 : List Int} {f2 : Int} (h : IsS87 w0 W g f0 f1 f2) : g < W.heap.size := by
 obtain ⟨A0, c0, A1, c1, hb, hg, hr0, hr1⟩ := h; exact blk_lt hb
theorem IsS87.ne_blk {w0 W : World} {g : Nat} {f0 : List Int} {f1 : List Int} {f2 : Int} {a : Nat} {cs : Array Value} {t : TypeId} {fr : Nat × Nat} (h : IsS87 w0 W g f0 f1 f2) (hb2 : W.heap[a]? = some (.cells cs t fr)) (ht : t ≠ 87) : g ≠ a := by
 obtain ⟨A0, c0, A1, c1, hb, hg, hr0, hr1⟩ := h
 rintro rfl
 rw [hb] at hb2
 injection hb2 with hb2
 injection hb2 with _ ht2
 exact ht ht2.symm
theorem IsS87.far {w0 W : World} {g : Nat} {f0 : List Int} {f1 : List Int} {f2 : Int} {p : Addr} (h : IsS87 w0 W g f0 f1 f2) (hne : g ≠ p.block) (u : Value) : IsS87 w0 (W.setCell p u) g f0 f1 f2 := by
 obtain ⟨A0, c0, A1, c1, hb, hg, hr0, hr1⟩ := h; exact ⟨A0, c0, A1, c1, blk_far hb hne u, hg, hr0, hr1⟩
theorem cellS87_0 {W : World} {g : Nat} {A0 : Option Addr} {c0 : Nat} {A1 : Option Addr} {c1 : Nat} {f0 : List Int} {f1 : List Int} {f2 : Int} (h : W.heap[g]? = some (.cells #[.slice A0 f0.length c0, .slice A1 f1.length c1, .int .i64 f2] 87 (0, 0))) : W.cell? ⟨g, 0, none⟩ = some (.slice A0 f0.length c0) := (blk_cell h 0).trans rfl
theorem cellS87_1 {W : World} {g : Nat} {A0 : Option Addr} {c0 : Nat} {A1 : Option Addr} {c1 : Nat} {f0 : List Int} {f1 : List Int} {f2 : Int} (h : W.heap[g]? = some (.cells #[.slice A0 f0.length c0, .slice A1 f1.length c1, .int .i64 f2] 87 (0, 0))) : W.cell? ⟨g, 1, none⟩ = some (.slice A1 f1.length c1) := (blk_cell h 1).trans rfl
theorem cellS87_2 {W : World} {g : Nat} {A0 : Option Addr} {c0 : Nat} {A1 : Option Addr} {c1 : Nat} {f0 : List Int} {f1 : List Int} {f2 : Int} (h : W.heap[g]? = some (.cells #[.slice A0 f0.length c0, .slice A1 f1.length c1, .int .i64 f2] 87 (0, 0))) : W.cell? ⟨g, 2, none⟩ = some (.int .i64 f2) := (blk_cell h 2).trans rfl
theorem IsS87.set_2 {w0 W : World} {g : Nat} {f0 : List Int} {f1 : List Int} {f2 : Int} (h : IsS87 w0 W g f0 f1 f2) (x : Int) : IsS87 w0 (W.setCell ⟨g, 2, none⟩ (.int .i64 x)) g f0 f1 x := by
 obtain ⟨A0, c0, A1, c1, hb, hg, hr0, hr1⟩ := h
 exact ⟨A0, c0, A1, c1, by simpa using blk_set hb 2 (.int .i64 x), hg, hr0, hr1⟩
theorem IsS87.new (w0 W : World) (A0 : Option Addr) (c0 : Nat) (A1 : Option Addr) (c1 : Nat) (f0 : List Int) (f1 : List Int) (f2 : Int) (hB : Below w0.heap.size w0 W) (hr0 : (Kd.C (Kd.int .i64) w0 A0 f0.length f0 ∧ f0.length ≤ c0)) (hr1 : (Kd.C (Kd.int .i64) w0 A1 f1.length f1 ∧ f1.length ≤ c1)) : IsS87 w0 (W.alloc (.cells #[.slice A0 f0.length c0, .slice A1 f1.length c1, .int .i64 f2] 87)) W.heap.size f0 f1 f2 := ⟨A0, c0, A1, c1, by simpa using heap_alloc_new W _, trivial, hr0, hr1⟩
def ice_gameOf.l0 : Nat → List Int → Int → Int → List Int → List Int → Int → Option (List Int × List Int × Int)
 | 0, _, _, _, _, _, _ => none
 | k + 1, x9, x10, x11, x102000, x102001, x102002 => if x11 < x10 then (if 0 ≤ x11 then (if x11 < (x9.length : Int) then (if x102001.length < 17592186044416 then (ice_gameOf.l0 k x9 x10 (wrap64 (x11 + 1)) x102000 (x102001 ++ [x102002]) (wrap64 (x102002 * (rd x9 x11)))) else (none)) else (none)) else (none)) else (some (x102000, x102001, x102002))
def ice_gameOf.f (k : Nat) (l0 : List Int) : Option (List Int × List Int × Int) := ice_gameOf.l0 k l0 (l0.length : Int) 0 l0 ([] : List Int) 1
theorem ice_gameOf.mono_l : ∀ k, (∀ y0 y1 y2 y3 y4 y5, LeO (ice_gameOf.l0 k y0 y1 y2 y3 y4 y5) (ice_gameOf.l0 (k + 1) y0 y1 y2 y3 y4 y5))
 | 0 => fun _ _ _ _ _ _ r h => by simp [ice_gameOf.l0] at h
 | k + 1 => by
  have ih0 := ice_gameOf.mono_l k
  ·intro y0 y1 y2 y3 y4 y5
   unfold ice_gameOf.l0
   repeat' first
   | (with_reducible exact ih0 _ _ _ _ _ _)
   | (with_reducible exact LeO.refl _)
   | (with_reducible exact LeO.none _)
   | (with_reducible refine LeO.ite ?_ ?_)
   | (with_reducible refine LeO.bind ?_ (fun _ => ?_))
   | exact ih0 _ _ _ _ _ _
   | exact LeO.none _
   | refine LeO.ite ?_ ?_
   | refine LeO.bind ?_ (fun _ => ?_)
theorem ice_gameOf.mono : ∀ a0 k, LeO (ice_gameOf.f k a0) (ice_gameOf.f (k + 1) a0) := by
 intro a0 k
 have ih0 := ice_gameOf.mono_l k
 unfold ice_gameOf.f
 repeat' first
   | (with_reducible exact ih0 _ _ _ _ _ _)
   | (with_reducible exact LeO.refl _)
   | (with_reducible exact LeO.none _)
   | (with_reducible refine LeO.ite ?_ ?_)
   | (with_reducible refine LeO.bind ?_ (fun _ => ?_))
   | exact ih0 _ _ _ _ _ _
   | exact LeO.none _
   | refine LeO.ite ?_ ?_
   | refine LeO.bind ?_ (fun _ => ?_)
def ice_gameOf.T5 : Bool × List (List Nat × List Nat) := (true, [([], []), ([], []), ([1], [1]), ([2], [2]), ([3], [3]), ([], []), ([5], [5]), ([6], [6]), ([7], [7]), ([8], [8]), ([4, 9], [4, 9]), ([0, 0, 1, 2, 3, 4, 5, 6, 7, 8, 9, 10], [0]), ([11, 0, 1, 2, 3, 4, 5, 6, 7, 8, 9, 10], [11]), ([12, 10, 10, 0, 1, 2, 3, 4, 5, 6, 7, 8, 9, 10], [10, 12])])
def ice_gameOf.B5 : List Nat := [0, 0, 2, 6, 14, 0, 32, 96, 224, 480, 1022, 2047, 4095, 8191]
theorem ice_gameOf.tab5 : rtab .any (opsOf Try.f53 5) = ice_gameOf.T5 := by kernel_rfl
theorem ice_gameOf.bits5 : waitsOk ice_gameOf.T5.2 ice_gameOf.B5 = true := by kernel_rfl
set_option maxHeartbeats 8000000 in
set_option maxRecDepth 100000 in
theorem ice_gameOf.calls (k : Nat) (A0 : Option Addr) (c0 : Nat) (l0 : List Int) (r1 : List Int) (r2 : List Int) (r3 : Int) (w0 w : World) (hB : Below w0.heap.size w0 w) (hr0 : Kd.C (Kd.int .i64) w0 A0 l0.length l0) (hc0 : l0.length ≤ c0) (h : ice_gameOf.f k l0 = some (r1, r2, r3)) :
  Calls Try.prog 53 #[.slice A0 l0.length c0] w fun e w' => ∃ g_ : Nat, e = .returned (.pointer (some ⟨g_, 0, none⟩)) ∧ IsS87 w' w' g_ r1 r2 r3 ∧ Below w0.heap.size w0 w' ∧ Below w.heap.size w w' ∧ w.heap.size ≤ g_ := by
 have hu87 := Try.underlying87; have HR0 := A_ hr0; have HC0 := A_ hc0; clear hr0 hc0; have n_ := A_ (Kd.C_below HR0.out hB); clear HR0; have HR0 := n_; clear n_; have HB0 := A_ hB; clear hB; have HB := A_ (Below.refl w.heap.size w); have H : (ice_gameOf.l0 k l0 (l0.length : Int) 0 l0 ([] : List Int) 1) = some (r1, r2, r3) := h; clear h; have H' := A_ H; clear H
 go_enter Try.func53, Try.ntmps53
 go_wp2_with (first | ((with_reducible refine gate_dst (N := 8) rfl ?_); refine bxW 8 (cs := #[.slice A0 l0.length c0, .slice none 0 0, .int .i64 1]) (t := 87) ?_; intro gb101 hg w2 hbox hb; have n0_ := A_ (below_step (bW0 HB.out) hb); have n1_ := A_ (hbox); have n2_ := A_ ((szG hg (bW0 HB.out))); have n3_ := A_ ((szG hg (bW0 HB.out))); clear HB; have HB := n0_; have BK101 := n1_; have GW101 := n2_; have GE101 := n3_; clear n0_ n1_ n2_ n3_; clear hb hbox hg))
 go_loopg [11] k (fun kq v11 w' => ∃ (x11_1 : Int) (x102001_1 : List Int) (x102002_1 : Int) (u102001 : Value), v11 = .int .i64 x11_1 ∧ Aside0 (ice_gameOf.l0 kq l0 (l0.length : Int) x11_1 l0 x102001_1 x102002_1 = some (r1, r2, r3)) ∧ Aside0 (kq ≤ k) ∧ Aside0 (Kd.R (Kd.int .i64) 3 w' w.heap.size (fun _ => True) u102001 x102001_1) ∧ Aside0 (w'.heap[gb101]? = some (.cells #[(.slice A0 l0.length c0), u102001, .int .i64 x102002_1] 87 (0, 0))) ∧ Aside0 (Below w.heap.size w w'))
 case atStart => exact ⟨(0), (([] : List Int)), (1), (.slice none 0 0), eS, H', ⟨Nat.le_refl _⟩, ⟨by first | exact Kd.R_nil _ _ _ _ _ | exact Kd.N_nil _ _ _ _ _ | exact Kd.V_nil _ _ _ _ _ | exact Kd.Q_nil _ _ _ _ _ | exact Kd.S_nil _ _ _ _ _⟩, ⟨bkU BK101⟩, ⟨by repeat (first | (with_reducible first | exact HB.out | apply below_alloc | apply pw_below_drewN | apply below_drew1 | refine below_set ?_ GE101.out) | exact HB.out)⟩⟩
 case round =>
  clear H'
  try clear p2
  obtain ⟨x11_1, x102001_1, x102002_1, u102001, rfl, HA, HK1, HO_102001, BK101, HB⟩ := hrel
  cases gk with
  | zero => exact absurd HA.out (by simp [ice_gameOf.l0])
  | succ k1 =>
   have H := HA.out; clear HA; simp only [ice_gameOf.l0] at H; by_cases c3 : x11_1 < (l0.length : Int); rotate_left
   ·rw [if_neg c3] at H
    have c3b0 : decide (x11_1 < (l0.length : Int)) = false := decide_eq_false c3; clear c3; simp only [Option.some.injEq, Prod.mk.injEq] at H; obtain ⟨rfl, rfl, rfl⟩ := H
    go_wp2
    go_ret
    obtain ⟨Az1, cz1, ez1⟩ := Kd.R_slice HO_102001.out
    (first | subst ez1 | cases ez1)
    refine ⟨_, rfl, ⟨_, _, _, _, by exact bkU BK101, trivial, ⟨Kd.C_below HR0.out (bW1 HB.out GE101.out), HC0.out⟩, ⟨by (with_reducible repeat (first | refine Kd.C_alloc ?_ _ | refine Kd.C_drewN ?_ _ | refine Kd.C_drew ?_)); exact (Kd.R_reads' HO_102001.out).2.2, (Kd.R_reads' HO_102001.out).2.1⟩⟩, below_step HB0.out (bW1 HB.out GE101.out), by repeat (first | (with_reducible first | exact HB.out | apply below_alloc | apply pw_below_drewN | apply below_drew1 | refine below_set ?_ GE101.out) | exact HB.out), GE101.out⟩
   rw [if_pos c3] at H; have c3b0 : decide (x11_1 < (l0.length : Int)) = true := decide_eq_true c3; clear c3; by_cases c4 : 0 ≤ x11_1; rotate_left
   ·rw [if_neg c4] at H
    exact absurd H (by simp)
   rw [if_pos c4] at H; have c4b0 : decide (0 ≤ x11_1) = true := decide_eq_true c4; clear c4; by_cases c5 : x11_1 < (l0.length : Int); rotate_left
   ·rw [if_neg c5] at H
    exact absurd H (by simp)
   rw [if_pos c5] at H; have c5b0 : decide (x11_1 < (l0.length : Int)) = true := decide_eq_true c5; clear c5; by_cases c6 : x102001_1.length < 17592186044416; rotate_left
   ·rw [if_neg c6] at H
    exact absurd H (by simp)
   rw [if_pos c6] at H; have LMc6 := A_ c6; clear c6; obtain ⟨y103, hy103⟩ : ∃ y_ : List Int, y_ = (x102001_1 ++ [x102002_1]) := ⟨_, rfl⟩
   replace H : (ice_gameOf.l0 k1 l0 (l0.length : Int) (wrap64 (x11_1 + 1)) l0 y103 (wrap64 (x102002_1 * (rd l0 x11_1)))) = some (r1, r2, r3) := by first | (rw [hy103]; with_reducible exact H) | (have H2_ := (Option.bind_some _ _).symm.trans H; rw [hy103]; with_reducible exact H2_) | (have H2_ := (Option.bind_some _ _).symm.trans H; with_reducible exact H2_) | with_reducible exact H | (rw [hy103]; exact H) | exact H
   have Ny103 := A_ hy103; clear hy103; have H' := A_ H; clear H; have p102 : 0 ≤ (x11_1 : Int) := oD; have q102 : x11_1 < (l0.length : Int) := oD; obtain ⟨ad102, e102, hx102_0⟩ := Kd.at_int HR0.out x11_1 p102 q102
   cases e102
   replace hx102_0 := pw_cell_below HB.out hx102_0; replace p102 := eq_true p102; replace q102 := eq_true q102
   try go_wp2
   have n0_ := A_ (Kd.R_drew HO_102001.out); have n1_ := A_ (blk_drew BK101.out); have n2_ := A_ (below_drew1 HB.out); clear HO_102001 BK101 HB; have HO_102001 := n0_; have BK101 := n1_; have HB := n2_; clear n0_ n1_ n2_
   refine start_ (n := 14) (S := fun w' => w'.cell? ⟨gb101, 0, none⟩ = some (.slice (some ad102) l0.length c0) ∧ w'.cell? ⟨gb101, 1, none⟩ = some (u102001) ∧ w'.cell? ⟨gb101, 2, none⟩ = some (.int .i64 x102002_1)) (ds := [13]) (mkB 14 0) (by kernel_rfl) rfl rfl ⟨(blk_cell BK101.out 0).trans rfl, (blk_cell BK101.out 1).trans rfl, (blk_cell BK101.out 2).trans rfl⟩ (fun hHeld => ?_); refine with_tabW ice_gameOf.tab5 ice_gameOf.bits5 (fun HT_ HW_ => ?_)
   generalize wr.drew = w7 at HO_102001 BK101 HB hHeld ⊢; refine pr_ 0 (some 15) (mkB 14 1) HT_ ?_; refine pr_ 1 (some 16) (mkB 14 3) HT_ ?_; refine pr_ 2 (some 17) (mkB 14 7) HT_ ?_; refine pr_ 3 (some 18) (mkB 14 15) HT_ ?_; refine pr_ 5 (some 20) (mkB 14 47) HT_ ?_; refine pr_ 6 (some 21) (mkB 14 111) HT_ ?_; refine pr_ 7 (some 22) (mkB 14 239) HT_ ?_
   refine take_ (i := 4) (N := some 19) (v := ?_) (a' := ?_) (mkB 14 255) rfl rfl (take_ofW HT_.out HW_.out (by kernel_rfl)) (fun _ _ _ h => h) (Or.inl ⟨by rfl, ?_⟩) hHeld ?_ ?_
   rotate_left
   ·rintro w' ⟨s0, s1, s2⟩
    go_simp
    with_reducible rfl
   rotate_left
   ·simp only [Act.put, List.setIfInBounds_toArray, List.set_cons_zero, List.set_cons_succ, i64_w, i32_w]
    rfl
   refine take_ (i := 8) (N := some 23) (v := ?_) (a' := ?_) (mkB 14 511) rfl rfl (take_ofW HT_.out HW_.out (by kernel_rfl)) (fun _ _ _ h => h) (Or.inl ⟨by rfl, ?_⟩) hHeld ?_ ?_
   rotate_left
   ·rintro w' ⟨s0, s1, s2⟩
    go_simp
    with_reducible rfl
   rotate_left
   ·simp only [Act.put, List.setIfInBounds_toArray, List.set_cons_zero, List.set_cons_succ, i64_w, i32_w]
    rfl
   refine one_ (i := 9) (N := some 24) (mkB 14 1023) rfl rfl (one_of HT_.out (by kernel_rfl)) (by decide) (fun K hK => ?_)
   refine value_ (w1 := ?_) (v := ?_) (by rfl) rfl ?_ ?_
   rotate_left 2
   ·go_simp
    constructor
    ·rfl
    ·rfl
   refine hK.out _ _ ⟨(blk_cell (blk_alloc BK101.out _) 0).trans rfl, (blk_cell (blk_alloc BK101.out _) 1).trans rfl, (blk_cell (blk_alloc BK101.out _) 2).trans rfl⟩ (fun hHeld => ?_)
   clear hK K
   refine norm_ (a' := ?_) ?_ ?_
   rotate_left
   ·show Act.put _ (some 24) _ = _
    simp only [Act.put, List.setIfInBounds_toArray, List.set_cons_zero, List.set_cons_succ, i64_w, i32_w]
    rfl
   refine one_ (i := 10) (N := some 25) (mkB 14 2047) rfl rfl (one_of HT_.out (by kernel_rfl)) (by decide) (fun K hK => ?_)
   refine Kd.R_append_step (Kd.int .i64) (w0 := w) w.heap.size (by rfl) (.tmp 19) (.tmp 24) 22 3 (.int .i64 0) 8 rfl Try.underlying22 info3 rfl (by decide) (by omega) u102001 x102001_1 x102002_1 [.int .i64 x102002_1] (fun _ => True) (fun _ => False) rfl rfl ?aP (fun _ hk => hk.elim) ?aF ?aO ?aB ?aS ?aL ?_
   (case aP => exact rfl)
   (case aB => exact (bW1 HB.out GE101.out))
   (case aF => exact (fun _ _ => trivial))
   (case aO => exact (rU HO_102001.out))
   (case aS => exact (below_size (bW1 HB.out GE101.out)))
   (case aL => have := LMc6.out; omega)
   intro v104 w8 ho hb hg hat
   rw [← Ny103.out] at ho
   have n0_ := A_ (blk_grown (g := gb101) (o := .cells #[.slice (some ad102) l0.length c0, u102001, .int .i64 x102002_1] 87 (0, 0)) (bkU BK101) hg (Kd.R_ne HO_102001.out BK101.out (by decide)))
   have n1_ := A_ (hb); have n2_ := A_ (ho); clear BK101 HB HO_102001; have BK101 := n0_; have HB := n1_; have HO105 := n2_; clear n0_ n1_ n2_ ho hb hg hat; obtain ⟨Ao9, co9, eo9⟩ := Kd.R_slice HO105.out
   (first | subst eo9 | (injection eo9 with f1_ f2_ f3_; have f4_ := f1_.symm; have f5_ := f3_.symm; clear f1_ f2_ f3_; subst f4_; subst f5_))
   refine hK.out _ _ ⟨(blk_cell BK101.out 0).trans rfl, (blk_cell BK101.out 1).trans rfl, (blk_cell BK101.out 2).trans rfl⟩ (fun hHeld => ?_)
   clear hK K
   refine norm_ (a' := ?_) ?_ ?_
   rotate_left
   ·show Act.put _ (some 25) _ = _
    simp only [Act.put, List.setIfInBounds_toArray, List.set_cons_zero, List.set_cons_succ, i64_w, i32_w]
    rfl
   refine pr_ 11 (some 26) (mkB 14 4095) HT_ ?_; refine pr_ 12 (some 27) (mkB 14 8191) HT_ ?_
   refine last_ (i := 13) (N := none) (mkB 14 16383) rfl rfl (one_of HT_.out (by kernel_rfl)) (by decide) (fun K hK => ?_)
   have hs10 : w8.cell? ⟨gb101, 1, none⟩ = some (u102001) := (blk_cell BK101.out 1).trans rfl; have hfs10 := blk_frozen BK101.out 1
   refine skip_ (w1 := ?_) (by rfl) rfl ?_ ?_
   rotate_left
   ·go_simp
    rfl
   refine hK.out _ _ ?_
   clear hK K
   refine done_ (done_of HT_.out (by kernel_rfl)) ?_
   have hcz11_0 : w8.cell? ⟨gb101, 0, none⟩ = some (.slice (some ad102) l0.length c0) := (blk_cell BK101.out 0).trans rfl; have hcz11_1 : w8.cell? ⟨gb101, 1, none⟩ = some (u102001) := (blk_cell BK101.out 1).trans rfl; have hcz11_2 : w8.cell? ⟨gb101, 2, none⟩ = some (.int .i64 x102002_1) := (blk_cell BK101.out 2).trans rfl; have hfz11_0 := blk_frozen BK101.out 0; have hfz11_1 := blk_frozen BK101.out 1; have hfz11_2 := blk_frozen BK101.out 2
   try go_wp2
   go_roundg k1
   case measure => have := HK1.out; omega
   case rel => exact ⟨(wrap64 (x11_1 + 1)), (y103), (wrap64 (x102002_1 * (rd l0 x11_1))), (.slice Ao9 y103.length co9), eS, H', ⟨by have := HK1.out; omega⟩, ⟨by (with_reducible repeat (first | apply Kd.R_alloc | apply Kd.R_drewN | apply Kd.R_drew)); exact Kd.R_mono (Kd.R_far (p := ⟨gb101, 2, none⟩) (Kd.R_far (p := ⟨gb101, 1, none⟩) (Kd.R_types HO105.out BK101.out (by decide)) (fun _ hk => hk.2) (.slice Ao9 y103.length co9)) (fun _ hk => hk.2) (.int .i64 (wrap64 (x102002_1 * (rd l0 x11_1))))) (fun _ hk => trivial)⟩, ⟨by (with_reducible repeat (first | refine blk_drewN ?_ _ | refine blk_drew ?_ | refine blk_alloc ?_ _)); refine blk_put (cs := #[.slice (some ad102) l0.length c0, .slice Ao9 y103.length co9, .int .i64 x102002_1]) ?_ 2 _ rfl; (with_reducible repeat (first | refine blk_drewN ?_ _ | refine blk_drew ?_ | refine blk_alloc ?_ _)); refine blk_put (cs := #[.slice (some ad102) l0.length c0, u102001, .int .i64 x102002_1]) ?_ 1 _ rfl; exact bkU BK101⟩, ⟨by repeat (first | (with_reducible first | exact HB.out | apply below_alloc | apply pw_below_drewN | apply below_drew1 | refine below_set ?_ GE101.out) | exact HB.out)⟩⟩
theorem slices_Repeat_bool_bool.mul1 {a : Int} (h : 1 ≤ a) (h2 : a < 1000000) : bits_Mul.f 1 a = some (0, a) := by
 have e0 : ∀ z : Int, 0 ≤ z → z < 18446744073709551616 → IntKind.u64.wrap z = z := fun z h1 h2 => by
  unfold IntKind.wrap
  simp only [IntKind.signed, IntKind.bits]
  simp
  omega
 have e1 : a / 4294967296 = 0 := by omega
 have ed : ((1 : Int) / 4294967296) = 0 := by decide
 have e5 : IntKind.u64.wrap 0 = 0 := e0 0 (by omega) (by omega)
 have e6 : IntKind.u64.wrap a = a := e0 a (by omega) (by omega)
 have e4 : IntKind.u64.wrap (Go.bits .and .u64 1 4294967295 * Go.bits .and .u64 a 4294967295) / 4294967296 = 0 := by
  have b1 : Go.bits .and .u64 1 4294967295 = 1 := by decide
  have b2 : Go.bits .and .u64 a 4294967295 = a := by
   obtain ⟨m, rfl⟩ : ∃ m : Nat, a = m := ⟨a.toNat, by omega⟩
   have e : (BitVec.ofNat 64 m &&& 4294967295#64).toNat = m := by
    rw [BitVec.toNat_and, BitVec.toNat_ofNat, BitVec.toNat_ofNat, Nat.mod_eq_of_lt (by omega), show 4294967295 % 2 ^ 64 = 2 ^ 32 - 1 by decide, Nat.and_two_pow_sub_one_eq_mod, Nat.mod_eq_of_lt (by omega)]
   simp only [Go.bits, IntKind.wrap, IntKind.signed, IntKind.bits]
   simp
   have e2 : ((BitVec.ofNat 64 m &&& 4294967295#64).toNat : Int) % 18446744073709551616 = (m : Int) := by rw [e]; omega
   exact e2
  rw [b1, b2, Int.one_mul, e6]; omega
 have e7 : (IntKind.u64.wrap (Go.bits .and .u64 0 4294967295 + IntKind.u64.wrap 0)) / 4294967296 = 0 := by decide
 unfold bits_Mul.f bits_Mul64.f
 simp only [e1, ed, Int.zero_mul, Int.mul_zero, e5, e4, Int.add_zero, Int.one_mul, e6, Option.bind_some]
 rfl
def slices_Repeat_bool_bool.f (l0 : List Bool) (a1 : Int) : Option (List Bool) := if l0.length = 1 then (if 1 ≤ a1 then (if a1 < 1000000 then (some (List.replicate a1.toNat (rdOf false l0 0))) else (none)) else (none)) else (none)
theorem slices_Repeat_bool_bool.to_R {w : World} {base g cap : Nat} {cur : Array Value} {n : Nat} {x : Bool} (hb : base ≤ g) (hg : w.heap[g]? = some (.cells cur 4 (0, 0))) (hn : n ≤ cap) (hc : cap ≤ maxLen) (hs : cur.size = cap) (hx : ∀ i, i < n → cur[i]? = some (Value.bool x)) :
  Kd.R Kd.bool 4 w base (fun _ => True) (.slice (some ⟨g, 0, none⟩) n cap) (List.replicate n x) := by
 have ho : w.ownsRow base 4 1 (.slice (some ⟨g, 0, none⟩) n cap) (List.replicate n x).length ((List.replicate n x).map fun z => Value.bool z) := by
  refine ⟨by simp, Or.inr ⟨g, cap, cur, by simp, hb, hg, by simpa using hn, hc, by simpa using hs, ?_⟩⟩
  refine List.ext_getElem? fun i => ?_
  simp only [List.length_replicate, Nat.mul_one, List.map_replicate, List.getElem?_take, List.getElem?_replicate]; by_cases h : i < n
  ·rw [if_pos h, if_pos h]
   have := hx i h
   rwa [← Array.getElem?_toList] at this
  ·rw [if_neg h, if_neg h]
 exact Kd.R_of_own (enc := fun z => Value.bool z) (h1 := fun _ => rfl) ho (fun _ _ => trivial)
theorem slices_Repeat_bool_bool.below_setRow {B g : Nat} {w0 w : World} (hb : Below B w0 w) (hBg : B ≤ g) (cs : Array Value) : Below B w0 (w.setRow g cs) :=
 hb.trans ⟨rfl, rfl, rfl, by simp [World.setRow], fun k hk => setRow_other w g k cs (by omega)⟩
theorem slices_Repeat_bool_bool.add0 (g i : Nat) : (Addr.add ⟨g, 0, none⟩ i) = ⟨g, i, none⟩ := by
 unfold Addr.add
 by_cases h : i = 0 <;> simp [h]
theorem slices_Repeat_bool_bool.ti : ∃ i, Try.prog.info? 4 = some i ∧ i.size = 1 := by
 have h := info4
 cases q : Try.prog.info? 4 with
 | none => rw [q] at h; simp at h
 | some i => rw [q] at h; simp at h; exact ⟨i, rfl, h.2.1⟩
theorem slices_Repeat_bool_bool.of_R {w : World} {base n : Nat} {ok : Nat → Prop} {v : Value} {z : Bool} (h : Kd.R Kd.bool 4 w base ok v (List.replicate n z)) (hn : 0 < n) :
  ∃ g cap cur, v = .slice (some ⟨g, 0, none⟩) n cap ∧ base ≤ g ∧ w.heap[g]? = some (.cells cur 4 (0, 0)) ∧ n ≤ cap ∧ cap ≤ maxLen ∧ cur.size = cap := by
 have ho := Kd.own_of_R (enc := fun z => Value.bool z) (h1 := fun _ => rfl) h
 obtain ⟨hlen, hrow⟩ := ho
 rcases hrow with ⟨_, hz⟩ | ⟨g, cap, cur, hv, hbg, hg, hnc, hcm, hcs, htk⟩
 ·simp at hz; omega
 ·simp only [List.length_replicate, Nat.mul_one] at hv hnc hcs
  exact ⟨g, cap, cur, hv, hbg, hg, hnc, hcm, hcs⟩
theorem slices_Repeat_bool_bool.copy {w : World} {g o n m cap c : Nat} {ad : Addr} {cur : Array Value} {x : Bool} (hg : w.heap[g]? = some (.cells cur 4 (0, 0))) (ho : o + Nat.min m n ≤ cur.size) (hx : ∀ i, i < Nat.min m n → w.cell? (ad.add i) = some (Value.bool x)) :
  (Builtin.copy_ #[56, 56] 3 #[.slice (some ⟨g, o, none⟩) n cap, .slice (some ad) m c]).run Try.prog w = .ok (.int .i64 ((Nat.min m n : Nat) : Int)) (w.setRow g (cur.toList.take o ++ List.replicate (Nat.min m n) (Value.bool x) ++ cur.toList.drop (o + Nat.min m n)).toArray) := by
 have := run_copy_row (P := Try.prog) w 56 56 3 4 g o n cap ad m c cur 4 (List.replicate (Nat.min m n) (Value.bool x)) Try.underlying56 (by kernel_rfl) hg (by simp) (fun j v hj => by
  rw [List.getElem?_replicate] at hj
  split at hj
  ·rename_i h; obtain rfl := Option.some.inj hj; exact hx j h
  ·cases hj) (by simpa using ho) (fun v hv => by rw [(List.mem_replicate.1 hv).2]; rfl)
 rw [this]
 simp [goInt]
def slices_Repeat_bool_bool.T9 : Bool × List (List Nat × List Nat) := (true, [([], []), ([], []), ([], []), ([1, 2], [1, 2]), ([], []), ([], []), ([4, 5], [4, 5]), ([3, 6], [3, 6]), ([0, 7], [0, 7]), ([8, 7, 0, 1, 2, 3, 4, 5, 6, 7, 8], [0, 2, 5, 8])])
def slices_Repeat_bool_bool.B9 : List Nat := [0, 0, 0, 6, 0, 0, 48, 126, 255, 511]
theorem slices_Repeat_bool_bool.tab9 : rtab .any (opsOf Try.f82 9) = slices_Repeat_bool_bool.T9 := by kernel_rfl
theorem slices_Repeat_bool_bool.bits9 : waitsOk slices_Repeat_bool_bool.T9.2 slices_Repeat_bool_bool.B9 = true := by kernel_rfl
set_option maxHeartbeats 8000000 in
set_option maxRecDepth 100000 in
theorem slices_Repeat_bool_bool.calls (A0 : Option Addr) (c0 : Nat) (l0 : List Bool) (a1 : Int) (r : List Bool) (w : World) (hr0 : Kd.C Kd.bool w A0 l0.length l0) (hc0 : l0.length ≤ c0) (h : slices_Repeat_bool_bool.f l0 a1 = some r) :
  Calls Try.prog 82 #[.slice A0 l0.length c0, .int .i64 a1] w fun e w' => ∃ v0_ : Value, e = .returned (v0_) ∧ Kd.R Kd.bool 4 w' w.heap.size (fun _ => True) v0_ r ∧ Below w.heap.size w w' := by
 unfold slices_Repeat_bool_bool.f at h
 by_cases h1 : l0.length = 1; rotate_left
 ·rw [if_neg h1] at h; cases h
 rw [if_pos h1] at h; by_cases h2 : 1 ≤ a1; rotate_left
 ·rw [if_neg h2] at h; cases h
 rw [if_pos h2] at h; by_cases h3 : a1 < 1000000; rotate_left
 ·rw [if_neg h3] at h; cases h
 rw [if_pos h3] at h; obtain rfl := Option.some.inj h; clear h
 obtain ⟨x, rfl⟩ : ∃ x, l0 = [x] := by
  match l0, h1 with
  | [x], _ => exact ⟨x, rfl⟩
 obtain ⟨ad, eA, hx⟩ := Kd.at_bool hr0 0 (by decide) (by simp)
 subst eA; have hx : w.cell? (ad.add 0) = some (Value.bool x) := hx; clear hr0 h1
 have hm := fun W => bits_Mul.calls 1 a1 0 a1 W (slices_Repeat_bool_bool.mul1 h2 h3)
 have u1 : IntKind.u64.wrap 1 = 1 := by decide
 have u2 : IntKind.u64.wrap a1 = a1 := by
  unfold IntKind.wrap
  simp only [IntKind.signed, IntKind.bits]
  simp
  omega
 have i1 : IntKind.i64.wrap a1 = a1 := by rw [i64_w]; unfold wrap64; omega
 have d1 : decide (a1 < 0) = false := decide_eq_false (by omega)
 have d2 : decide (a1 > 9223372036854775807) = false := decide_eq_false (by omega)
 have d3 : decide (9223372036854775807 < a1) = false := decide_eq_false (by omega)
 have p1 : decide (0 ≤ a1) = true := decide_eq_true (by omega)
 have p2 : decide (a1 ≤ 9223372036854775807) = true := decide_eq_true (by omega)
 have HB := A_ (Below.refl w.heap.size w); have HX := A_ hx
 go_enter Try.func82, Try.ntmps82
 go_wp2_with (first | (go_at_call 80; refine (hm _).mono ?_; rintro e w1 ⟨rfl, ⟨nd, rfl⟩⟩; have n0_ := A_ (pw_below_drewN HB.out nd); clear HB; have HB := n0_; clear n0_) | ((with_reducible refine gate_dst (N := 30) rfl ?_); refine Kd.R_make Kd.bool _ 4 rfl (N := 30) rfl 56 _ _ rfl a1 rfl rfl Try.underlying56 (.bool false) 1 info4 rfl (by decide) (by omega) false (ok := fun _ => True) (okp := fun _ => True) rfl (fun _ hk => hk) trivial (by omega) (by omega) (Below.refl _ _) (Nat.le_refl _) ?_; intro vm w6 ho7 hb hg_ hnew_; clear hg_ hnew_; (obtain ⟨g, cap, cur, rfl, hbg, hg, hnc, hcm, hcs⟩ := slices_Repeat_bool_bool.of_R ho7 (by omega)); clear ho7; have HB2 := A_ (below_step HB.out hb); (have hx6 : ∀ i, i < Nat.min 1 a1.toNat → w6.cell? (ad.add i) = some (Value.bool x) := (fun i hi => by obtain rfl : i = 0 := (by have h_ : Nat.min 1 a1.toNat ≤ 1 := Nat.min_le_left 1 a1.toNat; omega); exact pw_cell_below HB2.out HX.out)); (have hcp := slices_Repeat_bool_bool.copy (c := c0) (n := a1.toNat) (cap := cap) (o := 0) hg (by have h_ : Nat.min 1 a1.toNat ≤ a1.toNat := Nat.min_le_right 1 a1.toNat; omega) hx6)))
 clear hm u1 u2 i1 d1 d2 d3 p1 p2
 go_loopg [8] a1.toNat (fun kq v8 w' => ∃ (j : Nat) (cu : Array Value), v8 = .int .i64 (j : Int) ∧ Aside0 (a1.toNat ≤ j + kq) ∧ Aside0 (1 ≤ j ∧ j ≤ a1.toNat) ∧ Aside0 (cu.size = cap ∧ ∀ i, i < j → cu[i]? = some (Value.bool x)) ∧ Aside0 (w'.heap[g]? = some (.cells cu 4 (0, 0))) ∧ Aside0 (Below w.heap.size w w'))
 case atStart =>
  have m1 : Nat.min 1 a1.toNat = 1 := Nat.min_eq_left (by omega)
  refine ⟨1, _, ?_, ⟨by omega⟩, ⟨by omega⟩, ⟨?_, ?_⟩, ⟨setRow_heap w6 g cur _ 4 (0, 0) hg⟩, ⟨slices_Repeat_bool_bool.below_setRow HB2.out hbg _⟩⟩
  ·rw [m1]
  ·simp [m1] <;> omega
  ·intro i hi
   obtain rfl : i = 0 := by omega
   simp [m1]
 case round =>
  obtain ⟨j, cu, rfl, H1, H2, H3, H4, HB3⟩ := hrel; clear hcp hx6 hg; have h1' := H1.out; have h2' := H2.out; by_cases c : j < a1.toNat; rotate_left
  ·have cb : decide ((j : Int) < a1) = false := decide_eq_false (by omega)
   have cb2 : decide ((j : Int) < (a1.toNat : Int)) = false := decide_eq_false (by omega)
   have cb3 : decide (j < a1.toNat) = false := decide_eq_false (by omega)
   have cb4 : decide ((j : Int) < max a1 0) = false := decide_eq_false (by omega)
   have HC := A_ c; clear h1' h2' c
   go_wp2
   go_ret
   obtain ⟨h3a, h3b⟩ := H3.out; have h2' := H2.out; have c := HC.out
   exact ⟨_, rfl, slices_Repeat_bool_bool.to_R hbg H4.out hnc hcm h3a (fun i hi => h3b i (by omega)), HB3.out⟩
  ·have cb : decide ((j : Int) < a1) = true := decide_eq_true (by omega)
   have cb2 : decide ((j : Int) < (a1.toNat : Int)) = true := decide_eq_true (by omega)
   have cb3 : decide (j < a1.toNat) = true := decide_eq_true (by omega)
   have cb4 : decide ((j : Int) < max a1 0) = true := decide_eq_true (by omega)
   cases gk with
   | zero => omega
   | succ k1 =>
    obtain ⟨ti, hti, htz⟩ := slices_Repeat_bool_bool.ti
    have ncap : ¬ cap = (j : Int).toNat := by omega
    have nj : ¬ j = 0 := by omega
    have cut1 : ∀ W : World, (Instr.slice 56 (.slice (some ⟨g, 0, none⟩) a1.toNat cap) (some (.int .i64 (j : Int))) none none).run Try.prog W = .ok (.slice (some ⟨g, j, none⟩) (a1.toNat - j) (cap - j)) W := fun W => by
     have h_ := cut_from (P := Try.prog) 56 4 .i64 Try.underlying56 hti 1 htz (some ⟨g, 0, none⟩) a1.toNat cap (j : Int) (by omega) (by omega) W
     rw [if_neg ncap] at h_
     simpa [Addr.add, nj] using h_
    have cut2 := fun W => cut_to (P := Try.prog) 56 4 .i64 Try.underlying56 hti (some ⟨g, 0, none⟩) a1.toNat cap (j : Int) (by omega) (by omega) (by omega) W
    simp only [Int.toNat_natCast] at cut2; obtain ⟨m, hmm⟩ : ∃ m : Nat, m = Nat.min j (a1.toNat - j) := ⟨_, rfl⟩
    have mb : 1 ≤ m ∧ m ≤ j ∧ j + m ≤ a1.toNat := by
     have l1 : m ≤ j := by rw [hmm]; exact Nat.min_le_left _ _
     have l2 : m ≤ a1.toNat - j := by rw [hmm]; exact Nat.min_le_right _ _
     have l3 : 1 ≤ m := by rw [hmm]; exact Nat.le_min.2 ⟨by omega, by omega⟩
     omega
    have hcp2 := slices_Repeat_bool_bool.copy (w := wr.drew) (o := j) (n := a1.toNat - j) (m := j) (cap := cap - j) (c := cap) (ad := ⟨g, 0, none⟩) (x := x) (blk_drew H4.out) (by rw [← hmm, H3.out.1]; omega) (fun i hi => by
     rw [slices_Repeat_bool_bool.add0]; rw [cell_of_row wr.drew g _ cu 4 (0, 0) (blk_drew H4.out)]
     exact H3.out.2 i (by rw [← hmm] at hi; omega))
    rw [← hmm] at hcp2
    have hadd : IntKind.i64.wrap ((j : Int) + (m : Int)) = ((j + m : Nat) : Int) := by rw [i64_w]; unfold wrap64; omega
    have Hmb := A_ mb; have hz : cu.size = cap := H3.out.1; have Hz := A_ hz; clear h1' h2' c mb hmm ncap nj hz
    go_wp2
    refine start_ (n := 10) (S := fun w' => True) (ds := [7]) (mkB 10 0) (by kernel_rfl) rfl rfl trivial (fun hHeld => ?_); refine with_tabW slices_Repeat_bool_bool.tab9 slices_Repeat_bool_bool.bits9 (fun HT_ HW_ => ?_)
    refine pr_ 0 (some 38) (mkB 10 1) HT_ ?_; refine pr_ 1 (some 39) (mkB 10 3) HT_ ?_; refine pr_ 2 (some 40) (mkB 10 7) HT_ ?_; refine pr_ 3 (some 41) (mkB 10 15) HT_ ?_; refine pr_ 4 (some 42) (mkB 10 31) HT_ ?_; refine pr_ 5 (some 43) (mkB 10 63) HT_ ?_; refine pr_ 6 (some 44) (mkB 10 127) HT_ ?_
    refine last_ (i := 7) (N := some 45) (mkB 10 255) rfl rfl (one_of HT_.out (by kernel_rfl)) (by decide) (fun K hK => ?_)
    refine value_ (w1 := ?_) (v := ?_) (by rfl) rfl ?_ ?_
    rotate_left 2
    ·go_simp
     constructor
     ·rfl
     ·rfl
    refine hK.out _ _ ?_
    clear hK K
    refine norm_ (a' := ?_) ?_ ?_
    rotate_left
    ·show Act.put _ (some 45) _ = _
     simp only [Act.put, List.setIfInBounds_toArray, List.set_cons_zero, List.set_cons_succ, i64_w, i32_w]
     rfl
    refine pr_ 8 (some 46) (mkB 10 511) HT_ ?_; refine pr_ 9 (some 8) (mkB 10 1023) HT_ ?_
    refine done_ (done_of HT_.out (by kernel_rfl)) ?_
    try go_wp2
    go_roundg k1
    case measure => have h2_ := H1.out; have h3_ := Hmb.out; omega
    case rel =>
     have mb := Hmb.out; have h2' := H2.out; have h1' := H1.out; have hz := Hz.out
     refine ⟨j + m, _, by first | rfl | (rw [← hadd]; rfl) | simp, ⟨by omega⟩, ⟨by omega⟩, ⟨?_, ?_⟩, ⟨setRow_heap wr.drew g cu _ 4 (0, 0) (blk_drew H4.out)⟩, ⟨slices_Repeat_bool_bool.below_setRow (below_drew1 HB3.out) hbg _⟩⟩
     ·simp only [List.size_toArray, List.length_append, List.length_take, List.length_replicate, List.length_drop, Array.length_toList]
      omega
     ·intro i hi
      simp only [List.getElem?_toArray, List.append_assoc]; by_cases q : i < j
      ·rw [List.getElem?_append_left (by simp only [List.length_take, Array.length_toList]; omega), List.getElem?_take_of_lt q, Array.getElem?_toList]
       exact H3.out.2 i q
      ·rw [List.getElem?_append_right (by simp only [List.length_take, Array.length_toList]; omega), List.getElem?_append_left (by simp only [List.length_take, List.length_replicate, Array.length_toList]; omega)]
       rw [List.getElem?_replicate, if_pos (by simp only [List.length_take, Array.length_toList]; omega)]
def ice_game_all.f (s0_0 : List Int) (s0_1 : List Int) (s0_2 : Int) : Option (List Bool × Int) := (slices_Repeat_bool_bool.f (([true] : List Bool)) s0_2).bind fun t104 => (some (t104, s0_2))
set_option maxHeartbeats 8000000 in
set_option maxRecDepth 100000 in
theorem ice_game_all.calls (g : Nat) (s0_0 : List Int) (s0_1 : List Int) (s0_2 : Int) (r1 : List Bool) (r2 : Int) (w0 w : World) (hI : IsS87 w0 w g s0_0 s0_1 s0_2) (hB : Below w0.heap.size w0 w) (h : ice_game_all.f s0_0 s0_1 s0_2 = some (r1, r2)) :
  Calls Try.prog 56 #[.pointer (some ⟨g, 0, none⟩)] w fun e w' => ∃ v0_ : Value, e = .returned (v0_) ∧ Kd.R Kd.bool 4 w' w.heap.size (fun _ => True) v0_ r1 ∧ IsS87 w0 w' g s0_0 s0_1 r2 ∧ Below w0.heap.size w0 w' ∧ KeepBut w w' g none := by
 have HI0 := A_ hI
 have HK := A_ (KeepBut.refl w g none)
 have HL := A_ hB.size
 clear hI
 have HW0 := A_ hB.size
 have HB := A_ hB
 clear hB
 have H : ((slices_Repeat_bool_bool.f (([true] : List Bool)) s0_2).bind fun t104 => (some (t104, s0_2))) = some (r1, r2) := h
 clear h
 obtain ⟨y101, hy101⟩ : ∃ y_ : List Bool, y_ = (([true] : List Bool)) := ⟨_, rfl⟩
 replace H : ((slices_Repeat_bool_bool.f y101 s0_2).bind fun t104 => (some (t104, s0_2))) = some (r1, r2) := by first | (rw [hy101]; with_reducible exact H) | (have H2_ := (Option.bind_some _ _).symm.trans H; rw [hy101]; with_reducible exact H2_) | (have H2_ := (Option.bind_some _ _).symm.trans H; with_reducible exact H2_) | with_reducible exact H | (rw [hy101]; exact H) | exact H
 have Ny101 := A_ hy101
 clear hy101
 replace H := Option.bind_eq_some_iff.mp H
 obtain ⟨t104, A20, H⟩ := H
 replace H : (some (t104, s0_2)) = some (r1, r2) := H
 have A2 := A_ A20
 clear A20
 simp only [Option.some.injEq, Prod.mk.injEq] at H
 obtain ⟨rfl, rfl⟩ := H
 go_enter Try.func56, Try.ntmps56
 go_wp2_with (first | ((with_reducible refine gate_dst (N := 3) rfl ?_); refine Kd.R_lit Kd.bool _ 4 ?hg (N := 3) ?hd (xs := ([true] : List Bool)) (inner := [.bool true]) (ok := fun _ => True) (okp := fun _ => True) ?hr ?hp (fun _ hk => hk) trivial (Below.refl _ _) (Nat.le_refl _) (by simp) ?_; (case hd => rfl); (case hg => rfl); (case hr => first | (go_simp; done) | (go_simp; rfl)); (case hp => exact (Reps.one (show Kd.M Kd.bool _ _ _ true [.bool true] from rfl) (Reps.none _ _))); intro v102 w3 ho4 hb hg_ hnew_; clear hg_ hnew_; (first | rw [← Ny101.out] at ho4 | (simp only [Int.reduceToNat] at ho4; rw [← Ny101.out] at ho4)); have n0_ := A_ (Kd.R_lower ho4 (keep_size (w := w) (g := g) (row := none) (by repeat (first | (with_reducible first | exact HK.out | apply KeepBut.set_ | apply keep_drewN | apply keep_drew | apply keep_alloc) | exact HK.out)))); have n1_ := A_ (IsS87.below (by repeat (first | (with_reducible first | exact HI0.out | apply IsS87.alloc | apply IsS87.drewN | apply IsS87.drew | apply IsS87.set_2) | exact HI0.out)) hb); have n2_ := A_ (KeepBut.trans (by repeat (first | (with_reducible first | exact HK.out | apply KeepBut.set_ | apply keep_drewN | apply keep_drew | apply keep_alloc) | exact HK.out)) (KeepBut.of_below hb g none) (.inl rfl)); have n3_ := A_ (below_step (by repeat (first | (with_reducible first | exact HB.out | apply below_alloc | apply pw_below_drewN | apply below_drew1 | refine below_set ?_ (IsS87.ge HI0.out)) | exact HB.out)) hb); clear HI0; clear HK; clear HB; have HO103 := n0_; have HI0 := n1_; have HK := n2_; have HB := n3_; clear n0_ n1_ n2_ n3_; clear hb ho4; obtain ⟨ASz5_0, cSz5_0, ASz5_1, cSz5_1, HGz5, hgz5, ⟨HSz5_0, HSLz5_0⟩, ⟨HSz5_1, HSLz5_1⟩⟩ := HI0.out; have hcz5_0 := cellS87_0 HGz5; have hcz5_1 := cellS87_1 HGz5; have hcz5_2 := cellS87_2 HGz5; have hfz5_2 := blk_frozen HGz5 2; clear HGz5 hgz5; obtain ⟨Ao6, co6, eo6⟩ := Kd.R_slice HO103.out; subst eo6) | ((with_reducible refine gate_callee (f := 82) rfl ?_); refine goesW_ (some 8) Try.func82 #[.slice Ao6 y101.length co6, .int .i64 s0_2] ?_; (with_reducible refine (slices_Repeat_bool_bool.calls _ _ y101 s0_2 t104 _ ?side1 ?side2 A2.out).mono ?_); (case side1 => exact cU (Kd.R_reads' HO103.out).2.2); (case side2 => exact (Kd.R_reads' HO103.out).2.1); rintro e w7 ⟨v105, rfl, ho0, hb⟩; refine ⟨_, rfl, ?_⟩; have n0_ := A_ (Kd.R_elder' (rU HO103.out) (Kd.R_base ho0) hb); have n1_ := A_ (Kd.R_lower (Kd.R_new' ho0 (Kd.R_lt (rU HO103.out))) (keep_size (w := w) (g := g) (row := none) (by repeat (first | (with_reducible first | exact HK.out | apply KeepBut.set_ | apply keep_drewN | apply keep_drew | apply keep_alloc) | exact HK.out)))); have n2_ := A_ (IsS87.below (by repeat (first | (with_reducible first | exact HI0.out | apply IsS87.alloc | apply IsS87.drewN | apply IsS87.drew | apply IsS87.set_2) | exact HI0.out)) hb); have n3_ := A_ (KeepBut.trans (by repeat (first | (with_reducible first | exact HK.out | apply KeepBut.set_ | apply keep_drewN | apply keep_drew | apply keep_alloc) | exact HK.out)) (KeepBut.of_below hb g none) (.inl rfl)); have n4_ := A_ (below_step (by repeat (first | (with_reducible first | exact HB.out | apply below_alloc | apply pw_below_drewN | apply below_drew1 | refine below_set ?_ (IsS87.ge HI0.out)) | exact HB.out)) hb); clear HO103; clear HI0; clear HK; clear HB; have HO103 := n0_; have HO106 := n1_; have HI0 := n2_; have HK := n3_; have HB := n4_; clear n0_ n1_ n2_ n3_ n4_; (try clear hb); (try clear ho0)))
 go_ret
 exact ⟨_, by first | rfl | (simp [errW_none, errW_some] <;> rfl) | (simp [*, errW_none, errW_some] <;> rfl), by (with_reducible repeat (first | apply Kd.R_alloc | apply Kd.R_drewN | apply Kd.R_drew)); exact Kd.R_mono HO106.out (fun _ hk => trivial), by repeat (first | (with_reducible first | exact HI0.out | apply IsS87.alloc | apply IsS87.drewN | apply IsS87.drew | apply IsS87.set_2) | exact HI0.out), by repeat (first | (with_reducible first | exact HB.out | apply below_alloc | apply pw_below_drewN | apply below_drew1 | refine below_set ?_ (IsS87.ge HI0.out)) | exact HB.out), by repeat (first | (with_reducible first | exact HK.out | apply KeepBut.set_ | apply keep_drewN | apply keep_drew | apply keep_alloc) | exact HK.out)⟩
def ice_game_digit.f (s0_0 : List Int) (s0_1 : List Int) (s0_2 : Int) (a1 : Int) (a2 : Int) : Option (Int × Int) := if 0 ≤ a2 then (if a2 < (s0_1.length : Int) then (if (rd s0_1 a2) = 0 then (none) else (if a2 < (s0_0.length : Int) then (if (rd s0_0 a2) = 0 then (none) else (some (wrap64 ((Int.tmod (wrap64 (Int.tdiv a1 (rd s0_1 a2))) (rd s0_0 a2)) + 1), s0_2))) else (none))) else (none)) else (none)
set_option maxHeartbeats 8000000 in
set_option maxRecDepth 100000 in
theorem ice_game_digit.calls (g : Nat) (s0_0 : List Int) (s0_1 : List Int) (s0_2 : Int) (a1 : Int) (a2 : Int) (r1 : Int) (r2 : Int) (w0 w : World) (hI : IsS87 w0 w g s0_0 s0_1 s0_2) (hB : Below w0.heap.size w0 w) (h : ice_game_digit.f s0_0 s0_1 s0_2 a1 a2 = some (r1, r2)) :
  Calls Try.prog 83 #[.pointer (some ⟨g, 0, none⟩), .int .i64 a1, .int .i64 a2] w fun e w' => e = .returned (.int .i64 r1) ∧ IsS87 w0 w' g s0_0 s0_1 r2 ∧ Below w0.heap.size w0 w' ∧ KeepBut w w' g none := by
 have HI0 := A_ hI
 have HK := A_ (KeepBut.refl w g none)
 have HL := A_ hB.size
 clear hI
 have HW0 := A_ hB.size
 have HB := A_ hB
 clear hB
 have H : (if 0 ≤ a2 then (if a2 < (s0_1.length : Int) then (if (rd s0_1 a2) = 0 then (none) else (if a2 < (s0_0.length : Int) then (if (rd s0_0 a2) = 0 then (none) else (some (wrap64 ((Int.tmod (wrap64 (Int.tdiv a1 (rd s0_1 a2))) (rd s0_0 a2)) + 1), s0_2))) else (none))) else (none)) else (none)) = some (r1, r2) := h
 clear h
 by_cases c4 : 0 ≤ a2
 rotate_left
 ·rw [if_neg c4] at H
  exact absurd H (by simp)
 rw [if_pos c4] at H
 have c4b0 : decide (0 ≤ a2) = true := decide_eq_true c4
 clear c4
 by_cases c5 : a2 < (s0_1.length : Int)
 rotate_left
 ·rw [if_neg c5] at H
  exact absurd H (by simp)
 rw [if_pos c5] at H
 have c5b0 : decide (a2 < (s0_1.length : Int)) = true := decide_eq_true c5
 clear c5
 by_cases c6 : (rd s0_1 a2) = 0
 ·rw [if_pos c6] at H
  exact absurd H (by simp)
 rw [if_neg c6] at H
 have c6b0 : ((rd s0_1 a2) == 0) = false := beq_eq_false_iff_ne.mpr c6
 have c6b1 : ((rd s0_1 a2) != 0) = true := bne_iff_ne.mpr c6
 by_cases c7 : a2 < (s0_0.length : Int)
 rotate_left
 ·rw [if_neg c7] at H
  exact absurd H (by simp)
 rw [if_pos c7] at H
 have c7b0 : decide (a2 < (s0_0.length : Int)) = true := decide_eq_true c7
 clear c7
 by_cases c8 : (rd s0_0 a2) = 0
 ·rw [if_pos c8] at H
  exact absurd H (by simp)
 rw [if_neg c8] at H
 have c8b0 : ((rd s0_0 a2) == 0) = false := beq_eq_false_iff_ne.mpr c8
 have c8b1 : ((rd s0_0 a2) != 0) = true := bne_iff_ne.mpr c8
 simp only [Option.some.injEq, Prod.mk.injEq] at H
 obtain ⟨rfl, rfl⟩ := H
 obtain ⟨ASz9_0, cSz9_0, ASz9_1, cSz9_1, HGz9, hgz9, ⟨HSz9_0, HSLz9_0⟩, ⟨HSz9_1, HSLz9_1⟩⟩ := HI0.out
 have hcz9_0 := cellS87_0 HGz9
 have hcz9_1 := cellS87_1 HGz9
 have hcz9_2 := cellS87_2 HGz9
 have hfz9_2 := blk_frozen HGz9 2
 clear HGz9 hgz9
 have p101 : 0 ≤ (a2 : Int) := oD
 have q101 : a2 < (s0_1.length : Int) := oD
 obtain ⟨ad101, e101, hx101_0⟩ := Kd.at_int HSz9_1 a2 p101 q101
 cases e101
 replace hx101_0 := pw_cell_below HB.out hx101_0
 replace p101 := eq_true p101
 replace q101 := eq_true q101
 have p102 : 0 ≤ (a2 : Int) := oD
 have q102 : a2 < (s0_0.length : Int) := oD
 obtain ⟨ad102, e102, hx102_0⟩ := Kd.at_int HSz9_0 a2 p102 q102
 cases e102
 replace hx102_0 := pw_cell_below HB.out hx102_0
 replace p102 := eq_true p102
 replace q102 := eq_true q102
 go_enter Try.func83, Try.ntmps83
 go_wp2
 repeat (go_quiet (fail); try go_wp2)
 go_ret
 exact ⟨eQ, by repeat (first | (with_reducible first | exact HI0.out | apply IsS87.alloc | apply IsS87.drewN | apply IsS87.drew | apply IsS87.set_2) | exact HI0.out), by repeat (first | (with_reducible first | exact HB.out | apply below_alloc | apply pw_below_drewN | apply below_drew1 | refine below_set ?_ (IsS87.ge HI0.out)) | exact HB.out), by repeat (first | (with_reducible first | exact HK.out | apply KeepBut.set_ | apply keep_drewN | apply keep_drew | apply keep_alloc) | exact HK.out)⟩
end Go.Proofs.Ythbpibdfookbmaa.G
end
