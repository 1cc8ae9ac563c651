/- Functions of the seat and plain laws about them: GF45. -/
import Derived.Maps.OwnSet
import Derived.Maps.OwnOps
import Derived.Maps.Views
import Derived.Test.YthbpibdfookbmaaGBase
import Derived.Test.YthbpibdfookbmaaZT0
import Derived.Test.YthbpibdfookbmaaZT2
import Derived.Test.YthbpibdfookbmaaZT3
import Derived.Test.YthbpibdfookbmaaZT8
import Derived.Test.YthbpibdfookbmaaZT9
import Derived.Test.YthbpibdfookbmaaZT10
import Derived.Test.YthbpibdfookbmaaZT11
section
namespace Go.Proofs.Ythbpibdfookbmaa.G
open Go.RowKit Go.Proofs.YthbpibdfookbmaaW.PrintWords Go.Proofs.YthbpibdfookbmaaW.PrintLast Go.Proofs.YthbpibdfookbmaaW.PrintMore
attribute [local go_sem] max2_int min2_int max_two min_two max_three min_three max_four min_four
set_option linter.unusedVariables false
set_option linter.unusedSimpArgs false
theorem cut_world {w W : World} {gb : Nat} {ob : Obj} (hB : Below w.heap.size w W) (hgb : gb = w.heap.size) (hbk : W.heap[gb]? = some ob) :
  ∃ V : World, V.heap.size = gb + 1 ∧ Below V.heap.size V W ∧ ∀ W_, Below V.heap.size V W_ → W_.heap[gb]? = some ob ∧ Below w.heap.size w W_ := by
 have hlt : gb < W.heap.size := (Array.getElem?_eq_some_iff.1 hbk).1
 have hV : ∀ i, i < gb + 1 → (W.heap.extract 0 (gb + 1))[i]? = W.heap[i]? := fun i hi => by
  rw [Array.getElem?_extract]
  rw [if_pos (by omega)]
  simp
 have hs : (W.heap.extract 0 (gb + 1)).size = gb + 1 := by simp; omega
 refine ⟨{ W with heap := W.heap.extract 0 (gb + 1) }, hs, ?_, ?_⟩
 ·exact ⟨rfl, rfl, rfl, by rw [hs]; omega, fun i hi => (hV i (by rw [hs] at hi; exact hi)).symm⟩
 ·intro W_ h
  refine ⟨(h.block gb (by rw [hs]; omega)).trans ((hV gb (by omega)).trans hbk), ?_⟩
  refine ⟨h.os.trans hB.os, h.tape.trans hB.tape, h.output.trans hB.output, Nat.le_trans (by rw [hs]; omega) h.size, fun i hi => ?_⟩
  exact (h.block i (by rw [hs]; omega)).trans ((hV i (by omega)).trans (hB.block i hi))
/-- The map of the states that were seen: each with its place. -/
def AtM (D : DataW Unit) (vis : List Int) : Prop := Maps.IsMap D ∧ (∀ x : Int, Maps.has D (.int .i64 x) = vis.contains x) ∧ ∀ i, i < vis.length → ∀ z, D.atKey (.int .i64 (vis.getD i 0)) z = .lit (.int .i64 i)
def OwnsAt (W : World) (b base : Nat) (vis : List Int) : Prop := base ≤ b ∧ ∃ D, W.ownsMap Try.prog 3 (plainElem (H := Unit) Try.prog 3) b vis.length D ∧ AtM D vis
theorem AtM.new : AtM (.map []) [] := ⟨Maps.isMap_empty, fun x => rfl, fun i hi => by simp at hi⟩
theorem AtM.push {D : DataW Unit} {vis : List Int} (h : AtM D vis) {x : Int} (hw : (Lit.int .i64 x).wf = true) (hx : vis.contains x = false) : AtM (D.put (.int .i64 x) (.lit (.int .i64 vis.length))) (vis ++ [x]) := by
 obtain ⟨h1, h2, h3⟩ := h
 refine ⟨h1.put _ _, fun y => ?_, fun i hi z => ?_⟩
 ·by_cases hy : y = x
  ·subst hy
   rw [Maps.has_put_same h1 (by trivial)]
   simp
  ·rw [Maps.has_put_other (by intro e; injection e with _ e; exact hy e), h2 y]
   simp [hy]
 ·rw [List.length_append] at hi
  by_cases hl : i < vis.length
  ·have e : (vis ++ [x]).getD i 0 = vis.getD i 0 := by simp [List.getD_eq_getElem?_getD, List.getElem?_append_left hl]
   rw [e]
   have hne : vis.getD i 0 ≠ x := by
    rintro rfl
    have : vis.contains (vis.getD i 0) = true := by
     rw [List.contains_iff_mem, List.getD_eq_getElem?_getD, List.getElem?_eq_getElem hl]
     exact List.getElem_mem hl
    rw [hx] at this
    cases this
   rw [Maps.atKey_put_other (by intro e; injection e with _ e; exact hne e)]
   exact h3 i hl z
  ·have hi' : i = vis.length := by simp at hi; omega
   subst hi'
   have e : (vis ++ [x]).getD vis.length 0 = x := by simp [List.getD_eq_getElem?_getD]
   rw [e, Maps.atKey_put_same h1 (by trivial)]
theorem OwnsAt.lt {W : World} {b base : Nat} {vis : List Int} (h : OwnsAt W b base vis) : b < W.heap.size := h.2.choose_spec.1.lt
theorem OwnsAt.blk {W : World} {b base : Nat} {vis : List Int} (h : OwnsAt W b base vis) : ∃ es c, W.heap[b]? = some (.map es c) := by
 obtain ⟨_, D, ⟨es, c, hb, _⟩, _⟩ := h
 exact ⟨es, c, hb⟩
theorem OwnsAt.move {W W' : World} {b base : Nat} {vis : List Int} (h : OwnsAt W b base vis) (hm : W'.heap[b]? = W.heap[b]?) : OwnsAt W' b base vis := by
 obtain ⟨h0, D, ⟨es, c, hb, r⟩, hD⟩ := h
 exact ⟨h0, D, ⟨es, c, hm.trans hb, r⟩, hD⟩
theorem OwnsAt.below {W W' : World} {b base : Nat} {vis : List Int} (h : OwnsAt W b base vis) (hb : Below W.heap.size W W') : OwnsAt W' b base vis := h.move (hb.block b h.lt)
theorem OwnsAt.alloc {W : World} {b base : Nat} {vis : List Int} (h : OwnsAt W b base vis) (o : Obj) : OwnsAt (W.alloc o) b base vis := h.below (below_alloc (Below.refl _ _) o)
theorem OwnsAt.drew {W : World} {b base : Nat} {vis : List Int} (h : OwnsAt W b base vis) : OwnsAt W.drew b base vis := h
theorem OwnsAt.drewN {W : World} {b base : Nat} {vis : List Int} (h : OwnsAt W b base vis) (m : Nat) : OwnsAt (W.drewN m) b base vis := h
theorem OwnsAt.grown {W W' : World} {b base : Nat} {vis : List Int} (h : OwnsAt W b base vis) {row : Option Nat} (hg : W.grownBy W' row) (hne : some b ≠ row) : OwnsAt W' b base vis := h.move (hg.block b h.lt hne)
theorem OwnsAt.neS {w0 W : World} {g b base : Nat} {vis f0 f1 : List Int} {f2 : Int} (h : OwnsAt W b base vis) (hI : IsS87 w0 W g f0 f1 f2) : some g ≠ some b := by
 obtain ⟨es, c, hb⟩ := h.blk
 obtain ⟨A0, c0, A1, c1, hg, _⟩ := hI
 rintro e
 injection e with e
 subst e
 rw [hb] at hg
 cases hg
theorem OwnsAt.keepS {w0 W W' : World} {g b base : Nat} {vis f0 f1 : List Int} {f2 : Int} (h : OwnsAt W b base vis) (hI : IsS87 w0 W g f0 f1 f2) (hk : KeepBut W W' g none) : OwnsAt W' b base vis :=
 h.move (hk.2 b h.lt (fun e => h.neS hI (by rw [e])) (by simp))
theorem OwnsAt.grownB {w W W' : World} {b : Nat} {vis : List Int} (h : OwnsAt W b w.heap.size vis) (hB : Below w.heap.size w W) (hg : W.grownBy W' (some b)) : Below w.heap.size w W' := hB.grown hg hB.size (fun k hk => by cases hk; exact h.1)
theorem R_mapfar {α : Type} {d : Kd α} {e base b base2 : Nat} {ok : Nat → Prop} {W W' : World} {v : Value} {xs : List α} {vis : List Int} (h : d.R e W base ok v xs) (hm : OwnsAt W b base2 vis) (hg : W.grownBy W' (some b)) : d.R e W' base ok v xs := by
 obtain ⟨es, c, hb⟩ := hm.blk
 refine Kd.R_mono (Kd.R_grown (Kd.R_bound h) hg (fun k hk he => ?_)) (fun _ hk => hk.1)
 obtain ⟨_, _, _, q, _, cells, hc⟩ := hk
 injection he with he
 subst he
 rw [hb] at hc
 cases hc
theorem Q_mapfar {α : Type} {d : Kd α} {e base b base2 : Nat} {ok : Nat → Prop} {W W' : World} {v : Value} {xs : List α} {vis : List Int} (h : d.Q e W base ok v xs) (hm : OwnsAt W b base2 vis) (hg : W.grownBy W' (some b)) : d.Q e W' base ok v xs := by
 obtain ⟨es, c, hb⟩ := hm.blk
 refine Kd.Q_mono (Kd.Q_step (Kd.Q_bound h) (fun k hk hlt => hg.block k hlt (fun he => ?_))) (fun _ hk => hk.1)
 obtain ⟨_, _, _, q, _, cells, hc⟩ := hk
 injection he with he
 subst he
 rw [hb] at hc
 cases hc
theorem OwnsAt.neQ {α : Type} {d : Kd α} {e base b base2 : Nat} {ok : Nat → Prop} {W : World} {v : Value} {xs : List α} {vis : List Int} (hm : OwnsAt W b base2 vis) (h : d.Q e W base ok v xs) : some b ≠ v.ownBlock := by
 obtain ⟨es, c, hb⟩ := hm.blk
 intro he
 obtain ⟨cells, hc⟩ := Kd.Q_typed h b he.symm
 rw [hb] at hc
 cases hc
section
variable {ops : Array Oper} {rest : List Oper} {o : Oper} {a : Act} {Q : Exit → Act → World → Prop}
theorem map_event {W : World} (base : Nat) (hbase : base ≤ W.heap.size) (hgd : o.guard = none) {N : Tmp} (_hd : o.dst = some N)
  (hrun : (execOp a.eval o).run Try.prog W = .ok (.value (.map (some W.heap.size))) (W.alloc (.map #[] 0)))
  (h : ∀ g, ∀ w1, OwnsAt w1 g base [] → Below W.heap.size W w1 → wpList Try.prog ops Q rest (a.put o.dst (.map (some g))) w1) : wpList Try.prog ops Q (o :: rest) a W :=
 Kd.event_run hgd hrun (h _ _ ⟨hbase, _, World.ownsMap_made _ _ _ _, AtM.new⟩ (below_alloc (Below.refl _ _) _))
theorem wp_lookup_at (W : World) (hg : o.guard = none) (m x : Operand) (hop : o.op = Op.lookup 80 m x true) (b base : Nat) (vis : List Int) (hm : a.eval m = .map (some b)) (h : OwnsAt W b base vis) (key : Int) (hx : a.eval x = .int .i64 key) (hwf : (Lit.int .i64 key).wf = true)
  (bb : Bool) (hb : vis.contains key = bb) (cc : Int) (h1 : bb = true → ∃ i : Nat, i < vis.length ∧ vis.getD i 0 = key ∧ cc = i) (h0 : bb = false → cc = 0)
  (hK : wpList Try.prog ops Q rest (a.put o.dst (.tuple #[.int .i64 cc, .bool bb])) W) : wpList Try.prog ops Q (o :: rest) a W := by
 obtain ⟨_, D, hown, hD⟩ := h
 obtain ⟨g1, g2, g3⟩ := hD
 have hz : (zeroValue 3).run Try.prog W = .ok (.int .i64 0) W := by kernel_rfl
 refine wpList_lookup_own_ok_int W hg m x 80 hop 3 3 .i64 (Maps.int_keyed Try.underlying3) Try.underlying80 Try.underlying3 hz b _ D hm hown (.int .i64 key) (.int .i64 key) hx (Maps.keyOf_int_mk Try.underlying3 hwf) (fun c hat hwc => ?_)
 rw [g2 key, hb]
 have : c = cc := by
  cases bb with
  | false =>
   rw [Maps.atKey_of_not_has (by rw [g2 key, hb])] at hat
   injection hat with hat
   injection hat with _ hat
   rw [← hat, h0 rfl]
  | true =>
   obtain ⟨i, hi, rfl, rfl⟩ := h1 rfl
   rw [g3 i hi] at hat
   injection hat with hat
   injection hat with _ hat
   exact hat.symm
 rw [this]
 exact hK
theorem wp_update_at (W : World) (hg : o.guard = none) (m x v : Operand) (hop : o.op = Op.mapUpdate 80 m x v) (b base : Nat) (vis : List Int) (hm : a.eval m = .map (some b)) (h : OwnsAt W b base vis) (key : Int) (hx : a.eval x = .int .i64 key) (hv : a.eval v = .int .i64 (vis.length : Int)) (hwf : (Lit.int .i64 key).wf = true)
  (hnew : vis.contains key = false) (hl : vis.length < 17592186044416)
  (hK : ∀ w', OwnsAt w' b base (vis ++ [key]) → W.grownBy w' (some b) → wpList Try.prog ops Q rest (a.put o.dst undef) w') : wpList Try.prog ops Q (o :: rest) a W := by
 obtain ⟨h0, D, hown, hD⟩ := h
 have hwl : (Lit.int .i64 (vis.length : Int)).wf = true := by
  simp only [Lit.wf, IntKind.min, IntKind.max, IntKind.signed, IntKind.bits, Bool.and_eq_true, decide_eq_true_eq, if_true]
  omega
 refine wpList_mapUpdate_own W hg m x v 80 hop 3 3 (Maps.int_keyed Try.underlying3) Try.underlying80 _ b _ D hm hown (by unfold maxLen; omega) (.int .i64 key) (.int .i64 (vis.length : Int)) (.int .i64 key) hx hv (Maps.keyOf_int_mk Try.underlying3 hwf) _ [] (plainElem_int Try.underlying3 hwl) (fun w' h1 h2 => ?_)
 exact hK w' ⟨h0, _, by rw [List.length_append]; exact h1, hD.push hwf hnew⟩ h2
end
def IxOf (l : List Int) (x t : Int) : Prop := (t = -1 ∧ l.contains x = false) ∨ ∃ i : Nat, i < l.length ∧ l.getD i 0 = x ∧ t = i
theorem ix_true {l : List Int} {x t : Int} (h : IxOf l x t) (hn : ¬ (t = -1)) : l.contains x = true := by
 rcases h with ⟨h, _⟩ | ⟨i, hi, rfl, _⟩
 ·exact absurd h hn
 ·rw [List.contains_iff_mem, List.getD_eq_getElem?_getD, List.getElem?_eq_getElem hi]
  exact List.getElem_mem hi
theorem ix_at {l : List Int} {x t : Int} (h : IxOf l x t) (hn : ¬ (t = -1)) : ∃ i : Nat, i < l.length ∧ l.getD i 0 = x ∧ t = i := by
 rcases h with ⟨h, _⟩ | h
 ·exact absurd h hn
 ·exact h
theorem ix_false {l : List Int} {x : Int} (h : IxOf l x (-1)) : l.contains x = false := by
 rcases h with ⟨_, h⟩ | ⟨i, _, _, h⟩
 ·exact h
 ·omega
theorem index_wrap {i : Nat} (h : (i : Int) + 1 < 9223372036854775808) : wrap64 ((i : Int) + 1) = ((i + 1 : Nat) : Int) := by
 unfold wrap64
 omega
theorem index_next {i : Nat} (hi : (i : Int) < 9223372036854775808) : (wrap64 ((i : Int) + 1) = ((i + 1 : Nat) : Int) ∧ ((i + 1 : Nat) : Int) < 9223372036854775808) ∨ wrap64 ((i : Int) + 1) < 0 := by
 unfold wrap64
 omega
theorem index_neg (l : List Int) (x : Int) (z : Int) (hz : z < 0) (k : Nat) (t : Int) : slices_Index_int_int.l0 k l x (l.length : Int) z ≠ some t := by
 intro h
 cases k with
 | zero => simp [slices_Index_int_int.l0] at h
 | succ k =>
  rw [slices_Index_int_int.l0, if_pos (by omega), if_neg (by omega)] at h
  cases h
theorem index_loop (l : List Int) (x : Int) (k : Nat) : ∀ (i : Nat) (t : Int), (i : Int) < 9223372036854775808 → (∀ j, j < i → l.getD j 0 ≠ x) → slices_Index_int_int.l0 k l x (l.length : Int) (i : Int) = some t → IxOf l x t := by
 induction k with
 | zero => intro i t _ _ h; simp [slices_Index_int_int.l0] at h
 | succ k ih =>
  intro i t hi hn h
  rw [slices_Index_int_int.l0] at h
  by_cases c : (i : Int) < (l.length : Int)
  ·rw [if_pos c, if_pos (Int.natCast_nonneg i), if_pos c] at h
   by_cases e : x = rd l (i : Int)
   ·rw [if_pos e] at h
    injection h with h
    exact .inr ⟨i, by omega, e.symm, h.symm⟩
   ·rw [if_neg e] at h
    rcases index_next hi with ⟨hw, hl⟩ | hw
    ·rw [hw] at h
     refine ih (i + 1) t hl (fun j hj => ?_) h
     by_cases hji : j = i
     ·subst hji
      exact fun he => e he.symm
     ·exact hn j (by omega)
    ·exact absurd h (index_neg l x _ hw k t)
  ·rw [if_neg c] at h
   injection h with h
   refine .inl ⟨h.symm, ?_⟩
   rw [Bool.eq_false_iff]
   intro hc
   rw [List.contains_iff_mem] at hc
   obtain ⟨j, hj, e⟩ := List.getElem_of_mem hc
   exact hn j (by omega) (by rw [List.getD_eq_getElem?_getD, List.getElem?_eq_getElem hj]; exact e)
theorem index_spec {k : Nat} {l : List Int} {x t : Int} (h : slices_Index_int_int.f k l x = some t) : IxOf l x t := index_loop l x k 0 t (by omega) (fun j hj => by omega) h
mutual
def ice_Rota.m0 : Nat → List Int → List Bool → List Int → List Int → Int → List Int → List Int → Int → Option (List Int × Int)
 | 0, _, _, _, _, _, _, _, _ => none
 | k + 1, x4, x10, x11, x12, x13, x605000, x605001, x605002 => if (Lit.int .i64 x13).wf = true then ((slices_Index_int_int.f k x11 x13).bind fun t614 => (if t614 = (-1) then (if x11.length < 17592186044416 then ((ice_game_urgent.f k x605000 x605001 x605002 x13 x10).bind fun bt618 => (if x12.length < 17592186044416 then ((ice_game_tonight.f k x605000 x605001 bt618.2 x13 bt618.1).bind fun bt623 => (ice_Rota.m0 k x4 x10 (x11 ++ [x13]) (x12 ++ [bt618.1]) bt623.1 x605000 x605001 bt623.2)) else (none))) else (none)) else (if 0 ≤ t614 then (if t614 ≤ (x12.length : Int) then ((some (x12.drop (t614 : Int).toNat : List Int)).bind fun y625 => (ice_Rota.m1 k x4 y625 (y625.length : Int) 0)) else (none)) else (none)))) else none
def ice_Rota.m1 : Nat → List Int → List Int → Int → Int → Option (List Int × Int)
 | 0, _, _, _, _ => none
 | k + 1, x4, x12, x92, x93 => if x93 < x92 then (if 0 ≤ x93 then (if x93 < (x12.length : Int) then (if 0 ≤ (rd x12 x93) then (if (rd x12 x93) < (x4.length : Int) then (ice_Rota.m1 k x4 (x12.set (x93 : Int).toNat (rd x4 (rd x12 x93))) x92 (wrap64 (x93 + 1))) else (none)) else (none)) else (none)) else (none)) else (some (x12, 0))
end
def ice_Rota.g (k : Nat) (l0 : List Int) (l1 : List Int) : Option (List Int × Int) := (ice_gameOf.f k l0).bind fun bt601 => ((ice_game_ever.f k bt601.1 bt601.2.1 bt601.2.2).bind fun bt605 => ((ice_game_first.f bt601.1 bt601.2.1 bt605.2).bind fun bt609 => (if 0 ≤ bt609.1 then (if bt609.1 < (bt605.1.length : Int) then (if rdOf false bt605.1 bt609.1 = true then ((ice_game_first.f bt601.1 bt601.2.1 bt609.2).bind fun bt612 => (ice_Rota.m0 k l1 bt605.1 ([] : List Int) ([] : List Int) bt612.1 bt601.1 bt601.2.1 bt612.2)) else (some (([] : List Int), 5))) else (none)) else (none))))
theorem ice_Rota.gmono_l : ∀ k, (∀ y0 y1 y2 y3 y4 y5 y6 y7, LeO (ice_Rota.m0 k y0 y1 y2 y3 y4 y5 y6 y7) (ice_Rota.m0 (k + 1) y0 y1 y2 y3 y4 y5 y6 y7)) ∧ (∀ y0 y1 y2 y3, LeO (ice_Rota.m1 k y0 y1 y2 y3) (ice_Rota.m1 (k + 1) y0 y1 y2 y3))
 | 0 => ⟨fun _ _ _ _ _ _ _ _ r h => by simp [ice_Rota.m0] at h, fun _ _ _ _ r h => by simp [ice_Rota.m1] at h⟩
 | k + 1 => by
  obtain ⟨ih0, ih1⟩ := ice_Rota.gmono_l k
  refine ⟨?_, ?_⟩
  ·intro y0 y1 y2 y3 y4 y5 y6 y7
   unfold ice_Rota.m0
   repeat' first
   | (with_reducible exact ih0 _ _ _ _ _ _ _ _)
   | (with_reducible exact ih1 _ _ _ _)
   | (with_reducible exact ice_gameOf.mono _ _)
   | (with_reducible exact ice_game_ever.mono _ _ _ _)
   | (with_reducible exact ice_game_tonight.mono _ _ _ _ _ _)
   | (with_reducible exact ice_game_urgent.mono _ _ _ _ _ _)
   | (with_reducible exact slices_Index_int_int.mono _ _ _)
   | (with_reducible exact LeO.refl _)
   | (with_reducible exact LeO.none _)
   | (with_reducible refine LeO.ite ?_ ?_)
   | (with_reducible refine LeO.bind ?_ (fun _ => ?_))
   | exact ih0 _ _ _ _ _ _ _ _
   | exact ih1 _ _ _ _
   | exact ice_gameOf.mono _ _
   | exact ice_game_ever.mono _ _ _ _
   | exact ice_game_tonight.mono _ _ _ _ _ _
   | exact ice_game_urgent.mono _ _ _ _ _ _
   | exact slices_Index_int_int.mono _ _ _
   | exact LeO.none _
   | refine LeO.ite ?_ ?_
   | refine LeO.bind ?_ (fun _ => ?_)
  ·intro y0 y1 y2 y3
   unfold ice_Rota.m1
   repeat' first
   | (with_reducible exact ih0 _ _ _ _ _ _ _ _)
   | (with_reducible exact ih1 _ _ _ _)
   | (with_reducible exact ice_gameOf.mono _ _)
   | (with_reducible exact ice_game_ever.mono _ _ _ _)
   | (with_reducible exact ice_game_tonight.mono _ _ _ _ _ _)
   | (with_reducible exact ice_game_urgent.mono _ _ _ _ _ _)
   | (with_reducible exact slices_Index_int_int.mono _ _ _)
   | (with_reducible exact LeO.refl _)
   | (with_reducible exact LeO.none _)
   | (with_reducible refine LeO.ite ?_ ?_)
   | (with_reducible refine LeO.bind ?_ (fun _ => ?_))
   | exact ih0 _ _ _ _ _ _ _ _
   | exact ih1 _ _ _ _
   | exact ice_gameOf.mono _ _
   | exact ice_game_ever.mono _ _ _ _
   | exact ice_game_tonight.mono _ _ _ _ _ _
   | exact ice_game_urgent.mono _ _ _ _ _ _
   | exact slices_Index_int_int.mono _ _ _
   | exact LeO.none _
   | refine LeO.ite ?_ ?_
   | refine LeO.bind ?_ (fun _ => ?_)
theorem ice_Rota.gmono : ∀ a0 a1 k, LeO (ice_Rota.g k a0 a1) (ice_Rota.g (k + 1) a0 a1) := by
 intro a0 a1 k
 obtain ⟨ih0, ih1⟩ := ice_Rota.gmono_l k
 unfold ice_Rota.g
 repeat' first
   | (with_reducible exact ih0 _ _ _ _ _ _ _ _)
   | (with_reducible exact ih1 _ _ _ _)
   | (with_reducible exact ice_gameOf.mono _ _)
   | (with_reducible exact ice_game_ever.mono _ _ _ _)
   | (with_reducible exact ice_game_tonight.mono _ _ _ _ _ _)
   | (with_reducible exact ice_game_urgent.mono _ _ _ _ _ _)
   | (with_reducible exact slices_Index_int_int.mono _ _ _)
   | (with_reducible exact LeO.refl _)
   | (with_reducible exact LeO.none _)
   | (with_reducible refine LeO.ite ?_ ?_)
   | (with_reducible refine LeO.bind ?_ (fun _ => ?_))
   | exact ih0 _ _ _ _ _ _ _ _
   | exact ih1 _ _ _ _
   | exact ice_gameOf.mono _ _
   | exact ice_game_ever.mono _ _ _ _
   | exact ice_game_tonight.mono _ _ _ _ _ _
   | exact ice_game_urgent.mono _ _ _ _ _ _
   | exact slices_Index_int_int.mono _ _ _
   | exact LeO.none _
   | refine LeO.ite ?_ ?_
   | refine LeO.bind ?_ (fun _ => ?_)
mutual
def ice_Rota.l0 : Nat → List Int → Int → Int → List Int → Option (List Int × Int)
 | 0, _, _, _, _ => none
 | k + 1, x4, x26, x27, x602000 => if x27 < x26 then (if 0 ≤ x27 then (if x27 < (x4.length : Int) then (ice_Rota.l0 k (x4.set (x27 : Int).toNat x27) x26 (wrap64 (x27 + 1)) x602000) else (none)) else (none)) else ((slices_SortStableFunc_int_int.f k x4 (fun a_ b_ => ice_Rota_1.f a_ b_ x602000)).bind fun t607 => (ice_Rota.l1 k ([] : List Int) t607 (x4.length : Int) 0 x602000))
def ice_Rota.l1 : Nat → List Int → List Int → Int → Int → List Int → Option (List Int × Int)
 | 0, _, _, _, _, _ => none
 | k + 1, x6, x38, x39, x40, x602000 => if x40 < x39 then (if 0 ≤ x40 then (if x40 < (x38.length : Int) then (if 0 ≤ (rd x38 x40) then (if (rd x38 x40) < (x602000.length : Int) then (if x6.length < 17592186044416 then (ice_Rota.l1 k (x6 ++ [rd x602000 (rd x38 x40)]) x38 x39 (wrap64 (x40 + 1)) x602000) else (none)) else (none)) else (none)) else (none)) else (none)) else (ice_Rota.g k x6 x38)
end
def ice_Rota.f (k : Nat) (l0 : List Int) : Option (List Int × Int) := (ice_Valid.f k l0).bind fun t602 => (if t602 = true then (if 0 ≤ (l0.length : Int) then (if ((l0.length : Int) : Int).toNat ≤ 35184372088832 then ((some (List.replicate ((l0.length : Int) : Int).toNat 0 : List Int)).bind fun y603 => (ice_Rota.l0 k y603 (y603.length : Int) 0 l0)) else (none)) else (none)) else (some (([] : List Int), 80)))
theorem ice_Rota.mono_l : ∀ k, (∀ y0 y1 y2 y3, LeO (ice_Rota.l0 k y0 y1 y2 y3) (ice_Rota.l0 (k + 1) y0 y1 y2 y3)) ∧ (∀ y0 y1 y2 y3 y4, LeO (ice_Rota.l1 k y0 y1 y2 y3 y4) (ice_Rota.l1 (k + 1) y0 y1 y2 y3 y4))
 | 0 => ⟨fun _ _ _ _ r h => by simp [ice_Rota.l0] at h, fun _ _ _ _ _ r h => by simp [ice_Rota.l1] at h⟩
 | k + 1 => by
  obtain ⟨ih0, ih1⟩ := ice_Rota.mono_l k
  refine ⟨?_, ?_⟩
  ·intro y0 y1 y2 y3
   unfold ice_Rota.l0
   repeat' first
   | (with_reducible exact ih0 _ _ _ _)
   | (with_reducible exact ih1 _ _ _ _ _)
   | (with_reducible exact ice_Valid.mono _ _)
   | (with_reducible exact slices_SortStableFunc_int_int.mono _ _ _)
   | (with_reducible exact ice_Rota.gmono _ _ _)
   | (with_reducible exact LeO.refl _)
   | (with_reducible exact LeO.none _)
   | (with_reducible refine LeO.ite ?_ ?_)
   | (with_reducible refine LeO.bind ?_ (fun _ => ?_))
   | exact ih0 _ _ _ _
   | exact ih1 _ _ _ _ _
   | exact ice_Valid.mono _ _
   | exact slices_SortStableFunc_int_int.mono _ _ _
   | exact LeO.none _
   | refine LeO.ite ?_ ?_
   | refine LeO.bind ?_ (fun _ => ?_)
  ·intro y0 y1 y2 y3 y4
   unfold ice_Rota.l1
   repeat' first
   | (with_reducible exact ih0 _ _ _ _)
   | (with_reducible exact ih1 _ _ _ _ _)
   | (with_reducible exact ice_Valid.mono _ _)
   | (with_reducible exact slices_SortStableFunc_int_int.mono _ _ _)
   | (with_reducible exact ice_Rota.gmono _ _ _)
   | (with_reducible exact LeO.refl _)
   | (with_reducible exact LeO.none _)
   | (with_reducible refine LeO.ite ?_ ?_)
   | (with_reducible refine LeO.bind ?_ (fun _ => ?_))
   | exact ih0 _ _ _ _
   | exact ih1 _ _ _ _ _
   | exact ice_Valid.mono _ _
   | exact slices_SortStableFunc_int_int.mono _ _ _
   | exact LeO.none _
   | refine LeO.ite ?_ ?_
   | refine LeO.bind ?_ (fun _ => ?_)
theorem ice_Rota.mono : ∀ a0 k, LeO (ice_Rota.f k a0) (ice_Rota.f (k + 1) a0) := by
 intro a0 k
 obtain ⟨ih0, ih1⟩ := ice_Rota.mono_l k
 unfold ice_Rota.f
 repeat' first
   | (with_reducible exact ih0 _ _ _ _)
   | (with_reducible exact ih1 _ _ _ _ _)
   | (with_reducible exact ice_Valid.mono _ _)
   | (with_reducible exact slices_SortStableFunc_int_int.mono _ _ _)
   | (with_reducible exact ice_Rota.gmono _ _ _)
   | (with_reducible exact LeO.refl _)
   | (with_reducible exact LeO.none _)
   | (with_reducible refine LeO.ite ?_ ?_)
   | (with_reducible refine LeO.bind ?_ (fun _ => ?_))
   | exact ih0 _ _ _ _
   | exact ih1 _ _ _ _ _
   | exact ice_Valid.mono _ _
   | exact slices_SortStableFunc_int_int.mono _ _ _
   | exact LeO.none _
   | refine LeO.ite ?_ ?_
   | refine LeO.bind ?_ (fun _ => ?_)
set_option maxHeartbeats 8000000 in
set_option maxRecDepth 100000 in
theorem ice_Rota.calls (k : Nat) (A0 : Option Addr) (c0 : Nat) (l0 : List Int) (r1 : List Int) (r2 : Int) (w : World) (hr0 : Kd.C (Kd.int .i64) w A0 l0.length l0) (hc0 : l0.length ≤ c0) (h : ice_Rota.f k l0 = some (r1, r2)) :
  Calls Try.prog 45 #[.slice A0 l0.length c0] w fun e w' => ∃ v0_ : Value, e = .returned (.tuple #[v0_, .int .i64 r2]) ∧ Kd.Q (Kd.int .i64) 3 w' w.heap.size (fun _ => True) v0_ r1 ∧ Below w.heap.size w w' := by
 have HR0 := A_ hr0
 have HC0 := A_ hc0
 clear hr0 hc0
 have HB := A_ (Below.refl w.heap.size w)
 have H : ((ice_Valid.f k l0).bind fun t602 => (if t602 = true then (if 0 ≤ (l0.length : Int) then (if ((l0.length : Int) : Int).toNat ≤ 35184372088832 then ((some (List.replicate ((l0.length : Int) : Int).toNat 0 : List Int)).bind fun y603 => (ice_Rota.l0 k y603 (y603.length : Int) 0 l0)) else (none)) else (none)) else (some (([] : List Int), 80)))) = some (r1, r2) := h
 clear h
 replace H := Option.bind_eq_some_iff.mp H
 obtain ⟨t602, A20, H⟩ := H
 replace H : (if t602 = true then (if 0 ≤ (l0.length : Int) then (if ((l0.length : Int) : Int).toNat ≤ 35184372088832 then ((some (List.replicate ((l0.length : Int) : Int).toNat 0 : List Int)).bind fun y603 => (ice_Rota.l0 k y603 (y603.length : Int) 0 l0)) else (none)) else (none)) else (some (([] : List Int), 80))) = some (r1, r2) := H
 have A2 := A_ A20
 clear A20
 by_cases c3 : t602 = true
 rotate_left
 ·replace c3 := Bool.eq_false_iff.mpr c3
  subst c3
  have H1 : (some (([] : List Int), 80)) = some (r1, r2) := by rw [if_neg (show ¬ (false = true) by decide)] at H; exact H
  clear H
  have H := H1
  clear H1
  simp only [Option.some.injEq, Prod.mk.injEq] at H
  obtain ⟨rfl, rfl⟩ := H
  go_enter Try.func45, Try.ntmps45
  go_wp2_with (first | ((with_reducible refine gate_dst (N := 1) rfl ?_); refine bxW 1 (cs := #[.slice A0 l0.length c0]) (t := 22) ?_; intro gb601 hg w32 hbox hb; have HGQ := A_ hg; have n0_ := A_ (below_step (bW0 HB.out) hb); have n1_ := A_ (hbox); have n2_ := A_ ((szG hg (bW0 HB.out))); have n3_ := A_ ((szG hg (bW0 HB.out))); clear HB; have HB := n0_; have BK601 := n1_; have GW601 := n2_; have GE601 := n3_; clear n0_ n1_ n2_ n3_; clear hb hbox hg; have hcz33_0 : w32.cell? ⟨gb601, 0, none⟩ = some (.slice A0 l0.length c0) := (blk_cell BK601.out 0).trans rfl; have hfz33_0 := blk_frozen BK601.out 0) | ((with_reducible refine gate_callee (f := 29) rfl ?_); refine goesW_ (some 20) Try.func29 #[.slice A0 l0.length c0] ?_; (with_reducible refine (ice_Valid.calls k _ _ l0 false _ ?side1 ?side2 A2.out).mono ?_); (case side1 => exact cU (Kd.C_below HR0.out HB.out)); (case side2 => exact HC0.out); rintro e w34 ⟨rfl, hb⟩; refine ⟨_, rfl, ?_⟩; have n0_ := A_ (bkB BK601 hb); have n1_ := A_ (below_step (bW1 HB.out GE601.out) hb); clear BK601; clear HB; have BK601 := n0_; have HB := n1_; clear n0_ n1_; (try clear hb)))
  go_ret2
  exact ⟨_, by first | rfl | (simp [errW_none, errW_some] <;> rfl) | (simp [*, errW_none, errW_some] <;> rfl), Kd.Q_of_R (by first | exact Kd.R_nil _ _ _ _ _ | exact Kd.N_nil _ _ _ _ _ | exact Kd.V_nil _ _ _ _ _ | exact Kd.Q_nil _ _ _ _ _ | exact Kd.S_nil _ _ _ _ _), by repeat (first | (with_reducible first | exact HB.out | apply below_alloc | apply pw_below_drewN | apply below_drew1 | refine below_set ?_ GE601.out) | exact HB.out)⟩
 subst c3
 have H1 : (if 0 ≤ (l0.length : Int) then (if ((l0.length : Int) : Int).toNat ≤ 35184372088832 then ((some (List.replicate ((l0.length : Int) : Int).toNat 0 : List Int)).bind fun y603 => (ice_Rota.l0 k y603 (y603.length : Int) 0 l0)) else (none)) else (none)) = some (r1, r2) := by rw [if_pos rfl] at H; exact H
 clear H
 have H := H1
 clear H1
 by_cases c4 : 0 ≤ (l0.length : Int)
 rotate_left
 ·rw [if_neg c4] at H
  exact absurd H (by simp)
 rw [if_pos c4] at H
 have c4b0 := eq_true c4
 have c4b1 : decide (0 ≤ (l0.length : Int)) = true := decide_eq_true c4
 clear c4
 by_cases c5 : ((l0.length : Int) : Int).toNat ≤ 35184372088832
 rotate_left
 ·rw [if_neg c5] at H
  exact absurd H (by simp)
 rw [if_pos c5] at H
 have c5b0 := eq_true c5
 have c5b1 : decide (((l0.length : Int) : Int).toNat ≤ 35184372088832) = true := decide_eq_true c5
 clear c5
 obtain ⟨y603, hy603⟩ : ∃ y_ : List Int, y_ = (List.replicate ((l0.length : Int) : Int).toNat 0) := ⟨_, rfl⟩
 replace H : (ice_Rota.l0 k y603 (y603.length : Int) 0 l0) = some (r1, r2) := by first | (rw [hy603]; with_reducible exact H) | (have H2_ := (Option.bind_some _ _).symm.trans H; rw [hy603]; with_reducible exact H2_) | (have H2_ := (Option.bind_some _ _).symm.trans H; with_reducible exact H2_) | with_reducible exact H | (rw [hy603]; exact H) | exact H
 have Ny603 := A_ hy603
 clear hy603
 have H' := A_ H
 clear H
 go_enter Try.func45, Try.ntmps45
 go_wp2_with (first | ((with_reducible refine gate_dst (N := 1) rfl ?_); refine bxW 1 (cs := #[.slice A0 l0.length c0]) (t := 22) ?_; intro gb601 hg w6 hbox hb; have HGQ := A_ hg; have n0_ := A_ (below_step (bW0 HB.out) hb); have n1_ := A_ (hbox); have n2_ := A_ ((szG hg (bW0 HB.out))); have n3_ := A_ ((szG hg (bW0 HB.out))); clear HB; have HB := n0_; have BK601 := n1_; have GW601 := n2_; have GE601 := n3_; clear n0_ n1_ n2_ n3_; clear hb hbox hg; have hcz7_0 : w6.cell? ⟨gb601, 0, none⟩ = some (.slice A0 l0.length c0) := (blk_cell BK601.out 0).trans rfl; have hfz7_0 := blk_frozen BK601.out 0) | ((with_reducible refine gate_callee (f := 29) rfl ?_); refine goesW_ (some 20) Try.func29 #[.slice A0 l0.length c0] ?_; (with_reducible refine (ice_Valid.calls k _ _ l0 true _ ?side1 ?side2 A2.out).mono ?_); (case side1 => exact cU (Kd.C_below HR0.out HB.out)); (case side2 => exact HC0.out); rintro e w8 ⟨rfl, hb⟩; refine ⟨_, rfl, ?_⟩; have n0_ := A_ (bkB BK601 hb); have n1_ := A_ (below_step (bW1 HB.out GE601.out) hb); clear BK601; clear HB; have BK601 := n0_; have HB := n1_; clear n0_ n1_; (try clear hb); have hcz9_0 : w8.cell? ⟨gb601, 0, none⟩ = some (.slice A0 l0.length c0) := (blk_cell BK601.out 0).trans rfl; have hfz9_0 := blk_frozen BK601.out 0) | ((with_reducible refine gate_dst (N := 24) rfl ?_); refine Kd.R_make (Kd.int .i64) _ 3 rfl (N := 24) rfl 22 _ _ rfl (l0.length : Int) rfl rfl Try.underlying22 (.int .i64 0) 8 info3 rfl (by decide) (by omega) 0 (ok := fun _ => True) (okp := fun _ => True) rfl (fun _ hk => hk) trivial (oD) (Nat.le_trans (Nat.mul_le_mul_right _ (oD : (l0.length : Int).toNat ≤ 35184372088832)) (by omega)) (Below.refl _ _) (Nat.le_refl _) ?_; intro v604 w10 ho11 hb hg_ hnew_; clear hg_ hnew_; (first | rw [← Ny603.out] at ho11 | (simp only [Int.reduceToNat] at ho11; rw [← Ny603.out] at ho11)); have n0_ := A_ (Kd.R_lower ho11 (below_size (bW1 HB.out GE601.out))); have n1_ := A_ (bkB BK601 hb); have n2_ := A_ (below_step (bW1 HB.out GE601.out) hb); clear BK601; clear HB; have HO605 := n0_; have BK601 := n1_; have HB := n2_; clear n0_ n1_ n2_; clear hb ho11; obtain ⟨Ao12, co12, eo12⟩ := Kd.R_slice HO605.out; subst eo12))
 go_loopg [27] k (fun kq v27 w' => ∃ (x4_1 : List Int) (x27_1 : Int), v27 = .int .i64 x27_1 ∧ Aside0 (ice_Rota.l0 kq x4_1 (y603.length : Int) x27_1 l0 = some (r1, r2)) ∧ Aside0 (kq ≤ k) ∧ Aside0 (Kd.R (Kd.int .i64) 3 w' w.heap.size (fun _ => True) (.slice Ao12 y603.length co12) x4_1) ∧ Aside0 (w'.heap[gb601]? = some (.cells #[(.slice A0 l0.length c0)] 22 (0, 0))) ∧ Aside0 (Below w.heap.size w w'))
 case atStart => exact ⟨(y603), (0), eS, H', ⟨Nat.le_refl _⟩, ⟨rU HO605.out⟩, ⟨bkU BK601⟩, ⟨by repeat (first | (with_reducible first | exact HB.out | apply below_alloc | apply pw_below_drewN | apply below_drew1 | refine below_set ?_ GE601.out) | exact HB.out)⟩⟩
 case round =>
  clear H'
  try clear c2; try clear p2; try clear c3; try clear c4; try clear c4b0; try clear c4b1; try clear c5; try clear c5b0; try clear c5b1; try clear hcz7_0; try clear hcz9_0; try clear hfz7_0; try clear hfz9_0
  obtain ⟨x4_1, x27_1, rfl, HA, HK1, HO_4, BK601, HB⟩ := hrel
  have hl4_1 := (Kd.R_reads' HO_4.out).1
  rw [hl4_1] at HO_4
  (try simp only [hl4_1])
  (try simp only [hl4_1] at BK601)
  cases gk with
  | zero => exact absurd HA.out (by simp [ice_Rota.l0])
  | succ k1 =>
   have H := HA.out
   clear HA
   simp only [ice_Rota.l0] at H
   by_cases c13 : x27_1 < (y603.length : Int)
   ·rw [if_pos c13] at H
    have c13b0 : decide (x27_1 < (y603.length : Int)) = true := decide_eq_true c13
    (try (have c13b0h := c13b0; simp only [hl4_1] at c13b0h))
    clear c13
    by_cases c14 : 0 ≤ x27_1
    rotate_left
    ·rw [if_neg c14] at H
     exact absurd H (by simp)
    rw [if_pos c14] at H
    have c14b0 : decide (0 ≤ x27_1) = true := decide_eq_true c14
    clear c14
    by_cases c15 : x27_1 < (x4_1.length : Int)
    rotate_left
    ·rw [if_neg c15] at H
     exact absurd H (by simp)
    rw [if_pos c15] at H
    have c15b0 : decide (x27_1 < (x4_1.length : Int)) = true := decide_eq_true c15
    (try (have c15b0h := c15b0; simp only [hl4_1] at c15b0h))
    clear c15
    obtain ⟨y606, hy606⟩ : ∃ y_ : List Int, y_ = (x4_1.set (x27_1 : Int).toNat x27_1) := ⟨_, rfl⟩
    replace H : (ice_Rota.l0 k1 y606 (y603.length : Int) (wrap64 (x27_1 + 1)) l0) = some (r1, r2) := by first | (rw [hy606]; with_reducible exact H) | (have H2_ := (Option.bind_some _ _).symm.trans H; rw [hy606]; with_reducible exact H2_) | (have H2_ := (Option.bind_some _ _).symm.trans H; with_reducible exact H2_) | with_reducible exact H | (rw [hy606]; exact H) | exact H
    have Ny606 := A_ hy606
    clear hy606
    have H' := A_ H
    clear H
    have p16 : 0 ≤ (x27_1 : Int) := oD
    have q16 : (x27_1 : Int) < ((x4_1.length : Int) : Int) := oD
    obtain ⟨go16, co16, eo16, gb16, gl16, cl16, HG16⟩ := Kd.R_form HO_4.out (by omega)
    (first | cases eo16 | (injection eo16 with ea_ en_ ec_; (first | subst ea_ | (injection ea_ with ea_; subst ea_)); subst ec_; clear en_))
    have GB16 := A_ gb16
    have GG16 := A_ HG16
    clear gb16 gl16 HG16
    obtain ⟨hx16_0, hf16_0⟩ := Kd.R_celln 0 HO_4.out (x27_1 : Int) p16 q16
    replace p16 := eq_true p16
    replace q16 := eq_true q16
    have HP17 := Kd.R_putg HO_4.out (x27_1 : Int) x27_1
    go_wp2_with (first | ((with_reducible refine gate_store (t := 3) (p := 33) rfl ?_); refine store_event (t := 3) (p := 33) (v := ?vo_w18) (w1 := (wr.setCell ⟨go16, (x27_1 : Int).toNat, none⟩ (.int .i64 x27_1))) ?hg ?ho ?hn ?hr ?_; (case ho => rfl); (case hg => rfl); (case hn => rfl); (case hr => first | (go_simp; done) | (go_simp; rfl)); intro w18 hw; have hg : wr.grownBy w18 (some go16) := (by rw [hw]; exact HP17.2); have hp_ : Kd.R (Kd.int .i64) 3 w18 w.heap.size (fun _ => True) (.slice (some ⟨go16, 0, none⟩) x4_1.length co12) y606 := (by rw [hw, Ny606.out]; exact HP17.1); clear HP17; have n0_ := A_ (hp_); have n1_ := A_ (blk_grown (g := gb601) (o := .cells #[.slice A0 l0.length c0] 22 (0, 0)) (bkU BK601) hg (Kd.R_ne HO_4.out BK601.out (by decide))); have n2_ := A_ ((by rw [hw]; exact below_set (HB.out) GB16.out : Below w.heap.size w w18)); clear HO_4; clear BK601; clear HB; have HO_4 := n0_; have BK601 := n1_; have HB := n2_; clear n0_ n1_ n2_; clear hg hw hp_))
    (try simp only [← hl4_1])
    go_roundg k1
    case measure => have := HK1.out; omega
    case rel => exact ⟨(y606), (wrap64 (x27_1 + 1)), eS, H', ⟨by have := HK1.out; omega⟩, ⟨by (try simp only [hl4_1]); (with_reducible repeat (first | apply Kd.R_alloc | apply Kd.R_drewN | apply Kd.R_drew)); exact HO_4.out⟩, ⟨by (try simp only [hl4_1]); exact bkU BK601⟩, ⟨by repeat (first | (with_reducible first | exact HB.out | apply below_alloc | apply pw_below_drewN | apply below_drew1 | refine below_set ?_ GE601.out) | exact HB.out)⟩⟩
   rw [if_neg c13] at H
   have c13b0 : decide (x27_1 < (y603.length : Int)) = false := decide_eq_false c13
   (try (have c13b0h := c13b0; simp only [hl4_1] at c13b0h))
   clear c13
   replace H := Option.bind_eq_some_iff.mp H
   obtain ⟨t607, A190, H⟩ := H
   replace H : (ice_Rota.l1 k1 ([] : List Int) t607 (x4_1.length : Int) 0 l0) = some (r1, r2) := H
   have A19 := A_ A190
   clear A190
   have H' := A_ H
   clear H
   obtain ⟨V_, hV1, hV2, hV3⟩ := cut_world HB.out HGQ.out BK601.out
   go_wp2_with (first | ((with_reducible refine gate_callee (f := 76) rfl ?_); refine goesW_ (some 37) Try.func76 #[.slice Ao12 x4_1.length co12, .func (.func 77) #[] #[.pointer (some ⟨gb601, 0, none⟩)]] ?_; (with_reducible refine (slices_SortStableFunc_int_int.calls k1 (fun k_ => some k_ = (.slice Ao12 x4_1.length co12 : Value).ownBlock) (.slice Ao12 x4_1.length co12) x4_1 (enters_f Try.func77 (by kernel_rfl) rfl) (fun a_ b_ => ice_Rota_1.f a_ b_ l0) t607 V_ _ ?side1 ?side2 ?side3 A19.out).mono ?_); (case side1 => exact hV2); (case side2 => exact Kd.R_raise (d := (Kd.int .i64)) (b := w.heap.size) (b' := V_.heap.size) (fun _ _ _ _ h_ => h_) (Kd.R_tight rfl HO_4.out) (fun k_ e_ => by have h1_ := Kd.R_base HO_4.out k_ e_; have h2_ : gb601 ≠ k_ := fun h_ => (Kd.R_ne HO_4.out BK601.out (by decide)) (by rw [h_]; exact e_.symm); have h3_ := HGQ.out; omega)); (case side3 => intro z0_ z1_ q0_ W_ hW_ hq_; have hc_ := ice_Rota_1.calls z0_ z1_ gb601 _ _ l0 q0_ W_ (hV3 W_ hW_).1 (Kd.C_below HR0.out (hV3 W_ hW_).2) HC0.out hq_; exact hc_.mono (fun e_ w_ h_ => ⟨h_.1, (by obtain ⟨_, nd_, rfl⟩ := h_; exact pw_below_drewN (Below.refl _ _) _)⟩)); rintro e w20 ⟨rfl, hy0, hb, hkp⟩; refine ⟨_, rfl, ?_⟩; have n0_ := A_ (Kd.R_reok rfl (Kd.R_lower hy0 (show w.heap.size ≤ V_.heap.size by rw [hV1]; have h3_ := HGQ.out; omega)) (fun k_ e_ => HO_4.out.1 k_ e_)); have n1_ := A_ (blk_kept (bkU BK601) hkp (fun hs_ => (fun e_ => (Kd.R_ne HO_4.out BK601.out (by decide)) e_) hs_)); have n2_ := A_ ((hV3 _ hb).2); clear HO_4; clear BK601; clear HB; have HO_4 := n0_; have BK601 := n1_; have HB := n2_; clear n0_ n1_ n2_; (try clear hb); (try clear hkp); (try clear hy0)))
   clear hV1 hV2 hV3
   go_loopg [6, 40] k1 (fun kq v6 v40 w' => ∃ (x6_2 : List Int) (x40_2 : Int), v40 = .int .i64 x40_2 ∧ Aside0 (ice_Rota.l1 kq x6_2 t607 (x4_1.length : Int) x40_2 l0 = some (r1, r2)) ∧ Aside0 (kq ≤ k1) ∧ Aside0 (Kd.R (Kd.int .i64) 3 w' w.heap.size (fun k_ => some k_ ≠ ((.slice Ao12 x4_1.length co12) : Value).ownBlock) v6 x6_2) ∧ Aside0 (Kd.R (Kd.int .i64) 3 w' w.heap.size (fun k_ => some k_ ≠ (v6 : Value).ownBlock) (.slice Ao12 x4_1.length co12) t607) ∧ Aside0 (w'.heap[gb601]? = some (.cells #[(.slice A0 l0.length c0)] 22 (0, 0))) ∧ Aside0 (Below w.heap.size w w'))
   case atStart => exact ⟨(([] : List Int)), (0), eS, H', ⟨Nat.le_refl _⟩, ⟨by (try simp only [hl4_1]); first | exact Kd.R_nil _ _ _ _ _ | exact Kd.N_nil _ _ _ _ _ | exact Kd.V_nil _ _ _ _ _ | exact Kd.Q_nil _ _ _ _ _ | exact Kd.S_nil _ _ _ _ _⟩, ⟨by (try simp only [hl4_1]); (with_reducible repeat (first | apply Kd.R_alloc | apply Kd.R_drewN | apply Kd.R_drew)); exact Kd.R_mono HO_4.out (fun _ hk => (by simp [Value.ownBlock]))⟩, ⟨by (try simp only [hl4_1]); exact bkU BK601⟩, ⟨by repeat (first | (with_reducible first | exact HB.out | apply below_alloc | apply pw_below_drewN | apply below_drew1 | refine below_set ?_ GE601.out) | exact HB.out)⟩⟩
   case round =>
    clear H'
    try clear c1; try clear p1; try clear q1; try clear hx1; try clear hf1; try clear c2; try clear p2; try clear c3; try clear c4; try clear c4b0; try clear c4b1; try clear c5; try clear c5b0; try clear c5b1; try clear p6; try clear c7; try clear c13; try clear c13b0; try clear c14; try clear c14b0; try clear c15; try clear c15b0; try clear p16; try clear q16; try clear hx16; try clear hf16; try clear hcz7_0; try clear hcz9_0; try clear hfz7_0; try clear hfz9_0; try clear hx16_0; try clear p16; try clear p2; try clear q16
    obtain ⟨x6_2, x40_2, rfl, HA, HK2, HO_6, HO_38, BK601, HB⟩ := hrel
    have hl38_2 := (Kd.R_reads' HO_38.out).1
    rw [hl38_2] at HO_38
    (try simp only [hl38_2])
    (try simp only [hl38_2] at BK601)
    (try simp only [hl38_2] at HO_6)
    cases gk with
    | zero => exact absurd HA.out (by simp [ice_Rota.l1])
    | succ k2 =>
     have H := HA.out
     clear HA
     simp only [ice_Rota.l1] at H
     by_cases c21 : x40_2 < (x4_1.length : Int)
     rotate_left
     ·rw [if_neg c21] at H
      have c21b0 : decide (x40_2 < (x4_1.length : Int)) = false := decide_eq_false c21
      (try (have c21b0h := c21b0; simp only [hl4_1, hl38_2] at c21b0h))
      clear c21
      have h := H
      clear H
      obtain ⟨A0, c0, e0_⟩ := Kd.R_slice HO_6.out
      subst e0_
      obtain ⟨_, q0_, p0_⟩ := Kd.R_reads' HO_6.out
      obtain ⟨_, q1_, p1_⟩ := Kd.R_reads' HO_38.out
      have HB00 := A_ HB.out
      clear HR0 HC0 HB BK601 HO_6 HO_38 HK1 HK2
      obtain ⟨w, hw_⟩ : ∃ W_ : World, W_ = wr := ⟨_, rfl⟩
      subst hw_
      obtain ⟨l0, hl_⟩ : ∃ z_ : List Int, z_ = x6_2 := ⟨_, rfl⟩
      subst hl_
      obtain ⟨l1, hl_⟩ : ∃ z_ : List Int, z_ = t607 := ⟨_, rfl⟩
      subst hl_
      obtain ⟨k, hk_⟩ : ∃ z_ : Nat, z_ = k2 := ⟨_, rfl⟩
      subst hk_
      have HR0 := A_ p0_
      have HC0 := A_ q0_
      have HR1 := A_ p1_
      have HC1 := A_ q1_
      clear p0_ q0_ p1_ q1_
      have HB := A_ (Below.refl w.heap.size w)
      have H : ((ice_gameOf.f k l0).bind fun bt601 => ((ice_game_ever.f k bt601.1 bt601.2.1 bt601.2.2).bind fun bt605 => ((ice_game_first.f bt601.1 bt601.2.1 bt605.2).bind fun bt609 => (if 0 ≤ bt609.1 then (if bt609.1 < (bt605.1.length : Int) then (if rdOf false bt605.1 bt609.1 = true then ((ice_game_first.f bt601.1 bt601.2.1 bt609.2).bind fun bt612 => (ice_Rota.m0 k l1 bt605.1 ([] : List Int) ([] : List Int) bt612.1 bt601.1 bt601.2.1 bt612.2)) else (some (([] : List Int), 5))) else (none)) else (none))))) = some (r1, r2) := h
      clear h
      replace H := Option.bind_eq_some_iff.mp H
      obtain ⟨⟨t601, t602, t603⟩, A30, H⟩ := H
      replace H : ((ice_game_ever.f k t601 t602 t603).bind fun bt605 => ((ice_game_first.f t601 t602 bt605.2).bind fun bt609 => (if 0 ≤ bt609.1 then (if bt609.1 < (bt605.1.length : Int) then (if rdOf false bt605.1 bt609.1 = true then ((ice_game_first.f t601 t602 bt609.2).bind fun bt612 => (ice_Rota.m0 k l1 bt605.1 ([] : List Int) ([] : List Int) bt612.1 t601 t602 bt612.2)) else (some (([] : List Int), 5))) else (none)) else (none)))) = some (r1, r2) := H
      have A3 := A_ A30
      clear A30
      replace H := Option.bind_eq_some_iff.mp H
      obtain ⟨⟨t605, t608⟩, A40, H⟩ := H
      replace H : ((ice_game_first.f t601 t602 t608).bind fun bt609 => (if 0 ≤ bt609.1 then (if bt609.1 < (t605.length : Int) then (if rdOf false t605 bt609.1 = true then ((ice_game_first.f t601 t602 bt609.2).bind fun bt612 => (ice_Rota.m0 k l1 t605 ([] : List Int) ([] : List Int) bt612.1 t601 t602 bt612.2)) else (some (([] : List Int), 5))) else (none)) else (none))) = some (r1, r2) := H
      have A4 := A_ A40
      clear A40
      replace H := Option.bind_eq_some_iff.mp H
      obtain ⟨⟨t609, t610⟩, A50, H⟩ := H
      replace H : (if 0 ≤ t609 then (if t609 < (t605.length : Int) then (if rdOf false t605 t609 = true then ((ice_game_first.f t601 t602 t610).bind fun bt612 => (ice_Rota.m0 k l1 t605 ([] : List Int) ([] : List Int) bt612.1 t601 t602 bt612.2)) else (some (([] : List Int), 5))) else (none)) else (none)) = some (r1, r2) := H
      have A5 := A_ A50
      clear A50
      by_cases c6 : 0 ≤ t609
      rotate_left
      ·rw [if_neg c6] at H
       exact absurd H (by simp)
      rw [if_pos c6] at H
      have c6b0 : decide (0 ≤ t609) = true := decide_eq_true c6
      clear c6
      by_cases c7 : t609 < (t605.length : Int)
      rotate_left
      ·rw [if_neg c7] at H
       exact absurd H (by simp)
      rw [if_pos c7] at H
      have c7b0 : decide (t609 < (t605.length : Int)) = true := decide_eq_true c7
      clear c7
      obtain ⟨bq8, hbq8⟩ : ∃ b_ : Bool, b_ = (rdOf false t605 t609) := ⟨_, rfl⟩
      replace H : (if bq8 = true then ((ice_game_first.f t601 t602 t610).bind fun bt612 => (ice_Rota.m0 k l1 t605 ([] : List Int) ([] : List Int) bt612.1 t601 t602 bt612.2)) else (some (([] : List Int), 5))) = some (r1, r2) := by rw [← hbq8] at H; exact H
      have Nbq8 := A_ hbq8
      clear hbq8
      by_cases c9 : bq8 = true
      rotate_left
      ·replace c9 := Bool.eq_false_iff.mpr c9
       subst c9
       have H1 : (some (([] : List Int), 5)) = some (r1, r2) := by rw [if_neg (show ¬ (false = true) by decide)] at H; exact H
       clear H
       have H := H1
       clear H1
       simp only [Option.some.injEq, Prod.mk.injEq] at H
       obtain ⟨rfl, rfl⟩ := H
       go_wp2_with (first | ((with_reducible refine gate_callee (f := 53) rfl ?_); refine goesW_ (some 53) Try.func53 #[.slice A0 l0.length c0] ?_; (with_reducible refine (ice_gameOf.calls k _ _ l0 t601 t602 t603 w _ ?side1 ?side2 ?side3 A3.out).mono ?_); (case side1 => repeat (first | (with_reducible first | exact HB.out | apply below_alloc | apply pw_below_drewN | apply below_drew1) | exact HB.out)); (case side2 => exact HR0.out); (case side3 => exact HC0.out); rintro e w ⟨g604, rfl, hi, hb, hb2⟩; refine ⟨_, rfl, ?_⟩; have n0_ := A_ (hb); have n1_ := A_ (hi); clear HB; have HB := n0_; have HI604 := n1_; clear n0_ n1_; have HB00_ := A_ (below_step HB00.out HB.out); have n_ := A_ (Kd.C_below HR0.out HB.out); clear HR0; have HR0 := n_; clear n_; have n_ := A_ (Kd.C_below HR1.out HB.out); clear HR1; have HR1 := n_; clear n_; clear HB00 HB; have HB00 := HB00_; clear HB00_; have HB := A_ (Below.refl w.heap.size w); (try clear hb); (try clear hb2); (try clear hk); (try clear hi)) | ((with_reducible refine gate_callee (f := 54) rfl ?_); refine goesW_ (some 55) Try.func54 #[.pointer (some ⟨g604, 0, none⟩)] ?_; (with_reducible refine (ice_game_ever.calls k g604 t601 t602 t603 t605 t608 w _ ?side1 ?side2 A4.out).mono ?_); (case side1 => repeat (first | (with_reducible first | exact HI604.out | apply IsS87.alloc | apply IsS87.drewN | apply IsS87.drew | apply IsS87.set_2) | exact HI604.out)); (case side2 => repeat (first | (with_reducible first | exact HB.out | apply below_alloc | apply pw_below_drewN | apply below_drew1 | refine below_set ?_ (IsS87.ge HI604.out)) | exact HB.out)); rintro e w41 ⟨v606, rfl, ho0, hi, hb, hk⟩; refine ⟨_, rfl, ?_⟩; have n0_ := A_ (Kd.R_lower ho0 (below_size (by repeat (first | (with_reducible first | exact HB.out | apply below_alloc | apply pw_below_drewN | apply below_drew1 | refine below_set ?_ (IsS87.ge HI604.out)) | exact HB.out)))); have n1_ := A_ (hb); have n2_ := A_ (hi); clear HB; clear HI604; have HO607 := n0_; have HB := n1_; have HI604 := n2_; clear n0_ n1_ n2_; (try clear hb); (try clear hk); (try clear hi); (try clear ho0)) | ((with_reducible refine gate_callee (f := 59) rfl ?_); refine goesW_ (some 58) Try.func59 #[.pointer (some ⟨g604, 0, none⟩)] ?_; (with_reducible refine (ice_game_first.calls g604 t601 t602 t608 t609 t610 w _ ?side1 ?side2 A5.out).mono ?_); (case side1 => repeat (first | (with_reducible first | exact HI604.out | apply IsS87.alloc | apply IsS87.drewN | apply IsS87.drew | apply IsS87.set_2) | exact HI604.out)); (case side2 => repeat (first | (with_reducible first | exact HB.out | apply below_alloc | apply pw_below_drewN | apply below_drew1 | refine below_set ?_ (IsS87.ge HI604.out)) | exact HB.out)); rintro e w42 ⟨rfl, hi, hb, hk⟩; refine ⟨_, rfl, ?_⟩; have n0_ := A_ (Kd.R_mono (Kd.R_keep (IsS87.apart (show IsS87 w _ g604 t601 t602 t608 from by repeat (first | (with_reducible first | exact HI604.out | apply IsS87.alloc | apply IsS87.drewN | apply IsS87.drew | apply IsS87.set_2) | exact HI604.out)) (rU HO607.out) (by decide)) hk (fun _ h => h.2)) (fun _ h => h.1)); have n1_ := A_ (hb); have n2_ := A_ (hi); clear HO607; clear HB; clear HI604; have HO607 := n0_; have HB := n1_; have HI604 := n2_; clear n0_ n1_ n2_; (try clear hb); (try clear hk); (try clear hi); obtain ⟨Ao43, co43, eo43⟩ := Kd.R_slice HO607.out; subst eo43; have p611 : 0 ≤ (t609 : Int) := oD; have q611 : t609 < (t605.length : Int) := oD; obtain ⟨ad611, e611, hx611_0⟩ := Kd.at_bool (Kd.R_reads' HO607.out).2.2 t609 p611 q611; (try rw [← Nbq8.out] at hx611_0); cases e611; replace p611 := eq_true p611; replace q611 := eq_true q611))
       go_ret2
       exact ⟨_, by first | rfl | (simp [errW_none, errW_some] <;> rfl) | (simp [*, errW_none, errW_some] <;> rfl), Kd.Q_of_R (by first | exact Kd.R_nil _ _ _ _ _ | exact Kd.N_nil _ _ _ _ _ | exact Kd.V_nil _ _ _ _ _ | exact Kd.Q_nil _ _ _ _ _ | exact Kd.S_nil _ _ _ _ _), below_step HB00.out (by repeat (first | (with_reducible first | exact HB.out | apply below_alloc | apply pw_below_drewN | apply below_drew1 | refine below_set ?_ (IsS87.ge HI604.out)) | exact HB.out))⟩
      subst c9
      have H1 : ((ice_game_first.f t601 t602 t610).bind fun bt612 => (ice_Rota.m0 k l1 t605 ([] : List Int) ([] : List Int) bt612.1 t601 t602 bt612.2)) = some (r1, r2) := by rw [if_pos rfl] at H; exact H
      clear H
      have H := H1
      clear H1
      replace H := Option.bind_eq_some_iff.mp H
      obtain ⟨⟨t612, t613⟩, A100, H⟩ := H
      replace H : (ice_Rota.m0 k l1 t605 ([] : List Int) ([] : List Int) t612 t601 t602 t613) = some (r1, r2) := H
      have A10 := A_ A100
      clear A100
      have H' := A_ H
      clear H
      go_wp2_with (first | ((with_reducible refine gate_callee (f := 53) rfl ?_); refine goesW_ (some 53) Try.func53 #[.slice A0 l0.length c0] ?_; (with_reducible refine (ice_gameOf.calls k _ _ l0 t601 t602 t603 w _ ?side1 ?side2 ?side3 A3.out).mono ?_); (case side1 => repeat (first | (with_reducible first | exact HB.out | apply below_alloc | apply pw_below_drewN | apply below_drew1) | exact HB.out)); (case side2 => exact HR0.out); (case side3 => exact HC0.out); rintro e w ⟨g604, rfl, hi, hb, hb2⟩; refine ⟨_, rfl, ?_⟩; have n0_ := A_ (hb); have n1_ := A_ (hi); clear HB; have HB := n0_; have HI604 := n1_; clear n0_ n1_; have HB00_ := A_ (below_step HB00.out HB.out); have n_ := A_ (Kd.C_below HR0.out HB.out); clear HR0; have HR0 := n_; clear n_; have n_ := A_ (Kd.C_below HR1.out HB.out); clear HR1; have HR1 := n_; clear n_; clear HB00 HB; have HB00 := HB00_; clear HB00_; have HB := A_ (Below.refl w.heap.size w); (try clear hb); (try clear hb2); (try clear hk); (try clear hi)) | ((with_reducible refine gate_callee (f := 54) rfl ?_); refine goesW_ (some 55) Try.func54 #[.pointer (some ⟨g604, 0, none⟩)] ?_; (with_reducible refine (ice_game_ever.calls k g604 t601 t602 t603 t605 t608 w _ ?side1 ?side2 A4.out).mono ?_); (case side1 => repeat (first | (with_reducible first | exact HI604.out | apply IsS87.alloc | apply IsS87.drewN | apply IsS87.drew | apply IsS87.set_2) | exact HI604.out)); (case side2 => repeat (first | (with_reducible first | exact HB.out | apply below_alloc | apply pw_below_drewN | apply below_drew1 | refine below_set ?_ (IsS87.ge HI604.out)) | exact HB.out)); rintro e w12 ⟨v606, rfl, ho0, hi, hb, hk⟩; refine ⟨_, rfl, ?_⟩; have n0_ := A_ (Kd.R_lower ho0 (below_size (by repeat (first | (with_reducible first | exact HB.out | apply below_alloc | apply pw_below_drewN | apply below_drew1 | refine below_set ?_ (IsS87.ge HI604.out)) | exact HB.out)))); have n1_ := A_ (hb); have n2_ := A_ (hi); clear HB; clear HI604; have HO607 := n0_; have HB := n1_; have HI604 := n2_; clear n0_ n1_ n2_; (try clear hb); (try clear hk); (try clear hi); (try clear ho0)) | ((with_reducible refine gate_callee (f := 59) rfl ?_); refine goesW_ (some 58) Try.func59 #[.pointer (some ⟨g604, 0, none⟩)] ?_; (with_reducible refine (ice_game_first.calls g604 t601 t602 t608 t609 t610 w _ ?side1 ?side2 A5.out).mono ?_); (case side1 => repeat (first | (with_reducible first | exact HI604.out | apply IsS87.alloc | apply IsS87.drewN | apply IsS87.drew | apply IsS87.set_2) | exact HI604.out)); (case side2 => repeat (first | (with_reducible first | exact HB.out | apply below_alloc | apply pw_below_drewN | apply below_drew1 | refine below_set ?_ (IsS87.ge HI604.out)) | exact HB.out)); rintro e w13 ⟨rfl, hi, hb, hk⟩; refine ⟨_, rfl, ?_⟩; have n0_ := A_ (Kd.R_mono (Kd.R_keep (IsS87.apart (show IsS87 w _ g604 t601 t602 t608 from by repeat (first | (with_reducible first | exact HI604.out | apply IsS87.alloc | apply IsS87.drewN | apply IsS87.drew | apply IsS87.set_2) | exact HI604.out)) (rU HO607.out) (by decide)) hk (fun _ h => h.2)) (fun _ h => h.1)); have n1_ := A_ (hb); have n2_ := A_ (hi); clear HO607; clear HB; clear HI604; have HO607 := n0_; have HB := n1_; have HI604 := n2_; clear n0_ n1_ n2_; (try clear hb); (try clear hk); (try clear hi); obtain ⟨Ao14, co14, eo14⟩ := Kd.R_slice HO607.out; subst eo14; have p611 : 0 ≤ (t609 : Int) := oD; have q611 : t609 < (t605.length : Int) := oD; obtain ⟨ad611, e611, hx611_0⟩ := Kd.at_bool (Kd.R_reads' HO607.out).2.2 t609 p611 q611; (try rw [← Nbq8.out] at hx611_0); cases e611; replace p611 := eq_true p611; replace q611 := eq_true q611) | ((with_reducible refine gate_dst (N := 62) rfl ?_); refine map_event w.heap.size (below_size (by repeat (first | (with_reducible first | exact HB.out | apply below_alloc | apply pw_below_drewN | apply below_drew1 | refine below_set ?_ (IsS87.ge HI604.out)) | exact HB.out))) ?hg (N := 62) ?hd ?hr ?_; (case hd => rfl); (case hg => rfl); (case hr => first | (go_simp; done) | (go_simp; rfl)); intro gbm w62 hm hb; have n0_ := A_ (Kd.R_below (rU HO607.out) hb); have n1_ := A_ (IsS87.below (by repeat (first | (with_reducible first | exact HI604.out | apply IsS87.alloc | apply IsS87.drewN | apply IsS87.drew) | exact HI604.out)) hb); have n2_ := A_ (below_step (by repeat (first | (with_reducible first | exact HB.out | apply below_alloc | apply pw_below_drewN | apply below_drew1 | refine below_set ?_ (IsS87.ge HI604.out)) | exact HB.out)) hb); have HM := A_ hm; clear hm; clear HO607; clear HI604; clear HB; have HO607 := n0_; have HI604 := n1_; have HB := n2_; clear n0_ n1_ n2_; clear hb) | ((with_reducible refine gate_callee (f := 59) rfl ?_); refine goesW_ (some 64) Try.func59 #[.pointer (some ⟨g604, 0, none⟩)] ?_; (with_reducible refine (ice_game_first.calls g604 t601 t602 t610 t612 t613 w _ ?side1 ?side2 A10.out).mono ?_); (case side1 => repeat (first | (with_reducible first | exact HI604.out | apply IsS87.alloc | apply IsS87.drewN | apply IsS87.drew | apply IsS87.set_2) | exact HI604.out)); (case side2 => repeat (first | (with_reducible first | exact HB.out | apply below_alloc | apply pw_below_drewN | apply below_drew1 | refine below_set ?_ (IsS87.ge HI604.out)) | exact HB.out)); rintro e w15 ⟨rfl, hi, hb, hk⟩; refine ⟨_, rfl, ?_⟩; have HM_ := A_ (OwnsAt.keepS (by repeat (first | (with_reducible first | exact HM.out | apply OwnsAt.alloc | apply OwnsAt.drewN | apply OwnsAt.drew) | exact HM.out)) (by repeat (first | (with_reducible first | exact HI604.out | apply IsS87.alloc | apply IsS87.drewN | apply IsS87.drew) | exact HI604.out)) hk); clear HM; have HM := HM_; clear HM_; have n0_ := A_ (Kd.R_mono (Kd.R_keep (IsS87.apart (show IsS87 w _ g604 t601 t602 t610 from by repeat (first | (with_reducible first | exact HI604.out | apply IsS87.alloc | apply IsS87.drewN | apply IsS87.drew | apply IsS87.set_2) | exact HI604.out)) (rU HO607.out) (by decide)) hk (fun _ h => h.2)) (fun _ h => h.1)); have n1_ := A_ (hb); have n2_ := A_ (hi); clear HO607; clear HB; clear HI604; have HO607 := n0_; have HB := n1_; have HI604 := n2_; clear n0_ n1_ n2_; (try clear hb); (try clear hk); (try clear hi)))
      go_loopg [12, 13] k (fun kq v12 v13 w' => ∃ (x11_1 : List Int) (x12_1 : List Int) (x13_1 : Int) (x605002_1 : Int), v13 = .int .i64 x13_1 ∧ Aside0 (ice_Rota.m0 kq l1 t605 x11_1 x12_1 x13_1 t601 t602 x605002_1 = some (r1, r2)) ∧ Aside0 (kq ≤ k) ∧ Aside0 (Kd.R Kd.bool 4 w' w.heap.size (fun _ => True) (.slice (some ad611) t605.length co14) t605) ∧ Aside0 (OwnsAt w' gbm w.heap.size x11_1) ∧ Aside0 (x12_1.length = x11_1.length) ∧ Aside0 (Kd.Q (Kd.int .i64) 3 w' w.heap.size (fun _ => True) v12 x12_1) ∧ Aside0 (IsS87 w w' g604 t601 t602 x605002_1) ∧ Aside0 (Below w.heap.size w w'))
      case atStart => exact ⟨(([] : List Int)), (([] : List Int)), (t612), (t613), eS, H', ⟨Nat.le_refl _⟩, ⟨rU HO607.out⟩, ⟨by repeat (first | (with_reducible first | exact HM.out | apply OwnsAt.alloc | apply OwnsAt.drewN | apply OwnsAt.drew) | exact HM.out)⟩, ⟨rfl⟩, ⟨Kd.Q_of_R (by first | exact Kd.R_nil _ _ _ _ _ | exact Kd.N_nil _ _ _ _ _ | exact Kd.V_nil _ _ _ _ _ | exact Kd.Q_nil _ _ _ _ _ | exact Kd.S_nil _ _ _ _ _)⟩, ⟨by repeat (first | (with_reducible first | exact HI604.out | apply IsS87.alloc | apply IsS87.drewN | apply IsS87.drew | apply IsS87.set_2) | exact HI604.out)⟩, ⟨by repeat (first | (with_reducible first | exact HB.out | apply below_alloc | apply pw_below_drewN | apply below_drew1 | refine below_set ?_ (IsS87.ge HI604.out)) | exact HB.out)⟩⟩
      case round =>
       clear H'
       try clear c1; try clear p2; try clear c4; try clear c5; try clear c6; try clear c6b0; try clear p6; try clear q6; try clear hx6; try clear c7; try clear c7b0; try clear q8; try clear c9; try clear hx611_0; try clear p611; try clear q611
       obtain ⟨x11_1, x12_1, x13_1, x605002_1, rfl, HA, HK1, HO_10, HM, HLN, HO_12, HI604, HB⟩ := hrel
       cases gk with
       | zero => exact absurd HA.out (by simp [ice_Rota.m0])
       | succ k1 =>
        have H := HA.out
        clear HA
        simp only [ice_Rota.m0] at H
        by_cases cw : (Lit.int .i64 x13_1).wf = true
        rotate_left
        ·rw [if_neg cw] at H
         exact absurd H (by simp)
        rw [if_pos cw] at H
        have HWF := A_ cw
        clear cw
        replace H := Option.bind_eq_some_iff.mp H
        obtain ⟨t614, A160, H⟩ := H
        replace H : (if t614 = (-1) then (if x11_1.length < 17592186044416 then ((ice_game_urgent.f k1 t601 t602 x605002_1 x13_1 t605).bind fun bt618 => (if x12_1.length < 17592186044416 then ((ice_game_tonight.f k1 t601 t602 bt618.2 x13_1 bt618.1).bind fun bt623 => (ice_Rota.m0 k1 l1 t605 (x11_1 ++ [x13_1]) (x12_1 ++ [bt618.1]) bt623.1 t601 t602 bt623.2)) else (none))) else (none)) else (if 0 ≤ t614 then (if t614 ≤ (x12_1.length : Int) then ((some (x12_1.drop (t614 : Int).toNat : List Int)).bind fun y625 => (ice_Rota.m1 k1 l1 y625 (y625.length : Int) 0)) else (none)) else (none))) = some (r1, r2) := H
        have A16 := A_ A160
        clear A160
        by_cases c17 : t614 = (-1)
        rotate_left
        ·rw [if_neg c17] at H
         have c17b0 : (t614 == (-1)) = false := beq_eq_false_iff_ne.mpr c17
         have c17b1 : (t614 != (-1)) = true := bne_iff_ne.mpr c17
         by_cases c27 : 0 ≤ t614
         rotate_left
         ·rw [if_neg c27] at H
          exact absurd H (by simp)
         rw [if_pos c27] at H
         have c27b0 := eq_true c27
         have c27b1 : decide (0 ≤ t614) = true := decide_eq_true c27
         clear c27
         by_cases c28 : t614 ≤ (x12_1.length : Int)
         rotate_left
         ·rw [if_neg c28] at H
          exact absurd H (by simp)
         rw [if_pos c28] at H
         have c28b0 := eq_true c28
         have c28b1 : decide (t614 ≤ (x12_1.length : Int)) = true := decide_eq_true c28
         clear c28
         obtain ⟨y625, hy625⟩ : ∃ y_ : List Int, y_ = (x12_1.drop (t614 : Int).toNat) := ⟨_, rfl⟩
         replace H : (ice_Rota.m1 k1 l1 y625 (y625.length : Int) 0) = some (r1, r2) := by first | (rw [hy625]; with_reducible exact H) | (have H2_ := (Option.bind_some _ _).symm.trans H; rw [hy625]; with_reducible exact H2_) | (have H2_ := (Option.bind_some _ _).symm.trans H; with_reducible exact H2_) | with_reducible exact H | (rw [hy625]; exact H) | exact H
         have Ny625 := A_ hy625
         clear hy625
         have H' := A_ H
         clear H
         have HIX := A_ (index_spec A16.out)
         have HNM := A_ c17
         go_wp2_with (first | ((at_lookup; refine wp_lookup_at _ rfl _ _ rfl gbm w.heap.size x11_1 rfl (by repeat (first | (with_reducible first | exact HM.out | apply OwnsAt.alloc | apply OwnsAt.drewN | apply OwnsAt.drew) | exact HM.out)) x13_1 rfl HWF.out true (ix_true HIX.out HNM.out) t614 (fun _ => ix_at HIX.out HNM.out) (fun h_ => absurd h_ (by decide)) ?_); obtain ⟨Ao30, co30, eo30, _⟩ := Kd.Q_slice HO_12.out; subst eo30; have q31 : (t614 : Int) ≤ ((x12_1.length : Int) : Int) := oD; obtain ⟨i031, hi031, _, hsz31, _⟩ := info_parts info3; have hcut31 := cut_from (P := Try.prog) 22 3 .i64 Try.underlying22 hi031 1 hsz31 Ao30 x12_1.length co30 t614 (oD) q31; have hr31 := Kd.Q_drop (k := (t614 : Int).toNat) HO_12.out (by omega); obtain ⟨A31, hA31⟩ : ∃ A1, A1 = (if co30 = (t614 : Int).toNat then Ao30 else (Ao30 : Option Addr).map (·.add ((t614 : Int).toNat * 1))) := ⟨_, rfl⟩; obtain ⟨c31, hc31⟩ : ∃ c1, c1 = co30 - (t614 : Int).toNat := ⟨_, rfl⟩; have hy31 : y625.length = x12_1.length - (t614 : Int).toNat := (by rw [Ny625.out, List.length_drop]); rw [← Ny625.out] at hr31; rw [← hy31, ← hA31, ← hc31] at hcut31; replace hr31 : Kd.Q (Kd.int .i64) 3 wr w.heap.size (fun _ => True) (.slice A31 y625.length c31) y625 := (by rw [hA31, hc31, hy31]; exact hr31); clear hy31 hi031 hsz31 HO_12 hA31 hc31; have HO627 := A_ hr31; clear hr31; replace q31 := eq_true q31; skip))
         go_loopg [93] k1 (fun kq v93 w' => ∃ (x12_2 : List Int) (x93_2 : Int), v93 = .int .i64 x93_2 ∧ Aside0 (ice_Rota.m1 kq l1 x12_2 (y625.length : Int) x93_2 = some (r1, r2)) ∧ Aside0 (kq ≤ k1) ∧ Aside0 (Kd.Q (Kd.int .i64) 3 w' w.heap.size (fun _ => True) (.slice A31 y625.length c31) x12_2) ∧ Aside0 (Below w.heap.size w w'))
         case atStart => exact ⟨(y625), (0), eS, H', ⟨Nat.le_refl _⟩, ⟨by (with_reducible repeat (first | apply Kd.Q_alloc | apply Kd.Q_drewN | apply Kd.Q_drew)); exact Kd.Q_mono HO627.out (fun _ hk => trivial)⟩, ⟨by repeat (first | (with_reducible first | exact HB.out | apply below_alloc | apply pw_below_drewN | apply below_drew1 | refine below_set ?_ (IsS87.ge HI604.out)) | exact HB.out)⟩⟩
         case round =>
          clear H'
          try clear c1; try clear c2; try clear p2; try clear c3; try clear q3; try clear c4; try clear c5; try clear c6; try clear c6b0; try clear p6; try clear q6; try clear hx6; try clear c7; try clear c7b0; try clear q8; try clear c9; try clear c17; try clear c17b0; try clear c17b1; try clear c18; try clear c20; try clear c27; try clear c27b0; try clear c27b1; try clear c28; try clear c28b0; try clear c28b1; try clear c31; try clear q31; try clear hx611_0; try clear p2; try clear p6; try clear p611; try clear q31; try clear q6; try clear q611; try clear q8
          obtain ⟨x12_2, x93_2, rfl, HA, HK2, HO_12, HB⟩ := hrel
          have hl12_2 := (Kd.Q_reads' HO_12.out).1
          rw [hl12_2] at HO_12
          (try simp only [hl12_2])
          cases gk with
          | zero => exact absurd HA.out (by simp [ice_Rota.m1])
          | succ k2 =>
           have H := HA.out
           clear HA
           simp only [ice_Rota.m1] at H
           by_cases c32 : x93_2 < (y625.length : Int)
           rotate_left
           ·rw [if_neg c32] at H
            have c32b0 : decide (x93_2 < (y625.length : Int)) = false := decide_eq_false c32
            (try (have c32b0h := c32b0; simp only [hl12_2] at c32b0h))
            clear c32
            simp only [Option.some.injEq, Prod.mk.injEq] at H
            obtain ⟨rfl, rfl⟩ := H
            go_wp2
            go_ret2
            exact ⟨_, by first | rfl | (simp [errW_none, errW_some] <;> rfl) | (simp [*, errW_none, errW_some] <;> rfl), Kd.Q_lower (by (with_reducible repeat (first | apply Kd.Q_alloc | apply Kd.Q_drewN | apply Kd.Q_drew)); exact HO_12.out) (below_size HB00.out), below_step HB00.out (bW0 HB.out)⟩
           rw [if_pos c32] at H
           have c32b0 : decide (x93_2 < (y625.length : Int)) = true := decide_eq_true c32
           (try (have c32b0h := c32b0; simp only [hl12_2] at c32b0h))
           clear c32
           by_cases c33 : 0 ≤ x93_2
           rotate_left
           ·rw [if_neg c33] at H
            exact absurd H (by simp)
           rw [if_pos c33] at H
           have c33b0 : decide (0 ≤ x93_2) = true := decide_eq_true c33
           clear c33
           by_cases c34 : x93_2 < (x12_2.length : Int)
           rotate_left
           ·rw [if_neg c34] at H
            exact absurd H (by simp)
           rw [if_pos c34] at H
           have c34b0 : decide (x93_2 < (x12_2.length : Int)) = true := decide_eq_true c34
           (try (have c34b0h := c34b0; simp only [hl12_2] at c34b0h))
           clear c34
           by_cases c35 : 0 ≤ (rd x12_2 x93_2)
           rotate_left
           ·rw [if_neg c35] at H
            exact absurd H (by simp)
           rw [if_pos c35] at H
           have c35b0 : decide (0 ≤ (rd x12_2 x93_2)) = true := decide_eq_true c35
           clear c35
           by_cases c36 : (rd x12_2 x93_2) < (l1.length : Int)
           rotate_left
           ·rw [if_neg c36] at H
            exact absurd H (by simp)
           rw [if_pos c36] at H
           have c36b0 : decide ((rd x12_2 x93_2) < (l1.length : Int)) = true := decide_eq_true c36
           (try (have c36b0h := c36b0; simp only [hl12_2] at c36b0h))
           clear c36
           obtain ⟨y630, hy630⟩ : ∃ y_ : List Int, y_ = (x12_2.set (x93_2 : Int).toNat (rd l1 (rd x12_2 x93_2))) := ⟨_, rfl⟩
           replace H : (ice_Rota.m1 k2 l1 y630 (y625.length : Int) (wrap64 (x93_2 + 1))) = some (r1, r2) := by first | (rw [hy630]; with_reducible exact H) | (have H2_ := (Option.bind_some _ _).symm.trans H; rw [hy630]; with_reducible exact H2_) | (have H2_ := (Option.bind_some _ _).symm.trans H; with_reducible exact H2_) | with_reducible exact H | (rw [hy630]; exact H) | exact H
           have Ny630 := A_ hy630
           clear hy630
           have H' := A_ H
           clear H
           have p628 : 0 ≤ (x93_2 : Int) := oD
           have q628 : x93_2 < (x12_2.length : Int) := oD
           obtain ⟨ad628, e628, hx628_0⟩ := Kd.at_int (Kd.Q_reads' HO_12.out).2.2 x93_2 p628 q628
           cases e628
           replace p628 := eq_true p628
           replace q628 := eq_true q628
           have p629 : 0 ≤ ((rd x12_2 x93_2) : Int) := oD
           have q629 : (rd x12_2 x93_2) < (l1.length : Int) := oD
           obtain ⟨ad629, e629, hx629_0⟩ := Kd.at_int HR1.out (rd x12_2 x93_2) p629 q629
           cases e629
           replace hx629_0 := (HB.out.cell (World.block_lt_of_cell? w _ hx629_0)).trans hx629_0
           replace p629 := eq_true p629
           replace q629 := eq_true q629
           have p37 : 0 ≤ (x93_2 : Int) := oD
           have q37 : (x93_2 : Int) < ((x12_2.length : Int) : Int) := oD
           obtain ⟨go37, oo37, co37, eo37, gb37, gl37, cl37, HG37⟩ := Kd.Q_form HO_12.out (by omega)
           (first | cases eo37 | (injection eo37 with ea_ en_ ec_; (first | subst ea_ | (injection ea_ with ea_; subst ea_)); subst ec_; clear en_))
           have GB37 := A_ gb37
           have GG37 := A_ HG37
           clear gb37 gl37 HG37
           (first | simp only [add_at] at hx628_0 | skip)
           obtain ⟨hx37_0, hf37_0⟩ := Kd.Q_cell 0 HO_12.out (x93_2 : Int) p37 q37
           replace p37 := eq_true p37
           replace q37 := eq_true q37
           have HP38 := Kd.Q_putg HO_12.out (x93_2 : Int) (oD) (by have h_ : (x93_2 : Int) < ((x12_2.length : Int) : Int) := oD; first | exact h_ | (have e_ := (Kd.Q_reads' HO_12.out).1; omega) | simpa using h_) (rd l1 (rd x12_2 x93_2))
           go_wp2_with (first | ((with_reducible refine gate_store (t := 3) (p := 104) rfl ?_); refine store_event (t := 3) (p := 104) (v := ?vo_w39) (w1 := (wr.setCell ⟨go37, oo37 + (x93_2 : Int).toNat, none⟩ (.int .i64 (rd l1 (rd x12_2 x93_2))))) ?hg ?ho ?hn ?hr ?_; (case ho => rfl); (case hg => rfl); (case hn => rfl); (case hr => first | (go_simp; done) | (go_simp; rfl)); intro w39 hw; have hg : wr.grownBy w39 (some go37) := (by rw [hw]; exact HP38.2); have hp_ : Kd.Q (Kd.int .i64) 3 w39 w.heap.size (fun _ => True) (.slice (some ⟨go37, oo37, none⟩) x12_2.length c31) y630 := (by rw [hw, Ny630.out]; exact HP38.1); clear HP38; have n0_ := A_ (hp_); have n1_ := A_ ((by rw [hw]; exact below_set (HB.out) GB37.out : Below w.heap.size w w39)); clear HO_12; clear HB; have HO_12 := n0_; have HB := n1_; clear n0_ n1_; clear hg hw hp_))
           (try simp only [← hl12_2])
           go_roundg k2
           case measure => have := HK1.out; have := HK2.out; omega
           case rel => exact ⟨(y630), (wrap64 (x93_2 + 1)), eS, H', ⟨by have := HK1.out; have := HK2.out; omega⟩, ⟨by (try simp only [hl12_2]); (with_reducible repeat (first | apply Kd.Q_alloc | apply Kd.Q_drewN | apply Kd.Q_drew)); exact HO_12.out⟩, ⟨by repeat (first | (with_reducible first | exact HB.out | apply below_alloc | apply pw_below_drewN | apply below_drew1) | exact HB.out)⟩⟩
        rw [if_pos c17] at H
        have HNM := A_ c17
        have c17b0 : (t614 == (-1)) = true := beq_iff_eq.mpr c17
        have c17b1 : (t614 != (-1)) = false := bne_eq_false_iff_eq.mpr c17
        clear c17
        by_cases c18 : x11_1.length < 17592186044416
        rotate_left
        ·rw [if_neg c18] at H
         exact absurd H (by simp)
        rw [if_pos c18] at H
        have LMc18 := A_ c18
        clear c18
        obtain ⟨y615, hy615⟩ : ∃ y_ : List Int, y_ = (x11_1 ++ [x13_1]) := ⟨_, rfl⟩
        replace H : ((ice_game_urgent.f k1 t601 t602 x605002_1 x13_1 t605).bind fun bt618 => (if x12_1.length < 17592186044416 then ((ice_game_tonight.f k1 t601 t602 bt618.2 x13_1 bt618.1).bind fun bt623 => (ice_Rota.m0 k1 l1 t605 y615 (x12_1 ++ [bt618.1]) bt623.1 t601 t602 bt623.2)) else (none))) = some (r1, r2) := by first | (rw [hy615]; with_reducible exact H) | (have H2_ := (Option.bind_some _ _).symm.trans H; rw [hy615]; with_reducible exact H2_) | (have H2_ := (Option.bind_some _ _).symm.trans H; with_reducible exact H2_) | with_reducible exact H | (rw [hy615]; exact H) | exact H
        have Ny615 := A_ hy615
        clear hy615
        replace H := Option.bind_eq_some_iff.mp H
        obtain ⟨⟨t618, t619⟩, A190, H⟩ := H
        replace H : (if x12_1.length < 17592186044416 then ((ice_game_tonight.f k1 t601 t602 t619 x13_1 t618).bind fun bt623 => (ice_Rota.m0 k1 l1 t605 y615 (x12_1 ++ [t618]) bt623.1 t601 t602 bt623.2)) else (none)) = some (r1, r2) := H
        have A19 := A_ A190
        clear A190
        by_cases c20 : x12_1.length < 17592186044416
        rotate_left
        ·rw [if_neg c20] at H
         exact absurd H (by simp)
        rw [if_pos c20] at H
        have LMc20 := A_ c20
        clear c20
        obtain ⟨y620, hy620⟩ : ∃ y_ : List Int, y_ = (x12_1 ++ [t618]) := ⟨_, rfl⟩
        replace H : ((ice_game_tonight.f k1 t601 t602 t619 x13_1 t618).bind fun bt623 => (ice_Rota.m0 k1 l1 t605 y615 y620 bt623.1 t601 t602 bt623.2)) = some (r1, r2) := by first | (rw [hy620]; with_reducible exact H) | (have H2_ := (Option.bind_some _ _).symm.trans H; rw [hy620]; with_reducible exact H2_) | (have H2_ := (Option.bind_some _ _).symm.trans H; with_reducible exact H2_) | with_reducible exact H | (rw [hy620]; exact H) | exact H
        have Ny620 := A_ hy620
        clear hy620
        replace H := Option.bind_eq_some_iff.mp H
        obtain ⟨⟨t623, t624⟩, A210, H⟩ := H
        replace H : (ice_Rota.m0 k1 l1 t605 y615 y620 t623 t601 t602 t624) = some (r1, r2) := H
        have A21 := A_ A210
        clear A210
        have H' := A_ H
        clear H
        have HIX := A_ (index_spec A16.out)
        rw [HNM.out] at HIX
        obtain ⟨AoL, coL, eoL, _⟩ := Kd.Q_slice HO_12.out
        subst eoL
        go_wp2_with (first | (at_lookup; refine wp_lookup_at _ rfl _ _ rfl gbm w.heap.size x11_1 rfl (by repeat (first | (with_reducible first | exact HM.out | apply OwnsAt.alloc | apply OwnsAt.drewN | apply OwnsAt.drew) | exact HM.out)) x13_1 rfl HWF.out false (ix_false HIX.out) 0 (fun h_ => absurd h_ (by decide)) (fun _ => rfl) ?_) | (at_mapUpdate; refine wp_update_at _ rfl _ _ _ rfl gbm w.heap.size x11_1 rfl (by repeat (first | (with_reducible first | exact HM.out | apply OwnsAt.alloc | apply OwnsAt.drewN | apply OwnsAt.drew) | exact HM.out)) x13_1 rfl (by first | rfl | (rw [HLN.out]; rfl) | (simp only [HLN.out])) HWF.out (ix_false HIX.out) LMc18.out ?_; intro w23 hm hg; rw [← Ny615.out] at hm; have n0_ := A_ (R_mapfar (rU HO_10.out) (by repeat (first | (with_reducible first | exact HM.out | apply OwnsAt.alloc | apply OwnsAt.drewN | apply OwnsAt.drew) | exact HM.out)) hg); have n1_ := A_ (Q_mapfar (by (with_reducible repeat (first | apply Kd.Q_alloc | apply Kd.Q_drewN | apply Kd.Q_drew)); exact HO_12.out) (by repeat (first | (with_reducible first | exact HM.out | apply OwnsAt.alloc | apply OwnsAt.drewN | apply OwnsAt.drew) | exact HM.out)) hg); have n2_ := A_ (IsS87.grown (by repeat (first | (with_reducible first | exact HI604.out | apply IsS87.alloc | apply IsS87.drewN | apply IsS87.drew) | exact HI604.out)) hg (OwnsAt.neS (by repeat (first | (with_reducible first | exact HM.out | apply OwnsAt.alloc | apply OwnsAt.drewN | apply OwnsAt.drew) | exact HM.out)) (by repeat (first | (with_reducible first | exact HI604.out | apply IsS87.alloc | apply IsS87.drewN | apply IsS87.drew) | exact HI604.out)))); have n3_ := A_ (OwnsAt.grownB (by repeat (first | (with_reducible first | exact HM.out | apply OwnsAt.alloc | apply OwnsAt.drewN | apply OwnsAt.drew) | exact HM.out)) (by repeat (first | (with_reducible first | exact HB.out | apply below_alloc | apply pw_below_drewN | apply below_drew1 | refine below_set ?_ (IsS87.ge HI604.out)) | exact HB.out)) hg); have n4_ := A_ (hm); clear HO_10; clear HO_12; clear HI604; clear HB; clear HM; have HO_10 := n0_; have HO_12 := n1_; have HI604 := n2_; have HB := n3_; have HM := n4_; clear n0_ n1_ n2_ n3_ n4_; clear hm hg) | ((with_reducible refine gate_callee (f := 79) rfl ?_); refine goesW_ (some 82) Try.func79 #[.pointer (some ⟨g604, 0, none⟩), .int .i64 x13_1, .slice (some ad611) t605.length co14] ?_; (with_reducible refine (ice_game_urgent.calls k1 g604 t601 t602 x605002_1 x13_1 _ _ t605 t618 t619 w _ ?side1 ?side2 ?side3 ?side4 ?side5 A19.out).mono ?_); (case side1 => repeat (first | (with_reducible first | exact HI604.out | apply IsS87.alloc | apply IsS87.drewN | apply IsS87.drew | apply IsS87.set_2) | exact HI604.out)); (case side2 => repeat (first | (with_reducible first | exact HB.out | apply below_alloc | apply pw_below_drewN | apply below_drew1 | refine below_set ?_ (IsS87.ge HI604.out)) | exact HB.out)); (case side3 => exact cU (Kd.R_reads' HO_10.out).2.2); (case side4 => exact (Kd.R_reads' HO_10.out).2.1); (case side5 => exact far_slice (IsS87.own_ne HI604.out HO_10.out (by decide))); rintro e w24 ⟨rfl, hi, hb, hk⟩; refine ⟨_, rfl, ?_⟩; have n0_ := A_ (Kd.R_mono (Kd.R_keep (IsS87.apart (show IsS87 w _ g604 t601 t602 x605002_1 from by repeat (first | (with_reducible first | exact HI604.out | apply IsS87.alloc | apply IsS87.drewN | apply IsS87.drew | apply IsS87.set_2) | exact HI604.out)) (rU HO_10.out) (by decide)) hk (fun _ h => h.2)) (fun _ h => h.1)); have n1_ := A_ (Kd.Q_mono (Kd.Q_keep (IsS87.apartQ (show IsS87 w _ g604 t601 t602 x605002_1 from by repeat (first | (with_reducible first | exact HI604.out | apply IsS87.alloc | apply IsS87.drewN | apply IsS87.drew | apply IsS87.set_2) | exact HI604.out)) (by (with_reducible repeat (first | apply Kd.Q_alloc | apply Kd.Q_drewN | apply Kd.Q_drew)); exact HO_12.out) (by decide)) hk (fun _ h => h.2)) (fun _ h => h.1)); have n2_ := A_ (OwnsAt.keepS (by repeat (first | (with_reducible first | exact HM.out | apply OwnsAt.alloc | apply OwnsAt.drewN | apply OwnsAt.drew) | exact HM.out)) (by repeat (first | (with_reducible first | exact HI604.out | apply IsS87.alloc | apply IsS87.drewN | apply IsS87.drew) | exact HI604.out)) hk); have n3_ := A_ (hb); have n4_ := A_ (hi); clear HO_10; clear HO_12; clear HM; clear HB; clear HI604; have HO_10 := n0_; have HO_12 := n1_; have HM := n2_; have HB := n3_; have HI604 := n4_; clear n0_ n1_ n2_ n3_ n4_; (try clear hb); (try clear hk); (try clear hi)) | ((with_reducible refine gate_builtin (b := .append) (xs := #[.tmp 83, .tmp 85]) rfl ?_); at_builtin; refine Kd.Q_append (Kd.int .i64) (w0 := w) w.heap.size rfl (.tmp 83) (.tmp 85) 22 3 (.int .i64 0) 8 rfl Try.underlying22 info3 rfl (by decide) (by omega) (.slice AoL x12_1.length coL) x12_1 t618 [.int .i64 t618] (fun _ => True) (fun _ => False) rfl rfl ?aP (fun _ hk => hk.elim) ?aF ?aO ?aB ?aS ?aL ?_; (case aP => exact rfl); (case aB => exact (by repeat (first | (with_reducible first | exact HB.out | apply below_alloc | apply pw_below_drewN | apply below_drew1 | refine below_set ?_ (IsS87.ge HI604.out)) | exact HB.out))); (case aF => exact (fun _ _ => trivial)); (case aO => exact (by (with_reducible repeat (first | apply Kd.Q_alloc | apply Kd.Q_drewN | apply Kd.Q_drew)); exact Kd.Q_mono HO_12.out (fun _ hk => trivial))); (case aS => exact (below_size (by repeat (first | (with_reducible first | exact HB.out | apply below_alloc | apply pw_below_drewN | apply below_drew1 | refine below_set ?_ (IsS87.ge HI604.out)) | exact HB.out)))); (case aL => have := LMc20.out; omega); intro v621 w25 ho hb hg hat; rw [← Ny620.out] at ho; have n0_ := A_ (Kd.R_over' (rU HO_10.out) (Kd.Q_typed (by (with_reducible repeat (first | apply Kd.Q_alloc | apply Kd.Q_drewN | apply Kd.Q_drew)); exact HO_12.out)) (by decide) hg); have n1_ := A_ (IsS87.grown (by repeat (first | (with_reducible first | exact HI604.out | apply IsS87.alloc | apply IsS87.drewN | apply IsS87.drew | apply IsS87.set_2) | exact HI604.out)) hg (IsS87.own_neQ HI604.out HO_12.out (by decide))); have n2_ := A_ (OwnsAt.grown (by repeat (first | (with_reducible first | exact HM.out | apply OwnsAt.alloc | apply OwnsAt.drewN | apply OwnsAt.drew) | exact HM.out)) hg (OwnsAt.neQ (by repeat (first | (with_reducible first | exact HM.out | apply OwnsAt.alloc | apply OwnsAt.drewN | apply OwnsAt.drew) | exact HM.out)) (by (with_reducible repeat (first | apply Kd.Q_alloc | apply Kd.Q_drewN | apply Kd.Q_drew)); exact HO_12.out))); have n3_ := A_ (hb); have n4_ := A_ (ho); clear HO_10; clear HI604; clear HM; clear HB; clear HO_12; have HO_10 := n0_; have HI604 := n1_; have HM := n2_; have HB := n3_; have HO622 := n4_; clear n0_ n1_ n2_ n3_ n4_; clear ho hb hg hat) | ((with_reducible refine gate_callee (f := 61) rfl ?_); refine goesW_ (some 90) Try.func61 #[.pointer (some ⟨g604, 0, none⟩), .int .i64 x13_1, .int .i64 t618] ?_; (with_reducible refine (ice_game_tonight.calls k1 g604 t601 t602 t619 x13_1 t618 t623 t624 w _ ?side1 ?side2 A21.out).mono ?_); (case side1 => repeat (first | (with_reducible first | exact HI604.out | apply IsS87.alloc | apply IsS87.drewN | apply IsS87.drew | apply IsS87.set_2) | exact HI604.out)); (case side2 => repeat (first | (with_reducible first | exact HB.out | apply below_alloc | apply pw_below_drewN | apply below_drew1 | refine below_set ?_ (IsS87.ge HI604.out)) | exact HB.out)); rintro e w26 ⟨rfl, hi, hb, hk⟩; refine ⟨_, rfl, ?_⟩; have n0_ := A_ (Kd.R_mono (Kd.R_keep (IsS87.apart (show IsS87 w _ g604 t601 t602 t619 from by repeat (first | (with_reducible first | exact HI604.out | apply IsS87.alloc | apply IsS87.drewN | apply IsS87.drew | apply IsS87.set_2) | exact HI604.out)) (rU HO_10.out) (by decide)) hk (fun _ h => h.2)) (fun _ h => h.1)); have n1_ := A_ (OwnsAt.keepS (by repeat (first | (with_reducible first | exact HM.out | apply OwnsAt.alloc | apply OwnsAt.drewN | apply OwnsAt.drew) | exact HM.out)) (by repeat (first | (with_reducible first | exact HI604.out | apply IsS87.alloc | apply IsS87.drewN | apply IsS87.drew) | exact HI604.out)) hk); have n2_ := A_ (Kd.Q_mono (Kd.Q_keep (IsS87.apartQ (show IsS87 w _ g604 t601 t602 t619 from by repeat (first | (with_reducible first | exact HI604.out | apply IsS87.alloc | apply IsS87.drewN | apply IsS87.drew | apply IsS87.set_2) | exact HI604.out)) (by (with_reducible repeat (first | apply Kd.Q_alloc | apply Kd.Q_drewN | apply Kd.Q_drew)); exact HO622.out) (by decide)) hk (fun _ h => h.2)) (fun _ h => h.1)); have n3_ := A_ (hb); have n4_ := A_ (hi); clear HO_10; clear HM; clear HO622; clear HB; clear HI604; have HO_10 := n0_; have HM := n1_; have HO622 := n2_; have HB := n3_; have HI604 := n4_; clear n0_ n1_ n2_ n3_ n4_; (try clear hb); (try clear hk); (try clear hi)))
        go_roundg k1
        case measure => have := HK1.out; omega
        case rel => exact ⟨(y615), (y620), (t623), (t624), eS, H', ⟨by have := HK1.out; omega⟩, ⟨rU HO_10.out⟩, ⟨by repeat (first | (with_reducible first | exact HM.out | apply OwnsAt.alloc | apply OwnsAt.drewN | apply OwnsAt.drew) | exact HM.out)⟩, ⟨by rw [Ny620.out, Ny615.out, List.length_append, List.length_append, HLN.out]; rfl⟩, ⟨by (with_reducible repeat (first | apply Kd.Q_alloc | apply Kd.Q_drewN | apply Kd.Q_drew)); exact Kd.Q_mono HO622.out (fun _ _ => trivial)⟩, ⟨by repeat (first | (with_reducible first | exact HI604.out | apply IsS87.alloc | apply IsS87.drewN | apply IsS87.drew | apply IsS87.set_2) | exact HI604.out)⟩, ⟨by repeat (first | (with_reducible first | exact HB.out | apply below_alloc | apply pw_below_drewN | apply below_drew1 | refine below_set ?_ (IsS87.ge HI604.out)) | exact HB.out)⟩⟩
     rw [if_pos c21] at H
     have c21b0 : decide (x40_2 < (x4_1.length : Int)) = true := decide_eq_true c21
     (try (have c21b0h := c21b0; simp only [hl4_1, hl38_2] at c21b0h))
     clear c21
     by_cases c22 : 0 ≤ x40_2
     rotate_left
     ·rw [if_neg c22] at H
      exact absurd H (by simp)
     rw [if_pos c22] at H
     have c22b0 : decide (0 ≤ x40_2) = true := decide_eq_true c22
     clear c22
     by_cases c23 : x40_2 < (t607.length : Int)
     rotate_left
     ·rw [if_neg c23] at H
      exact absurd H (by simp)
     rw [if_pos c23] at H
     have c23b0 : decide (x40_2 < (t607.length : Int)) = true := decide_eq_true c23
     (try (have c23b0h := c23b0; simp only [hl4_1, hl38_2] at c23b0h))
     clear c23
     by_cases c24 : 0 ≤ (rd t607 x40_2)
     rotate_left
     ·rw [if_neg c24] at H
      exact absurd H (by simp)
     rw [if_pos c24] at H
     have c24b0 : decide (0 ≤ (rd t607 x40_2)) = true := decide_eq_true c24
     clear c24
     by_cases c25 : (rd t607 x40_2) < (l0.length : Int)
     rotate_left
     ·rw [if_neg c25] at H
      exact absurd H (by simp)
     rw [if_pos c25] at H
     have c25b0 : decide ((rd t607 x40_2) < (l0.length : Int)) = true := decide_eq_true c25
     (try (have c25b0h := c25b0; simp only [hl4_1, hl38_2] at c25b0h))
     clear c25
     by_cases c26 : x6_2.length < 17592186044416
     rotate_left
     ·rw [if_neg c26] at H
      exact absurd H (by simp)
     rw [if_pos c26] at H
     have LMc26 := A_ c26
     clear c26
     obtain ⟨y610, hy610⟩ : ∃ y_ : List Int, y_ = (x6_2 ++ [rd l0 (rd t607 x40_2)]) := ⟨_, rfl⟩
     replace H : (ice_Rota.l1 k2 y610 t607 (x4_1.length : Int) (wrap64 (x40_2 + 1)) l0) = some (r1, r2) := by first | (rw [hy610]; with_reducible exact H) | (have H2_ := (Option.bind_some _ _).symm.trans H; rw [hy610]; with_reducible exact H2_) | (have H2_ := (Option.bind_some _ _).symm.trans H; with_reducible exact H2_) | with_reducible exact H | (rw [hy610]; exact H) | exact H
     have Ny610 := A_ hy610
     clear hy610
     have H' := A_ H
     clear H
     have p608 : 0 ≤ (x40_2 : Int) := oD
     have q608 : x40_2 < (t607.length : Int) := oD
     obtain ⟨ad608, e608, hx608_0⟩ := Kd.at_int (Kd.R_reads' HO_38.out).2.2 x40_2 p608 q608
     cases e608
     replace p608 := eq_true p608
     replace q608 := eq_true q608
     have hcz27_0 : wr.cell? ⟨gb601, 0, none⟩ = some (.slice A0 l0.length c0) := (blk_cell BK601.out 0).trans rfl
     have hfz27_0 := blk_frozen BK601.out 0
     have p609 : 0 ≤ ((rd t607 x40_2) : Int) := oD
     have q609 : (rd t607 x40_2) < (l0.length : Int) := oD
     obtain ⟨ad609, e609, hx609_0⟩ := Kd.at_int HR0.out (rd t607 x40_2) p609 q609
     cases e609
     replace hx609_0 := (HB.out.cell (World.block_lt_of_cell? w _ hx609_0)).trans hx609_0
     replace p609 := eq_true p609
     replace q609 := eq_true q609
     go_wp2_with (first | ((with_reducible refine gate_builtin (b := .append) (xs := #[.tmp 44, .tmp 49]) rfl ?_); at_builtin; refine Kd.R_append (Kd.int .i64) (w0 := w) w.heap.size rfl (.tmp 44) (.tmp 49) 22 3 (.int .i64 0) 8 rfl Try.underlying22 info3 rfl (by decide) (by omega) u6 x6_2 (rd l0 (rd t607 x40_2)) [.int .i64 (rd l0 (rd t607 x40_2))] (fun k_ => some k_ ≠ (.slice (some ad608) t607.length co12 : Value).ownBlock) (fun _ => False) rfl rfl ?aP (fun _ hk => hk.elim) ?aF ?aO ?aB ?aS ?aL ?_; (case aP => exact rfl); (case aB => exact (bW1 HB.out GE601.out)); (case aF => exact (fun k_ hk => Kd.fresh' (Kd.R_lt (rU HO_38.out)) k_ hk)); (case aO => exact (rU HO_6.out)); (case aS => exact (below_size (bW1 HB.out GE601.out))); (case aL => have := LMc26.out; omega); intro v611 w28 ho hb hg hat; rw [← Ny610.out] at ho; have n0_ := A_ (Kd.R_after (ok := (fun _ => True)) (by (with_reducible repeat (first | apply Kd.R_alloc | apply Kd.R_drewN | apply Kd.R_drew)); exact Kd.R_mono HO_38.out (fun _ hk => ⟨trivial, hk⟩)) hg hat); have n1_ := A_ (blk_grown (g := gb601) (o := .cells #[.slice (some ad609) l0.length c0] 22 (0, 0)) (bkU BK601) hg (Kd.R_ne HO_6.out BK601.out (by decide))); have n2_ := A_ (hb); have n3_ := A_ (ho); clear HO_38; clear BK601; clear HB; clear HO_6; have HO_38 := n0_; have BK601 := n1_; have HB := n2_; have HO612 := n3_; clear n0_ n1_ n2_ n3_; clear ho hb hg hat))
     (try simp only [← hl38_2])
     go_roundg k2
     case measure => have := HK1.out; have := HK2.out; omega
     case rel => exact ⟨(y610), (wrap64 (x40_2 + 1)), eS, H', ⟨by have := HK1.out; have := HK2.out; omega⟩, ⟨by (try simp only [hl4_1]); (try simp only [hl38_2]); (with_reducible repeat (first | apply Kd.R_alloc | apply Kd.R_drewN | apply Kd.R_drew)); exact HO612.out⟩, ⟨by (try simp only [hl4_1]); (try simp only [hl38_2]); (with_reducible repeat (first | apply Kd.R_alloc | apply Kd.R_drewN | apply Kd.R_drew)); exact Kd.R_mono HO_38.out (fun _ hk => hk.2)⟩, ⟨by (try simp only [hl4_1]); (try simp only [hl38_2]); exact bkU BK601⟩, ⟨by repeat (first | (with_reducible first | exact HB.out | apply below_alloc | apply pw_below_drewN | apply below_drew1 | refine below_set ?_ GE601.out) | exact HB.out)⟩⟩
end Go.Proofs.Ythbpibdfookbmaa.G
end
