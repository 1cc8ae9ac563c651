-- Written by this session's driver (wip/tools/printmore.py) over the kit's print, with hand-written parts.
import Derived.Test.YtiapmkndgalgnaaGBase
import Derived.Test.YtiapmkndgalgnaaGF51
import Derived.Test.YtiapmkndgalgnaaGF23
import Derived.Test.YtiapmkndgalgnaaGF61
namespace Go.Proofs.Ytiapmkndgalgnaa.G
open Go.RowKit Go.Proofs.YtiapmkndgalgnaaW.PrintWords Go.Proofs.YtiapmkndgalgnaaW.PrintLast Go.Proofs.YtiapmkndgalgnaaW.PrintMore
attribute [local go_sem] max2_int min2_int max_two min_two max_three min_three max_four min_four   -- for this text's walks alone
set_option linter.unusedVariables false
set_option linter.unusedSimpArgs false

/-! ### arm_Through: function 32 -/
/-- A window's value. -/
abbrev arm_Through.v73 (x : S73) : Value := .agg #[.int .i64 x.f0, .int .i64 x.f1, .int .i64 x.f2]
/-- Where the first window stands of which p holds; -1. -/
def arm_Through.idxF {α : Type} (p : α → Bool) : List α → Int → Int
  | [], _ => -1
  | x :: xs, i => if p x = true then i else arm_Through.idxF p xs (i + 1)
theorem arm_Through.drop_rd73 (l : List S73) (i : Nat) (h : i < l.length) : l.drop i = rd_T73 l (i : Int) :: l.drop (i + 1) := by
  rw [List.drop_eq_getElem_cons h]; simp [rd_T73, List.getD_eq_getElem?_getD, h]
theorem arm_Through.idxF_any {α : Type} (p : α → Bool) : ∀ (l : List α) (i : Int), 0 ≤ i → decide (arm_Through.idxF p l i ≥ 0) = l.any p
  | [], _, _ => rfl
  | x :: xs, i, hi => by
    rw [arm_Through.idxF, List.any_cons]
    cases hp : p x with
    | true => simpa using hi
    | false =>
      rw [if_neg (by decide), arm_Through.idxF_any p xs (i + 1) (by omega)]
      simp
set_option maxHeartbeats 8000000 in
set_option maxRecDepth 100000 in
theorem arm_Through.index {lb : Array Value} (p : S73 → Bool) (A : Option Addr) (c : Nat) (l : List S73) (w : World) (hr : Kd.C k73 w A l.length l)
    (hp : ∀ (W : World) (x : S73), Below w.heap.size w W → Calls Try.prog 63 (#[arm_Through.v73 x] ++ lb) W fun e w' => e = .returned (.bool (p x)) ∧ Below w.heap.size w w') :
    Calls Try.prog 76 #[.slice A l.length c, .func (.func 63) #[] lb] w fun e w' => e = .returned (.int .i64 (arm_Through.idxF p l 0)) ∧ Below w.heap.size w w' := by
  have hu73 := Try.underlying73
  have hbig : l.length ≤ 9223372036854775807 := hr.2.1
  have HR := Aside0.mk hr
  clear hr
  go_enter Try.func76, Try.ntmps76
  go_wp2
  go_loopg [5, 8] l.length (fun gg _ s8 wr => ∃ z : Int, s8 = .int .i64 z ∧ Aside0 (0 ≤ z ∧ z.toNat ≤ l.length ∧ l.length - z.toNat ≤ gg) ∧ Aside0 (Below w.heap.size w wr) ∧ Aside0 (arm_Through.idxF p (l.drop z.toNat) z = arm_Through.idxF p l 0))
  case atStart => exact ⟨0, rfl, ⟨by omega, by simp, by simp⟩, ⟨Below.refl _ w⟩, ⟨by simp⟩⟩
  case round =>
    obtain ⟨z, rfl, HZ, BW, AD⟩ := hrel
    by_cases hlt : z < (l.length : Int)
    · have p1 : 0 ≤ z := HZ.out.1
      obtain ⟨ad, ead, hx0, hx1, hx2⟩ := at_T73 HR.out z p1 hlt
      cases ead
      replace hx0 := (BW.out.cell (World.block_lt_of_cell? w _ hx0)).trans hx0
      replace hx1 := (BW.out.cell (World.block_lt_of_cell? w _ hx1)).trans hx1
      replace hx2 := (BW.out.cell (World.block_lt_of_cell? w _ hx2)).trans hx2
      have hcall := hp wr (rd_T73 l z) BW.out
      clear hp
      replace AD : Aside0 ((if p (rd_T73 l z) = true then z else arm_Through.idxF p (l.drop (z.toNat + 1)) (z + 1)) = arm_Through.idxF p l 0) := ⟨by
        have := AD.out
        rw [arm_Through.drop_rd73 l z.toNat (by omega), Int.toNat_of_nonneg p1, arm_Through.idxF] at this
        exact this⟩
      generalize rd_T73 l z = y at hx0 hx1 hx2 hcall AD
      have d1 := decide_eq_true hlt
      have d0 := decide_eq_true p1
      have HL := Aside0.mk hlt
      have HN := Aside0.mk hbig
      clear hbig
      replace p1 := eq_true p1
      replace hlt := eq_true hlt
      cases hq : p y with
      | true =>
        rw [hq] at hcall AD
        go_wp2_with (go_at_call 63; refine hcall.mono ?_; rintro e w' ⟨rfl, hb'⟩)
        go_ret
        refine ⟨?_, hb'⟩
        have e := AD.out
        simp only [if_true] at e
        rw [← e]
        rfl
      | false =>
        rw [hq] at hcall AD
        go_wp2_with (go_at_call 63; refine hcall.mono ?_; rintro e w' ⟨rfl, hb'⟩)
        have h1 := HL.out
        have h2 := HN.out
        have h3 := HZ.out
        have hw : wrap64 (z + 1) = z + 1 := by unfold wrap64; omega
        go_roundg (l.length - (z.toNat + 1))
        case measure => omega
        case rel =>
          refine ⟨z + 1, by first | rfl | rw [hw] | simp [hw], ⟨by omega, by omega, by omega⟩, ⟨hb'⟩, ⟨?_⟩⟩
          have e := AD.out
          simp only [Bool.false_eq_true, if_false] at e
          rw [show (z + 1).toNat = z.toNat + 1 by omega]
          exact e
    · have d1 := decide_eq_false hlt
      have h3 := HZ.out
      have e : z.toNat = l.length := by omega
      clear h3 hlt
      go_wp2
      go_ret
      refine ⟨?_, BW.out⟩
      rw [← AD.out, e, List.drop_length]
      rfl

set_option maxHeartbeats 8000000 in
set_option maxRecDepth 100000 in
theorem arm_Through.contains {lb : Array Value} (p : S73 → Bool) (A : Option Addr) (c : Nat) (l : List S73) (w : World) (hr : Kd.C k73 w A l.length l)
    (hp : ∀ (W : World) (x : S73), Below w.heap.size w W → Calls Try.prog 63 (#[arm_Through.v73 x] ++ lb) W fun e w' => e = .returned (.bool (p x)) ∧ Below w.heap.size w w') :
    Calls Try.prog 62 #[.slice A l.length c, .func (.func 63) #[] lb] w fun e w' => e = .returned (.bool (l.any p)) ∧ Below w.heap.size w w' := by
  rw [← arm_Through.idxF_any p l 0 (by omega)]
  have hi := arm_Through.index p A c l w hr hp
  generalize arm_Through.idxF p l 0 = r at hi ⊢
  go_enter Try.func62, Try.ntmps62
  go_wp2_with (go_at_call 76; refine hi.mono ?_; rintro e w' ⟨rfl, hb'⟩)
  go_ret
  exact ⟨rfl, hb'⟩

/-- Whether a line misses a window. -/
def arm_Through.miss (A B D : Int) (x : S73) : Bool := !(decide (wrap64 (x.f1 * D) ≤ wrap64 (wrap64 (A * x.f0) + B) ∧ wrap64 (wrap64 (A * x.f0) + B) ≤ wrap64 (x.f2 * D)))
set_option maxHeartbeats 8000000 in
set_option maxRecDepth 100000 in
theorem arm_Through.lit (A B D : Int) (b : Nat) (w : World) (hb : b < w.heap.size) (h0 : w.cell? ⟨b, 0, none⟩ = some (.int .i64 A)) (h1 : w.cell? ⟨b, 1, none⟩ = some (.int .i64 B)) (h2 : w.cell? ⟨b, 2, none⟩ = some (.int .i64 D)) (W : World) (x : S73) (hW : Below w.heap.size w W) :
    Calls Try.prog 63 (#[arm_Through.v73 x] ++ #[.pointer (some ⟨b, 0, none⟩)]) W fun e w' => e = .returned (.bool (arm_Through.miss A B D x)) ∧ Below w.heap.size w w' := by
  replace h0 := (hW.cell (p := ⟨b, 0, none⟩) hb).trans h0
  replace h1 := (hW.cell (p := ⟨b, 1, none⟩) hb).trans h1
  replace h2 := (hW.cell (p := ⟨b, 2, none⟩) hb).trans h2
  have hne : b ≠ W.heap.size := by have := hW.size; omega
  have hw : ∀ a b c : Int, arm_within.f a b c = some (decide (a ≤ b ∧ b ≤ c)) := fun a b c => by unfold arm_within.f; by_cases h : a ≤ b <;> simp [h]
  have hc := fun W' => arm_within.calls _ _ _ _ W' (hw (wrap64 (x.f1 * D)) (wrap64 (wrap64 (A * x.f0) + B)) (wrap64 (x.f2 * D)))
  unfold arm_Through.miss
  generalize decide (wrap64 (x.f1 * D) ≤ wrap64 (wrap64 (A * x.f0) + B) ∧ wrap64 (wrap64 (A * x.f0) + B) ≤ wrap64 (x.f2 * D)) = q at hc ⊢
  show Calls Try.prog 63 #[.agg #[.int .i64 x.f0, .int .i64 x.f1, .int .i64 x.f2], .pointer (some ⟨b, 0, none⟩)] W _
  have g0 := ((below_alloc (Below.refl W.heap.size W) (Obj.cells #[Value.int .i64 x.f0, .int .i64 x.f1, .int .i64 x.f2] 73)).cell (p := ⟨b, 0, none⟩) (Nat.lt_of_lt_of_le hb hW.size)).trans h0
  have g1 := ((below_alloc (Below.refl W.heap.size W) (Obj.cells #[Value.int .i64 x.f0, .int .i64 x.f1, .int .i64 x.f2] 73)).cell (p := ⟨b, 1, none⟩) (Nat.lt_of_lt_of_le hb hW.size)).trans h1
  have g2 := ((below_alloc (Below.refl W.heap.size W) (Obj.cells #[Value.int .i64 x.f0, .int .i64 x.f1, .int .i64 x.f2] 73)).cell (p := ⟨b, 2, none⟩) (Nat.lt_of_lt_of_le hb hW.size)).trans h2
  go_enter Try.func63, Try.ntmps63
  go_wp2_with (go_at_call 51; refine (hc _).mono ?_; rintro e w' ⟨rfl, ⟨nd, rfl⟩⟩)
  all_goals (go_ret; exact ⟨by simp_all, by repeat (first | exact hW.alloc hW.size _ | apply pw_below_drewN)⟩)
def arm_Through.f (k : Nat) (l0 : List (S73)) (a1_0 : Int) (a1_1 : Int) (a1_2 : Int) : Option (Bool × Int) := (arm_Valid.f k l0).bind fun t101 => (if t101 = true then ((arm_isLine.f a1_0 a1_1 a1_2).bind fun t102 => (if t102 = true then (some (!(l0.any (arm_Through.miss a1_0 a1_1 a1_2)), 0)) else (some (false, 2)))) else (some (false, 20)))
theorem arm_Through.mono : ∀ a0 a1 a2 a3 k, LeO (arm_Through.f k a0 a1 a2 a3) (arm_Through.f (k + 1) a0 a1 a2 a3) := by
  intro a0 a1 a2 a3 k
  unfold arm_Through.f
  exact LeO.bind (arm_Valid.mono _ _) (fun _ => LeO.refl _)
set_option maxHeartbeats 8000000 in
set_option maxRecDepth 100000 in
theorem arm_Through.calls (k : Nat) (A0 : Option Addr) (c0 : Nat) (l0 : List (S73)) (a1_0 : Int) (a1_1 : Int) (a1_2 : Int) (r1 : Bool) (r2 : Int) (w : World) (hr0 : Kd.C k73 w A0 l0.length l0) (hc0 : l0.length ≤ c0) (h : arm_Through.f k l0 a1_0 a1_1 a1_2 = some (r1, r2)) :
    Calls Try.prog 32 #[.slice A0 l0.length c0, .agg #[.int .i64 a1_0, .int .i64 a1_1, .int .i64 a1_2]] w fun e w' => e = .returned (.tuple #[.bool r1, .int .i64 r2]) ∧ Below w.heap.size w w' := by
  have hu41 := Try.underlying41
  obtain ⟨w0, hw0⟩ : ∃ w0, w0 = w.alloc (.cells #[.int .i64 a1_0, .int .i64 a1_1, .int .i64 a1_2] 41) := ⟨_, rfl⟩
  have hb0 : Below w.heap.size w w0 := by rw [hw0]; exact below_alloc (Below.refl _ _) _
  have hs0 : w.heap.size < w0.heap.size := by rw [hw0]; simp
  have b0 : w0.cell? ⟨w.heap.size, 0, none⟩ = some (.int .i64 a1_0) := by rw [hw0]; simp
  have b1 : w0.cell? ⟨w.heap.size, 1, none⟩ = some (.int .i64 a1_1) := by rw [hw0]; simp
  have b2 : w0.cell? ⟨w.heap.size, 2, none⟩ = some (.int .i64 a1_2) := by rw [hw0]; simp
  have HR0 := Aside0.mk (Kd.C_below hr0 hb0)
  unfold arm_Through.f at h
  obtain ⟨t1, h1, h⟩ := Option.bind_eq_some_iff.mp h
  have call1 := arm_Valid.calls k A0 c0 l0 t1 w0 HR0.out hc0 h1
  -- the contract of isLine, in a later world
  cases t1 with
  | false =>
    obtain ⟨rfl, rfl⟩ : false = r1 ∧ 20 = r2 := by simpa using h
    go_enter Try.func32, Try.ntmps32
    subst hw0
    go_wp2_with (go_at_call 23; refine call1.mono ?_; rintro e w1 ⟨rfl, hb1⟩)
    go_ret2
    exact ⟨rfl, hb0.trans (hb1.mono (by simp))⟩
  | true =>
    simp only [if_true] at h
    obtain ⟨t2, h2, h⟩ := Option.bind_eq_some_iff.mp h
    have call2 := fun w1 => arm_isLine.calls a1_0 a1_1 a1_2 t2 w1 h2
    cases t2 with
    | false =>
      obtain ⟨rfl, rfl⟩ : false = r1 ∧ 2 = r2 := by simpa using h
      subst hw0
      go_enter Try.func32, Try.ntmps32
      go_wp2_with (first
        | (go_at_call 23; refine call1.mono ?_; rintro e w1 ⟨rfl, hb1⟩; have e0 := (hb1.cell (p := ⟨w.heap.size, 0, none⟩) hs0).trans b0; have e1 := (hb1.cell (p := ⟨w.heap.size, 1, none⟩) hs0).trans b1; have e2 := (hb1.cell (p := ⟨w.heap.size, 2, none⟩) hs0).trans b2)
        | (go_at_call 61; refine (call2 _).mono ?_; rintro e w2 ⟨rfl, hb2⟩))
      go_ret2
      exact ⟨rfl, hb0.trans ((hb1.mono (Nat.le_of_lt hs0)).trans (hb2.mono (Nat.le_trans (Nat.le_of_lt hs0) hb1.size)))⟩
    | true =>
      simp only [if_true] at h
      obtain ⟨rfl, rfl⟩ : (!(l0.any (arm_Through.miss a1_0 a1_1 a1_2))) = r1 ∧ 0 = r2 := by simpa using h
      have call3 := fun (w2 : World) (hb : Below w0.heap.size w0 w2) => arm_Through.contains (lb := #[.pointer (some ⟨w.heap.size, 0, none⟩)]) (arm_Through.miss a1_0 a1_1 a1_2) A0 c0 l0 w2 (Kd.C_below HR0.out hb)
        (arm_Through.lit a1_0 a1_1 a1_2 w.heap.size w2 (Nat.lt_of_lt_of_le hs0 hb.size) ((hb.cell (p := ⟨w.heap.size, 0, none⟩) hs0).trans b0) ((hb.cell (p := ⟨w.heap.size, 1, none⟩) hs0).trans b1) ((hb.cell (p := ⟨w.heap.size, 2, none⟩) hs0).trans b2))
      generalize l0.any (arm_Through.miss a1_0 a1_1 a1_2) = q at call3 ⊢
      subst hw0
      go_enter Try.func32, Try.ntmps32
      go_wp2_with (first
        | (go_at_call 23; refine call1.mono ?_; rintro e w1 ⟨rfl, hb1⟩; have e0 := (hb1.cell (p := ⟨w.heap.size, 0, none⟩) hs0).trans b0; have e1 := (hb1.cell (p := ⟨w.heap.size, 1, none⟩) hs0).trans b1; have e2 := (hb1.cell (p := ⟨w.heap.size, 2, none⟩) hs0).trans b2)
        | (go_at_call 61; refine (call2 _).mono ?_; rintro e w2 ⟨rfl, hb2⟩; replace hb2 := hb1.trans (hb2.mono hb1.size))
        | (go_at_call 62; refine (call3 _ hb2).mono ?_; rintro e w3 ⟨rfl, hb3⟩))
      go_ret2
      exact ⟨rfl, hb0.trans ((hb2.mono (Nat.le_of_lt hs0)).trans (hb3.mono (Nat.le_trans (Nat.le_of_lt hs0) hb2.size)))⟩

end Go.Proofs.Ytiapmkndgalgnaa.G
