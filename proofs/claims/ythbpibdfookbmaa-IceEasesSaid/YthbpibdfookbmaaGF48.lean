-- Written by this session's driver (wip/tools/printmore.py) over the kit's print, with hand-written parts.
import Derived.Test.YthbpibdfookbmaaGBase
import Derived.Test.YthbpibdfookbmaaGF95
import Derived.Test.YthbpibdfookbmaaGF80
namespace Go.Proofs.Ythbpibdfookbmaa.G
open Go.RowKit Go.Proofs.YthbpibdfookbmaaW.PrintWords Go.Proofs.YthbpibdfookbmaaW.PrintLast Go.Proofs.YthbpibdfookbmaaW.PrintMore
attribute [local go_sem] max2_int min2_int max_two min_two max_three min_three max_four min_four   -- for this text's walks alone
set_option linter.unusedVariables false
set_option linter.unusedSimpArgs false

/-! ### slices_Repeat_int_int: function 48 -/
theorem slices_Repeat_int_int.mul1 {a : Int} (h : 1 ≤ a) (h2 : a < 1000000) : bits_Mul.f 1 a = some (0, a) := by
  have e0 : ∀ z : Int, 0 ≤ z → z < 18446744073709551616 → IntKind.u64.wrap z = z := fun z h1 h2 => by
    unfold IntKind.wrap
    simp only [IntKind.signed, IntKind.bits]
    simp
    omega
  have e1 : a / 4294967296 = 0 := by omega
  have ed : ((1 : Int) / 4294967296) = 0 := by decide
  have e5 : IntKind.u64.wrap 0 = 0 := e0 0 (by omega) (by omega)
  have e6 : IntKind.u64.wrap a = a := e0 a (by omega) (by omega)
  have e4 : IntKind.u64.wrap (Go.bits .and .u64 1 4294967295 * Go.bits .and .u64 a 4294967295) / 4294967296 = 0 := by
    have b1 : Go.bits .and .u64 1 4294967295 = 1 := by decide
    have b2 : Go.bits .and .u64 a 4294967295 = a := by
      obtain ⟨m, rfl⟩ : ∃ m : Nat, a = m := ⟨a.toNat, by omega⟩
      have e : (BitVec.ofNat 64 m &&& 4294967295#64).toNat = m := by
        rw [BitVec.toNat_and, BitVec.toNat_ofNat, BitVec.toNat_ofNat, Nat.mod_eq_of_lt (by omega), show 4294967295 % 2 ^ 64 = 2 ^ 32 - 1 by decide, Nat.and_two_pow_sub_one_eq_mod, Nat.mod_eq_of_lt (by omega)]
      simp only [Go.bits, IntKind.wrap, IntKind.signed, IntKind.bits]
      simp
      have e2 : ((BitVec.ofNat 64 m &&& 4294967295#64).toNat : Int) % 18446744073709551616 = (m : Int) := by rw [e]; omega
      exact e2
    rw [b1, b2, Int.one_mul, e6]; omega
  have e7 : (IntKind.u64.wrap (Go.bits .and .u64 0 4294967295 + IntKind.u64.wrap 0)) / 4294967296 = 0 := by decide
  unfold bits_Mul.f bits_Mul64.f
  simp only [e1, ed, Int.zero_mul, Int.mul_zero, e5, e4, Int.add_zero, Int.one_mul, e6, Option.bind_some]
  rfl
def slices_Repeat_int_int.f (l0 : List Int) (a1 : Int) : Option (List Int) := if l0.length = 1 then (if 1 ≤ a1 then (if a1 < 1000000 then (some (List.replicate a1.toNat (rd l0 0))) else (none)) else (none)) else (none)
theorem slices_Repeat_int_int.to_R {w : World} {base g cap : Nat} {cur : Array Value} {n : Nat} {x : Int} (hb : base ≤ g) (hg : w.heap[g]? = some (.cells cur 3 (0, 0))) (hn : n ≤ cap) (hc : cap ≤ maxLen) (hs : cur.size = cap) (hx : ∀ i, i < n → cur[i]? = some (Value.int .i64 x)) :
    Kd.R (Kd.int .i64) 3 w base (fun _ => True) (.slice (some ⟨g, 0, none⟩) n cap) (List.replicate n x) := by
  have ho : w.ownsRow base 3 1 (.slice (some ⟨g, 0, none⟩) n cap) (List.replicate n x).length ((List.replicate n x).map fun z => Value.int .i64 z) := by
    refine ⟨by simp, Or.inr ⟨g, cap, cur, by simp, hb, hg, by simpa using hn, hc, by simpa using hs, ?_⟩⟩
    refine List.ext_getElem? fun i => ?_
    simp only [List.length_replicate, Nat.mul_one, List.map_replicate, List.getElem?_take, List.getElem?_replicate]
    by_cases h : i < n
    · rw [if_pos h, if_pos h]
      have := hx i h
      rwa [← Array.getElem?_toList] at this
    · rw [if_neg h, if_neg h]
  exact Kd.R_of_own (enc := fun z => Value.int .i64 z) (h1 := fun _ => rfl) ho (fun _ _ => trivial)
theorem slices_Repeat_int_int.below_setRow {B g : Nat} {w0 w : World} (hb : Below B w0 w) (hBg : B ≤ g) (cs : Array Value) : Below B w0 (w.setRow g cs) :=
  hb.trans ⟨rfl, rfl, rfl, by simp [World.setRow], fun k hk => setRow_other w g k cs (by omega)⟩
theorem slices_Repeat_int_int.add0 (g i : Nat) : (Addr.add ⟨g, 0, none⟩ i) = ⟨g, i, none⟩ := by
  unfold Addr.add
  by_cases h : i = 0 <;> simp [h]
theorem slices_Repeat_int_int.ti : ∃ i, Try.prog.info? 3 = some i ∧ i.size = 1 := by
  have h := info3
  cases q : Try.prog.info? 3 with
  | none => rw [q] at h; simp at h
  | some i => rw [q] at h; simp at h; exact ⟨i, rfl, h.2.1⟩
theorem slices_Repeat_int_int.of_R {w : World} {base n : Nat} {ok : Nat → Prop} {v : Value} {z : Int} (h : Kd.R (Kd.int .i64) 3 w base ok v (List.replicate n z)) (hn : 0 < n) :
    ∃ g cap cur, v = .slice (some ⟨g, 0, none⟩) n cap ∧ base ≤ g ∧ w.heap[g]? = some (.cells cur 3 (0, 0)) ∧ n ≤ cap ∧ cap ≤ maxLen ∧ cur.size = cap := by
  have ho := Kd.own_of_R (enc := fun z => Value.int .i64 z) (h1 := fun _ => rfl) h
  obtain ⟨hlen, hrow⟩ := ho
  rcases hrow with ⟨_, hz⟩ | ⟨g, cap, cur, hv, hbg, hg, hnc, hcm, hcs, htk⟩
  · simp at hz; omega
  · simp only [List.length_replicate, Nat.mul_one] at hv hnc hcs
    exact ⟨g, cap, cur, hv, hbg, hg, hnc, hcm, hcs⟩
theorem slices_Repeat_int_int.copy {w : World} {g o n m cap c : Nat} {ad : Addr} {cur : Array Value} {x : Int} (hg : w.heap[g]? = some (.cells cur 3 (0, 0))) (ho : o + Nat.min m n ≤ cur.size) (hx : ∀ i, i < Nat.min m n → w.cell? (ad.add i) = some (Value.int .i64 x)) :
    (Builtin.copy_ #[22, 22] 3 #[.slice (some ⟨g, o, none⟩) n cap, .slice (some ad) m c]).run Try.prog w = .ok (.int .i64 ((Nat.min m n : Nat) : Int)) (w.setRow g (cur.toList.take o ++ List.replicate (Nat.min m n) (Value.int .i64 x) ++ cur.toList.drop (o + Nat.min m n)).toArray) := by
  have := run_copy_row (P := Try.prog) w 22 22 3 3 g o n cap ad m c cur 3 (List.replicate (Nat.min m n) (Value.int .i64 x)) Try.underlying22 (by kernel_rfl) hg (by simp) (fun j v hj => by
    rw [List.getElem?_replicate] at hj
    split at hj
    · rename_i h; obtain rfl := Option.some.inj hj; exact hx j h
    · cases hj) (by simpa using ho) (fun v hv => by rw [(List.mem_replicate.1 hv).2]; rfl)
  rw [this]
  simp [goInt]
def slices_Repeat_int_int.T9 : Bool × List (List Nat × List Nat) := (true, [([], []), ([], []), ([], []), ([1, 2], [1, 2]), ([], []), ([], []), ([4, 5], [4, 5]), ([3, 6], [3, 6]), ([0, 7], [0, 7]), ([8, 7, 0, 1, 2, 3, 4, 5, 6, 7, 8], [0, 2, 5, 8])])
def slices_Repeat_int_int.B9 : List Nat := [0, 0, 0, 6, 0, 0, 48, 126, 255, 511]
theorem slices_Repeat_int_int.tab9 : rtab .any (opsOf Try.f48 9) = slices_Repeat_int_int.T9 := by kernel_rfl
theorem slices_Repeat_int_int.bits9 : waitsOk slices_Repeat_int_int.T9.2 slices_Repeat_int_int.B9 = true := by kernel_rfl
set_option maxHeartbeats 8000000 in
set_option maxRecDepth 100000 in
theorem slices_Repeat_int_int.calls (A0 : Option Addr) (c0 : Nat) (l0 : List Int) (a1 : Int) (r : List Int) (w : World) (hr0 : Kd.C (Kd.int .i64) w A0 l0.length l0) (hc0 : l0.length ≤ c0) (h : slices_Repeat_int_int.f l0 a1 = some r) :
    Calls Try.prog 48 #[.slice A0 l0.length c0, .int .i64 a1] w fun e w' => ∃ v0_ : Value, e = .returned (v0_) ∧ Kd.R (Kd.int .i64) 3 w' w.heap.size (fun _ => True) v0_ r ∧ Below w.heap.size w w' := by
  unfold slices_Repeat_int_int.f at h
  by_cases h1 : l0.length = 1
  rotate_left
  · rw [if_neg h1] at h; cases h
  rw [if_pos h1] at h
  by_cases h2 : 1 ≤ a1
  rotate_left
  · rw [if_neg h2] at h; cases h
  rw [if_pos h2] at h
  by_cases h3 : a1 < 1000000
  rotate_left
  · rw [if_neg h3] at h; cases h
  rw [if_pos h3] at h
  obtain rfl := Option.some.inj h
  clear h
  obtain ⟨x, rfl⟩ : ∃ x, l0 = [x] := by
    match l0, h1 with
    | [x], _ => exact ⟨x, rfl⟩
  obtain ⟨ad, eA, hx⟩ := Kd.at_int hr0 0 (by decide) (by simp)
  subst eA
  have hx : w.cell? (ad.add 0) = some (Value.int .i64 x) := hx
  clear hr0 h1
  have hm := fun W => bits_Mul.calls 1 a1 0 a1 W (slices_Repeat_int_int.mul1 h2 h3)
  have u1 : IntKind.u64.wrap 1 = 1 := by decide
  have u2 : IntKind.u64.wrap a1 = a1 := by
    unfold IntKind.wrap
    simp only [IntKind.signed, IntKind.bits]
    simp
    omega
  have i1 : IntKind.i64.wrap a1 = a1 := by rw [i64_w]; unfold wrap64; omega
  have d1 : decide (a1 < 0) = false := decide_eq_false (by omega)
  have d2 : decide (a1 > 9223372036854775807) = false := decide_eq_false (by omega)
  have d3 : decide (9223372036854775807 < a1) = false := decide_eq_false (by omega)
  have p1 : decide (0 ≤ a1) = true := decide_eq_true (by omega)
  have p2 : decide (a1 ≤ 9223372036854775807) = true := decide_eq_true (by omega)
  have HB := Aside0.mk (Below.refl w.heap.size w)
  have HX := Aside0.mk hx
  go_enter Try.func48, Try.ntmps48
  go_wp2_with (first | (go_at_call 80; refine (hm _).mono ?_; rintro e w1 ⟨rfl, ⟨nd, rfl⟩⟩; have n0_ := Aside0.mk (pw_below_drewN HB.out nd); clear HB; have HB := n0_; clear n0_) | ((with_reducible refine gate_dst (N := 30) rfl ?_); refine Kd.R_make (Kd.int .i64) _ 3 rfl (N := 30) rfl 22 _ _ rfl a1 rfl rfl Try.underlying22 (.int .i64 0) 8 info3 rfl (by decide) (by omega) 0 (ok := fun _ => True) (okp := fun _ => True) rfl (fun _ hk => hk) trivial (by omega) (by omega) (Below.refl _ _) (Nat.le_refl _) ?_; intro vm w6 ho7 hb hg_ hnew_; clear hg_ hnew_; (obtain ⟨g, cap, cur, rfl, hbg, hg, hnc, hcm, hcs⟩ := slices_Repeat_int_int.of_R ho7 (by omega)); clear ho7; have HB2 := Aside0.mk (below_step HB.out hb); (have hx6 : ∀ i, i < Nat.min 1 a1.toNat → w6.cell? (ad.add i) = some (Value.int .i64 x) := (fun i hi => by obtain rfl : i = 0 := (by have h_ : Nat.min 1 a1.toNat ≤ 1 := Nat.min_le_left 1 a1.toNat; omega); exact pw_cell_below HB2.out HX.out)); (have hcp := slices_Repeat_int_int.copy (c := c0) (n := a1.toNat) (cap := cap) (o := 0) hg (by have h_ : Nat.min 1 a1.toNat ≤ a1.toNat := Nat.min_le_right 1 a1.toNat; omega) hx6)))
  clear hm u1 u2 i1 d1 d2 d3 p1 p2
  go_loopg [8] a1.toNat (fun kq v8 w' => ∃ (j : Nat) (cu : Array Value), v8 = .int .i64 (j : Int) ∧ Aside0 (a1.toNat ≤ j + kq) ∧ Aside0 (1 ≤ j ∧ j ≤ a1.toNat) ∧ Aside0 (cu.size = cap ∧ ∀ i, i < j → cu[i]? = some (Value.int .i64 x)) ∧ Aside0 (w'.heap[g]? = some (.cells cu 3 (0, 0))) ∧ Aside0 (Below w.heap.size w w'))
  case atStart =>
    have m1 : Nat.min 1 a1.toNat = 1 := Nat.min_eq_left (by omega)
    refine ⟨1, _, ?_, ⟨by omega⟩, ⟨by omega⟩, ⟨?_, ?_⟩, ⟨setRow_heap w6 g cur _ 3 (0, 0) hg⟩, ⟨slices_Repeat_int_int.below_setRow HB2.out hbg _⟩⟩
    · rw [m1]
    · simp [m1] <;> omega
    · intro i hi
      obtain rfl : i = 0 := by omega
      simp [m1]
  case round =>
    obtain ⟨j, cu, rfl, H1, H2, H3, H4, HB3⟩ := hrel
    clear hcp hx6 hg
    have h1' := H1.out
    have h2' := H2.out
    by_cases c : j < a1.toNat
    rotate_left
    · have cb : decide ((j : Int) < a1) = false := decide_eq_false (by omega)
      have cb2 : decide ((j : Int) < (a1.toNat : Int)) = false := decide_eq_false (by omega)
      have cb3 : decide (j < a1.toNat) = false := decide_eq_false (by omega)
      have cb4 : decide ((j : Int) < max a1 0) = false := decide_eq_false (by omega)
      have HC := Aside0.mk c
      clear h1' h2' c
      go_wp2
      go_ret
      obtain ⟨h3a, h3b⟩ := H3.out
      have h2' := H2.out
      have c := HC.out
      exact ⟨_, rfl, slices_Repeat_int_int.to_R hbg H4.out hnc hcm h3a (fun i hi => h3b i (by omega)), HB3.out⟩
    · have cb : decide ((j : Int) < a1) = true := decide_eq_true (by omega)
      have cb2 : decide ((j : Int) < (a1.toNat : Int)) = true := decide_eq_true (by omega)
      have cb3 : decide (j < a1.toNat) = true := decide_eq_true (by omega)
      have cb4 : decide ((j : Int) < max a1 0) = true := decide_eq_true (by omega)
      cases gk with
      | zero => omega
      | succ k1 =>
        obtain ⟨ti, hti, htz⟩ := slices_Repeat_int_int.ti
        have ncap : ¬ cap = (j : Int).toNat := by omega
        have nj : ¬ j = 0 := by omega
        have cut1 : ∀ W : World, (Instr.slice 22 (.slice (some ⟨g, 0, none⟩) a1.toNat cap) (some (.int .i64 (j : Int))) none none).run Try.prog W = .ok (.slice (some ⟨g, j, none⟩) (a1.toNat - j) (cap - j)) W := fun W => by
          have h_ := cut_from (P := Try.prog) 22 3 .i64 Try.underlying22 hti 1 htz (some ⟨g, 0, none⟩) a1.toNat cap (j : Int) (by omega) (by omega) W
          rw [if_neg ncap] at h_
          simpa [Addr.add, nj] using h_
        have cut2 := fun W => cut_to (P := Try.prog) 22 3 .i64 Try.underlying22 hti (some ⟨g, 0, none⟩) a1.toNat cap (j : Int) (by omega) (by omega) (by omega) W
        simp only [Int.toNat_natCast] at cut2
        obtain ⟨m, hmm⟩ : ∃ m : Nat, m = Nat.min j (a1.toNat - j) := ⟨_, rfl⟩
        have mb : 1 ≤ m ∧ m ≤ j ∧ j + m ≤ a1.toNat := by
          have l1 : m ≤ j := by rw [hmm]; exact Nat.min_le_left _ _
          have l2 : m ≤ a1.toNat - j := by rw [hmm]; exact Nat.min_le_right _ _
          have l3 : 1 ≤ m := by rw [hmm]; exact Nat.le_min.2 ⟨by omega, by omega⟩
          omega
        have hcp2 := slices_Repeat_int_int.copy (w := wr.drew) (o := j) (n := a1.toNat - j) (m := j) (cap := cap - j) (c := cap) (ad := ⟨g, 0, none⟩) (x := x) (blk_drew H4.out) (by rw [← hmm, H3.out.1]; omega) (fun i hi => by
          rw [slices_Repeat_int_int.add0]
          rw [cell_of_row wr.drew g _ cu 3 (0, 0) (blk_drew H4.out)]
          exact H3.out.2 i (by rw [← hmm] at hi; omega))
        rw [← hmm] at hcp2
        have hadd : IntKind.i64.wrap ((j : Int) + (m : Int)) = ((j + m : Nat) : Int) := by rw [i64_w]; unfold wrap64; omega
        have Hmb := Aside0.mk mb
        have hz : cu.size = cap := H3.out.1
        have Hz := Aside0.mk hz
        clear h1' h2' c mb hmm ncap nj hz
        go_wp2
        refine start_ (n := 10) (S := fun w' => True) (ds := [7]) (mkB 10 0) (by kernel_rfl) rfl rfl trivial (fun hHeld => ?_); refine with_tabW slices_Repeat_int_int.tab9 slices_Repeat_int_int.bits9 (fun HT_ HW_ => ?_)
        refine pr_ 0 (some 38) (mkB 10 1) HT_ ?_
        refine pr_ 1 (some 39) (mkB 10 3) HT_ ?_
        refine pr_ 2 (some 40) (mkB 10 7) HT_ ?_
        refine pr_ 3 (some 41) (mkB 10 15) HT_ ?_
        refine pr_ 4 (some 42) (mkB 10 31) HT_ ?_
        refine pr_ 5 (some 43) (mkB 10 63) HT_ ?_
        refine pr_ 6 (some 44) (mkB 10 127) HT_ ?_
        refine last_ (i := 7) (N := some 45) (mkB 10 255) rfl rfl (one_of HT_.out (by kernel_rfl)) (by decide) (fun K hK => ?_)
        refine value_ (w1 := ?_) (v := ?_) (by rfl) rfl ?_ ?_
        rotate_left 2
        · go_simp
          constructor
          · rfl
          · rfl
        refine hK.out _ _ ?_
        clear hK K
        refine norm_ (a' := ?_) ?_ ?_
        rotate_left
        · show Act.put _ (some 45) _ = _
          simp only [Act.put, List.setIfInBounds_toArray, List.set_cons_zero, List.set_cons_succ, i64_w, i32_w]
          rfl
        refine pr_ 8 (some 46) (mkB 10 511) HT_ ?_
        refine pr_ 9 (some 8) (mkB 10 1023) HT_ ?_
        refine done_ (done_of HT_.out (by kernel_rfl)) ?_
        try go_wp2
        go_roundg k1
        case measure => have h2_ := H1.out; have h3_ := Hmb.out; omega
        case rel =>
          have mb := Hmb.out
          have h2' := H2.out
          have h1' := H1.out
          have hz := Hz.out
          refine ⟨j + m, _, by first | rfl | (rw [← hadd]; rfl) | simp, ⟨by omega⟩, ⟨by omega⟩, ⟨?_, ?_⟩, ⟨setRow_heap wr.drew g cu _ 3 (0, 0) (blk_drew H4.out)⟩, ⟨slices_Repeat_int_int.below_setRow (below_drew1 HB3.out) hbg _⟩⟩
          · simp only [List.size_toArray, List.length_append, List.length_take, List.length_replicate, List.length_drop, Array.length_toList]
            omega
          · intro i hi
            simp only [List.getElem?_toArray, List.append_assoc]
            by_cases q : i < j
            · rw [List.getElem?_append_left (by simp only [List.length_take, Array.length_toList]; omega), List.getElem?_take_of_lt q, Array.getElem?_toList]
              exact H3.out.2 i q
            · rw [List.getElem?_append_right (by simp only [List.length_take, Array.length_toList]; omega), List.getElem?_append_left (by simp only [List.length_take, List.length_replicate, Array.length_toList]; omega)]
              rw [List.getElem?_replicate, if_pos (by simp only [List.length_take, Array.length_toList]; omega)]

end Go.Proofs.Ythbpibdfookbmaa.G
