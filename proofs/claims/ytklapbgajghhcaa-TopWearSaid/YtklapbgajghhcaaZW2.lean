/- Functions of the seat and plain laws about them: GF48, GF43, GF37, GF21, GF6, GF59, GF46. -/
import Derived.Test.YtklapbgajghhcaaGBase
import Derived.Test.YtklapbgajghhcaaZW0
import Derived.Test.YtklapbgajghhcaaZW1
section
namespace Go.Proofs.Ytklapbgajghhcaa.G
open Go.RowKit Go.Proofs.YtklapbgajghhcaaW.PrintWords Go.Proofs.YtklapbgajghhcaaW.PrintLast Go.Proofs.YtklapbgajghhcaaW.PrintMore
attribute [local go_sem] max2_int min2_int max_two min_two max_three min_three max_four min_four
set_option linter.unusedVariables false
set_option linter.unusedSimpArgs false
def bits_Mul64.f (a0 : Int) (a1 : Int) : Option (Int × Int) := some (IntKind.u64.wrap ((IntKind.u64.wrap ((IntKind.u64.wrap ((a0 / 4294967296) * (a1 / 4294967296))) + ((IntKind.u64.wrap ((IntKind.u64.wrap ((a0 / 4294967296) * (Go.bits .and .u64 a1 4294967295))) + ((IntKind.u64.wrap ((Go.bits .and .u64 a0 4294967295) * (Go.bits .and .u64 a1 4294967295))) / 4294967296))) / 4294967296))) + ((IntKind.u64.wrap ((Go.bits .and .u64 (IntKind.u64.wrap ((IntKind.u64.wrap ((a0 / 4294967296) * (Go.bits .and .u64 a1 4294967295))) + ((IntKind.u64.wrap ((Go.bits .and .u64 a0 4294967295) * (Go.bits .and .u64 a1 4294967295))) / 4294967296))) 4294967295) + (IntKind.u64.wrap ((Go.bits .and .u64 a0 4294967295) * (a1 / 4294967296))))) / 4294967296)), IntKind.u64.wrap (a0 * a1))
set_option maxHeartbeats 8000000 in
set_option maxRecDepth 100000 in
theorem bits_Mul64.calls (a0 : Int) (a1 : Int) (r1 : Int) (r2 : Int) (w : World) (h : bits_Mul64.f a0 a1 = some (r1, r2)) :
    Calls Try.prog 48 #[.int .u64 a0, .int .u64 a1] w fun e w' => e = .returned (.tuple #[.int .u64 r1, .int .u64 r2]) ∧ Drawn0 w w' := by
  have H : (some (IntKind.u64.wrap ((IntKind.u64.wrap ((IntKind.u64.wrap ((a0 / 4294967296) * (a1 / 4294967296))) + ((IntKind.u64.wrap ((IntKind.u64.wrap ((a0 / 4294967296) * (Go.bits .and .u64 a1 4294967295))) + ((IntKind.u64.wrap ((Go.bits .and .u64 a0 4294967295) * (Go.bits .and .u64 a1 4294967295))) / 4294967296))) / 4294967296))) + ((IntKind.u64.wrap ((Go.bits .and .u64 (IntKind.u64.wrap ((IntKind.u64.wrap ((a0 / 4294967296) * (Go.bits .and .u64 a1 4294967295))) + ((IntKind.u64.wrap ((Go.bits .and .u64 a0 4294967295) * (Go.bits .and .u64 a1 4294967295))) / 4294967296))) 4294967295) + (IntKind.u64.wrap ((Go.bits .and .u64 a0 4294967295) * (a1 / 4294967296))))) / 4294967296)), IntKind.u64.wrap (a0 * a1))) = some (r1, r2) := h
  clear h
  simp only [Option.some.injEq, Prod.mk.injEq] at H
  obtain ⟨rfl, rfl⟩ := H
  go_enter Try.func48, Try.ntmps48
  go_wp2
  go_ret2
  exact ⟨by first | rfl | (simp; done) | (simp [*]; done), by repeat (first | exact Drawn0.refl _ | apply Drawn0.step)⟩
def bits_Mul.f (a0 : Int) (a1 : Int) : Option (Int × Int) := (bits_Mul64.f a0 a1).bind fun bt101 => (some (bt101.1, bt101.2))
set_option maxHeartbeats 8000000 in
set_option maxRecDepth 100000 in
theorem bits_Mul.calls (a0 : Int) (a1 : Int) (r1 : Int) (r2 : Int) (w : World) (h : bits_Mul.f a0 a1 = some (r1, r2)) :
    Calls Try.prog 43 #[.int .u64 a0, .int .u64 a1] w fun e w' => e = .returned (.tuple #[.int .u64 r1, .int .u64 r2]) ∧ Drawn0 w w' := by
  have H : ((bits_Mul64.f a0 a1).bind fun bt101 => (some (bt101.1, bt101.2))) = some (r1, r2) := h
  clear h
  replace H := Option.bind_eq_some_iff.mp H
  obtain ⟨⟨t101, t102⟩, A30, H⟩ := H
  replace H : (some (t101, t102)) = some (r1, r2) := H
  have A3 := Aside0.mk A30
  clear A30
  simp only [Option.some.injEq, Prod.mk.injEq] at H
  obtain ⟨rfl, rfl⟩ := H
  go_enter Try.func43, Try.ntmps43
  go_wp2_with (first | ((with_reducible refine gate_callee (f := 48) rfl ?_); refine goesL_ (some 25) rfl rfl Try.func48 (by kernel_rfl) rfl #[.int .u64 a0, .int .u64 a1] rfl (by (try simp only [List.map_toArray, List.map_cons, List.map_nil]); first | done | rfl | (simp only [List.length_drop, List.length_take]; rfl)) ?_; (with_reducible refine (bits_Mul64.calls a0 a1 t101 t102 _ A3.out).mono ?_); rintro e w' ⟨rfl, ⟨nd, rfl⟩⟩; refine ⟨_, rfl, ?_⟩))
  go_ret2
  exact ⟨by first | rfl | (simp; done) | (simp [*]; done), by repeat (first | exact Drawn0.refl _ | apply Drawn0.step)⟩
theorem api_Ratio_37.mul1 {a : Int} (h : 1 ≤ a) (h2 : a < 1000000) : bits_Mul.f 1 a = some (0, a) := by
  have e0 : ∀ z : Int, 0 ≤ z → z < 18446744073709551616 → IntKind.u64.wrap z = z := fun z h1 h2 => by
    unfold IntKind.wrap
    simp only [IntKind.signed, IntKind.bits]
    simp
    omega
  have e1 : a / 4294967296 = 0 := by omega
  have ed : ((1 : Int) / 4294967296) = 0 := by decide
  have e5 : IntKind.u64.wrap 0 = 0 := e0 0 (by omega) (by omega)
  have e6 : IntKind.u64.wrap a = a := e0 a (by omega) (by omega)
  have e4 : IntKind.u64.wrap (Go.bits .and .u64 1 4294967295 * Go.bits .and .u64 a 4294967295) / 4294967296 = 0 := by
    have b1 : Go.bits .and .u64 1 4294967295 = 1 := by decide
    have b2 : Go.bits .and .u64 a 4294967295 = a := by
      obtain ⟨m, rfl⟩ : ∃ m : Nat, a = m := ⟨a.toNat, by omega⟩
      have e : (BitVec.ofNat 64 m &&& 4294967295#64).toNat = m := by
        rw [BitVec.toNat_and, BitVec.toNat_ofNat, BitVec.toNat_ofNat, Nat.mod_eq_of_lt (by omega), show 4294967295 % 2 ^ 64 = 2 ^ 32 - 1 by decide, Nat.and_two_pow_sub_one_eq_mod, Nat.mod_eq_of_lt (by omega)]
      simp only [Go.bits, IntKind.wrap, IntKind.signed, IntKind.bits]
      simp
      have e2 : ((BitVec.ofNat 64 m &&& 4294967295#64).toNat : Int) % 18446744073709551616 = (m : Int) := by rw [e]; omega
      exact e2
    rw [b1, b2, Int.one_mul, e6]; omega
  have e7 : (IntKind.u64.wrap (Go.bits .and .u64 0 4294967295 + IntKind.u64.wrap 0)) / 4294967296 = 0 := by decide
  unfold bits_Mul.f bits_Mul64.f
  simp only [e1, ed, Int.zero_mul, Int.mul_zero, e5, e4, Int.add_zero, Int.one_mul, e6, Option.bind_some]
  rfl
def api_Ratio_37.f (l0 : List S35) (a1 : Int) : Option (List S35) := if l0.length = 1 then (if 1 ≤ a1 then (if a1 < 1000000 then (some (List.replicate a1.toNat (rd_T35 l0 0))) else (none)) else (none)) else (none)
def api_Ratio_37.two (x : S35) (i : Nat) : Value := if i % 2 = 0 then .int .i64 x.f0 else .int .i64 x.f1
theorem api_Ratio_37.to_R {w : World} {base g cap : Nat} {cur : Array Value} {n : Nat} {x : S35} (hb : base ≤ g) (hg : w.heap[g]? = some (.cells cur 35 (0, 0))) (hn : n ≤ cap) (hc : cap ≤ maxLen) (hs : cur.size = cap * 2) (hx : ∀ i, i < n * 2 → cur[i]? = some (api_Ratio_37.two x i)) :
    Kd.R k35 35 w base (fun _ => True) (.slice (some ⟨g, 0, none⟩) n cap) (List.replicate n x) := by
  have hl : (cur.toList.take (n * 2)).length = n * 2 := by rw [List.length_take, Array.length_toList]; omega
  have hget : ∀ i, i < n * 2 → (cur.toList.take (n * 2))[i]? = some (api_Ratio_37.two x i) := fun i hi => by
    rw [List.getElem?_take_of_lt hi, Array.getElem?_toList]; exact hx i hi
  refine ⟨fun _ _ => trivial, cur.toList.take (n * 2), ⟨by rw [hl, List.length_replicate]; rfl, Or.inr ⟨g, cap, cur, by simp, hb, hg, by simpa using hn, hc, hs, by simp; rfl⟩⟩, by rw [hl, List.length_replicate]; rfl, fun j p hj => ?_⟩
  rw [List.getElem?_replicate] at hj
  split at hj
  · rename_i hjn
    obtain rfl := Option.some.inj hj
    have e : ((cur.toList.take (n * 2)).drop (j * 2)).take 2 = [.int .i64 x.f0, .int .i64 x.f1] := by
      refine List.ext_getElem? fun i => ?_
      match i with
      | 0 =>
        rw [List.getElem?_take_of_lt (by omega), List.getElem?_drop, hget _ (by omega)]
        unfold api_Ratio_37.two
        rw [if_pos (by omega)]; rfl
      | 1 =>
        rw [List.getElem?_take_of_lt (by omega), List.getElem?_drop, hget _ (by omega)]
        unfold api_Ratio_37.two
        rw [if_neg (by omega)]; rfl
      | i + 2 =>
        rw [List.getElem?_eq_none (by rw [List.length_take]; omega)]
        rfl
    show k35.M w base _ x (((cur.toList.take (n * 2)).drop (j * 2)).take 2)
    rw [e]
    exact k35_mkM _ _ _ _
  · cases hj
theorem api_Ratio_37.below_setRow {B g : Nat} {w0 w : World} (hb : Below B w0 w) (hBg : B ≤ g) (cs : Array Value) : Below B w0 (w.setRow g cs) :=
  hb.trans ⟨rfl, rfl, rfl, by simp [World.setRow], fun k hk => setRow_other w g k cs (by omega)⟩
theorem api_Ratio_37.add0 (g i : Nat) : (Addr.add ⟨g, 0, none⟩ i) = ⟨g, i, none⟩ := by
  unfold Addr.add
  by_cases h : i = 0 <;> simp [h]
theorem api_Ratio_37.ti : ∃ i, Try.prog.info? 35 = some i ∧ i.size = 2 := by
  have h := info35
  cases q : Try.prog.info? 35 with
  | none => rw [q] at h; simp at h
  | some i => rw [q] at h; simp at h; exact ⟨i, rfl, h.2.1⟩
theorem api_Ratio_37.of_R {w : World} {base n : Nat} {ok : Nat → Prop} {v : Value} {z : S35} (h : Kd.R k35 35 w base ok v (List.replicate n z)) (hn : 0 < n) :
    ∃ g cap cur, v = .slice (some ⟨g, 0, none⟩) n cap ∧ base ≤ g ∧ w.heap[g]? = some (.cells cur 35 (0, 0)) ∧ n ≤ cap ∧ cap ≤ maxLen ∧ cur.size = cap * 2 := by
  obtain ⟨_, inner, ⟨hlen, hrow⟩, _⟩ := h
  rcases hrow with ⟨_, hz⟩ | ⟨g, cap, cur, hv, hbg, hg, hnc, hcm, hcs, htk⟩
  · simp at hz; omega
  · simp only [List.length_replicate] at hv hnc
    exact ⟨g, cap, cur, hv, hbg, hg, hnc, hcm, hcs⟩
theorem api_Ratio_37.copy2 (w : World) (g o n cap : Nat) (ad : Addr) (m c : Nat) (cur : Array Value) (cs : List Value) (hg : w.heap[g]? = some (.cells cur 35 (0, 0))) (hn : cs.length = Nat.min m n * 2)
    (hsrc : ∀ j v, cs[j]? = some v → w.cell? (ad.add j) = some v) (hfit : o + cs.length ≤ cur.size) (h1 : ∀ v ∈ cs, v.oneCell' = true) :
    (Builtin.copy_ #[23, 23] 3 #[.slice (some ⟨g, o, none⟩) n cap, .slice (some ad) m c]).run Try.prog w = .ok (goInt (Nat.min m n)) (w.setRow g (cur.toList.take o ++ cs ++ cur.toList.drop (o + cs.length)).toArray) := by
  have hl := run_loadCells_list (P := Try.prog) w ad cs hsrc
  have hst := run_storeCells_at Try.prog g o 35 cs 0 cur w hg (by simpa using hfit) h1
  obtain ⟨i, hq, hi⟩ := api_Ratio_37.ti
  have hu := Try.underlying23
  simp [Builtin.copy_, run_underlying hu, Builtin.lenOf, Builtin.firstCells, sizeOf, typeInfo, hq, hi, ← hn, hl, hst]
theorem api_Ratio_37.copy {w : World} {g o n m cap c : Nat} {ad : Addr} {cur : Array Value} {x : S35} (hg : w.heap[g]? = some (.cells cur 35 (0, 0))) (ho : o + Nat.min m n * 2 ≤ cur.size) (hx : ∀ i, i < Nat.min m n * 2 → w.cell? (ad.add i) = some (api_Ratio_37.two x i)) :
    (Builtin.copy_ #[23, 23] 3 #[.slice (some ⟨g, o, none⟩) n cap, .slice (some ad) m c]).run Try.prog w = .ok (.int .i64 ((Nat.min m n : Nat) : Int)) (w.setRow g (cur.toList.take o ++ (List.range (Nat.min m n * 2)).map (api_Ratio_37.two x) ++ cur.toList.drop (o + Nat.min m n * 2)).toArray) := by
  have := api_Ratio_37.copy2 w g o n cap ad m c cur ((List.range (Nat.min m n * 2)).map (api_Ratio_37.two x)) hg (by simp) (fun j v hj => by
    rw [List.getElem?_map] at hj
    obtain ⟨q, hq, rfl⟩ := Option.map_eq_some_iff.1 hj
    obtain ⟨hlt, e⟩ := List.getElem?_eq_some_iff.1 hq
    rw [List.length_range] at hlt
    rw [List.getElem_range] at e
    subst e
    exact hx j hlt) (by simpa using ho) (fun v hv => by
    obtain ⟨q, _, rfl⟩ := List.mem_map.1 hv
    unfold api_Ratio_37.two
    split <;> rfl)
  rw [this]
  simp [goInt]
def api_Ratio_37.T9 : Bool × List (List Nat × List Nat) := (true, [([], []), ([], []), ([], []), ([1, 2], [1, 2]), ([], []), ([], []), ([4, 5], [4, 5]), ([3, 6], [3, 6]), ([0, 7], [0, 7]), ([8, 7, 0, 1, 2, 3, 4, 5, 6, 7, 8], [0, 2, 5, 8])])
def api_Ratio_37.B9 : List Nat := [0, 0, 0, 6, 0, 0, 48, 126, 255, 511]
theorem api_Ratio_37.tab9 : rtab .any (opsOf Try.f37 9) = api_Ratio_37.T9 := by kernel_rfl
theorem api_Ratio_37.bits9 : waitsOk api_Ratio_37.T9.2 api_Ratio_37.B9 = true := by kernel_rfl
set_option maxHeartbeats 8000000 in
set_option maxRecDepth 100000 in
theorem api_Ratio_37.calls (A0 : Option Addr) (c0 : Nat) (l0 : List S35) (a1 : Int) (r : List S35) (w : World) (hr0 : Kd.C k35 w A0 l0.length l0) (hc0 : l0.length ≤ c0) (h : api_Ratio_37.f l0 a1 = some r) :
    Calls Try.prog 37 #[.slice A0 l0.length c0, .int .i64 a1] w fun e w' => ∃ v0_ : Value, e = .returned (v0_) ∧ Kd.R k35 35 w' w.heap.size (fun _ => True) v0_ r ∧ Below w.heap.size w w' := by
  unfold api_Ratio_37.f at h
  by_cases h1 : l0.length = 1
  rotate_left
  · rw [if_neg h1] at h; cases h
  rw [if_pos h1] at h
  by_cases h2 : 1 ≤ a1
  rotate_left
  · rw [if_neg h2] at h; cases h
  rw [if_pos h2] at h
  by_cases h3 : a1 < 1000000
  rotate_left
  · rw [if_neg h3] at h; cases h
  rw [if_pos h3] at h
  obtain rfl := Option.some.inj h
  clear h
  obtain ⟨x, rfl⟩ : ∃ x, l0 = [x] := by
    match l0, h1 with
    | [x], _ => exact ⟨x, rfl⟩
  obtain ⟨ad, eA, hx0, hx1⟩ := at_T35 hr0 0 (by decide) (by simp)
  subst eA
  have hx : ∀ i, i < 2 → w.cell? (ad.add i) = some (api_Ratio_37.two x i) := fun i hi => by
    match i, hi with
    | 0, _ => exact hx0
    | 1, _ =>
      have e : ad.add 1 = ⟨(ad.add ((0 : Int).toNat * 2)).block, (ad.add ((0 : Int).toNat * 2)).off + 1, none⟩ := by
        rw [← add_field _ _ 1 (by omega)]; rfl
      rw [e]; exact hx1
  clear hx0 hx1
  clear hr0 h1
  have hm := fun W => bits_Mul.calls 1 a1 0 a1 W (api_Ratio_37.mul1 h2 h3)
  have u1 : IntKind.u64.wrap 1 = 1 := by decide
  have u2 : IntKind.u64.wrap a1 = a1 := by
    unfold IntKind.wrap
    simp only [IntKind.signed, IntKind.bits]
    simp
    omega
  have i1 : IntKind.i64.wrap a1 = a1 := by rw [i64_w]; unfold wrap64; omega
  have d1 : decide (a1 < 0) = false := decide_eq_false (by omega)
  have d2 : decide (a1 > 9223372036854775807) = false := decide_eq_false (by omega)
  have d3 : decide (9223372036854775807 < a1) = false := decide_eq_false (by omega)
  have p1 : decide (0 ≤ a1) = true := decide_eq_true (by omega)
  have p2 : decide (a1 ≤ 9223372036854775807) = true := decide_eq_true (by omega)
  have HB := Aside0.mk (Below.refl w.heap.size w)
  have HX := Aside0.mk hx
  go_enter Try.func37, Try.ntmps37
  go_wp2_with (first | (go_at_call 43; refine (hm _).mono ?_; rintro e w1 ⟨rfl, ⟨nd, rfl⟩⟩; have n0_ := Aside0.mk (pw_below_drewN HB.out nd); clear HB; have HB := n0_; clear n0_) | ((with_reducible refine gate_dst (N := 30) rfl ?_); refine Kd.R_make k35 _ 35 rfl (N := 30) rfl 23 _ _ rfl a1 rfl rfl Try.underlying23 (.agg #[(.int .i64 0), (.int .i64 0)]) 16 info35 rfl (by decide) (by omega) z35 (ok := fun _ => True) (okp := fun _ => True) (k35_mkM _ _ _ _) (fun _ hk => hk) trivial (by omega) (by omega) (Below.refl _ _) (Nat.le_refl _) ?_; intro vm w6 ho7 hb hg_ hnew_; clear hg_ hnew_; (obtain ⟨g, cap, cur, rfl, hbg, hg, hnc, hcm, hcs⟩ := api_Ratio_37.of_R ho7 (by omega)); clear ho7; have HB2 := Aside0.mk (below_step HB.out hb); (have hx6 : ∀ i, i < Nat.min 1 a1.toNat * 2 → w6.cell? (ad.add i) = some (api_Ratio_37.two x i) := (fun i hi => pw_cell_below HB2.out (HX.out i (by have h_ : Nat.min 1 a1.toNat ≤ 1 := Nat.min_le_left 1 a1.toNat; omega)))); (have hcp := api_Ratio_37.copy (c := c0) (n := a1.toNat) (cap := cap) (o := 0) hg (by have h_ : Nat.min 1 a1.toNat ≤ a1.toNat := Nat.min_le_right 1 a1.toNat; have h2_ : 0 + Nat.min 1 a1.toNat * 2 ≤ cap * 2 := (by omega); omega) hx6)))
  clear hm u1 u2 i1 d1 d2 d3 p1 p2
  go_loopg [8] a1.toNat (fun kq v8 w' => ∃ (j : Nat) (cu : Array Value), v8 = .int .i64 (j : Int) ∧ Aside0 (a1.toNat ≤ j + kq) ∧ Aside0 (1 ≤ j ∧ j ≤ a1.toNat) ∧ Aside0 (cu.size = cap * 2 ∧ ∀ i, i < j * 2 → cu[i]? = some (api_Ratio_37.two x i)) ∧ Aside0 (w'.heap[g]? = some (.cells cu 35 (0, 0))) ∧ Aside0 (Below w.heap.size w w'))
  case atStart =>
    have m1 : Nat.min 1 a1.toNat = 1 := Nat.min_eq_left (by omega)
    refine ⟨1, _, ?_, ⟨by omega⟩, ⟨by omega⟩, ⟨?_, ?_⟩, ⟨setRow_heap w6 g cur _ 35 (0, 0) hg⟩, ⟨api_Ratio_37.below_setRow HB2.out hbg _⟩⟩
    · rw [m1]
    · simp [m1] <;> omega
    · intro i hi
      simp only [List.getElem?_toArray, List.append_assoc, List.take_zero, List.nil_append, m1]
      rw [List.getElem?_append_left (by simp; omega), List.getElem?_map, List.getElem?_range (by omega)]
      rfl
  case round =>
    obtain ⟨j, cu, rfl, H1, H2, H3, H4, HB3⟩ := hrel
    clear hcp hx6 hg
    have h1' := H1.out
    have h2' := H2.out
    by_cases c : j < a1.toNat
    rotate_left
    · have cb : decide ((j : Int) < a1) = false := decide_eq_false (by omega)
      have cb2 : decide ((j : Int) < (a1.toNat : Int)) = false := decide_eq_false (by omega)
      have cb3 : decide (j < a1.toNat) = false := decide_eq_false (by omega)
      have cb4 : decide ((j : Int) < max a1 0) = false := decide_eq_false (by omega)
      have HC := Aside0.mk c
      clear h1' h2' c
      go_wp2
      go_ret
      obtain ⟨h3a, h3b⟩ := H3.out
      have h2' := H2.out
      have c := HC.out
      exact ⟨_, rfl, api_Ratio_37.to_R hbg H4.out hnc hcm h3a (fun i hi => h3b i (by omega)), HB3.out⟩
    · have cb : decide ((j : Int) < a1) = true := decide_eq_true (by omega)
      have cb2 : decide ((j : Int) < (a1.toNat : Int)) = true := decide_eq_true (by omega)
      have cb3 : decide (j < a1.toNat) = true := decide_eq_true (by omega)
      have cb4 : decide ((j : Int) < max a1 0) = true := decide_eq_true (by omega)
      cases gk with
      | zero => omega
      | succ k1 =>
        obtain ⟨ti, hti, htz⟩ := api_Ratio_37.ti
        have ncap : ¬ cap = (j : Int).toNat := by omega
        have nj : ¬ j * 2 = 0 := by omega
        have cut1 : ∀ W : World, (Instr.slice 23 (.slice (some ⟨g, 0, none⟩) a1.toNat cap) (some (.int .i64 (j : Int))) none none).run Try.prog W = .ok (.slice (some ⟨g, j * 2, none⟩) (a1.toNat - j) (cap - j)) W := fun W => by
          have h_ := cut_from (P := Try.prog) 23 35 .i64 Try.underlying23 hti 2 htz (some ⟨g, 0, none⟩) a1.toNat cap (j : Int) (by omega) (by omega) W
          rw [if_neg ncap] at h_
          simpa [Addr.add, nj] using h_
        have cut2 := fun W => cut_to (P := Try.prog) 23 35 .i64 Try.underlying23 hti (some ⟨g, 0, none⟩) a1.toNat cap (j : Int) (by omega) (by omega) (by omega) W
        simp only [Int.toNat_natCast] at cut2
        obtain ⟨m, hmm⟩ : ∃ m : Nat, m = Nat.min j (a1.toNat - j) := ⟨_, rfl⟩
        have mb : 1 ≤ m ∧ m ≤ j ∧ j + m ≤ a1.toNat := by
          have l1 : m ≤ j := by rw [hmm]; exact Nat.min_le_left _ _
          have l2 : m ≤ a1.toNat - j := by rw [hmm]; exact Nat.min_le_right _ _
          have l3 : 1 ≤ m := by rw [hmm]; exact Nat.le_min.2 ⟨by omega, by omega⟩
          omega
        have hcp2 := api_Ratio_37.copy (w := wr.drew) (o := j * 2) (n := a1.toNat - j) (m := j) (cap := cap - j) (c := cap) (ad := ⟨g, 0, none⟩) (x := x) (blk_drew H4.out) (by rw [← hmm, H3.out.1]; omega) (fun i hi => by
          rw [api_Ratio_37.add0]
          rw [cell_of_row wr.drew g _ cu 35 (0, 0) (blk_drew H4.out)]
          exact H3.out.2 i (by rw [← hmm] at hi; omega))
        rw [← hmm] at hcp2
        have hadd : IntKind.i64.wrap ((j : Int) + (m : Int)) = ((j + m : Nat) : Int) := by rw [i64_w]; unfold wrap64; omega
        have Hmb := Aside0.mk mb
        have hz : cu.size = cap * 2 := H3.out.1
        have Hz := Aside0.mk hz
        clear h1' h2' c mb hmm ncap nj hz
        go_wp2
        refine start_ (n := 10) (S := fun w' => True) (ds := [7]) (mkB 10 0) (by kernel_rfl) rfl rfl trivial (fun hHeld => ?_); refine with_tabW api_Ratio_37.tab9 api_Ratio_37.bits9 (fun HT_ HW_ => ?_)
        refine pr_ 0 (some 38) (mkB 10 1) HT_ ?_
        refine pr_ 1 (some 39) (mkB 10 3) HT_ ?_
        refine pr_ 2 (some 40) (mkB 10 7) HT_ ?_
        refine pr_ 3 (some 41) (mkB 10 15) HT_ ?_
        refine pr_ 4 (some 42) (mkB 10 31) HT_ ?_
        refine pr_ 5 (some 43) (mkB 10 63) HT_ ?_
        refine pr_ 6 (some 44) (mkB 10 127) HT_ ?_
        refine last_ (i := 7) (N := some 45) (mkB 10 255) rfl rfl (one_of HT_.out (by kernel_rfl)) (by decide) (fun K hK => ?_)
        refine value_ (w1 := ?_) (v := ?_) (by rfl) rfl ?_ ?_
        rotate_left 2
        · go_simp
          constructor
          · rfl
          · rfl
        refine hK.out _ _ ?_
        clear hK K
        refine norm_ (a' := ?_) ?_ ?_
        rotate_left
        · show Act.put _ (some 45) _ = _
          simp only [Act.put, List.setIfInBounds_toArray, List.set_cons_zero, List.set_cons_succ, i64_w, i32_w]
          rfl
        refine pr_ 8 (some 46) (mkB 10 511) HT_ ?_
        refine pr_ 9 (some 8) (mkB 10 1023) HT_ ?_
        refine done_ (done_of HT_.out (by kernel_rfl)) ?_
        try go_wp2
        go_roundg k1
        case measure => have h2_ := H1.out; have h3_ := Hmb.out; omega
        case rel =>
          have mb := Hmb.out
          have h2' := H2.out
          have h1' := H1.out
          have hz := Hz.out
          refine ⟨j + m, _, by first | rfl | (rw [← hadd]; rfl) | simp, ⟨by omega⟩, ⟨by omega⟩, ⟨?_, ?_⟩, ⟨setRow_heap wr.drew g cu _ 35 (0, 0) (blk_drew H4.out)⟩, ⟨api_Ratio_37.below_setRow (below_drew1 HB3.out) hbg _⟩⟩
          · simp only [List.size_toArray, List.length_append, List.length_take, List.length_map, List.length_range, List.length_drop, Array.length_toList]
            omega
          · intro i hi
            simp only [List.getElem?_toArray, List.append_assoc]
            by_cases q : i < j * 2
            · rw [List.getElem?_append_left (by simp only [List.length_take, Array.length_toList]; omega), List.getElem?_take_of_lt q, Array.getElem?_toList]
              exact H3.out.2 i q
            · rw [List.getElem?_append_right (by simp only [List.length_take, Array.length_toList]; omega), List.getElem?_append_left (by simp only [List.length_take, List.length_map, List.length_range, Array.length_toList]; omega)]
              rw [List.getElem?_map, List.getElem?_range (by simp only [List.length_take, Array.length_toList]; omega)]
              simp only [Option.map_some, Option.some.injEq, List.length_take, Array.length_toList]
              unfold api_Ratio_37.two
              have e : (i - min (j * 2) cu.size) % 2 = i % 2 := by omega
              rw [e]
def wear_nearest.l0 : Nat → List (S35) → List (S50) → Int → Int → Option ((List (S35)))
  | 0, _, _, _, _ => none
  | k + 1, x3, x7, x8, x9 => if x9 < x8 then (if 0 ≤ x9 then (if x9 < (x7.length : Int) then ((wear_block_mean.f k ((rd_T50 x7 x9).f0) ((rd_T50 x7 x9).f1) ((rd_T50 x7 x9).f2)).bind fun bt106 => ((api_Ratio_37.f (([(⟨bt106.1, bt106.2⟩ : S35)] : List (S35))) ((rd_T50 x7 x9).f2)).bind fun t111 => (if x3.length + t111.length < 8796093022208 then (wear_nearest.l0 k (x3 ++ t111) x7 x8 (wrap64 (x9 + 1))) else (none)))) else (none)) else (none)) else (some x3)
def wear_nearest.f (k : Nat) (l0 : List Int) : Option ((List (S35))) := (wear_blocks.f k l0).bind fun t101 => (wear_nearest.l0 k ([] : List (S35)) t101 (t101.length : Int) 0)
theorem wear_nearest.mono_l : ∀ k, (∀ y0 y1 y2 y3, LeO (wear_nearest.l0 k y0 y1 y2 y3) (wear_nearest.l0 (k + 1) y0 y1 y2 y3))
  | 0 => fun _ _ _ _ r h => by simp [wear_nearest.l0] at h
  | k + 1 => by
    have ih0 := wear_nearest.mono_l k
    · intro y0 y1 y2 y3
      unfold wear_nearest.l0
      repeat' first
      | (with_reducible exact ih0 _ _ _ _)
      | (with_reducible exact wear_block_mean.mono _ _ _ _)
      | (with_reducible exact wear_blocks.mono _ _)
      | (with_reducible exact LeO.refl _)
      | (with_reducible exact LeO.none _)
      | (with_reducible refine LeO.ite ?_ ?_)
      | (with_reducible refine LeO.bind ?_ (fun _ => ?_))
      | exact ih0 _ _ _ _
      | exact wear_block_mean.mono _ _ _ _
      | exact wear_blocks.mono _ _
      | exact LeO.none _
      | refine LeO.ite ?_ ?_
      | refine LeO.bind ?_ (fun _ => ?_)
theorem wear_nearest.mono : ∀ a0 k, LeO (wear_nearest.f k a0) (wear_nearest.f (k + 1) a0) := by
  intro a0 k
  have ih0 := wear_nearest.mono_l k
  unfold wear_nearest.f
  repeat' first
      | (with_reducible exact ih0 _ _ _ _)
      | (with_reducible exact wear_block_mean.mono _ _ _ _)
      | (with_reducible exact wear_blocks.mono _ _)
      | (with_reducible exact LeO.refl _)
      | (with_reducible exact LeO.none _)
      | (with_reducible refine LeO.ite ?_ ?_)
      | (with_reducible refine LeO.bind ?_ (fun _ => ?_))
      | exact ih0 _ _ _ _
      | exact wear_block_mean.mono _ _ _ _
      | exact wear_blocks.mono _ _
      | exact LeO.none _
      | refine LeO.ite ?_ ?_
      | refine LeO.bind ?_ (fun _ => ?_)
def wear_nearest.T5 : Bool × List (List Nat × List Nat) := (true, [([], []), ([], []), ([1], [1]), ([2], [2]), ([], []), ([4], [4]), ([3, 5, 2], [3, 5]), ([0, 6, 6], [0, 6]), ([7, 7, 0, 1, 2, 3, 4, 5, 6, 7], [0, 7])])
def wear_nearest.B5 : List Nat := [0, 0, 2, 6, 0, 16, 62, 127, 255]
theorem wear_nearest.tab5 : rtab .any (opsOf Try.f21 5) = wear_nearest.T5 := by kernel_rfl
theorem wear_nearest.bits5 : waitsOk wear_nearest.T5.2 wear_nearest.B5 = true := by kernel_rfl
set_option maxHeartbeats 8000000 in
set_option maxRecDepth 100000 in
theorem wear_nearest.calls (k : Nat) (A0 : Option Addr) (c0 : Nat) (l0 : List Int) (r : List (S35)) (w : World) (hr0 : Kd.C (Kd.int .i64) w A0 l0.length l0) (hc0 : l0.length ≤ c0) (h : wear_nearest.f k l0 = some r) :
    Calls Try.prog 21 #[.slice A0 l0.length c0] w fun e w' => ∃ v0_ : Value, e = .returned (v0_) ∧ Kd.R k35 35 w' w.heap.size (fun _ => True) v0_ r ∧ Below w.heap.size w w' := by
  have hu50 := Try.underlying50
  have HR0 := Aside0.mk hr0
  have HC0 := Aside0.mk hc0
  clear hr0 hc0
  have HB := Aside0.mk (Below.refl w.heap.size w)
  have H : ((wear_blocks.f k l0).bind fun t101 => (wear_nearest.l0 k ([] : List (S35)) t101 (t101.length : Int) 0)) = some r := h
  clear h
  replace H := Option.bind_eq_some_iff.mp H
  obtain ⟨t101, A20, H⟩ := H
  replace H : (wear_nearest.l0 k ([] : List (S35)) t101 (t101.length : Int) 0) = some r := H
  have A2 := Aside0.mk A20
  clear A20
  have H' := Aside0.mk H
  clear H
  go_enter Try.func21, Try.ntmps21
  go_wp2_with (first | ((with_reducible refine gate_callee (f := 22) rfl ?_); refine goesL_ (some 7) rfl rfl Try.func22 (by kernel_rfl) rfl #[.slice A0 l0.length c0] rfl (by (try simp only [List.map_toArray, List.map_cons, List.map_nil]); first | done | rfl | (simp only [List.length_drop, List.length_take]; rfl)) ?_; (with_reducible refine (wear_blocks.calls k _ _ l0 t101 _ ?side1 ?side2 A2.out).mono ?_); (case side1 => repeat (first | exact HR0.out | (with_reducible refine Kd.C_alloc ?_ _) | (with_reducible refine Kd.C_drewN ?_ _) | (with_reducible refine Kd.C_drew ?_))); (case side2 => exact HC0.out); rintro e w3 ⟨v102, rfl, ho0, hb⟩; refine ⟨_, rfl, ?_⟩; have n0_ := Aside0.mk (Kd.R_lower ho0 (below_size (by repeat (first | (with_reducible first | exact HB.out | apply below_alloc | apply pw_below_drewN | apply below_drew1) | exact HB.out)))); have n1_ := Aside0.mk (below_step (by repeat (first | (with_reducible first | exact HB.out | apply below_alloc | apply pw_below_drewN | apply below_drew1) | exact HB.out)) hb); clear HB; have HO103 := n0_; have HB := n1_; clear n0_ n1_; (try clear hb); (try clear hb2); (try clear hk); (try clear hi); (try clear ho0); obtain ⟨Ao4, co4, eo4⟩ := Kd.R_slice HO103.out; subst eo4))
  go_loopg [3, 9] k (fun kq v3 v9 w' => ∃ (x3_1 : List (S35)) (x9_1 : Int), v9 = .int .i64 x9_1 ∧ Aside0 (wear_nearest.l0 kq x3_1 t101 (t101.length : Int) x9_1 = some r) ∧ Aside0 (kq ≤ k) ∧ Aside0 (Kd.R k35 35 w' w.heap.size (fun _ => True) v3 x3_1) ∧ Aside0 (Kd.R k50 50 w' w.heap.size (fun _ => True) (.slice Ao4 t101.length co4) t101) ∧ Aside0 (Below w.heap.size w w'))
  case atStart => exact ⟨(([] : List (S35))), (0), (by first | rfl | (simp; done) | (simp [*]; done)), H', ⟨Nat.le_refl _⟩, ⟨by first | exact Kd.R_nil _ _ _ _ _ | exact Kd.N_nil _ _ _ _ _ | exact Kd.V_nil _ _ _ _ _ | exact Kd.Q_nil _ _ _ _ _ | exact Kd.S_nil _ _ _ _ _⟩, ⟨by (with_reducible repeat (first | apply Kd.R_alloc | apply Kd.R_drewN | apply Kd.R_drew)); exact HO103.out⟩, ⟨by repeat (first | (with_reducible first | exact HB.out | apply below_alloc | apply pw_below_drewN | apply below_drew1) | exact HB.out)⟩⟩
  case round =>
    clear H'
    try clear c2
    try clear p2
    obtain ⟨x3_1, x9_1, rfl, HA, HK1, HO_3, HO_7, HB⟩ := hrel
    cases gk with
    | zero => exact absurd HA.out (by simp [wear_nearest.l0])
    | succ k1 =>
      have H := HA.out
      clear HA
      simp only [wear_nearest.l0] at H
      by_cases c5 : x9_1 < (t101.length : Int)
      rotate_left
      · rw [if_neg c5] at H
        have c5b0 : decide (x9_1 < (t101.length : Int)) = false := decide_eq_false c5
        clear c5
        obtain rfl := Option.some.inj H
        go_wp2
        go_ret
        exact ⟨_, by first | rfl | (simp [errW_none, errW_some] <;> rfl) | (simp [*, errW_none, errW_some] <;> rfl), by (with_reducible repeat (first | apply Kd.R_alloc | apply Kd.R_drewN | apply Kd.R_drew)); exact HO_3.out, by repeat (first | (with_reducible first | exact HB.out | apply below_alloc | apply pw_below_drewN | apply below_drew1) | exact HB.out)⟩
      rw [if_pos c5] at H
      have c5b0 : decide (x9_1 < (t101.length : Int)) = true := decide_eq_true c5
      clear c5
      by_cases c6 : 0 ≤ x9_1
      rotate_left
      · rw [if_neg c6] at H
        exact absurd H (by simp)
      rw [if_pos c6] at H
      have c6b0 : decide (0 ≤ x9_1) = true := decide_eq_true c6
      clear c6
      by_cases c7 : x9_1 < (t101.length : Int)
      rotate_left
      · rw [if_neg c7] at H
        exact absurd H (by simp)
      rw [if_pos c7] at H
      have c7b0 : decide (x9_1 < (t101.length : Int)) = true := decide_eq_true c7
      clear c7
      replace H := Option.bind_eq_some_iff.mp H
      obtain ⟨⟨t106, t107⟩, A80, H⟩ := H
      replace H : ((api_Ratio_37.f (([(⟨t106, t107⟩ : S35)] : List (S35))) ((rd_T50 t101 x9_1).f2)).bind fun t111 => (if x3_1.length + t111.length < 8796093022208 then (wear_nearest.l0 k1 (x3_1 ++ t111) t101 (t101.length : Int) (wrap64 (x9_1 + 1))) else (none))) = some r := H
      have A8 := Aside0.mk A80
      clear A80
      obtain ⟨y108, hy108⟩ : ∃ y_ : List (S35), y_ = (([(⟨t106, t107⟩ : S35)] : List (S35))) := ⟨_, rfl⟩
      replace H : ((api_Ratio_37.f y108 ((rd_T50 t101 x9_1).f2)).bind fun t111 => (if x3_1.length + t111.length < 8796093022208 then (wear_nearest.l0 k1 (x3_1 ++ t111) t101 (t101.length : Int) (wrap64 (x9_1 + 1))) else (none))) = some r := by first | (rw [hy108]; with_reducible exact H) | (have H2_ := (Option.bind_some _ _).symm.trans H; rw [hy108]; with_reducible exact H2_) | (have H2_ := (Option.bind_some _ _).symm.trans H; with_reducible exact H2_) | with_reducible exact H | (rw [hy108]; exact H) | exact H
      have Ny108 := Aside0.mk hy108
      clear hy108
      replace H := Option.bind_eq_some_iff.mp H
      obtain ⟨t111, A90, H⟩ := H
      replace H : (if x3_1.length + t111.length < 8796093022208 then (wear_nearest.l0 k1 (x3_1 ++ t111) t101 (t101.length : Int) (wrap64 (x9_1 + 1))) else (none)) = some r := H
      have A9 := Aside0.mk A90
      clear A90
      by_cases c10 : x3_1.length + t111.length < 8796093022208
      rotate_left
      · rw [if_neg c10] at H
        exact absurd H (by simp)
      rw [if_pos c10] at H
      have LMc10 := Aside0.mk c10
      clear c10
      obtain ⟨y114, hy114⟩ : ∃ y_ : List (S35), y_ = (x3_1 ++ t111) := ⟨_, rfl⟩
      replace H : (wear_nearest.l0 k1 y114 t101 (t101.length : Int) (wrap64 (x9_1 + 1))) = some r := by first | (rw [hy114]; with_reducible exact H) | (have H2_ := (Option.bind_some _ _).symm.trans H; rw [hy114]; with_reducible exact H2_) | (have H2_ := (Option.bind_some _ _).symm.trans H; with_reducible exact H2_) | with_reducible exact H | (rw [hy114]; exact H) | exact H
      have Ny114 := Aside0.mk hy114
      clear hy114
      have H' := Aside0.mk H
      clear H
      have p104 : 0 ≤ (x9_1 : Int) := of_decide_eq_true (by first | (with_reducible assumption) | assumption)
      have q104 : x9_1 < (t101.length : Int) := of_decide_eq_true (by first | (with_reducible assumption) | assumption)
      obtain ⟨ad104, e104, hx104_0, hx104_1, hx104_2⟩ := at_T50 (Kd.R_reads' HO_7.out).2.2 x9_1 p104 q104
      cases e104
      replace p104 := eq_true p104
      replace q104 := eq_true q104
      try go_wp2_with (first | ((with_reducible refine gate_dst (N := 5) rfl ?_); refine box_event ?hg (N := 5) ?hd (cs := #[.int .i64 0, .int .i64 0, .int .i64 0]) (t := 50) ?hr ?_; (case hd => rfl); (case hg => rfl); (case hr => first | (go_simp; done) | (go_simp; rfl)); intro gb105 hg w11 hbox hb; have n0_ := Aside0.mk (Kd.R_below (by (with_reducible repeat (first | apply Kd.R_alloc | apply Kd.R_drewN | apply Kd.R_drew)); exact HO_3.out) hb); have n1_ := Aside0.mk (Kd.R_below (Kd.R_elderB (by (with_reducible repeat (first | apply Kd.R_alloc | apply Kd.R_drewN | apply Kd.R_drew)); exact HO_7.out) gb105 (Nat.le_of_eq hg.symm)) hb); have n2_ := Aside0.mk (below_step (by repeat (first | (with_reducible first | exact HB.out | apply below_alloc | apply pw_below_drewN | apply below_drew1) | exact HB.out)) hb); have n3_ := Aside0.mk (hbox); have n4_ := Aside0.mk ((by rw [hg]; exact (below_size (by repeat (first | (with_reducible first | exact HB.out | apply below_alloc | apply pw_below_drewN | apply below_drew1) | exact HB.out))) : w.heap.size ≤ gb105)); have n5_ := Aside0.mk ((by rw [hg]; exact (below_size (by repeat (first | (with_reducible first | exact HB.out | apply below_alloc | apply pw_below_drewN | apply below_drew1) | exact HB.out))) : w.heap.size ≤ gb105)); clear HO_3; clear HO_7; clear HB; have HO_3 := n0_; have HO_7 := n1_; have HB := n2_; have BK105 := n3_; have GW105 := n4_; have GE105 := n5_; clear n0_ n1_ n2_ n3_ n4_ n5_; clear hb hbox hg; have hcz12_0 : w11.cell? ⟨gb105, 0, none⟩ = some (.int .i64 0) := (blk_cell BK105.out 0).trans rfl; have hcz12_1 : w11.cell? ⟨gb105, 1, none⟩ = some (.int .i64 0) := (blk_cell BK105.out 1).trans rfl; have hcz12_2 : w11.cell? ⟨gb105, 2, none⟩ = some (.int .i64 0) := (blk_cell BK105.out 2).trans rfl; have hfz12_0 := blk_frozen BK105.out 0; have hfz12_1 := blk_frozen BK105.out 1; have hfz12_2 := blk_frozen BK105.out 2))
      have n0_ : Aside0 (Kd.R k35 35 (((w11.setCell ⟨gb105, 0, none⟩ (.int .i64 ((rd_T50 t101 x9_1).f0))).setCell ⟨gb105, 1, none⟩ (.int .i64 ((rd_T50 t101 x9_1).f1))).setCell ⟨gb105, 2, none⟩ (.int .i64 ((rd_T50 t101 x9_1).f2))) w.heap.size (fun _ => True) u3 x3_1) := ⟨by (with_reducible repeat (first | apply Kd.R_alloc | apply Kd.R_drewN | apply Kd.R_drew)); exact Kd.R_mono (Kd.R_far (p := ⟨gb105, 2, none⟩) (Kd.R_far (p := ⟨gb105, 1, none⟩) (Kd.R_far (p := ⟨gb105, 0, none⟩) (Kd.R_types HO_3.out BK105.out (by decide)) (fun _ hk => hk.2) (.int .i64 ((rd_T50 t101 x9_1).f0))) (fun _ hk => hk.2) (.int .i64 ((rd_T50 t101 x9_1).f1))) (fun _ hk => hk.2) (.int .i64 ((rd_T50 t101 x9_1).f2))) (fun _ hk => trivial)⟩
      have n1_ : Aside0 (Kd.R k50 50 (((w11.setCell ⟨gb105, 0, none⟩ (.int .i64 ((rd_T50 t101 x9_1).f0))).setCell ⟨gb105, 1, none⟩ (.int .i64 ((rd_T50 t101 x9_1).f1))).setCell ⟨gb105, 2, none⟩ (.int .i64 ((rd_T50 t101 x9_1).f2))) w.heap.size (fun k_ => k_ ≠ gb105) (.slice (some ad104) t101.length co4) t101) := ⟨by (with_reducible repeat (first | apply Kd.R_alloc | apply Kd.R_drewN | apply Kd.R_drew)); exact Kd.R_mono (Kd.R_far (p := ⟨gb105, 2, none⟩) (Kd.R_far (p := ⟨gb105, 1, none⟩) (Kd.R_far (p := ⟨gb105, 0, none⟩) (Kd.R_mono HO_7.out (fun k_ hk => (⟨hk, hk.2⟩ : _ ∧ k_ ≠ gb105))) (fun _ hk => hk.2) (.int .i64 ((rd_T50 t101 x9_1).f0))) (fun _ hk => hk.2) (.int .i64 ((rd_T50 t101 x9_1).f1))) (fun _ hk => hk.2) (.int .i64 ((rd_T50 t101 x9_1).f2))) (fun _ hk => hk.1.2)⟩
      have n2_ : Aside0 ((((w11.setCell ⟨gb105, 0, none⟩ (.int .i64 ((rd_T50 t101 x9_1).f0))).setCell ⟨gb105, 1, none⟩ (.int .i64 ((rd_T50 t101 x9_1).f1))).setCell ⟨gb105, 2, none⟩ (.int .i64 ((rd_T50 t101 x9_1).f2))).heap[gb105]? = some (.cells #[.int .i64 ((rd_T50 t101 x9_1).f0), .int .i64 ((rd_T50 t101 x9_1).f1), .int .i64 ((rd_T50 t101 x9_1).f2)] 50 (0, 0))) := ⟨by (with_reducible repeat (first | refine blk_drewN ?_ _ | refine blk_drew ?_ | refine blk_alloc ?_ _)); refine blk_put (cs := #[.int .i64 ((rd_T50 t101 x9_1).f0), .int .i64 ((rd_T50 t101 x9_1).f1), .int .i64 0]) ?_ 2 _ rfl; (with_reducible repeat (first | refine blk_drewN ?_ _ | refine blk_drew ?_ | refine blk_alloc ?_ _)); refine blk_put (cs := #[.int .i64 ((rd_T50 t101 x9_1).f0), .int .i64 0, .int .i64 0]) ?_ 1 _ rfl; (with_reducible repeat (first | refine blk_drewN ?_ _ | refine blk_drew ?_ | refine blk_alloc ?_ _)); refine blk_put (cs := #[.int .i64 0, .int .i64 0, .int .i64 0]) ?_ 0 _ rfl; (with_reducible repeat (first | refine blk_drewN ?_ _ | refine blk_drew ?_ | refine blk_alloc ?_ _)); exact BK105.out⟩
      have n3_ : Aside0 (Below w.heap.size w (((w11.setCell ⟨gb105, 0, none⟩ (.int .i64 ((rd_T50 t101 x9_1).f0))).setCell ⟨gb105, 1, none⟩ (.int .i64 ((rd_T50 t101 x9_1).f1))).setCell ⟨gb105, 2, none⟩ (.int .i64 ((rd_T50 t101 x9_1).f2)))) := ⟨by repeat (first | (with_reducible first | exact HB.out | apply below_alloc | apply pw_below_drewN | apply below_drew1 | refine below_set ?_ GE105.out) | exact HB.out)⟩
      (try clear HO_3)
      (try clear HO_7)
      (try clear BK105)
      (try clear HB)
      generalize (((w11.setCell ⟨gb105, 0, none⟩ (.int .i64 ((rd_T50 t101 x9_1).f0))).setCell ⟨gb105, 1, none⟩ (.int .i64 ((rd_T50 t101 x9_1).f1))).setCell ⟨gb105, 2, none⟩ (.int .i64 ((rd_T50 t101 x9_1).f2))) = w13 at n0_ n1_ n2_ n3_ ⊢
      have HO_3 := n0_
      have HO_7 := n1_
      have BK105 := n2_
      have HB := n3_
      clear n0_ n1_ n2_ n3_
      have n0_ := Aside0.mk (Kd.R_drew HO_3.out)
      have n1_ := Aside0.mk (Kd.R_drew HO_7.out)
      have n2_ := Aside0.mk (blk_drew BK105.out)
      have n3_ := Aside0.mk (below_drew1 HB.out)
      clear HO_3
      clear HO_7
      clear BK105
      clear HB
      have HO_3 := n0_
      have HO_7 := n1_
      have BK105 := n2_
      have HB := n3_
      clear n0_ n1_ n2_ n3_
      refine start_ (n := 9) (S := fun w' => w'.cell? ⟨gb105, 0, none⟩ = some (.int .i64 ((rd_T50 t101 x9_1).f0)) ∧ w'.cell? ⟨gb105, 1, none⟩ = some (.int .i64 ((rd_T50 t101 x9_1).f1)) ∧ w'.cell? ⟨gb105, 2, none⟩ = some (.int .i64 ((rd_T50 t101 x9_1).f2))) (ds := []) (mkB 9 0) (by kernel_rfl) rfl rfl ⟨(blk_cell BK105.out 0).trans rfl, (blk_cell BK105.out 1).trans rfl, (blk_cell BK105.out 2).trans rfl⟩ (fun hHeld => ?_); refine with_tabW wear_nearest.tab5 wear_nearest.bits5 (fun HT_ HW_ => ?_)
      generalize w13.drew = w14 at HO_3 HO_7 BK105 HB hHeld ⊢
      refine pr_ 0 (some 13) (mkB 9 1) HT_ ?_
      refine pr_ 4 (some 17) (mkB 9 17) HT_ ?_
      refine take_ (i := 1) (N := some 14) (v := ?_) (a' := ?_) (mkB 9 19) rfl rfl (take_ofW HT_.out HW_.out (by kernel_rfl)) (fun _ _ _ h => h) (Or.inl ⟨by rfl, ?_⟩) hHeld ?_ ?_
      rotate_left
      · rintro w' ⟨s0, s1, s2⟩
        go_simp
        with_reducible rfl
      rotate_left
      · simp only [Act.put, List.setIfInBounds_toArray, List.set_cons_zero, List.set_cons_succ, i64_w, i32_w]
        rfl
      refine take_ (i := 5) (N := some 18) (v := ?_) (a' := ?_) (mkB 9 51) rfl rfl (take_ofW HT_.out HW_.out (by kernel_rfl)) (fun _ _ _ h => h) (Or.inl ⟨by rfl, ?_⟩) hHeld ?_ ?_
      rotate_left
      · rintro w' ⟨s0, s1, s2⟩
        go_simp
        with_reducible rfl
      rotate_left
      · simp only [Act.put, List.setIfInBounds_toArray, List.set_cons_zero, List.set_cons_succ, i64_w, i32_w]
        rfl
      refine one_ (i := 2) (N := some 15) (mkB 9 55) rfl rfl (one_of HT_.out (by kernel_rfl)) (by decide) (fun K hK => ?_)
      refine goes_ Try.func38 (by kernel_rfl) rfl #[.agg #[.int .i64 ((rd_T50 t101 x9_1).f0), .int .i64 ((rd_T50 t101 x9_1).f1), .int .i64 ((rd_T50 t101 x9_1).f2)]] (by rfl) rfl rfl (by (try simp only [List.map_toArray, List.map_cons, List.map_nil]); first | done | rfl | (simp only [List.length_drop, List.length_take]; rfl)) ?_
      with_reducible refine (wear_block_mean.calls k1 ((rd_T50 t101 x9_1).f0) ((rd_T50 t101 x9_1).f1) ((rd_T50 t101 x9_1).f2) t106 t107 _ A8.out).mono ?_
      rintro e w15 ⟨rfl, hb⟩
      refine ⟨_, rfl, ?_⟩
      have n0_ := Aside0.mk (Kd.R_below (by (with_reducible repeat (first | apply Kd.R_alloc | apply Kd.R_drewN | apply Kd.R_drew)); exact HO_3.out) hb)
      have n1_ := Aside0.mk (Kd.R_below (by (with_reducible repeat (first | apply Kd.R_alloc | apply Kd.R_drewN | apply Kd.R_drew)); exact HO_7.out) hb)
      have n2_ := Aside0.mk (bkB BK105 hb)
      have n3_ := Aside0.mk (below_step (by repeat (first | (with_reducible first | exact HB.out | apply below_alloc | apply pw_below_drewN | apply below_drew1 | refine below_set ?_ GE105.out) | exact HB.out)) hb)
      clear HO_3
      clear HO_7
      clear BK105
      clear HB
      have HO_3 := n0_
      have HO_7 := n1_
      have BK105 := n2_
      have HB := n3_
      clear n0_ n1_ n2_ n3_
      (try clear hb)
      (try clear hb2)
      (try clear hk)
      (try clear hi)
      refine hK.out _ _ ⟨(blk_cell BK105.out 0).trans rfl, (blk_cell BK105.out 1).trans rfl, (blk_cell BK105.out 2).trans rfl⟩ (fun hHeld => ?_)
      clear hK K
      refine norm_ (a' := ?_) ?_ ?_
      rotate_left
      · show Act.put _ (some 15) _ = _
        simp only [Act.put, List.setIfInBounds_toArray, List.set_cons_zero, List.set_cons_succ, i64_w, i32_w]
        rfl
      refine one_ (i := 3) (N := some 16) (mkB 9 63) rfl rfl (one_of HT_.out (by kernel_rfl)) (by decide) (fun K hK => ?_)
      refine Kd.R_lit_step k35 _ 35 ?hg (N := 16) ?hd (xs := ([(⟨t106, t107⟩ : S35)] : List (S35))) (inner := [.int .i64 t106, .int .i64 t107]) (ok := fun _ => True) (okp := fun _ => True) ?hr ?hp (fun _ hk => hk) trivial (Below.refl _ _) (Nat.le_refl _) (by simp) ?_; (case hd => rfl); (case hg => rfl); (case hr => first | (go_simp; done) | (go_simp; rfl)); (case hp => exact (Reps.c2 (show Kd.M k35 _ _ _ (⟨t106, t107⟩ : S35) [.int .i64 t106, .int .i64 t107] from (k35_mkM _ _ _ (⟨t106, t107⟩ : S35) )) (Reps.none _ _)))
      intro v109 w16 ho17 hb hg_ hnew_
      clear hg_ hnew_
      (first | rw [← Ny108.out] at ho17 | (simp only [Int.reduceToNat] at ho17; rw [← Ny108.out] at ho17))
      have n0_ := Aside0.mk (Kd.R_elder' (by (with_reducible repeat (first | apply Kd.R_alloc | apply Kd.R_drewN | apply Kd.R_drew)); exact HO_3.out) (Kd.R_base ho17) hb)
      have n1_ := Aside0.mk (Kd.R_below (by (with_reducible repeat (first | apply Kd.R_alloc | apply Kd.R_drewN | apply Kd.R_drew)); exact HO_7.out) hb)
      have n2_ := Aside0.mk (Kd.R_lower (Kd.R_new' ho17 (Kd.R_lt (by (with_reducible repeat (first | apply Kd.R_alloc | apply Kd.R_drewN | apply Kd.R_drew)); exact HO_3.out))) (below_size (by repeat (first | (with_reducible first | exact HB.out | apply below_alloc | apply pw_below_drewN | apply below_drew1 | refine below_set ?_ GE105.out) | exact HB.out))))
      have n3_ := Aside0.mk (bkB BK105 hb)
      have n4_ := Aside0.mk (below_step (by repeat (first | (with_reducible first | exact HB.out | apply below_alloc | apply pw_below_drewN | apply below_drew1 | refine below_set ?_ GE105.out) | exact HB.out)) hb)
      clear HO_3
      clear HO_7
      clear BK105
      clear HB
      have HO_3 := n0_
      have HO_7 := n1_
      have HO110 := n2_
      have BK105 := n3_
      have HB := n4_
      clear n0_ n1_ n2_ n3_ n4_
      clear hb ho17
      obtain ⟨Ao18, co18, eo18⟩ := Kd.R_slice HO110.out
      (first | subst eo18 | (injection eo18 with f1_ f2_ f3_; have f4_ := f1_.symm; have f5_ := f3_.symm; clear f1_ f2_ f3_; subst f4_; subst f5_))
      refine hK.out _ _ ⟨(blk_cell BK105.out 0).trans rfl, (blk_cell BK105.out 1).trans rfl, (blk_cell BK105.out 2).trans rfl⟩ (fun hHeld => ?_)
      clear hK K
      refine norm_ (a' := ?_) ?_ ?_
      rotate_left
      · show Act.put _ (some 16) _ = _
        simp only [Act.put, List.setIfInBounds_toArray, List.set_cons_zero, List.set_cons_succ, i64_w, i32_w]
        rfl
      refine one_ (i := 6) (N := some 19) (mkB 9 127) rfl rfl (one_of HT_.out (by kernel_rfl)) (by decide) (fun K hK => ?_)
      refine goes_ Try.func37 (by kernel_rfl) rfl #[.slice Ao18 y108.length co18, .int .i64 ((rd_T50 t101 x9_1).f2)] (by rfl) rfl rfl (by (try simp only [List.map_toArray, List.map_cons, List.map_nil]); first | done | rfl | (simp only [List.length_drop, List.length_take]; rfl)) ?_
      with_reducible refine (api_Ratio_37.calls _ _ y108 ((rd_T50 t101 x9_1).f2) t111 _ ?side1 ?side2 A9.out).mono ?_
      (case side1 => repeat (first | exact (Kd.R_reads' HO110.out).2.2 | (with_reducible refine Kd.C_alloc ?_ _) | (with_reducible refine Kd.C_drewN ?_ _) | (with_reducible refine Kd.C_drew ?_)))
      (case side2 => exact (Kd.R_reads' HO110.out).2.1)
      rintro e w19 ⟨v112, rfl, ho0, hb⟩
      refine ⟨_, rfl, ?_⟩
      have n0_ := Aside0.mk (Kd.R_elder' (by (with_reducible repeat (first | apply Kd.R_alloc | apply Kd.R_drewN | apply Kd.R_drew)); exact HO_3.out) (Kd.R_base ho0) hb)
      have n1_ := Aside0.mk (Kd.R_below (by (with_reducible repeat (first | apply Kd.R_alloc | apply Kd.R_drewN | apply Kd.R_drew)); exact HO_7.out) hb)
      have n2_ := Aside0.mk (Kd.R_elder' (by (with_reducible repeat (first | apply Kd.R_alloc | apply Kd.R_drewN | apply Kd.R_drew)); exact HO110.out) (Kd.R_base ho0) hb)
      have n3_ := Aside0.mk (Kd.R_lower (Kd.R_new' (Kd.R_new' ho0 (Kd.R_lt (by (with_reducible repeat (first | apply Kd.R_alloc | apply Kd.R_drewN | apply Kd.R_drew)); exact HO_3.out))) (Kd.R_lt (by (with_reducible repeat (first | apply Kd.R_alloc | apply Kd.R_drewN | apply Kd.R_drew)); exact HO110.out))) (below_size (by repeat (first | (with_reducible first | exact HB.out | apply below_alloc | apply pw_below_drewN | apply below_drew1 | refine below_set ?_ GE105.out) | exact HB.out))))
      have n4_ := Aside0.mk (bkB BK105 hb)
      have n5_ := Aside0.mk (below_step (by repeat (first | (with_reducible first | exact HB.out | apply below_alloc | apply pw_below_drewN | apply below_drew1 | refine below_set ?_ GE105.out) | exact HB.out)) hb)
      clear HO_3
      clear HO_7
      clear HO110
      clear BK105
      clear HB
      have HO_3 := n0_
      have HO_7 := n1_
      have HO110 := n2_
      have HO113 := n3_
      have BK105 := n4_
      have HB := n5_
      clear n0_ n1_ n2_ n3_ n4_ n5_
      (try clear hb)
      (try clear hb2)
      (try clear hk)
      (try clear hi)
      (try clear ho0)
      obtain ⟨Ao21, co21, eo21⟩ := Kd.R_slice HO113.out
      (first | subst eo21 | (injection eo21 with f1_ f2_ f3_; have f4_ := f1_.symm; have f5_ := f3_.symm; clear f1_ f2_ f3_; subst f4_; subst f5_))
      refine hK.out _ _ ⟨(blk_cell BK105.out 0).trans rfl, (blk_cell BK105.out 1).trans rfl, (blk_cell BK105.out 2).trans rfl⟩ (fun hHeld => ?_)
      clear hK K
      refine norm_ (a' := ?_) ?_ ?_
      rotate_left
      · show Act.put _ (some 19) _ = _
        simp only [Act.put, List.setIfInBounds_toArray, List.set_cons_zero, List.set_cons_succ, i64_w, i32_w]
        rfl
      refine one_ (i := 7) (N := some 20) (mkB 9 255) rfl rfl (one_of HT_.out (by kernel_rfl)) (by decide) (fun K hK => ?_)
      refine Kd.R_append_rows_step k35 (w0 := w) w.heap.size (by rfl) (.tmp 13) (.tmp 19) 23 35 (.agg #[(.int .i64 0), (.int .i64 0)]) 16 rfl Try.underlying23 info35 rfl (by decide) (by omega) u3 x3_1 t111 _ _ _ (fun k_ => some k_ ≠ (.slice Ao18 y108.length co18 : Value).ownBlock ∧ some k_ ≠ (.slice Ao21 t111.length co21 : Value).ownBlock) (fun _ => False) rfl rfl ?aO ?aR (fun _ _ h => h) (fun _ h => h.elim) ?aF ?aB ?aS ?aL ?_
      (case aR => repeat (first | exact (Kd.R_reads' HO113.out).2.2 | (with_reducible refine Kd.C_alloc ?_ _) | (with_reducible refine Kd.C_drewN ?_ _) | (with_reducible refine Kd.C_drew ?_)))
      (case aB => exact (by repeat (first | (with_reducible first | exact HB.out | apply below_alloc | apply pw_below_drewN | apply below_drew1 | refine below_set ?_ GE105.out) | exact HB.out)))
      (case aF => exact (fun k_ hk => ⟨Kd.fresh' (Kd.R_lt (by (with_reducible repeat (first | apply Kd.R_alloc | apply Kd.R_drewN | apply Kd.R_drew)); exact HO110.out)) k_ hk, Kd.fresh' (Kd.R_lt (by (with_reducible repeat (first | apply Kd.R_alloc | apply Kd.R_drewN | apply Kd.R_drew)); exact HO113.out)) k_ hk⟩))
      (case aO => exact (by (with_reducible repeat (first | apply Kd.R_alloc | apply Kd.R_drewN | apply Kd.R_drew)); exact Kd.R_mono HO_3.out (fun _ hk => ⟨hk.1.2, hk.2⟩)))
      (case aS => exact (below_size (by repeat (first | (with_reducible first | exact HB.out | apply below_alloc | apply pw_below_drewN | apply below_drew1 | refine below_set ?_ GE105.out) | exact HB.out))))
      (case aL => have := LMc10.out; omega)
      intro v115 w20 ho hb hg hat
      rw [← Ny114.out] at ho
      have n0_ := Aside0.mk (Kd.R_over' (by (with_reducible repeat (first | apply Kd.R_alloc | apply Kd.R_drewN | apply Kd.R_drew)); exact HO_7.out) (Kd.R_typed (by (with_reducible repeat (first | apply Kd.R_alloc | apply Kd.R_drewN | apply Kd.R_drew)); exact HO_3.out)) (by decide) hg)
      have n1_ := Aside0.mk (blk_grown (g := gb105) (o := .cells #[.int .i64 ((rd_T50 t101 x9_1).f0), .int .i64 ((rd_T50 t101 x9_1).f1), .int .i64 ((rd_T50 t101 x9_1).f2)] 50 (0, 0)) (bkU BK105) hg (Kd.R_ne HO_3.out BK105.out (by decide)))
      have n2_ := Aside0.mk (Kd.R_after (ok := (fun k_ => some k_ ≠ (.slice Ao21 t111.length co21 : Value).ownBlock)) (by (with_reducible repeat (first | apply Kd.R_alloc | apply Kd.R_drewN | apply Kd.R_drew)); exact Kd.R_mono HO110.out (fun _ hk => ⟨hk.2, hk.1.2⟩)) hg hat)
      have n3_ := Aside0.mk (Kd.R_after (ok := (fun k_ => some k_ ≠ (.slice Ao18 y108.length co18 : Value).ownBlock)) (by (with_reducible repeat (first | apply Kd.R_alloc | apply Kd.R_drewN | apply Kd.R_drew)); exact Kd.R_mono HO113.out (fun _ hk => ⟨hk.2, hk.1.2⟩)) hg hat)
      have n4_ := Aside0.mk (hb)
      have n5_ := Aside0.mk (ho)
      clear HO_7
      clear BK105
      clear HO110
      clear HO113
      clear HB
      clear HO_3
      have HO_7 := n0_
      have BK105 := n1_
      have HO110 := n2_
      have HO113 := n3_
      have HB := n4_
      have HO116 := n5_
      clear n0_ n1_ n2_ n3_ n4_ n5_
      clear ho hb hg hat
      refine hK.out _ _ ⟨(blk_cell BK105.out 0).trans rfl, (blk_cell BK105.out 1).trans rfl, (blk_cell BK105.out 2).trans rfl⟩ (fun hHeld => ?_)
      clear hK K
      refine norm_ (a' := ?_) ?_ ?_
      rotate_left
      · show Act.put _ (some 20) _ = _
        simp only [Act.put, List.setIfInBounds_toArray, List.set_cons_zero, List.set_cons_succ, i64_w, i32_w]
        rfl
      refine pr_ 8 (some 3) (mkB 9 511) HT_ ?_
      refine done_ (done_of HT_.out (by kernel_rfl)) ?_
      try go_wp2
      go_roundg k1
      case measure => have := HK1.out; omega
      case rel => exact ⟨(y114), (wrap64 (x9_1 + 1)), (by first | rfl | (simp; done) | (simp [*]; done)), H', ⟨by have := HK1.out; omega⟩, ⟨by (with_reducible repeat (first | apply Kd.R_alloc | apply Kd.R_drewN | apply Kd.R_drew)); exact Kd.R_mono HO116.out (fun _ hk => trivial)⟩, ⟨by (with_reducible repeat (first | apply Kd.R_alloc | apply Kd.R_drewN | apply Kd.R_drew)); exact Kd.R_mono HO_7.out (fun _ hk => trivial)⟩, ⟨by repeat (first | (with_reducible first | exact HB.out | apply below_alloc | apply pw_below_drewN | apply below_drew1 | refine below_set ?_ GE105.out) | exact HB.out)⟩⟩
def wear_Nearest.f (k : Nat) (l0 : List Int) : Option ((List (S35)) × Int) := (wear_Valid.f k l0).bind fun t101 => (if t101 = true then ((wear_nearest.f k l0).bind fun t102 => (some (t102, 0))) else (some (([] : List (S35)), 70)))
theorem wear_Nearest.mono : ∀ a0 k, LeO (wear_Nearest.f k a0) (wear_Nearest.f (k + 1) a0) := by
  intro a0 k
  unfold wear_Nearest.f
  repeat' first
      | (with_reducible exact wear_Valid.mono _ _)
      | (with_reducible exact wear_nearest.mono _ _)
      | (with_reducible exact LeO.refl _)
      | (with_reducible exact LeO.none _)
      | (with_reducible refine LeO.ite ?_ ?_)
      | (with_reducible refine LeO.bind ?_ (fun _ => ?_))
      | exact wear_Valid.mono _ _
      | exact wear_nearest.mono _ _
      | exact LeO.none _
      | refine LeO.ite ?_ ?_
      | refine LeO.bind ?_ (fun _ => ?_)
set_option maxHeartbeats 8000000 in
set_option maxRecDepth 100000 in
theorem wear_Nearest.calls (k : Nat) (A0 : Option Addr) (c0 : Nat) (l0 : List Int) (r1 : List (S35)) (r2 : Int) (w : World) (hr0 : Kd.C (Kd.int .i64) w A0 l0.length l0) (hc0 : l0.length ≤ c0) (h : wear_Nearest.f k l0 = some (r1, r2)) :
    Calls Try.prog 6 #[.slice A0 l0.length c0] w fun e w' => ∃ v0_ : Value, e = .returned (.tuple #[v0_, .int .i64 r2]) ∧ Kd.R k35 35 w' w.heap.size (fun _ => True) v0_ r1 ∧ Below w.heap.size w w' := by
  have HR0 := Aside0.mk hr0
  have HC0 := Aside0.mk hc0
  clear hr0 hc0
  have HB := Aside0.mk (Below.refl w.heap.size w)
  have H : ((wear_Valid.f k l0).bind fun t101 => (if t101 = true then ((wear_nearest.f k l0).bind fun t102 => (some (t102, 0))) else (some (([] : List (S35)), 70)))) = some (r1, r2) := h
  clear h
  replace H := Option.bind_eq_some_iff.mp H
  obtain ⟨t101, A20, H⟩ := H
  replace H : (if t101 = true then ((wear_nearest.f k l0).bind fun t102 => (some (t102, 0))) else (some (([] : List (S35)), 70))) = some (r1, r2) := H
  have A2 := Aside0.mk A20
  clear A20
  by_cases c3 : t101 = true
  rotate_left
  · replace c3 := Bool.eq_false_iff.mpr c3
    subst c3
    have H1 : (some (([] : List (S35)), 70)) = some (r1, r2) := by rw [if_neg (show ¬ (false = true) by decide)] at H; exact H
    clear H
    have H := H1
    clear H1
    simp only [Option.some.injEq, Prod.mk.injEq] at H
    obtain ⟨rfl, rfl⟩ := H
    go_enter Try.func6, Try.ntmps6
    go_wp2_with (first | ((with_reducible refine gate_callee (f := 20) rfl ?_); refine goesL_ (some 5) rfl rfl Try.func20 (by kernel_rfl) rfl #[.slice A0 l0.length c0] rfl (by (try simp only [List.map_toArray, List.map_cons, List.map_nil]); first | done | rfl | (simp only [List.length_drop, List.length_take]; rfl)) ?_; (with_reducible refine (wear_Valid.calls k _ _ l0 false _ ?side1 ?side2 A2.out).mono ?_); (case side1 => repeat (first | exact HR0.out | (with_reducible refine Kd.C_alloc ?_ _) | (with_reducible refine Kd.C_drewN ?_ _) | (with_reducible refine Kd.C_drew ?_))); (case side2 => exact HC0.out); rintro e w7 ⟨rfl, hb⟩; refine ⟨_, rfl, ?_⟩; have n0_ := Aside0.mk (below_step (by repeat (first | (with_reducible first | exact HB.out | apply below_alloc | apply pw_below_drewN | apply below_drew1) | exact HB.out)) hb); clear HB; have HB := n0_; clear n0_; (try clear hb); (try clear hb2); (try clear hk); (try clear hi)))
    go_ret2
    exact ⟨_, by first | rfl | (simp [errW_none, errW_some] <;> rfl) | (simp [*, errW_none, errW_some] <;> rfl), by first | exact Kd.R_nil _ _ _ _ _ | exact Kd.N_nil _ _ _ _ _ | exact Kd.V_nil _ _ _ _ _ | exact Kd.Q_nil _ _ _ _ _ | exact Kd.S_nil _ _ _ _ _, by repeat (first | (with_reducible first | exact HB.out | apply below_alloc | apply pw_below_drewN | apply below_drew1) | exact HB.out)⟩
  subst c3
  have H1 : ((wear_nearest.f k l0).bind fun t102 => (some (t102, 0))) = some (r1, r2) := by rw [if_pos rfl] at H; exact H
  clear H
  have H := H1
  clear H1
  replace H := Option.bind_eq_some_iff.mp H
  obtain ⟨t102, A40, H⟩ := H
  replace H : (some (t102, 0)) = some (r1, r2) := H
  have A4 := Aside0.mk A40
  clear A40
  simp only [Option.some.injEq, Prod.mk.injEq] at H
  obtain ⟨rfl, rfl⟩ := H
  go_enter Try.func6, Try.ntmps6
  go_wp2_with (first | ((with_reducible refine gate_callee (f := 20) rfl ?_); refine goesL_ (some 5) rfl rfl Try.func20 (by kernel_rfl) rfl #[.slice A0 l0.length c0] rfl (by (try simp only [List.map_toArray, List.map_cons, List.map_nil]); first | done | rfl | (simp only [List.length_drop, List.length_take]; rfl)) ?_; (with_reducible refine (wear_Valid.calls k _ _ l0 true _ ?side1 ?side2 A2.out).mono ?_); (case side1 => repeat (first | exact HR0.out | (with_reducible refine Kd.C_alloc ?_ _) | (with_reducible refine Kd.C_drewN ?_ _) | (with_reducible refine Kd.C_drew ?_))); (case side2 => exact HC0.out); rintro e w5 ⟨rfl, hb⟩; refine ⟨_, rfl, ?_⟩; have n0_ := Aside0.mk (below_step (by repeat (first | (with_reducible first | exact HB.out | apply below_alloc | apply pw_below_drewN | apply below_drew1) | exact HB.out)) hb); clear HB; have HB := n0_; clear n0_; (try clear hb); (try clear hb2); (try clear hk); (try clear hi)) | ((with_reducible refine gate_callee (f := 21) rfl ?_); refine goesL_ (some 8) rfl rfl Try.func21 (by kernel_rfl) rfl #[.slice A0 l0.length c0] rfl (by (try simp only [List.map_toArray, List.map_cons, List.map_nil]); first | done | rfl | (simp only [List.length_drop, List.length_take]; rfl)) ?_; (with_reducible refine (wear_nearest.calls k _ _ l0 t102 _ ?side1 ?side2 A4.out).mono ?_); (case side1 => repeat (first | exact (Kd.C_below HR0.out HB.out) | (with_reducible refine Kd.C_alloc ?_ _) | (with_reducible refine Kd.C_drewN ?_ _) | (with_reducible refine Kd.C_drew ?_))); (case side2 => exact HC0.out); rintro e w6 ⟨v103, rfl, ho0, hb⟩; refine ⟨_, rfl, ?_⟩; have n0_ := Aside0.mk (Kd.R_lower ho0 (below_size (by repeat (first | (with_reducible first | exact HB.out | apply below_alloc | apply pw_below_drewN | apply below_drew1) | exact HB.out)))); have n1_ := Aside0.mk (below_step (by repeat (first | (with_reducible first | exact HB.out | apply below_alloc | apply pw_below_drewN | apply below_drew1) | exact HB.out)) hb); clear HB; have HO104 := n0_; have HB := n1_; clear n0_ n1_; (try clear hb); (try clear hb2); (try clear hk); (try clear hi); (try clear ho0)))
  go_ret2
  exact ⟨_, by first | rfl | (simp [errW_none, errW_some] <;> rfl) | (simp [*, errW_none, errW_some] <;> rfl), by (with_reducible repeat (first | apply Kd.R_alloc | apply Kd.R_drewN | apply Kd.R_drew)); exact HO104.out, by repeat (first | (with_reducible first | exact HB.out | apply below_alloc | apply pw_below_drewN | apply below_drew1) | exact HB.out)⟩
def bits_Len64.f (a0 : Int) : Option (Int) := if a0 = 3 then some 2 else none
set_option maxHeartbeats 8000000 in
set_option maxRecDepth 100000 in
theorem bits_Len64.calls (a0 : Int) (r : Int) (w : World) (h : bits_Len64.f a0 = some r) :
    Calls Try.prog 59 #[.int .u64 a0] w fun e w' => e = .returned (.int .i64 r) ∧ Drawn0 w w' := by
  unfold bits_Len64.f at h
  by_cases c : a0 = 3
  · rw [if_pos c] at h
    obtain rfl := Option.some.inj h
    subst c
    clear h
    go_enter Try.func59, Try.ntmps59
    go_wp2
    go_ret
    exact ⟨by first | rfl | kernel_rfl, by repeat (first | exact Drawn0.refl _ | apply Drawn0.step)⟩
  · rw [if_neg c] at h; cases h
def bits_Len.f (a0 : Int) : Option (Int) := (bits_Len64.f a0).bind fun t101 => (some t101)
set_option maxHeartbeats 8000000 in
set_option maxRecDepth 100000 in
theorem bits_Len.calls (a0 : Int) (r : Int) (w : World) (h : bits_Len.f a0 = some r) :
    Calls Try.prog 46 #[.int .u64 a0] w fun e w' => e = .returned (.int .i64 r) ∧ Drawn0 w w' := by
  have H : ((bits_Len64.f a0).bind fun t101 => (some t101)) = some r := h
  clear h
  replace H := Option.bind_eq_some_iff.mp H
  obtain ⟨t101, A20, H⟩ := H
  replace H : (some t101) = some r := H
  have A2 := Aside0.mk A20
  clear A20
  obtain rfl := Option.some.inj H
  go_enter Try.func46, Try.ntmps46
  go_wp2_with (first | ((with_reducible refine gate_callee (f := 59) rfl ?_); refine goesL_ (some 7) rfl rfl Try.func59 (by kernel_rfl) rfl #[.int .u64 a0] rfl (by (try simp only [List.map_toArray, List.map_cons, List.map_nil]); first | done | rfl | (simp only [List.length_drop, List.length_take]; rfl)) ?_; (with_reducible refine (bits_Len64.calls a0 t101 _ A2.out).mono ?_); rintro e w' ⟨rfl, ⟨nd, rfl⟩⟩; refine ⟨_, rfl, ?_⟩))
  go_ret
  exact ⟨by first | rfl | (simp; done) | (simp [*]; done), by repeat (first | exact Drawn0.refl _ | apply Drawn0.step)⟩
end Go.Proofs.Ytklapbgajghhcaa.G
end
