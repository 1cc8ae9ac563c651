/- Plain laws of the printed functions, out of this session's plain texts: what TopWire_pure needs. Plain Lean. -/
import Derived.Test.YtciepmpadcpkbaaGF13
import Derived.Test.YtciepmpadcpkbaaGF14
import Derived.Test.YtciepmpadcpkbaaGF15
import Derived.Test.YtciepmpadcpkbaaGF17
import Derived.Test.YtciepmpadcpkbaaGF19
import Derived.Test.YtciepmpadcpkbaaGF20
import Derived.Test.YtciepmpadcpkbaaGF21
import Derived.Test.YtciepmpadcpkbaaGF22
import Derived.Test.YtciepmpadcpkbaaGF23
import Derived.Test.YtciepmpadcpkbaaGF24
import Derived.Test.YtciepmpadcpkbaaGF25
import Derived.Test.YtciepmpadcpkbaaGF26
import Derived.Test.YtciepmpadcpkbaaGF27
import Derived.Test.YtciepmpadcpkbaaGF42
import Derived.Test.YtciepmpadcpkbaaGF47
import Derived.Test.YtciepmpadcpkbaaGF48
import Derived.Test.YtciepmpadcpkbaaGF49
import Derived.Test.YtciepmpadcpkbaaGF4D
import Derived.Test.YtciepmpadcpkbaaGF50
import Derived.Test.YtciepmpadcpkbaaGF51
import Derived.Test.YtciepmpadcpkbaaGF52
import Derived.Test.YtciepmpadcpkbaaGF53
import Derived.Test.YtciepmpadcpkbaaGF56
import Derived.Test.YtciepmpadcpkbaaGF57
import Derived.Test.YtciepmpadcpkbaaGF58
import Derived.Test.YtciepmpadcpkbaaGF59
import Derived.Test.YtciepmpadcpkbaaGF60
import Derived.Test.YtciepmpadcpkbaaGF61
import Derived.Test.YtciepmpadcpkbaaGF62
import Derived.Test.YtciepmpadcpkbaaGF63
import Derived.Test.YtciepmpadcpkbaaGF63
import Derived.Test.YtciepmpadcpkbaaGF65
import Derived.Test.YtciepmpadcpkbaaGF71
import Derived.Test.YtciepmpadcpkbaaGF73
import Derived.Test.YtciepmpadcpkbaaGF75
import Derived.Test.YtciepmpadcpkbaaGF76
import Derived.Test.YtciepmpadcpkbaaGF77
import Derived.Test.YtciepmpadcpkbaaGF78
import Derived.Test.YtciepmpadcpkbaaGF79
import Derived.Test.YtciepmpadcpkbaaGBase
namespace Go.Proofs.Ytciepmpadcpkbaa.G
set_option linter.unusedVariables false
set_option linter.unusedSimpArgs false
set_option linter.unusedSectionVars false
open Go.RowKit Go.Proofs.YtciepmpadcpkbaaW.PrintWords Go.Proofs.YtciepmpadcpkbaaW.PrintLast
open Rat (divInt)
theorem w64 {n : Int} (h : -9223372036854775808 ≤ n) (h2 : n ≤ 9223372036854775807) : wrap64 n = n := by unfold wrap64; omega
theorem within_some (a b c : Int) : wire_within.f a b c = some (decide (a ≤ b ∧ b ≤ c)) := by
  unfold wire_within.f
  by_cases h : a ≤ b <;> simp [h]
theorem from_some (a b c : Int) : dropperref02_from.f a b c = some (decide (a ≤ b ∧ b ≤ c)) := by
  unfold dropperref02_from.f
  by_cases h : a ≤ b <;> simp [h]
theorem ev_some {α : Type} (r : α) {g : Nat → Option α} (h : ∀ k, g (k + 1) = some r) : Ev g r := Ev.step (f := fun _ => some r) h (Ev.now r)
theorem mul_bd {a b : Int} {A B : Nat} (ha : a.natAbs ≤ A) (hb : b.natAbs ≤ B) : (a * b).natAbs ≤ A * B := by
  rw [Int.natAbs_mul]; exact Nat.mul_le_mul ha hb
/-- The window at i. -/
abbrev wn (l : List S72) (i : Nat) : S72 := rd_T72 l (i : Int)
theorem wsucc (i : Nat) (h : i < 9223372036854775807) : wrap64 ((i : Int) + 1) = ((i + 1 : Nat) : Int) := by rw [w64 (by omega) (by omega)]; rfl
theorem wpred (i : Nat) (h : i < 9223372036854775807) : wrap64 (((i + 1 : Nat) : Int) - 1) = (i : Int) := by rw [w64 (by omega) (by omega)]; omega
theorem mx_eq (a b : Int) : mx a b = max a b := by unfold mx; split <;> omega
theorem mn_eq (a b : Int) : mn a b = min a b := by unfold mn; split <;> omega
/-- The window at i is as described. -/
def good (l : List S72) (i : Nat) : Prop := (0 ≤ (wn l i).f0 ∧ (wn l i).f0 ≤ 100000) ∧ (i = 0 ∨ (wn l (i - 1)).f0 < (wn l i).f0) ∧ (-10000 ≤ (wn l i).f1 ∧ (wn l i).f1 ≤ (wn l i).f2 ∧ (wn l i).f2 ≤ 10000)
/-- All windows are as described. -/
def okV (l : List S72) : Prop := (1 ≤ l.length ∧ l.length ≤ 30) ∧ ∀ i, i < l.length → good l i
open Classical in
theorem wire_valid_loop (l : List S72) (hl : l.length ≤ 9223372036854775807) : ∀ (d i : Nat), l.length - i = d → i ≤ l.length → (∀ j, j < i → good l j) →
    Ev (fun k => wire_Valid.l0 k l l l.length i) (decide (okV l)) := by
  intro d
  induction d with
  | zero =>
    intro i hd hi hg
    have e : i = l.length := by omega
    subst e
    refine ev_some _ fun k => ?_
    rw [wire_Valid.l0, if_neg (by omega), within_some]
    simp only [Option.bind_some]
    congr 1
    refine decide_eq_decide.2 ⟨fun h => ⟨by omega, hg⟩, fun h => ?_⟩
    have := h.1
    omega
  | succ d ih =>
    intro i hd hi hg
    have hlt : i < l.length := by omega
    by_cases c : good l i
    · have e := ih (i + 1) (by omega) (by omega) (fun j hj => if h : j = i then h ▸ c else hg j (by omega))
      refine Ev.step (fun k => ?_) e
      obtain ⟨c1, c2, c3, c4, c5⟩ := c
      have n1 : ¬ (wn l i).f2 > 10000 := by omega
      have n2 : -10000 ≤ (wn l i).f1 ∧ (wn l i).f1 ≤ (wn l i).f2 := ⟨c3, c4⟩
      rw [wire_Valid.l0, if_pos (by omega), if_pos (by omega), if_pos (by omega), within_some, decide_eq_true c1, within_some, decide_eq_true n2, wsucc i (by omega)]
      simp only [Option.bind_some, if_true, if_neg n1]
      cases i with
      | zero => rw [if_neg (by omega)]
      | succ j =>
        rw [wpred j (by omega), if_pos (by omega), if_pos (by omega), if_pos (by omega), if_neg]
        rcases c2 with h | h
        · omega
        · exact Int.not_le.2 h
    · rw [decide_eq_false (fun h => c (h.2 i hlt))]
      refine ev_some _ fun k => ?_
      rw [wire_Valid.l0, if_pos (by omega), if_pos (by omega), if_pos (by omega), within_some, within_some]
      by_cases a1 : 0 ≤ (wn l i).f0 ∧ (wn l i).f0 ≤ 100000
      · rw [decide_eq_true a1]
        simp only [Option.bind_some, if_true]
        have key : ∀ (z : Option Bool), ((i = 0 ∨ (wn l (i - 1)).f0 < (wn l i).f0) → ((if decide (-10000 ≤ (wn l i).f1 ∧ (wn l i).f1 ≤ (wn l i).f2) = true then if (wn l i).f2 > 10000 then some false else z else some false) = some false)) := by
          intro z h
          by_cases a2 : -10000 ≤ (wn l i).f1 ∧ (wn l i).f1 ≤ (wn l i).f2
          · rw [decide_eq_true a2, if_pos rfl, if_pos]
            by_cases a3 : (wn l i).f2 > 10000
            · exact a3
            · exact absurd ⟨a1, h, a2.1, a2.2, by omega⟩ c
          · rw [decide_eq_false a2, if_neg (by decide)]
        cases i with
        | zero =>
          rw [if_neg (by omega)]
          exact key _ (.inl rfl)
        | succ j =>
          rw [wpred j (by omega), if_pos (by omega), if_pos (by omega), if_pos (by omega)]
          by_cases a4 : (wn l (j + 1)).f0 ≤ (wn l j).f0
          · rw [if_pos a4]
          · rw [if_neg a4]
            exact key _ (.inr (by simpa using a4))
      · rw [decide_eq_false a1]
        simp
open Classical in
theorem wire_valid_ev (l : List S72) (hl : l.length ≤ 9223372036854775807) : Ev (fun k => wire_Valid.f k l) (decide (okV l)) := wire_valid_loop l hl l.length 0 (by omega) (by omega) (by omega)
open Classical in
theorem ref_valid_loop (l : List S72) (hl : l.length ≤ 9223372036854775807) : ∀ (d i : Nat), l.length - i = d → i ≤ l.length → (∀ j, j < i → good l j) →
    Ev (fun k => dropperref02_Valid.l0 k l i) (decide (okV l)) := by
  intro d
  induction d with
  | zero =>
    intro i hd hi hg
    have e : i = l.length := by omega
    subst e
    refine ev_some _ fun k => ?_
    rw [dropperref02_Valid.l0, if_neg (by omega), from_some]
    simp only [Option.bind_some]
    congr 1
    refine decide_eq_decide.2 ⟨fun h => ⟨by omega, hg⟩, fun h => ?_⟩
    have := h.1
    omega
  | succ d ih =>
    intro i hd hi hg
    have hlt : i < l.length := by omega
    by_cases c : good l i
    · have e := ih (i + 1) (by omega) (by omega) (fun j hj => if h : j = i then h ▸ c else hg j (by omega))
      refine Ev.step (fun k => ?_) e
      obtain ⟨c1, c2, c3, c4, c5⟩ := c
      have n1 : -10000 ≤ (wn l i).f1 ∧ (wn l i).f1 ≤ 10000 := by omega
      have n2 : (wn l i).f1 ≤ (wn l i).f2 ∧ (wn l i).f2 ≤ 10000 := ⟨c4, c5⟩
      rw [dropperref02_Valid.l0, if_pos (by omega), if_pos (by omega), from_some, decide_eq_true c1, from_some, decide_eq_true n1, from_some, decide_eq_true n2, wsucc i (by omega)]
      simp only [Option.bind_some, if_true]
      cases i with
      | zero => rw [if_neg (by omega)]
      | succ j =>
        rw [wpred j (by omega), if_pos (by omega), if_pos (by omega), if_pos (by omega), if_neg]
        rcases c2 with h | h
        · omega
        · exact Int.not_le.2 h
    · rw [decide_eq_false (fun h => c (h.2 i hlt))]
      refine ev_some _ fun k => ?_
      rw [dropperref02_Valid.l0, if_pos (by omega), if_pos (by omega), from_some, from_some, from_some]
      by_cases a1 : 0 ≤ (wn l i).f0 ∧ (wn l i).f0 ≤ 100000
      · rw [decide_eq_true a1]
        simp only [Option.bind_some, if_true]
        by_cases a2 : -10000 ≤ (wn l i).f1 ∧ (wn l i).f1 ≤ 10000
        · rw [decide_eq_true a2]
          simp only [if_true]
          by_cases a3 : (wn l i).f1 ≤ (wn l i).f2 ∧ (wn l i).f2 ≤ 10000
          · rw [decide_eq_true a3]
            simp only [if_true]
            cases i with
            | zero => exact absurd ⟨a1, .inl rfl, a2.1, a3.1, a3.2⟩ c
            | succ j =>
              rw [wpred j (by omega), if_pos (by omega), if_pos (by omega), if_pos (by omega), if_pos]
              by_cases a4 : (wn l (j + 1)).f0 ≤ (wn l j).f0
              · exact a4
              · exact absurd ⟨a1, .inr (by simpa using a4), a2.1, a3.1, a3.2⟩ c
          · rw [decide_eq_false a3]; simp
        · rw [decide_eq_false a2]; simp
      · rw [decide_eq_false a1]; simp
open Classical in
theorem ref_valid_ev (l : List S72) (hl : l.length ≤ 9223372036854775807) : Ev (fun k => dropperref02_Valid.f k l) (decide (okV l)) := ref_valid_loop l hl l.length 0 (by omega) (by omega) (by omega)
/-- A slope. -/
def slope (r n : Int) : Prop := 0 ≤ r ∧ r ≤ 1000 ∧ 1 ≤ n ∧ n ≤ 1000
instance (r n : Int) : Decidable (slope r n) := by unfold slope; infer_instance
/-- The step from i to the next window. -/
def stp (l : List S72) (r n : Int) (i : Nat) : Int := (r * ((wn l (i + 1)).f0 - (wn l i).f0)) / n
/-- The steps up to i. -/
def pre (l : List S72) (r n : Int) : Nat → Int
  | 0 => 0
  | i + 1 => pre l r n i + stp l r n i
/-- The steps between two windows. -/
def dst (l : List S72) (r n : Int) (i k : Nat) : Int := max (pre l r n i - pre l r n k) (pre l r n k - pre l r n i)
theorem okV.at_lt {l : List S72} (h : okV l) {i : Nat} (hi : i + 1 < l.length) : 0 ≤ (wn l i).f0 ∧ (wn l i).f0 < (wn l (i + 1)).f0 ∧ (wn l (i + 1)).f0 ≤ 100000 := by
  have h1 := h.2 i (by omega)
  have h2 := h.2 (i + 1) hi
  unfold good at h1 h2
  rw [Nat.add_sub_cancel] at h2
  omega
theorem stp_bd {l : List S72} (h : okV l) {r n : Int} (hs : slope r n) {i : Nat} (hi : i + 1 < l.length) : 0 ≤ stp l r n i ∧ stp l r n i ≤ 100000000 ∧ wrap64 (Int.tdiv (wrap64 (r * (wrap64 ((wn l (i + 1)).f0 - (wn l i).f0)))) n) = stp l r n i := by
  obtain ⟨h1, h2, h3⟩ := h.at_lt hi
  obtain ⟨s1, s2, s3, s4⟩ := hs
  unfold stp
  generalize (wn l (i + 1)).f0 = b at *
  generalize (wn l i).f0 = a at *
  rw [w64 (n := b - a) (by omega) (by omega)]
  have m := mul_bd (a := r) (b := b - a) (A := 1000) (B := 100000) (by omega) (by omega)
  have p : 0 ≤ r * (b - a) := Int.mul_nonneg s1 (by omega)
  rw [w64 (n := r * (b - a)) (by omega) (by omega), Int.tdiv_eq_ediv_of_nonneg p]
  have q1 : 0 ≤ r * (b - a) / n := Int.ediv_nonneg p (by omega)
  have q2 : r * (b - a) / n ≤ r * (b - a) := Int.ediv_le_self _ p
  refine ⟨q1, by omega, w64 (by omega) (by omega)⟩
theorem pre_bd {l : List S72} (h : okV l) {r n : Int} (hs : slope r n) : ∀ {i : Nat}, i < l.length → 0 ≤ pre l r n i ∧ pre l r n i ≤ 100000000 * i
  | 0, _ => by unfold pre; omega
  | i + 1, hi => by
    have := pre_bd h hs (i := i) (by omega)
    have := stp_bd h hs hi
    rw [pre]
    omega
theorem pre_bd' {l : List S72} (h : okV l) {r n : Int} (hs : slope r n) {i : Nat} (hi : i < l.length) : 0 ≤ pre l r n i ∧ pre l r n i ≤ 3000000000 := by
  have := pre_bd h hs hi
  have := h.1.2
  omega
theorem pre_mono {l : List S72} (h : okV l) {r n : Int} (hs : slope r n) {i : Nat} : ∀ {k : Nat}, i ≤ k → k < l.length → pre l r n i ≤ pre l r n k
  | 0, hik, _ => by
    obtain rfl : i = 0 := by omega
    omega
  | k + 1, hik, hk => by
    by_cases e : i = k + 1
    · subst e; omega
    · have := pre_mono h hs (i := i) (k := k) (by omega) (by omega)
      have := stp_bd h hs hk
      rw [pre]
      omega
theorem dst_self (l : List S72) (r n : Int) (i : Nat) : dst l r n i i = 0 := by unfold dst; omega
theorem dst_comm (l : List S72) (r n : Int) (i k : Nat) : dst l r n i k = dst l r n k i := by unfold dst; omega
theorem dst_le {l : List S72} (h : okV l) {r n : Int} (hs : slope r n) {i k : Nat} (hik : i ≤ k) (hk : k < l.length) : dst l r n i k = pre l r n k - pre l r n i := by
  have := pre_mono h hs hik hk
  unfold dst; omega
theorem dst_bd {l : List S72} (h : okV l) {r n : Int} (hs : slope r n) {i k : Nat} (hi : i < l.length) (hk : k < l.length) : 0 ≤ dst l r n i k ∧ dst l r n i k ≤ 3000000000 := by
  have := pre_bd' h hs hi
  have := pre_bd' h hs hk
  unfold dst; omega
/-- The places of windows. -/
def plc (l : List S72) (r n : Int) : List Int := (List.range l.length).map (pre l r n)
theorem plc_len (l : List S72) (r n : Int) : (plc l r n).length = l.length := by simp [plc]
theorem rd_map (f : Nat → Int) {m i : Nat} (h : i < m) : rd ((List.range m).map f) (i : Int) = f i := by
  simp [rd, List.getD_eq_getElem?_getD, h]
theorem rd_plc (l : List S72) (r n : Int) {i : Nat} (h : i < l.length) : rd (plc l r n) (i : Int) = pre l r n i := rd_map _ h
theorem rd_set (x : List Int) {i j : Nat} (v : Int) (hi : i < x.length) (hj : j < x.length) : rd (x.set i v) (j : Int) = if j = i then v else rd x (j : Int) := by
  simp only [rd, List.getD_eq_getElem?_getD, Int.toNat_natCast, List.getElem?_set]
  by_cases e : i = j
  · subst e; simp [hi]
  · rw [if_neg e, if_neg (fun h => e h.symm)]
theorem rd_ext {x : List Int} {m : Nat} {f : Nat → Int} (hl : x.length = m) (h : ∀ i, i < m → rd x (i : Int) = f i) : x = (List.range m).map f := by
  refine List.ext_getElem (by simp [hl]) fun i h1 h2 => ?_
  have := h i (by omega)
  simp only [rd, List.getD_eq_getElem?_getD, Int.toNat_natCast, List.getElem?_eq_getElem h1, Option.getD_some] at this
  simp [this]
theorem to_some {l : List S72} (h : okV l) {r n : Int} (hs : slope r n) {i k : Nat} (hi : i < l.length) (hk : k < l.length) : wire_places_to.f (plc l r n) i k = some (dst l r n i k) := by
  have b1 := pre_bd' h hs hi
  have b2 := pre_bd' h hs hk
  unfold wire_places_to.f
  rw [plc_len, if_pos (by omega), if_pos (by omega), if_pos (by omega), if_pos (by omega), rd_plc l r n hi, rd_plc l r n hk, w64 (by omega) (by omega), w64 (by omega) (by omega), mx_eq]
  rfl
theorem placed_loop {l : List S72} (h : okV l) {r n : Int} (hs : slope r n) : ∀ (d i : Nat) (x : List Int), l.length - i = d → 1 ≤ i → i ≤ l.length → x.length = l.length → (∀ j, j < i → rd x (j : Int) = pre l r n j) →
    Ev (fun k => wire_placed.l0 k l r n x i) (plc l r n) := by
  intro d
  induction d with
  | zero =>
    intro i x hd h1 hi hx hj
    obtain rfl : i = l.length := by omega
    refine ev_some _ fun k => ?_
    rw [wire_placed.l0, if_neg (by omega)]
    congr 1
    exact rd_ext hx hj
  | succ d ih =>
    intro i x hd h1 hi hx hj
    obtain ⟨j, rfl⟩ : ∃ j, i = j + 1 := ⟨i - 1, by omega⟩
    have hlt : j + 1 < l.length := by omega
    have hl30 := h.1.2
    have b1 := pre_bd' h hs (i := j) (by omega)
    obtain ⟨b2, b3, b4⟩ := stp_bd h hs hlt
    have e := ih (j + 1 + 1) (x.set (j + 1) (pre l r n (j + 1))) (by omega) (by omega) (by omega) (by rw [List.length_set]; exact hx) (fun m hm => by
      rw [rd_set x _ (by omega) (by omega)]
      by_cases q : m = j + 1
      · rw [if_pos q, q]
      · rw [if_neg q]; exact hj m (by omega))
    refine Ev.step (fun k => ?_) e
    rw [wire_placed.l0, wpred j (by omega), if_pos (by omega), if_pos (by omega), if_pos (by omega), if_pos (by omega), if_pos (by omega), if_neg (by have := hs.2.2.1; omega), if_pos (by omega), hj j (by omega), b4, w64 (n := pre l r n j + stp l r n j) (by omega) (by omega), wsucc (j + 1) (by omega)]
    rfl
theorem placed_ev {l : List S72} (h : okV l) {r n : Int} (hs : slope r n) : Ev (fun k => wire_placed.f k l r n) (plc l r n) := by
  have hl := h.1
  refine Ev.congr (fun k => ?_) (placed_loop h hs (l.length - 1) 1 (List.replicate l.length 0) (by omega) (by omega) (by omega) (by simp) (fun j hj => by
    obtain rfl : j = 0 := by omega
    simp only [rd, pre, List.getD_eq_getElem?_getD, Int.natCast_zero, Int.toNat_zero, List.getElem?_replicate]
    split <;> rfl))
  unfold wire_placed.f
  rw [if_pos (by omega), if_pos (by omega)]
  rfl
theorem steps_loop {l : List S72} (h : okV l) {r n : Int} (hs : slope r n) {a b m : Nat} (hab : a ≤ b) (hb : b < l.length) (i k : Int) (hik : mx i k = b) : ∀ (d j : Nat), b - j = d → a ≤ j → j ≤ b →
    Ev (fun f => dropperref02_steps.l0 f l r n i k (pre l r n j - pre l r n a) j) (pre l r n b - pre l r n a) := by
  intro d
  induction d with
  | zero =>
    intro j hd hj hjb
    obtain rfl : j = b := by omega
    refine ev_some _ fun f => ?_
    rw [dropperref02_steps.l0, hik, if_neg (by omega)]
  | succ d ih =>
    intro j hd hj hjb
    have hl30 := h.1.2
    have b1 := pre_bd' h hs (i := j) (by omega)
    have b5 := pre_bd' h hs (i := a) (by omega)
    obtain ⟨b2, b3, b4⟩ := stp_bd h hs (i := j) (by omega)
    have e := ih (j + 1) (by omega) (by omega) (by omega)
    refine Ev.step (fun f => ?_) e
    rw [dropperref02_steps.l0, hik, wsucc j (by omega), if_pos (by omega), if_pos (by omega), if_pos (by omega), if_pos (by omega), if_pos (by omega), if_neg (by have := hs.2.2.1; omega), b4, w64 (n := pre l r n j - pre l r n a + stp l r n j) (by omega) (by omega), pre]
    congr 1
    omega
theorem steps_ev {l : List S72} (h : okV l) {r n : Int} (hs : slope r n) {i k : Nat} (hi : i < l.length) (hk : k < l.length) : Ev (fun f => dropperref02_steps.f f l r n i k) (dst l r n i k) := by
  by_cases c : i ≤ k
  · rw [dst_le h hs c hk]
    refine Ev.congr (fun f => ?_) (steps_loop h hs (m := 0) c hk i k (by rw [mx_eq]; omega) (k - i) i (by omega) (by omega) c)
    unfold dropperref02_steps.f
    rw [mn_eq, show min (i : Int) (k : Int) = (i : Int) by omega, Int.sub_self]
  · rw [dst_comm, dst_le h hs (by omega) hi]
    refine Ev.congr (fun f => ?_) (steps_loop h hs (m := 0) (show k ≤ i by omega) hi i k (by rw [mx_eq]; omega) (i - k) k (by omega) (by omega) (by omega))
    unfold dropperref02_steps.f
    rw [mn_eq, show min (i : Int) (k : Int) = (k : Int) by omega, Int.sub_self]
open Classical in
/-- The error of windows and a slope. -/
noncomputable def askE (l : List S72) (r n : Int) : Int := if okV l then (if slope r n then 0 else 2) else 20
open Classical in
theorem wire_asked_ev (l : List S72) (hl : l.length ≤ 9223372036854775807) (r n : Int) : Ev (fun k => wire_asked.f k l r n) (if askE l r n = 0 then plc l r n else [], askE l r n) := by
  have v := wire_valid_ev l hl
  unfold askE
  by_cases c : okV l
  · rw [decide_eq_true c] at v
    rw [if_pos c]
    refine Ev.bind v ?_
    simp only [if_true, within_some, Option.bind_some]
    by_cases s1 : 0 ≤ r ∧ r ≤ 1000
    · rw [decide_eq_true s1]
      by_cases s2 : 1 ≤ n ∧ n ≤ 1000
      · have s : slope r n := ⟨s1.1, s1.2, s2.1, s2.2⟩
        rw [decide_eq_true s2, if_pos s]
        simp only [if_true]
        exact Ev.bind (placed_ev c s) (Ev.now _)
      · rw [decide_eq_false s2, show (if slope r n then (0 : Int) else 2) = 2 from if_neg (fun z => s2 z.2.2)]
        exact Ev.now _
    · rw [decide_eq_false s1, show (if slope r n then (0 : Int) else 2) = 2 from if_neg (fun z => s1 ⟨z.1, z.2.1⟩)]
      exact Ev.now _
  · rw [decide_eq_false c] at v
    rw [if_neg c]
    refine Ev.bind v ?_
    exact Ev.now _
theorem askE_zero {l : List S72} {r n : Int} (h : askE l r n = 0) : okV l ∧ slope r n := by
  unfold askE at h
  split at h
  · split at h
    · constructor <;> assumption
    · omega
  · omega
theorem askE_ok {l : List S72} {r n : Int} (h : okV l) (hs : slope r n) : askE l r n = 0 := by
  unfold askE; rw [if_pos h, if_pos hs]
theorem awake_ev : Ev (fun k => dropperlaw02_Awake.f k) true := Ev.of (fun k => dropperlaw02_Awake.mono k) (k := 40) (by decide +kernel)
theorem large_ev (l : List S72) : ∀ (hs : List (List Int)), hs.length ≤ 2 → ∃ b : Bool, Ev (fun k => dropperlaw02_Large.f k l hs) b ∧ (b = false → l.length ≤ 50 ∧ ∀ x ∈ hs, x.length ≤ 50) := by
  intro hs hh
  have loop : ∀ (d i : Nat), hs.length - i = d → i ≤ hs.length → (∀ j, j < i → (rd_L1 hs (j : Int)).length ≤ 50) → ∃ b : Bool, Ev (fun k => dropperlaw02_Large.l0 k l hs i) b ∧ (b = false → l.length ≤ 50 ∧ ∀ j, j < hs.length → (rd_L1 hs (j : Int)).length ≤ 50) := by
    intro d
    induction d with
    | zero =>
      intro i hd hi h1
      obtain rfl : i = hs.length := by omega
      refine ⟨decide ((l.length : Int) > 50), ev_some _ fun k => ?_, fun h => ⟨by have := of_decide_eq_false h; omega, h1⟩⟩
      rw [dropperlaw02_Large.l0, if_neg (by omega)]
    | succ d ih =>
      intro i hd hi h1
      by_cases c : ((rd_L1 hs (i : Int)).length : Int) > 50
      · refine ⟨true, ev_some _ fun k => ?_, fun h => by cases h⟩
        rw [dropperlaw02_Large.l0, if_pos (by omega), if_pos (by omega), if_pos c]
      · obtain ⟨b, e, hb⟩ := ih (i + 1) (by omega) (by omega) (fun j hj => if q : j = i then by subst q; omega else h1 j (by omega))
        refine ⟨b, Ev.step (fun k => ?_) e, hb⟩
        rw [dropperlaw02_Large.l0, if_pos (by omega), if_pos (by omega), if_neg c, wsucc i (by omega)]
  obtain ⟨b, e, hb⟩ := loop hs.length 0 (by omega) (by omega) (by omega)
  refine ⟨b, e, fun h => ⟨(hb h).1, fun x hx => ?_⟩⟩
  obtain ⟨j, hj, rfl⟩ := List.getElem_of_mem hx
  have := (hb h).2 j hj
  simpa [rd_L1, List.getD_eq_getElem?_getD, hj] using this
/-- What m windows ask of the window at i. -/
def gM (b : Nat → Int) (l : List S72) (r n : Int) (i : Nat) : Nat → Int
  | 0 => b i
  | m + 1 => max (gM b l r n i m) (b m - dst l r n i m)
theorem gM_char (b : Nat → Int) (l : List S72) (r n : Int) (i : Nat) : ∀ m, (∀ k, k < m → b k - dst l r n i k ≤ gM b l r n i m) ∧ b i ≤ gM b l r n i m ∧ (gM b l r n i m ≤ b i ∨ ∃ k, k < m ∧ gM b l r n i m ≤ b k - dst l r n i k)
  | 0 => ⟨fun k hk => by omega, by simp [gM], .inl (by simp [gM])⟩
  | m + 1 => by
    obtain ⟨h1, h2, h3⟩ := gM_char b l r n i m
    rw [gM]
    refine ⟨fun k hk => ?_, by omega, ?_⟩
    · by_cases e : k = m
      · subst e; omega
      · have := h1 k (by omega); omega
    · by_cases c : gM b l r n i m ≤ b m - dst l r n i m
      · exact .inr ⟨m, by omega, by omega⟩
      · rcases h3 with h | ⟨k, hk, h⟩
        · exact .inl (by omega)
        · exact .inr ⟨k, by omega, by omega⟩
theorem gM_uniq {b : Nat → Int} {l : List S72} {r n : Int} {i : Nat} (hi : i < l.length) {x : Int} (h1 : ∀ k, k < l.length → b k - dst l r n i k ≤ x) (h2 : ∃ k, k < l.length ∧ x ≤ b k - dst l r n i k) : gM b l r n i l.length = x := by
  obtain ⟨g1, g2, g3⟩ := gM_char b l r n i l.length
  obtain ⟨k, hk, h2⟩ := h2
  have a := g1 k hk
  have e := h1 i hi
  rw [dst_self] at e
  rcases g3 with h | ⟨k', hk', h⟩
  · omega
  · have := h1 k' hk'
    omega
/-- The sweep forward. -/
def fw (b : Nat → Int) (l : List S72) (r n : Int) : Nat → Int
  | 0 => b 0
  | i + 1 => max (b (i + 1)) (fw b l r n i - stp l r n i)
theorem fw_char {l : List S72} (h : okV l) {r n : Int} (hs : slope r n) (b : Nat → Int) : ∀ {i : Nat}, i < l.length → (∀ k, k ≤ i → b k - (pre l r n i - pre l r n k) ≤ fw b l r n i) ∧ ∃ k, k ≤ i ∧ fw b l r n i = b k - (pre l r n i - pre l r n k)
  | 0, _ => ⟨fun k hk => by
      obtain rfl : k = 0 := by omega
      simp [fw], 0, by omega, by simp [fw]⟩
  | i + 1, hi => by
    obtain ⟨h1, k, hk, h2⟩ := fw_char h hs b (i := i) (by omega)
    have s := (stp_bd h hs hi).1
    have p : pre l r n (i + 1) = pre l r n i + stp l r n i := rfl
    rw [fw]
    refine ⟨fun j hj => ?_, ?_⟩
    · by_cases e : j = i + 1
      · subst e; omega
      · have := h1 j (by omega); omega
    · by_cases c : b (i + 1) ≤ fw b l r n i - stp l r n i
      · exact ⟨k, by omega, by omega⟩
      · exact ⟨i + 1, by omega, by omega⟩
theorem gM_last {l : List S72} (h : okV l) {r n : Int} (hs : slope r n) (b : Nat → Int) {m : Nat} (hm : m + 1 = l.length) : gM b l r n m l.length = fw b l r n m := by
  obtain ⟨h1, k, hk, h2⟩ := fw_char h hs b (i := m) (by omega)
  refine gM_uniq (by omega) (fun j hj => ?_) ⟨k, by omega, ?_⟩
  · rw [dst_comm, dst_le h hs (by omega) (by omega)]
    exact h1 j (by omega)
  · rw [dst_comm, dst_le h hs (by omega) (by omega), h2]
    omega
theorem gM_step {l : List S72} (h : okV l) {r n : Int} (hs : slope r n) (b : Nat → Int) {j : Nat} (hj : j + 1 < l.length) : gM b l r n j l.length = max (fw b l r n j) (gM b l r n (j + 1) l.length - stp l r n j) := by
  obtain ⟨h1, k, hk, h2⟩ := fw_char h hs b (i := j) (by omega)
  obtain ⟨g1, g2, g3⟩ := gM_char b l r n (j + 1) l.length
  have s := (stp_bd h hs hj).1
  have p : pre l r n (j + 1) = pre l r n j + stp l r n j := rfl
  refine gM_uniq (by omega) (fun i hi => ?_) ?_
  · by_cases c : i ≤ j
    · rw [dst_comm, dst_le h hs c (by omega)]
      have := h1 i c
      omega
    · have a := g1 i hi
      rw [dst_le h hs (by omega) hi] at a ⊢
      omega
  · by_cases c : gM b l r n (j + 1) l.length - stp l r n j ≤ fw b l r n j
    · refine ⟨k, by omega, ?_⟩
      rw [dst_comm, dst_le h hs hk (by omega)]
      omega
    · have key : ∃ i, i < l.length ∧ gM b l r n (j + 1) l.length ≤ b i - dst l r n (j + 1) i := by
        rcases g3 with g | ⟨i, hi, g⟩
        · exact ⟨j + 1, hj, by rw [dst_self]; omega⟩
        · exact ⟨i, hi, g⟩
      obtain ⟨i, hi, g⟩ := key
      by_cases e : i ≤ j
      · exfalso
        have := h1 i e
        rw [dst_comm, dst_le h hs (show i ≤ j + 1 by omega) hj] at g
        omega
      · refine ⟨i, hi, ?_⟩
        rw [dst_le h hs (by omega) hi] at g ⊢
        omega
theorem fw_bd {l : List S72} (h : okV l) {r n : Int} (hs : slope r n) {b : Nat → Int} (hb : ∀ k, k < l.length → -10000 ≤ b k ∧ b k ≤ 10000) {i : Nat} (hi : i < l.length) : -10000 ≤ fw b l r n i ∧ fw b l r n i ≤ 10000 := by
  obtain ⟨h1, k, hk, h2⟩ := fw_char h hs b hi
  have a := h1 i (by omega)
  have e := pre_mono h hs hk hi
  have := hb k (by omega)
  have := hb i hi
  omega
theorem gM_bd {l : List S72} (h : okV l) {r n : Int} (hs : slope r n) {b : Nat → Int} (hb : ∀ k, k < l.length → -10000 ≤ b k ∧ b k ≤ 10000) {i : Nat} (hi : i < l.length) : -10000 ≤ gM b l r n i l.length ∧ gM b l r n i l.length ≤ 10000 := by
  obtain ⟨g1, g2, g3⟩ := gM_char b l r n i l.length
  have := hb i hi
  rcases g3 with g | ⟨k, hk, g⟩
  · omega
  · have := hb k hk
    have := dst_bd h hs hi hk
    omega
/-- What all windows ask, as a list. -/
def gL (b : Nat → Int) (l : List S72) (r n : Int) : List Int := (List.range l.length).map fun i => gM b l r n i l.length
theorem gL_len (b : Nat → Int) (l : List S72) (r n : Int) : (gL b l r n).length = l.length := by simp [gL]
theorem rd_gL (b : Nat → Int) (l : List S72) (r n : Int) {i : Nat} (h : i < l.length) : rd (gL b l r n) (i : Int) = gM b l r n i l.length := rd_map _ h
theorem back_loop {l : List S72} (h : okV l) {r n : Int} (hs : slope r n) {b : Nat → Int} (hb : ∀ k, k < l.length → -10000 ≤ b k ∧ b k ≤ 10000) : ∀ (d : Nat) (x : List Int), d + 1 ≤ l.length → x.length = l.length → (∀ j, d ≤ j → j < l.length → rd x (j : Int) = gM b l r n j l.length) → (∀ j, j < d → rd x (j : Int) = fw b l r n j) →
    Ev (fun k => wire_places_lowest.l1 k (plc l r n) x ((d : Int) - 1)) (gL b l r n) := by
  intro d
  induction d with
  | zero =>
    intro x hd hx h1 h2
    refine ev_some _ fun k => ?_
    rw [wire_places_lowest.l1, if_neg (by omega)]
    congr 1
    exact rd_ext hx fun i hi => h1 i (by omega) hi
  | succ d ih =>
    intro x hd hx h1 h2
    have hl30 := h.1.2
    have b1 := gM_bd h hs hb (i := d + 1) (by omega)
    have b2 := stp_bd h hs (i := d) (by omega)
    have e0 : dst l r n d (d + 1) = stp l r n d := by rw [dst_le h hs (by omega) (by omega), pre]; omega
    have e := ih (x.set d (gM b l r n d l.length)) (by omega) (by rw [List.length_set]; exact hx) (fun j hj hj2 => by
        rw [rd_set x _ (by omega) (by omega)]
        by_cases q : j = d
        · rw [if_pos q, q]
        · rw [if_neg q]; exact h1 j (by omega) hj2) (fun j hj => by
        rw [rd_set x _ (by omega) (by omega), if_neg (by omega)]
        exact h2 j (by omega))
    refine Ev.step (fun k => ?_) e
    have q0 : (((d + 1 : Nat) : Int) - 1) = (d : Int) := by omega
    rw [q0, wire_places_lowest.l1, wsucc d (by omega), if_pos (by omega), if_pos (by omega), if_pos (by omega), if_pos (by omega), if_pos (by omega), to_some h hs (by omega) (by omega), e0]
    simp only [Option.bind_some]
    rw [h1 (d + 1) (by omega) (by omega), h2 d (by omega), w64 (n := gM b l r n (d + 1) l.length - stp l r n d) (by omega) (by omega), w64 (n := (d : Int) - 1) (by omega) (by omega), mx_eq, ← gM_step h hs b (by omega)]
    rfl
theorem front_loop {l : List S72} (h : okV l) {r n : Int} (hs : slope r n) {b : Nat → Int} (hb : ∀ k, k < l.length → -10000 ≤ b k ∧ b k ≤ 10000) : ∀ (d i : Nat) (x : List Int), l.length - i = d → 1 ≤ i → i ≤ l.length → x.length = l.length → (∀ j, j < i → rd x (j : Int) = fw b l r n j) → (∀ j, i ≤ j → j < l.length → rd x (j : Int) = b j) →
    Ev (fun k => wire_places_lowest.l0 k (plc l r n) x i) (gL b l r n) := by
  intro d
  induction d with
  | zero =>
    intro i x hd hi1 hi hx h1 h2
    obtain rfl : i = l.length := by omega
    have hl30 := h.1.2
    refine Ev.step (fun k => ?_) (back_loop h hs hb (l.length - 1) x (by omega) hx (fun j hj hj2 => ?_) (fun j hj => h1 j (by omega)))
    · rw [wire_places_lowest.l0, hx, if_neg (by omega), w64 (by omega) (by omega)]
      congr 1
      omega
    · obtain rfl : j = l.length - 1 := by omega
      rw [h1 _ hj2, gM_last h hs b (by omega)]
  | succ d ih =>
    intro i x hd hi1 hi hx h1 h2
    obtain ⟨j, rfl⟩ : ∃ j, i = j + 1 := ⟨i - 1, by omega⟩
    have hlt : j + 1 < l.length := by omega
    have hl30 := h.1.2
    have b1 := fw_bd h hs hb (i := j) (by omega)
    have b2 := stp_bd h hs (i := j) (by omega)
    have e0 : dst l r n (j + 1) j = stp l r n j := by rw [dst_comm, dst_le h hs (by omega) (by omega), pre]; omega
    have e := ih (j + 1 + 1) (x.set (j + 1) (fw b l r n (j + 1))) (by omega) (by omega) (by omega) (by rw [List.length_set]; exact hx) (fun m hm => by
        rw [rd_set x _ (by omega) (by omega)]
        by_cases q : m = j + 1
        · rw [if_pos q, q]
        · rw [if_neg q]; exact h1 m (by omega)) (fun m hm hm2 => by
        rw [rd_set x _ (by omega) (by omega), if_neg (by omega)]
        exact h2 m (by omega) hm2)
    refine Ev.step (fun k => ?_) e
    rw [wire_places_lowest.l0, wpred j (by omega), if_pos (by omega), if_pos (by omega), if_pos (by omega), if_pos (by omega), to_some h hs (by omega) (by omega), e0]
    simp only [Option.bind_some]
    rw [h1 j (by omega), h2 (j + 1) (by omega) hlt, w64 (n := fw b l r n j - stp l r n j) (by omega) (by omega), mx_eq, wsucc (j + 1) (by omega)]
    rfl
theorem lowest_ev' {l : List S72} (h : okV l) {r n : Int} (hs : slope r n) {b : Nat → Int} (hb : ∀ k, k < l.length → -10000 ≤ b k ∧ b k ≤ 10000) {x : List Int} (hx : x.length = l.length) (hxb : ∀ j, j < l.length → rd x (j : Int) = b j) :
    Ev (fun k => wire_places_lowest.f k (plc l r n) x) (gL b l r n) := by
  have hl := h.1
  refine Ev.congr (fun k => ?_) (front_loop h hs hb (l.length - 1) 1 x (by omega) (by omega) (by omega) hx (fun j hj => by
    obtain rfl : j = 0 := by omega
    rw [hxb 0 (by omega), fw]) (fun j hj hj2 => hxb j hj2))
  unfold wire_places_lowest.f slices_Clone_int_int.f
  simp only [Option.bind_some, List.nil_append, List.length_nil, Nat.zero_add]
  rw [if_pos (by omega)]
  rfl
/-- The lows of windows. -/
def loL (l : List S72) : List Int := (List.range l.length).map fun i => (wn l i).f1
theorem lows_loop {l : List S72} (hl : l.length ≤ 50) : ∀ (d i : Nat) (x : List Int), l.length - i = d → i ≤ l.length → x.length = i → (∀ j, j < i → rd x (j : Int) = (wn l j).f1) → Ev (fun k => wire_lows.l0 k x l l.length i) (loL l) := by
  intro d
  induction d with
  | zero =>
    intro i x hd hi hx h1
    obtain rfl : i = l.length := by omega
    refine ev_some _ fun k => ?_
    rw [wire_lows.l0, if_neg (by omega)]
    congr 1
    exact rd_ext hx h1
  | succ d ih =>
    intro i x hd hi hx h1
    have e := ih (i + 1) (x ++ [(wn l i).f1]) (by omega) (by omega) (by simp [hx]) (fun j hj => by
      by_cases q : j = i
      · subst q
        simp [rd, List.getD_eq_getElem?_getD, ← hx]
      · rw [← h1 j (by omega)]
        simp only [rd, List.getD_eq_getElem?_getD, Int.toNat_natCast]
        rw [List.getElem?_append_left (by omega)])
    refine Ev.step (fun k => ?_) e
    rw [wire_lows.l0, if_pos (by omega), if_pos (by omega), if_pos (by omega), if_pos (by omega), wsucc i (by omega)]
theorem lows_ev {l : List S72} (hl : l.length ≤ 50) : Ev (fun k => wire_lows.f k l) (loL l) := lows_loop hl l.length 0 [] (by omega) (by omega) rfl (by omega)
theorem loL_len (l : List S72) : (loL l).length = l.length := by simp [loL]
theorem rd_loL (l : List S72) {i : Nat} (h : i < l.length) : rd (loL l) (i : Int) = (wn l i).f1 := rd_map _ h
/-- Heights are nowhere above the windows. -/
def undr (l : List S72) (x : List Int) : Prop := ∀ i, i < l.length → rd x (i : Int) ≤ (wn l i).f2
open Classical in
theorem under_loop {l : List S72} (hl : l.length ≤ 50) {x : List Int} (hx : x.length = l.length) : ∀ (d i : Nat), l.length - i = d → i ≤ l.length → (∀ j, j < i → rd x (j : Int) ≤ (wn l j).f2) → Ev (fun k => wire_under.l0 k l x l.length i) (decide (undr l x)) := by
  intro d
  induction d with
  | zero =>
    intro i hd hi h1
    obtain rfl : i = l.length := by omega
    refine ev_some _ fun k => ?_
    rw [wire_under.l0, if_neg (by omega), decide_eq_true (show undr l x from h1)]
  | succ d ih =>
    intro i hd hi h1
    by_cases c : rd x (i : Int) ≤ (wn l i).f2
    · refine Ev.step (fun k => ?_) (ih (i + 1) (by omega) (by omega) (fun j hj => if q : j = i then q ▸ c else h1 j (by omega)))
      rw [wire_under.l0, if_pos (by omega), if_pos (by omega), if_pos (by omega), if_pos (by omega), if_neg (Int.not_lt.2 c), wsucc i (by omega)]
    · refine ev_some _ fun k => ?_
      rw [wire_under.l0, if_pos (by omega), if_pos (by omega), if_pos (by omega), if_pos (by omega), if_pos (Int.not_le.1 c), decide_eq_false (fun z => c (z i (by omega)))]
open Classical in
theorem under_ev {l : List S72} (hl : l.length ≤ 50) {x : List Int} (hx : x.length = l.length) : Ev (fun k => wire_under.f k l x) (decide (undr l x)) := by
  refine Ev.congr (fun k => ?_) (under_loop hl hx l.length 0 (by omega) (by omega) (by omega))
  unfold wire_under.f
  rw [hx]
  rfl
/-- The windows i and k clash. -/
def clk (l : List S72) (r n : Int) (i k : Nat) : Prop := (wn l i).f1 > (wn l k).f2 + dst l r n i k
instance (l : List S72) (r n : Int) (i k : Nat) : Decidable (clk l r n i k) := by unfold clk; infer_instance
theorem okV.rng {l : List S72} (h : okV l) {i : Nat} (hi : i < l.length) : -10000 ≤ (wn l i).f1 ∧ (wn l i).f1 ≤ (wn l i).f2 ∧ (wn l i).f2 ≤ 10000 := (h.2 i hi).2.2
theorem clk_wrap {l : List S72} (h : okV l) {r n : Int} (hs : slope r n) {i k : Nat} (hi : i < l.length) (hk : k < l.length) : decide ((wn l i).f1 > wrap64 ((wn l k).f2 + dst l r n i k)) = decide (clk l r n i k) := by
  have := h.rng hk
  have := dst_bd h hs hi hk
  rw [w64 (n := (wn l k).f2 + dst l r n i k) (by omega) (by omega)]
  rfl
/-- The first window from k on, of d, with which i clashes. -/
def rowC (l : List S72) (r n : Int) (i : Nat) : Nat → Nat → Option Nat
  | 0, _ => none
  | d + 1, k => if clk l r n i k then some k else rowC l r n i d (k + 1)
/-- The first clash, of d windows from i on. -/
def allC (l : List S72) (r n : Int) : Nat → Nat → Int × Int × Int
  | 0, _ => (0, 0, 5)
  | d + 1, i => match rowC l r n i l.length 0 with
    | some k => ((i : Int), (k : Int), 0)
    | none => allC l r n d (i + 1)
theorem rowC_none {l : List S72} {r n : Int} {i : Nat} : ∀ {d k : Nat}, rowC l r n i d k = none ↔ ∀ j, k ≤ j → j < k + d → ¬ clk l r n i j
  | 0, k => ⟨fun _ j h1 h2 => by omega, fun _ => rfl⟩
  | d + 1, k => by
    rw [rowC]
    by_cases c : clk l r n i k
    · rw [if_pos c]
      exact ⟨fun h => by simp at h, fun h => absurd c (h k (Nat.le_refl _) (by omega))⟩
    · rw [if_neg c, rowC_none (d := d) (k := k + 1)]
      refine ⟨fun h j h1 h2 => ?_, fun h j h1 h2 => h j (by omega) (by omega)⟩
      by_cases e : j = k
      · subst e; exact c
      · exact h j (by omega) (by omega)
theorem rowC_some {l : List S72} {r n : Int} {i : Nat} : ∀ {d k j : Nat}, rowC l r n i d k = some j → k ≤ j ∧ j < k + d ∧ clk l r n i j
  | 0, k, j, h => by simp [rowC] at h
  | d + 1, k, j, h => by
    rw [rowC] at h
    by_cases c : clk l r n i k
    · rw [if_pos c] at h
      obtain rfl := Option.some.inj h
      exact ⟨by omega, by omega, c⟩
    · rw [if_neg c] at h
      have := rowC_some h
      exact ⟨by omega, by omega, this.2.2⟩
theorem rowC_skip {l : List S72} {r n : Int} {i : Nat} : ∀ {s d k : Nat}, (∀ j, k ≤ j → j < k + s → ¬ clk l r n i j) → rowC l r n i (s + d) k = rowC l r n i d (k + s)
  | 0, d, k, h => by simp
  | s + 1, d, k, h => by
    rw [show s + 1 + d = (s + d) + 1 by omega, rowC, if_neg (h k (Nat.le_refl _) (by omega)), rowC_skip (s := s) (fun j h1 h2 => h j (by omega) (by omega)), show k + 1 + s = k + (s + 1) by omega]
/-- No windows clash. -/
def noC (l : List S72) (r n : Int) : Prop := ∀ i, i < l.length → ∀ k, k < l.length → ¬ clk l r n i k
theorem allC_five {l : List S72} {r n : Int} : ∀ {d i : Nat}, i + d = l.length → ((allC l r n d i).2.2 = 5 ↔ ∀ j, i ≤ j → j < l.length → ∀ k, k < l.length → ¬ clk l r n j k) ∧ ((allC l r n d i).2.2 = 5 ∨ (allC l r n d i).2.2 = 0)
  | 0, i, hd => ⟨⟨fun _ j h1 h2 => by omega, fun _ => rfl⟩, .inl rfl⟩
  | d + 1, i, hd => by
    rw [allC]
    cases c : rowC l r n i l.length 0 with
    | some k =>
      obtain ⟨_, h2, h3⟩ := rowC_some c
      refine ⟨⟨fun h => by simp at h, fun h => absurd h3 (h i (Nat.le_refl _) (by omega) k (by omega))⟩, .inr rfl⟩
    | none =>
      have c' := rowC_none.1 c
      obtain ⟨h1, h2⟩ := allC_five (l := l) (r := r) (n := n) (d := d) (i := i + 1) (by omega)
      refine ⟨⟨fun h j hj hj2 k hk => ?_, fun h => h1.2 fun j hj => h j (by omega)⟩, h2⟩
      by_cases e : j = i
      · subst e; exact c' k (by omega) (by omega)
      · exact h1.1 h j (by omega) hj2 k hk
theorem allC_noC {l : List S72} {r n : Int} : (allC l r n l.length 0).2.2 = 5 ↔ noC l r n := by
  rw [(allC_five (by omega)).1]
  exact ⟨fun h i hi => h i (by omega) hi, fun h i _ hi => h i hi⟩
open Classical in
/-- What Clash tells. -/
noncomputable def clashR (l : List S72) (r n : Int) : Int × Int × Int := if askE l r n = 0 then allC l r n l.length 0 else (0, 0, askE l r n)
theorem index_loop {l : List S72} (hl : l.length ≤ 50) {fn : Int → Int → Int → Option Bool} {p : Nat → Prop} [DecidablePred p] (hp : ∀ j, j < l.length → fn (wn l j).f0 (wn l j).f1 (wn l j).f2 = some (decide (p j))) : ∀ (d i : Nat), l.length - i = d → i ≤ l.length → (∀ j, j < i → ¬ p j) →
    ∃ t : Int, Ev (fun f => api_Window.l0 f l fn l.length i) t ∧ ((t = -1 ∧ ∀ j, j < l.length → ¬ p j) ∨ ∃ k : Nat, t = k ∧ k < l.length ∧ p k ∧ ∀ j, j < k → ¬ p j) := by
  intro d
  induction d with
  | zero =>
    intro i hd hi h1
    obtain rfl : i = l.length := by omega
    refine ⟨-1, ev_some _ fun k => ?_, .inl ⟨rfl, h1⟩⟩
    rw [api_Window.l0, if_neg (by omega)]
  | succ d ih =>
    intro i hd hi h1
    by_cases c : p i
    · refine ⟨i, ev_some _ fun k => ?_, .inr ⟨i, rfl, by omega, c, h1⟩⟩
      rw [api_Window.l0, if_pos (by omega), if_pos (by omega), if_pos (by omega), hp i (by omega), decide_eq_true c]
      rfl
    · obtain ⟨t, e, ht⟩ := ih (i + 1) (by omega) (by omega) (fun j hj => if q : j = i then q ▸ c else h1 j (by omega))
      refine ⟨t, Ev.step (fun k => ?_) e, ht⟩
      rw [api_Window.l0, if_pos (by omega), if_pos (by omega), if_pos (by omega), hp i (by omega), decide_eq_false c, wsucc i (by omega)]
      rfl
theorem wire_clash_inner {l : List S72} (h : okV l) {r n : Int} (hs : slope r n) {i : Nat} (hi : i < l.length) {R : Int × Int × Int} (hR : Ev (fun f => wire_Clash.l0 f l (plc l r n) l l.length ((i + 1 : Nat) : Int)) R) : ∀ (e k : Nat), k + e = l.length →
    Ev (fun f => wire_Clash.l1 f l (plc l r n) i k l l.length i (wn l i).f0 (wn l i).f1 (wn l i).f2) (match rowC l r n i e k with | some j => ((i : Int), (j : Int), 0) | none => R) := by
  intro e
  have hl30 := h.1.2
  induction e with
  | zero =>
    intro k hk
    refine Ev.step (fun f => ?_) (Ev.step (g := fun f => wire_Clash.j2 f l (plc l r n) i k l l.length i false (wn l i).f0 (wn l i).f1 (wn l i).f2) (fun f => ?_) hR)
    · rw [wire_Clash.l1, if_pos (by omega), decide_eq_false (by omega)]
    · rw [wire_Clash.j2, if_neg (by decide), wsucc i (by omega)]
  | succ e ihe =>
    intro k hk
    refine Ev.step (fun f => ?_) (Ev.step (g := fun f => wire_Clash.j2 f l (plc l r n) i k l l.length i true (wn l i).f0 (wn l i).f1 (wn l i).f2) (f := fun f => if clk l r n i k then some ((i : Int), (k : Int), 0) else wire_Clash.l1 f l (plc l r n) i ((k + 1 : Nat) : Int) l l.length i (wn l i).f0 (wn l i).f1 (wn l i).f2) (fun f => ?_) ?_)
    · rw [wire_Clash.l1, if_pos (by omega), decide_eq_true (by omega)]
    · have q := clk_wrap h hs hi (show k < l.length by omega)
      rw [wire_Clash.j2, if_pos rfl, if_pos (by omega), if_pos (by omega), to_some h hs hi (by omega), wsucc k (by omega)]
      simp only [Option.bind_some]
      by_cases c : clk l r n i k
      · rw [decide_eq_true c] at q
        rw [if_pos c, if_pos (of_decide_eq_true q)]
      · rw [decide_eq_false c] at q
        rw [if_neg c, if_neg (of_decide_eq_false q)]
    · rw [rowC]
      by_cases c : clk l r n i k
      · simp only [if_pos c]; exact Ev.now _
      · simp only [if_neg c]; exact ihe (k + 1) (by omega)
theorem wire_clash_loop {l : List S72} (h : okV l) {r n : Int} (hs : slope r n) : ∀ (d i : Nat), i + d = l.length → Ev (fun f => wire_Clash.l0 f l (plc l r n) l l.length i) (allC l r n d i) := by
  intro d
  have hl30 := h.1.2
  induction d with
  | zero =>
    intro i hd
    refine ev_some _ fun k => ?_
    rw [wire_Clash.l0, if_neg (by omega)]
    rfl
  | succ d ih =>
    intro i hd
    have hi : i < l.length := by omega
    obtain ⟨t, e, ht⟩ := index_loop (l := l) (by omega) (fn := fun z0 z1 z2 => wire_Clash_1.f z0 z1 z2 (wn l i).f0 (wn l i).f1 (wn l i).f2) (p := fun j => (wn l i).f1 > (wn l j).f2) (fun j hj => by unfold wire_Clash_1.f; rfl) l.length 0 (by omega) (by omega) (by omega)
    refine Ev.step (f := fun f => (api_Window.f f l (fun z0 z1 z2 => wire_Clash_1.f z0 z1 z2 (wn l i).f0 (wn l i).f1 (wn l i).f2)).bind fun t => wire_Clash.l1 f l (plc l r n) i t l l.length i (wn l i).f0 (wn l i).f1 (wn l i).f2) (fun f => ?_) (Ev.bind e ?_)
    · rw [wire_Clash.l0, if_pos (by omega), if_pos (by omega), if_pos (by omega)]
    · have weak : ∀ {j}, j < l.length → clk l r n i j → (wn l i).f1 > (wn l j).f2 := fun {j} hj c => by
        have := dst_bd h hs hi hj
        unfold clk at c
        omega
      rw [allC]
      rcases ht with ⟨rfl, ht⟩ | ⟨k, rfl, hk, _, ht⟩
      · have : rowC l r n i l.length 0 = none := rowC_none.2 fun j _ hj c => ht j (by omega) (weak (by omega) c)
        rw [this]
        refine Ev.step (fun f => ?_) (Ev.step (g := fun f => wire_Clash.j2 f l (plc l r n) i (-1) l l.length i false (wn l i).f0 (wn l i).f1 (wn l i).f2) (fun f => ?_) (ih (i + 1) (by omega)))
        · rw [wire_Clash.l1, if_neg (by omega)]
        · rw [wire_Clash.j2, if_neg (by decide), wsucc i (by omega)]
      · have e := wire_clash_inner h hs hi (ih (i + 1) (by omega)) (l.length - k) k (by omega)
        have s := rowC_skip (l := l) (r := r) (n := n) (i := i) (s := k) (d := l.length - k) (k := 0) (fun j _ hj c => ht j (by omega) (weak (by omega) c))
        rw [show k + (l.length - k) = l.length by omega, Nat.zero_add] at s
        rw [s]
        exact e
theorem wire_Clash_ev (l : List S72) (hl : l.length ≤ 9223372036854775807) (r n : Int) : Ev (fun f => wire_Clash.f f l r n) (clashR l r n) := by
  refine Ev.bind (wire_asked_ev l hl r n) ?_
  unfold clashR
  by_cases c : askE l r n = 0
  · obtain ⟨h, hs⟩ := askE_zero c
    simp only [if_pos c]
    exact wire_clash_loop h hs l.length 0 (by omega)
  · simp only [if_neg c]
    exact Ev.now _
/-- What Clashes tells. -/
noncomputable def clashesR (l : List S72) (r n i k : Int) : Bool × Int := if askE l r n = 0 then (if (0 ≤ i ∧ i < l.length) ∧ 0 ≤ k ∧ k < l.length then (decide (clk l r n i.toNat k.toNat), 0) else (false, 2)) else (false, askE l r n)
theorem wire_Clashes_ev (l : List S72) (hl : l.length ≤ 9223372036854775807) (r n i k : Int) : Ev (fun f => wire_Clashes.f f l r n i k) (clashesR l r n i k) := by
  refine Ev.bind (wire_asked_ev l hl r n) ?_
  unfold clashesR
  by_cases c : askE l r n = 0
  · obtain ⟨h, hs⟩ := askE_zero c
    have hl1 := h.1
    simp only [if_pos c, if_true, within_some, Option.bind_some]
    rw [w64 (n := (l.length : Int) - 1) (by omega) (by omega)]
    by_cases c1 : 0 ≤ i ∧ i < l.length
    · rw [decide_eq_true (show 0 ≤ i ∧ i ≤ (l.length : Int) - 1 by omega)]
      by_cases c2 : 0 ≤ k ∧ k < l.length
      · rw [decide_eq_true (show 0 ≤ k ∧ k ≤ (l.length : Int) - 1 by omega), if_pos (show (0 ≤ i ∧ i < (l.length : Int)) ∧ 0 ≤ k ∧ k < (l.length : Int) from ⟨c1, c2⟩)]
        obtain ⟨a, rfl⟩ := Int.eq_ofNat_of_zero_le c1.1
        obtain ⟨b, rfl⟩ := Int.eq_ofNat_of_zero_le c2.1
        refine Ev.congr (fun f => ?_) (Ev.now _)
        simp only [if_true]
        rw [if_pos c1.1, if_pos c1.2, if_pos c2.1, if_pos c2.2, to_some h hs (by omega) (by omega)]
        simp only [Option.bind_some, Int.toNat_natCast]
        rw [clk_wrap h hs (by omega) (by omega)]
      · rw [decide_eq_false (show ¬ (0 ≤ k ∧ k ≤ (l.length : Int) - 1) by omega), if_neg (show ¬ ((0 ≤ i ∧ i < (l.length : Int)) ∧ 0 ≤ k ∧ k < (l.length : Int)) from fun z => c2 z.2)]
        exact Ev.now _
    · rw [decide_eq_false (show ¬ (0 ≤ i ∧ i ≤ (l.length : Int) - 1) by omega), if_neg (show ¬ ((0 ≤ i ∧ i < (l.length : Int)) ∧ 0 ≤ k ∧ k < (l.length : Int)) from fun z => c1 z.1)]
      exact Ev.now _
  · simp only [if_neg c]
    exact Ev.now _
/-- The lowest wire. -/
def lowL (l : List S72) (r n : Int) : List Int := gL (fun i => (wn l i).f1) l r n
theorem lo_bd {l : List S72} (h : okV l) : ∀ k, k < l.length → -10000 ≤ (fun i => (wn l i).f1) k ∧ (fun i => (wn l i).f1) k ≤ 10000 := fun k hk => by have := h.rng hk; dsimp only; omega
theorem undr_iff {l : List S72} {r n : Int} (b : Nat → Int) : undr l (gL b l r n) ↔ ∀ i, i < l.length → b i ≤ (wn l i).f2 ∧ ∀ k, k < l.length → b k ≤ (wn l i).f2 + dst l r n k i := by
  unfold undr
  constructor
  · intro h i hi
    have a := h i hi
    rw [rd_gL b l r n hi] at a
    obtain ⟨g1, g2, _⟩ := gM_char b l r n i l.length
    refine ⟨by omega, fun k hk => ?_⟩
    have := g1 k hk
    rw [dst_comm] at this
    omega
  · intro h i hi
    rw [rd_gL b l r n hi]
    obtain ⟨_, _, g3⟩ := gM_char b l r n i l.length
    obtain ⟨h1, h2⟩ := h i hi
    rcases g3 with g | ⟨k, hk, g⟩
    · omega
    · have := h2 k hk
      rw [dst_comm] at this
      omega
theorem undr_noC {l : List S72} (h : okV l) {r n : Int} : undr l (lowL l r n) ↔ noC l r n := by
  unfold lowL
  rw [undr_iff]
  unfold noC clk
  constructor
  · intro z i hi k hk c
    have := (z k hk).2 i hi
    omega
  · intro z i hi
    refine ⟨by have := h.rng hi; omega, fun k hk => ?_⟩
    have := z k hk i hi
    omega
open Classical in
/-- What Lowest tells. -/
noncomputable def lowR (l : List S72) (r n : Int) : List Int × Int := if askE l r n = 0 then (if noC l r n then (lowL l r n, 0) else ([], 5)) else ([], askE l r n)
open Classical in
theorem wire_Lowest_ev (l : List S72) (hl : l.length ≤ 9223372036854775807) (r n : Int) : Ev (fun f => wire_Lowest.f f l r n) (lowR l r n) := by
  refine Ev.bind (wire_asked_ev l hl r n) ?_
  unfold lowR
  by_cases c : askE l r n = 0
  · obtain ⟨h, hs⟩ := askE_zero c
    have hl1 := h.1
    simp only [if_pos c]
    refine Ev.bind (lows_ev (l := l) (by omega)) ?_
    refine Ev.bind (lowest_ev' h hs (lo_bd h) (loL_len l) (fun j hj => rd_loL l hj)) ?_
    refine Ev.bind (under_ev (l := l) (by omega) (gL_len _ l r n)) ?_
    by_cases q : noC l r n
    · rw [decide_eq_true (show undr l (gL _ l r n) from (undr_noC h).2 q), if_pos q]
      exact Ev.now _
    · rw [decide_eq_false (show ¬ undr l (gL _ l r n) from fun z => q ((undr_noC h).1 z)), if_neg q]
      exact Ev.now _
  · simp only [if_neg c]
    exact Ev.now _
theorem lowR_len (l : List S72) (r n : Int) : (lowR l r n).1.length ≤ 30 ∧ ((lowR l r n).2 = 0 → (lowR l r n).1.length = l.length ∧ (lowR l r n).1 = lowL l r n ∧ okV l ∧ slope r n ∧ noC l r n) ∧ ((lowR l r n).2 ≠ 0 → (lowR l r n).1 = []) := by
  unfold lowR
  by_cases c : askE l r n = 0
  · obtain ⟨h, hs⟩ := askE_zero c
    rw [if_pos c]
    by_cases q : noC l r n
    · rw [if_pos q]
      refine ⟨?_, fun _ => ⟨gL_len _ l r n, rfl, h, hs, q⟩, fun z => absurd rfl z⟩
      show (gL _ l r n).length ≤ 30
      rw [gL_len]; exact h.1.2
    · rw [if_neg q]
      exact ⟨by simp, fun z => by simp at z, fun _ => rfl⟩
  · rw [if_neg c]
    exact ⟨by simp, fun z => absurd z c, fun _ => rfl⟩
/-- Each number of the windows is one of 64 bits. -/
def wf64 (l : List S72) : Prop := ∀ x ∈ l, (Lit.int .i64 x.f0).wf = true ∧ (Lit.int .i64 x.f1).wf = true ∧ (Lit.int .i64 x.f2).wf = true
theorem i64_of {x : Int} (h : (Lit.int .i64 x).wf = true) : -9223372036854775808 ≤ x ∧ x ≤ 9223372036854775807 := by
  simp only [Lit.wf, Bool.and_eq_true, decide_eq_true_eq] at h
  exact h
theorem wn_mem {l : List S72} {i : Nat} (h : i < l.length) : wn l i ∈ l := by
  have : wn l i = l[i] := by simp [wn, rd_T72, List.getD_eq_getElem?_getD, h]
  rw [this]; exact List.getElem_mem h
theorem drop_wn (l : List S72) (i : Nat) (h : i < l.length) : l.drop i = wn l i :: l.drop (i + 1) := by
  have : wn l i = l[i] := by simp [wn, rd_T72, List.getD_eq_getElem?_getD, h]
  rw [this]; exact List.drop_eq_getElem_cons h
/-- A window upside down. -/
def flip (x : S72) : S72 := ⟨x.f0, wrap64 (-x.f2), wrap64 (-x.f1)⟩
theorem wn_flip {l : List S72} {i : Nat} (h : i < l.length) : wn (l.map flip) i = flip (wn l i) := by
  simp [wn, rd_T72, List.getD_eq_getElem?_getD, h]
theorem good_flip {l : List S72} (hw : wf64 l) {i : Nat} (hi : i < l.length) : good (l.map flip) i ↔ good l i := by
  unfold good
  rw [wn_flip hi]
  obtain ⟨_, w1, w2⟩ := hw _ (wn_mem hi)
  have b1 := i64_of w1
  have b2 := i64_of w2
  have e : (wn (l.map flip) (i - 1)).f0 = (wn l (i - 1)).f0 := by rw [wn_flip (by omega)]; rfl
  rw [e]
  have key : (-10000 ≤ wrap64 (-(wn l i).f2) ∧ wrap64 (-(wn l i).f2) ≤ wrap64 (-(wn l i).f1) ∧ wrap64 (-(wn l i).f1) ≤ 10000) ↔ (-10000 ≤ (wn l i).f1 ∧ (wn l i).f1 ≤ (wn l i).f2 ∧ (wn l i).f2 ≤ 10000) := by
    generalize (wn l i).f1 = a at *
    generalize (wn l i).f2 = b at *
    unfold wrap64
    omega
  unfold flip
  dsimp only
  rw [key]
theorem okV_flip {l : List S72} (hw : wf64 l) : okV (l.map flip) ↔ okV l := by
  unfold okV
  rw [List.length_map]
  exact ⟨fun h => ⟨h.1, fun i hi => (good_flip hw hi).1 (h.2 i hi)⟩, fun h => ⟨h.1, fun i hi => (good_flip hw hi).2 (h.2 i hi)⟩⟩
theorem askE_flip {l : List S72} (hw : wf64 l) (r n : Int) : askE (l.map flip) r n = askE l r n := by
  unfold askE
  by_cases c : okV l
  · rw [if_pos c, if_pos ((okV_flip hw).2 c)]
  · rw [if_neg c, if_neg (fun z => c ((okV_flip hw).1 z))]
theorem over_loop {l : List S72} (hl : l.length ≤ 50) : ∀ (d i : Nat) (x : List S72), l.length - i = d → i ≤ l.length → x.length ≤ i → Ev (fun f => wire_over.l0 f x l l.length i) (x ++ (l.drop i).map flip) := by
  intro d
  induction d with
  | zero =>
    intro i x hd hi hx
    obtain rfl : i = l.length := by omega
    refine ev_some _ fun k => ?_
    rw [wire_over.l0, if_neg (by omega), List.drop_length]
    simp
  | succ d ih =>
    intro i x hd hi hx
    have e := ih (i + 1) (x ++ [flip (wn l i)]) (by omega) (by omega) (by rw [List.length_append]; simp; omega)
    rw [drop_wn l i (by omega), List.map_cons]
    rw [List.append_assoc] at e
    refine Ev.step (fun k => ?_) e
    rw [wire_over.l0, if_pos (by omega), if_pos (by omega), if_pos (by omega), if_pos (by omega), wsucc i (by omega)]
    rfl
theorem over_ev {l : List S72} (hl : l.length ≤ 50) : Ev (fun f => wire_over.f f l) (l.map flip) := over_loop hl l.length 0 [] (by omega) (by omega) (by simp)
/-- A list of numbers, each with the other sign. -/
def negL (x : List Int) : List Int := (List.range x.length).map fun i : Nat => -(rd x (i : Int))
theorem negL_len (x : List Int) : (negL x).length = x.length := by simp [negL]
theorem rd_negL {x : List Int} {i : Nat} (h : i < x.length) : rd (negL x) (i : Int) = -(rd x (i : Int)) := rd_map _ h
/-- Small numbers. -/
def sml (x : List Int) : Prop := x.length ≤ 30 ∧ ∀ i, i < x.length → -10000 ≤ rd x (i : Int) ∧ rd x (i : Int) ≤ 10000
theorem neg_loop {x0 : List Int} (hx0 : sml x0) (e : Int) : ∀ (d i : Nat) (x : List Int), x0.length - i = d → i ≤ x0.length → x.length = x0.length → (∀ j, j < i → rd x (j : Int) = -(rd x0 (j : Int))) → (∀ j, i ≤ j → j < x0.length → rd x (j : Int) = rd x0 (j : Int)) → Ev (fun f => wire_Highest.l0 f x e x0.length i) (negL x0, e) ∧ Ev (fun f => dropperref02_Highest.l0 f x e i) (negL x0, e) := by
  intro d
  have h30 := hx0.1
  induction d with
  | zero =>
    intro i x hd hi hx h1 h2
    obtain rfl : i = x0.length := by omega
    constructor
    · refine ev_some _ fun k => ?_
      rw [wire_Highest.l0, if_neg (by omega)]
      exact congrArg (fun z => some (z, e)) (rd_ext hx h1)
    · refine ev_some _ fun k => ?_
      rw [dropperref02_Highest.l0, if_neg (by omega)]
      exact congrArg (fun z => some (z, e)) (rd_ext hx h1)
  | succ d ih =>
    intro i x hd hi hx h1 h2
    have b := hx0.2 i (by omega)
    have hw : wrap64 (-(rd x (i : Int))) = -(rd x0 (i : Int)) := by rw [h2 i (by omega) (by omega), w64 (by omega) (by omega)]
    obtain ⟨e1, e2⟩ := ih (i + 1) (x.set i (-(rd x0 (i : Int)))) (by omega) (by omega) (by rw [List.length_set]; exact hx) (fun j hj => by
      rw [rd_set x _ (by omega) (by omega)]
      by_cases q : j = i
      · rw [if_pos q, q]
      · rw [if_neg q]; exact h1 j (by omega)) (fun j hj hj2 => by
      rw [rd_set x _ (by omega) (by omega), if_neg (by omega)]
      exact h2 j (by omega) hj2)
    constructor
    · refine Ev.step (fun k => ?_) e1
      rw [wire_Highest.l0, if_pos (by omega), if_pos (by omega), if_pos (by omega), hw, wsucc i (by omega)]
      rfl
    · refine Ev.step (fun k => ?_) e2
      rw [dropperref02_Highest.l0, if_pos (by omega), if_pos (by omega), hw, wsucc i (by omega)]
      rfl
theorem low_sml (l : List S72) (r n : Int) : sml (lowR l r n).1 := by
  obtain ⟨h1, h2, h3⟩ := lowR_len l r n
  refine ⟨h1, fun i hi => ?_⟩
  by_cases c : (lowR l r n).2 = 0
  · obtain ⟨a, b, h, hs, _⟩ := h2 c
    rw [b]
    rw [a] at hi
    unfold lowL
    rw [rd_gL _ l r n hi]
    exact gM_bd h hs (lo_bd h) hi
  · rw [h3 c] at hi
    simp at hi
/-- What Highest tells. -/
noncomputable def highR (l : List S72) (r n : Int) : List Int × Int := (negL (lowR (l.map flip) r n).1, (lowR (l.map flip) r n).2)
theorem wire_Highest_ev {l : List S72} (hl : l.length ≤ 50) (r n : Int) : Ev (fun f => wire_Highest.f f l r n) (highR l r n) := by
  refine Ev.bind (over_ev hl) ?_
  refine Ev.bind (wire_Lowest_ev (l.map flip) (by rw [List.length_map]; omega) r n) ?_
  exact (neg_loop (low_sml _ r n) _ _ 0 _ (Nat.sub_zero _) (by omega) rfl (by omega) (fun j _ _ => rfl)).1
theorem noC_flip {l : List S72} (h : okV l) (hw : wf64 l) (r n : Int) : noC (l.map flip) r n ↔ noC l r n := by
  have hp : ∀ i, i < l.length → pre (l.map flip) r n i = pre l r n i := by
    intro i
    induction i with
    | zero => intro _; rfl
    | succ i ih =>
      intro hi
      rw [pre, pre, ih (by omega)]
      unfold stp
      rw [wn_flip hi, wn_flip (by omega)]
      rfl
  have hd : ∀ i k, i < l.length → k < l.length → dst (l.map flip) r n i k = dst l r n i k := fun i k hi hk => by unfold dst; rw [hp i hi, hp k hk]
  have hc : ∀ i k, i < l.length → k < l.length → (clk (l.map flip) r n i k ↔ clk l r n k i) := by
    intro i k hi hk
    unfold clk
    rw [wn_flip hi, wn_flip hk, hd i k hi hk, dst_comm]
    have a := h.rng hi
    have b := h.rng hk
    unfold flip
    dsimp only
    rw [w64 (n := -(wn l i).f2) (by omega) (by omega), w64 (n := -(wn l k).f1) (by omega) (by omega)]
    omega
  unfold noC
  rw [List.length_map]
  exact ⟨fun z i hi k hk c => z k hk i hi ((hc k i hk hi).2 c), fun z i hi k hk c => z k hk i hi ((hc i k hi hk).1 c)⟩
/-- The windows, the one at i with one height alone. -/
def oneW (l : List S72) (i : Nat) (x : Int) : List S72 := l.set i ⟨(wn l i).f0, x, x⟩
theorem oneW_len (l : List S72) (i : Nat) (x : Int) : (oneW l i x).length = l.length := by simp [oneW]
theorem wn_one {l : List S72} {i : Nat} (x : Int) {j : Nat} (hi : i < l.length) (hj : j < l.length) : wn (oneW l i x) j = if j = i then ⟨(wn l i).f0, x, x⟩ else wn l j := by
  unfold oneW wn rd_T72
  simp only [List.getD_eq_getElem?_getD, Int.toNat_natCast, List.getElem?_set]
  by_cases e : i = j
  · subst e; simp [hi]
  · rw [if_neg e, if_neg (fun h => e h.symm)]
theorem one_f0 {l : List S72} {i : Nat} (x : Int) {j : Nat} (hi : i < l.length) (hj : j < l.length) : (wn (oneW l i x) j).f0 = (wn l j).f0 := by
  rw [wn_one x hi hj]
  by_cases e : j = i
  · rw [if_pos e, e]
  · rw [if_neg e]
theorem okV_one {l : List S72} (h : okV l) {i : Nat} (hi : i < l.length) {x : Int} (h1 : (wn l i).f1 ≤ x) (h2 : x ≤ (wn l i).f2) : okV (oneW l i x) := by
  unfold okV
  rw [oneW_len]
  refine ⟨h.1, fun j hj => ?_⟩
  obtain ⟨g1, g2, g3⟩ := h.2 j hj
  unfold good
  rw [one_f0 x hi hj, one_f0 x hi (by omega)]
  refine ⟨g1, g2, ?_⟩
  rw [wn_one x hi hj]
  by_cases e : j = i
  · subst e
    rw [if_pos rfl]
    dsimp only
    omega
  · rw [if_neg e]; exact g3
theorem dst_one {l : List S72} {i : Nat} (hi : i < l.length) (x r n : Int) {a b : Nat} (ha : a < l.length) (hb : b < l.length) : dst (oneW l i x) r n a b = dst l r n a b := by
  have hp : ∀ j, j < l.length → pre (oneW l i x) r n j = pre l r n j := by
    intro j
    induction j with
    | zero => intro _; rfl
    | succ j ih =>
      intro hj
      rw [pre, pre, ih (by omega)]
      unfold stp
      rw [one_f0 x hi hj, one_f0 x hi (by omega)]
  unfold dst
  rw [hp a ha, hp b hb]
/-- The bounds: the lows, and a height at one window. -/
def bnd (l : List S72) (i : Nat) (x : Int) (j : Nat) : Int := if j = i then x else (wn l j).f1
theorem bnd_one {l : List S72} {i : Nat} (x : Int) {j : Nat} (hi : i < l.length) (hj : j < l.length) : (wn (oneW l i x) j).f1 = bnd l i x j := by
  rw [wn_one x hi hj]
  unfold bnd
  by_cases e : j = i
  · rw [if_pos e, if_pos e]
  · rw [if_neg e, if_neg e]
theorem gM_one {l : List S72} {i : Nat} (hi : i < l.length) (x r n : Int) {j : Nat} (hj : j < l.length) : ∀ m, m ≤ l.length → gM (fun k => (wn (oneW l i x) k).f1) (oneW l i x) r n j m = gM (bnd l i x) l r n j m
  | 0, _ => by
    rw [gM, gM]
    exact bnd_one x hi hj
  | m + 1, hm => by
    rw [gM, gM, gM_one hi x r n hj m (by omega), dst_one hi x r n hj (by omega), bnd_one x hi (by omega)]
theorem low_one {l : List S72} {i : Nat} (hi : i < l.length) (x r n : Int) : lowL (oneW l i x) r n = gL (bnd l i x) l r n := by
  unfold lowL gL
  rw [oneW_len]
  refine List.map_congr_left fun j hj => ?_
  have hj' : j < l.length := by simpa using hj
  exact gM_one hi x r n hj' _ (Nat.le_refl _)
theorem noC_one {l : List S72} (h : okV l) {r n : Int} {i : Nat} (hi : i < l.length) {x : Int} (h1 : (wn l i).f1 ≤ x) (h2 : x ≤ (wn l i).f2) : noC (oneW l i x) r n ↔ (gM (bnd l i x) l r n i l.length = x ∧ undr l (gL (bnd l i x) l r n)) := by
  rw [undr_iff]
  have hb : ∀ j, bnd l i x j = if j = i then x else (wn l j).f1 := fun j => rfl
  obtain ⟨g1, g2, g3⟩ := gM_char (bnd l i x) l r n i l.length
  have e0 : bnd l i x i = x := by rw [hb, if_pos rfl]
  have clkI : ∀ a b, a < l.length → b < l.length → (clk (oneW l i x) r n a b ↔ bnd l i x a > (if b = i then x else (wn l b).f2) + dst l r n a b) := by
    intro a b ha hb'
    unfold clk
    rw [bnd_one x hi ha, dst_one hi x r n ha hb', wn_one x hi hb']
    by_cases e : b = i
    · rw [if_pos e, if_pos e]
    · rw [if_neg e, if_neg e]
  unfold noC
  rw [oneW_len]
  constructor
  · intro z
    have zi : ∀ a, a < l.length → bnd l i x a ≤ x + dst l r n a i := fun a ha => by
      have := mt (clkI a i ha hi).2 (z a ha i hi)
      rw [if_pos rfl] at this
      omega
    refine ⟨?_, fun j hj => ⟨?_, fun a ha => ?_⟩⟩
    · rcases g3 with g | ⟨k, hk, g⟩
      · omega
      · have := zi k hk
        rw [dst_comm] at this
        omega
    · rw [hb]
      by_cases e : j = i
      · rw [if_pos e, e]; exact h2
      · rw [if_neg e]
        have := h.rng hj
        omega
    · by_cases e : j = i
      · have := zi a ha
        rw [e]
        omega
      · have := mt (clkI a j ha hj).2 (z a ha j hj)
        rw [if_neg e] at this
        omega
  · rintro ⟨z1, z2⟩ a ha b hb' c
    have c' := (clkI a b ha hb').1 c
    by_cases e : b = i
    · subst e
      rw [if_pos rfl] at c'
      have := g1 a ha
      rw [dst_comm] at this
      omega
    · rw [if_neg e] at c'
      have := (z2 b hb').2 a ha
      omega
open Classical in
/-- What Through tells. -/
noncomputable def thrR (l : List S72) (r n i x : Int) : List Int × Int :=
  if askE l r n = 0 then (if 0 ≤ i ∧ i < l.length then (if (wn l i.toNat).f1 ≤ x ∧ x ≤ (wn l i.toNat).f2 then lowR (oneW l i.toNat x) r n else ([], 5)) else ([], 2)) else ([], askE l r n)
theorem bnd_bd {l : List S72} (h : okV l) {i : Nat} (hi : i < l.length) {x : Int} (h1 : (wn l i).f1 ≤ x) (h2 : x ≤ (wn l i).f2) : ∀ k, k < l.length → -10000 ≤ bnd l i x k ∧ bnd l i x k ≤ 10000 := fun k hk => by
  unfold bnd
  have a := h.rng hk
  have b := h.rng hi
  by_cases e : k = i
  · rw [if_pos e]; omega
  · rw [if_neg e]; omega
open Classical in
theorem wire_Through_ev (l : List S72) (hl : l.length ≤ 9223372036854775807) (r n i x : Int) : Ev (fun f => wire_Through.f f l r n i x) (thrR l r n i x) := by
  refine Ev.bind (wire_asked_ev l hl r n) ?_
  unfold thrR
  by_cases c : askE l r n = 0
  · obtain ⟨h, hs⟩ := askE_zero c
    have hl1 := h.1
    simp only [if_pos c, within_some, Option.bind_some]
    rw [w64 (n := (l.length : Int) - 1) (by omega) (by omega)]
    by_cases c1 : 0 ≤ i ∧ i < l.length
    · rw [decide_eq_true (show 0 ≤ i ∧ i ≤ (l.length : Int) - 1 by omega), if_pos (show 0 ≤ i ∧ i < (l.length : Int) from c1)]
      obtain ⟨a, rfl⟩ := Int.eq_ofNat_of_zero_le c1.1
      have ha : a < l.length := by omega
      simp only [if_true, if_pos c1.1, if_pos c1.2, Int.toNat_natCast]
      by_cases c2 : (wn l a).f1 ≤ x ∧ x ≤ (wn l a).f2
      · rw [decide_eq_true c2, if_pos (show (wn l a).f1 ≤ x ∧ x ≤ (wn l a).f2 from c2)]
        simp only [if_true]
        refine Ev.bind (lows_ev (l := l) (by omega)) ?_
        simp only [loL_len, if_pos c1.2]
        have hb := bnd_bd h ha c2.1 c2.2
        refine Ev.bind (lowest_ev' h hs hb (x := (loL l).set a x) (by rw [List.length_set, loL_len]) (fun j hj => ?_)) ?_
        · rw [rd_set _ _ (by rw [loL_len]; omega) (by rw [loL_len]; omega), rd_loL l hj]
          rfl
        · simp only [gL_len, if_pos c1.2, rd_gL _ l r n ha]
          have key := noC_one (r := r) (n := n) h ha c2.1 c2.2
          have hask : askE (oneW l a x) r n = 0 := askE_ok (okV_one h ha c2.1 c2.2) hs
          unfold lowR
          rw [if_pos hask]
          by_cases q : gM (bnd l a x) l r n a l.length = x
          · simp only [if_pos q]
            refine Ev.bind (under_ev (l := l) (by omega) (gL_len _ l r n)) ?_
            by_cases u : undr l (gL (bnd l a x) l r n)
            · rw [if_pos (key.2 ⟨q, u⟩), decide_eq_true u, low_one ha]
              exact Ev.now _
            · rw [if_neg (fun z => u (key.1 z).2), decide_eq_false u]
              exact Ev.now _
          · simp only [if_neg q]
            rw [if_neg (fun z => q (key.1 z).1)]
            exact Ev.now _
      · rw [decide_eq_false c2, if_neg (show ¬ ((wn l a).f1 ≤ x ∧ x ≤ (wn l a).f2) from c2)]
        exact Ev.now _
    · rw [decide_eq_false (show ¬ (0 ≤ i ∧ i ≤ (l.length : Int) - 1) by omega), if_neg (show ¬ (0 ≤ i ∧ i < (l.length : Int)) from c1)]
      exact Ev.now _
  · simp only [if_neg c]
    exact Ev.now _
/-- Numbers that can be asked as heights. -/
def hts (l : List Int) : Prop := ∀ j, j < l.length → -1000000 ≤ rd l (j : Int) ∧ rd l (j : Int) ≤ 1000000
theorem index_int_loop {l : List Int} (hl : l.length ≤ 9223372036854775807) {fn : Int → Option Bool} {p : Nat → Prop} [DecidablePred p] (hp : ∀ j, j < l.length → fn (rd l (j : Int)) = some (decide (p j))) : ∀ (d i : Nat), l.length - i = d → i ≤ l.length → (∀ j, j < i → ¬ p j) →
    ∃ t : Int, Ev (fun f => slices_IndexFunc_int_int.l0 f l fn l.length i) t ∧ ((t = -1 ∧ ∀ j, j < l.length → ¬ p j) ∨ ∃ k : Nat, t = k ∧ k < l.length ∧ p k ∧ ∀ j, j < k → ¬ p j) := by
  intro d
  induction d with
  | zero =>
    intro i hd hi h1
    obtain rfl : i = l.length := by omega
    refine ⟨-1, ev_some _ fun k => ?_, .inl ⟨rfl, h1⟩⟩
    rw [slices_IndexFunc_int_int.l0, if_neg (by omega)]
  | succ d ih =>
    intro i hd hi h1
    by_cases c : p i
    · refine ⟨i, ev_some _ fun k => ?_, .inr ⟨i, rfl, by omega, c, h1⟩⟩
      rw [slices_IndexFunc_int_int.l0, if_pos (by omega), if_pos (by omega), if_pos (by omega), hp i (by omega), decide_eq_true c]
      rfl
    · obtain ⟨t, e, ht⟩ := ih (i + 1) (by omega) (by omega) (fun j hj => if q : j = i then q ▸ c else h1 j (by omega))
      refine ⟨t, Ev.step (fun k => ?_) e, ht⟩
      rw [slices_IndexFunc_int_int.l0, if_pos (by omega), if_pos (by omega), if_pos (by omega), hp i (by omega), decide_eq_false c, wsucc i (by omega)]
      rfl
open Classical in
theorem are_ev (l : List Int) (hl : l.length ≤ 9223372036854775807) : Ev (fun f => wire_are.f f l) (decide (hts l)) := by
  obtain ⟨t, e, ht⟩ := index_int_loop hl (fn := wire_are_1.f) (p := fun j => ¬ (-1000000 ≤ rd l (j : Int) ∧ rd l (j : Int) ≤ 1000000)) (fun j hj => by
    unfold wire_are_1.f wire_isHeight.f
    rw [within_some]
    simp only [Option.bind_some]
    by_cases c : -1000000 ≤ rd l (j : Int) ∧ rd l (j : Int) ≤ 1000000 <;> simp [c]) l.length 0 (by omega) (by omega) (by omega)
  have e2 : Ev (fun f => slices_ContainsFunc_int_int.f f l wire_are_1.f) (decide (t ≥ 0)) := Ev.bind e (Ev.now _)
  have e3 : Ev (fun f => wire_are.f f l) (!(decide (t ≥ 0))) := Ev.bind e2 (Ev.now _)
  rcases ht with ⟨rfl, h⟩ | ⟨k, rfl, hk, h1, h2⟩
  · rw [decide_eq_true (show hts l from fun j hj => Decidable.not_not.1 (h j hj))]
    exact e3
  · rw [decide_eq_false (show ¬ hts l from fun z => h1 (z k hk))]
    rw [decide_eq_true (show ((k : Nat) : Int) ≥ 0 by omega)] at e3
    exact e3
/-- What is made of two heights, one by one. -/
def zipF (g : Int → Int → Int) (a b : List Int) : List Int := (List.range a.length).map fun i : Nat => g (rd a (i : Int)) (rd b (i : Int))
theorem rd_snoc {x : List Int} {i j : Nat} {v : Int} (hx : x.length = i) (hj : j < i + 1) : rd (x ++ [v]) (j : Int) = if j = i then v else rd x (j : Int) := by
  by_cases q : j = i
  · subst q
    rw [if_pos rfl]
    simp [rd, List.getD_eq_getElem?_getD, ← hx]
  · rw [if_neg q]
    simp only [rd, List.getD_eq_getElem?_getD, Int.toNat_natCast]
    rw [List.getElem?_append_left (by omega)]
theorem snoc_inv {x : List Int} {i : Nat} {v : Int} {f : Nat → Int} (hx : x.length = i) (h1 : ∀ j, j < i → rd x (j : Int) = f j) (hv : v = f i) : (x ++ [v]).length = i + 1 ∧ ∀ j, j < i + 1 → rd (x ++ [v]) (j : Int) = f j := by
  refine ⟨by simp [hx], fun j hj => ?_⟩
  rw [rd_snoc hx hj]
  by_cases q : j = i
  · rw [if_pos q, q, hv]
  · rw [if_neg q, h1 j (by omega)]
theorem pair_loop {a b : List Int} (ha : a.length ≤ 50) (hab : a.length = b.length) {fn : Int → Int → Option Int} {g : Int → Int → Int} (hg : ∀ x y, fn x y = some (g x y)) : ∀ (d i : Nat) (x : List Int), a.length - i = d → i ≤ a.length → x.length = i → (∀ j, j < i → rd x (j : Int) = g (rd a (j : Int)) (rd b (j : Int))) → Ev (fun f => wire_pairwise.l0 f a b fn x a.length i) (zipF g a b, 0) := by
  intro d
  induction d with
  | zero =>
    intro i x hd hi hx h1
    obtain rfl : i = a.length := by omega
    refine ev_some _ fun k => ?_
    rw [wire_pairwise.l0, if_neg (by omega)]
    exact congrArg (fun z => some (z, (0 : Int))) (rd_ext hx h1)
  | succ d ih =>
    intro i x hd hi hx h1
    obtain ⟨e1, e2⟩ := snoc_inv (f := fun j => g (rd a (j : Int)) (rd b (j : Int))) hx h1 rfl
    refine Ev.step (fun k => ?_) (ih (i + 1) _ (by omega) (by omega) e1 e2)
    rw [wire_pairwise.l0, if_pos (by omega), if_pos (by omega), if_pos (by omega), if_pos (by omega), hg]
    simp only [Option.bind_some]
    rw [if_pos (by omega), wsucc i (by omega)]
open Classical in
/-- What Meet and Join tell. -/
noncomputable def pairR (g : Int → Int → Int) (a b : List Int) : List Int × Int := if a.length = b.length ∧ a.length ≤ 30 ∧ hts a ∧ hts b then (zipF g a b, 0) else ([], 2)
open Classical in
theorem pair_ev {a b : List Int} (ha : a.length ≤ 50) (hb : b.length ≤ 50) {fn : Int → Int → Option Int} {g : Int → Int → Int} (hg : ∀ x y, fn x y = some (g x y)) : Ev (fun f => wire_pairwise.f f a b fn) (pairR g a b) := by
  have no : ∀ {r : List Int × Int}, r = ([], 2) → Ev (fun f => wire_pairwise.j0 f a b fn true) r := by
    rintro _ rfl
    refine ev_some _ fun k => ?_
    rw [wire_pairwise.j0, if_pos rfl]
  unfold pairR
  by_cases c1 : (a.length : Int) = (b.length : Int)
  · by_cases c2 : (a.length : Int) > 30
    · refine Ev.congr (fun k => ?_) (no (if_neg (fun z => by omega)))
      unfold wire_pairwise.f
      rw [if_pos c1, if_pos c2]
    · refine Ev.congr (f := fun k => (wire_are.f k a).bind fun t101 => (if t101 = true then ((wire_are.f k b).bind fun t102 => (wire_pairwise.j0 k a b fn (!t102))) else (wire_pairwise.j0 k a b fn true))) (fun k => ?_) (Ev.bind (are_ev a (by omega)) ?_)
      · unfold wire_pairwise.f
        rw [if_pos c1, if_neg c2]
      · by_cases c3 : hts a
        · simp only [decide_eq_true c3, if_true]
          refine Ev.bind (are_ev b (by omega)) ?_
          by_cases c4 : hts b
          · rw [if_pos ⟨by omega, by omega, c3, c4⟩]
            simp only [decide_eq_true c4, Bool.not_true]
            refine Ev.step (fun k => ?_) (pair_loop ha (by omega) hg a.length 0 [] (by omega) (by omega) rfl (by omega))
            rw [wire_pairwise.j0, if_neg (by decide)]
            rfl
          · simp only [decide_eq_false c4, Bool.not_false]
            exact no (if_neg (fun z => c4 z.2.2.2))
        · simp only [decide_eq_false c3, if_false, Bool.false_eq_true]
          exact no (if_neg (fun z => c3 z.2.2.1))
  · refine Ev.congr (fun k => ?_) (no (if_neg (fun z => by omega)))
    unfold wire_pairwise.f
    rw [if_neg c1]
theorem wire_Meet_ev {a b : List Int} (ha : a.length ≤ 50) (hb : b.length ≤ 50) : Ev (fun f => wire_Meet.f f a b) (pairR mn a b) := Ev.bind (pair_ev ha hb (fun x y => by unfold wire_Meet_1.f; rfl)) (Ev.now _)
theorem wire_Join_ev {a b : List Int} (ha : a.length ≤ 50) (hb : b.length ≤ 50) : Ev (fun f => wire_Join.f f a b) (pairR mx a b) := Ev.bind (pair_ev ha hb (fun x y => by unfold wire_Join_1.f; rfl)) (Ev.now _)
/-- The height at i fits. -/
def fit1 (l : List S72) (r n : Int) (x : List Int) (i : Nat) : Prop := ((wn l i).f1 ≤ rd x (i : Int) ∧ rd x (i : Int) ≤ (wn l i).f2) ∧ (i = 0 ∨ (-(stp l r n (i - 1)) ≤ rd x (i : Int) - rd x ((i - 1 : Nat) : Int) ∧ rd x (i : Int) - rd x ((i - 1 : Nat) : Int) ≤ stp l r n (i - 1)))
/-- Heights are a wire. -/
def fitP (l : List S72) (r n : Int) (x : List Int) : Prop := ∀ i, i < l.length → fit1 l r n x i
open Classical in
theorem fits_loop {l : List S72} (h : okV l) {r n : Int} (hs : slope r n) {x : List Int} (hx : x.length = l.length) (hb : hts x) : ∀ (d i : Nat), l.length - i = d → i ≤ l.length → (∀ j, j < i → fit1 l r n x j) → Ev (fun f => wire_Fits.l0 f l x (plc l r n) x x.length i) (decide (fitP l r n x), 0) ∧ Ev (fun f => dropperref02_Fits.l0 f l r n x i) (decide (fitP l r n x), 0) := by
  intro d
  have hl1 := h.1
  induction d with
  | zero =>
    intro i hd hi h1
    obtain rfl : i = l.length := by omega
    rw [decide_eq_true (show fitP l r n x from h1)]
    constructor
    · refine ev_some _ fun k => ?_
      rw [wire_Fits.l0, if_neg (by omega)]
    · refine ev_some _ fun k => ?_
      rw [dropperref02_Fits.l0, if_neg (by omega)]
  | succ d ih =>
    intro i hd hi h1
    have hlt : i < l.length := by omega
    have b1 := hb i (by omega)
    by_cases c : (wn l i).f1 ≤ rd x (i : Int) ∧ rd x (i : Int) ≤ (wn l i).f2
    · cases i with
      | zero =>
        obtain ⟨e1, e2⟩ := ih 1 (by omega) (by omega) (fun j hj => by
          obtain rfl : j = 0 := by omega
          exact ⟨c, .inl rfl⟩)
        constructor
        · refine Ev.step (fun k => ?_) e1
          rw [wire_Fits.l0, if_pos (by omega), if_pos (by omega), if_pos (by omega), if_pos (by omega), within_some, decide_eq_true c]
          simp only [Option.bind_some, if_true]
          rw [if_neg (by omega), wsucc 0 (by omega)]
        · refine Ev.step (fun k => ?_) e2
          rw [dropperref02_Fits.l0, if_pos (by omega), if_pos (by omega), if_pos (by omega), from_some, decide_eq_true c]
          simp only [Option.bind_some, if_true]
          rw [if_neg (by omega), wsucc 0 (by omega)]
      | succ j =>
        have b2 := hb j (by omega)
        have b3 := stp_bd h hs hlt
        have e3 : dst l r n j (j + 1) = stp l r n j := by rw [dst_le h hs (by omega) (by omega), pre]; omega
        have e4 : dst l r n (j + 1) j = stp l r n j := by rw [dst_comm]; exact e3
        have hd' : wrap64 (rd x ((j + 1 : Nat) : Int) - rd x (j : Int)) = rd x ((j + 1 : Nat) : Int) - rd x (j : Int) := w64 (by omega) (by omega)
        have hd2 : wrap64 (rd x (j : Int) - rd x ((j + 1 : Nat) : Int)) = rd x (j : Int) - rd x ((j + 1 : Nat) : Int) := w64 (by omega) (by omega)
        have hd3 : wrap64 (-(stp l r n j)) = -(stp l r n j) := w64 (by omega) (by omega)
        have red1 : ∀ k, wire_Fits.l0 (k + 1) l x (plc l r n) x x.length ((j + 1 : Nat) : Int) = if decide (-(stp l r n j) ≤ rd x ((j + 1 : Nat) : Int) - rd x (j : Int) ∧ rd x ((j + 1 : Nat) : Int) - rd x (j : Int) ≤ stp l r n j) = true then wire_Fits.l0 k l x (plc l r n) x x.length ((j + 1 + 1 : Nat) : Int) else some (false, 0) := by
          intro k
          rw [wire_Fits.l0, if_pos (by omega), if_pos (by omega), if_pos (by omega), if_pos (by omega), within_some, decide_eq_true c]
          simp only [Option.bind_some, if_true]
          rw [if_pos (by omega), wpred j (by omega), to_some h hs hlt (by omega), e4]
          simp only [Option.bind_some]
          rw [if_pos (by omega), if_pos (by omega), hd3, hd', within_some, wsucc (j + 1) (by omega)]
          rfl
        have red2 : Ev (fun k => dropperref02_steps.f k l r n (j : Int) ((j + 1 : Nat) : Int)) (stp l r n j) := e3 ▸ steps_ev h hs (i := j) (k := j + 1) (by omega) hlt
        have red3 : ∀ k, dropperref02_Fits.l0 (k + 1) l r n x ((j + 1 : Nat) : Int) = (dropperref02_steps.f k l r n (j : Int) ((j + 1 : Nat) : Int)).bind fun t111 => if (mx (rd x ((j + 1 : Nat) : Int) - rd x (j : Int)) (rd x (j : Int) - rd x ((j + 1 : Nat) : Int))) > t111 then some (false, 0) else dropperref02_Fits.l0 k l r n x ((j + 1 + 1 : Nat) : Int) := by
          intro k
          rw [dropperref02_Fits.l0, if_pos (by omega), if_pos (by omega), if_pos (by omega), from_some, decide_eq_true c]
          simp only [Option.bind_some, if_true]
          rw [if_pos (by omega), wpred j (by omega), if_pos (by omega), if_pos (by omega), hd', hd2, wsucc (j + 1) (by omega)]
        by_cases q : -(stp l r n j) ≤ rd x ((j + 1 : Nat) : Int) - rd x (j : Int) ∧ rd x ((j + 1 : Nat) : Int) - rd x (j : Int) ≤ stp l r n j
        · obtain ⟨e1, e2⟩ := ih (j + 1 + 1) (by omega) (by omega) (fun m hm => if z : m = j + 1 then by subst z; exact ⟨c, .inr q⟩ else h1 m (by omega))
          constructor
          · refine Ev.step (fun k => ?_) e1
            rw [red1 k, decide_eq_true q, if_pos rfl]
          · refine Ev.step red3 (Ev.bind red2 ?_)
            have q5 : ¬ (max (rd x ((j + 1 : Nat) : Int) - rd x (j : Int)) (rd x (j : Int) - rd x ((j + 1 : Nat) : Int)) > stp l r n j) := by omega
            simp only [mx_eq, if_neg q5]
            exact e2
        · have nf : ¬ fitP l r n x := fun z => by
            rcases (z (j + 1) hlt).2 with y | y
            · omega
            · exact q y
          rw [decide_eq_false nf]
          constructor
          · refine ev_some _ fun k => ?_
            rw [red1 k, decide_eq_false q, if_neg (by decide)]
          · refine Ev.step red3 (Ev.bind red2 ?_)
            have q5 : max (rd x ((j + 1 : Nat) : Int) - rd x (j : Int)) (rd x (j : Int) - rd x ((j + 1 : Nat) : Int)) > stp l r n j := by omega
            simp only [mx_eq, if_pos q5]
            exact Ev.now _
    · have nf : ¬ fitP l r n x := fun z => c (z i hlt).1
      rw [decide_eq_false nf]
      constructor
      · refine ev_some _ fun k => ?_
        rw [wire_Fits.l0, if_pos (by omega), if_pos (by omega), if_pos (by omega), if_pos (by omega), within_some, decide_eq_false c]
        simp
      · refine ev_some _ fun k => ?_
        rw [dropperref02_Fits.l0, if_pos (by omega), if_pos (by omega), if_pos (by omega), from_some, decide_eq_false c]
        simp
open Classical in
/-- What Fits tells. -/
noncomputable def fitsR (l : List S72) (r n : Int) (x : List Int) : Bool × Int := if askE l r n = 0 then (if x.length = l.length ∧ hts x then (decide (fitP l r n x), 0) else (false, 2)) else (false, askE l r n)
open Classical in
theorem wire_Fits_ev (l : List S72) (hl : l.length ≤ 9223372036854775807) (r n : Int) (x : List Int) (hx : x.length ≤ 9223372036854775807) : Ev (fun f => wire_Fits.f f l r n x) (fitsR l r n x) := by
  refine Ev.bind (wire_asked_ev l hl r n) ?_
  unfold fitsR
  by_cases c : askE l r n = 0
  · obtain ⟨h, hs⟩ := askE_zero c
    simp only [if_pos c]
    by_cases c1 : (x.length : Int) = (l.length : Int)
    · simp only [if_pos c1]
      refine Ev.bind (are_ev x hx) ?_
      by_cases c2 : hts x
      · simp only [decide_eq_true c2, if_true]
        rw [if_pos (show x.length = l.length ∧ hts x from ⟨by omega, c2⟩)]
        exact (fits_loop h hs (by omega) c2 l.length 0 (by omega) (by omega) (by omega)).1
      · simp only [decide_eq_false c2, if_false, Bool.false_eq_true]
        rw [if_neg (show ¬ (x.length = l.length ∧ hts x) from fun z => c2 z.2)]
        exact Ev.now _
    · simp only [if_neg c1]
      rw [if_neg (show ¬ (x.length = l.length ∧ hts x) from fun z => c1 (by omega))]
      exact Ev.now _
  · simp only [if_neg c]
    exact Ev.now _
/-- A list is a wire. -/
def Wire (l : List S72) (r n : Int) (x : List Int) : Prop := x.length = l.length ∧ (∀ i, i < l.length → (wn l i).f1 ≤ rd x (i : Int) ∧ rd x (i : Int) ≤ (wn l i).f2) ∧ ∀ i k, i < l.length → k < l.length → rd x (i : Int) - rd x (k : Int) ≤ dst l r n i k
theorem stp_dst {l : List S72} (h : okV l) {r n : Int} (hs : slope r n) {i : Nat} (hi : i + 1 < l.length) : dst l r n (i + 1) i = stp l r n i ∧ dst l r n i (i + 1) = stp l r n i := by
  have b := (stp_bd h hs hi).1
  rw [dst_comm l r n (i + 1) i, dst_le h hs (by omega) hi, pre]
  omega
theorem fit_wire {l : List S72} (h : okV l) {r n : Int} (hs : slope r n) {x : List Int} : (x.length = l.length ∧ fitP l r n x) ↔ Wire l r n x := by
  constructor
  · rintro ⟨hl, hf⟩
    refine ⟨hl, fun i hi => (hf i hi).1, ?_⟩
    have up : ∀ (d i : Nat), i + d < l.length → rd x ((i + d : Nat) : Int) - rd x (i : Int) ≤ pre l r n (i + d) - pre l r n i ∧ rd x (i : Int) - rd x ((i + d : Nat) : Int) ≤ pre l r n (i + d) - pre l r n i := by
      intro d
      induction d with
      | zero => intro i hi; simp
      | succ d ih =>
        intro i hi
        have a := ih i (by omega)
        rcases (hf (i + (d + 1)) hi).2 with z | z
        · omega
        · rw [show i + (d + 1) - 1 = i + d by omega] at z
          rw [show i + (d + 1) = i + d + 1 by omega] at z ⊢
          rw [pre]
          omega
    intro i k hi hk
    unfold dst
    by_cases c : i ≤ k
    · obtain ⟨d, rfl⟩ : ∃ d, k = i + d := ⟨k - i, by omega⟩
      have := up d i hk
      omega
    · obtain ⟨d, rfl⟩ : ∃ d, i = k + d := ⟨i - k, by omega⟩
      have := up d k hi
      omega
  · rintro ⟨hl, hb, hd⟩
    refine ⟨hl, fun i hi => ⟨hb i hi, ?_⟩⟩
    cases i with
    | zero => exact Or.inl rfl
    | succ i =>
      right
      have a := hd (i + 1) i hi (by omega)
      have b := hd i (i + 1) (by omega) hi
      obtain ⟨e1, e2⟩ := stp_dst h hs hi
      rw [Nat.add_sub_cancel]
      omega
theorem wire_hts {l : List S72} (h : okV l) {r n : Int} {x : List Int} (hx : Wire l r n x) : hts x := by
  intro j hj
  have := hx.2.1 j (by have := hx.1; omega)
  have := h.rng (i := j) (by have := hx.1; omega)
  omega
theorem dst_tri (l : List S72) (r n : Int) (i j k : Nat) : dst l r n i k ≤ dst l r n i j + dst l r n j k := by unfold dst; omega
theorem gM_lip {b : Nat → Int} {l : List S72} {r n : Int} {i k : Nat} (hi : i < l.length) (hk : k < l.length) : gM b l r n i l.length - gM b l r n k l.length ≤ dst l r n i k := by
  obtain ⟨g1, g2, g3⟩ := gM_char b l r n i l.length
  obtain ⟨k1, k2, k3⟩ := gM_char b l r n k l.length
  rcases g3 with z | ⟨j, hj, z⟩
  · have := k1 i hi
    rw [dst_comm l r n k i] at this
    omega
  · have := k1 j hj
    have t := dst_tri l r n k i j
    rw [dst_comm l r n k i] at t
    omega
/-- The lowest wire there is from some bounds on. -/
theorem gL_wire {b : Nat → Int} {l : List S72} {r n : Int} (hb : ∀ i, i < l.length → (wn l i).f1 ≤ b i) (hu : undr l (gL b l r n)) : Wire l r n (gL b l r n) := by
  refine ⟨gL_len b l r n, fun i hi => ⟨?_, hu i hi⟩, fun i k hi hk => ?_⟩
  · rw [rd_gL b l r n hi]
    have := (gM_char b l r n i l.length).2.1
    have := hb i hi
    omega
  · rw [rd_gL b l r n hi, rd_gL b l r n hk]
    exact gM_lip hi hk
theorem gL_low {b : Nat → Int} {l : List S72} {r n : Int} {x : List Int} (hx : Wire l r n x) (hb : ∀ i, i < l.length → b i ≤ rd x (i : Int)) : ∀ i, i < l.length → rd (gL b l r n) (i : Int) ≤ rd x (i : Int) := by
  intro i hi
  rw [rd_gL b l r n hi]
  rcases (gM_char b l r n i l.length).2.2 with z | ⟨k, hk, z⟩
  · have := hb i hi; omega
  · have := hb k hk
    have := hx.2.2 k i hk hi
    rw [dst_comm] at this
    omega
theorem wire_noC {l : List S72} {r n : Int} {x : List Int} (hx : Wire l r n x) : noC l r n := by
  intro i hi k hk c
  unfold clk at c
  have := hx.2.1 i hi
  have := hx.2.1 k hk
  have := hx.2.2 i k hi hk
  omega
theorem low_wire {l : List S72} (h : okV l) {r n : Int} (hn : noC l r n) : Wire l r n (lowL l r n) := gL_wire (fun i _ => Int.le_refl _) ((undr_noC h).2 hn)
theorem low_least {l : List S72} {r n : Int} {x : List Int} (hx : Wire l r n x) : ∀ i, i < l.length → rd (lowL l r n) (i : Int) ≤ rd x (i : Int) := gL_low hx (fun i hi => (hx.2.1 i hi).1)
theorem dst_flip {l : List S72} (r n : Int) : ∀ i k, i < l.length → k < l.length → dst (l.map flip) r n i k = dst l r n i k := by
  have hp : ∀ i, i < l.length → pre (l.map flip) r n i = pre l r n i := by
    intro i
    induction i with
    | zero => intro _; rfl
    | succ i ih =>
      intro hi
      rw [pre, pre, ih (by omega)]
      unfold stp
      rw [wn_flip hi, wn_flip (by omega)]
      rfl
  intro i k hi hk
  unfold dst
  rw [hp i hi, hp k hk]
/-- Upside down. -/
theorem wire_flip {l : List S72} (h : okV l) {r n : Int} {x y : List Int} (hl : y.length = x.length) (hy : ∀ i, i < x.length → rd y (i : Int) = -(rd x (i : Int))) : Wire (l.map flip) r n x → Wire l r n y := by
  rintro ⟨h1, h2, h3⟩
  rw [List.length_map] at h1 h2 h3
  refine ⟨by omega, fun i hi => ?_, fun i k hi hk => ?_⟩
  · have a := h2 i hi
    have b := h.rng hi
    rw [wn_flip hi] at a
    unfold flip at a
    dsimp only at a
    rw [w64 (n := -(wn l i).f2) (by omega) (by omega), w64 (n := -(wn l i).f1) (by omega) (by omega)] at a
    rw [hy i (by omega)]
    omega
  · have a := h3 k i hk hi
    rw [dst_flip r n k i hk hi, dst_comm] at a
    rw [hy i (by omega), hy k (by omega)]
    omega
theorem wire_flip' {l : List S72} (h : okV l) {r n : Int} {x y : List Int} (hl : y.length = x.length) (hy : ∀ i, i < x.length → rd y (i : Int) = -(rd x (i : Int))) : Wire l r n x → Wire (l.map flip) r n y := by
  rintro ⟨h1, h2, h3⟩
  refine ⟨by rw [List.length_map]; omega, fun i hi => ?_, fun i k hi hk => ?_⟩
  · rw [List.length_map] at hi
    have a := h2 i hi
    have b := h.rng hi
    rw [wn_flip hi]
    unfold flip
    dsimp only
    rw [w64 (n := -(wn l i).f2) (by omega) (by omega), w64 (n := -(wn l i).f1) (by omega) (by omega)]
    rw [hy i (by omega)]
    omega
  · rw [List.length_map] at hi hk
    have a := h3 k i hk hi
    rw [dst_flip r n i k hi hk, hy i (by omega), hy k (by omega)]
    rw [dst_comm] at a
    omega
/-- The highest wire. -/
def highL (l : List S72) (r n : Int) : List Int := negL (lowL (l.map flip) r n)
theorem low_len (l : List S72) (r n : Int) : (lowL l r n).length = l.length := gL_len _ l r n
theorem high_len (l : List S72) (r n : Int) : (highL l r n).length = l.length := by unfold highL; rw [negL_len, low_len, List.length_map]
theorem high_wire {l : List S72} (h : okV l) (hw : wf64 l) {r n : Int} (hn : noC l r n) : Wire l r n (highL l r n) := wire_flip h (negL_len _) (fun i hi => rd_negL hi) (low_wire ((okV_flip hw).2 h) ((noC_flip h hw r n).2 hn))
theorem high_most {l : List S72} (h : okV l) {r n : Int} {x : List Int} (hx : Wire l r n x) : ∀ i, i < l.length → rd x (i : Int) ≤ rd (highL l r n) (i : Int) := by
  intro i hi
  have hy := wire_flip' h (y := negL x) (negL_len x) (fun i hi => rd_negL hi) hx
  have := low_least hy i (by rw [List.length_map]; exact hi)
  unfold highL
  rw [rd_negL (by rw [low_len, List.length_map]; exact hi)]
  rw [rd_negL (by have := hx.1; omega)] at this
  omega
/-- Lesser and greater ones. -/
theorem meet_wire {l : List S72} {r n : Int} {x y : List Int} (hx : Wire l r n x) (hy : Wire l r n y) : Wire l r n (zipF mn x y) ∧ Wire l r n (zipF mx x y) := by
  have hl := hx.1
  have rz : ∀ (g : Int → Int → Int) (i : Nat), i < l.length → rd (zipF g x y) (i : Int) = g (rd x (i : Int)) (rd y (i : Int)) := fun g i hi => by unfold zipF; rw [rd_map (fun i : Nat => g (rd x (i : Int)) (rd y (i : Int))) (by omega)]
  refine ⟨⟨by unfold zipF; simp [hl], fun i hi => ?_, fun i k hi hk => ?_⟩, ⟨by unfold zipF; simp [hl], fun i hi => ?_, fun i k hi hk => ?_⟩⟩
  · have a := hx.2.1 i hi; have b := hy.2.1 i hi; rw [rz mn i hi, mn_eq]; omega
  · have a := hx.2.2 i k hi hk; have b := hy.2.2 i k hi hk; rw [rz mn i hi, rz mn k hk, mn_eq, mn_eq]; omega
  · have a := hx.2.1 i hi; have b := hy.2.1 i hi; rw [rz mx i hi, mx_eq]; omega
  · have a := hx.2.2 i k hi hk; have b := hy.2.2 i k hi hk; rw [rz mx i hi, rz mx k hk, mx_eq, mx_eq]; omega
/-- One window is held to a height. -/
theorem one_wire {l : List S72} {r n : Int} {i : Nat} (hi : i < l.length) {v : Int} {x : List Int} (h1 : (wn l i).f1 ≤ v) (h2 : v ≤ (wn l i).f2) : Wire (oneW l i v) r n x ↔ Wire l r n x ∧ rd x (i : Int) = v := by
  constructor
  · rintro ⟨a, b, c⟩
    rw [oneW_len] at a b c
    have bi := b i hi
    rw [wn_one v hi hi, if_pos rfl] at bi
    dsimp only at bi
    refine ⟨⟨a, fun j hj => ?_, fun j k hj hk => ?_⟩, by omega⟩
    · by_cases e : j = i
      · subst e; omega
      · have := b j hj
        rwa [wn_one v hi hj, if_neg e] at this
    · have := c j k hj hk
      rwa [dst_one hi v r n hj hk] at this
  · rintro ⟨⟨a, b, c⟩, e⟩
    refine ⟨by rw [oneW_len]; exact a, fun j hj => ?_, fun j k hj hk => ?_⟩
    · rw [oneW_len] at hj
      rw [wn_one v hi hj]
      by_cases ej : j = i
      · subst ej; rw [if_pos rfl]; dsimp only; omega
      · rw [if_neg ej]; exact b j hj
    · rw [oneW_len] at hj hk
      rw [dst_one hi v r n hj hk]
      exact c j k hj hk
/-- There is a wire with a height at a window if that lies between the lowest and the highest one. -/
theorem between {l : List S72} (h : okV l) (hw : wf64 l) {r n : Int} (hn : noC l r n) {i : Nat} (hi : i < l.length) {v : Int} (h1 : rd (lowL l r n) (i : Int) ≤ v) (h2 : v ≤ rd (highL l r n) (i : Int)) : ∃ x, Wire l r n x ∧ rd x (i : Int) = v := by
  have lo := low_wire h hn
  have hi' := high_wire h hw hn
  obtain ⟨c, hc⟩ : ∃ c, c = rd (highL l r n) (i : Int) - v := ⟨_, rfl⟩
  have rz : ∀ j, j < l.length → rd ((List.range l.length).map fun j : Nat => max (rd (lowL l r n) (j : Int)) (rd (highL l r n) (j : Int) - c)) (j : Int) = max (rd (lowL l r n) (j : Int)) (rd (highL l r n) (j : Int) - c) := fun j hj => rd_map (fun j : Nat => max (rd (lowL l r n) (j : Int)) (rd (highL l r n) (j : Int) - c)) hj
  refine ⟨(List.range l.length).map fun j : Nat => max (rd (lowL l r n) (j : Int)) (rd (highL l r n) (j : Int) - c), ⟨by simp, fun j hj => ?_, fun j k hj hk => ?_⟩, ?_⟩
  · have a := lo.2.1 j hj
    have b := hi'.2.1 j hj
    have m := high_most h lo j hj
    rw [rz j hj]
    omega
  · have a := lo.2.2 j k hj hk
    have b := hi'.2.2 j k hj hk
    rw [rz j hj, rz k hk]
    omega
  · rw [rz i hi]
    omega
open Classical in
theorem tfits_ev {l : List S72} (h : okV l) {r n : Int} (hs : slope r n) (hl : l.length ≤ 9223372036854775807) {x : List Int} (hx : x.length ≤ 9223372036854775807) : Ev (fun k => droppertop_fits.f k l r n x) (decide (Wire l r n x)) := by
  obtain ⟨K, s⟩ := wire_Fits_ev l hl r n x hx
  refine ⟨K, fun k hk => ?_⟩
  have t := s k hk
  dsimp only at t ⊢
  unfold droppertop_fits.f
  rw [t]
  unfold fitsR
  rw [if_pos (askE_ok h hs)]
  by_cases c : x.length = l.length ∧ hts x
  · rw [if_pos c]
    simp only [Option.bind_some, if_true]
    have : decide (fitP l r n x) = decide (Wire l r n x) := decide_eq_decide.2 ⟨fun z => (fit_wire h hs).1 ⟨c.1, z⟩, fun z => ((fit_wire h hs).2 z).2⟩
    rw [this]
  · rw [if_neg c]
    simp only [Option.bind_some]
    rw [if_neg (by decide), decide_eq_false (fun z => c ⟨z.1, wire_hts h z⟩)]
theorem lies_ev {a x b : List Int} (h1 : x.length = a.length) (h2 : x.length = b.length) (hl : x.length ≤ 1000) (h : ∀ i, i < x.length → rd a ((i : Nat) : Int) ≤ rd x (i : Int) ∧ rd x (i : Int) ≤ rd b (i : Int)) : Ev (fun k => droppertop_lies.f k a x b) true := by
  have loop : ∀ (d i : Nat), i + d = x.length → Ev (fun k => droppertop_lies.l0 k a x b (i : Int)) true := by
    intro d
    induction d with
    | zero =>
      intro i hi
      refine ev_some _ fun k => ?_
      rw [droppertop_lies.l0, if_neg (by omega)]
    | succ d ih =>
      intro i hi
      have := h i (by omega)
      refine Ev.step (fun k => ?_) (ih (i + 1) (by omega))
      rw [droppertop_lies.l0, if_pos (by omega), if_pos (by omega), if_pos (by omega), if_neg (by omega), if_pos (by omega), if_neg (by omega), wsucc i (by omega)]
  refine Ev.step (f := fun k => droppertop_lies.l0 k a x b 0) (g := fun k => droppertop_lies.j0 k a x b false) (fun k => by rw [droppertop_lies.j0, if_neg (by decide)]) (loop x.length 0 (by omega)) |> fun e => Ev.congr (fun k => ?_) e
  unfold droppertop_lies.f
  rw [if_pos (by omega), show ((x.length : Int) != (b.length : Int)) = false by rw [h2]; simp]
theorem allC_hit {l : List S72} {r n : Int} : ∀ {d i : Nat}, i + d = l.length → (allC l r n d i).2.2 ≠ 5 → ∃ j q : Nat, allC l r n d i = ((j : Int), (q : Int), 0) ∧ j < l.length ∧ q < l.length ∧ clk l r n j q
  | 0, i, hd, h => absurd rfl h
  | d + 1, i, hd, h => by
    rw [allC] at h ⊢
    cases c : rowC l r n i l.length 0 with
    | some k =>
      obtain ⟨_, h2, h3⟩ := rowC_some c
      exact ⟨i, k, rfl, by omega, by omega, h3⟩
    | none =>
      rw [c] at h
      exact allC_hit (by omega) h
theorem slope_ev (r n : Int) : ∃ b : Bool, dropperref02_Slope.f r n = some b ∧ (b = true → slope r n) := by
  refine ⟨decide (0 ≤ r ∧ r ≤ 1000) && decide (1 ≤ n ∧ n ≤ 1000), ?_, fun h => ?_⟩
  · unfold dropperref02_Slope.f
    rw [from_some]
    by_cases c : 0 ≤ r ∧ r ≤ 1000
    · rw [decide_eq_true c]
      simp only [Option.bind_some, if_true, from_some, Bool.true_and]
    · rw [decide_eq_false c]
      rfl
  · rw [Bool.and_eq_true, decide_eq_true_eq, decide_eq_true_eq] at h
    exact ⟨h.1.1, h.1.2, h.2.1, h.2.2⟩
theorem u64_nat {m : Nat} (h : m ≤ 1000) : IntKind.u64.wrap (m : Int) = (m : Int) := by
  unfold IntKind.wrap
  simp only [IntKind.signed, IntKind.bits]
  simp
  omega
theorem u64_nn (a : Int) : 0 ≤ IntKind.u64.wrap a ∧ IntKind.u64.wrap a < 18446744073709551616 := by
  unfold IntKind.wrap
  simp only [IntKind.signed, IntKind.bits]
  simp
  omega
section
variable {l : List S72} (h : okV l) {r n : Int} (hs : slope r n) {K0 : Nat} (a0 : ∀ k, K0 ≤ k → dropperlaw02_Awake.f k = some true)
include h hs a0
open Classical in
theorem pairs_ev {x y : List Int} (hx : Wire l r n x) (hy : Wire l r n y) : Ev (fun k => wire_Meet.f k x y) (zipF mn x y, 0) ∧ Ev (fun k => wire_Join.f k x y) (zipF mx x y, 0) := by
  have hl := h.1
  have e1 := hx.1
  have e2 := hy.1
  have c : x.length = y.length ∧ x.length ≤ 30 ∧ hts x ∧ hts y := ⟨by omega, by omega, wire_hts h hx, wire_hts h hy⟩
  have m := wire_Meet_ev (a := x) (b := y) (by omega) (by omega)
  have j := wire_Join_ev (a := x) (b := y) (by omega) (by omega)
  unfold pairR at m j
  rw [if_pos c] at m j
  exact ⟨m, j⟩
open Classical in
/-- The last loops: each wire among some, and each pair of them. -/
theorem all_ev {lo hi th : List Int} {at_ : Nat} {te v : Int} (hat : at_ < l.length) (hlo : Wire l r n lo) (hhi : Wire l r n hi) (hlow : ∀ x, Wire l r n x → ∀ i, i < l.length → rd lo (i : Int) ≤ rd x (i : Int)) (hhigh : ∀ x, Wire l r n x → ∀ i, i < l.length → rd x (i : Int) ≤ rd hi (i : Int)) (hth : te = 0 → th.length = l.length ∧ ∀ x, Wire l r n x → rd x (at_ : Int) = v → ∀ i, i < l.length → rd th (i : Int) ≤ rd x (i : Int))
    {all : List (List Int)} (hal : all.length ≤ 10) (hall : ∀ x ∈ all, Wire l r n x) (A B : List Int) (av : Int) : ∀ (d i : Nat), i + d = all.length → Ev (fun k => droppertop_TopWire.l1 k l lo hi (at_ : Int) th te all (i : Int) r n A B av v) true := by
  have hl := h.1
  have wat : ∀ i : Nat, i < all.length → Wire l r n (rd_L1 all (i : Int)) := fun i hi' => hall _ (by
    unfold rd_L1
    rw [Int.toNat_natCast, List.getD_eq_getElem?_getD, List.getElem?_eq_getElem hi', Option.getD_some]
    exact List.getElem_mem _)
  intro d
  induction d with
  | zero =>
    intro i hi'
    refine ⟨K0 + 1, fun k hk => ?_⟩
    obtain ⟨k, rfl⟩ : ∃ z, k = z + 1 := ⟨k - 1, by omega⟩
    dsimp only
    rw [droppertop_TopWire.l1, if_neg (by omega), a0 k (by omega)]
    rfl
  | succ d ih =>
    intro i hi'
    have wx := wat i (by omega)
    have lx := wx.1
    have llo := hlo.1
    have lhi := hhi.1
    obtain ⟨L1, e1⟩ := tfits_ev h hs (by omega) (x := rd_L1 all (i : Int)) (by omega)
    rw [decide_eq_true wx] at e1
    obtain ⟨L2, e2⟩ := lies_ev (a := lo) (x := rd_L1 all (i : Int)) (b := hi) (by omega) (by omega) (by omega) (fun j hj => ⟨hlow _ wx j (by omega), hhigh _ wx j (by omega)⟩)
    -- pairs
    have pairs : ∀ (e k : Nat), k + e = i → Ev (fun s => droppertop_TopWire.l2 s l lo hi (at_ : Int) th te all (i : Int) (k : Int) r n A B av v) true := by
      intro e
      induction e with
      | zero =>
        intro k hk
        refine Ev.step (fun s => ?_) (ih (i + 1) (by omega))
        rw [droppertop_TopWire.l2, if_neg (by omega), wsucc i (by omega)]
      | succ e ihe =>
        intro k hk
        have wy := wat k (by omega)
        obtain ⟨⟨M1, m1⟩, ⟨M2, m2⟩⟩ := pairs_ev h hs a0 wx wy
        obtain ⟨z1, z2⟩ := meet_wire wx wy
        obtain ⟨M3, m3⟩ := tfits_ev h hs (by omega) (x := zipF mn (rd_L1 all (i : Int)) (rd_L1 all (k : Int))) (by rw [z1.1]; omega)
        rw [decide_eq_true z1] at m3
        obtain ⟨M4, m4⟩ := tfits_ev h hs (by omega) (x := zipF mx (rd_L1 all (i : Int)) (rd_L1 all (k : Int))) (by rw [z2.1]; omega)
        rw [decide_eq_true z2] at m4
        obtain ⟨M5, m5⟩ := ihe (k + 1) (by omega)
        refine ⟨M1 + M2 + M3 + M4 + M5 + 1, fun s hsk => ?_⟩
        obtain ⟨s, rfl⟩ : ∃ z, s = z + 1 := ⟨s - 1, by omega⟩
        have g1 := m1 s (by omega)
        have g2 := m2 s (by omega)
        have g3 := m3 s (by omega)
        have g4 := m4 s (by omega)
        have g5 := m5 s (by omega)
        dsimp only at g1 g2 g3 g4 g5 ⊢
        rw [droppertop_TopWire.l2, if_pos (by omega), if_pos (by omega), if_pos (by omega), if_pos (by omega), if_pos (by omega), g1, g2]
        simp only [Option.bind_some, if_true]
        rw [g3]
        simp only [Option.bind_some, if_true]
        rw [g4]
        simp only [Option.bind_some, if_true]
        rw [wsucc k (by omega)]
        exact g5
    have j7 : Ev (fun s => droppertop_TopWire.j7 s l lo hi (at_ : Int) th te all (i : Int) false r n A B av v) true := Ev.step (fun s => by rw [droppertop_TopWire.j7, if_neg (by decide)]; rfl) (pairs i 0 (by omega))
    have j6 : Ev (fun s => droppertop_TopWire.j6 s l lo hi (at_ : Int) th te all (i : Int) false r n A B av v) true := by
      by_cases c : te = 0
      · obtain ⟨t1, t2⟩ := hth c
        by_cases cv : rd (rd_L1 all (i : Int)) (at_ : Int) = v
        · obtain ⟨L3, e3⟩ := lies_ev (a := th) (x := rd_L1 all (i : Int)) (b := hi) (by omega) (by omega) (by omega) (fun j hj => ⟨t2 _ wx cv j (by omega), hhigh _ wx j (by omega)⟩)
          obtain ⟨L4, e4⟩ := j7
          refine ⟨L3 + L4 + 1, fun s hsk => ?_⟩
          obtain ⟨s, rfl⟩ : ∃ z, s = z + 1 := ⟨s - 1, by omega⟩
          have g3 := e3 s (by omega)
          have g4 := e4 s (by omega)
          dsimp only at g3 g4 ⊢
          rw [droppertop_TopWire.j6, if_neg (by decide), if_pos c, if_pos (by omega), if_pos (by omega), if_pos (by omega), if_pos (by omega), if_pos cv, g3]
          exact g4
        · refine Ev.step (fun s => ?_) j7
          rw [droppertop_TopWire.j6, if_neg (by decide), if_pos c, if_pos (by omega), if_pos (by omega), if_pos (by omega), if_pos (by omega), if_neg cv]
      · refine Ev.step (fun s => ?_) j7
        rw [droppertop_TopWire.j6, if_neg (by decide), if_neg c]
    obtain ⟨L5, e5⟩ := j6
    refine ⟨L1 + L2 + L5 + 1, fun k hk => ?_⟩
    obtain ⟨k, rfl⟩ : ∃ z, k = z + 1 := ⟨k - 1, by omega⟩
    have g1 := e1 k (by omega)
    have g2 := e2 k (by omega)
    have g5 := e5 k (by omega)
    dsimp only at g1 g2 g5 ⊢
    rw [droppertop_TopWire.l1, if_pos (by omega), if_pos (by omega), g1]
    simp only [Option.bind_some, if_true]
    rw [g2]
    exact g5
end
open Classical in
theorem TopWire_pure (l : List S72) (r n : Int) (A B : List Int) (av v : Int) (hx : ∀ x ∈ l, (Lit.int .i64 x.f0).wf = true ∧ (Lit.int .i64 x.f1).wf = true ∧ (Lit.int .i64 x.f2).wf = true) (wr : (Lit.int .i64 r).wf = true) (wn_ : (Lit.int .i64 n).wf = true) (hA : ∀ y ∈ A, (Lit.int .i64 y).wf = true) (hB : ∀ y ∈ B, (Lit.int .i64 y).wf = true) (wa : (Lit.int .i64 av).wf = true) (wv : (Lit.int .i64 v).wf = true) (hl : l.length ≤ 9223372036854775807) (hAl : A.length ≤ 9223372036854775807) (hBl : B.length ≤ 9223372036854775807) : ∃ k, droppertop_TopWire.f k l r n A B av v = some true := by
  obtain ⟨K0, s0⟩ := awake_ev
  have a0 : ∀ k, K0 ≤ k → dropperlaw02_Awake.f k = some true := s0
  obtain ⟨K1, s1⟩ := ref_valid_ev l hl
  have a1 : ∀ k, K1 ≤ k → dropperref02_Valid.f k l = some (decide (okV l)) := s1
  have early : ∀ k, K0 ≤ k → droppertop_TopWire.j0 (k + 1) l true r n A B av v = some true := fun k hk => by
    rw [droppertop_TopWire.j0, if_pos rfl, a0 k hk]; rfl
  by_cases h : okV l
  rotate_left
  · refine ⟨K0 + K1 + 1, ?_⟩
    unfold droppertop_TopWire.f
    rw [a1 _ (by omega), decide_eq_false h]
    simp only [Option.bind_some, Bool.false_eq_true, if_false]
    exact early _ (by omega)
  obtain ⟨sb, es, hsb⟩ := slope_ev r n
  cases sb with
  | false =>
    refine ⟨K0 + K1 + 1, ?_⟩
    unfold droppertop_TopWire.f
    rw [a1 _ (by omega), decide_eq_true h]
    simp only [Option.bind_some, if_true]
    rw [es]
    simp only [Option.bind_some, Bool.false_eq_true, if_false]
    exact early _ (by omega)
  | true =>
    have hs := hsb rfl
    obtain ⟨big, ⟨K2, s2⟩, hbig⟩ := large_ev ([] : List S72) [A, B] (by simp)
    have a2 : ∀ k, K2 ≤ k → dropperlaw02_Large.f k ([] : List S72) [A, B] = some big := s2
    have start : ∀ k, K1 ≤ k → K2 ≤ k → droppertop_TopWire.f k l r n A B av v = droppertop_TopWire.j0 k l big r n A B av v := fun k h1 h2 => by
      unfold droppertop_TopWire.f
      rw [a1 _ h1, decide_eq_true h]
      simp only [Option.bind_some, if_true]
      rw [es]
      simp only [Option.bind_some, if_true]
      rw [a2 _ h2]
      rfl
    cases big with
    | true => exact ⟨K0 + K1 + K2 + 1, by rw [start _ (by omega) (by omega)]; exact early _ (by omega)⟩
    | false =>
      have hw : wf64 l := hx
      have ask := askE_ok h hs
      have hl1 := h.1
      obtain ⟨at_, eat⟩ : ∃ z : Nat, z = (Int.tmod (IntKind.u64.wrap av) (IntKind.u64.wrap (l.length : Int))).toNat := ⟨_, rfl⟩
      have ul := u64_nat (m := l.length) (by omega)
      have ua := u64_nn av
      have tb : 0 ≤ Int.tmod (IntKind.u64.wrap av) (l.length : Int) ∧ Int.tmod (IntKind.u64.wrap av) (l.length : Int) < (l.length : Int) := ⟨Int.tmod_nonneg _ ua.1, Int.tmod_lt_of_pos _ (by omega)⟩
      rw [ul] at eat
      have wat : wrap64 (Int.tmod (IntKind.u64.wrap av) (IntKind.u64.wrap (l.length : Int))) = (at_ : Int) := by rw [ul, w64 (by omega) (by omega)]; omega
      have hat : at_ < l.length := by omega
      -- what is told
      obtain ⟨K3, s3⟩ := wire_Lowest_ev l hl r n
      obtain ⟨K4, s4⟩ := wire_Highest_ev (l := l) (by omega) r n
      obtain ⟨K5, s5⟩ := wire_Clash_ev l hl r n
      obtain ⟨K6, s6⟩ := wire_Through_ev l hl r n (at_ : Int) v
      obtain ⟨K7, s7⟩ := tfits_ev h hs hl hAl
      obtain ⟨K8, s8⟩ := tfits_ev h hs hl hBl
      have a7 : ∀ k, K7 ≤ k → droppertop_fits.f k l r n A = some (decide (Wire l r n A)) := s7
      have a8 : ∀ k, K8 ≤ k → droppertop_fits.f k l r n B = some (decide (Wire l r n B)) := s8
      by_cases hn : noC l r n
      rotate_left
      · -- two windows clash
        have noW : ∀ x, ¬ Wire l r n x := fun x hx => hn (wire_noC hx)
        have a3 : ∀ k, K3 ≤ k → wire_Lowest.f k l r n = some ([], 5) := fun k hk => by have := s3 k hk; unfold lowR at this; rwa [if_pos ask, if_neg hn] at this
        have a4 : ∀ k, K4 ≤ k → wire_Highest.f k l r n = some ([], 5) := fun k hk => by
          have := s4 k hk
          unfold highR lowR at this
          rw [askE_flip hw, if_pos ask, if_neg (fun z => hn ((noC_flip h hw r n).1 z))] at this
          exact this
        obtain ⟨j, q, e5, hj, hq, hc⟩ := allC_hit (l := l) (r := r) (n := n) (d := l.length) (i := 0) (by omega) (fun z => hn (allC_noC.1 z))
        have a5 : ∀ k, K5 ≤ k → wire_Clash.f k l r n = some ((j : Int), (q : Int), 0) := fun k hk => by have := s5 k hk; unfold clashR at this; rwa [if_pos ask, e5] at this
        have a6 : ∀ k, K6 ≤ k → wire_Through.f k l r n (at_ : Int) v = some ([], 5) := fun k hk => by
          have := s6 k hk
          unfold thrR at this
          rw [if_pos ask, if_pos (by omega), Int.toNat_natCast] at this
          by_cases c : (wn l at_).f1 ≤ v ∧ v ≤ (wn l at_).f2
          · rw [if_pos c] at this
            have ho := okV_one h hat c.1 c.2
            unfold lowR at this
            rw [if_pos (askE_ok ho hs), if_neg (fun z => noW _ ((one_wire hat c.1 c.2).1 (low_wire ho z)).1)] at this
            exact this
          · rw [if_neg c] at this
            exact this
        obtain ⟨K9, s9⟩ := wire_Clashes_ev l hl r n (j : Int) (q : Int)
        have a9 : ∀ k, K9 ≤ k → wire_Clashes.f k l r n (j : Int) (q : Int) = some (true, 0) := fun k hk => by
          have := s9 k hk
          unfold clashesR at this
          rw [if_pos ask, if_pos (by omega), Int.toNat_natCast, Int.toNat_natCast, decide_eq_true hc] at this
          exact this
        refine ⟨K0 + K1 + K2 + K3 + K4 + K5 + K6 + K7 + K8 + K9 + 1, ?_⟩
        rw [start _ (by omega) (by omega), droppertop_TopWire.j0, if_neg (by decide), a3 _ (by omega), a4 _ (by omega), a5 _ (by omega)]
        simp only [Option.bind_some]
        rw [if_neg (by rw [ul]; omega), wat, a6 _ (by omega)]
        simp only [Option.bind_some, if_true]
        rw [a9 _ (by omega)]
        simp only [Option.bind_some, if_true]
        rw [a7 _ (by omega), decide_eq_false (noW A)]
        simp only [Option.bind_some, Bool.false_eq_true, if_false]
        rw [a8 _ (by omega), decide_eq_false (noW B)]
        simp only [Option.bind_some, Bool.false_eq_true, if_false]
        rw [a0 _ (by omega)]
        rfl
      · have lw := low_wire h hn
        have hiw := high_wire h hw hn
        have a3 : ∀ k, K3 ≤ k → wire_Lowest.f k l r n = some (lowL l r n, 0) := fun k hk => by have := s3 k hk; unfold lowR at this; rwa [if_pos ask, if_pos hn] at this
        have a4 : ∀ k, K4 ≤ k → wire_Highest.f k l r n = some (highL l r n, 0) := fun k hk => by
          have := s4 k hk
          unfold highR lowR at this
          rw [askE_flip hw, if_pos ask, if_pos ((noC_flip h hw r n).2 hn)] at this
          exact this
        obtain ⟨cl, ecl⟩ : ∃ z, z = allC l r n l.length 0 := ⟨_, rfl⟩
        have c5 : cl.2.2 = 5 := by rw [ecl]; exact allC_noC.2 hn
        have a5 : ∀ k, K5 ≤ k → wire_Clash.f k l r n = some cl := fun k hk => by have := s5 k hk; unfold clashR at this; rwa [if_pos ask, ← ecl] at this
        have llo := low_len l r n
        have lhi := high_len l r n
        obtain ⟨lo, elo⟩ : ∃ z, z = lowL l r n := ⟨_, rfl⟩
        obtain ⟨hi, ehi⟩ : ∃ z, z = highL l r n := ⟨_, rfl⟩
        have hlow : ∀ x, Wire l r n x → ∀ i, i < l.length → rd lo (i : Int) ≤ rd x (i : Int) := fun x hx => by rw [elo]; exact low_least hx
        have hhigh : ∀ x, Wire l r n x → ∀ i, i < l.length → rd x (i : Int) ≤ rd hi (i : Int) := fun x hx => by rw [ehi]; exact high_most h hx
        have btw : rd lo (at_ : Int) ≤ v → v ≤ rd hi (at_ : Int) → ∃ x, Wire l r n x ∧ rd x (at_ : Int) = v := by rw [elo, ehi]; exact between h hw hn hat
        rw [← elo] at a3 lw llo
        rw [← ehi] at a4 hiw lhi
        -- the wire through a height
        obtain ⟨th, te, a6, hth⟩ : ∃ (th : List Int) (te : Int), (∀ k, K6 ≤ k → wire_Through.f k l r n (at_ : Int) v = some (th, te)) ∧ ((te = 0 ∧ (rd lo (at_ : Int) ≤ v ∧ v ≤ rd hi (at_ : Int)) ∧ Wire l r n th ∧ rd th (at_ : Int) = v ∧ ∀ x, Wire l r n x → rd x (at_ : Int) = v → ∀ i, i < l.length → rd th (i : Int) ≤ rd x (i : Int)) ∨ (te = 5 ∧ ¬ (rd lo (at_ : Int) ≤ v ∧ v ≤ rd hi (at_ : Int)))) := by
          by_cases c : rd lo (at_ : Int) ≤ v ∧ v ≤ rd hi (at_ : Int)
          · have b1 := lw.2.1 at_ hat
            have b2 := hiw.2.1 at_ hat
            have c' : (wn l at_).f1 ≤ v ∧ v ≤ (wn l at_).f2 := by omega
            obtain ⟨x, wx, ex⟩ := btw c.1 c.2
            have ho := okV_one h hat c'.1 c'.2
            have hno : noC (oneW l at_ v) r n := wire_noC ((one_wire hat c'.1 c'.2).2 ⟨wx, ex⟩)
            have wt := (one_wire hat c'.1 c'.2).1 (low_wire ho hno)
            refine ⟨lowL (oneW l at_ v) r n, 0, fun k hk => ?_, Or.inl ⟨rfl, c, wt.1, wt.2, fun y wy ey i hi => ?_⟩⟩
            · have := s6 k hk
              unfold thrR at this
              rw [if_pos ask, if_pos (by omega), Int.toNat_natCast, if_pos c'] at this
              unfold lowR at this
              rwa [if_pos (askE_ok ho hs), if_pos hno] at this
            · exact low_least ((one_wire hat c'.1 c'.2).2 ⟨wy, ey⟩) i (by rw [oneW_len]; exact hi)
          · refine ⟨[], 5, fun k hk => ?_, Or.inr ⟨rfl, c⟩⟩
            have := s6 k hk
            unfold thrR at this
            rw [if_pos ask, if_pos (by omega), Int.toNat_natCast] at this
            by_cases c' : (wn l at_).f1 ≤ v ∧ v ≤ (wn l at_).f2
            · rw [if_pos c'] at this
              have ho := okV_one h hat c'.1 c'.2
              unfold lowR at this
              rw [if_pos (askE_ok ho hs), if_neg (fun z => ?_)] at this
              · exact this
              · have wt := (one_wire hat c'.1 c'.2).1 (low_wire ho z)
                have m1 := hlow _ wt.1 at_ hat
                have m2 := hhigh _ wt.1 at_ hat
                rw [wt.2] at m1 m2
                exact c ⟨m1, m2⟩
            · rw [if_neg c'] at this
              exact this
        have hth0 : te = 0 → th.length = l.length ∧ ∀ x, Wire l r n x → rd x (at_ : Int) = v → ∀ i, i < l.length → rd th (i : Int) ≤ rd x (i : Int) := by
          intro z
          rcases hth with ⟨_, _, w, _, m⟩ | ⟨z5, _⟩
          · exact ⟨w.1, m⟩
          · omega
        have J4 : ∀ all : List (List Int), all.length ≤ 10 → (∀ x ∈ all, Wire l r n x) → Ev (fun k => droppertop_TopWire.j4 k l lo hi (at_ : Int) th te all false r n A B av v) true := fun all h1 h2 =>
          Ev.step (fun k => by rw [droppertop_TopWire.j4, if_neg (by decide)]; rfl) (all_ev h hs a0 hat lw hiw hlow hhigh hth0 h1 h2 A B av all.length 0 (by omega))
        have J3 : ∀ all : List (List Int), all.length ≤ 10 → (∀ x ∈ all, Wire l r n x) → Ev (fun k => droppertop_TopWire.j3 k l lo hi (at_ : Int) th te all r n A B av v) true := by
          intro all h1 h2
          refine Ev.step (fun k => ?_) (J4 all h1 h2)
          rw [droppertop_TopWire.j3, if_pos (by omega), if_pos (by omega)]
          rcases hth with ⟨rfl, c, _⟩ | ⟨rfl, c⟩
          · rw [if_pos c.1, if_pos (by omega), decide_eq_true c.2, if_neg (by decide), if_pos rfl]
          · by_cases c1 : rd lo (at_ : Int) ≤ v
            · rw [if_pos c1, if_pos (by omega), decide_eq_false (fun z => c ⟨c1, z⟩), if_neg (by decide), if_neg (by decide)]
              rfl
            · rw [if_neg c1, if_neg (by decide), if_neg (by decide)]
              rfl
        have fin : ∀ all : List (List Int), all.length ≤ 8 → (∀ x ∈ all, Wire l r n x) → ∀ (d i : Nat) , i + d = 2 → all.length ≤ 2 + i → Ev (fun k => droppertop_TopWire.l0 k l lo hi (at_ : Int) th te all [A, B] (i : Int) r n A B av v) true := by
          intro all h1 h2 d
          induction d generalizing all with
          | zero =>
            intro i hi' hc
            rcases hth with ⟨te0, c, w, ev, _⟩ | ⟨te5, c⟩
            · refine Ev.step (fun k => ?_) (J3 (all ++ [th]) (by simp; omega) (fun x hx => ?_))
              · have lw' := w.1
                rw [droppertop_TopWire.l0, if_neg (by simp; omega), if_pos te0, if_pos (by omega), if_pos (by omega), if_pos (by omega), if_pos ev, if_pos (by omega)]
              · rw [List.mem_append, List.mem_singleton] at hx
                rcases hx with z | rfl
                · exact h2 x z
                · exact w
            · refine Ev.step (fun k => ?_) (J3 all (by omega) h2)
              rw [droppertop_TopWire.l0, if_neg (by simp; omega), if_neg (by omega)]
          | succ d ih =>
            intro i hi' hc
            have hi2 : i = 0 ∨ i = 1 := by omega
            obtain ⟨g, eg, hgl⟩ : ∃ g, rd_L1 [A, B] (i : Int) = g ∧ g.length ≤ 9223372036854775807 := by
              rcases hi2 with rfl | rfl
              · exact ⟨A, rfl, hAl⟩
              · exact ⟨B, rfl, hBl⟩
            obtain ⟨L1, e1⟩ := tfits_ev h hs hl hgl
            by_cases wg : Wire l r n g
            · rw [decide_eq_true wg] at e1
              obtain ⟨L2, e2⟩ := ih (all ++ [g]) (by simp; omega) (fun x hx => by
                rw [List.mem_append, List.mem_singleton] at hx
                rcases hx with z | rfl
                · exact h2 x z
                · exact wg) (i + 1) (by omega) (by simp; omega)
              refine ⟨L1 + L2 + 1, fun k hk => ?_⟩
              obtain ⟨k, rfl⟩ : ∃ z, k = z + 1 := ⟨k - 1, by omega⟩
              have g1 := e1 k (by omega)
              have g2 := e2 k (by omega)
              dsimp only at g1 g2 ⊢
              rw [droppertop_TopWire.l0, if_pos (by simp; omega), if_pos (by omega), eg, g1]
              simp only [Option.bind_some, if_true]
              rw [if_pos (by omega), wsucc i (by omega)]
              exact g2
            · rw [decide_eq_false wg] at e1
              obtain ⟨L2, e2⟩ := ih all (by omega) h2 (i + 1) (by omega) (by omega)
              refine ⟨L1 + L2 + 1, fun k hk => ?_⟩
              obtain ⟨k, rfl⟩ : ∃ z, k = z + 1 := ⟨k - 1, by omega⟩
              have g1 := e1 k (by omega)
              have g2 := e2 k (by omega)
              dsimp only at g1 g2 ⊢
              rw [droppertop_TopWire.l0, if_pos (by simp; omega), if_pos (by omega), eg, g1]
              simp only [Option.bind_some, Bool.false_eq_true, if_false]
              rw [wsucc i (by omega)]
              exact g2
        obtain ⟨K9, s9⟩ := fin [lo, hi] (by simp) (fun x hx => by
          simp only [List.mem_cons, List.not_mem_nil, or_false] at hx
          rcases hx with rfl | rfl
          · exact lw
          · exact hiw) 2 0 (by omega) (by simp)
        obtain ⟨K10, s10⟩ := tfits_ev h hs hl (x := lo) (by omega)
        rw [decide_eq_true lw] at s10
        obtain ⟨K11, s11⟩ := tfits_ev h hs hl (x := hi) (by omega)
        rw [decide_eq_true hiw] at s11
        obtain ⟨K12, s12⟩ := lies_ev (a := lo) (x := lo) (b := hi) rfl (by omega) (by omega) (fun i hi => ⟨Int.le_refl _, hhigh lo lw i (by omega)⟩)
        refine ⟨K0 + K1 + K2 + K3 + K4 + K5 + K6 + K9 + K10 + K11 + K12 + 2, ?_⟩
        have g9 := s9 (K0 + K1 + K2 + K3 + K4 + K5 + K6 + K9 + K10 + K11 + K12) (by omega)
        have g10 := s10 (K0 + K1 + K2 + K3 + K4 + K5 + K6 + K9 + K10 + K11 + K12 + 1) (by omega)
        have g11 := s11 (K0 + K1 + K2 + K3 + K4 + K5 + K6 + K9 + K10 + K11 + K12 + 1) (by omega)
        have g12 := s12 (K0 + K1 + K2 + K3 + K4 + K5 + K6 + K9 + K10 + K11 + K12 + 1) (by omega)
        dsimp only at g9 g10 g11 g12
        rw [start _ (by omega) (by omega), droppertop_TopWire.j0, if_neg (by decide), a3 _ (by omega), a4 _ (by omega), a5 _ (by omega)]
        simp only [Option.bind_some]
        rw [if_neg (by rw [ul]; omega), wat, a6 _ (by omega)]
        simp only [Option.bind_some]
        rw [c5, if_neg (by decide), if_pos rfl, if_pos trivial, if_pos trivial, g10]
        simp only [Option.bind_some, if_true]
        rw [g11]
        simp only [Option.bind_some, if_true]
        rw [g12]
        simp only [Option.bind_some, Bool.not_true]
        rw [droppertop_TopWire.j1, if_neg (by decide)]
        exact g9
end Go.Proofs.Ytciepmpadcpkbaa.G
