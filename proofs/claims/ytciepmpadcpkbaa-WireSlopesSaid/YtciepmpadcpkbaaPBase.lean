/- Windows as described, steps and the sums of them: both programs' parts tell the same. Plain Lean. -/
import Derived.Test.YtciepmpadcpkbaaRat
import Derived.Test.YtciepmpadcpkbaaGF19
import Derived.Test.YtciepmpadcpkbaaGF49
import Derived.Test.YtciepmpadcpkbaaGF50
import Derived.Test.YtciepmpadcpkbaaGF53
import Derived.Test.YtciepmpadcpkbaaGF54
import Derived.Test.YtciepmpadcpkbaaGF71
namespace Go.Proofs.Ytciepmpadcpkbaa.G
set_option linter.unusedVariables false
set_option linter.unusedSimpArgs false
open Go.RowKit Go.Proofs.YtciepmpadcpkbaaW.PrintWords Go.Proofs.YtciepmpadcpkbaaW.PrintLast

/-- The window at i. -/
abbrev wn (l : List S72) (i : Nat) : S72 := rd_T72 l (i : Int)
theorem wsucc (i : Nat) (h : i < 9223372036854775807) : wrap64 ((i : Int) + 1) = ((i + 1 : Nat) : Int) := by rw [w64 (by omega) (by omega)]; rfl
theorem wpred (i : Nat) (h : i < 9223372036854775807) : wrap64 (((i + 1 : Nat) : Int) - 1) = (i : Int) := by rw [w64 (by omega) (by omega)]; omega
theorem mx_eq (a b : Int) : mx a b = max a b := by unfold mx; split <;> omega
theorem mn_eq (a b : Int) : mn a b = min a b := by unfold mn; split <;> omega

/-- The window at i is as described. -/
def good (l : List S72) (i : Nat) : Prop := (0 ≤ (wn l i).f0 ∧ (wn l i).f0 ≤ 100000) ∧ (i = 0 ∨ (wn l (i - 1)).f0 < (wn l i).f0) ∧ (-10000 ≤ (wn l i).f1 ∧ (wn l i).f1 ≤ (wn l i).f2 ∧ (wn l i).f2 ≤ 10000)
/-- All windows are as described. -/
def okV (l : List S72) : Prop := (1 ≤ l.length ∧ l.length ≤ 30) ∧ ∀ i, i < l.length → good l i

open Classical in
theorem wire_valid_loop (l : List S72) (hl : l.length ≤ 9223372036854775807) : ∀ (d i : Nat), l.length - i = d → i ≤ l.length → (∀ j, j < i → good l j) →
    Ev (fun k => wire_Valid.l0 k l l l.length i) (decide (okV l)) := by
  intro d
  induction d with
  | zero =>
    intro i hd hi hg
    have e : i = l.length := by omega
    subst e
    refine ev_some _ fun k => ?_
    rw [wire_Valid.l0, if_neg (by omega), within_some]
    simp only [Option.bind_some]
    congr 1
    refine decide_eq_decide.2 ⟨fun h => ⟨by omega, hg⟩, fun h => ?_⟩
    have := h.1
    omega
  | succ d ih =>
    intro i hd hi hg
    have hlt : i < l.length := by omega
    by_cases c : good l i
    · have e := ih (i + 1) (by omega) (by omega) (fun j hj => if h : j = i then h ▸ c else hg j (by omega))
      refine Ev.step (fun k => ?_) e
      obtain ⟨c1, c2, c3, c4, c5⟩ := c
      have n1 : ¬ (wn l i).f2 > 10000 := by omega
      have n2 : -10000 ≤ (wn l i).f1 ∧ (wn l i).f1 ≤ (wn l i).f2 := ⟨c3, c4⟩
      rw [wire_Valid.l0, if_pos (by omega), if_pos (by omega), if_pos (by omega), within_some, decide_eq_true c1, within_some, decide_eq_true n2, wsucc i (by omega)]
      simp only [Option.bind_some, if_true, if_neg n1]
      cases i with
      | zero => rw [if_neg (by omega)]
      | succ j =>
        rw [wpred j (by omega), if_pos (by omega), if_pos (by omega), if_pos (by omega), if_neg]
        rcases c2 with h | h
        · omega
        · exact Int.not_le.2 h
    · rw [decide_eq_false (fun h => c (h.2 i hlt))]
      refine ev_some _ fun k => ?_
      rw [wire_Valid.l0, if_pos (by omega), if_pos (by omega), if_pos (by omega), within_some, within_some]
      by_cases a1 : 0 ≤ (wn l i).f0 ∧ (wn l i).f0 ≤ 100000
      · rw [decide_eq_true a1]
        simp only [Option.bind_some, if_true]
        have key : ∀ (z : Option Bool), ((i = 0 ∨ (wn l (i - 1)).f0 < (wn l i).f0) → ((if decide (-10000 ≤ (wn l i).f1 ∧ (wn l i).f1 ≤ (wn l i).f2) = true then if (wn l i).f2 > 10000 then some false else z else some false) = some false)) := by
          intro z h
          by_cases a2 : -10000 ≤ (wn l i).f1 ∧ (wn l i).f1 ≤ (wn l i).f2
          · rw [decide_eq_true a2, if_pos rfl, if_pos]
            by_cases a3 : (wn l i).f2 > 10000
            · exact a3
            · exact absurd ⟨a1, h, a2.1, a2.2, by omega⟩ c
          · rw [decide_eq_false a2, if_neg (by decide)]
        cases i with
        | zero =>
          rw [if_neg (by omega)]
          exact key _ (.inl rfl)
        | succ j =>
          rw [wpred j (by omega), if_pos (by omega), if_pos (by omega), if_pos (by omega)]
          by_cases a4 : (wn l (j + 1)).f0 ≤ (wn l j).f0
          · rw [if_pos a4]
          · rw [if_neg a4]
            exact key _ (.inr (by simpa using a4))
      · rw [decide_eq_false a1]
        simp

open Classical in
theorem wire_valid_ev (l : List S72) (hl : l.length ≤ 9223372036854775807) : Ev (fun k => wire_Valid.f k l) (decide (okV l)) := wire_valid_loop l hl l.length 0 (by omega) (by omega) (by omega)

open Classical in
theorem ref_valid_loop (l : List S72) (hl : l.length ≤ 9223372036854775807) : ∀ (d i : Nat), l.length - i = d → i ≤ l.length → (∀ j, j < i → good l j) →
    Ev (fun k => dropperref02_Valid.l0 k l i) (decide (okV l)) := by
  intro d
  induction d with
  | zero =>
    intro i hd hi hg
    have e : i = l.length := by omega
    subst e
    refine ev_some _ fun k => ?_
    rw [dropperref02_Valid.l0, if_neg (by omega), from_some]
    simp only [Option.bind_some]
    congr 1
    refine decide_eq_decide.2 ⟨fun h => ⟨by omega, hg⟩, fun h => ?_⟩
    have := h.1
    omega
  | succ d ih =>
    intro i hd hi hg
    have hlt : i < l.length := by omega
    by_cases c : good l i
    · have e := ih (i + 1) (by omega) (by omega) (fun j hj => if h : j = i then h ▸ c else hg j (by omega))
      refine Ev.step (fun k => ?_) e
      obtain ⟨c1, c2, c3, c4, c5⟩ := c
      have n1 : -10000 ≤ (wn l i).f1 ∧ (wn l i).f1 ≤ 10000 := by omega
      have n2 : (wn l i).f1 ≤ (wn l i).f2 ∧ (wn l i).f2 ≤ 10000 := ⟨c4, c5⟩
      rw [dropperref02_Valid.l0, if_pos (by omega), if_pos (by omega), from_some, decide_eq_true c1, from_some, decide_eq_true n1, from_some, decide_eq_true n2, wsucc i (by omega)]
      simp only [Option.bind_some, if_true]
      cases i with
      | zero => rw [if_neg (by omega)]
      | succ j =>
        rw [wpred j (by omega), if_pos (by omega), if_pos (by omega), if_pos (by omega), if_neg]
        rcases c2 with h | h
        · omega
        · exact Int.not_le.2 h
    · rw [decide_eq_false (fun h => c (h.2 i hlt))]
      refine ev_some _ fun k => ?_
      rw [dropperref02_Valid.l0, if_pos (by omega), if_pos (by omega), from_some, from_some, from_some]
      by_cases a1 : 0 ≤ (wn l i).f0 ∧ (wn l i).f0 ≤ 100000
      · rw [decide_eq_true a1]
        simp only [Option.bind_some, if_true]
        by_cases a2 : -10000 ≤ (wn l i).f1 ∧ (wn l i).f1 ≤ 10000
        · rw [decide_eq_true a2]
          simp only [if_true]
          by_cases a3 : (wn l i).f1 ≤ (wn l i).f2 ∧ (wn l i).f2 ≤ 10000
          · rw [decide_eq_true a3]
            simp only [if_true]
            cases i with
            | zero => exact absurd ⟨a1, .inl rfl, a2.1, a3.1, a3.2⟩ c
            | succ j =>
              rw [wpred j (by omega), if_pos (by omega), if_pos (by omega), if_pos (by omega), if_pos]
              by_cases a4 : (wn l (j + 1)).f0 ≤ (wn l j).f0
              · exact a4
              · exact absurd ⟨a1, .inr (by simpa using a4), a2.1, a3.1, a3.2⟩ c
          · rw [decide_eq_false a3]; simp
        · rw [decide_eq_false a2]; simp
      · rw [decide_eq_false a1]; simp

open Classical in
theorem ref_valid_ev (l : List S72) (hl : l.length ≤ 9223372036854775807) : Ev (fun k => dropperref02_Valid.f k l) (decide (okV l)) := ref_valid_loop l hl l.length 0 (by omega) (by omega) (by omega)

/-- A slope. -/
def slope (r n : Int) : Prop := 0 ≤ r ∧ r ≤ 1000 ∧ 1 ≤ n ∧ n ≤ 1000
instance (r n : Int) : Decidable (slope r n) := by unfold slope; infer_instance
/-- The step from i to the next window. -/
def stp (l : List S72) (r n : Int) (i : Nat) : Int := (r * ((wn l (i + 1)).f0 - (wn l i).f0)) / n
/-- The steps up to i. -/
def pre (l : List S72) (r n : Int) : Nat → Int
  | 0 => 0
  | i + 1 => pre l r n i + stp l r n i
/-- The steps between two windows. -/
def dst (l : List S72) (r n : Int) (i k : Nat) : Int := max (pre l r n i - pre l r n k) (pre l r n k - pre l r n i)

theorem okV.at_lt {l : List S72} (h : okV l) {i : Nat} (hi : i + 1 < l.length) : 0 ≤ (wn l i).f0 ∧ (wn l i).f0 < (wn l (i + 1)).f0 ∧ (wn l (i + 1)).f0 ≤ 100000 := by
  have h1 := h.2 i (by omega)
  have h2 := h.2 (i + 1) hi
  unfold good at h1 h2
  rw [Nat.add_sub_cancel] at h2
  omega
theorem stp_bd {l : List S72} (h : okV l) {r n : Int} (hs : slope r n) {i : Nat} (hi : i + 1 < l.length) : 0 ≤ stp l r n i ∧ stp l r n i ≤ 100000000 ∧ wrap64 (Int.tdiv (wrap64 (r * (wrap64 ((wn l (i + 1)).f0 - (wn l i).f0)))) n) = stp l r n i := by
  obtain ⟨h1, h2, h3⟩ := h.at_lt hi
  obtain ⟨s1, s2, s3, s4⟩ := hs
  unfold stp
  generalize (wn l (i + 1)).f0 = b at *
  generalize (wn l i).f0 = a at *
  rw [w64 (n := b - a) (by omega) (by omega)]
  have m := mul_bd (a := r) (b := b - a) (A := 1000) (B := 100000) (by omega) (by omega)
  have p : 0 ≤ r * (b - a) := Int.mul_nonneg s1 (by omega)
  rw [w64 (n := r * (b - a)) (by omega) (by omega), Int.tdiv_eq_ediv_of_nonneg p]
  have q1 : 0 ≤ r * (b - a) / n := Int.ediv_nonneg p (by omega)
  have q2 : r * (b - a) / n ≤ r * (b - a) := Int.ediv_le_self _ p
  refine ⟨q1, by omega, w64 (by omega) (by omega)⟩
theorem pre_bd {l : List S72} (h : okV l) {r n : Int} (hs : slope r n) : ∀ {i : Nat}, i < l.length → 0 ≤ pre l r n i ∧ pre l r n i ≤ 100000000 * i
  | 0, _ => by unfold pre; omega
  | i + 1, hi => by
    have := pre_bd h hs (i := i) (by omega)
    have := stp_bd h hs hi
    rw [pre]
    omega
theorem pre_bd' {l : List S72} (h : okV l) {r n : Int} (hs : slope r n) {i : Nat} (hi : i < l.length) : 0 ≤ pre l r n i ∧ pre l r n i ≤ 3000000000 := by
  have := pre_bd h hs hi
  have := h.1.2
  omega
theorem pre_mono {l : List S72} (h : okV l) {r n : Int} (hs : slope r n) {i : Nat} : ∀ {k : Nat}, i ≤ k → k < l.length → pre l r n i ≤ pre l r n k
  | 0, hik, _ => by
    obtain rfl : i = 0 := by omega
    omega
  | k + 1, hik, hk => by
    by_cases e : i = k + 1
    · subst e; omega
    · have := pre_mono h hs (i := i) (k := k) (by omega) (by omega)
      have := stp_bd h hs hk
      rw [pre]
      omega
theorem dst_self (l : List S72) (r n : Int) (i : Nat) : dst l r n i i = 0 := by unfold dst; omega
theorem dst_comm (l : List S72) (r n : Int) (i k : Nat) : dst l r n i k = dst l r n k i := by unfold dst; omega
theorem dst_le {l : List S72} (h : okV l) {r n : Int} (hs : slope r n) {i k : Nat} (hik : i ≤ k) (hk : k < l.length) : dst l r n i k = pre l r n k - pre l r n i := by
  have := pre_mono h hs hik hk
  unfold dst; omega
theorem dst_bd {l : List S72} (h : okV l) {r n : Int} (hs : slope r n) {i k : Nat} (hi : i < l.length) (hk : k < l.length) : 0 ≤ dst l r n i k ∧ dst l r n i k ≤ 3000000000 := by
  have := pre_bd' h hs hi
  have := pre_bd' h hs hk
  unfold dst; omega

/-- The places of windows. -/
def plc (l : List S72) (r n : Int) : List Int := (List.range l.length).map (pre l r n)
theorem plc_len (l : List S72) (r n : Int) : (plc l r n).length = l.length := by simp [plc]
theorem rd_map (f : Nat → Int) {m i : Nat} (h : i < m) : rd ((List.range m).map f) (i : Int) = f i := by
  simp [rd, List.getD_eq_getElem?_getD, h]
theorem rd_plc (l : List S72) (r n : Int) {i : Nat} (h : i < l.length) : rd (plc l r n) (i : Int) = pre l r n i := rd_map _ h
theorem rd_set (x : List Int) {i j : Nat} (v : Int) (hi : i < x.length) (hj : j < x.length) : rd (x.set i v) (j : Int) = if j = i then v else rd x (j : Int) := by
  simp only [rd, List.getD_eq_getElem?_getD, Int.toNat_natCast, List.getElem?_set]
  by_cases e : i = j
  · subst e; simp [hi]
  · rw [if_neg e, if_neg (fun h => e h.symm)]
theorem rd_ext {x : List Int} {m : Nat} {f : Nat → Int} (hl : x.length = m) (h : ∀ i, i < m → rd x (i : Int) = f i) : x = (List.range m).map f := by
  refine List.ext_getElem (by simp [hl]) fun i h1 h2 => ?_
  have := h i (by omega)
  simp only [rd, List.getD_eq_getElem?_getD, Int.toNat_natCast, List.getElem?_eq_getElem h1, Option.getD_some] at this
  simp [this]

theorem to_some {l : List S72} (h : okV l) {r n : Int} (hs : slope r n) {i k : Nat} (hi : i < l.length) (hk : k < l.length) : wire_places_to.f (plc l r n) i k = some (dst l r n i k) := by
  have b1 := pre_bd' h hs hi
  have b2 := pre_bd' h hs hk
  unfold wire_places_to.f
  rw [plc_len, if_pos (by omega), if_pos (by omega), if_pos (by omega), if_pos (by omega), rd_plc l r n hi, rd_plc l r n hk, w64 (by omega) (by omega), w64 (by omega) (by omega), mx_eq]
  rfl

theorem placed_loop {l : List S72} (h : okV l) {r n : Int} (hs : slope r n) : ∀ (d i : Nat) (x : List Int), l.length - i = d → 1 ≤ i → i ≤ l.length → x.length = l.length → (∀ j, j < i → rd x (j : Int) = pre l r n j) →
    Ev (fun k => wire_placed.l0 k l r n x i) (plc l r n) := by
  intro d
  induction d with
  | zero =>
    intro i x hd h1 hi hx hj
    obtain rfl : i = l.length := by omega
    refine ev_some _ fun k => ?_
    rw [wire_placed.l0, if_neg (by omega)]
    congr 1
    exact rd_ext hx hj
  | succ d ih =>
    intro i x hd h1 hi hx hj
    obtain ⟨j, rfl⟩ : ∃ j, i = j + 1 := ⟨i - 1, by omega⟩
    have hlt : j + 1 < l.length := by omega
    have hl30 := h.1.2
    have b1 := pre_bd' h hs (i := j) (by omega)
    obtain ⟨b2, b3, b4⟩ := stp_bd h hs hlt
    have e := ih (j + 1 + 1) (x.set (j + 1) (pre l r n (j + 1))) (by omega) (by omega) (by omega) (by rw [List.length_set]; exact hx) (fun m hm => by
      rw [rd_set x _ (by omega) (by omega)]
      by_cases q : m = j + 1
      · rw [if_pos q, q]
      · rw [if_neg q]; exact hj m (by omega))
    refine Ev.step (fun k => ?_) e
    rw [wire_placed.l0, wpred j (by omega), if_pos (by omega), if_pos (by omega), if_pos (by omega), if_pos (by omega), if_pos (by omega), if_neg (by have := hs.2.2.1; omega), if_pos (by omega), hj j (by omega), b4, w64 (n := pre l r n j + stp l r n j) (by omega) (by omega), wsucc (j + 1) (by omega)]
    rfl
theorem placed_ev {l : List S72} (h : okV l) {r n : Int} (hs : slope r n) : Ev (fun k => wire_placed.f k l r n) (plc l r n) := by
  have hl := h.1
  refine Ev.congr (fun k => ?_) (placed_loop h hs (l.length - 1) 1 (List.replicate l.length 0) (by omega) (by omega) (by omega) (by simp) (fun j hj => by
    obtain rfl : j = 0 := by omega
    simp only [rd, pre, List.getD_eq_getElem?_getD, Int.natCast_zero, Int.toNat_zero, List.getElem?_replicate]
    split <;> rfl))
  unfold wire_placed.f
  rw [if_pos (by omega), if_pos (by omega)]
  rfl

theorem steps_loop {l : List S72} (h : okV l) {r n : Int} (hs : slope r n) {a b m : Nat} (hab : a ≤ b) (hb : b < l.length) (i k : Int) (hik : mx i k = b) : ∀ (d j : Nat), b - j = d → a ≤ j → j ≤ b →
    Ev (fun f => dropperref02_steps.l0 f l r n i k (pre l r n j - pre l r n a) j) (pre l r n b - pre l r n a) := by
  intro d
  induction d with
  | zero =>
    intro j hd hj hjb
    obtain rfl : j = b := by omega
    refine ev_some _ fun f => ?_
    rw [dropperref02_steps.l0, hik, if_neg (by omega)]
  | succ d ih =>
    intro j hd hj hjb
    have hl30 := h.1.2
    have b1 := pre_bd' h hs (i := j) (by omega)
    have b5 := pre_bd' h hs (i := a) (by omega)
    obtain ⟨b2, b3, b4⟩ := stp_bd h hs (i := j) (by omega)
    have e := ih (j + 1) (by omega) (by omega) (by omega)
    refine Ev.step (fun f => ?_) e
    rw [dropperref02_steps.l0, hik, wsucc j (by omega), if_pos (by omega), if_pos (by omega), if_pos (by omega), if_pos (by omega), if_pos (by omega), if_neg (by have := hs.2.2.1; omega), b4, w64 (n := pre l r n j - pre l r n a + stp l r n j) (by omega) (by omega), pre]
    congr 1
    omega
theorem steps_ev {l : List S72} (h : okV l) {r n : Int} (hs : slope r n) {i k : Nat} (hi : i < l.length) (hk : k < l.length) : Ev (fun f => dropperref02_steps.f f l r n i k) (dst l r n i k) := by
  by_cases c : i ≤ k
  · rw [dst_le h hs c hk]
    refine Ev.congr (fun f => ?_) (steps_loop h hs (m := 0) c hk i k (by rw [mx_eq]; omega) (k - i) i (by omega) (by omega) c)
    unfold dropperref02_steps.f
    rw [mn_eq, show min (i : Int) (k : Int) = (i : Int) by omega, Int.sub_self]
  · rw [dst_comm, dst_le h hs (by omega) hi]
    refine Ev.congr (fun f => ?_) (steps_loop h hs (m := 0) (show k ≤ i by omega) hi i k (by rw [mx_eq]; omega) (i - k) k (by omega) (by omega) (by omega))
    unfold dropperref02_steps.f
    rw [mn_eq, show min (i : Int) (k : Int) = (k : Int) by omega, Int.sub_self]

open Classical in
/-- The error of windows and a slope. -/
noncomputable def askE (l : List S72) (r n : Int) : Int := if okV l then (if slope r n then 0 else 2) else 20
open Classical in
theorem ref_asked_ev (l : List S72) (hl : l.length ≤ 9223372036854775807) (r n : Int) : Ev (fun k => dropperref02_asked.f k l r n) (askE l r n) := by
  have v := ref_valid_ev l hl
  unfold askE
  by_cases c : okV l
  · rw [decide_eq_true c] at v
    rw [if_pos c]
    refine Ev.bind v ?_
    simp only [if_true]
    refine Ev.congr (fun k => ?_) (Ev.now _)
    unfold dropperref02_Slope.f
    rw [from_some, from_some]
    by_cases s1 : 0 ≤ r ∧ r ≤ 1000
    · rw [decide_eq_true s1]
      by_cases s2 : 1 ≤ n ∧ n ≤ 1000
      · rw [decide_eq_true s2, if_pos ⟨s1.1, s1.2, s2.1, s2.2⟩]; simp
      · rw [decide_eq_false s2, if_neg (fun z => s2 z.2.2)]; simp
    · rw [decide_eq_false s1, if_neg (fun z => s1 ⟨z.1, z.2.1⟩)]; simp
  · rw [decide_eq_false c] at v
    rw [if_neg c]
    exact Ev.bind v (Ev.now _)
open Classical in
theorem wire_asked_ev (l : List S72) (hl : l.length ≤ 9223372036854775807) (r n : Int) : Ev (fun k => wire_asked.f k l r n) (if askE l r n = 0 then plc l r n else [], askE l r n) := by
  have v := wire_valid_ev l hl
  unfold askE
  by_cases c : okV l
  · rw [decide_eq_true c] at v
    rw [if_pos c]
    refine Ev.bind v ?_
    simp only [if_true, within_some, Option.bind_some]
    by_cases s1 : 0 ≤ r ∧ r ≤ 1000
    · rw [decide_eq_true s1]
      by_cases s2 : 1 ≤ n ∧ n ≤ 1000
      · have s : slope r n := ⟨s1.1, s1.2, s2.1, s2.2⟩
        rw [decide_eq_true s2, if_pos s]
        simp only [if_true]
        exact Ev.bind (placed_ev c s) (Ev.now _)
      · rw [decide_eq_false s2, show (if slope r n then (0 : Int) else 2) = 2 from if_neg (fun z => s2 z.2.2)]
        exact Ev.now _
    · rw [decide_eq_false s1, show (if slope r n then (0 : Int) else 2) = 2 from if_neg (fun z => s1 ⟨z.1, z.2.1⟩)]
      exact Ev.now _
  · rw [decide_eq_false c] at v
    rw [if_neg c]
    refine Ev.bind v ?_
    exact Ev.now _
theorem askE_zero {l : List S72} {r n : Int} (h : askE l r n = 0) : okV l ∧ slope r n := by
  unfold askE at h
  split at h
  · split at h
    · constructor <;> assumption
    · omega
  · omega
theorem askE_ok {l : List S72} {r n : Int} (h : okV l) (hs : slope r n) : askE l r n = 0 := by
  unfold askE; rw [if_pos h, if_pos hs]
theorem askE_cases (l : List S72) (r n : Int) : askE l r n = 0 ∨ askE l r n = 2 ∨ askE l r n = 20 := by
  unfold askE; split
  · split
    · exact .inl rfl
    · exact .inr (.inl rfl)
  · exact .inr (.inr rfl)
end Go.Proofs.Ytciepmpadcpkbaa.G
