/- Plain laws of the printed functions, out of this session's plain texts: what TopArm_pure needs. Plain Lean. -/
import Derived.Test.YtiapmkndgalgnaaGF14
import Derived.Test.YtiapmkndgalgnaaGF16
import Derived.Test.YtiapmkndgalgnaaGF17
import Derived.Test.YtiapmkndgalgnaaGF18
import Derived.Test.YtiapmkndgalgnaaGF20
import Derived.Test.YtiapmkndgalgnaaGF22
import Derived.Test.YtiapmkndgalgnaaGF23
import Derived.Test.YtiapmkndgalgnaaGF24
import Derived.Test.YtiapmkndgalgnaaGF25
import Derived.Test.YtiapmkndgalgnaaGF26
import Derived.Test.YtiapmkndgalgnaaGF27
import Derived.Test.YtiapmkndgalgnaaGF29
import Derived.Test.YtiapmkndgalgnaaGF30
import Derived.Test.YtiapmkndgalgnaaGF32
import Derived.Test.YtiapmkndgalgnaaGF45
import Derived.Test.YtiapmkndgalgnaaGF46
import Derived.Test.YtiapmkndgalgnaaGF47
import Derived.Test.YtiapmkndgalgnaaGF48
import Derived.Test.YtiapmkndgalgnaaGF51
import Derived.Test.YtiapmkndgalgnaaGF52
import Derived.Test.YtiapmkndgalgnaaGF53
import Derived.Test.YtiapmkndgalgnaaGF54
import Derived.Test.YtiapmkndgalgnaaGF55
import Derived.Test.YtiapmkndgalgnaaGF56
import Derived.Test.YtiapmkndgalgnaaGF57
import Derived.Test.YtiapmkndgalgnaaGF58
import Derived.Test.YtiapmkndgalgnaaGF59
import Derived.Test.YtiapmkndgalgnaaGF60
import Derived.Test.YtiapmkndgalgnaaGF61
import Derived.Test.YtiapmkndgalgnaaGF62
import Derived.Test.YtiapmkndgalgnaaGF63
import Derived.Test.YtiapmkndgalgnaaGF64
import Derived.Test.YtiapmkndgalgnaaGF71
import Derived.Test.YtiapmkndgalgnaaGF73
import Derived.Test.YtiapmkndgalgnaaGF74
import Derived.Test.YtiapmkndgalgnaaGF75
import Derived.Test.YtiapmkndgalgnaaGF76
import Derived.Test.YtiapmkndgalgnaaGF77
import Derived.Test.YtiapmkndgalgnaaGBase
import Derived.Test.YtiapmkndgalgnaaGF11D
namespace Go.Proofs.Ytiapmkndgalgnaa.G
set_option linter.unusedVariables false
set_option linter.unusedSimpArgs false
set_option linter.unusedSectionVars false
open Go.RowKit Go.Proofs.YtiapmkndgalgnaaW.PrintWords Go.Proofs.YtiapmkndgalgnaaW.PrintLast
open Rat (divInt)
theorem w64 {n : Int} (h : -9223372036854775808 ≤ n) (h2 : n ≤ 9223372036854775807) : wrap64 n = n := by unfold wrap64; omega
theorem lowest_loop (x0 x1 : Int) : ∀ (k : Nat) (a b : Int), 0 ≤ a → 0 ≤ b → (a ≠ 0 ∨ b ≠ 0) → b < k →
  arm_lowest.l0 k x0 x1 a b = some (wrap64 (x0.tdiv (Int.gcd a b)), wrap64 (x1.tdiv (Int.gcd a b)))
 | 0, a, b, ha, hb, h, hk => by omega
 | k + 1, a, b, ha, hb, h, hk => by
  simp only [arm_lowest.l0]
  by_cases e : b = 0
  ·subst e
   have ha' : a ≠ 0 := by omega
   rw [if_pos rfl, if_neg ha']
   simp [Int.natAbs_of_nonneg ha]
  ·rw [if_neg e]
   have hm : 0 ≤ a.tmod b := Int.tmod_nonneg _ ha
   have hl : a.tmod b < b := Int.tmod_lt_of_pos _ (by omega)
   rw [lowest_loop x0 x1 k b (a.tmod b) hb hm (Or.inl e) (by omega)]
   have hg : Int.gcd b (a.tmod b) = Int.gcd a b := by
    rw [Int.tmod_eq_emod_of_nonneg ha]
    obtain ⟨m, rfl⟩ := Int.eq_ofNat_of_zero_le ha
    obtain ⟨j, rfl⟩ := Int.eq_ofNat_of_zero_le hb
    show Nat.gcd j (m % j) = Nat.gcd m j
    rw [Nat.gcd_comm j, ← Nat.gcd_rec, Nat.gcd_comm]
   rw [hg]
/-- 'lowest' tells the fraction n / d as Lean's Rat does. -/
theorem lowest_ev (n d : Int) (hn : -4611686018427387904 ≤ n) (hn2 : n ≤ 4611686018427387904) (hd : 0 < d) (hd2 : d ≤ 4611686018427387904) :
  Ev (fun k => arm_lowest.f k n d) ((divInt n d).num, ((divInt n d).den : Int)) := by
 refine ⟨d.toNat + 1, fun k hk => ?_⟩
 have hmx : mx n (wrap64 (-n)) = (n.natAbs : Int) := by
  rw [w64 (by omega) (by omega)]; unfold mx; omega
 show arm_lowest.f k n d = _
 unfold arm_lowest.f
 rw [hmx, lowest_loop n d k _ d (by omega) (by omega) (by omega) (by omega)]
 have hg : Int.gcd (n.natAbs : Int) d = Int.gcd d n := by
  rw [Int.gcd_comm]; simp [Int.gcd]
 rw [hg]
 have hg0 : 0 < Int.gcd d n := Int.gcd_pos_of_ne_zero_left _ (by omega)
 have d1 : ((Int.gcd d n : Nat) : Int) ∣ n := Int.gcd_dvd_right ..
 have d2 : ((Int.gcd d n : Nat) : Int) ∣ d := Int.gcd_dvd_left ..
 have e1 : n.tdiv (Int.gcd d n) = n / (Int.gcd d n : Int) := Int.tdiv_eq_ediv_of_dvd d1
 have e2 : d.tdiv (Int.gcd d n) = d / (Int.gcd d n : Int) := Int.tdiv_eq_ediv_of_dvd d2
 rw [e1, e2, Rat.num_divInt, Rat.den_divInt, if_neg (by omega), Int.sign_eq_one_of_pos hd, Int.one_mul]
 have b1 : -4611686018427387904 ≤ n / (Int.gcd d n : Int) ∧ n / (Int.gcd d n : Int) ≤ 4611686018427387904 := by
  have hg1 : (1 : Int) ≤ (Int.gcd d n : Int) := by omega
  clear hg0 e1 e2 d2 hg hmx
  generalize (Int.gcd d n : Int) = g at *
  obtain ⟨q, rfl⟩ := d1
  rw [Int.mul_ediv_cancel_left _ (by omega)]
  constructor
  ·by_cases hq : 0 ≤ q
   ·omega
   ·have : g * q ≤ 1 * q := Int.mul_le_mul_of_nonpos_right hg1 (by omega)
    omega
  ·by_cases hq : 0 ≤ q
   ·have : 1 * q ≤ g * q := Int.mul_le_mul_of_nonneg_right hg1 hq
    omega
   ·omega
 have b2 : 0 ≤ d / (Int.gcd d n : Int) ∧ d / (Int.gcd d n : Int) ≤ 4611686018427387904 := ⟨Int.ediv_nonneg (by omega) (by omega), by
  have := Int.ediv_le_self (b := (Int.gcd d n : Int)) (a := d) (by omega)
  omega⟩
 rw [w64 (by omega) (by omega), w64 (by omega) (by omega)]
 have e3 : d / (Int.gcd d n : Int) = ((d.natAbs / Int.gcd d n : Nat) : Int) := by
  rw [Int.natCast_ediv, Int.natAbs_of_nonneg (by omega)]
 rw [e3]
theorem ratio_num_le {n d : Int} (hd : 0 < d) : (divInt n d).num.natAbs ≤ n.natAbs ∧ (divInt n d).den ≤ d.natAbs := by
 rw [Rat.num_divInt, Rat.den_divInt, if_neg (by omega), Int.sign_eq_one_of_pos hd, Int.one_mul]
 refine ⟨?_, Nat.div_le_self _ _⟩
 have d1 : ((Int.gcd d n : Nat) : Int) ∣ n := Int.gcd_dvd_right ..
 have hg0 : 0 < Int.gcd d n := Int.gcd_pos_of_ne_zero_left _ (by omega)
 generalize Int.gcd d n = g at *
 obtain ⟨q, rfl⟩ := d1
 rw [Int.mul_ediv_cancel_left _ (by omega), Int.natAbs_mul]
 have : 1 * q.natAbs ≤ g * q.natAbs := Nat.mul_le_mul_right _ (by omega)
 simp only [Int.natAbs_natCast]
 omega
/-- 'less' of two fractions is their order. -/
theorem less_ev (a b : Rat) (ha : a.num.natAbs ≤ 2147483647) (ha2 : a.den ≤ 2147483647) (hb : b.num.natAbs ≤ 2147483647) (hb2 : b.den ≤ 2147483647) :
  arm_less.f a.num a.den b.num b.den = some (decide (a < b)) := by
 unfold arm_less.f
 have p : ∀ (x : Int) (y : Nat), x.natAbs ≤ 2147483647 → y ≤ 2147483647 → -9223372036854775808 ≤ x * y ∧ x * y ≤ 9223372036854775807 := by
  intro x y hx hy
  have h1 : (x * y).natAbs ≤ 2147483647 * 2147483647 := by
   rw [Int.natAbs_mul]; exact Nat.mul_le_mul hx (by simpa using hy)
  omega
 rw [w64 (p _ _ ha hb2).1 (p _ _ ha hb2).2, w64 (p _ _ hb ha2).1 (p _ _ hb ha2).2]
 congr 1
 rw [decide_eq_decide, Rat.lt_iff]
theorem within_some (a b c : Int) : arm_within.f a b c = some (decide (a ≤ b ∧ b ≤ c)) := by
 unfold arm_within.f
 by_cases h : a ≤ b <;> simp [h]
theorem rd_nat (l : List S73) (i : Nat) (h : i < l.length) : rd_T73 l (i : Int) = l[i] := by
 simp [rd_T73, List.getD_eq_getElem?_getD, h]
theorem drop_rd (l : List S73) (i : Nat) (h : i < l.length) : l.drop i = rd_T73 l (i : Int) :: l.drop (i + 1) := by
 rw [rd_nat l i h]; exact List.drop_eq_getElem_cons h
/-- A window that is as described, behind one at 'last'. -/
def okN (last : Int) (w : S73) : Prop := last + 1 ≤ w.f0 ∧ w.f0 ≤ 100000 ∧ -1000 ≤ w.f1 ∧ w.f1 ≤ w.f2 ∧ w.f2 ≤ 1000
instance (last : Int) (w : S73) : Decidable (okN last w) := by unfold okN; infer_instance
/-- Windows that are as described, behind one at 'last'. -/
def okF : Int → List S73 → Bool
 | _, [] => true
 | last, w :: ws => decide (okN last w) && okF w.f0 ws
/-- Valid. -/
def okV (l : List S73) : Bool := decide (1 ≤ l.length ∧ l.length ≤ 30) && okF (-1) l
theorem ev_some {α : Type} (r : α) {g : Nat → Option α} (h : ∀ k, g (k + 1) = some r) : Ev g r := Ev.step (f := fun _ => some r) h (Ev.now r)
theorem arm_valid_loop (l : List S73) (hl : l.length ≤ 4611686018427387904) : ∀ (d i : Nat) (last : Int), l.length - i = d → i ≤ l.length → -1 ≤ last → last ≤ 100000 →
  Ev (fun k => arm_Valid.l0 k last l l.length i) (okF last (l.drop i)) := by
 intro d
 induction d with
 | zero =>
  intro i last hd hi h1 h2
  have e : i = l.length := by omega
  subst e
  refine ev_some _ fun k => ?_
  simp only [arm_Valid.l0]
  rw [if_neg (by omega), List.drop_length]
  rfl
 | succ d ih =>
  intro i last hd hi h1 h2
  have hlt : i < l.length := by omega
  rw [drop_rd l i hlt]
  generalize hw : rd_T73 l (i : Int) = w
  by_cases c : okN last w
  ·have c' := c
   obtain ⟨c1, c2, c3, c4, c5⟩ := c'
   refine Ev.step (f := fun k => arm_Valid.l0 k w.f0 l l.length (i + 1 : Nat)) (fun k => ?_) ?_
   ·simp only [arm_Valid.l0]
    rw [if_pos (by omega), if_pos (by omega), if_pos (by omega), hw, within_some, within_some, w64 (n := last + 1) (by omega) (by omega), decide_eq_true (by omega), decide_eq_true (by omega)]
    simp only [Option.bind_some, if_true]
    rw [if_neg (by omega), w64 (by omega) (by omega)]
    rfl
   ·have := ih (i + 1) w.f0 (by omega) (by omega) (by omega) (by omega)
    simpa [okF, c] using this
  ·have e : okF last (w :: l.drop (i + 1)) = false := by simp [okF, c]
   rw [e]
   refine ev_some _ fun k => ?_
   simp only [arm_Valid.l0]
   rw [if_pos (by omega), if_pos (by omega), if_pos (by omega), hw, within_some, within_some, w64 (n := last + 1) (by omega) (by omega)]
   by_cases a1 : last + 1 ≤ w.f0 ∧ w.f0 ≤ 100000
   ·rw [decide_eq_true a1]
    simp only [Option.bind_some, if_true]
    by_cases a2 : -1000 ≤ w.f1 ∧ w.f1 ≤ w.f2
    ·rw [decide_eq_true a2]
     simp only [if_true]
     rw [if_pos]
     unfold okN at c
     omega
    ·rw [decide_eq_false a2]
     simp
   ·rw [decide_eq_false a1]
    simp
theorem arm_valid_ev (l : List S73) (hl : l.length ≤ 4611686018427387904) : Ev (fun k => arm_Valid.f k l) (okV l) := by
 obtain ⟨K, h⟩ := arm_valid_loop l hl l.length 0 (-1) (by omega) (by omega) (by omega) (by omega)
 refine ⟨K, fun k hk => ?_⟩
 have := h k hk
 dsimp only at this ⊢
 unfold arm_Valid.f okV
 rw [within_some]
 by_cases c : (1 : Int) ≤ l.length ∧ (l.length : Int) ≤ 30
 ·rw [decide_eq_true c, decide_eq_true (show 1 ≤ l.length ∧ l.length ≤ 30 by omega)]
  simp only [Option.bind_some, if_true, Bool.true_and]
  simpa using this
 ·rw [decide_eq_false c, decide_eq_false (show ¬ (1 ≤ l.length ∧ l.length ≤ 30) by omega)]
  simp
/-- Where the window ahead of i is. -/
def lastOf (l : List S73) (i : Nat) : Int := if i = 0 then -1 else (rd_T73 l ((i - 1 : Nat) : Int)).f0
theorem ref_valid_loop (l : List S73) (hl : l.length ≤ 9223372036854775807) : ∀ (d i : Nat), l.length - i = d → i ≤ l.length → -1 ≤ lastOf l i →
  Ev (fun k => dropperref03_Valid.l0 k l i) (decide (1 ≤ l.length ∧ l.length ≤ 30) && okF (lastOf l i) (l.drop i)) := by
 intro d
 induction d with
 | zero =>
  intro i hd hi ho
  have e : i = l.length := by omega
  subst e
  refine ev_some _ fun k => ?_
  simp only [dropperref03_Valid.l0]
  rw [if_neg (by omega), List.drop_length]
  by_cases c : 1 ≤ l.length
  ·rw [if_pos (by omega)]
   simp [okF, c]
   omega
  ·rw [if_neg (by omega)]
   simp [okF, c]
 | succ d ih =>
  intro i hd hi ho
  have hlt : i < l.length := by omega
  have hn : lastOf l (i + 1) = (rd_T73 l (i : Int)).f0 := by simp [lastOf]
  rw [drop_rd l i hlt]
  generalize hw : rd_T73 l (i : Int) = w at *
  have hp : ∀ (a : Option Bool), (if (i : Int) > 0 then (if 0 ≤ wrap64 ((i : Int) - 1) then (if wrap64 ((i : Int) - 1) < (l.length : Int) then (if w.f0 ≤ (rd_T73 l (wrap64 ((i : Int) - 1))).f0 then some false else a) else none) else none) else a) =
    if (0 < i ∧ w.f0 ≤ lastOf l i) then some false else a := by
   intro a
   by_cases c : 0 < i
   ·have e1 : wrap64 ((i : Int) - 1) = ((i - 1 : Nat) : Int) := by rw [w64 (by omega) (by omega)]; omega
    have e2 : lastOf l i = (rd_T73 l ((i - 1 : Nat) : Int)).f0 := by unfold lastOf; rw [if_neg (by omega)]
    rw [e1, e2, if_pos (by omega), if_pos (by omega), if_pos (by omega)]
    by_cases c2 : w.f0 ≤ (rd_T73 l ((i - 1 : Nat) : Int)).f0
    ·rw [if_pos c2, if_pos ⟨c, c2⟩]
    ·rw [if_neg c2, if_neg (fun h => c2 h.2)]
   ·rw [if_neg (by omega), if_neg (fun h => c h.1)]
  have h0 : i = 0 → lastOf l i = -1 := by intro e; unfold lastOf; rw [if_pos e]
  by_cases c : okN (lastOf l i) w
  ·have c' := c
   obtain ⟨c1, c2, c3, c4, c5⟩ := c'
   refine Ev.step (f := fun k => dropperref03_Valid.l0 k l (i + 1 : Nat)) (fun k => ?_) ?_
   ·simp only [dropperref03_Valid.l0]
    rw [if_pos (by omega), if_pos (by omega), hw, hp, if_neg (by omega), if_neg (by omega), if_neg (by omega), if_neg (by omega), if_neg (by omega), if_neg (by omega), w64 (by omega) (by omega)]
    rfl
   ·have := ih (i + 1) (by omega) (by omega) (by omega)
    rw [hn] at this
    simpa [okF, c] using this
  ·have e : okF (lastOf l i) (w :: l.drop (i + 1)) = false := by simp [okF, c]
   rw [e, Bool.and_false]
   refine ev_some _ fun k => ?_
   simp only [dropperref03_Valid.l0]
   rw [if_pos (by omega), if_pos (by omega), hw, hp]
   unfold okN at c
   by_cases a1 : w.f0 < 0
   ·rw [if_pos a1]
   rw [if_neg a1]
   by_cases a2 : w.f0 > 100000
   ·rw [if_pos a2]
   rw [if_neg a2]
   by_cases a3 : 0 < i ∧ w.f0 ≤ lastOf l i
   ·rw [if_pos a3]
   rw [if_neg a3]
   by_cases a4 : w.f1 < -1000
   ·rw [if_pos a4]
   rw [if_neg a4]
   by_cases a5 : w.f2 > 1000
   ·rw [if_pos a5]
   rw [if_neg a5, if_pos]
   by_cases a6 : 0 < i
   ·omega
   ·have := h0 (by omega)
    omega
theorem ref_valid_far (l : List S73) (hl : l.length ≤ 9223372036854775807) : Ev (fun k => dropperref03_Valid.f k l) (okV l) := by
 have h := ref_valid_loop l hl l.length 0 (by omega) (by omega) (by simp [lastOf])
 simpa [okV, lastOf, dropperref03_Valid.f] using h
theorem ref_valid_ev (l : List S73) (hl : l.length ≤ 4611686018427387904) : Ev (fun k => dropperref03_Valid.f k l) (okV l) := ref_valid_far l (by omega)
/-- A window within bounds. -/
def inB (w : S73) : Prop := 0 ≤ w.f0 ∧ w.f0 ≤ 100000 ∧ -1000 ≤ w.f1 ∧ w.f1 ≤ w.f2 ∧ w.f2 ≤ 1000
/-- Windows in order, each within bounds. -/
structure Okl (l : List S73) : Prop where
 bnd : ∀ w ∈ l, inB w
 asc : l.Pairwise (fun a b => a.f0 < b.f0)
theorem okF_okl : ∀ (l : List S73) (last : Int), -1 ≤ last → okF last l = true → Okl l ∧ ∀ w ∈ l, last < w.f0
 | [], _, _, _ => ⟨⟨by simp, List.Pairwise.nil⟩, by simp⟩
 | w :: ws, last, h, ho => by
  simp only [okF, Bool.and_eq_true, decide_eq_true_eq] at ho
  obtain ⟨⟨c1, c2, c3, c4, c5⟩, h2⟩ := ho
  obtain ⟨h3, h4⟩ := okF_okl ws w.f0 (by omega) h2
  refine ⟨⟨?_, List.Pairwise.cons h4 h3.asc⟩, ?_⟩
  ·intro x hx
   rcases List.mem_cons.1 hx with rfl | hx
   ·exact ⟨by omega, by omega, by omega, by omega, by omega⟩
   ·exact h3.bnd x hx
  ·intro x hx
   rcases List.mem_cons.1 hx with rfl | hx
   ·omega
   ·have := h4 x hx; omega
theorem okV_okl {l : List S73} (h : okV l = true) : Okl l ∧ 1 ≤ l.length ∧ l.length ≤ 30 := by
 simp only [okV, Bool.and_eq_true, decide_eq_true_eq] at h
 exact ⟨(okF_okl l (-1) (by omega) h.2).1, h.1⟩
theorem Okl.sub {l m : List S73} (h : Okl l) (s : m.Sublist l) : Okl m := ⟨fun w hw => h.bnd w (s.subset hw), h.asc.sublist s⟩
/-- The bounds that two windows set to a slope. -/
def loS (a b : S73) : Rat := divInt (b.f1 - a.f2) (b.f0 - a.f0)
def hiS (a b : S73) : Rat := divInt (b.f2 - a.f1) (b.f0 - a.f0)
def small (p : Rat) : Prop := p.num.natAbs ≤ 100000 ∧ p.den ≤ 100000
theorem lo_small {a b : S73} (ha : inB a) (hb : inB b) (h : a.f0 < b.f0) : small (loS a b) := by
 obtain ⟨_, _, _, _, _⟩ := ha
 obtain ⟨_, _, _, _, _⟩ := hb
 have := ratio_num_le (n := b.f1 - a.f2) (d := b.f0 - a.f0) (by omega)
 exact ⟨by unfold loS; omega, by unfold loS; omega⟩
theorem hi_small {a b : S73} (ha : inB a) (hb : inB b) (h : a.f0 < b.f0) : small (hiS a b) := by
 obtain ⟨_, _, _, _, _⟩ := ha
 obtain ⟨_, _, _, _, _⟩ := hb
 have := ratio_num_le (n := b.f2 - a.f1) (d := b.f0 - a.f0) (by omega)
 exact ⟨by unfold hiS; omega, by unfold hiS; omega⟩
theorem small_less {p q : Rat} (hp : small p) (hq : small q) : arm_less.f p.num p.den q.num q.den = some (decide (p < q)) :=
 less_ev p q (by have := hp.1; omega) (by have := hp.2; omega) (by have := hq.1; omega) (by have := hq.2; omega)
abbrev St := Option (Rat × Rat)
def stepS (s : St) (a b : S73) : St :=
 match s with
 | none => some (loS a b, hiS a b)
 | some (p, q) => some (if p < loS a b then loS a b else p, if hiS a b < q then hiS a b else q)
def okS : St → Prop
 | none => True
 | some (p, q) => small p ∧ small q
def encS : St → Int × Int × Int × Int × Bool
 | none => (0, 0, 0, 0, false)
 | some (p, q) => (p.num, p.den, q.num, q.den, true)
theorem step_ok {s : St} {a b : S73} (hs : okS s) (ha : inB a) (hb : inB b) (h : a.f0 < b.f0) : okS (stepS s a b) := by
 have h1 := lo_small ha hb h
 have h2 := hi_small ha hb h
 cases s with
 | none => exact ⟨h1, h2⟩
 | some z =>
  obtain ⟨p, q⟩ := z
  simp only [stepS, okS]
  refine ⟨?_, ?_⟩ <;> split <;> first | exact h1 | exact h2 | exact hs.1 | exact hs.2
/-- One round of the inner loop. -/
theorem inner_step (l : List S73) (n : Int) (k i : Nat) (b : S73) (s : St) (hs : okS s) (hi : i < (l.take k).length) (hk : k ≤ 4611686018427387904) (hb : inB b) (ha : inB (rd_T73 (l.take k) (i : Int))) (hab : (rd_T73 (l.take k) (i : Int)).f0 < b.f0) {r : Int × Int × Int × Int × Bool}
  (hr : Ev (fun m => arm_slopes.l1 m l (encS (stepS s (rd_T73 (l.take k) (i : Int)) b)).2.2.2.2 l n (k : Int) (l.take k) ((l.take k).length : Int) ((i + 1 : Nat) : Int) (encS (stepS s (rd_T73 (l.take k) (i : Int)) b)).1 (encS (stepS s (rd_T73 (l.take k) (i : Int)) b)).2.1 (encS (stepS s (rd_T73 (l.take k) (i : Int)) b)).2.2.1 (encS (stepS s (rd_T73 (l.take k) (i : Int)) b)).2.2.2.1 b.f0 b.f1 b.f2) r) :
  Ev (fun m => arm_slopes.l1 m l (encS s).2.2.2.2 l n (k : Int) (l.take k) ((l.take k).length : Int) (i : Int) (encS s).1 (encS s).2.1 (encS s).2.2.1 (encS s).2.2.2.1 b.f0 b.f1 b.f2) r := by
 have hlen : (l.take k).length ≤ k := by rw [List.length_take]; omega
 generalize hv : l.take k = v at *
 generalize hA : rd_T73 v (i : Int) = a at *
 obtain ⟨a1, a2, a3, a4, a5⟩ := ha
 obtain ⟨b1, b2, b3, b4, b5⟩ := hb
 have hlo := lo_small ⟨a1, a2, a3, a4, a5⟩ ⟨b1, b2, b3, b4, b5⟩ hab
 have hhi := hi_small ⟨a1, a2, a3, a4, a5⟩ ⟨b1, b2, b3, b4, b5⟩ hab
 obtain ⟨K1, e1⟩ := lowest_ev (b.f1 - a.f2) (b.f0 - a.f0) (by omega) (by omega) (by omega) (by omega)
 obtain ⟨K2, e2⟩ := lowest_ev (b.f2 - a.f1) (b.f0 - a.f0) (by omega) (by omega) (by omega) (by omega)
 obtain ⟨K3, e3⟩ := hr
 refine ⟨K1 + K2 + K3 + 2, fun m hm => ?_⟩
 obtain ⟨m, rfl⟩ : ∃ j, m = j + 2 := ⟨m - 2, by omega⟩
 have e1 := e1 (m + 1) (by omega)
 have e2 := e2 (m + 1) (by omega)
 have e3 := e3 m (by omega)
 dsimp only at e1 e2 e3 ⊢
 rw [arm_slopes.l1, if_pos (by omega), if_pos (by omega), if_pos (by omega), hA, w64 (n := b.f1 - a.f2) (by omega) (by omega), w64 (n := b.f0 - a.f0) (by omega) (by omega), w64 (n := b.f2 - a.f1) (by omega) (by omega), e1]
 simp only [Option.bind_some]
 rw [e2]
 simp only [Option.bind_some]
 have hw : wrap64 ((i : Int) + 1) = ((i + 1 : Nat) : Int) := by rw [w64 (by omega) (by omega)]; rfl
 cases s with
 | none =>
  simp only [encS, stepS, loS, hiS] at e3 ⊢
  simp only [Bool.false_eq_true, if_false]
  rw [arm_slopes.j2, hw]
  simp only [Bool.false_eq_true, if_false, if_true]
  exact e3
 | some z =>
  obtain ⟨p, q⟩ := z
  have h1 := small_less hs.1 hlo
  have h2 := small_less hhi hs.2
  simp only [encS, stepS] at e3 ⊢
  unfold loS hiS at *
  rw [if_pos trivial, h1]
  simp only [Option.bind_some]
  rw [arm_slopes.j2, hw]
  by_cases c1 : p < divInt (b.f1 - a.f2) (b.f0 - a.f0) <;> by_cases c2 : divInt (b.f2 - a.f1) (b.f0 - a.f0) < q <;>
   simp only [c1, c2, decide_true, decide_false, if_true, if_false, h2, Option.bind_some, Bool.false_eq_true] at e3 ⊢ <;> exact e3
/-- The inner loop: a fold over what is left of the windows ahead. -/
theorem inner_fold (l : List S73) (n : Int) (k : Nat) (b : S73) (hk : k ≤ 4611686018427387904) (hb : inB b) (ho : ∀ a ∈ l.take k, inB a ∧ a.f0 < b.f0) {r : Int × Int × Int × Int × Bool} : ∀ (d i : Nat) (s : St), (l.take k).length - i = d → i ≤ (l.take k).length → okS s →
  (okS (((l.take k).drop i).foldl (fun s a => stepS s a b) s) → Ev (fun m => arm_slopes.l0 m l (encS (((l.take k).drop i).foldl (fun s a => stepS s a b) s)).2.2.2.2 l n ((k + 1 : Nat) : Int) (encS (((l.take k).drop i).foldl (fun s a => stepS s a b) s)).1 (encS (((l.take k).drop i).foldl (fun s a => stepS s a b) s)).2.1 (encS (((l.take k).drop i).foldl (fun s a => stepS s a b) s)).2.2.1 (encS (((l.take k).drop i).foldl (fun s a => stepS s a b) s)).2.2.2.1) r) →
  Ev (fun m => arm_slopes.l1 m l (encS s).2.2.2.2 l n (k : Int) (l.take k) ((l.take k).length : Int) (i : Int) (encS s).1 (encS s).2.1 (encS s).2.2.1 (encS s).2.2.2.1 b.f0 b.f1 b.f2) r := by
 intro d
 induction d with
 | zero =>
  intro i s hd hi hs hr
  have e : i = (l.take k).length := by omega
  subst e
  rw [List.drop_length] at hr
  simp only [List.foldl_nil] at hr
  refine Ev.step (f := fun m => arm_slopes.l0 m l (encS s).2.2.2.2 l n ((k + 1 : Nat) : Int) (encS s).1 (encS s).2.1 (encS s).2.2.1 (encS s).2.2.2.1) (fun m => ?_) (hr hs)
  rw [arm_slopes.l1, if_neg (by omega), w64 (by omega) (by omega)]
  rfl
 | succ d ih =>
  intro i s hd hi hs hr
  have hlt : i < (l.take k).length := by omega
  have hm : rd_T73 (l.take k) (i : Int) ∈ l.take k := by rw [rd_nat _ _ hlt]; exact List.getElem_mem hlt
  obtain ⟨ha, hab⟩ := ho _ hm
  rw [drop_rd _ i hlt, List.foldl_cons] at hr
  exact inner_step l n k i b s hs hlt hk hb ha hab (ih (i + 1) _ (by omega) (by omega) (step_ok hs ha hb hab) hr)
/-- The fold over all pairs of the first k windows. -/
def allS (l : List S73) : Nat → St
 | 0 => none
 | k + 1 => (l.take k).foldl (fun s a => stepS s a (rd_T73 l (k : Int))) (allS l k)
theorem take_before {l : List S73} (h : Okl l) {k : Nat} (hk : k < l.length) : ∀ a ∈ l.take k, inB a ∧ a.f0 < (rd_T73 l (k : Int)).f0 := by
 intro a ha
 refine ⟨h.bnd a (List.mem_of_mem_take ha), ?_⟩
 have h2 := h.asc
 rw [← List.take_append_drop k l, List.pairwise_append] at h2
 refine h2.2.2 a ha _ ?_
 rw [drop_rd l k hk]
 exact List.mem_cons_self
theorem rd_mem {l : List S73} {k : Nat} (hk : k < l.length) : rd_T73 l (k : Int) ∈ l := by rw [rd_nat _ _ hk]; exact List.getElem_mem hk
theorem fold_ok {b : S73} (hb : inB b) : ∀ (ws : List S73) (s : St), (∀ a ∈ ws, inB a ∧ a.f0 < b.f0) → okS s → okS (ws.foldl (fun s a => stepS s a b) s)
 | [], s, _, hs => hs
 | a :: ws, s, h, hs => by
  rw [List.foldl_cons]
  have ha := h a List.mem_cons_self
  exact fold_ok hb ws _ (fun x hx => h x (List.mem_cons_of_mem _ hx)) (step_ok hs ha.1 hb ha.2)
theorem allS_ok {l : List S73} (h : Okl l) : ∀ k, k ≤ l.length → okS (allS l k)
 | 0, _ => trivial
 | k + 1, hk => fold_ok (h.bnd _ (rd_mem (show k < l.length by omega))) _ _ (take_before h (show k < l.length by omega)) (allS_ok h k (by omega))
theorem outer_fold {l : List S73} (h : Okl l) (hl : l.length ≤ 4611686018427387904) : ∀ (d k : Nat), l.length - k = d → k ≤ l.length →
  Ev (fun m => arm_slopes.l0 m l (encS (allS l k)).2.2.2.2 l l.length (k : Int) (encS (allS l k)).1 (encS (allS l k)).2.1 (encS (allS l k)).2.2.1 (encS (allS l k)).2.2.2.1) (encS (allS l l.length)) := by
 intro d
 induction d with
 | zero =>
  intro k hd hk
  obtain rfl : k = l.length := by omega
  refine ev_some _ fun m => ?_
  rw [arm_slopes.l0, if_neg (by omega)]
 | succ d ih =>
  intro k hd hk
  have hlt : k < l.length := by omega
  have hb := h.bnd _ (rd_mem hlt)
  have ho := take_before h hlt
  have e := inner_fold l l.length k (rd_T73 l (k : Int)) (by omega) hb ho ((l.take k).length - 0) 0 (allS l k) rfl (by omega) (allS_ok h k hk) (fun _ => ih (k + 1) (by omega) (by omega))
  refine Ev.step (fun m => ?_) e
  rw [arm_slopes.l0, if_pos (by omega), if_pos (by omega), if_pos (by omega), if_pos (by omega)]
  simp only [Option.bind_some, Int.toNat_natCast]
  rfl
theorem slopes_ev {l : List S73} (h : Okl l) (hl : l.length ≤ 4611686018427387904) : Ev (fun m => arm_slopes.f m l) (encS (allS l l.length)) := outer_fold h hl l.length 0 (by omega) (by omega)
/-- A line (slope m, height c at 0) goes through a window. -/
def thr (m c : Rat) (w : S73) : Prop := (w.f1 : Rat) ≤ m * w.f0 + c ∧ m * w.f0 + c ≤ w.f2
/-- Some line goes through all windows. -/
def Feas (l : List S73) : Prop := ∃ m c : Rat, ∀ w ∈ l, thr m c w
theorem Feas.mono {l l' : List S73} (h : Feas l) (s : ∀ w ∈ l', w ∈ l) : Feas l' := by
 obtain ⟨m, c, h⟩ := h
 exact ⟨m, c, fun w hw => h w (s w hw)⟩
theorem cast_pos {a b : S73} (h : a.f0 < b.f0) : (0 : Rat) < ((b.f0 - a.f0 : Int) : Rat) := by
 have : ((0 : Int) : Rat) < ((b.f0 - a.f0 : Int) : Rat) := Rat.intCast_lt_intCast.2 (by omega)
 simpa using this
theorem lo_le {a b : S73} (h : a.f0 < b.f0) (m : Rat) : loS a b ≤ m ↔ (b.f1 : Rat) - a.f2 ≤ m * b.f0 - m * a.f0 := by
 have hp := cast_pos h
 rw [← Rat.not_lt, ← Rat.not_lt]
 unfold loS
 rw [Rat.divInt_eq_div, Rat.lt_div_iff hp]
 have e : m * ((b.f0 - a.f0 : Int) : Rat) = m * b.f0 - m * a.f0 := by simp only [Rat.intCast_sub]; grind
 rw [e]
 simp only [Rat.intCast_sub]
theorem le_hi {a b : S73} (h : a.f0 < b.f0) (m : Rat) : m ≤ hiS a b ↔ m * b.f0 - m * a.f0 ≤ (b.f2 : Rat) - a.f1 := by
 have hp := cast_pos h
 rw [← Rat.not_lt, ← Rat.not_lt]
 unfold hiS
 rw [Rat.divInt_eq_div, Rat.div_lt_iff hp]
 have e : m * ((b.f0 - a.f0 : Int) : Rat) = m * b.f0 - m * a.f0 := by simp only [Rat.intCast_sub]; grind
 rw [e]
 simp only [Rat.intCast_sub]
/-- What the fold has found over some pairs. -/
def Ext (s : St) (Q : S73 → S73 → Prop) : Prop :=
 match s with
 | none => ∀ a b, ¬ Q a b
 | some (p, q) => (∀ a b, Q a b → loS a b ≤ p ∧ q ≤ hiS a b) ∧ (∃ a b, Q a b ∧ loS a b = p) ∧ (∃ a b, Q a b ∧ hiS a b = q)
theorem Ext.step {s : St} {Q : S73 → S73 → Prop} (h : Ext s Q) (a b : S73) : Ext (stepS s a b) (fun x y => Q x y ∨ (x = a ∧ y = b)) := by
 cases s with
 | none =>
  refine ⟨?_, ⟨a, b, .inr ⟨rfl, rfl⟩, rfl⟩, ⟨a, b, .inr ⟨rfl, rfl⟩, rfl⟩⟩
  rintro x y (hq | ⟨rfl, rfl⟩)
  ·exact absurd hq (h x y)
  ·exact ⟨by grind, by grind⟩
 | some z =>
  obtain ⟨p, q⟩ := z
  obtain ⟨h1, ⟨a1, b1, q1, e1⟩, ⟨a2, b2, q2, e2⟩⟩ := h
  refine ⟨?_, ?_, ?_⟩
  ·rintro x y (hq | ⟨rfl, rfl⟩)
   ·have := h1 x y hq
    constructor <;> split <;> grind
   ·constructor <;> split <;> grind
  ·by_cases c : p < loS a b
   ·exact ⟨a, b, .inr ⟨rfl, rfl⟩, by rw [if_pos c]⟩
   ·exact ⟨a1, b1, .inl q1, by rw [if_neg c]; exact e1⟩
  ·by_cases c : hiS a b < q
   ·exact ⟨a, b, .inr ⟨rfl, rfl⟩, by rw [if_pos c]⟩
   ·exact ⟨a2, b2, .inl q2, by rw [if_neg c]; exact e2⟩
theorem Ext.congr {s : St} {Q Q' : S73 → S73 → Prop} (h : Ext s Q) (e : ∀ a b, Q a b ↔ Q' a b) : Ext s Q' := by
 have : Q = Q' := by funext a b; exact propext (e a b)
 rwa [← this]
theorem Ext.fold (b : S73) : ∀ (ws : List S73) (s : St) (Q : S73 → S73 → Prop), Ext s Q → Ext (ws.foldl (fun s a => stepS s a b) s) (fun x y => Q x y ∨ (x ∈ ws ∧ y = b))
 | [], s, Q, h => h.congr (by simp)
 | a :: ws, s, Q, h => by
  rw [List.foldl_cons]
  refine (Ext.fold b ws _ _ (h.step a b)).congr fun x y => ?_
  simp only [List.mem_cons]
  constructor
  ·rintro ((h | ⟨rfl, rfl⟩) | ⟨h, rfl⟩)
   ·exact .inl h
   ·exact .inr ⟨.inl rfl, rfl⟩
   ·exact .inr ⟨.inr h, rfl⟩
  ·rintro (h | ⟨rfl | h, rfl⟩)
   ·exact .inl (.inl h)
   ·exact .inl (.inr ⟨rfl, rfl⟩)
   ·exact .inr ⟨h, rfl⟩
theorem allS_ext (l : List S73) : ∀ k, Ext (allS l k) (fun x y => ∃ j, j < k ∧ y = rd_T73 l (j : Int) ∧ x ∈ l.take j)
 | 0 => by intro a b ⟨j, hj, _⟩; omega
 | k + 1 => by
  refine (Ext.fold _ _ _ _ (allS_ext l k)).congr fun x y => ?_
  constructor
  ·rintro (⟨j, hj, h1, h2⟩ | ⟨h1, rfl⟩)
   ·exact ⟨j, by omega, h1, h2⟩
   ·exact ⟨k, by omega, rfl, h1⟩
  ·rintro ⟨j, hj, h1, h2⟩
   by_cases e : j = k
   ·subst e; exact .inr ⟨h2, h1⟩
   ·exact .inl ⟨j, by omega, h1, h2⟩
theorem before_iff {l : List S73} (h : Okl l) (x y : S73) : (∃ j, j < l.length ∧ y = rd_T73 l (j : Int) ∧ x ∈ l.take j) ↔ x ∈ l ∧ y ∈ l ∧ x.f0 < y.f0 := by
 constructor
 ·rintro ⟨j, hj, rfl, hx⟩
  exact ⟨List.mem_of_mem_take hx, rd_mem hj, (take_before h hj x hx).2⟩
 ·rintro ⟨hx, hy, hlt⟩
  obtain ⟨j, hj, rfl⟩ := List.getElem_of_mem hy
  obtain ⟨i, hi, rfl⟩ := List.getElem_of_mem hx
  refine ⟨j, hj, (rd_nat l j hj).symm, ?_⟩
  have hij : i < j := by
   have hp := List.pairwise_iff_getElem.1 h.asc
   rcases Nat.lt_trichotomy i j with c | c | c
   ·exact c
   ·subst c; omega
   ·have := hp j i hj hi c; omega
  rw [List.mem_take_iff_getElem]
  exact ⟨i, by omega, rfl⟩
/-- What the fold over all pairs has found. -/
theorem all_ext {l : List S73} (h : Okl l) : Ext (allS l l.length) (fun x y => x ∈ l ∧ y ∈ l ∧ x.f0 < y.f0) := (allS_ext l l.length).congr (before_iff h)
theorem list_max (f : S73 → Rat) : ∀ (l : List S73), l ≠ [] → ∃ w ∈ l, ∀ v ∈ l, f v ≤ f w
 | [], h => absurd rfl h
 | [w], _ => ⟨w, by simp, by intro v hv; simp at hv; subst hv; grind⟩
 | w :: x :: ws, _ => by
  obtain ⟨u, hu, hm⟩ := list_max f (x :: ws) (by simp)
  by_cases c : f u ≤ f w
  ·refine ⟨w, List.mem_cons_self, fun v hv => ?_⟩
   rcases List.mem_cons.1 hv with rfl | hv
   ·grind
   ·have := hm v hv; grind
  ·refine ⟨u, List.mem_cons_of_mem _ hu, fun v hv => ?_⟩
   rcases List.mem_cons.1 hv with rfl | hv
   ·grind
   ·exact hm v hv
theorem feas_pairs {l : List S73} {m c : Rat} (h : ∀ w ∈ l, thr m c w) {a b : S73} (ha : a ∈ l) (hb : b ∈ l) (hab : a.f0 < b.f0) : loS a b ≤ m ∧ m ≤ hiS a b := by
 have h1 := h a ha
 have h2 := h b hb
 unfold thr at h1 h2
 rw [lo_le hab, le_hi hab]
 grind
theorem same_at {l : List S73} (h : Okl l) {a b : S73} (ha : a ∈ l) (hb : b ∈ l) (e : a.f0 = b.f0) : a = b := by
 obtain ⟨i, hi, rfl⟩ := List.getElem_of_mem ha
 obtain ⟨j, hj, rfl⟩ := List.getElem_of_mem hb
 have hp := List.pairwise_iff_getElem.1 h.asc
 rcases Nat.lt_trichotomy i j with c | c | c
 ·have := hp i j hi hj c; omega
 ·subst c; rfl
 ·have := hp j i hj hi c; omega
theorem Okl.lt {l : List S73} (h : Okl l) {i j : Nat} (hij : i < j) (hj : j < l.length) : (rd_T73 l (i : Int)).f0 < (rd_T73 l (j : Int)).f0 := by
 rw [rd_nat l i (by omega), rd_nat l j hj]
 exact List.pairwise_iff_getElem.1 h.asc i j (by omega) hj hij
/-- With a slope that all pairs bear there is a line: as low as it can be. -/
theorem line_at {l : List S73} (h : Okl l) {m : Rat} (hm : ∀ a b, a ∈ l → b ∈ l → a.f0 < b.f0 → loS a b ≤ m ∧ m ≤ hiS a b) {u : S73} (hu : u ∈ l) (hmax : ∀ v ∈ l, (v.f1 : Rat) - m * v.f0 ≤ (u.f1 : Rat) - m * u.f0) :
  ∀ w ∈ l, thr m ((u.f1 : Rat) - m * u.f0) w := by
 intro w hw
 have h1 := hmax w hw
 refine ⟨by grind, ?_⟩
 rcases Int.lt_trichotomy u.f0 w.f0 with c | c | c
 ·have := (hm u w hu hw c).2
  rw [le_hi c] at this
  grind
 ·have e := same_at h hu hw c
  subst e
  have : (u.f1 : Rat) ≤ u.f2 := Rat.intCast_le_intCast.2 (h.bnd u hu).2.2.2.1
  grind
 ·have := (hm w u hw hu c).1
  rw [lo_le c] at this
  grind
theorem feas_iff {l : List S73} (h : Okl l) : Feas l ↔ match allS l l.length with | none => True | some (p, q) => ¬ q < p := by
 have hE := all_ext h
 generalize allS l l.length = s at hE
 cases s with
 | none =>
  simp only [iff_true]
  by_cases hl : l = []
  ·subst hl; exact ⟨0, 0, by simp⟩
  ·obtain ⟨u, hu, hm⟩ := list_max (fun w => (w.f1 : Rat) - 0 * w.f0) l hl
   exact ⟨0, _, line_at h (m := 0) (fun a b ha hb hab => absurd ⟨ha, hb, hab⟩ (hE a b)) hu hm⟩
 | some z =>
  obtain ⟨p, q⟩ := z
  obtain ⟨h1, ⟨a1, b1, ⟨qa, qb, qab⟩, e1⟩, ⟨a2, b2, ⟨ra, rb, rab⟩, e2⟩⟩ := hE
  dsimp only
  constructor
  ·rintro ⟨m, c, hm⟩
   have z1 := (feas_pairs hm qa qb qab).1
   have z2 := (feas_pairs hm ra rb rab).2
   grind
  ·intro hpq
   have hne : l ≠ [] := by rintro rfl; simp at qa
   obtain ⟨u, hu, hm⟩ := list_max (fun w => (w.f1 : Rat) - p * w.f0) l hne
   refine ⟨p, _, line_at h (m := p) (fun a b ha hb hab => ?_) hu hm⟩
   have := h1 a b ⟨ha, hb, hab⟩
   exact ⟨this.1, by grind⟩
open Classical in
theorem can_ev {l : List S73} (h : Okl l) (hl : l.length ≤ 4611686018427387904) : Ev (fun m => arm_can.f m l) (decide (Feas l)) := by
 obtain ⟨K, hK⟩ := slopes_ev h hl
 refine ⟨K, fun k hk => ?_⟩
 have e := hK k hk
 dsimp only at e ⊢
 have hf := feas_iff h
 have hs := allS_ok h l.length (Nat.le_refl _)
 unfold arm_can.f
 rw [e]
 simp only [Option.bind_some]
 generalize allS l l.length = s at *
 cases s with
 | none =>
  simp only [encS, Bool.false_eq_true, if_false]
  rw [decide_eq_true (hf.2 trivial)]
 | some z =>
  obtain ⟨p, q⟩ := z
  simp only [encS, if_true]
  rw [small_less hs.2 hs.1]
  simp only [Option.bind_some]
  congr 1
  by_cases c : q < p
  ·rw [decide_eq_true c, decide_eq_false (fun x => hf.1 x c)]; rfl
  ·rw [decide_eq_false c, decide_eq_true (hf.2 c)]; rfl
theorem divisor_loop : ∀ (k : Nat) (a b : Int), 0 ≤ a → 0 ≤ b → (a ≠ 0 ∨ b ≠ 0) → b < k → dropperref03_divisor.l0 k a b = some (Int.gcd a b : Int)
 | 0, a, b, ha, hb, h, hk => by omega
 | k + 1, a, b, ha, hb, h, hk => by
  simp only [dropperref03_divisor.l0]
  by_cases e : b = 0
  ·subst e
   rw [if_pos rfl]
   have : mx a 1 = a := by unfold mx; omega
   rw [this]
   simp [Int.natAbs_of_nonneg ha]
  ·rw [if_neg e]
   have hm : 0 ≤ a.tmod b := Int.tmod_nonneg _ ha
   have hl : a.tmod b < b := Int.tmod_lt_of_pos _ (by omega)
   rw [divisor_loop k b (a.tmod b) hb hm (Or.inl e) (by omega)]
   have hg : Int.gcd b (a.tmod b) = Int.gcd a b := by
    rw [Int.tmod_eq_emod_of_nonneg ha]
    obtain ⟨m, rfl⟩ := Int.eq_ofNat_of_zero_le ha
    obtain ⟨j, rfl⟩ := Int.eq_ofNat_of_zero_le hb
    show Nat.gcd j (m % j) = Nat.gcd m j
    rw [Nat.gcd_comm j, ← Nat.gcd_rec, Nat.gcd_comm]
   rw [hg]
/-- The document's 'ratio' tells the fraction n / d as Lean's Rat does. -/
theorem ratio_ev (n d : Int) (hn : -4611686018427387904 ≤ n) (hn2 : n ≤ 4611686018427387904) (hd : 0 < d) (hd2 : d ≤ 4611686018427387904) :
  Ev (fun k => dropperref03_ratio.f k n d) ((divInt n d).num, ((divInt n d).den : Int)) := by
 obtain ⟨K, hK⟩ := lowest_ev n d hn hn2 hd hd2
 refine ⟨K + d.toNat + 1, fun k hk => ?_⟩
 have h1 := hK k (by omega)
 dsimp only at h1 ⊢
 have hmx : mx n (wrap64 (-n)) = (n.natAbs : Int) := by
  rw [w64 (by omega) (by omega)]; unfold mx; omega
 have hmy : mx d (wrap64 (-d)) = d := by
  rw [w64 (by omega) (by omega)]; unfold mx; omega
 unfold arm_lowest.f at h1
 rw [hmx, lowest_loop n d k _ d (by omega) (by omega) (by omega) (by omega)] at h1
 unfold dropperref03_ratio.f dropperref03_divisor.f
 rw [hmx, hmy, divisor_loop k _ d (by omega) (by omega) (by omega) (by omega)]
 simp only [Option.bind_some]
 have hg0 : 0 < Int.gcd (n.natAbs : Int) d := Int.gcd_pos_of_ne_zero_right _ (by omega)
 rw [if_neg (by omega)]
 exact h1
/-- A fact that omega does not look into. -/
structure Hd (p : Prop) : Prop where mk :: (out : p)
/-- The line from (x, y) to (u, z) goes through a window. -/
def thrC (x y u z : Int) (w : S73) : Prop := w.f1 * (u - x) ≤ y * (u - x) + (z - y) * (w.f0 - x) ∧ y * (u - x) + (z - y) * (w.f0 - x) ≤ w.f2 * (u - x)
instance (x y u z : Int) (w : S73) : Decidable (thrC x y u z w) := by unfold thrC; infer_instance
theorem mul_bd' {a b : Int} {A B : Nat} (ha : a.natAbs ≤ A) (hb : b.natAbs ≤ B) : (a * b).natAbs ≤ A * B := by
 rw [Int.natAbs_mul]; exact Nat.mul_le_mul ha hb
theorem through_ev {l : List S73} (h : Okl l) (hl : l.length ≤ 4611686018427387904) {x y u z : Int} (hx : 0 ≤ x) (hxu : x < u) (hu : u ≤ 100000) (hy : -1000 ≤ y) (hy2 : y ≤ 1000) (hz : -1000 ≤ z) (hz2 : z ≤ 1000) :
  ∀ (d i : Nat) (r : Bool), l.length - i = d → i ≤ l.length → (r = true ↔ ∀ w ∈ l.drop i, thrC x y u z w) → Ev (fun k => dropperref03_through.l0 k l x y u z i) r := by
 intro d
 induction d with
 | zero =>
  intro i r hd hi hr
  obtain rfl : i = l.length := by omega
  refine ev_some _ fun k => ?_
  rw [dropperref03_through.l0, if_neg (by omega)]
  rw [hr.2 (by simp)]
 | succ d ih =>
  intro i r hd hi hr
  have hlt : i < l.length := by omega
  have hb := h.bnd _ (rd_mem hlt)
  rw [drop_rd l i hlt] at hr
  generalize hw : rd_T73 l (i : Int) = w at *
  obtain ⟨b1, b2, b3, b4, b5⟩ := hb
  have m1 := mul_bd' (a := y) (b := u - x) (A := 1000) (B := 100000) (by omega) (by omega)
  have m2 := mul_bd' (a := z - y) (b := w.f0 - x) (A := 2000) (B := 100000) (by omega) (by omega)
  have m3 := mul_bd' (a := w.f1) (b := u - x) (A := 1000) (B := 100000) (by omega) (by omega)
  have m4 := mul_bd' (a := w.f2) (b := u - x) (A := 1000) (B := 100000) (by omega) (by omega)
  have red : ∀ k, dropperref03_through.l0 (k + 1) l x y u z i = if y * (u - x) + (z - y) * (w.f0 - x) < w.f1 * (u - x) then some false else if y * (u - x) + (z - y) * (w.f0 - x) > w.f2 * (u - x) then some false else dropperref03_through.l0 k l x y u z ((i + 1 : Nat) : Int) := by
   intro k
   rw [dropperref03_through.l0, if_pos (by omega), if_pos (by omega), hw, w64 (n := u - x) (by omega) (by omega), w64 (n := z - y) (by omega) (by omega), w64 (n := w.f0 - x) (by omega) (by omega),
    w64 (n := y * (u - x)) (by omega) (by omega), w64 (n := (z - y) * (w.f0 - x)) (by omega) (by omega), w64 (n := y * (u - x) + (z - y) * (w.f0 - x)) (by omega) (by omega), w64 (n := w.f1 * (u - x)) (by omega) (by omega), w64 (n := w.f2 * (u - x)) (by omega) (by omega), w64 (by omega) (by omega)]
   rfl
  by_cases c : thrC x y u z w
  ·refine Ev.step (fun k => ?_) (ih (i + 1) r (by omega) (by omega) (by rw [hr]; simp [c]))
   rw [red, if_neg (by have := c.1; omega), if_neg (by have := c.2; omega)]
  ·have e : r = false := by
    cases r with
    | false => rfl
    | true => exact absurd (hr.1 rfl w List.mem_cons_self) c
   rw [e]
   refine ev_some _ fun k => ?_
   rw [red]
   by_cases c1 : y * (u - x) + (z - y) * (w.f0 - x) < w.f1 * (u - x)
   ·rw [if_pos c1]
   ·rw [if_neg c1, if_pos]
    by_cases c2 : y * (u - x) + (z - y) * (w.f0 - x) > w.f2 * (u - x)
    ·exact c2
    ·exact absurd ⟨by omega, by omega⟩ c
/-- A corner of a window. -/
def cor (w : S73) (hi : Bool) : Int := if hi then w.f2 else w.f1
theorem corner_some (w : S73) (b : Bool) : dropperref03_corner.f w.f0 w.f1 w.f2 b = some (cor w b) := by
 unfold dropperref03_corner.f cor; cases b <;> rfl
theorem cor_bd {w : S73} (h : inB w) (b : Bool) : -1000 ≤ cor w b ∧ cor w b ≤ 1000 := by
 obtain ⟨_, _, _, _, _⟩ := h
 unfold cor; cases b <;> simp <;> omega
/-- The slope m is that of a line through corners number c of two windows, which goes through all. -/
def cand (l : List S73) (i k c : Nat) (m : Rat) : Prop :=
 let a := rd_T73 l (i : Int); let b := rd_T73 l (k : Int); let y := cor a (c % 2 == 1); let z := cor b (c / 2 == 1)
 (∀ w ∈ l, thrC a.f0 y b.f0 z w) ∧ m = divInt (z - y) (b.f0 - a.f0)
def Ext2 (s : St) (C : Rat → Prop) : Prop :=
 match s with
 | none => ∀ m, ¬ C m
 | some (p, q) => C p ∧ C q ∧ ∀ m, C m → p ≤ m ∧ m ≤ q
theorem Ext2.congr {s : St} {C C' : Rat → Prop} (h : Ext2 s C) (e : ∀ m, C m ↔ C' m) : Ext2 s C' := by
 have : C = C' := by funext a; exact propext (e a)
 rwa [← this]
def putS (s : St) (m : Rat) : St :=
 match s with
 | none => some (m, m)
 | some (p, q) => some (if m < p then m else p, if q < m then m else q)
theorem put_ok {s : St} {m : Rat} (hs : okS s) (hm : small m) : okS (putS s m) := by
 cases s with
 | none => exact ⟨hm, hm⟩
 | some z =>
  obtain ⟨p, q⟩ := z
  simp only [putS, okS]
  refine ⟨?_, ?_⟩ <;> split <;> first | exact hm | exact hs.1 | exact hs.2
theorem Ext2.put {s : St} {C : Rat → Prop} (h : Ext2 s C) (m : Rat) : Ext2 (putS s m) (fun x => C x ∨ x = m) := by
 cases s with
 | none =>
  refine ⟨.inr rfl, .inr rfl, ?_⟩
  rintro x (hx | rfl)
  ·exact absurd hx (h x)
  ·exact ⟨by grind, by grind⟩
 | some z =>
  obtain ⟨p, q⟩ := z
  obtain ⟨h1, h2, h3⟩ := h
  refine ⟨?_, ?_, ?_⟩
  ·by_cases c : m < p
   ·rw [if_pos c]; exact .inr rfl
   ·rw [if_neg c]; exact .inl h1
  ·by_cases c : q < m
   ·rw [if_pos c]; exact .inr rfl
   ·rw [if_neg c]; exact .inl h2
  ·have hpq := h3 p h1
   rintro x (hx | rfl)
   ·have := h3 x hx
    constructor <;> split <;> grind
   ·constructor <;> split <;> grind
theorem ref_less {p q : Rat} (hp : small p) (hq : small q) : dropperref03_less.f p.num p.den q.num q.den = some (decide (p < q)) := small_less hp hq
theorem small_div {n d : Int} (hn : n.natAbs ≤ 100000) (hd : 0 < d) (hd2 : d ≤ 100000) : small (divInt n d) := by
 have h := ratio_num_le (n := n) (d := d) hd
 exact ⟨Nat.le_trans h.1 hn, Nat.le_trans h.2 (by omega)⟩
set_option maxHeartbeats 1000000 in
theorem ref2 {l : List S73} (h : Okl l) (hl : l.length ≤ 4611686018427387904) {i k : Nat} (hik : i < k) (hk : k < l.length) {r : Int × Int × Int × Int × Bool} : ∀ (d c : Nat) (s : St) (C : Rat → Prop), 4 - c = d → c ≤ 4 → okS s → Ext2 s C →
  (∀ s', okS s' → Ext2 s' (fun m => C m ∨ ∃ c', c ≤ c' ∧ c' < 4 ∧ cand l i k c' m) → Ev (fun n => dropperref03_slopes.l1 n l (encS s').2.2.2.2 i ((k + 1 : Nat) : Int) (encS s').1 (encS s').2.1 (encS s').2.2.1 (encS s').2.2.2.1) r) →
  Ev (fun n => dropperref03_slopes.l2 n l (encS s).2.2.2.2 i k c (encS s).1 (encS s).2.1 (encS s).2.2.1 (encS s).2.2.2.1) r := by
 intro d
 induction d with
 | zero =>
  intro c s C hd hc hs hE hr
  obtain rfl : c = 4 := by omega
  refine Ev.step (fun n => ?_) (hr s hs (hE.congr fun m => ⟨.inl, fun z => z.elim id (fun ⟨c', q1, q2, _⟩ => by omega)⟩))
  rw [dropperref03_slopes.l2, if_neg (by omega), w64 (by omega) (by omega)]
  rfl
 | succ d ih =>
  intro c s C hd hc hs hE hr
  have hc4 : c < 4 := by omega
  have ha := h.bnd _ (rd_mem (show i < l.length by omega))
  have hb := h.bnd _ (rd_mem hk)
  have hab := h.lt hik hk
  have p0 : (c : Int) < 4 := by omega
  have r1 : 4 - (c + 1) = d := by omega
  have r2 : c + 1 ≤ 4 := by omega
  have r3 : -4611686018427387904 ≤ (c : Int) ∧ (c : Int) ≤ 4611686018427387904 := by omega
  have p1 : 0 ≤ (i : Int) := by omega
  have p2 : (i : Int) < l.length := by omega
  have p3 : 0 ≤ (k : Int) := by omega
  have p4 : (k : Int) < l.length := by omega
  have hw : wrap64 ((c : Int) + 1) = ((c + 1 : Nat) : Int) := by rw [w64 (by omega) (by omega)]; rfl
  have ec1 : (Int.tmod (c : Int) 2 == 1) = (c % 2 == 1) := by
   rw [Int.tmod_eq_emod_of_nonneg (by omega)]
   rcases (show c = 0 ∨ c = 1 ∨ c = 2 ∨ c = 3 by omega) with rfl | rfl | rfl | rfl <;> rfl
  have ec0 : Int.tdiv (c : Int) 2 = ((c / 2 : Nat) : Int) := by
   rcases (show c = 0 ∨ c = 1 ∨ c = 2 ∨ c = 3 by omega) with rfl | rfl | rfl | rfl <;> rfl
  have ec2 : (wrap64 (Int.tdiv (c : Int) 2) == 1) = (c / 2 == 1) := by
   rw [ec0, w64 (by omega) (by omega)]
   rcases (show c = 0 ∨ c = 1 ∨ c = 2 ∨ c = 3 by omega) with rfl | rfl | rfl | rfl <;> rfl
  have hcand : ∀ m, cand l i k c m ↔ (∀ w ∈ l, thrC (rd_T73 l (i : Int)).f0 (cor (rd_T73 l (i : Int)) (c % 2 == 1)) (rd_T73 l (k : Int)).f0 (cor (rd_T73 l (k : Int)) (c / 2 == 1)) w) ∧ m = divInt (cor (rd_T73 l (k : Int)) (c / 2 == 1) - cor (rd_T73 l (i : Int)) (c % 2 == 1)) ((rd_T73 l (k : Int)).f0 - (rd_T73 l (i : Int)).f0) := fun m => Iff.rfl
  have hy := cor_bd ha (c % 2 == 1)
  have hz := cor_bd hb (c / 2 == 1)
  have e1 := corner_some (rd_T73 l (i : Int)) (c % 2 == 1)
  have e2 := corner_some (rd_T73 l (k : Int)) (c / 2 == 1)
  generalize hRa : rd_T73 l (i : Int) = a at *
  generalize hRb : rd_T73 l (k : Int) = b at *
  generalize cor a (c % 2 == 1) = y at *
  generalize cor b (c / 2 == 1) = z at *
  obtain ⟨a1, a2, a3, a4, a5⟩ := ha
  obtain ⟨b1, b2, b3, b4, b5⟩ := hb
  have tev := fun r (hr : r = true ↔ ∀ w ∈ l, thrC a.f0 y b.f0 z w) => through_ev h hl (x := a.f0) (y := y) (u := b.f0) (z := z) (by omega) hab (by omega) hy.1 hy.2 hz.1 hz.2 l.length 0 r (by omega) (by omega) (by rw [List.drop_zero]; exact hr)
  have z1 : wrap64 (z - y) = z - y := w64 (by omega) (by omega)
  have z2 : wrap64 (b.f0 - a.f0) = b.f0 - a.f0 := w64 (by omega) (by omega)
  have sm : small (divInt (z - y) (b.f0 - a.f0)) := small_div (by omega) (by omega) (by omega)
  have rev := ratio_ev (z - y) (b.f0 - a.f0) (by omega) (by omega) (by omega) (by omega)
  -- what one round comes to
  have red : ∀ (n : Nat) (X : Int × Int × Int × Int × Bool), dropperref03_slopes.l2 (n + 1) l X.2.2.2.2 i k c X.1 X.2.1 X.2.2.1 X.2.2.2.1 = (dropperref03_through.f n l a.f0 y b.f0 z).bind fun t111 => (if t111 = true then ((dropperref03_ratio.f n (z - y) (b.f0 - a.f0)).bind fun bt114 => (if X.2.2.2.2 = true then ((dropperref03_less.f bt114.1 bt114.2 X.1 X.2.1).bind fun t117 => (dropperref03_slopes.j3 n l X.2.2.2.2 i k c t117 X.1 X.2.1 X.2.2.1 X.2.2.2.1 bt114.1 bt114.2)) else (dropperref03_slopes.j3 n l X.2.2.2.2 i k c true X.1 X.2.1 X.2.2.1 X.2.2.2.1 bt114.1 bt114.2))) else (dropperref03_slopes.l2 n l X.2.2.2.2 i k ((c + 1 : Nat) : Int) X.1 X.2.1 X.2.2.1 X.2.2.2.1)) := by
   intro n X
   rewrite [dropperref03_slopes.l2, if_pos p0, if_pos p1, if_pos p2, ec1, ec2, hRa, e1]
   simp only [Option.bind_some]
   rewrite [if_pos p3, if_pos p4, hRb, e2]
   simp only [Option.bind_some]
   simp only [z1, z2, hw]
  have hw := Hd.mk hw
  clear ec0 ec1 ec2 z1 z2 e1 e2 hRa hRb
  by_cases hthr : ∀ w ∈ l, thrC a.f0 y b.f0 z w
  ·obtain ⟨K1, t1⟩ := tev true ⟨fun _ => hthr, fun _ => rfl⟩
   clear tev
   have hm := sm
   generalize hM : divInt (z - y) (b.f0 - a.f0) = m at *
   obtain ⟨K2, t2⟩ := rev
   obtain ⟨K3, t3⟩ := ih (c + 1) (putS s m) _ r1 r2 (put_ok hs hm) (hE.put m) (fun s' o' E' => hr s' o' (E'.congr fun x => by
    constructor
    ·rintro ((h1 | rfl) | ⟨c', q1, q2, q3⟩)
     ·exact .inl h1
     ·exact .inr ⟨c, Nat.le_refl c, hc4, (hcand _).2 ⟨hthr, rfl⟩⟩
     ·exact .inr ⟨c', Nat.le_of_succ_le q1, q2, q3⟩
    ·rintro (h1 | ⟨c', q1, q2, q3⟩)
     ·exact .inl (.inl h1)
     ·by_cases e : c' = c
      ·subst e; exact .inl (.inr ((hcand x).1 q3).2)
      ·exact .inr ⟨c', Nat.lt_of_le_of_ne q1 (fun z => e z.symm), q2, q3⟩))
   refine ⟨K1 + K2 + K3 + 3, fun n hn => ?_⟩
   obtain ⟨n, rfl⟩ : ∃ j, n = j + 2 := ⟨n - 2, by omega⟩
   have t1 := t1 (n + 1) (by omega)
   have t2 := t2 (n + 1) (by omega)
   have t3 := t3 n (by omega)
   dsimp only at t1 t2 t3 ⊢
   rw [red, show dropperref03_through.f (n + 1) l a.f0 y b.f0 z = some true from t1]
   simp only [Option.bind_some, if_true]
   rw [t2]
   simp only [Option.bind_some]
   cases s with
   | none =>
    simp only [encS, putS, Bool.false_eq_true, if_false] at t3 ⊢
    rw [dropperref03_slopes.j3, hw.out]
    simp only [Bool.false_eq_true, if_false, if_true]
    exact t3
   | some zz =>
    obtain ⟨p, q⟩ := zz
    have l1 := ref_less hm hs.1
    have l2 := ref_less hs.2 hm
    simp only [encS, putS, if_true] at t3 ⊢
    rw [l1]
    simp only [Option.bind_some]
    rw [dropperref03_slopes.j3, hw.out]
    by_cases d1 : m < p <;> by_cases d2 : q < m <;>
     simp only [d1, d2, decide_true, decide_false, if_true, if_false, l2, Option.bind_some, Bool.false_eq_true] at t3 ⊢ <;> exact t3
  ·obtain ⟨K1, t1⟩ := tev false ⟨fun h => absurd h (by decide), fun h => absurd h hthr⟩
   clear tev
   obtain ⟨K3, t3⟩ := ih (c + 1) s C r1 r2 hs hE (fun s' o' E' => hr s' o' (E'.congr fun x => by
    constructor
    ·rintro (h1 | ⟨c', q1, q2, q3⟩)
     ·exact .inl h1
     ·exact .inr ⟨c', Nat.le_of_succ_le q1, q2, q3⟩
    ·rintro (h1 | ⟨c', q1, q2, q3⟩)
     ·exact .inl h1
     ·by_cases e : c' = c
      ·subst e; exact absurd ((hcand x).1 q3).1 hthr
      ·exact .inr ⟨c', Nat.lt_of_le_of_ne q1 (fun z => e z.symm), q2, q3⟩))
   refine ⟨K1 + K3 + 2, fun n hn => ?_⟩
   obtain ⟨n, rfl⟩ : ∃ j, n = j + 1 := ⟨n - 1, by omega⟩
   have t1 := t1 n (by omega)
   have t3 := t3 n (by omega)
   dsimp only at t1 t3 ⊢
   rw [red, show dropperref03_through.f n l a.f0 y b.f0 z = some false from t1]
   simp only [Option.bind_some, Bool.false_eq_true, if_false]
   exact t3
theorem ref1 {l : List S73} (h : Okl l) (hl : l.length ≤ 4611686018427387904) {i : Nat} (hi : i < l.length) {r : Int × Int × Int × Int × Bool} : ∀ (d k : Nat) (s : St) (C : Rat → Prop), l.length - k = d → k ≤ l.length → i < k → okS s → Ext2 s C →
  (∀ s', okS s' → Ext2 s' (fun m => C m ∨ ∃ k' c', k ≤ k' ∧ k' < l.length ∧ c' < 4 ∧ cand l i k' c' m) → Ev (fun n => dropperref03_slopes.l0 n l (encS s').2.2.2.2 ((i + 1 : Nat) : Int) (encS s').1 (encS s').2.1 (encS s').2.2.1 (encS s').2.2.2.1) r) →
  Ev (fun n => dropperref03_slopes.l1 n l (encS s).2.2.2.2 i k (encS s).1 (encS s).2.1 (encS s).2.2.1 (encS s).2.2.2.1) r := by
 intro d
 induction d with
 | zero =>
  intro k s C hd hk hik hs hE hr
  have e := hr s hs (hE.congr fun m => ⟨.inl, fun z => z.elim id (fun ⟨k', c', q1, q2, _⟩ => by omega)⟩)
  refine Ev.step (fun n => ?_) e
  have hw : wrap64 ((i : Int) + 1) = ((i + 1 : Nat) : Int) := by rw [w64 (by omega) (by omega)]; rfl
  rewrite [dropperref03_slopes.l1, if_neg (by omega), hw]
  rfl
 | succ d ih =>
  intro k s C hd hk hik hs hE hr
  have hlt : k < l.length := by omega
  have r1 : l.length - (k + 1) = d := by omega
  have r2 : k + 1 ≤ l.length := by omega
  have r3 : i < k + 1 := by omega
  have e := ref2 h hl hik hlt 4 0 s C rfl (by omega) hs hE (fun s' o' E' => ih (k + 1) s' _ r1 r2 r3 o' E' (fun s'' o'' E'' => hr s'' o'' (E''.congr fun m => by
   constructor
   ·rintro ((h1 | ⟨c', _, q2, q3⟩) | ⟨k', c', q1, q2, q3, q4⟩)
    ·exact .inl h1
    ·exact .inr ⟨k, c', Nat.le_refl k, hlt, q2, q3⟩
    ·exact .inr ⟨k', c', Nat.le_of_succ_le q1, q2, q3, q4⟩
   ·rintro (h1 | ⟨k', c', q1, q2, q3, q4⟩)
    ·exact .inl (.inl h1)
    ·by_cases e : k' = k
     ·subst e; exact .inl (.inr ⟨c', Nat.zero_le c', q3, q4⟩)
     ·exact .inr ⟨k', c', Nat.lt_of_le_of_ne q1 (fun z => e z.symm), q2, q3, q4⟩)))
  refine Ev.step (fun n => ?_) e
  rewrite [dropperref03_slopes.l1, if_pos (by omega)]
  rfl
theorem ref0 {l : List S73} (h : Okl l) (hl : l.length ≤ 4611686018427387904) {r : Int × Int × Int × Int × Bool} : ∀ (d i : Nat) (s : St) (C : Rat → Prop), l.length - i = d → i ≤ l.length → okS s → Ext2 s C →
  (∀ s', okS s' → Ext2 s' (fun m => C m ∨ ∃ i' k' c', i ≤ i' ∧ i' < k' ∧ k' < l.length ∧ c' < 4 ∧ cand l i' k' c' m) → r = encS s') →
  Ev (fun n => dropperref03_slopes.l0 n l (encS s).2.2.2.2 i (encS s).1 (encS s).2.1 (encS s).2.2.1 (encS s).2.2.2.1) r := by
 intro d
 induction d with
 | zero =>
  intro i s C hd hi hs hE hr
  have e := hr s hs (hE.congr fun m => ⟨.inl, fun z => z.elim id (fun ⟨i', k', c', q1, q2, q3, _⟩ => by omega)⟩)
  refine ev_some _ fun n => ?_
  rewrite [dropperref03_slopes.l0, if_neg (by omega), e]
  rfl
 | succ d ih =>
  intro i s C hd hi hs hE hr
  have hlt : i < l.length := by omega
  have r1 : l.length - (i + 1) = d := by omega
  have r2 : i + 1 ≤ l.length := by omega
  have hw : wrap64 ((i : Int) + 1) = ((i + 1 : Nat) : Int) := by rw [w64 (by omega) (by omega)]; rfl
  have p : (i : Int) < l.length := by omega
  have e := ref1 h hl hlt (l.length - (i + 1)) (i + 1) s C rfl r2 (Nat.lt_succ_self i) hs hE (fun s' o' E' => ih (i + 1) s' _ r1 r2 o' E' (fun s'' o'' E'' => hr s'' o'' (E''.congr fun m => by
   constructor
   ·rintro ((h1 | ⟨k', c', q1, q2, q3, q4⟩) | ⟨i', k', c', q1, q2, q3, q4, q5⟩)
    ·exact .inl h1
    ·exact .inr ⟨i, k', c', Nat.le_refl i, q1, q2, q3, q4⟩
    ·exact .inr ⟨i', k', c', Nat.le_of_succ_le q1, q2, q3, q4, q5⟩
   ·rintro (h1 | ⟨i', k', c', q1, q2, q3, q4, q5⟩)
    ·exact .inl (.inl h1)
    ·by_cases e : i' = i
     ·subst e; exact .inl (.inr ⟨k', c', q2, q3, q4, q5⟩)
     ·exact .inr ⟨i', k', c', Nat.lt_of_le_of_ne q1 (fun z => e z.symm), q2, q3, q4, q5⟩)))
  refine Ev.step (fun n => ?_) e
  rewrite [dropperref03_slopes.l0, if_pos p, hw]
  rfl
theorem Ext2.uniq {s t : St} {C : Rat → Prop} (h : Ext2 s C) (k : Ext2 t C) : s = t := by
 cases s with
 | none =>
  cases t with
  | none => rfl
  | some z => exact absurd k.1 (h _)
 | some z =>
  obtain ⟨p, q⟩ := z
  cases t with
  | none => exact absurd h.1 (k _)
  | some y =>
   obtain ⟨p', q'⟩ := y
   obtain ⟨h1, h2, h3⟩ := h
   obtain ⟨k1, k2, k3⟩ := k
   have a1 := h3 _ k1
   have a2 := h3 _ k2
   have b1 := k3 _ h1
   have b2 := k3 _ h2
   have e1 : p = p' := by grind
   have e2 : q = q' := by grind
   rw [e1, e2]
/-- The least and the greatest slope, if there is a line. -/
def finS (l : List S73) : St :=
 match allS l l.length with
 | none => none
 | some (p, q) => if q < p then none else some (p, q)
theorem thrC_iff {x u : Int} (hxu : x < u) (y z : Int) (w : S73) : thrC x y u z w ↔ thr (divInt (z - y) (u - x)) ((y : Rat) - divInt (z - y) (u - x) * x) w := by
 have hp : (0 : Rat) < ((u - x : Int) : Rat) := by
  have : ((0 : Int) : Rat) < ((u - x : Int) : Rat) := Rat.intCast_lt_intCast.2 (by omega)
  simpa using this
 have hne : ((u - x : Int) : Rat) ≠ 0 := by grind
 have hm : divInt (z - y) (u - x) * ((u - x : Int) : Rat) = ((z - y : Int) : Rat) := by
  rw [Rat.divInt_eq_div]; exact Rat.div_mul_cancel hne
 generalize divInt (z - y) (u - x) = m at *
 simp only [Rat.intCast_sub] at hm hp
 unfold thrC thr
 have i1 : w.f1 * (u - x) ≤ y * (u - x) + (z - y) * (w.f0 - x) ↔ (w.f1 : Rat) * ((u : Rat) - x) ≤ (m * w.f0 + ((y : Rat) - m * x)) * ((u : Rat) - x) := by
  have e : (m * w.f0 + ((y : Rat) - m * x)) * ((u : Rat) - x) = (y : Rat) * ((u : Rat) - x) + ((z : Rat) - y) * (w.f0 - x) := by grind
  rw [e, ← Rat.intCast_le_intCast]; simp
 have i2 : y * (u - x) + (z - y) * (w.f0 - x) ≤ w.f2 * (u - x) ↔ (m * w.f0 + ((y : Rat) - m * x)) * ((u : Rat) - x) ≤ (w.f2 : Rat) * ((u : Rat) - x) := by
  have e : (m * w.f0 + ((y : Rat) - m * x)) * ((u : Rat) - x) = (y : Rat) * ((u : Rat) - x) + ((z : Rat) - y) * (w.f0 - x) := by grind
  rw [e, ← Rat.intCast_le_intCast]; simp
 rw [i1, i2]
 constructor
 ·rintro ⟨h1, h2⟩
  exact ⟨Rat.le_of_mul_le_mul_right h1 hp, Rat.le_of_mul_le_mul_right h2 hp⟩
 ·rintro ⟨h1, h2⟩
  exact ⟨Rat.mul_le_mul_of_nonneg_right h1 (by grind), Rat.mul_le_mul_of_nonneg_right h2 (by grind)⟩
/-- The slopes of lines through corners that go through all windows. -/
def Cn (l : List S73) (m : Rat) : Prop := ∃ i k c : Nat, i < k ∧ k < l.length ∧ c < 4 ∧ cand l i k c m
theorem cand_bound {l : List S73} (h : Okl l) {i k c : Nat} (hik : i < k) (hk : k < l.length) {m : Rat} (hc : cand l i k c m) : ∃ e, ∀ w ∈ l, thr m e w := by
 obtain ⟨h1, rfl⟩ := hc
 exact ⟨_, fun w hw => (thrC_iff (h.lt hik hk) _ _ w).1 (h1 w hw)⟩
/-- A line with slope m through all windows that touches a's and b's corners makes m a candidate. -/
theorem cand_of {l : List S73} (h : Okl l) {i k c : Nat} (hik : i < k) (hk : k < l.length) {m e : Rat} (hl : ∀ w ∈ l, thr m e w)
  (ha : m * (rd_T73 l (i : Int)).f0 + e = cor (rd_T73 l (i : Int)) (c % 2 == 1)) (hb : m * (rd_T73 l (k : Int)).f0 + e = cor (rd_T73 l (k : Int)) (c / 2 == 1)) : cand l i k c m := by
 have hlt := h.lt hik hk
 unfold cand
 generalize rd_T73 l (i : Int) = a at *
 generalize rd_T73 l (k : Int) = b at *
 dsimp only
 generalize cor a (c % 2 == 1) = y at *
 generalize cor b (c / 2 == 1) = z at *
 have hp := cast_pos hlt
 have hne : ((b.f0 - a.f0 : Int) : Rat) ≠ 0 := by grind
 have hm : divInt (z - y) (b.f0 - a.f0) * ((b.f0 - a.f0 : Int) : Rat) = ((z - y : Int) : Rat) := by
  rw [Rat.divInt_eq_div]; exact Rat.div_mul_cancel hne
 have em : m = divInt (z - y) (b.f0 - a.f0) := by
  have h1 : m * ((b.f0 - a.f0 : Int) : Rat) = ((z - y : Int) : Rat) := by simp only [Rat.intCast_sub]; grind
  have h2 : m * ((b.f0 - a.f0 : Int) : Rat) = divInt (z - y) (b.f0 - a.f0) * ((b.f0 - a.f0 : Int) : Rat) := by rw [h1, hm]
  have h3 : ¬ m < divInt (z - y) (b.f0 - a.f0) := fun hh => by have := Rat.mul_lt_mul_of_pos_right hh hp; grind
  have h4 : ¬ divInt (z - y) (b.f0 - a.f0) < m := fun hh => by have := Rat.mul_lt_mul_of_pos_right hh hp; grind
  grind
 refine ⟨fun w hw => ?_, em⟩
 rw [thrC_iff hlt, ← em]
 have e2 : (y : Rat) - m * a.f0 = e := by grind
 rw [e2]
 exact hl w hw
theorem mem_rd {l : List S73} {a : S73} (ha : a ∈ l) : ∃ i : Nat, i < l.length ∧ rd_T73 l (i : Int) = a := by
 obtain ⟨i, hi, rfl⟩ := List.getElem_of_mem ha
 exact ⟨i, hi, rd_nat l i hi⟩
theorem idx_lt {l : List S73} (h : Okl l) {i j : Nat} (hi : i < l.length) (hj : j < l.length) (hlt : (rd_T73 l (i : Int)).f0 < (rd_T73 l (j : Int)).f0) : i < j := by
 rcases Nat.lt_trichotomy i j with c | c | c
 ·exact c
 ·subst c; omega
 ·have := h.lt c hi; omega
theorem fin_ext {l : List S73} (h : Okl l) : Ext2 (finS l) (Cn l) := by
 have hE := all_ext h
 have hF := feas_iff h
 unfold finS
 generalize allS l l.length = s at hE hF
 cases s with
 | none =>
  rintro m ⟨i, k, c, hik, hk, _, _⟩
  exact hE _ _ ⟨rd_mem (show i < l.length by omega), rd_mem hk, h.lt hik hk⟩
 | some z =>
  obtain ⟨p, q⟩ := z
  obtain ⟨h1, ⟨a1, b1, ⟨qa, qb, qab⟩, e1⟩, ⟨a2, b2, ⟨ra, rb, rab⟩, e2⟩⟩ := hE
  have hbd : ∀ m, Cn l m → p ≤ m ∧ m ≤ q := by
   rintro m ⟨i, k, c, hik, hk, _, hc⟩
   obtain ⟨e, he⟩ := cand_bound h hik hk hc
   have z1 := (feas_pairs he qa qb qab).1
   have z2 := (feas_pairs he ra rb rab).2
   rw [e1] at z1
   rw [e2] at z2
   exact ⟨z1, z2⟩
  dsimp only
  by_cases c : q < p
  ·rw [if_pos c]
   intro m hm
   have := hbd m hm
   grind
  ·rw [if_neg c]
   have hne : l ≠ [] := by rintro rfl; simp at qa
   have line : ∀ m, p ≤ m → m ≤ q → ∃ e, ∀ w ∈ l, thr m e w := by
    intro m m1 m2
    obtain ⟨u, hu, hm⟩ := list_max (fun w => (w.f1 : Rat) - m * w.f0) l hne
    exact ⟨_, line_at h (m := m) (fun a b ha hb hab => by
     have := h1 a b ⟨ha, hb, hab⟩
     exact ⟨by grind, by grind⟩) hu hm⟩
   refine ⟨?_, ?_, hbd⟩
   ·obtain ⟨e, he⟩ := line p (by grind) (by grind)
    have t1 := he a1 qa
    have t2 := he b1 qb
    have t3 := (lo_le qab p).1 (by rw [e1]; grind)
    obtain ⟨i, hi, rfl⟩ := mem_rd qa
    obtain ⟨k, hk, rfl⟩ := mem_rd qb
    have t4 : ¬ (((rd_T73 l (k : Int)).f1 : Rat) - (rd_T73 l (i : Int)).f2 < p * (rd_T73 l (k : Int)).f0 - p * (rd_T73 l (i : Int)).f0) := by
     intro hh
     have hp := cast_pos qab
     have hm : loS (rd_T73 l (i : Int)) (rd_T73 l (k : Int)) * (((rd_T73 l (k : Int)).f0 - (rd_T73 l (i : Int)).f0 : Int) : Rat) = (((rd_T73 l (k : Int)).f1 - (rd_T73 l (i : Int)).f2 : Int) : Rat) := by
      unfold loS; rw [Rat.divInt_eq_div]; exact Rat.div_mul_cancel (by grind)
     rw [e1] at hm
     simp only [Rat.intCast_sub] at hm
     grind
    unfold thr at t1 t2
    refine ⟨i, k, 1, idx_lt h hi hk qab, hk, by omega, cand_of h (idx_lt h hi hk qab) hk he ?_ ?_⟩
    ·show _ = ((rd_T73 l (i : Int)).f2 : Rat)
     grind
    ·show _ = ((rd_T73 l (k : Int)).f1 : Rat)
     grind
   ·obtain ⟨e, he⟩ := line q (by grind) (by grind)
    have t1 := he a2 ra
    have t2 := he b2 rb
    have t3 := (le_hi rab q).1 (by rw [e2]; grind)
    obtain ⟨i, hi, rfl⟩ := mem_rd ra
    obtain ⟨k, hk, rfl⟩ := mem_rd rb
    have t4 : ¬ (q * (rd_T73 l (k : Int)).f0 - q * (rd_T73 l (i : Int)).f0 < ((rd_T73 l (k : Int)).f2 : Rat) - (rd_T73 l (i : Int)).f1) := by
     intro hh
     have hp := cast_pos rab
     have hm : hiS (rd_T73 l (i : Int)) (rd_T73 l (k : Int)) * (((rd_T73 l (k : Int)).f0 - (rd_T73 l (i : Int)).f0 : Int) : Rat) = (((rd_T73 l (k : Int)).f2 - (rd_T73 l (i : Int)).f1 : Int) : Rat) := by
      unfold hiS; rw [Rat.divInt_eq_div]; exact Rat.div_mul_cancel (by grind)
     rw [e2] at hm
     simp only [Rat.intCast_sub] at hm
     grind
    unfold thr at t1 t2
    refine ⟨i, k, 2, idx_lt h hi hk rab, hk, by omega, cand_of h (idx_lt h hi hk rab) hk he ?_ ?_⟩
    ·show _ = ((rd_T73 l (i : Int)).f1 : Rat)
     grind
    ·show _ = ((rd_T73 l (k : Int)).f2 : Rat)
     grind
/-- The document's slopes are the pairs' bounds, if these leave room. -/
theorem ref_slopes_ev {l : List S73} (h : Okl l) (hl : l.length ≤ 4611686018427387904) : Ev (fun n => dropperref03_slopes.f n l) (encS (finS l)) := by
 refine ref0 h hl l.length 0 none (fun _ => False) (by omega) (by omega) trivial (fun m hm => hm) (fun s' o' E' => ?_)
 have e := (fin_ext h).uniq (E'.congr fun m => (show (False ∨ ∃ i' k' c', 0 ≤ i' ∧ i' < k' ∧ k' < l.length ∧ c' < 4 ∧ cand l i' k' c' m) ↔ Cn l m from by
  unfold Cn; simp))
 rw [e]
theorem feas_some {l : List S73} (h : Okl l) (h2 : 2 ≤ l.length) : Feas l ↔ (encS (finS l)).2.2.2.2 = true := by
 have hF := feas_iff h
 have hE := all_ext h
 unfold finS
 generalize allS l l.length = s at *
 cases s with
 | none =>
  refine absurd ⟨rd_mem (show 0 < l.length by omega), rd_mem (show 1 < l.length by omega), h.lt (show 0 < 1 by omega) (by omega)⟩ (hE _ _)
 | some z =>
  obtain ⟨p, q⟩ := z
  rw [hF]
  dsimp only
  by_cases c : q < p
  ·simp [c, encS]
  ·simp [c, encS]
theorem feas_one {l : List S73} (h : Okl l) (h2 : l.length < 2) : Feas l := by
 match l, h2 with
 | [], _ => exact ⟨0, 0, by simp⟩
 | [w], _ =>
  refine ⟨0, w.f1, ?_⟩
  intro x hx
  simp at hx
  subst hx
  have : (x.f1 : Rat) ≤ x.f2 := Rat.intCast_le_intCast.2 (h.bnd x (by simp)).2.2.2.1
  unfold thr
  grind
open Classical in
theorem some_ev {l : List S73} (h : Okl l) (hl : l.length ≤ 4611686018427387904) : Ev (fun k => dropperref03_Some.f k l) (decide (Feas l)) := by
 by_cases c : l.length < 2
 ·rw [decide_eq_true (feas_one h c)]
  refine Ev.congr (fun k => ?_) (Ev.now _)
  unfold dropperref03_Some.f
  rw [if_pos (by omega)]
 ·have e := ref_slopes_ev h hl
  have hf := feas_some h (by omega)
  have hd : decide (Feas l) = (encS (finS l)).2.2.2.2 := by
   by_cases z : Feas l
   ·rw [decide_eq_true z, hf.1 z]
   ·rw [decide_eq_false z]
    cases q : (encS (finS l)).2.2.2.2 with
    | false => rfl
    | true => exact absurd (hf.2 q) z
  rw [hd]
  refine Ev.congr (fun k => ?_) (Ev.bind (f := fun _ t => some t.2.2.2.2) e (Ev.now _))
  unfold dropperref03_Some.f
  rw [if_neg (by omega)]
theorem first_ev : Ev (fun k => dropperlaw03_First.f k) true := Ev.of (fun k => dropperlaw03_First.mono k) (k := 40) (by decide +kernel)
/-- Windows from a to b, b without. -/
def seg (l : List S73) (a b : Nat) : List S73 := (l.take b).drop a
theorem seg_ok {l : List S73} (h : Okl l) (a b : Nat) : Okl (seg l a b) := h.sub ((List.drop_sublist _ _).trans (List.take_sublist _ _))
theorem seg_len (l : List S73) (a b : Nat) : (seg l a b).length ≤ l.length := by unfold seg; rw [List.length_drop, List.length_take]; omega
theorem rd_last (l : List Int) (p : Int) (i : Int) (h : i = (l.length : Int)) : rd (l ++ [p]) i = p := by
 subst h; simp [rd]
open Classical in
/-- The longest pieces, from window i on, the last one begun at p. -/
noncomputable def gr (l : List S73) : Nat → Nat → List Int → Nat → List Int
 | 0, _, out, p => out ++ [(p : Int)]
 | d + 1, i, out, p => if Feas (seg l p (i + 1)) then gr l d (i + 1) out p else gr l d (i + 1) (out ++ [(p : Int)]) i
theorem gr_len (l : List S73) : ∀ (d i : Nat) (out : List Int) (p : Nat), (gr l d i out p).length ≤ out.length + 1 + d
 | 0, i, out, p => by simp [gr]
 | d + 1, i, out, p => by
  rw [gr]
  split
  ·have := gr_len l d (i + 1) out p; omega
  ·have := gr_len l d (i + 1) (out ++ [(p : Int)]) i
   rw [List.length_append, List.length_singleton] at this; omega
open Classical in
theorem arm_pieces_loop {l : List S73} (h : Okl l) (hl : l.length ≤ 30) : ∀ (d i : Nat) (out : List Int) (p : Nat), l.length - i = d → i ≤ l.length → p ≤ i → out.length ≤ i →
  Ev (fun k => arm_pieces.l0 k l (out ++ [(p : Int)]) l.length i) (gr l d i out p) := by
 intro d
 induction d with
 | zero =>
  intro i out p hd hi hp ho
  refine ev_some _ fun k => ?_
  rw [arm_pieces.l0, if_neg (by omega), gr]
 | succ d ih =>
  intro i out p hd hi hp ho
  have hlen : ((out ++ [(p : Int)]).length : Int) = out.length + 1 := by simp
  have hlen' : (out ++ [(p : Int)]).length = out.length + 1 := by simp
  have hw : wrap64 ((i : Int) + 1) = ((i + 1 : Nat) : Int) := by rw [w64 (by omega) (by omega)]; rfl
  have hx : wrap64 (((out ++ [(p : Int)]).length : Int) - 1) = (out.length : Int) := by rw [hlen, w64 (by omega) (by omega)]; omega
  have hr := rd_last out (p : Int) (out.length : Int) rfl
  have c := can_ev (seg_ok h p (i + 1)) (by have := seg_len l p (i + 1); omega)
  have q1 : (i : Int) < (l.length : Int) := by omega
  have q2 : (0 : Int) ≤ (out.length : Int) := by omega
  have q3 : (out.length : Int) < ((out ++ [(p : Int)]).length : Int) := by omega
  have q4 : (0 : Int) ≤ (p : Int) := by omega
  have q5 : (p : Int) ≤ ((i + 1 : Nat) : Int) := by omega
  have q6 : ((i + 1 : Nat) : Int) ≤ (l.length : Int) := by omega
  have q7 : (out ++ [(p : Int)]).length < 17592186044416 := by omega
  have red : ∀ k, arm_pieces.l0 (k + 1) l (out ++ [(p : Int)]) l.length i = (arm_can.f k (seg l p (i + 1))).bind fun t => if t = true then arm_pieces.l0 k l (out ++ [(p : Int)]) l.length ((i + 1 : Nat) : Int) else arm_pieces.l0 k l (out ++ [(p : Int)] ++ [(i : Int)]) l.length ((i + 1 : Nat) : Int) := by
   intro k
   rewrite [arm_pieces.l0, if_pos q1, hx, if_pos q2, if_pos q3, hr, if_pos q4, hw, if_pos q5, if_pos q6, if_pos q7]
   simp only [Int.toNat_natCast]
   rfl
  refine Ev.step red ?_
  refine Ev.bind c ?_
  rw [gr]
  by_cases f : Feas (seg l p (i + 1))
  ·simp only [f, decide_true, if_true]
   exact ih (i + 1) out p (by omega) (by omega) (by omega) (by omega)
  ·simp only [f, decide_false, if_false, Bool.false_eq_true]
   exact ih (i + 1) (out ++ [(p : Int)]) i (by omega) (by omega) (by omega) (by omega)
/-- The longest pieces. -/
noncomputable def gp (l : List S73) : List Int := gr l (l.length - 1) 1 [] 0
theorem gr_first {l : List S73} (h : Okl l) (h1 : 1 ≤ l.length) : gr l l.length 0 [] 0 = gp l := by
 obtain ⟨d, hd⟩ : ∃ d, l.length = d + 1 := ⟨l.length - 1, by omega⟩
 rw [gp, hd, gr, if_pos]
 ·rfl
 ·refine feas_one (seg_ok h 0 1) ?_
  unfold seg; rw [List.length_drop, List.length_take]; omega
theorem arm_pieces_ev {l : List S73} (h : Okl l) (h1 : 1 ≤ l.length) (hl : l.length ≤ 30) : Ev (fun k => arm_pieces.f k l) (gp l) := by
 rw [← gr_first h h1]
 exact arm_pieces_loop h hl l.length 0 [] 0 (by omega) (by omega) (by omega) (by simp)
theorem arm_Pieces_ev (l : List S73) (hl : l.length ≤ 4611686018427387904) : Ev (fun k => arm_Pieces.f k l) (if okV l = true then (gp l, 0) else ([], 20)) := by
 have v1 := arm_valid_ev l hl
 cases hv : okV l with
 | false => rw [hv] at v1; exact Ev.bind v1 (Ev.now _)
 | true =>
  rw [hv] at v1
  obtain ⟨h, h1, h30⟩ := okV_okl hv
  refine Ev.bind v1 ?_
  simp only [if_true]
  exact Ev.bind (arm_pieces_ev h h1 h30) (Ev.now _)
/-- Where the piece that begins at an index ends. -/
def toI (l : List S73) (ps : List Int) (j : Nat) : Int := if j + 1 < ps.length then rd ps ((j + 1 : Nat) : Int) else l.length
/-- The piece that begins at an index is one. -/
def PA (l : List S73) (ps : List Int) (j : Nat) : Prop := 0 ≤ rd ps (j : Int) ∧ rd ps (j : Int) < toI l ps j ∧ toI l ps j ≤ l.length ∧ Feas (seg l (rd ps (j : Int)).toNat (toI l ps j).toNat)
theorem all_from {P : Nat → Prop} {i n : Nat} (h : i < n) : (∀ j, i ≤ j → j < n → P j) ↔ P i ∧ ∀ j, i + 1 ≤ j → j < n → P j := by
 constructor
 ·intro g; exact ⟨g i (Nat.le_refl _) h, fun j h1 h2 => g j (by omega) h2⟩
 ·rintro ⟨g, g2⟩ j h1 h2
  by_cases e : j = i
  ·subst e; exact g
  ·exact g2 j (by omega) h2
open Classical in
theorem arm_are_loop {l : List S73} (h : Okl l) (hl : l.length ≤ 30) {ps : List Int} (hps : ps.length ≤ 50) : ∀ (d i : Nat) (r : Bool), ps.length - i = d → i ≤ ps.length → (r = true ↔ ∀ j, i ≤ j → j < ps.length → PA l ps j) →
  Ev (fun k => arm_ArePieces.l0 k l ps ps ps.length i) (r, 0) := by
 intro d
 induction d with
 | zero =>
  intro i r hd hi hr
  have : r = true := hr.2 (fun j _ _ => by omega)
  subst this
  refine ev_some _ fun k => ?_
  rw [arm_ArePieces.l0, if_neg (by omega)]
 | succ d ih =>
  intro i r hd hi hr
  have hlt : i < ps.length := by omega
  rw [all_from hlt] at hr
  have hw : wrap64 ((i : Int) + 1) = ((i + 1 : Nat) : Int) := by rw [w64 (by omega) (by omega)]; rfl
  have q1 : (i : Int) < (ps.length : Int) := by omega
  have q2 : (0 : Int) ≤ (i : Int) := by omega
  have q3 : (0 : Int) ≤ ((i + 1 : Nat) : Int) := by omega
  have ih' := ih (i + 1) r (by omega) (by omega)
  have red : ∀ k, arm_ArePieces.l0 (k + 1) l ps ps ps.length i = if rd ps (i : Int) < 0 then some (false, 0) else if rd ps (i : Int) ≥ toI l ps i then some (false, 0) else if toI l ps i > (l.length : Int) then some (false, 0) else
    (if 0 ≤ rd ps (i : Int) then if rd ps (i : Int) ≤ toI l ps i then if toI l ps i ≤ (l.length : Int) then (arm_can.f k (seg l (rd ps (i : Int)).toNat (toI l ps i).toNat)).bind fun t => if t = true then arm_ArePieces.l0 k l ps ps ps.length ((i + 1 : Nat) : Int) else some (false, 0) else none else none else none) := by
   intro k
   rewrite [arm_ArePieces.l0, if_pos q1, if_pos q2, if_pos q1, hw]
   by_cases c : i + 1 < ps.length
   ·have c' : ((i + 1 : Nat) : Int) < (ps.length : Int) := by omega
    have e : toI l ps i = rd ps ((i + 1 : Nat) : Int) := by unfold toI; rw [if_pos c]
    rewrite [if_pos c', if_pos q3, e]
    rfl
   ·have c' : ¬ ((i + 1 : Nat) : Int) < (ps.length : Int) := by omega
    have e : toI l ps i = (l.length : Int) := by unfold toI; rw [if_neg c]
    rewrite [if_neg c', e]
    rfl
  have no : ¬ PA l ps i → r = false := fun hn => by
   cases r with
   | false => rfl
   | true => exact absurd (hr.1 rfl).1 hn
  generalize hx : rd ps (i : Int) = x at *
  generalize hy : toI l ps i = y at *
  by_cases c1 : x < 0
  ·rw [no (fun z => by have := z.1; omega)]
   exact ev_some _ fun k => by rw [red, if_pos c1]
  by_cases c2 : x ≥ y
  ·rw [no (fun z => by have := z.2.1; omega)]
   exact ev_some _ fun k => by rw [red, if_neg c1, if_pos c2]
  by_cases c3 : y > (l.length : Int)
  ·rw [no (fun z => by have := z.2.2.1; omega)]
   exact ev_some _ fun k => by rw [red, if_neg c1, if_neg c2, if_pos c3]
  have q4 : 0 ≤ x := by omega
  have q5 : x ≤ y := by omega
  have q6 : y ≤ (l.length : Int) := by omega
  have c := can_ev (seg_ok h x.toNat y.toNat) (by have := seg_len l x.toNat y.toNat; omega)
  refine Ev.step (fun k => (red k).trans (by rw [if_neg c1, if_neg c2, if_neg c3, if_pos q4, if_pos q5, if_pos q6])) ?_
  refine Ev.bind c ?_
  by_cases f : Feas (seg l x.toNat y.toNat)
  ·simp only [f, decide_true, if_true]
   refine ih' (hr.trans ⟨fun z => z.2, fun z => ⟨⟨by omega, by omega, by omega, ?_⟩, z⟩⟩)
   rw [hx, hy]; exact f
  ·simp only [f, decide_false, if_false, Bool.false_eq_true]
   rw [no (fun z => f (by have := z.2.2.2; rw [hx, hy] at this; exact this))]
   exact Ev.now _
/-- The pairs of neighbours, from the i-th number on. -/
def bg (ps : List Int) : Nat → Nat → List S84 → List S84
 | 0, _, out => out
 | d + 1, i, out => bg ps d (i + 1) (out ++ [(⟨rd ps (i : Int), rd ps ((i + 1 : Nat) : Int)⟩ : S84)])
theorem bg_len (ps : List Int) : ∀ (d i : Nat) (out : List S84), (bg ps d i out).length = out.length + d
 | 0, i, out => rfl
 | d + 1, i, out => by rw [bg, bg_len, List.length_append, List.length_singleton]; omega
theorem rd_drop1 (ps : List Int) (i : Nat) : rd (ps.drop 1) (i : Int) = rd ps ((i + 1 : Nat) : Int) := by
 simp [rd, List.getD_eq_getElem?_getD]
theorem arm_blocks_loop {ps : List Int} (hps : ps.length ≤ 1000000) : ∀ (d i : Nat) (out : List S84), i + 1 + d = ps.length → out.length ≤ i →
  Ev (fun k => arm_Blocks.l0 k out (rd ps (i : Int)) (ps.drop 1) ((ps.drop 1).length : Int) (i : Int)) (bg ps d i out, 0) := by
 intro d
 induction d with
 | zero =>
  intro i out hd ho
  have hl : (ps.drop 1).length = ps.length - 1 := List.length_drop
  exact ev_some _ fun k => by rw [arm_Blocks.l0, if_neg (by omega)]; rfl
 | succ d ih =>
  intro i out hd ho
  have hl : (ps.drop 1).length = ps.length - 1 := List.length_drop
  have hw2 : wrap64 ((i : Int) + 1) = ((i + 1 : Nat) : Int) := by rw [w64 (by omega) (by omega)]; rfl
  refine Ev.step (fun k => ?_) (ih (i + 1) (out ++ [(⟨rd ps (i : Int), rd ps ((i + 1 : Nat) : Int)⟩ : S84)]) (by omega) (by rw [List.length_append, List.length_singleton]; omega))
  rw [arm_Blocks.l0, if_pos (by omega), if_pos (by omega), if_pos (by omega), if_pos (by omega), hw2, rd_drop1]
theorem gr_head (l : List S73) : ∀ (d i : Nat) (out : List Int) (p : Nat), (∀ x, (out ++ [(p : Int)]).head? = some x → x = 0) → ∀ x, (gr l d i out p).head? = some x → x = 0
 | 0, i, out, p, h => by rw [gr]; exact h
 | d + 1, i, out, p, h => by
  rw [gr]
  split
  ·exact gr_head l d (i + 1) out p h
  ·refine gr_head l d (i + 1) (out ++ [(p : Int)]) i ?_
   intro x hx
   refine h x ?_
   cases out with
   | nil => simpa using hx
   | cons a b => simpa using hx
theorem gr_pos (l : List S73) : ∀ (d i : Nat) (out : List Int) (p : Nat), 1 ≤ (gr l d i out p).length
 | 0, i, out, p => by rw [gr]; simp
 | d + 1, i, out, p => by
  rw [gr]
  split
  ·exact gr_pos l d (i + 1) out p
  ·exact gr_pos l d (i + 1) _ i
theorem gp_zero (l : List S73) : rd (gp l) 0 = 0 := by
 have h := gr_head l (l.length - 1) 1 [] 0 (by intro x hx; simpa using hx.symm)
 unfold gp
 cases e : gr l (l.length - 1) 1 [] 0 with
 | nil => rfl
 | cons a b =>
  rw [e] at h
  have := h a rfl
  simp [rd, this]
/-- What Blocks answers. -/
noncomputable def blkR (l : List S73) : List S84 × Int := if okV l = true then (bg (gp l) ((gp l).length - 1) 0 [], 0) else ([], 20)
theorem gp_len (l : List S73) : 1 ≤ (gp l).length ∧ (gp l).length ≤ l.length + 1 := by
 have h1 := gr_pos l (l.length - 1) 1 [] 0
 have h2 := gr_len l (l.length - 1) 1 [] 0
 unfold gp
 simp only [List.length_nil] at h2
 omega
theorem arm_Blocks_ev (l : List S73) (hl : l.length ≤ 4611686018427387904) : Ev (fun k => arm_Blocks.f k l) (blkR l) := by
 have v1 := arm_valid_ev l hl
 unfold blkR
 cases hv : okV l with
 | false => rw [hv] at v1; exact Ev.bind v1 (Ev.now _)
 | true =>
  rw [hv] at v1
  obtain ⟨h, h1, h30⟩ := okV_okl hv
  have hg := gp_len l
  refine Ev.bind v1 ?_
  simp only [if_true]
  refine Ev.bind (arm_pieces_ev h h1 h30) ?_
  have e := arm_blocks_loop (ps := gp l) (by omega) ((gp l).length - 1) 0 [] (by omega) (by simp)
  rw [show ((0 : Nat) : Int) = 0 from rfl, gp_zero] at e
  refine Ev.congr (fun k => ?_) e
  rw [if_pos (by omega)]
  rfl
/-- A pair that is no block, behind one that ended at e. -/
def BadB (l : List S73) (a b e : Int) : Prop := a < e ∨ b ≤ a ∨ (l.length : Int) ≤ b ∨ Feas (seg l a.toNat (b + 1).toNat)
open Classical in
/-- Which pair is the first that is no block. -/
noncomputable def wgo (l : List S73) (bs : List S84) : Nat → Nat → Int → Int × Int
 | 0, _, e => (-1, e)
 | d + 1, i, e => if BadB l (rd_T84 bs (i : Int)).f0 (rd_T84 bs (i : Int)).f1 e then ((i : Int), e) else wgo l bs d (i + 1) (rd_T84 bs (i : Int)).f1
open Classical in
theorem lit_ev {l : List S73} (h : Okl l) (hl : l.length ≤ 30) (a b e : Int) (he : 0 ≤ e) : Ev (fun k => arm_AreBlocks_1.f k a b e l) (if BadB l a b e then (true, e) else (false, b)) := by
 unfold BadB
 by_cases c1 : a < e
 ·rw [if_pos (.inl c1)]
  exact ev_some _ fun k => by unfold arm_AreBlocks_1.f; rw [if_pos c1]
 by_cases c2 : b ≤ a
 ·rw [if_pos (.inr (.inl c2))]
  exact ev_some _ fun k => by unfold arm_AreBlocks_1.f; rw [if_neg c1, if_pos c2]
 by_cases c3 : (l.length : Int) ≤ b
 ·rw [if_pos (.inr (.inr (.inl c3)))]
  exact ev_some _ fun k => by unfold arm_AreBlocks_1.f; rw [if_neg c1, if_neg c2, if_pos c3]
 have hw : wrap64 (b + 1) = b + 1 := w64 (by omega) (by omega)
 have c := can_ev (seg_ok h a.toNat (b + 1).toNat) (by have := seg_len l a.toNat (b + 1).toNat; omega)
 refine Ev.congr (f := fun k => (arm_can.f k (seg l a.toNat (b + 1).toNat)).bind fun t => if t = true then some (true, e) else some (false, b)) (fun k => ?_) ?_
 ·unfold arm_AreBlocks_1.f
  rw [if_neg c1, if_neg c2, if_neg c3, hw, if_pos (by omega), if_pos (by omega), if_pos (by omega)]
  rfl
 ·refine Ev.bind c ?_
  by_cases f : Feas (seg l a.toNat (b + 1).toNat)
  ·simp only [f, or_true, decide_true, if_true]
   exact Ev.now _
  ·simp only [f, c1, c2, c3, or_self, decide_false, if_false, Bool.false_eq_true]
   exact Ev.now _
theorem arm_idx {l : List S73} (h : Okl l) (hl : l.length ≤ 30) {bs : List S84} (hbs : bs.length ≤ 50) : ∀ (d i : Nat) (e : Int), bs.length - i = d → i ≤ bs.length → 0 ≤ e →
  ∃ K, ∀ k, K ≤ k → ∀ n, d < n → arm_AreBlocks.i0 n bs (fun a b c => arm_AreBlocks_1.f k a b c l) (bs.length : Int) (i : Int) e = some (wgo l bs d i e) := by
 intro d
 induction d with
 | zero =>
  intro i e hd hi he
  refine ⟨0, fun k _ n hn => ?_⟩
  obtain ⟨m, rfl⟩ : ∃ m, n = m + 1 := ⟨n - 1, by omega⟩
  rw [arm_AreBlocks.i0, if_neg (by omega)]
  rfl
 | succ d ih =>
  intro i e hd hi he
  have hw : wrap64 ((i : Int) + 1) = ((i + 1 : Nat) : Int) := by rw [w64 (by omega) (by omega)]; rfl
  obtain ⟨K1, s1⟩ := lit_ev h hl (rd_T84 bs (i : Int)).f0 (rd_T84 bs (i : Int)).f1 e he
  by_cases c : BadB l (rd_T84 bs (i : Int)).f0 (rd_T84 bs (i : Int)).f1 e
  ·refine ⟨K1, fun k hk n hn => ?_⟩
   obtain ⟨m, rfl⟩ : ∃ m, n = m + 1 := ⟨n - 1, by omega⟩
   have a1 := s1 k hk
   rw [if_pos c] at a1
   dsimp only at a1
   rw [arm_AreBlocks.i0, if_pos (by omega), if_pos (by omega), if_pos (by omega), a1, wgo, if_pos c]
   rfl
  ·have hb : 0 ≤ (rd_T84 bs (i : Int)).f1 := by unfold BadB at c; omega
   obtain ⟨K2, s2⟩ := ih (i + 1) (rd_T84 bs (i : Int)).f1 (by omega) (by omega) hb
   refine ⟨K1 + K2, fun k hk n hn => ?_⟩
   obtain ⟨m, rfl⟩ : ∃ m, n = m + 1 := ⟨n - 1, by omega⟩
   have a1 := s1 k (by omega)
   rw [if_neg c] at a1
   dsimp only at a1
   have a2 := s2 k (by omega) m (by omega)
   rw [arm_AreBlocks.i0, if_pos (by omega), if_pos (by omega), if_pos (by omega), a1, wgo, if_neg c, hw]
   exact a2
/-- What AreBlocks answers. -/
noncomputable def areR (l : List S73) (bs : List S84) : Bool × Int := if okV l = true then (if bs.length ≤ 30 then (decide ((wgo l bs bs.length 0 0).1 < 0), 0) else (false, 0)) else (false, 20)
theorem arm_AreBlocks_ev (l : List S73) (hl : l.length ≤ 4611686018427387904) {bs : List S84} (hbs : bs.length ≤ 50) : Ev (fun k => arm_AreBlocks.f k l bs) (areR l bs) := by
 have v1 := arm_valid_ev l hl
 unfold areR
 cases hv : okV l with
 | false => rw [hv] at v1; exact Ev.bind v1 (Ev.now _)
 | true =>
  rw [hv] at v1
  obtain ⟨h, h1, h30⟩ := okV_okl hv
  refine Ev.bind v1 ?_
  simp only [if_true]
  by_cases c : bs.length ≤ 30
  ·obtain ⟨K, s⟩ := arm_idx h h30 hbs bs.length 0 0 (by omega) (by omega) (by omega)
   refine ⟨K + bs.length + 1, fun k hk => ?_⟩
   have a := s k (by omega) k (by omega)
   dsimp only
   rw [if_pos (by omega), if_pos c]
   unfold arm_AreBlocks.c
   rw [show ((0 : Nat) : Int) = 0 from rfl] at a
   rw [a]
   generalize wgo l bs bs.length 0 0 = x
   show some (!decide (x.1 ≥ 0), (0 : Int)) = some (decide (x.1 < 0), 0)
   by_cases z : x.1 < 0
   ·rw [decide_eq_true z, decide_eq_false (by omega)]; rfl
   ·rw [decide_eq_false z, decide_eq_true (by omega)]; rfl
  ·exact ev_some _ fun k => by rw [if_neg (by omega), if_neg c]
open Classical in
theorem ref_blk_loop {l : List S73} (h : Okl l) (hl : l.length ≤ 30) {bs : List S84} (hbs : bs.length ≤ 50) : ∀ (d i : Nat) (e : Int), bs.length - i = d → i ≤ bs.length → 0 ≤ e → e = (if i = 0 then 0 else (rd_T84 bs ((i - 1 : Nat) : Int)).f1) →
  Ev (fun k => dropperref03_AreBlocks.l0 k l bs (i : Int)) (decide ((wgo l bs d i e).1 < 0), 0) := by
 intro d
 induction d with
 | zero =>
  intro i e hd hi he hq
  exact ev_some _ fun k => by rw [dropperref03_AreBlocks.l0, if_neg (by omega)]; rfl
 | succ d ih =>
  intro i e hd hi he hq
  have hw : wrap64 ((i : Int) + 1) = ((i + 1 : Nat) : Int) := by rw [w64 (by omega) (by omega)]; rfl
  have q1 : (i : Int) < (bs.length : Int) := by omega
  have q2 : (0 : Int) ≤ (i : Int) := by omega
  have ih' := fun hb => ih (i + 1) (rd_T84 bs (i : Int)).f1 (by omega) (by omega) hb (by rw [if_neg (by omega)]; rfl)
  rw [wgo]
  generalize hx : rd_T84 bs (i : Int) = x at ih' ⊢
  have bad : BadB l x.f0 x.f1 e → decide ((if BadB l x.f0 x.f1 e then ((i : Int), e) else wgo l bs d (i + 1) x.f1).1 < 0) = false := fun z => by
   rw [if_pos z]; exact decide_eq_false (by dsimp only; omega)
  by_cases c0 : x.f0 < 0
  ·rw [bad (.inl (by omega))]
   exact ev_some _ fun k => by rw [dropperref03_AreBlocks.l0, if_pos q1, if_pos q2, hx, if_pos c0]
  by_cases c2 : x.f1 ≤ x.f0
  ·rw [bad (.inr (.inl c2))]
   exact ev_some _ fun k => by rw [dropperref03_AreBlocks.l0, if_pos q1, if_pos q2, hx, if_neg c0, if_pos c2]
  by_cases c3 : x.f1 ≥ (l.length : Int)
  ·rw [bad (.inr (.inr (.inl c3)))]
   exact ev_some _ fun k => by rw [dropperref03_AreBlocks.l0, if_pos q1, if_pos q2, hx, if_neg c0, if_neg c2, if_pos c3]
  have hw1 : wrap64 (x.f1 + 1) = x.f1 + 1 := w64 (by omega) (by omega)
  have cs := some_ev (seg_ok h x.f0.toNat (x.f1 + 1).toNat) (by have := seg_len l x.f0.toNat (x.f1 + 1).toNat; omega)
  have go : ¬ x.f0 < e → Ev (fun k => (dropperref03_Some.f k (seg l x.f0.toNat (x.f1 + 1).toNat)).bind fun t => if t = true then some (false, (0 : Int)) else dropperref03_AreBlocks.l0 k l bs ((i + 1 : Nat) : Int)) (decide ((if BadB l x.f0 x.f1 e then ((i : Int), e) else wgo l bs d (i + 1) x.f1).1 < 0), 0) := fun c1 => by
   refine Ev.bind cs ?_
   by_cases f : Feas (seg l x.f0.toNat (x.f1 + 1).toNat)
   ·rw [bad (.inr (.inr (.inr f)))]
    simp only [f, decide_true, if_true]
    exact Ev.now _
   ·rw [if_neg (show ¬ BadB l x.f0 x.f1 e by unfold BadB; simp only [f, or_false]; omega)]
    simp only [f, decide_false, if_false, Bool.false_eq_true]
    exact ih' (by omega)
  by_cases ci : i = 0
  ·subst ci
   rw [if_pos rfl] at hq
   refine Ev.step (fun k => ?_) (go (by omega))
   rw [dropperref03_AreBlocks.l0, if_pos q1, if_pos q2, hx, if_neg c0, if_neg c2, if_neg c3, if_neg (by omega), if_pos (by omega), hw1, if_pos (by omega), if_pos (by omega), hw]
   rfl
  ·rw [if_neg ci] at hq
   have hw2 : wrap64 ((i : Int) - 1) = ((i - 1 : Nat) : Int) := by rw [w64 (by omega) (by omega)]; omega
   by_cases c1 : x.f0 < e
   ·rw [bad (.inl c1)]
    exact ev_some _ fun k => by rw [dropperref03_AreBlocks.l0, if_pos q1, if_pos q2, hx, if_neg c0, if_neg c2, if_neg c3, if_pos (by omega), hw2, if_pos (by omega), if_pos (by omega), ← hq, if_pos c1]
   ·refine Ev.step (fun k => ?_) (go c1)
    rw [dropperref03_AreBlocks.l0, if_pos q1, if_pos q2, hx, if_neg c0, if_neg c2, if_neg c3, if_pos (by omega), hw2, if_pos (by omega), if_pos (by omega), ← hq, if_neg c1, if_pos (by omega), hw1, if_pos (by omega), if_pos (by omega), hw]
    rfl
theorem ref_AreBlocks_ev (l : List S73) (hl : l.length ≤ 4611686018427387904) {bs : List S84} (hbs : bs.length ≤ 50) : Ev (fun k => dropperref03_AreBlocks.f k l bs) (areR l bs) := by
 have v1 := ref_valid_ev l hl
 unfold areR
 cases hv : okV l with
 | false => rw [hv] at v1; exact Ev.bind v1 (Ev.now _)
 | true =>
  rw [hv] at v1
  obtain ⟨h, h1, h30⟩ := okV_okl hv
  refine Ev.bind v1 ?_
  simp only [if_true]
  by_cases c : bs.length ≤ 30
  ·have e := ref_blk_loop h h30 hbs bs.length 0 0 (by omega) (by omega) (by omega) (by rw [if_pos rfl])
   refine Ev.congr (fun k => ?_) (Ev.congr (fun k => rfl) (by rw [if_pos c]; exact e))
   rw [if_neg (by omega)]
   rfl
  ·exact ev_some _ fun k => by rw [if_pos (by omega), if_neg c]
/-- An index is within the windows, and behind the one ahead of it. -/
def PI (l : List S73) (ps : List Int) (j : Nat) : Prop := 0 ≤ rd ps (j : Int) ∧ rd ps (j : Int) < l.length ∧ (0 < j → rd ps ((j - 1 : Nat) : Int) < rd ps (j : Int))
/-- Indexes that begin with 0. -/
def P0 (ps : List Int) : Prop := ps ≠ [] ∧ rd ps 0 = 0
def FA (l : List S73) (ps : List Int) (j : Nat) : Prop := Feas (seg l (rd ps (j : Int)).toNat (toI l ps j).toNat)
theorem pa_iff (l : List S73) (ps : List Int) : (∀ j, j < ps.length → PA l ps j) ↔ (∀ j, j < ps.length → PI l ps j) ∧ ∀ j, j < ps.length → FA l ps j := by
 constructor
 ·intro h
  refine ⟨fun j hj => ?_, fun j hj => (h j hj).2.2.2⟩
  obtain ⟨h1, h2, h3, _⟩ := h j hj
  refine ⟨h1, by omega, fun h0 => ?_⟩
  obtain ⟨_, g2, _⟩ := h (j - 1) (by omega)
  unfold toI at g2
  rw [if_pos (by omega), show j - 1 + 1 = j by omega] at g2
  exact g2
 ·rintro ⟨h, h'⟩ j hj
  obtain ⟨h1, h2, _⟩ := h j hj
  refine ⟨h1, ?_, ?_, h' j hj⟩
  ·unfold toI
   by_cases c : j + 1 < ps.length
   ·rw [if_pos c]
    exact (h (j + 1) c).2.2 (by omega)
   ·rw [if_neg c]; exact h2
  ·unfold toI
   by_cases c : j + 1 < ps.length
   ·rw [if_pos c]
    have := (h (j + 1) c).2.1; omega
   ·rw [if_neg c]; omega
open Classical in
theorem ref_are_loop1 {l : List S73} (h : Okl l) (hl : l.length ≤ 30) {ps : List Int} (hps : ps.length ≤ 50) (hI : ∀ j, j < ps.length → PI l ps j) : ∀ (d i : Nat) (r : Bool), ps.length - i = d → i ≤ ps.length → (r = true ↔ ∀ j, i ≤ j → j < ps.length → FA l ps j) →
  Ev (fun k => dropperref03_ArePieces.l1 k l ps i) (r, 0) := by
 intro d
 induction d with
 | zero =>
  intro i r hd hi hr
  have : r = true := hr.2 (fun j _ _ => by omega)
  subst this
  refine ev_some _ fun k => ?_
  rw [dropperref03_ArePieces.l1, if_neg (by omega)]
 | succ d ih =>
  intro i r hd hi hr
  have hlt : i < ps.length := by omega
  rw [all_from hlt] at hr
  obtain ⟨i1, i2, _⟩ := hI i hlt
  have hw : wrap64 ((i : Int) + 1) = ((i + 1 : Nat) : Int) := by rw [w64 (by omega) (by omega)]; rfl
  have q1 : (i : Int) < (ps.length : Int) := by omega
  have q2 : (0 : Int) ≤ (i : Int) := by omega
  have q3 : (0 : Int) ≤ ((i + 1 : Nat) : Int) := by omega
  have ih' := ih (i + 1) r (by omega) (by omega)
  have t : rd ps (i : Int) ≤ toI l ps i ∧ toI l ps i ≤ (l.length : Int) := by
   unfold toI
   by_cases c : i + 1 < ps.length
   ·rw [if_pos c]
    obtain ⟨_, k2, k3⟩ := hI (i + 1) c
    have := k3 (by omega)
    rw [show i + 1 - 1 = i by omega] at this
    omega
   ·rw [if_neg c]; omega
  obtain ⟨t1, t2⟩ := t
  have red : ∀ k, dropperref03_ArePieces.l1 (k + 1) l ps i = 
    ((dropperref03_Some.f k (seg l (rd ps (i : Int)).toNat (toI l ps i).toNat)).bind fun t => if t = true then dropperref03_ArePieces.l1 k l ps ((i + 1 : Nat) : Int) else some (false, 0)) := by
   intro k
   rewrite [dropperref03_ArePieces.l1, if_pos q1, hw]
   by_cases c : i + 1 < ps.length
   ·have c' : ((i + 1 : Nat) : Int) < (ps.length : Int) := by omega
    have e : toI l ps i = rd ps ((i + 1 : Nat) : Int) := by unfold toI; rw [if_pos c]
    rewrite [e] at t1 t2
    rewrite [if_pos c', if_pos q3, if_pos q2, if_pos i1, if_pos t1, if_pos t2, e]
    rfl
   ·have c' : ¬ ((i + 1 : Nat) : Int) < (ps.length : Int) := by omega
    have e : toI l ps i = (l.length : Int) := by unfold toI; rw [if_neg c]
    rewrite [e] at t1 t2
    rewrite [if_neg c', if_pos q2, if_pos i1, if_pos t1, if_pos t2, e]
    rfl
  have c := some_ev (seg_ok h (rd ps (i : Int)).toNat (toI l ps i).toNat) (by have := seg_len l (rd ps (i : Int)).toNat (toI l ps i).toNat; omega)
  refine Ev.step red ?_
  refine Ev.bind c ?_
  by_cases f : Feas (seg l (rd ps (i : Int)).toNat (toI l ps i).toNat)
  ·simp only [f, decide_true, if_true]
   exact ih' (hr.trans ⟨fun z => z.2, fun z => ⟨f, z⟩⟩)
  ·simp only [f, decide_false, if_false, Bool.false_eq_true]
   have : r = false := by
    cases r with
    | false => rfl
    | true => exact absurd (hr.1 rfl).1 f
   rw [this]
   exact Ev.now _
open Classical in
theorem ref_are_loop0 {l : List S73} (h : Okl l) (hl : l.length ≤ 30) {ps : List Int} (hps : ps.length ≤ 50) (r : Bool) (hr : r = true ↔ P0 ps ∧ ∀ j, j < ps.length → PA l ps j) : ∀ (d i : Nat), ps.length - i = d → i ≤ ps.length → (∀ j, j < i → PI l ps j) →
  Ev (fun k => dropperref03_ArePieces.l0 k l ps i) (r, 0) := by
 intro d
 induction d with
 | zero =>
  intro i hd hi hp
  obtain rfl : i = ps.length := by omega
  rw [pa_iff] at hr
  have q1 : ¬ (ps.length : Int) < (ps.length : Int) := by omega
  by_cases c : P0 ps
  ·obtain ⟨c1, c2⟩ := c
   have hpos : 0 < ps.length := List.length_pos_iff.2 c1
   have q2 : ¬ (ps.length : Int) = 0 := by omega
   have q3 : (0 : Int) < (ps.length : Int) := by omega
   have e := ref_are_loop1 h hl hps hp ps.length 0 r (by omega) (by omega) (by
    rw [hr]
    exact ⟨fun z j _ hj => z.2.2 j hj, fun z => ⟨⟨c1, c2⟩, hp, fun j hj => z j (Nat.zero_le j) hj⟩⟩)
   refine Ev.step (fun k => ?_) (Ev.step (g := fun k => dropperref03_ArePieces.j1 k l ps false) (fun k => ?_) e)
   ·rw [dropperref03_ArePieces.l0, if_neg q1, if_neg q2, if_pos q3, c2]
    rfl
   ·rw [dropperref03_ArePieces.j1]
    rfl
  ·have e : r = false := by
    cases r with
    | false => rfl
    | true => exact absurd (hr.1 rfl).1 c
   rw [e]
   refine Ev.step (f := fun k => dropperref03_ArePieces.j1 k l ps true) (fun k => ?_) (ev_some _ fun k => by rw [dropperref03_ArePieces.j1, if_pos rfl])
   rw [dropperref03_ArePieces.l0, if_neg q1]
   by_cases z : ps = []
   ·subst z; rfl
   ·have hpos : 0 < ps.length := List.length_pos_iff.2 z
    rw [if_neg (by omega), if_pos (by omega)]
    have : rd ps 0 ≠ 0 := fun y => c ⟨z, y⟩
    rw [show (rd ps 0 != 0) = true by simpa using this]
 | succ d ih =>
  intro i hd hi hp
  have hlt : i < ps.length := by omega
  have hw : wrap64 ((i : Int) + 1) = ((i + 1 : Nat) : Int) := by rw [w64 (by omega) (by omega)]; rfl
  have q1 : (i : Int) < (ps.length : Int) := by omega
  have q2 : (0 : Int) ≤ (i : Int) := by omega
  have ih' := ih (i + 1) (by omega) (by omega)
  have no : ¬ PI l ps i → r = false := fun hn => by
   cases r with
   | false => rfl
   | true => exact absurd (((pa_iff l ps).1 (hr.1 rfl).2).1 i hlt) hn
  have go : PI l ps i → ∀ j, j < i + 1 → PI l ps j := fun g j hj => by
   by_cases e : j = i
   ·subst e; exact g
   ·exact hp j (by omega)
  by_cases c1 : rd ps (i : Int) < 0
  ·rw [no (fun z => by have := z.1; omega)]
   exact ev_some _ fun k => by rw [dropperref03_ArePieces.l0, if_pos q1, if_pos q2, if_pos c1]
  by_cases c2 : rd ps (i : Int) ≥ (l.length : Int)
  ·rw [no (fun z => by have := z.2.1; omega)]
   exact ev_some _ fun k => by rw [dropperref03_ArePieces.l0, if_pos q1, if_pos q2, if_neg c1, if_pos c2]
  by_cases c3 : 0 < i
  ·have hw1 : wrap64 ((i : Int) - 1) = ((i - 1 : Nat) : Int) := by rw [w64 (by omega) (by omega)]; omega
   by_cases c4 : rd ps (i : Int) ≤ rd ps ((i - 1 : Nat) : Int)
   ·rw [no (fun z => by have := z.2.2 c3; omega)]
    exact ev_some _ fun k => by rw [dropperref03_ArePieces.l0, if_pos q1, if_pos q2, if_neg c1, if_neg c2, if_pos (by omega), hw1, if_pos (by omega), if_pos (by omega), if_pos c4]
   ·refine Ev.step (fun k => ?_) (ih' (go ⟨by omega, by omega, fun _ => by omega⟩))
    rw [dropperref03_ArePieces.l0, if_pos q1, if_pos q2, if_neg c1, if_neg c2, if_pos (by omega), hw1, if_pos (by omega), if_pos (by omega), if_neg c4, hw]
  ·refine Ev.step (fun k => ?_) (ih' (go ⟨by omega, by omega, fun _ => by omega⟩))
   rw [dropperref03_ArePieces.l0, if_pos q1, if_pos q2, if_neg c1, if_neg c2, if_neg (by omega), hw]
/-- What ArePieces answers. -/
def ArePA (l : List S73) (ps : List Int) : Prop := P0 ps ∧ ∀ j, j < ps.length → PA l ps j
open Classical in
theorem arm_ArePieces_ev (l : List S73) (hl : l.length ≤ 4611686018427387904) {ps : List Int} (hps : ps.length ≤ 50) : Ev (fun k => arm_ArePieces.f k l ps) (if okV l = true then (decide (ArePA l ps), 0) else (false, 20)) := by
 have v1 := arm_valid_ev l hl
 cases hv : okV l with
 | false => rw [hv] at v1; exact Ev.bind v1 (Ev.now _)
 | true =>
  rw [hv] at v1
  obtain ⟨h, h1, h30⟩ := okV_okl hv
  refine Ev.bind v1 ?_
  simp only [if_true]
  have out : ¬ ArePA l ps → Ev (fun k => arm_ArePieces.j0 k l ps true) (decide (ArePA l ps), 0) := fun z => by
   rw [decide_eq_false z]
   exact ev_some _ fun k => by rw [arm_ArePieces.j0, if_pos rfl]
  by_cases c1 : ps = []
  ·have := out (fun z => z.1.1 c1)
   refine Ev.congr (fun k => ?_) this
   rw [if_pos (by simp [c1])]
  ·have hpos : 0 < ps.length := List.length_pos_iff.2 c1
   have q1 : ¬ (ps.length : Int) = 0 := by omega
   have q2 : (0 : Int) < (ps.length : Int) := by omega
   by_cases c2 : rd ps 0 = 0
   ·have hx : wrap64 ((ps.length : Int) - 1) = ((ps.length - 1 : Nat) : Int) := by rw [w64 (by omega) (by omega)]; omega
    have q3 : (0 : Int) ≤ ((ps.length - 1 : Nat) : Int) := by omega
    have q4 : ((ps.length - 1 : Nat) : Int) < (ps.length : Int) := by omega
    by_cases c3 : rd ps ((ps.length - 1 : Nat) : Int) ≥ (l.length : Int)
    ·have := out (fun z => by
      obtain ⟨_, g2, g3, _⟩ := z.2 (ps.length - 1) (by omega)
      omega)
     refine Ev.congr (fun k => ?_) this
     rw [if_neg q1, if_pos q2, if_pos c2, hx, if_pos q3, if_pos q4, decide_eq_true c3]
    ·have e := arm_are_loop h h30 hps ps.length 0 (decide (ArePA l ps)) (by omega) (by omega) (by
      rw [decide_eq_true_iff]
      exact ⟨fun z j _ hj => z.2 j hj, fun z => ⟨⟨c1, c2⟩, fun j hj => z j (Nat.zero_le j) hj⟩⟩)
     refine Ev.congr (fun k => ?_) (Ev.step (g := fun k => arm_ArePieces.j0 k l ps false) (fun k => ?_) e)
     ·rw [if_neg q1, if_pos q2, if_pos c2, hx, if_pos q3, if_pos q4, decide_eq_false c3]
     ·rw [arm_ArePieces.j0]
      rfl
   ·have := out (fun z => c2 z.1.2)
    refine Ev.congr (fun k => ?_) this
    rw [if_neg q1, if_pos q2, if_neg c2]
open Classical in
theorem ref_ArePieces_ev (l : List S73) (hl : l.length ≤ 4611686018427387904) {ps : List Int} (hps : ps.length ≤ 50) : Ev (fun k => dropperref03_ArePieces.f k l ps) (if okV l = true then (decide (ArePA l ps), 0) else (false, 20)) := by
 have v1 := ref_valid_ev l hl
 cases hv : okV l with
 | false => rw [hv] at v1; exact Ev.bind v1 (Ev.now _)
 | true =>
  rw [hv] at v1
  obtain ⟨h, h1, h30⟩ := okV_okl hv
  refine Ev.bind v1 ?_
  simp only [if_true]
  exact ref_are_loop0 h h30 hps _ (by rw [decide_eq_true_iff]; rfl) ps.length 0 (by omega) (by omega) (fun j hj => by omega)
theorem line_ab {x0 y0 z0 A B yl yh : Rat} (hxy : x0 < y0) (hyz : y0 < z0) (h1 : yl * (z0 - x0) ≤ A * (z0 - y0) + B * (y0 - x0)) (h2 : A * (z0 - y0) + B * (y0 - x0) ≤ yh * (z0 - x0)) :
  ∃ m c : Rat, m * x0 + c = A ∧ m * z0 + c = B ∧ yl ≤ m * y0 + c ∧ m * y0 + c ≤ yh := by
 have hW : 0 < z0 - x0 := by grind
 have hW' : z0 - x0 ≠ 0 := by grind
 have hc := Rat.div_mul_cancel (a := B - A) hW'
 generalize hm : (B - A) / (z0 - x0) = m at hc
 refine ⟨m, A - m * x0, by grind, by grind, ?_, ?_⟩
 ·refine Rat.le_of_mul_le_mul_right ?_ hW
  have : (m * y0 + (A - m * x0)) * (z0 - x0) = A * (z0 - y0) + B * (y0 - x0) := by grind
  rw [this]; exact h1
 ·refine Rat.le_of_mul_le_mul_right ?_ hW
  have : (m * y0 + (A - m * x0)) * (z0 - x0) = A * (z0 - y0) + B * (y0 - x0) := by grind
  rw [this]; exact h2
theorem three_iff {x0 y0 z0 xl xh yl yh zl zh : Rat} (hxy : x0 < y0) (hyz : y0 < z0) (hx : xl ≤ xh) (hy : yl ≤ yh) (hz : zl ≤ zh) :
  (∃ m c : Rat, (xl ≤ m * x0 + c ∧ m * x0 + c ≤ xh) ∧ (yl ≤ m * y0 + c ∧ m * y0 + c ≤ yh) ∧ (zl ≤ m * z0 + c ∧ m * z0 + c ≤ zh)) ↔
   (xl * (z0 - y0) + zl * (y0 - x0) ≤ yh * (z0 - x0) ∧ yl * (z0 - x0) ≤ xh * (z0 - y0) + zh * (y0 - x0)) := by
 have p1 : 0 ≤ z0 - y0 := by grind
 have p2 : 0 ≤ y0 - x0 := by grind
 have p3 : 0 ≤ z0 - x0 := by grind
 constructor
 ·rintro ⟨m, c, ⟨a1, a2⟩, ⟨b1, b2⟩, ⟨c1, c2⟩⟩
  have e : (m * x0 + c) * (z0 - y0) + (m * z0 + c) * (y0 - x0) = (m * y0 + c) * (z0 - x0) := by grind
  have i1 := Rat.mul_le_mul_of_nonneg_right a1 p1
  have i2 := Rat.mul_le_mul_of_nonneg_right a2 p1
  have i3 := Rat.mul_le_mul_of_nonneg_right c1 p2
  have i4 := Rat.mul_le_mul_of_nonneg_right c2 p2
  have i5 := Rat.mul_le_mul_of_nonneg_right b1 p3
  have i6 := Rat.mul_le_mul_of_nonneg_right b2 p3
  generalize (m * x0 + c) * (z0 - y0) = X at *
  generalize (m * z0 + c) * (y0 - x0) = Z at *
  generalize (m * y0 + c) * (z0 - x0) = Y at *
  constructor <;> grind
 ·rintro ⟨h1, h2⟩
  have j1 := Rat.mul_le_mul_of_nonneg_right hy p3
  by_cases t0 : yl * (z0 - x0) ≤ xl * (z0 - y0) + zl * (y0 - x0)
  ·obtain ⟨m, c, e1, e2, e3, e4⟩ := line_ab hxy hyz t0 h1
   exact ⟨m, c, by grind, by grind, by grind⟩
  by_cases t1 : xh * (z0 - y0) + zh * (y0 - x0) ≤ yh * (z0 - x0)
  ·obtain ⟨m, c, e1, e2, e3, e4⟩ := line_ab hxy hyz h2 t1
   exact ⟨m, c, by grind, by grind, by grind⟩
  ·have hD : 0 < (xh * (z0 - y0) + zh * (y0 - x0)) - (xl * (z0 - y0) + zl * (y0 - x0)) := by grind
   have hc := Rat.div_mul_cancel (a := yl * (z0 - x0) - (xl * (z0 - y0) + zl * (y0 - x0))) (b := (xh * (z0 - y0) + zh * (y0 - x0)) - (xl * (z0 - y0) + zl * (y0 - x0))) (by grind)
   generalize ht : (yl * (z0 - x0) - (xl * (z0 - y0) + zl * (y0 - x0))) / ((xh * (z0 - y0) + zh * (y0 - x0)) - (xl * (z0 - y0) + zl * (y0 - x0))) = t at hc
   have ht0 : 0 ≤ t := by
    refine Rat.le_of_mul_le_mul_right ?_ hD
    rw [hc]; grind
   have ht1 : t ≤ 1 := by
    refine Rat.le_of_mul_le_mul_right ?_ hD
    rw [hc]; grind
   have k1 := Rat.mul_le_mul_of_nonneg_right ht0 (show 0 ≤ xh - xl by grind)
   have k2 := Rat.mul_le_mul_of_nonneg_right ht1 (show 0 ≤ xh - xl by grind)
   have k3 := Rat.mul_le_mul_of_nonneg_right ht0 (show 0 ≤ zh - zl by grind)
   have k4 := Rat.mul_le_mul_of_nonneg_right ht1 (show 0 ≤ zh - zl by grind)
   have e : (xl + t * (xh - xl)) * (z0 - y0) + (zl + t * (zh - zl)) * (y0 - x0) = yl * (z0 - x0) := by grind
   obtain ⟨m, c, e1, e2, e3, e4⟩ := line_ab (A := xl + t * (xh - xl)) (B := zl + t * (zh - zl)) (yl := yl) (yh := yh) hxy hyz (by grind) (by grind)
   exact ⟨m, c, by grind, by grind, by grind⟩
/-- Three windows, as the document's answer tells them: the middle one is missed by what the outer ones let reach it. -/
def forb (x y z : S73) : Prop := y.f2 * (z.f0 - x.f0) < x.f1 * (z.f0 - y.f0) + z.f1 * (y.f0 - x.f0) ∨ x.f2 * (z.f0 - y.f0) + z.f2 * (y.f0 - x.f0) < y.f1 * (z.f0 - x.f0)
theorem forb_iff {x y z : S73} (hx : inB x) (hy : inB y) (hz : inB z) (h1 : x.f0 < y.f0) (h2 : y.f0 < z.f0) : forb x y z ↔ ¬ Feas [x, y, z] := by
 have c : ∀ {a b : Int}, a ≤ b → (a : Rat) ≤ b := fun h => Rat.intCast_le_intCast.2 h
 have key := three_iff (x0 := x.f0) (y0 := y.f0) (z0 := z.f0) (Rat.intCast_lt_intCast.2 h1) (Rat.intCast_lt_intCast.2 h2) (c hx.2.2.2.1) (c hy.2.2.2.1) (c hz.2.2.2.1)
 have e : Feas [x, y, z] ↔ (∃ m c : Rat, ((x.f1 : Rat) ≤ m * x.f0 + c ∧ m * x.f0 + c ≤ x.f2) ∧ ((y.f1 : Rat) ≤ m * y.f0 + c ∧ m * y.f0 + c ≤ y.f2) ∧ ((z.f1 : Rat) ≤ m * z.f0 + c ∧ m * z.f0 + c ≤ z.f2)) := by
  unfold Feas thr
  simp
 rw [e, key]
 have e1 : ((x.f1 : Rat) * (z.f0 - y.f0) + z.f1 * (y.f0 - x.f0) ≤ y.f2 * (z.f0 - x.f0)) ↔ x.f1 * (z.f0 - y.f0) + z.f1 * (y.f0 - x.f0) ≤ y.f2 * (z.f0 - x.f0) := by
  rw [← Rat.intCast_le_intCast]; simp
 have e2 : ((y.f1 : Rat) * (z.f0 - x.f0) ≤ x.f2 * (z.f0 - y.f0) + z.f2 * (y.f0 - x.f0)) ↔ y.f1 * (z.f0 - x.f0) ≤ x.f2 * (z.f0 - y.f0) + z.f2 * (y.f0 - x.f0) := by
  rw [← Rat.intCast_le_intCast]; simp
 rw [e1, e2]
 unfold forb
 omega
instance (x y z : S73) : Decidable (forb x y z) := by unfold forb; infer_instance
theorem mul_bd {a b : Int} {A B : Nat} (ha : a.natAbs ≤ A) (hb : b.natAbs ≤ B) : (a * b).natAbs ≤ A * B := by
 rw [Int.natAbs_mul]; exact Nat.mul_le_mul ha hb
theorem ref_forbids_ev {l : List S73} (h : Okl l) {a b c : Nat} (hab : a < b) (hbc : b < c) (hc : c < l.length) :
  dropperref03_forbids.f l a b c = some (decide (forb (rd_T73 l (a : Int)) (rd_T73 l (b : Int)) (rd_T73 l (c : Int)))) := by
 have hx := h.bnd _ (rd_mem (show a < l.length by omega))
 have hy := h.bnd _ (rd_mem (show b < l.length by omega))
 have hz := h.bnd _ (rd_mem hc)
 unfold dropperref03_forbids.f
 rw [if_pos (by omega), if_pos (by omega), if_pos (by omega), if_pos (by omega), if_pos (by omega), if_pos (by omega)]
 generalize rd_T73 l (a : Int) = x at *
 generalize rd_T73 l (b : Int) = y at *
 generalize rd_T73 l (c : Int) = z at *
 obtain ⟨_, _, _, _, _⟩ := hx
 obtain ⟨_, _, _, _, _⟩ := hy
 obtain ⟨_, _, _, _, _⟩ := hz
 have m1 := mul_bd (a := y.f2) (b := z.f0 - x.f0) (A := 1000) (B := 100000) (by omega) (by omega)
 have m2 := mul_bd (a := x.f1) (b := z.f0 - y.f0) (A := 1000) (B := 100000) (by omega) (by omega)
 have m3 := mul_bd (a := z.f1) (b := y.f0 - x.f0) (A := 1000) (B := 100000) (by omega) (by omega)
 have m4 := mul_bd (a := y.f1) (b := z.f0 - x.f0) (A := 1000) (B := 100000) (by omega) (by omega)
 have m5 := mul_bd (a := x.f2) (b := z.f0 - y.f0) (A := 1000) (B := 100000) (by omega) (by omega)
 have m6 := mul_bd (a := z.f2) (b := y.f0 - x.f0) (A := 1000) (B := 100000) (by omega) (by omega)
 rw [w64 (n := z.f0 - x.f0) (by omega) (by omega), w64 (n := z.f0 - y.f0) (by omega) (by omega), w64 (n := y.f0 - x.f0) (by omega) (by omega)]
 rw [w64 (n := y.f2 * (z.f0 - x.f0)) (by omega) (by omega), w64 (n := x.f1 * (z.f0 - y.f0)) (by omega) (by omega), w64 (n := z.f1 * (y.f0 - x.f0)) (by omega) (by omega), w64 (n := y.f1 * (z.f0 - x.f0)) (by omega) (by omega), w64 (n := x.f2 * (z.f0 - y.f0)) (by omega) (by omega), w64 (n := z.f2 * (y.f0 - x.f0)) (by omega) (by omega)]
 rw [w64 (n := x.f1 * (z.f0 - y.f0) + z.f1 * (y.f0 - x.f0)) (by omega) (by omega), w64 (n := x.f2 * (z.f0 - y.f0) + z.f2 * (y.f0 - x.f0)) (by omega) (by omega)]
 by_cases c1 : y.f2 * (z.f0 - x.f0) < x.f1 * (z.f0 - y.f0) + z.f1 * (y.f0 - x.f0)
 ·rw [if_pos c1, decide_eq_true (show forb x y z from .inl c1)]
 ·rw [if_neg c1]
  by_cases c2 : x.f2 * (z.f0 - y.f0) + z.f2 * (y.f0 - x.f0) < y.f1 * (z.f0 - x.f0)
  ·rw [decide_eq_true (show forb x y z from .inr c2), decide_eq_true (show y.f1 * (z.f0 - x.f0) > x.f2 * (z.f0 - y.f0) + z.f2 * (y.f0 - x.f0) from c2)]
  ·rw [decide_eq_false (show ¬ forb x y z from fun h => h.elim c1 c2), decide_eq_false (show ¬ (y.f1 * (z.f0 - x.f0) > x.f2 * (z.f0 - y.f0) + z.f2 * (y.f0 - x.f0)) from c2)]
open Classical in
theorem arm_forbids_ev {l : List S73} (h : Okl l) {a b c : Nat} (hab : a < b) (hbc : b < c) (hc : c < l.length) :
  Ev (fun k => arm_forbids.f k l a b c) (decide (forb (rd_T73 l (a : Int)) (rd_T73 l (b : Int)) (rd_T73 l (c : Int)))) := by
 have hx := h.bnd _ (rd_mem (show a < l.length by omega))
 have hy := h.bnd _ (rd_mem (show b < l.length by omega))
 have hz := h.bnd _ (rd_mem hc)
 have h1 := h.lt hab (by omega)
 have h2 := h.lt hbc hc
 have ho : Okl [rd_T73 l (a : Int), rd_T73 l (b : Int), rd_T73 l (c : Int)] := by
  refine ⟨?_, ?_⟩
  ·intro w hw
   simp only [List.mem_cons, List.not_mem_nil, or_false] at hw
   rcases hw with rfl | rfl | rfl <;> assumption
  ·simp only [List.pairwise_cons, List.mem_cons, List.not_mem_nil, or_false]
   refine ⟨?_, ?_, by simp, List.Pairwise.nil⟩
   ·rintro w (rfl | rfl)
    ·exact h1
    ·omega
   ·rintro w rfl
    exact h2
 obtain ⟨K, hK⟩ := can_ev ho (by simp)
 refine ⟨K, fun k hk => ?_⟩
 have e := hK k hk
 dsimp only at e ⊢
 unfold arm_forbids.f
 rw [if_pos (by omega), if_pos (by omega), if_pos (by omega), if_pos (by omega), if_pos (by omega), if_pos (by omega)]
 show (arm_can.f k [rd_T73 l (a : Int), rd_T73 l (b : Int), rd_T73 l (c : Int)]).bind _ = _
 rw [e]
 simp only [Option.bind_some]
 congr 1
 have hf := forb_iff hx hy hz h1 h2
 by_cases c : Feas [rd_T73 l (a : Int), rd_T73 l (b : Int), rd_T73 l (c : Int)]
 ·rw [decide_eq_true c, decide_eq_false (fun z => hf.1 z c)]; rfl
 ·rw [decide_eq_false c, decide_eq_true (hf.2 c)]; rfl
/-- Do the windows with these indexes forbid? -/
def P3 (l : List S73) (a b c : Nat) : Prop := forb (rd_T73 l (a : Int)) (rd_T73 l (b : Int)) (rd_T73 l (c : Int))
instance (l : List S73) (a b c : Nat) : Decidable (P3 l a b c) := by unfold P3; infer_instance
/-- What a search for three windows has found. -/
def Found (l : List S73) (r : Int × Int × Int × Int) : Prop :=
 (∃ a b c : Nat, a < b ∧ b < c ∧ c < l.length ∧ P3 l a b c ∧ r = ((a : Int), (b : Int), (c : Int), 0)) ∨ (r = (0, 0, 0, 5) ∧ ∀ a b c : Nat, a < b → b < c → c < l.length → ¬ P3 l a b c)
theorem wn {i : Nat} (h : i ≤ 4611686018427387904) : wrap64 ((i : Int) + 1) = ((i + 1 : Nat) : Int) := by rw [w64 (by omega) (by omega)]; rfl
theorem search2 {l : List S73} (h : Okl l) (hl : l.length ≤ 4611686018427387904) {a b : Nat} (hab : a < b) (hb : b < l.length) : ∀ (d c : Nat), l.length - c = d → c ≤ l.length → b < c → (∀ c', b < c' → c' < c → ¬ P3 l a b c') →
  ((∀ c', b < c' → c' < l.length → ¬ P3 l a b c') → ∃ r, Ev (fun k => arm_Forbid.l1 k l a ((b + 1 : Nat) : Int) l.length a) r ∧ Ev (fun k => dropperref03_Forbid.l1 k l a ((b + 1 : Nat) : Int)) r ∧ Found l r) →
  ∃ r, Ev (fun k => arm_Forbid.l2 k l a b c l.length a) r ∧ Ev (fun k => dropperref03_Forbid.l2 k l a b c) r ∧ Found l r := by
 intro d
 induction d with
 | zero =>
  intro c hd hc hbc hn hk
  obtain ⟨r, h1, h2, h3⟩ := hk (fun c' h1 h2 => hn c' h1 (by omega))
  refine ⟨r, Ev.step (fun k => ?_) h1, Ev.step (fun k => ?_) h2, h3⟩
  ·rw [arm_Forbid.l2, if_neg (by omega), wn (by omega)]
  ·rw [dropperref03_Forbid.l2, if_neg (by omega), wn (by omega)]
 | succ d ih =>
  intro c hd hc hbc hn hk
  have hlt : c < l.length := by omega
  have e1 := arm_forbids_ev h hab hbc hlt
  have e2 := ref_forbids_ev h hab hbc hlt
  by_cases p : P3 l a b c
  ·refine ⟨((a : Int), (b : Int), (c : Int), 0), ?_, ?_, .inl ⟨a, b, c, hab, hbc, hlt, p, rfl⟩⟩
   ·have p' : decide (forb (rd_T73 l (a : Int)) (rd_T73 l (b : Int)) (rd_T73 l (c : Int))) = true := decide_eq_true p
    rw [p'] at e1
    refine Ev.step (fun k => ?_) (Ev.bind (f := fun k t => if t = true then some ((a : Int), (b : Int), (c : Int), (0 : Int)) else arm_Forbid.l2 k l a b (wrap64 ((c : Int) + 1)) l.length a) e1 (Ev.now _))
    rw [arm_Forbid.l2, if_pos (by omega)]
   ·refine ev_some _ fun k => ?_
    rw [dropperref03_Forbid.l2, if_pos (by omega), e2, decide_eq_true (show forb _ _ _ from p)]
    rfl
  ·obtain ⟨r, h1, h2, h3⟩ := ih (c + 1) (by omega) (by omega) (by omega) (fun c' q1 q2 => by
    by_cases e : c' = c
    ·subst e; exact p
    ·exact hn c' q1 (by omega)) hk
   refine ⟨r, ?_, ?_, h3⟩
   ·have p' : decide (forb (rd_T73 l (a : Int)) (rd_T73 l (b : Int)) (rd_T73 l (c : Int))) = false := decide_eq_false p
    rw [p'] at e1
    refine Ev.step (fun k => ?_) (Ev.bind (f := fun k t => if t = true then some ((a : Int), (b : Int), (c : Int), (0 : Int)) else arm_Forbid.l2 k l a b (wrap64 ((c : Int) + 1)) l.length a) e1 (by
     simpa [wn (show c ≤ 4611686018427387904 by omega)] using h1))
    rw [arm_Forbid.l2, if_pos (by omega)]
   ·refine Ev.step (fun k => ?_) h2
    rw [dropperref03_Forbid.l2, if_pos (by omega), e2, decide_eq_false (show ¬ forb _ _ _ from p), wn (by omega)]
    rfl
theorem search1 {l : List S73} (h : Okl l) (hl : l.length ≤ 4611686018427387904) {a : Nat} (ha : a < l.length) : ∀ (d b : Nat), l.length - b = d → b ≤ l.length → a < b → (∀ b' c', a < b' → b' < b → b' < c' → c' < l.length → ¬ P3 l a b' c') →
  ((∀ b' c', a < b' → b' < c' → c' < l.length → ¬ P3 l a b' c') → ∃ r, Ev (fun k => arm_Forbid.l0 k l l.length ((a + 1 : Nat) : Int)) r ∧ Ev (fun k => dropperref03_Forbid.l0 k l ((a + 1 : Nat) : Int)) r ∧ Found l r) →
  ∃ r, Ev (fun k => arm_Forbid.l1 k l a b l.length a) r ∧ Ev (fun k => dropperref03_Forbid.l1 k l a b) r ∧ Found l r := by
 intro d
 induction d with
 | zero =>
  intro b hd hb hab hn hk
  obtain ⟨r, h1, h2, h3⟩ := hk (fun b' c' h1 h2 h3 => hn b' c' h1 (by omega) h2 h3)
  refine ⟨r, Ev.step (fun k => ?_) h1, Ev.step (fun k => ?_) h2, h3⟩
  ·rw [arm_Forbid.l1, if_neg (by omega), wn (by omega)]
  ·rw [dropperref03_Forbid.l1, if_neg (by omega), wn (by omega)]
 | succ d ih =>
  intro b hd hb hab hn hk
  have hlt : b < l.length := by omega
  obtain ⟨r, h1, h2, h3⟩ := search2 h hl hab hlt (l.length - (b + 1)) (b + 1) rfl (by omega) (by omega) (fun c' q1 q2 => by omega) (fun hno => ih (b + 1) (by omega) (by omega) (by omega) (fun b' c' q1 q2 q3 q4 => by
   by_cases e : b' = b
   ·subst e; exact hno c' q3 q4
   ·exact hn b' c' q1 (by omega) q3 q4) hk)
  refine ⟨r, Ev.step (fun k => ?_) h1, Ev.step (fun k => ?_) h2, h3⟩
  ·rw [arm_Forbid.l1, if_pos (by omega), wn (by omega)]
  ·rw [dropperref03_Forbid.l1, if_pos (by omega), wn (by omega)]
theorem search0 {l : List S73} (h : Okl l) (hl : l.length ≤ 4611686018427387904) : ∀ (d a : Nat), l.length - a = d → a ≤ l.length → (∀ a' b' c', a' < a → a' < b' → b' < c' → c' < l.length → ¬ P3 l a' b' c') →
  ∃ r, Ev (fun k => arm_Forbid.l0 k l l.length a) r ∧ Ev (fun k => dropperref03_Forbid.l0 k l a) r ∧ Found l r := by
 intro d
 induction d with
 | zero =>
  intro a hd ha hn
  refine ⟨(0, 0, 0, 5), ev_some _ fun k => ?_, ev_some _ fun k => ?_, .inr ⟨rfl, fun a' b' c' q1 q2 q3 => hn a' b' c' (by omega) q1 q2 q3⟩⟩
  ·rw [arm_Forbid.l0, if_neg (by omega)]
  ·rw [dropperref03_Forbid.l0, if_neg (by omega)]
 | succ d ih =>
  intro a hd ha hn
  have hlt : a < l.length := by omega
  obtain ⟨r, h1, h2, h3⟩ := search1 h hl hlt (l.length - (a + 1)) (a + 1) rfl (by omega) (by omega) (fun b' c' q1 q2 => by omega) (fun hno => ih (a + 1) (by omega) (by omega) (fun a' b' c' q1 q2 q3 q4 => by
   by_cases e : a' = a
   ·subst e; exact hno b' c' q2 q3 q4
   ·exact hn a' b' c' (by omega) q2 q3 q4))
  refine ⟨r, Ev.step (fun k => ?_) h1, Ev.step (fun k => ?_) h2, h3⟩
  ·rw [arm_Forbid.l0, if_pos (by omega), wn (by omega)]
  ·rw [dropperref03_Forbid.l0, if_pos (by omega), wn (by omega)]
/-- Both programs' Forbid tell the same; of valid windows they have found what there is. -/
theorem forbid_ev (l : List S73) (hl : l.length ≤ 4611686018427387904) : ∃ r, Ev (fun k => arm_Forbid.f k l) r ∧ Ev (fun k => dropperref03_Forbid.f k l) r ∧ (okV l = true → Found l r) ∧ (okV l = false → r = (0, 0, 0, 20)) := by
 have v1 := arm_valid_ev l hl
 have v2 := ref_valid_ev l hl
 cases hv : okV l with
 | false =>
  rw [hv] at v1 v2
  exact ⟨(0, 0, 0, 20), Ev.bind v1 (Ev.now _), Ev.bind v2 (Ev.now _), by simp, fun _ => rfl⟩
 | true =>
  rw [hv] at v1 v2
  obtain ⟨r, h1, h2, h3⟩ := search0 (okV_okl hv).1 hl l.length 0 (by omega) (by omega) (fun a' b' c' q1 => by omega)
  exact ⟨r, Ev.bind v1 h1, Ev.bind v2 h2, fun _ => h3, by simp⟩
def encT : St → Int × Int × Int × Int × Int
 | none => (0, 0, 0, 0, 5)
 | some (p, q) => (p.num, p.den, q.num, q.den, 0)
theorem arm_Slopes_ev (l : List S73) (hl : l.length ≤ 4611686018427387904) : Ev (fun k => arm_Slopes.f k l) (if okV l = true then encT (finS l) else (0, 0, 0, 0, 20)) := by
 have v1 := arm_valid_ev l hl
 cases hv : okV l with
 | false => rw [hv] at v1; exact Ev.bind v1 (Ev.now _)
 | true =>
  rw [hv] at v1
  have h := (okV_okl hv).1
  refine Ev.bind v1 ?_
  have hs := allS_ok h l.length (Nat.le_refl _)
  have e := slopes_ev h hl
  simp only [if_true]
  unfold finS
  generalize allS l l.length = s at *
  refine Ev.bind e (Ev.congr (fun k => ?_) (Ev.now _))
  cases s with
  | none => simp only [encS, encT, Bool.false_eq_true, if_false]
  | some z =>
   obtain ⟨p, q⟩ := z
   simp only [encS, if_true]
   rw [small_less hs.2 hs.1]
   simp only [Option.bind_some]
   by_cases c : q < p
   ·simp only [c, decide_true, if_true]; rfl
   ·simp only [c, decide_false, if_false, Bool.false_eq_true]; rfl
/-- The line A x + B over D is within a window. -/
def onL (A B D : Int) (w : S73) : Prop := w.f1 * D ≤ A * w.f0 + B ∧ A * w.f0 + B ≤ w.f2 * D
/-- The loop of Line: the highest of what the windows' lows ask. -/
theorem line_loop {l : List S73} (h : Okl l) (hl : l.length ≤ 4611686018427387904) {N D : Int} (hN : N.natAbs ≤ 100000) (hD : 1 ≤ D) (hD2 : D ≤ 100000) : ∀ (d i : Nat) (B : Int), l.length - i = d → i ≤ l.length → -1000000000000 ≤ B → B ≤ 100000000000 →
  ∃ B', Ev (fun k => arm_Line.l0 k l l.length i N D N B D) (N, B', D, 0) ∧ B ≤ B' ∧ B' ≤ 100000000000 ∧ (∀ w ∈ l.drop i, w.f1 * D - N * w.f0 ≤ B') ∧ (B' = B ∨ ∃ w ∈ l.drop i, B' = w.f1 * D - N * w.f0) := by
 intro d
 induction d with
 | zero =>
  intro i B hd hi hB hB2
  obtain rfl : i = l.length := by omega
  refine ⟨B, ev_some _ fun k => ?_, by omega, hB2, by simp, .inl rfl⟩
  rw [arm_Line.l0, if_neg (by omega)]
 | succ d ih =>
  intro i B hd hi hB hB2
  have hlt : i < l.length := by omega
  have hb := h.bnd _ (rd_mem hlt)
  rw [drop_rd l i hlt]
  have p0 : (i : Int) < l.length := by omega
  have p1 : 0 ≤ (i : Int) := by omega
  have hw1 := w64 (n := (i : Int) + 1) (by omega) (by omega)
  have r1 : l.length - (i + 1) = d := by omega
  have r2 : i + 1 ≤ l.length := by omega
  generalize hw : rd_T73 l (i : Int) = w at *
  obtain ⟨b1, b2, b3, b4, b5⟩ := hb
  have m1 := mul_bd' (a := w.f1) (b := D) (A := 1000) (B := 100000) (by omega) (by omega)
  have m2 := mul_bd' (a := N) (b := w.f0) (A := 100000) (B := 100000) (by omega) (by omega)
  have hmx : mx B (w.f1 * D - N * w.f0) = B ∧ w.f1 * D - N * w.f0 ≤ B ∨ mx B (w.f1 * D - N * w.f0) = w.f1 * D - N * w.f0 ∧ B ≤ w.f1 * D - N * w.f0 := by unfold mx; omega
  obtain ⟨B', e, g1, g2, g3, g4⟩ := ih (i + 1) (mx B (w.f1 * D - N * w.f0)) r1 r2 (by omega) (by omega)
  refine ⟨B', Ev.step (fun k => ?_) e, by omega, g2, ?_, ?_⟩
  ·rewrite [arm_Line.l0, if_pos p0, if_pos p1, if_pos p0, hw, w64 (n := w.f1 * D) (by omega) (by omega), w64 (n := N * w.f0) (by omega) (by omega), w64 (n := w.f1 * D - N * w.f0) (by omega) (by omega), hw1]
   rfl
  ·intro v hv
   rcases List.mem_cons.1 hv with rfl | hv
   ·omega
   ·exact g3 v hv
  ·rcases g4 with g4 | ⟨v, hv, g4⟩
   ·rcases hmx with z | z
    ·exact .inl (by omega)
    ·exact .inr ⟨w, List.mem_cons_self, by omega⟩
   ·exact .inr ⟨v, List.mem_cons_of_mem _ hv, g4⟩
/-- Slopes that all pairs bear, as whole numbers: the line as low as it can be goes through. -/
theorem line_on {l : List S73} (h : Okl l) {m : Rat} (hm : ∀ a b, a ∈ l → b ∈ l → a.f0 < b.f0 → loS a b ≤ m ∧ m ≤ hiS a b) {u : S73} (hu : u ∈ l) {B : Int} (hB : B = u.f1 * (m.den : Int) - m.num * u.f0) (hmax : ∀ v ∈ l, v.f1 * (m.den : Int) - m.num * v.f0 ≤ B) :
  ∀ w ∈ l, onL m.num B m.den w := by
 have hd : (0 : Rat) < ((m.den : Int) : Rat) := by
  have : ((0 : Int) : Rat) < ((m.den : Int) : Rat) := Rat.intCast_lt_intCast.2 (by have := m.den_pos; omega)
  simpa using this
 have hmd : m * ((m.den : Int) : Rat) = (m.num : Rat) := by
  have e : m = divInt m.num m.den := (Rat.num_divInt_den m).symm
  have e2 : divInt m.num m.den * ((m.den : Int) : Rat) = (m.num : Rat) := by
   rw [Rat.divInt_eq_div]; exact Rat.div_mul_cancel (by grind)
  rw [← e] at e2
  exact e2
 have hx : ∀ v ∈ l, (v.f1 : Rat) - m * v.f0 ≤ (u.f1 : Rat) - m * u.f0 := by
  intro v hv
  have h1 := hmax v hv
  rw [hB] at h1
  have h2 : ((v.f1 * (m.den : Int) - m.num * v.f0 : Int) : Rat) ≤ ((u.f1 * (m.den : Int) - m.num * u.f0 : Int) : Rat) := Rat.intCast_le_intCast.2 h1
  simp only [Rat.intCast_sub, Rat.intCast_mul] at h2
  rw [← hmd] at h2
  refine Rat.le_of_mul_le_mul_right ?_ hd
  grind
 have hl := line_at h hm hu hx
 intro w hw
 obtain ⟨t1, t2⟩ := hl w hw
 have s1 := Rat.mul_le_mul_of_nonneg_right t1 (show (0 : Rat) ≤ ((m.den : Int) : Rat) by grind)
 have s2 := Rat.mul_le_mul_of_nonneg_right t2 (show (0 : Rat) ≤ ((m.den : Int) : Rat) by grind)
 have e : (m * w.f0 + ((u.f1 : Rat) - m * u.f0)) * ((m.den : Int) : Rat) = ((m.num * w.f0 + B : Int) : Rat) := by
  rw [hB]
  simp only [Rat.intCast_sub, Rat.intCast_mul, Rat.intCast_add]
  rw [← hmd]
  grind
 rw [e] at s1 s2
 constructor
 ·rw [← Rat.intCast_le_intCast, Rat.intCast_mul]; exact s1
 ·rw [← Rat.intCast_le_intCast, Rat.intCast_mul]; exact s2
/-- What a line that Line tells is good for. -/
structure GoodLine (l : List S73) (A B D : Int) : Prop where
 a : A.natAbs ≤ 100000
 b : -1000000000000 ≤ B ∧ B ≤ 100000000000
 d : 1 ≤ D ∧ D ≤ 100000
 on : ∀ w ∈ l, onL A B D w
theorem line_core {l : List S73} (h : Okl l) (hne : l ≠ []) (hl : l.length ≤ 4611686018427387904) {m : Rat} (hs : small m) (hm : ∀ a b, a ∈ l → b ∈ l → a.f0 < b.f0 → loS a b ≤ m ∧ m ≤ hiS a b) :
  ∃ B, Ev (fun k => arm_Line.j0 k l m.num m.den) (m.num, B, (m.den : Int), 0) ∧ GoodLine l m.num B m.den := by
 have hd := m.den_pos
 have hs2 := hs.2
 obtain ⟨B', e, g1, g2, g3, g4⟩ := line_loop h hl (N := m.num) (D := m.den) hs.1 (by omega) (by omega) l.length 0 (-1000000000000) (by omega) (by omega) (by omega) (by omega)
 rw [List.drop_zero] at g3 g4
 refine ⟨B', Ev.step (fun k => ?_) e, ⟨hs.1, ⟨g1, g2⟩, ⟨by omega, by omega⟩, ?_⟩⟩
 ·rw [arm_Line.j0]; rfl
 ·rcases g4 with g4 | ⟨u, hu, g4⟩
  ·obtain ⟨u, hu⟩ := List.exists_mem_of_ne_nil l hne
   have := g3 u hu
   obtain ⟨b1, b2, b3, b4, b5⟩ := h.bnd u hu
   have hs1 := hs.1
   have m1 := mul_bd' (a := u.f1) (b := (m.den : Int)) (A := 1000) (B := 100000) (by omega) (by omega)
   have m2 := mul_bd' (a := m.num) (b := u.f0) (A := 100000) (B := 100000) (by omega) (by omega)
   omega
  ·exact line_on h hm hu g4 g3
open Classical in
theorem arm_Line_ev (l : List S73) (hl : l.length ≤ 4611686018427387904) :
  ∃ A B D e, Ev (fun k => arm_Line.f k l) (A, B, D, e) ∧ (okV l = false → (A, B, D, e) = (0, 0, 0, 20)) ∧
   (okV l = true → (¬ Feas l ∧ (A, B, D, e) = (0, 0, 0, 5)) ∨ (Feas l ∧ e = 0 ∧ GoodLine l A B D)) := by
 have v1 := arm_valid_ev l hl
 cases hv : okV l with
 | false =>
  rw [hv] at v1
  exact ⟨0, 0, 0, 20, Ev.bind v1 (Ev.now _), fun _ => rfl, by simp⟩
 | true =>
  rw [hv] at v1
  obtain ⟨h, h1, h30⟩ := okV_okl hv
  have hne : l ≠ [] := by rintro rfl; simp at h1
  have c1 := can_ev h hl
  have s1 := slopes_ev h hl
  have hF := feas_iff h
  have hE := all_ext h
  have hS := allS_ok h l.length (Nat.le_refl _)
  by_cases hf : Feas l
  ·rw [decide_eq_true hf] at c1
   have key : ∃ B m, Ev (fun k => if (encS (allS l l.length)).2.2.2.2 = true then arm_Line.j0 k l (encS (allS l l.length)).1 (encS (allS l l.length)).2.1 else arm_Line.j0 k l 0 1) (Rat.num m, B, (Rat.den m : Int), 0) ∧ GoodLine l m.num B m.den := by
    have hF' := hF.1 hf
    generalize allS l l.length = s at *
    cases s with
    | none =>
     obtain ⟨B, e, g⟩ := line_core h hne hl (m := 0) ⟨by decide, by decide⟩ (fun a b ha hb hab => absurd ⟨ha, hb, hab⟩ (hE a b))
     exact ⟨B, 0, by simpa [encS] using e, g⟩
    | some z =>
     obtain ⟨p, q⟩ := z
     obtain ⟨E1, _, _⟩ := hE
     obtain ⟨B, e, g⟩ := line_core h hne hl (m := p) hS.1 (fun a b ha hb hab => by
      have := E1 a b ⟨ha, hb, hab⟩
      dsimp only at hF'
      exact ⟨this.1, by grind⟩)
     exact ⟨B, p, by simpa [encS] using e, g⟩
   obtain ⟨B, m, e, g⟩ := key
   refine ⟨m.num, B, m.den, 0, Ev.bind v1 ?_, by simp, fun _ => .inr ⟨hf, rfl, g⟩⟩
   simp only [if_true]
   exact Ev.bind c1 (by simp only [if_true]; exact Ev.bind s1 e)
  ·rw [decide_eq_false hf] at c1
   refine ⟨0, 0, 0, 5, Ev.bind v1 ?_, by simp, fun _ => .inl ⟨hf, rfl⟩⟩
   simp only [if_true]
   exact Ev.bind c1 (Ev.now _)
/-- A line within bounds. -/
def isL (A B D : Int) : Prop := -1000000 ≤ A ∧ A ≤ 1000000 ∧ -1000000000000 ≤ B ∧ B ≤ 1000000000000 ∧ 1 ≤ D ∧ D ≤ 1000000
instance (A B D : Int) : Decidable (isL A B D) := by unfold isL; infer_instance
theorem arm_isl (A B D : Int) : arm_isLine.f A B D = some (decide (isL A B D)) := by
 unfold arm_isLine.f
 simp only [within_some]
 by_cases c1 : -1000000 ≤ A ∧ A ≤ 1000000
 ·rw [decide_eq_true c1]
  simp only [Option.bind_some, if_true]
  by_cases c2 : -1000000000000 ≤ B ∧ B ≤ 1000000000000
  ·rw [decide_eq_true c2]
   simp only [if_true]
   exact congrArg some (decide_eq_decide.2 ⟨fun z => ⟨c1.1, c1.2, c2.1, c2.2, z.1, z.2⟩, fun z => ⟨z.2.2.2.2.1, z.2.2.2.2.2⟩⟩)
  ·rw [decide_eq_false c2]
   simp only [Bool.false_eq_true, if_false]
   rw [decide_eq_false (fun z => c2 ⟨z.2.2.1, z.2.2.2.1⟩)]
 ·rw [decide_eq_false c1]
  simp only [Option.bind_some, Bool.false_eq_true, if_false]
  rw [decide_eq_false (fun z => c1 ⟨z.1, z.2.1⟩)]
theorem ref_isl (A B D : Int) : dropperref03_IsLine.f A B D = some (decide (isL A B D)) := by
 unfold dropperref03_IsLine.f
 by_cases c1 : A ≥ -1000000
 ·rw [if_pos c1]
  by_cases c2 : A ≤ 1000000
  ·rw [if_pos c2]
   by_cases c3 : B ≥ -1000000000000
   ·rw [if_pos c3]
    by_cases c4 : B ≤ 1000000000000
    ·rw [if_pos c4]
     by_cases c5 : D ≥ 1
     ·rw [if_pos c5]
      exact congrArg some (decide_eq_decide.2 ⟨fun z => ⟨c1, c2, c3, c4, c5, z⟩, fun z => z.2.2.2.2.2⟩)
     ·rw [if_neg c5, decide_eq_false (fun z => c5 z.2.2.2.2.1)]
    ·rw [if_neg c4, decide_eq_false (fun z => c4 z.2.2.2.1)]
   ·rw [if_neg c3, decide_eq_false (fun z => c3 z.2.2.1)]
  ·rw [if_neg c2, decide_eq_false (fun z => c2 z.2.1)]
 ·rw [if_neg c1, decide_eq_false (fun z => c1 z.1)]
/-- A window that a line misses. -/
def arm_Through.miss (A B D : Int) (x : S73) : Bool := !(decide (wrap64 (x.f1 * D) ≤ wrap64 (wrap64 (A * x.f0) + B) ∧ wrap64 (wrap64 (A * x.f0) + B) ≤ wrap64 (x.f2 * D)))
theorem through1 (A B D : Int) (x : S73) : arm_Through_1.f x.f0 x.f1 x.f2 A B D = some (arm_Through.miss A B D x) := by
 unfold arm_Through_1.f arm_Through.miss
 rw [within_some]
 rfl
theorem idx_ev (l : List S73) (hl : l.length ≤ 4611686018427387904) (p : S73 → Bool) (fn : Int → Int → Int → Option Bool) (hfn : ∀ x : S73, fn x.f0 x.f1 x.f2 = some (p x)) : ∀ (d i : Nat), l.length - i = d → i ≤ l.length →
  ∃ r, Ev (fun k => api_Window_76.l0 k l fn (l.length : Int) i) r ∧ decide (r ≥ 0) = (l.drop i).any p := by
 intro d
 induction d with
 | zero =>
  intro i hd hi
  obtain rfl : i = l.length := by omega
  exact ⟨-1, ev_some _ fun k => by rw [api_Window_76.l0, if_neg (by omega)], by rw [List.drop_length]; rfl⟩
 | succ d ih =>
  intro i hd hi
  have hlt : i < l.length := by omega
  have hw : wrap64 ((i : Int) + 1) = ((i + 1 : Nat) : Int) := by rw [w64 (by omega) (by omega)]; rfl
  have q1 : (i : Int) < (l.length : Int) := by omega
  have q2 : (0 : Int) ≤ (i : Int) := by omega
  rw [drop_rd l i hlt, List.any_cons]
  generalize hx : rd_T73 l (i : Int) = x
  cases hp : p x with
  | true =>
   refine ⟨(i : Int), ev_some _ fun k => ?_, by simp⟩
   rw [api_Window_76.l0, if_pos q1, if_pos q2, if_pos q1, hx, hfn, hp]
   rfl
  | false =>
   obtain ⟨r, e, hr⟩ := ih (i + 1) (by omega) (by omega)
   refine ⟨r, Ev.step (fun k => ?_) e, by rw [hr, Bool.false_or]⟩
   rw [api_Window_76.l0, if_pos q1, if_pos q2, if_pos q1, hx, hfn, hp, hw]
   rfl
theorem any_ev (l : List S73) (hl : l.length ≤ 4611686018427387904) (p : S73 → Bool) (fn : Int → Int → Int → Option Bool) (hfn : ∀ x : S73, fn x.f0 x.f1 x.f2 = some (p x)) : Ev (fun k => api_Window_62.f k l fn) (l.any p) := by
 obtain ⟨r, e, hr⟩ := idx_ev l hl p fn hfn l.length 0 (by omega) (by omega)
 rw [List.drop_zero] at hr
 rw [← hr]
 exact Ev.bind (f := fun _ t => some (decide (t ≥ 0))) e (Ev.now _)
theorem ref_thr_loop (l : List S73) (hl : l.length ≤ 4611686018427387904) (A B D : Int) : ∀ (d i : Nat), l.length - i = d → i ≤ l.length →
  Ev (fun k => dropperref03_Through.l0 k l i A B D) (!((l.drop i).any (arm_Through.miss A B D)), 0) := by
 intro d
 induction d with
 | zero =>
  intro i hd hi
  obtain rfl : i = l.length := by omega
  refine ev_some _ fun k => ?_
  rw [dropperref03_Through.l0, if_neg (by omega), List.drop_length]
  rfl
 | succ d ih =>
  intro i hd hi
  have hlt : i < l.length := by omega
  have hw : wrap64 ((i : Int) + 1) = ((i + 1 : Nat) : Int) := by rw [w64 (by omega) (by omega)]; rfl
  have q1 : (i : Int) < (l.length : Int) := by omega
  have q2 : (0 : Int) ≤ (i : Int) := by omega
  have e := ih (i + 1) (by omega) (by omega)
  rw [drop_rd l i hlt, List.any_cons]
  generalize hx : rd_T73 l (i : Int) = x
  have red : ∀ k, dropperref03_Through.l0 (k + 1) l i A B D = if wrap64 (wrap64 (A * x.f0) + B) < wrap64 (x.f1 * D) then some (false, 0) else if wrap64 (wrap64 (A * x.f0) + B) > wrap64 (x.f2 * D) then some (false, 0) else dropperref03_Through.l0 k l ((i + 1 : Nat) : Int) A B D := by
   intro k
   rewrite [dropperref03_Through.l0, if_pos q1, if_pos q2, hx, hw]
   rfl
  unfold arm_Through.miss at e ⊢
  generalize wrap64 (wrap64 (A * x.f0) + B) = v at *
  generalize wrap64 (x.f1 * D) = lo at *
  generalize wrap64 (x.f2 * D) = hi at *
  by_cases c1 : v < lo
  ·refine ev_some _ fun k => ?_
   rw [red, if_pos c1, decide_eq_false (by omega)]
   simp
  by_cases c2 : v > hi
  ·refine ev_some _ fun k => ?_
   rw [red, if_neg c1, if_pos c2, decide_eq_false (by omega)]
   simp
  ·rw [decide_eq_true (by omega)]
   simp only [Bool.not_true, Bool.false_or]
   exact Ev.step (fun k => by rw [red, if_neg c1, if_neg c2]) e
def thrR (l : List S73) (A B D : Int) : Bool × Int := if okV l = true then (if isL A B D then (!(l.any (arm_Through.miss A B D)), 0) else (false, 2)) else (false, 20)
theorem arm_Through_ev (l : List S73) (hl : l.length ≤ 4611686018427387904) (A B D : Int) : Ev (fun k => arm_Through.f k l A B D) (thrR l A B D) := by
 have v1 := arm_valid_ev l hl
 unfold thrR
 cases hv : okV l with
 | false => rw [hv] at v1; exact Ev.bind v1 (Ev.now _)
 | true =>
  rw [hv] at v1
  refine Ev.bind v1 ?_
  simp only [if_true]
  rw [arm_isl]
  by_cases c : isL A B D
  ·simp only [c, decide_true, Option.bind_some, if_true]
   exact Ev.bind (f := fun _ t => some (!t, (0 : Int))) (any_ev l hl _ _ (through1 A B D)) (Ev.now _)
  ·simp only [c, decide_false, Option.bind_some, if_false, Bool.false_eq_true]; exact Ev.now _
theorem ref_Through_ev (l : List S73) (hl : l.length ≤ 4611686018427387904) (A B D : Int) : Ev (fun k => dropperref03_Through.f k l A B D) (thrR l A B D) := by
 have v1 := ref_valid_ev l hl
 unfold thrR
 cases hv : okV l with
 | false => rw [hv] at v1; exact Ev.bind v1 (Ev.now _)
 | true =>
  rw [hv] at v1
  refine Ev.bind v1 ?_
  simp only [if_true]
  rw [ref_isl]
  by_cases c : isL A B D
  ·simp only [c, decide_true, Option.bind_some, if_true]
   exact ref_thr_loop l hl A B D l.length 0 (by omega) (by omega)
  ·simp only [c, decide_false, Option.bind_some, if_false, Bool.false_eq_true]; exact Ev.now _
theorem at_bound {A B D t : Int} (h : isL A B D) (h0 : 0 ≤ t) (h1 : t ≤ 100000) : wrap64 (wrap64 (A * t) + B) = A * t + B ∧ -4611686018427387904 ≤ A * t + B ∧ A * t + B ≤ 4611686018427387904 := by
 obtain ⟨a1, a2, a3, a4, _⟩ := h
 have m := mul_bd' (a := A) (b := t) (A := 1000000) (B := 100000) (by omega) (by omega)
 rw [w64 (n := A * t) (by omega) (by omega), w64 (by omega) (by omega)]
 omega
theorem pos_iff {a b : S73} (h : a.f0 < b.f0) (m : Rat) : m < loS a b ↔ (a.f2 : Rat) - m * a.f0 < (b.f1 : Rat) - m * b.f0 := by
 have := lo_le h m
 rw [← Rat.not_le, this, Rat.not_le]
 constructor <;> intro z <;> grind
theorem neg_iff {c d : S73} (h : c.f0 < d.f0) (m : Rat) : hiS c d < m ↔ (d.f2 : Rat) - m * d.f0 < (c.f1 : Rat) - m * c.f0 := by
 have := le_hi h m
 rw [← Rat.not_le, this, Rat.not_le]
 constructor <;> intro z <;> grind
theorem no_pair {L : List S73} (hf : Feas L) (p q p' q' : S73) (hp : p ∈ L) (hq : q ∈ L) (hp' : p' ∈ L) (hq' : q' ∈ L) (h : p.f0 < q.f0) (h' : p'.f0 < q'.f0) {m : Rat} (h1 : m < loS p q) (h2 : hiS p' q' < m) : False := by
 obtain ⟨m', c, hm⟩ := hf
 have z1 := (feas_pairs hm hp hq h).1
 have z2 := (feas_pairs hm hp' hq' h').2
 grind
/-- Where some line goes through each three windows, some line goes through all. -/
theorem helly {l : List S73} (h : Okl l) (h3 : ∀ x y z, x ∈ l → y ∈ l → z ∈ l → x.f0 < y.f0 → y.f0 < z.f0 → Feas [x, y, z]) : Feas l := by
 have key : ∀ (m : Rat) (a b c d : S73), a ∈ l → b ∈ l → c ∈ l → d ∈ l → a.f0 < b.f0 → c.f0 < d.f0 → m < loS a b → hiS c d < m → False := by
  intro m a b c d ha hb hc hd hab hcd h1 h2
  have i1 := (pos_iff hab m).1 h1
  have i2 := (neg_iff hcd m).1 h2
  have bd : ∀ w ∈ l, (w.f1 : Rat) ≤ w.f2 := fun w hw => Rat.intCast_le_intCast.2 (h.bnd w hw).2.2.2.1
  by_cases k : (a.f2 : Rat) - m * a.f0 < (c.f1 : Rat) - m * c.f0
  ·rcases Int.lt_trichotomy a.f0 c.f0 with e | e | e
   ·exact no_pair (h3 a c d ha hc hd e hcd) a c c d (by simp) (by simp) (by simp) (by simp) e hcd ((pos_iff e m).2 k) h2
   ·have e' := same_at h ha hc e
    rw [e'] at k
    have := bd c hc
    grind
   ·exact no_pair (h3 c a b hc ha hb e hab) a b c a (by simp) (by simp) (by simp) (by simp) hab e h1 ((neg_iff e m).2 k)
  ·have k2 : (d.f2 : Rat) - m * d.f0 < (b.f1 : Rat) - m * b.f0 := by grind
   rcases Int.lt_trichotomy d.f0 b.f0 with e | e | e
   ·exact no_pair (h3 c d b hc hd hb hcd e) d b c d (by simp) (by simp) (by simp) (by simp) e hcd ((pos_iff e m).2 k2) h2
   ·have e' := same_at h hd hb e
    rw [e'] at k2
    have := bd b hb
    grind
   ·exact no_pair (h3 a b d ha hb hd hab e) a b b d (by simp) (by simp) (by simp) (by simp) hab e h1 ((neg_iff e m).2 k2)
 have hE := all_ext h
 rw [feas_iff h]
 generalize allS l l.length = s at hE
 cases s with
 | none => trivial
 | some z =>
  obtain ⟨p, q⟩ := z
  obtain ⟨_, ⟨a1, b1, ⟨qa, qb, qab⟩, e1⟩, ⟨a2, b2, ⟨ra, rb, rab⟩, e2⟩⟩ := hE
  dsimp only
  intro hqp
  exact key ((p + q) / 2) a1 b1 a2 b2 qa qb ra rb qab rab (by rw [e1]; grind) (by rw [e2]; grind)
/-- What Forbid has found, and whether some line goes through. -/
theorem found_iff {l : List S73} (h : Okl l) {r : Int × Int × Int × Int} (f : Found l r) : (Feas l ∧ r = (0, 0, 0, 5)) ∨ (¬ Feas l ∧ ∃ a b c : Nat, a < b ∧ b < c ∧ c < l.length ∧ P3 l a b c ∧ r = ((a : Int), (b : Int), (c : Int), 0)) := by
 rcases f with ⟨a, b, c, h1, h2, h3, h4, rfl⟩ | ⟨rfl, hn⟩
 ·refine .inr ⟨fun hf => ?_, a, b, c, h1, h2, h3, h4, rfl⟩
  have ma : rd_T73 l (a : Int) ∈ l := rd_mem (by omega)
  have mb : rd_T73 l (b : Int) ∈ l := rd_mem (by omega)
  have mc : rd_T73 l (c : Int) ∈ l := rd_mem (by omega)
  refine (forb_iff (h.bnd _ ma) (h.bnd _ mb) (h.bnd _ mc) (h.lt h1 (by omega)) (h.lt h2 h3)).1 h4 (hf.mono fun w hw => ?_)
  simp only [List.mem_cons, List.not_mem_nil, or_false] at hw
  rcases hw with rfl | rfl | rfl
  ·exact ma
  ·exact mb
  ·exact mc
 ·refine .inl ⟨helly h fun x y z hx hy hz e1 e2 => ?_, rfl⟩
  have bx := h.bnd x hx
  have by' := h.bnd y hy
  have bz := h.bnd z hz
  have ord : ∀ (i j : Nat) (hi : i < l.length) (hj : j < l.length), l[i].f0 < l[j].f0 → i < j := by
   intro i j hi hj e
   rcases Nat.lt_trichotomy i j with c | c | c
   ·exact c
   ·subst c; omega
   ·have := List.pairwise_iff_getElem.1 h.asc j i hj hi c; omega
  obtain ⟨i, hi, rfl⟩ := List.getElem_of_mem hx
  obtain ⟨j, hj, rfl⟩ := List.getElem_of_mem hy
  obtain ⟨k, hk, rfl⟩ := List.getElem_of_mem hz
  have n := hn i j k (ord i j hi hj e1) (ord j k hj hk e2) hk
  unfold P3 at n
  rw [rd_nat l i hi, rd_nat l j hj, rd_nat l k hk] at n
  exact Classical.byContradiction fun z => n ((forb_iff bx by' bz e1 e2).2 z)
theorem forbids_true {l : List S73} (hv : okV l = true) (hl : l.length ≤ 4611686018427387904) {a b c : Nat} (h1 : a < b) (h2 : b < c) (h3 : c < l.length) (h4 : P3 l a b c) : Ev (fun k => arm_Forbids.f k l a b c) (true, 0) := by
 have v1 := arm_valid_ev l hl
 rw [hv] at v1
 have e1 := arm_forbids_ev (okV_okl hv).1 (a := a) (b := b) (c := c) h1 h2 h3
 have d : decide (forb (rd_T73 l (a : Int)) (rd_T73 l (b : Int)) (rd_T73 l (c : Int))) = true := decide_eq_true h4
 rw [d] at e1
 refine Ev.bind v1 ?_
 refine Ev.congr (fun k => ?_) (Ev.bind (f := fun _ t => some (t, (0 : Int))) e1 (Ev.now _))
 rw [if_pos rfl, if_neg (by omega), if_neg (by omega), if_neg (by omega), if_neg (by omega)]
instance (A B D : Int) (w : S73) : Decidable (onL A B D w) := by unfold onL; infer_instance
theorem miss_eq {A B D : Int} (hL : isL A B D) {w : S73} (hw : inB w) : arm_Through.miss A B D w = !decide (onL A B D w) := by
 obtain ⟨w1, w2, w3, w4, w5⟩ := hw
 have b := (at_bound hL w1 w2).1
 obtain ⟨l1, l2, l3, l4, l5, l6⟩ := hL
 have m1 := mul_bd (a := w.f1) (b := D) (A := 1000) (B := 1000000) (by omega) (by omega)
 have m2 := mul_bd (a := w.f2) (b := D) (A := 1000) (B := 1000000) (by omega) (by omega)
 unfold arm_Through.miss onL
 rw [b, w64 (by omega) (by omega), w64 (by omega) (by omega)]
theorem thr_iff {l : List S73} (hv : okV l = true) (A B D : Int) : thrR l A B D = (true, 0) ↔ isL A B D ∧ ∀ w ∈ l, onL A B D w := by
 have h := (okV_okl hv).1
 unfold thrR
 rw [hv]
 simp only [if_true]
 by_cases c : isL A B D
 ·rw [if_pos c]
  simp only [Prod.mk.injEq, and_true, Bool.not_eq_true', c, true_and]
  rw [List.any_eq_false]
  constructor
  ·intro z w hw
   have := z w hw
   rw [miss_eq c (h.bnd w hw)] at this
   simpa using this
  ·intro z w hw
   rw [miss_eq c (h.bnd w hw)]
   simpa using z w hw
 ·rw [if_neg c]
  simp [c]
theorem den_mul (p : Rat) : p * ((p.den : Int) : Rat) = (p.num : Rat) := by
 have hd : (0 : Rat) < ((p.den : Int) : Rat) := by
  have : ((0 : Int) : Rat) < ((p.den : Int) : Rat) := Rat.intCast_lt_intCast.2 (by have := p.den_pos; omega)
  simpa using this
 have e : p = divInt p.num p.den := (Rat.num_divInt_den p).symm
 have e2 : divInt p.num p.den * ((p.den : Int) : Rat) = (p.num : Rat) := by
  rw [Rat.divInt_eq_div]; exact Rat.div_mul_cancel (by grind)
 rw [← e] at e2
 exact e2
theorem num_le {p m : Rat} {A D : Int} (hD : (0 : Rat) < (D : Rat)) (hm : m * (D : Rat) = (A : Rat)) (h : p ≤ m) : p.num * D ≤ A * (p.den : Int) := by
 have hd : (0 : Rat) ≤ ((p.den : Int) : Rat) := by
  have : ((0 : Int) : Rat) ≤ ((p.den : Int) : Rat) := Rat.intCast_le_intCast.2 (by omega)
  simpa using this
 have s := Rat.mul_le_mul_of_nonneg_right (Rat.mul_le_mul_of_nonneg_right h hd) (show (0 : Rat) ≤ (D : Rat) by grind)
 rw [den_mul] at s
 have : ((p.num * D : Int) : Rat) ≤ ((A * (p.den : Int) : Int) : Rat) := by
  simp only [Rat.intCast_mul]
  rw [← hm]
  grind
 exact Rat.intCast_le_intCast.1 this
theorem le_num {q m : Rat} {A D : Int} (hD : (0 : Rat) < (D : Rat)) (hm : m * (D : Rat) = (A : Rat)) (h : m ≤ q) : A * (q.den : Int) ≤ q.num * D := by
 have hd : (0 : Rat) ≤ ((q.den : Int) : Rat) := by
  have : ((0 : Int) : Rat) ≤ ((q.den : Int) : Rat) := Rat.intCast_le_intCast.2 (by omega)
  simpa using this
 have s := Rat.mul_le_mul_of_nonneg_right (Rat.mul_le_mul_of_nonneg_right h hd) (show (0 : Rat) ≤ (D : Rat) by grind)
 rw [den_mul] at s
 have : ((A * (q.den : Int) : Int) : Rat) ≤ ((q.num * D : Int) : Rat) := by
  simp only [Rat.intCast_mul]
  rw [← hm]
  grind
 exact Rat.intCast_le_intCast.1 this
/-- A line's slope and height at 0. -/
theorem line_thr {l : List S73} {A B D : Int} (hD : (0 : Rat) < (D : Rat)) (on : ∀ w ∈ l, onL A B D w) : ∃ m c : Rat, m * (D : Rat) = (A : Rat) ∧ ∀ w ∈ l, thr m c w := by
 have e1 : (A : Rat) / D * D = A := Rat.div_mul_cancel (by grind)
 have e2 : (B : Rat) / D * D = B := Rat.div_mul_cancel (by grind)
 refine ⟨(A : Rat) / D, (B : Rat) / D, e1, fun w hw => ?_⟩
 obtain ⟨o1, o2⟩ := on w hw
 have p1 : ((w.f1 * D : Int) : Rat) ≤ ((A * w.f0 + B : Int) : Rat) := Rat.intCast_le_intCast.2 o1
 have p2 : ((A * w.f0 + B : Int) : Rat) ≤ ((w.f2 * D : Int) : Rat) := Rat.intCast_le_intCast.2 o2
 simp only [Rat.intCast_mul, Rat.intCast_add] at p1 p2
 have e3 : ((A : Rat) / D * w.f0 + (B : Rat) / D) * D = A * w.f0 + B := by grind
 exact ⟨Rat.le_of_mul_le_mul_right (by rw [e3]; exact p1) hD, Rat.le_of_mul_le_mul_right (by rw [e3]; exact p2) hD⟩
theorem on_feas {l : List S73} {A B D : Int} (hD : 1 ≤ D) (on : ∀ w ∈ l, onL A B D w) : Feas l := by
 have hD' : (0 : Rat) < (D : Rat) := by
  have : ((0 : Int) : Rat) < (D : Rat) := Rat.intCast_lt_intCast.2 (by omega)
  simpa using this
 obtain ⟨m, c, _, h⟩ := line_thr hD' on
 exact ⟨m, c, h⟩
/-- A line that goes through has a slope within those that are told. -/
theorem slope_on {l : List S73} (hv : okV l = true) (hl : l.length ≤ 4611686018427387904) {A B D : Int} (hL : isL A B D) (on : ∀ w ∈ l, onL A B D w) : Ev (fun k => droppertop_slope.f k l A B D) true := by
 obtain ⟨l1, l2, l3, l4, l5, l6⟩ := hL
 have hD' : (0 : Rat) < (D : Rat) := by
  have : ((0 : Int) : Rat) < (D : Rat) := Rat.intCast_lt_intCast.2 (by omega)
  simpa using this
 obtain ⟨m, c, hm, ht⟩ := line_thr hD' on
 have h := (okV_okl hv).1
 by_cases c2 : l.length < 2
 ·refine Ev.congr (fun k => ?_) (Ev.now _)
  unfold droppertop_slope.f
  rw [if_pos (by omega)]
 have hF := (feas_iff h).1 ⟨m, c, ht⟩
 have hE := all_ext h
 have hS := allS_ok h l.length (Nat.le_refl _)
 have e := arm_Slopes_ev l hl
 rw [hv] at e
 simp only [if_true] at e
 unfold finS at e
 generalize allS l l.length = s at *
 cases s with
 | none => exact absurd ⟨rd_mem (show 0 < l.length by omega), rd_mem (show 1 < l.length by omega), h.lt (show 0 < 1 by omega) (by omega)⟩ (hE _ _)
 | some z =>
  obtain ⟨p, q⟩ := z
  obtain ⟨_, ⟨a1, b1, ⟨qa, qb, qab⟩, e1⟩, ⟨a2, b2, ⟨ra, rb, rab⟩, e2⟩⟩ := hE
  dsimp only at hF e
  rw [if_neg hF] at e
  have x1 := (feas_pairs ht qa qb qab).1
  have x2 := (feas_pairs ht ra rb rab).2
  rw [e1] at x1
  rw [e2] at x2
  have y1 := num_le hD' hm x1
  have y2 := le_num hD' hm x2
  obtain ⟨⟨sp1, sp2⟩, ⟨sq1, sq2⟩⟩ := hS
  have dp := p.den_pos
  have dq := q.den_pos
  have m1 := mul_bd (a := p.num) (b := D) (A := 100000) (B := 1000000) sp1 (by omega)
  have m2 := mul_bd (a := A) (b := (p.den : Int)) (A := 1000000) (B := 100000) (by omega) (by omega)
  have m3 := mul_bd (a := A) (b := (q.den : Int)) (A := 1000000) (B := 100000) (by omega) (by omega)
  have m4 := mul_bd (a := q.num) (b := D) (A := 100000) (B := 1000000) sq1 (by omega)
  have g : Ev (fun k => (arm_Slopes.f k l).bind fun bt102 => (if bt102.2.2.2.2 = 0 then (if bt102.2.1 ≥ 1 then (if bt102.2.2.2.1 ≥ 1 then (if (wrap64 (bt102.1 * D)) ≤ (wrap64 (A * bt102.2.1)) then (some (decide ((wrap64 (A * bt102.2.2.2.1)) ≤ (wrap64 (bt102.2.2.1 * D))))) else (some false)) else (some false)) else (some false)) else (some false))) true := by
   rw [show encT (some (p, q)) = (p.num, (p.den : Int), q.num, (q.den : Int), 0) from rfl] at e
   refine Ev.bind e ?_
   refine Ev.congr (fun k => ?_) (Ev.now _)
   dsimp only
   rw [if_pos rfl, if_pos (by omega), if_pos (by omega), w64 (by omega) (by omega), w64 (by omega) (by omega), if_pos y1, w64 (by omega) (by omega), w64 (by omega) (by omega), decide_eq_true y2]
  refine Ev.congr (fun k => ?_) g
  unfold droppertop_slope.f
  rw [if_neg (by omega)]
/-- Beginnings of longest pieces, the last of them at p. -/
inductive GC (l : List S73) : List Int → Nat → Prop
 | one : GC l [((0 : Nat) : Int)] 0
 | snoc {ps : List Int} {p i : Nat} : GC l ps p → p < i → i < l.length → Feas (seg l p i) → ¬ Feas (seg l p (i + 1)) → GC l (ps ++ [(i : Int)]) i
theorem gr_gc {l : List S73} (h : Okl l) : ∀ (d i : Nat) (out : List Int) (p : Nat), i + d = l.length → p < i → GC l (out ++ [(p : Int)]) p → Feas (seg l p i) →
  ∃ q, GC l (gr l d i out p) q ∧ q < l.length ∧ Feas (seg l q l.length) := by
 intro d
 induction d with
 | zero =>
  intro i out p hd hp hg hf
  rw [gr]
  exact ⟨p, hg, by omega, by rw [show l.length = i by omega]; exact hf⟩
 | succ d ih =>
  intro i out p hd hp hg hf
  rw [gr]
  by_cases c : Feas (seg l p (i + 1))
  ·rw [if_pos c]
   exact ih (i + 1) out p (by omega) (by omega) hg c
  ·rw [if_neg c]
   refine ih (i + 1) (out ++ [(p : Int)]) i (by omega) (by omega) (.snoc hg hp (by omega) hf c) (feas_one (seg_ok h _ _) ?_)
   unfold seg
   rw [List.length_drop, List.length_take]
   omega
theorem gp_gc {l : List S73} (h : Okl l) (h1 : 1 ≤ l.length) : ∃ q, GC l (gp l) q ∧ q < l.length ∧ Feas (seg l q l.length) := by
 unfold gp
 refine gr_gc h (l.length - 1) 1 [] 0 (by omega) (by omega) .one (feas_one (seg_ok h _ _) ?_)
 unfold seg
 rw [List.length_drop, List.length_take]
 omega
theorem rd_left {ps : List Int} {j : Nat} (h : j < ps.length) (x : Int) : rd (ps ++ [x]) (j : Int) = rd ps (j : Int) := by
 simp [rd, List.getD_eq_getElem?_getD, List.getElem?_append_left h]
/-- One link: the j-th piece, and that it goes as far as it can. -/
def Lk (l : List S73) (ps : List Int) (j : Nat) : Prop := 0 ≤ rd ps (j : Int) ∧ rd ps (j : Int) < rd ps ((j + 1 : Nat) : Int) ∧ rd ps ((j + 1 : Nat) : Int) < l.length ∧ Feas (seg l (rd ps (j : Int)).toNat (rd ps ((j + 1 : Nat) : Int)).toNat) ∧ ¬ Feas (seg l (rd ps (j : Int)).toNat ((rd ps ((j + 1 : Nat) : Int)) + 1).toNat)
theorem GC.facts {l : List S73} {ps : List Int} {p : Nat} (h : GC l ps p) : 1 ≤ ps.length ∧ rd ps 0 = 0 ∧ rd ps ((ps.length - 1 : Nat) : Int) = (p : Int) ∧ ∀ j, j + 1 < ps.length → Lk l ps j := by
 induction h with
 | one => exact ⟨by simp, rfl, rfl, fun j hj => absurd hj (by simp)⟩
 | @snoc ps p i _ h1 h2 h3 h4 ih =>
  obtain ⟨a1, a2, a3, a4⟩ := ih
  have hlen : (ps ++ [(i : Int)]).length = ps.length + 1 := by simp
  refine ⟨by omega, ?_, ?_, ?_⟩
  ·exact (rd_left (j := 0) (by omega) _).trans a2
  ·rw [hlen]
   exact rd_last _ _ _ (by omega)
  ·intro j hj
   rw [hlen] at hj
   by_cases c : j + 1 < ps.length
   ·have := a4 j c
    unfold Lk at this ⊢
    rw [rd_left (by omega), rd_left c]
    exact this
   ·obtain rfl : j = ps.length - 1 := by omega
    unfold Lk
    rw [rd_left (by omega), rd_last ps (i : Int) ((ps.length - 1 + 1 : Nat) : Int) (by omega), a3]
    refine ⟨by omega, by omega, by omega, ?_, ?_⟩
    ·simpa using h3
    ·rw [show ((i : Int) + 1).toNat = i + 1 by omega]
     simpa using h4
theorem seg_sub {l : List S73} {a b a' b' : Nat} (h1 : a' ≤ a) (h2 : b ≤ b') : ∀ w ∈ seg l a b, w ∈ seg l a' b' := by
 intro w hw
 unfold seg at hw ⊢
 rw [List.mem_drop_iff_getElem] at hw ⊢
 obtain ⟨i, hi, rfl⟩ := hw
 rw [List.length_take] at hi
 refine ⟨i + a - a', ?_, ?_⟩
 ·rw [List.length_take]; omega
 ·rw [List.getElem_take, List.getElem_take]
  congr 1
  omega
theorem seg_feas {l : List S73} {a b a' b' : Int} (h1 : a' ≤ a) (h2 : b ≤ b') (h : Feas (seg l a'.toNat b'.toNat)) : Feas (seg l a.toNat b.toNat) :=
 h.mono (seg_sub (by omega) (by omega))
/-- The longest pieces are pieces. -/
theorem gp_pieces {l : List S73} (h : Okl l) (h1 : 1 ≤ l.length) : ArePA l (gp l) := by
 obtain ⟨q, hg, hq, hf⟩ := gp_gc h h1
 obtain ⟨a1, a2, a3, a4⟩ := hg.facts
 refine ⟨⟨by intro e; rw [e] at a1; simp at a1, a2⟩, fun j hj => ?_⟩
 unfold PA toI
 by_cases c : j + 1 < (gp l).length
 ·rw [if_pos c]
  obtain ⟨b1, b2, b3, b4, _⟩ := a4 j c
  exact ⟨b1, b2, by omega, b4⟩
 ·rw [if_neg c]
  obtain rfl : j = (gp l).length - 1 := by omega
  rw [a3]
  refine ⟨by omega, by omega, by omega, ?_⟩
  simpa using hf
/-- No list of pieces is shorter than that of the longest. -/
theorem gp_least {l : List S73} (h : Okl l) (h1 : 1 ≤ l.length) {qs : List Int} (hq : ArePA l qs) : (gp l).length ≤ qs.length := by
 obtain ⟨q, hg, hql, hf⟩ := gp_gc h h1
 obtain ⟨a1, a2, a3, a4⟩ := hg.facts
 obtain ⟨⟨q1, q2⟩, q3⟩ := hq
 have hpos : 0 < qs.length := List.length_pos_iff.2 q1
 have ahead : ∀ j, j < qs.length → j < (gp l).length → rd qs (j : Int) ≤ rd (gp l) (j : Int) := by
  intro j
  induction j with
  | zero =>
   intro _ _
   have e1 : rd qs ((0 : Nat) : Int) = 0 := q2
   have e2 : rd (gp l) ((0 : Nat) : Int) = 0 := a2
   omega
  | succ j ih =>
   intro hj hj2
   have i1 := ih (by omega) (by omega)
   obtain ⟨p1, p2, p3, p4⟩ := q3 j (by omega)
   unfold toI at p2 p3 p4
   rw [if_pos hj] at p2 p3 p4
   obtain ⟨b1, b2, b3, b4, b5⟩ := a4 j hj2
   by_cases c : rd qs ((j + 1 : Nat) : Int) ≤ rd (gp l) ((j + 1 : Nat) : Int)
   ·exact c
   ·exact absurd (seg_feas i1 (by omega) p4) b5
 by_cases c : (gp l).length ≤ qs.length
 ·exact c
 ·have i1 := ahead (qs.length - 1) (by omega) (by omega)
  obtain ⟨p1, p2, p3, p4⟩ := q3 (qs.length - 1) (by omega)
  unfold toI at p2 p3 p4
  rw [if_neg (by omega)] at p2 p3 p4
  obtain ⟨b1, b2, b3, b4, b5⟩ := a4 (qs.length - 1) (by omega)
  exact absurd (seg_feas i1 (by omega) p4) b5
/-- What ended ahead of the j-th block. -/
def endB (bs : List S84) (j : Nat) : Int := if j = 0 then 0 else (rd_T84 bs ((j - 1 : Nat) : Int)).f1
theorem wgo_iff (l : List S73) (bs : List S84) : ∀ (d i : Nat) (e : Int), bs.length - i = d → i ≤ bs.length → e = endB bs i →
  ((wgo l bs d i e).1 < 0 ↔ ∀ j, i ≤ j → j < bs.length → ¬ BadB l (rd_T84 bs (j : Int)).f0 (rd_T84 bs (j : Int)).f1 (endB bs j)) := by
 intro d
 induction d with
 | zero =>
  intro i e hd hi he
  exact ⟨fun _ j h1 h2 => by omega, fun _ => by rw [wgo]; exact (by decide : (-1 : Int) < 0)⟩
 | succ d ih =>
  intro i e hd hi he
  have ih' := ih (i + 1) (rd_T84 bs (i : Int)).f1 (by omega) (by omega) (by unfold endB; rw [if_neg (by omega)]; rfl)
  rw [wgo]
  by_cases c : BadB l (rd_T84 bs (i : Int)).f0 (rd_T84 bs (i : Int)).f1 e
  ·rw [if_pos c]
   constructor
   ·intro z; dsimp only at z; omega
   ·intro z
    refine absurd c ?_
    rw [he]
    exact z i (Nat.le_refl _) (by omega)
  ·rw [if_neg c, ih']
   constructor
   ·intro z j h1 h2
    by_cases e' : j = i
    ·subst e'; rw [← he]; exact c
    ·exact z j (by omega) h2
   ·intro z j h1 h2
    exact z j (by omega) h2
theorem rd84_left {out : List S84} {j : Nat} (h : j < out.length) (x : S84) : rd_T84 (out ++ [x]) (j : Int) = rd_T84 out (j : Int) := by
 simp [rd_T84, List.getD_eq_getElem?_getD, List.getElem?_append_left h]
theorem rd84_last (out : List S84) (x : S84) : rd_T84 (out ++ [x]) (out.length : Int) = x := by
 simp [rd_T84, List.getD_eq_getElem?_getD]
theorem bg_at (ps : List Int) : ∀ (d i : Nat) (out : List S84), out.length = i → (∀ j, j < i → rd_T84 out (j : Int) = ⟨rd ps (j : Int), rd ps ((j + 1 : Nat) : Int)⟩) →
  ∀ j, j < i + d → rd_T84 (bg ps d i out) (j : Int) = ⟨rd ps (j : Int), rd ps ((j + 1 : Nat) : Int)⟩ := by
 intro d
 induction d with
 | zero => intro i out ho h j hj; rw [bg]; exact h j (by omega)
 | succ d ih =>
  intro i out ho h j hj
  rw [bg]
  refine ih (i + 1) _ (by simp [ho]) (fun k hk => ?_) j (by omega)
  by_cases c : k < i
  ·rw [rd84_left (by omega)]; exact h k c
  ·obtain rfl : k = out.length := by omega
   rw [rd84_last, ho]
/-- The neighbours among the longest pieces are blocks. -/
theorem bg_blocks {l : List S73} (h : Okl l) (h1 : 1 ≤ l.length) : (wgo l (bg (gp l) ((gp l).length - 1) 0 []) (bg (gp l) ((gp l).length - 1) 0 []).length 0 0).1 < 0 := by
 obtain ⟨q, hg, hq, hf⟩ := gp_gc h h1
 obtain ⟨a1, a2, a3, a4⟩ := hg.facts
 have hlen : (bg (gp l) ((gp l).length - 1) 0 []).length = (gp l).length - 1 := by rw [bg_len]; simp
 have hat := bg_at (gp l) ((gp l).length - 1) 0 [] rfl (fun j hj => by omega)
 generalize bg (gp l) ((gp l).length - 1) 0 [] = bs at *
 rw [wgo_iff l bs bs.length 0 0 (by omega) (by omega) (by unfold endB; rw [if_pos rfl])]
 intro j _ hj
 have e := hat j (by omega)
 obtain ⟨b1, b2, b3, b4, b5⟩ := a4 j (by omega)
 have ee : endB bs j ≤ rd (gp l) (j : Int) := by
  unfold endB
  by_cases c : j = 0
  ·rw [if_pos c]; exact b1
  ·rw [if_neg c, hat (j - 1) (by omega), show j - 1 + 1 = j by omega]
   exact Int.le_refl _
 rw [e]
 unfold BadB
 dsimp only
 rintro (z | z | z | z)
 ·omega
 ·omega
 ·omega
 ·exact b5 z
theorem bstep {l : List S73} {ps : List Int} {q : Nat} {bs : List S84} (hA : 1 ≤ ps.length ∧ rd ps 0 = 0 ∧ rd ps ((ps.length - 1 : Nat) : Int) = (q : Int) ∧ ∀ j, j + 1 < ps.length → Lk l ps j) (hf : Feas (seg l q l.length)) (hq : q < l.length) (h1 : 1 ≤ l.length) (j : Nat) (hj : j < ps.length)
  (st : rd ps (j : Int) ≤ endB bs j) (z : ¬ BadB l (rd_T84 bs (j : Int)).f0 (rd_T84 bs (j : Int)).f1 (endB bs j)) : j + 1 < ps.length ∧ rd ps ((j + 1 : Nat) : Int) ≤ (rd_T84 bs (j : Int)).f1 := by
 obtain ⟨a1, a2, a3, a4⟩ := hA
 unfold BadB at z
 generalize endB bs j = e at *
 generalize (rd_T84 bs (j : Int)).f0 = a at *
 generalize (rd_T84 bs (j : Int)).f1 = b at *
 have z1 : ¬ a < e := fun y => z (.inl y)
 have z2 : ¬ b ≤ a := fun y => z (.inr (.inl y))
 have z3 : ¬ (l.length : Int) ≤ b := fun y => z (.inr (.inr (.inl y)))
 have z4 : ¬ Feas (seg l a.toNat (b + 1).toNat) := fun y => z (.inr (.inr (.inr y)))
 by_cases c : j + 1 < ps.length
 ·refine ⟨c, ?_⟩
  obtain ⟨b1, b2, b3, b4, b5⟩ := a4 j c
  by_cases y : rd ps ((j + 1 : Nat) : Int) ≤ b
  ·exact y
  ·exact absurd (seg_feas (by omega) (by omega) b4) z4
 ·obtain rfl : j = ps.length - 1 := by omega
  rw [a3] at st
  refine absurd (seg_feas (a' := (q : Int)) (b' := (l.length : Int)) (by omega) (by omega) ?_) z4
  simpa using hf
/-- No list of blocks is as long as that of the longest pieces. -/
theorem bg_most {l : List S73} (h : Okl l) (h1 : 1 ≤ l.length) {bs : List S84} (hb : (wgo l bs bs.length 0 0).1 < 0) : bs.length < (gp l).length := by
 obtain ⟨q, hg, hq, hf⟩ := gp_gc h h1
 obtain ⟨a1, a2, a3, a4⟩ := hg.facts
 rw [wgo_iff l bs bs.length 0 0 (by omega) (by omega) (by unfold endB; rw [if_pos rfl])] at hb
 have ahead : ∀ j, j < bs.length → j + 1 < (gp l).length ∧ rd (gp l) ((j + 1 : Nat) : Int) ≤ (rd_T84 bs (j : Int)).f1 := by
  intro j
  induction j with
  | zero =>
   intro hj
   have z := hb 0 (Nat.le_refl _) hj
   have es : rd (gp l) ((0 : Nat) : Int) = 0 := a2
   have st : rd (gp l) ((0 : Nat) : Int) ≤ endB bs 0 := by unfold endB; rw [if_pos rfl]; omega
   exact bstep hg.facts hf hq h1 0 (by omega) st z
  | succ j ih =>
   intro hj
   obtain ⟨i1, i2⟩ := ih (by omega)
   have z := hb (j + 1) (by omega) hj
   have st : rd (gp l) ((j + 1 : Nat) : Int) ≤ endB bs (j + 1) := by unfold endB; rw [if_neg (by omega)]; exact i2
   exact bstep hg.facts hf hq h1 (j + 1) i1 st z
 by_cases c : bs.length = 0
 ·omega
 ·have := (ahead (bs.length - 1) (by omega)).1
  omega
/-- The last part: another list of pieces, another list of blocks. -/
theorem top_j5 {l : List S73} (h : Okl l) (h1 : 1 ≤ l.length) {k : Nat} {A B D : Int} {ps : List Int} {bs : List S84} {dp db : Bool}
  (e1 : dropperref03_ArePieces.f k l ps = some (dp, 0)) (e2 : dropperref03_AreBlocks.f k l bs = some (db, 0)) (e3 : dropperlaw03_First.f k = some true)
  (hp : dp = true → (gp l).length ≤ ps.length) (hb : db = true → bs.length < (gp l).length) : droppertop_TopArm.j5 (k + 1) l (gp l) false A B D ps bs = some true := by
 rw [droppertop_TopArm.j5, if_neg (by decide), e1, e2]
 simp only [Option.bind_some, if_true]
 rw [e3]
 simp only [Option.bind_some]
 cases dp with
 | true =>
  have := hp rfl
  rw [if_pos rfl, if_neg (by omega)]
  cases db with
  | true =>
   have := hb rfl
   rw [if_pos rfl, if_neg (by omega)]
  | false => rw [if_neg (by decide)]
 | false =>
  rw [if_neg (by decide)]
  cases db with
  | true =>
   have := hb rfl
   rw [if_pos rfl, if_neg (by omega)]
  | false => rw [if_neg (by decide)]
open Classical in
/-- From the pieces on. -/
theorem top_j3 {l : List S73} (hv : okV l = true) (hl : l.length ≤ 4611686018427387904) (A B D : Int) {ps : List Int} (hps : ps.length ≤ 40) {bs : List S84} (hbs : bs.length ≤ 30) :
  ∃ K, ∀ k, K ≤ k → droppertop_TopArm.j3 (k + 3) l false A B D ps bs = some true := by
 obtain ⟨h, h1, h30⟩ := okV_okl hv
 obtain ⟨K0, s0⟩ := first_ev
 have hg := gp_len l
 have hbl : (bg (gp l) ((gp l).length - 1) 0 []).length = (gp l).length - 1 := by rw [bg_len]; simp
 obtain ⟨K1, s1⟩ := arm_Pieces_ev l hl
 obtain ⟨K2, s2⟩ := arm_Blocks_ev l hl
 obtain ⟨K3, s3⟩ := arm_ArePieces_ev l hl (ps := gp l) (by omega)
 obtain ⟨K4, s4⟩ := arm_AreBlocks_ev l hl (bs := bg (gp l) ((gp l).length - 1) 0 []) (by omega)
 obtain ⟨K5, s5⟩ := ref_ArePieces_ev l hl (ps := ps) (by omega)
 obtain ⟨K6, s6⟩ := ref_AreBlocks_ev l hl (bs := bs) (by omega)
 have p1 := gp_pieces h h1
 have p2 := bg_blocks h h1
 unfold blkR at s2
 unfold areR at s4 s6
 rw [hv] at s1 s2 s3 s4 s5 s6
 simp only [if_true] at s1 s2 s3 s4 s5 s6
 rw [if_pos (by omega)] at s4 s6
 rw [decide_eq_true p1] at s3
 rw [decide_eq_true p2] at s4
 generalize bg (gp l) ((gp l).length - 1) 0 [] = bb at *
 refine ⟨K0 + K1 + K2 + K3 + K4 + K5 + K6, fun k hk => ?_⟩
 have z1 : arm_Pieces.f (k + 2) l = some (gp l, 0) := s1 _ (by omega)
 have z2 : arm_Blocks.f (k + 2) l = some (bb, 0) := s2 _ (by omega)
 have z3 : arm_ArePieces.f (k + 1) l (gp l) = some (true, 0) := s3 _ (by omega)
 have z4 : arm_AreBlocks.f (k + 1) l bb = some (true, 0) := s4 _ (by omega)
 have z5 := top_j5 h h1 (A := A) (B := B) (D := D) (s5 k (by omega)) (s6 k (by omega)) (s0 k (by omega)) (fun z => gp_least h h1 (of_decide_eq_true z)) (fun z => bg_most h h1 (of_decide_eq_true z))
 have hw : wrap64 ((bb.length : Int) + 1) = ((gp l).length : Int) := by rw [w64 (by omega) (by omega)]; omega
 rw [droppertop_TopArm.j3, if_neg (by decide), z1, Option.bind_some, z2, Option.bind_some, if_pos rfl, if_pos rfl]
 dsimp only
 rw [hw, show (((gp l).length : Int) != ((gp l).length : Int)) = false by simp]
 rw [droppertop_TopArm.j4, if_neg (by decide), z3, Option.bind_some, z4, Option.bind_some, if_pos rfl, if_pos rfl, if_pos rfl]
 exact z5
/-- From another line on. -/
theorem top_j2 {l : List S73} (hv : okV l = true) (hl : l.length ≤ 4611686018427387904) (A B D : Int) {ps : List Int} (hps : ps.length ≤ 40) {bs : List S84} (hbs : bs.length ≤ 30) (e : Int) (he : Feas l → e = 0) :
  ∃ K, ∀ k, K ≤ k → droppertop_TopArm.j2 (k + 4) l e A B D ps bs = some true := by
 obtain ⟨K0, s0⟩ := top_j3 hv hl A B D hps hbs
 obtain ⟨K1, s1⟩ := ref_Through_ev l hl A B D
 have hi := thr_iff hv A B D
 by_cases c : thrR l A B D = (true, 0)
 ·obtain ⟨hL, on⟩ := hi.1 c
  have hF := on_feas hL.2.2.2.2.1 on
  obtain rfl := he hF
  obtain ⟨K2, s2⟩ := slope_on hv hl hL on
  refine ⟨K0 + K1 + K2, fun k hk => ?_⟩
  have z1 : dropperref03_Through.f (k + 3) l A B D = some (true, 0) := (s1 _ (by omega)).trans (by rw [c])
  have z2 : droppertop_slope.f (k + 3) l A B D = some true := s2 _ (by omega)
  have z3 := s0 k (by omega)
  rw [droppertop_TopArm.j2, z1, Option.bind_some, if_pos rfl, if_pos rfl, if_pos rfl, z2, Option.bind_some]
  exact z3
 ·refine ⟨K0 + K1, fun k hk => ?_⟩
  have z1 : dropperref03_Through.f (k + 3) l A B D = some (thrR l A B D) := s1 _ (by omega)
  have z3 := s0 k (by omega)
  rw [droppertop_TopArm.j2, z1, Option.bind_some]
  generalize thrR l A B D = r at *
  obtain ⟨b, n⟩ := r
  dsimp only
  by_cases c1 : n = 0
  ·rw [if_pos c1]
   cases b with
   | true => subst c1; exact absurd rfl c
   | false => rw [if_neg (by decide)]; exact z3
  ·rw [if_neg c1]; exact z3
theorem TopArm_pure (l : List S73) (A B D : Int) (ps : List Int) (bs : List S84) (hl : l.length ≤ 9223372036854775807) : ∃ k, droppertop_TopArm.f k l A B D ps bs = some true := by
 obtain ⟨K0, s0⟩ := first_ev
 obtain ⟨K1, s1⟩ := ref_valid_far l hl
 have early : ∀ k, K0 ≤ k → droppertop_TopArm.j0 (k + 1) l true A B D ps bs = some true := fun k hk => by
  have z : dropperlaw03_First.f k = some true := s0 k hk
  rw [droppertop_TopArm.j0, if_pos rfl, z]
  rfl
 cases hv : okV l with
 | false =>
  rw [hv] at s1
  have z : dropperref03_Valid.f (K0 + K1 + 1) l = some false := s1 _ (by omega)
  refine ⟨K0 + K1 + 1, ?_⟩
  unfold droppertop_TopArm.f
  rw [z, Option.bind_some, if_neg (by decide)]
  exact early _ (by omega)
 | true =>
  rw [hv] at s1
  obtain ⟨h, h1, h30⟩ := okV_okl hv
  have hl' : l.length ≤ 4611686018427387904 := by omega
  by_cases c1 : (ps.length : Int) > 40
  ·have z : dropperref03_Valid.f (K0 + K1 + 1) l = some true := s1 _ (by omega)
   refine ⟨K0 + K1 + 1, ?_⟩
   unfold droppertop_TopArm.f
   rw [z, Option.bind_some, if_pos rfl, if_pos c1]
   exact early _ (by omega)
  by_cases c2 : (bs.length : Int) > 30
  ·have z : dropperref03_Valid.f (K0 + K1 + 1) l = some true := s1 _ (by omega)
   refine ⟨K0 + K1 + 1, ?_⟩
   unfold droppertop_TopArm.f
   rw [z, Option.bind_some, if_pos rfl, if_neg c1, decide_eq_true c2]
   exact early _ (by omega)
  obtain ⟨LA, LB, LD, le, ⟨K2, s2⟩, _, hline⟩ := arm_Line_ev l hl'
  obtain ⟨r3, ⟨K3, s3⟩, _, hfound, _⟩ := forbid_ev l hl'
  have main : ∃ K, ∀ k, K ≤ k → droppertop_TopArm.j0 (k + 6) l false A B D ps bs = some true := by
   rcases hline hv with ⟨nf, e⟩ | ⟨hF, rfl, g⟩
   ·simp only [Prod.mk.injEq] at e
    obtain ⟨rfl, rfl, rfl, rfl⟩ := e
    obtain ⟨K4, s4⟩ := top_j2 hv hl' A B D (ps := ps) (by omega) (bs := bs) (by omega) 5 (fun z => absurd z nf)
    rcases found_iff h (hfound hv) with ⟨hF, _⟩ | ⟨_, a, b, c, q1, q2, q3, q4, rfl⟩
    ·exact absurd hF nf
    obtain ⟨K5, s5⟩ := forbids_true hv hl' q1 q2 q3 q4
    refine ⟨K2 + K3 + K4 + K5, fun k hk => ?_⟩
    have z2 : arm_Line.f (k + 5) l = some (0, 0, 0, 5) := s2 _ (by omega)
    have z3 : arm_Forbid.f (k + 5) l = some ((a : Int), (b : Int), (c : Int), 0) := s3 _ (by omega)
    have z5 : arm_Forbids.f (k + 4) l a b c = some (true, 0) := s5 _ (by omega)
    have z4 := s4 k (by omega)
    rw [droppertop_TopArm.j0, if_neg (by decide), z2, Option.bind_some, z3, Option.bind_some]
    dsimp only
    rw [if_neg (by decide), if_neg (by decide), if_pos rfl, if_pos rfl]
    rw [droppertop_TopArm.j1, if_neg (by decide), if_neg (by decide), z5, Option.bind_some, if_pos rfl, if_pos rfl]
    exact z4
   ·obtain ⟨K4, s4⟩ := top_j2 hv hl' A B D (ps := ps) (by omega) (bs := bs) (by omega) 0 (fun _ => rfl)
    rcases found_iff h (hfound hv) with ⟨_, rfl⟩ | ⟨nf, _⟩
    ·obtain ⟨ga, gb, gd, gon⟩ := g
     have hL : isL LA LB LD := ⟨by omega, by omega, by omega, by omega, by omega, by omega⟩
     obtain ⟨K5, s5⟩ := arm_Through_ev l hl' LA LB LD
     rw [(thr_iff hv LA LB LD).2 ⟨hL, gon⟩] at s5
     obtain ⟨K6, s6⟩ := slope_on hv hl' hL gon
     refine ⟨K2 + K3 + K4 + K5 + K6, fun k hk => ?_⟩
     have z2 : arm_Line.f (k + 5) l = some (LA, LB, LD, 0) := s2 _ (by omega)
     have z3 : arm_Forbid.f (k + 5) l = some (0, 0, 0, 5) := s3 _ (by omega)
     have z5 : arm_Through.f (k + 4) l LA LB LD = some (true, 0) := s5 _ (by omega)
     have z6 : droppertop_slope.f (k + 4) l LA LB LD = some true := s6 _ (by omega)
     have z4 := s4 k (by omega)
     rw [droppertop_TopArm.j0, if_neg (by decide), z2, Option.bind_some, z3, Option.bind_some]
     dsimp only
     rw [if_neg (by decide), if_pos rfl, if_neg (by decide), show ((5 : Int) != 5) = false by decide]
     rw [droppertop_TopArm.j1, if_neg (by decide), if_pos rfl, z5, Option.bind_some, if_pos rfl, if_pos rfl, z6, Option.bind_some, if_pos rfl]
     exact z4
    ·exact absurd hF nf
  obtain ⟨K, s⟩ := main
  have z : dropperref03_Valid.f (K + K1 + 6) l = some true := s1 _ (by omega)
  refine ⟨K + K1 + 6, ?_⟩
  unfold droppertop_TopArm.f
  rw [z, Option.bind_some, if_pos rfl, if_neg c1, decide_eq_false c2]
  exact s _ (by omega)
end Go.Proofs.Ytiapmkndgalgnaa.G
