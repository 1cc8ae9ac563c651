/- The slopes that each two windows set: the printed double loop is a fold over pairs, and ends in the greatest least slope and the least greatest one. Plain Lean. -/
import Derived.Test.YtiapmkndgalgnaaPValid
import Derived.Test.YtiapmkndgalgnaaGF55
namespace Go.Proofs.Ytiapmkndgalgnaa.G
open Go.RowKit Go.Proofs.YtiapmkndgalgnaaW.PrintWords Go.Proofs.YtiapmkndgalgnaaW.PrintLast
open Rat (divInt)

/-- A window within bounds. -/
def inB (w : S73) : Prop := 0 ≤ w.f0 ∧ w.f0 ≤ 100000 ∧ -1000 ≤ w.f1 ∧ w.f1 ≤ w.f2 ∧ w.f2 ≤ 1000
/-- Windows in order, each within bounds. -/
structure Okl (l : List S73) : Prop where
  bnd : ∀ w ∈ l, inB w
  asc : l.Pairwise (fun a b => a.f0 < b.f0)

theorem okF_okl : ∀ (l : List S73) (last : Int), -1 ≤ last → okF last l = true → Okl l ∧ ∀ w ∈ l, last < w.f0
  | [], _, _, _ => ⟨⟨by simp, List.Pairwise.nil⟩, by simp⟩
  | w :: ws, last, h, ho => by
    simp only [okF, Bool.and_eq_true, decide_eq_true_eq] at ho
    obtain ⟨⟨c1, c2, c3, c4, c5⟩, h2⟩ := ho
    obtain ⟨h3, h4⟩ := okF_okl ws w.f0 (by omega) h2
    refine ⟨⟨?_, List.Pairwise.cons h4 h3.asc⟩, ?_⟩
    · intro x hx
      rcases List.mem_cons.1 hx with rfl | hx
      · exact ⟨by omega, by omega, by omega, by omega, by omega⟩
      · exact h3.bnd x hx
    · intro x hx
      rcases List.mem_cons.1 hx with rfl | hx
      · omega
      · have := h4 x hx; omega
theorem okV_okl {l : List S73} (h : okV l = true) : Okl l ∧ 1 ≤ l.length ∧ l.length ≤ 30 := by
  simp only [okV, Bool.and_eq_true, decide_eq_true_eq] at h
  exact ⟨(okF_okl l (-1) (by omega) h.2).1, h.1⟩
theorem Okl.sub {l m : List S73} (h : Okl l) (s : m.Sublist l) : Okl m := ⟨fun w hw => h.bnd w (s.subset hw), h.asc.sublist s⟩

/-- The bounds that two windows set to a slope. -/
def loS (a b : S73) : Rat := divInt (b.f1 - a.f2) (b.f0 - a.f0)
def hiS (a b : S73) : Rat := divInt (b.f2 - a.f1) (b.f0 - a.f0)
def small (p : Rat) : Prop := p.num.natAbs ≤ 100000 ∧ p.den ≤ 100000
theorem lo_small {a b : S73} (ha : inB a) (hb : inB b) (h : a.f0 < b.f0) : small (loS a b) := by
  obtain ⟨_, _, _, _, _⟩ := ha
  obtain ⟨_, _, _, _, _⟩ := hb
  have := ratio_num_le (n := b.f1 - a.f2) (d := b.f0 - a.f0) (by omega)
  exact ⟨by unfold loS; omega, by unfold loS; omega⟩
theorem hi_small {a b : S73} (ha : inB a) (hb : inB b) (h : a.f0 < b.f0) : small (hiS a b) := by
  obtain ⟨_, _, _, _, _⟩ := ha
  obtain ⟨_, _, _, _, _⟩ := hb
  have := ratio_num_le (n := b.f2 - a.f1) (d := b.f0 - a.f0) (by omega)
  exact ⟨by unfold hiS; omega, by unfold hiS; omega⟩
theorem small_less {p q : Rat} (hp : small p) (hq : small q) : arm_less.f p.num p.den q.num q.den = some (decide (p < q)) :=
  less_ev p q (by have := hp.1; omega) (by have := hp.2; omega) (by have := hq.1; omega) (by have := hq.2; omega)

abbrev St := Option (Rat × Rat)
def stepS (s : St) (a b : S73) : St :=
  match s with
  | none => some (loS a b, hiS a b)
  | some (p, q) => some (if p < loS a b then loS a b else p, if hiS a b < q then hiS a b else q)
def okS : St → Prop
  | none => True
  | some (p, q) => small p ∧ small q
def encS : St → Int × Int × Int × Int × Bool
  | none => (0, 0, 0, 0, false)
  | some (p, q) => (p.num, p.den, q.num, q.den, true)
theorem step_ok {s : St} {a b : S73} (hs : okS s) (ha : inB a) (hb : inB b) (h : a.f0 < b.f0) : okS (stepS s a b) := by
  have h1 := lo_small ha hb h
  have h2 := hi_small ha hb h
  cases s with
  | none => exact ⟨h1, h2⟩
  | some z =>
    obtain ⟨p, q⟩ := z
    simp only [stepS, okS]
    refine ⟨?_, ?_⟩ <;> split <;> first | exact h1 | exact h2 | exact hs.1 | exact hs.2

/-- One round of the inner loop. -/
theorem inner_step (l : List S73) (n : Int) (k i : Nat) (b : S73) (s : St) (hs : okS s) (hi : i < (l.take k).length) (hk : k ≤ 4611686018427387904) (hb : inB b) (ha : inB (rd_T73 (l.take k) (i : Int))) (hab : (rd_T73 (l.take k) (i : Int)).f0 < b.f0) {r : Int × Int × Int × Int × Bool}
    (hr : Ev (fun m => arm_slopes.l1 m l (encS (stepS s (rd_T73 (l.take k) (i : Int)) b)).2.2.2.2 l n (k : Int) (l.take k) ((l.take k).length : Int) ((i + 1 : Nat) : Int) (encS (stepS s (rd_T73 (l.take k) (i : Int)) b)).1 (encS (stepS s (rd_T73 (l.take k) (i : Int)) b)).2.1 (encS (stepS s (rd_T73 (l.take k) (i : Int)) b)).2.2.1 (encS (stepS s (rd_T73 (l.take k) (i : Int)) b)).2.2.2.1 b.f0 b.f1 b.f2) r) :
    Ev (fun m => arm_slopes.l1 m l (encS s).2.2.2.2 l n (k : Int) (l.take k) ((l.take k).length : Int) (i : Int) (encS s).1 (encS s).2.1 (encS s).2.2.1 (encS s).2.2.2.1 b.f0 b.f1 b.f2) r := by
  have hlen : (l.take k).length ≤ k := by rw [List.length_take]; omega
  generalize hv : l.take k = v at *
  generalize hA : rd_T73 v (i : Int) = a at *
  obtain ⟨a1, a2, a3, a4, a5⟩ := ha
  obtain ⟨b1, b2, b3, b4, b5⟩ := hb
  have hlo := lo_small ⟨a1, a2, a3, a4, a5⟩ ⟨b1, b2, b3, b4, b5⟩ hab
  have hhi := hi_small ⟨a1, a2, a3, a4, a5⟩ ⟨b1, b2, b3, b4, b5⟩ hab
  obtain ⟨K1, e1⟩ := lowest_ev (b.f1 - a.f2) (b.f0 - a.f0) (by omega) (by omega) (by omega) (by omega)
  obtain ⟨K2, e2⟩ := lowest_ev (b.f2 - a.f1) (b.f0 - a.f0) (by omega) (by omega) (by omega) (by omega)
  obtain ⟨K3, e3⟩ := hr
  refine ⟨K1 + K2 + K3 + 2, fun m hm => ?_⟩
  obtain ⟨m, rfl⟩ : ∃ j, m = j + 2 := ⟨m - 2, by omega⟩
  have e1 := e1 (m + 1) (by omega)
  have e2 := e2 (m + 1) (by omega)
  have e3 := e3 m (by omega)
  dsimp only at e1 e2 e3 ⊢
  rw [arm_slopes.l1, if_pos (by omega), if_pos (by omega), if_pos (by omega), hA, w64 (n := b.f1 - a.f2) (by omega) (by omega), w64 (n := b.f0 - a.f0) (by omega) (by omega), w64 (n := b.f2 - a.f1) (by omega) (by omega), e1]
  simp only [Option.bind_some]
  rw [e2]
  simp only [Option.bind_some]
  have hw : wrap64 ((i : Int) + 1) = ((i + 1 : Nat) : Int) := by rw [w64 (by omega) (by omega)]; rfl
  cases s with
  | none =>
    simp only [encS, stepS, loS, hiS] at e3 ⊢
    simp only [Bool.false_eq_true, if_false]
    rw [arm_slopes.j2, hw]
    simp only [Bool.false_eq_true, if_false, if_true]
    exact e3
  | some z =>
    obtain ⟨p, q⟩ := z
    have h1 := small_less hs.1 hlo
    have h2 := small_less hhi hs.2
    simp only [encS, stepS] at e3 ⊢
    unfold loS hiS at *
    rw [if_pos trivial, h1]
    simp only [Option.bind_some]
    rw [arm_slopes.j2, hw]
    by_cases c1 : p < divInt (b.f1 - a.f2) (b.f0 - a.f0) <;> by_cases c2 : divInt (b.f2 - a.f1) (b.f0 - a.f0) < q <;>
      simp only [c1, c2, decide_true, decide_false, if_true, if_false, h2, Option.bind_some, Bool.false_eq_true] at e3 ⊢ <;> exact e3

/-- The inner loop: a fold over what is left of the windows ahead. -/
theorem inner_fold (l : List S73) (n : Int) (k : Nat) (b : S73) (hk : k ≤ 4611686018427387904) (hb : inB b) (ho : ∀ a ∈ l.take k, inB a ∧ a.f0 < b.f0) {r : Int × Int × Int × Int × Bool} : ∀ (d i : Nat) (s : St), (l.take k).length - i = d → i ≤ (l.take k).length → okS s →
    (okS (((l.take k).drop i).foldl (fun s a => stepS s a b) s) → Ev (fun m => arm_slopes.l0 m l (encS (((l.take k).drop i).foldl (fun s a => stepS s a b) s)).2.2.2.2 l n ((k + 1 : Nat) : Int) (encS (((l.take k).drop i).foldl (fun s a => stepS s a b) s)).1 (encS (((l.take k).drop i).foldl (fun s a => stepS s a b) s)).2.1 (encS (((l.take k).drop i).foldl (fun s a => stepS s a b) s)).2.2.1 (encS (((l.take k).drop i).foldl (fun s a => stepS s a b) s)).2.2.2.1) r) →
    Ev (fun m => arm_slopes.l1 m l (encS s).2.2.2.2 l n (k : Int) (l.take k) ((l.take k).length : Int) (i : Int) (encS s).1 (encS s).2.1 (encS s).2.2.1 (encS s).2.2.2.1 b.f0 b.f1 b.f2) r := by
  intro d
  induction d with
  | zero =>
    intro i s hd hi hs hr
    have e : i = (l.take k).length := by omega
    subst e
    rw [List.drop_length] at hr
    simp only [List.foldl_nil] at hr
    refine Ev.step (f := fun m => arm_slopes.l0 m l (encS s).2.2.2.2 l n ((k + 1 : Nat) : Int) (encS s).1 (encS s).2.1 (encS s).2.2.1 (encS s).2.2.2.1) (fun m => ?_) (hr hs)
    rw [arm_slopes.l1, if_neg (by omega), w64 (by omega) (by omega)]
    rfl
  | succ d ih =>
    intro i s hd hi hs hr
    have hlt : i < (l.take k).length := by omega
    have hm : rd_T73 (l.take k) (i : Int) ∈ l.take k := by rw [rd_nat _ _ hlt]; exact List.getElem_mem hlt
    obtain ⟨ha, hab⟩ := ho _ hm
    rw [drop_rd _ i hlt, List.foldl_cons] at hr
    exact inner_step l n k i b s hs hlt hk hb ha hab (ih (i + 1) _ (by omega) (by omega) (step_ok hs ha hb hab) hr)

/-- The fold over all pairs of the first k windows. -/
def allS (l : List S73) : Nat → St
  | 0 => none
  | k + 1 => (l.take k).foldl (fun s a => stepS s a (rd_T73 l (k : Int))) (allS l k)

theorem take_before {l : List S73} (h : Okl l) {k : Nat} (hk : k < l.length) : ∀ a ∈ l.take k, inB a ∧ a.f0 < (rd_T73 l (k : Int)).f0 := by
  intro a ha
  refine ⟨h.bnd a (List.mem_of_mem_take ha), ?_⟩
  have h2 := h.asc
  rw [← List.take_append_drop k l, List.pairwise_append] at h2
  refine h2.2.2 a ha _ ?_
  rw [drop_rd l k hk]
  exact List.mem_cons_self
theorem rd_mem {l : List S73} {k : Nat} (hk : k < l.length) : rd_T73 l (k : Int) ∈ l := by rw [rd_nat _ _ hk]; exact List.getElem_mem hk
theorem fold_ok {b : S73} (hb : inB b) : ∀ (ws : List S73) (s : St), (∀ a ∈ ws, inB a ∧ a.f0 < b.f0) → okS s → okS (ws.foldl (fun s a => stepS s a b) s)
  | [], s, _, hs => hs
  | a :: ws, s, h, hs => by
    rw [List.foldl_cons]
    have ha := h a List.mem_cons_self
    exact fold_ok hb ws _ (fun x hx => h x (List.mem_cons_of_mem _ hx)) (step_ok hs ha.1 hb ha.2)
theorem allS_ok {l : List S73} (h : Okl l) : ∀ k, k ≤ l.length → okS (allS l k)
  | 0, _ => trivial
  | k + 1, hk => fold_ok (h.bnd _ (rd_mem (show k < l.length by omega))) _ _ (take_before h (show k < l.length by omega)) (allS_ok h k (by omega))

theorem outer_fold {l : List S73} (h : Okl l) (hl : l.length ≤ 4611686018427387904) : ∀ (d k : Nat), l.length - k = d → k ≤ l.length →
    Ev (fun m => arm_slopes.l0 m l (encS (allS l k)).2.2.2.2 l l.length (k : Int) (encS (allS l k)).1 (encS (allS l k)).2.1 (encS (allS l k)).2.2.1 (encS (allS l k)).2.2.2.1) (encS (allS l l.length)) := by
  intro d
  induction d with
  | zero =>
    intro k hd hk
    obtain rfl : k = l.length := by omega
    refine ev_some _ fun m => ?_
    rw [arm_slopes.l0, if_neg (by omega)]
  | succ d ih =>
    intro k hd hk
    have hlt : k < l.length := by omega
    have hb := h.bnd _ (rd_mem hlt)
    have ho := take_before h hlt
    have e := inner_fold l l.length k (rd_T73 l (k : Int)) (by omega) hb ho ((l.take k).length - 0) 0 (allS l k) rfl (by omega) (allS_ok h k hk) (fun _ => ih (k + 1) (by omega) (by omega))
    refine Ev.step (fun m => ?_) e
    rw [arm_slopes.l0, if_pos (by omega), if_pos (by omega), if_pos (by omega), if_pos (by omega)]
    simp only [Option.bind_some, Int.toNat_natCast]
    rfl
theorem slopes_ev {l : List S73} (h : Okl l) (hl : l.length ≤ 4611686018427387904) : Ev (fun m => arm_slopes.f m l) (encS (allS l l.length)) := outer_fold h hl l.length 0 (by omega) (by omega)
end Go.Proofs.Ytiapmkndgalgnaa.G
