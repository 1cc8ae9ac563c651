/- Some line goes through windows exactly if the slopes that each two of them set leave room; the printed 'can' tells that. Plain Lean. -/
import Derived.Test.YtiapmkndgalgnaaPSlopes
import Derived.Test.YtiapmkndgalgnaaGF58
namespace Go.Proofs.Ytiapmkndgalgnaa.G
open Go.RowKit Go.Proofs.YtiapmkndgalgnaaW.PrintWords Go.Proofs.YtiapmkndgalgnaaW.PrintLast
open Rat (divInt)

/-- A line (slope m, height c at 0) goes through a window. -/
def thr (m c : Rat) (w : S73) : Prop := (w.f1 : Rat) ≤ m * w.f0 + c ∧ m * w.f0 + c ≤ w.f2
/-- Some line goes through all windows. -/
def Feas (l : List S73) : Prop := ∃ m c : Rat, ∀ w ∈ l, thr m c w
theorem Feas.mono {l l' : List S73} (h : Feas l) (s : ∀ w ∈ l', w ∈ l) : Feas l' := by
  obtain ⟨m, c, h⟩ := h
  exact ⟨m, c, fun w hw => h w (s w hw)⟩

theorem cast_pos {a b : S73} (h : a.f0 < b.f0) : (0 : Rat) < ((b.f0 - a.f0 : Int) : Rat) := by
  have : ((0 : Int) : Rat) < ((b.f0 - a.f0 : Int) : Rat) := Rat.intCast_lt_intCast.2 (by omega)
  simpa using this
theorem lo_le {a b : S73} (h : a.f0 < b.f0) (m : Rat) : loS a b ≤ m ↔ (b.f1 : Rat) - a.f2 ≤ m * b.f0 - m * a.f0 := by
  have hp := cast_pos h
  rw [← Rat.not_lt, ← Rat.not_lt]
  unfold loS
  rw [Rat.divInt_eq_div, Rat.lt_div_iff hp]
  have e : m * ((b.f0 - a.f0 : Int) : Rat) = m * b.f0 - m * a.f0 := by simp only [Rat.intCast_sub]; grind
  rw [e]
  simp only [Rat.intCast_sub]
theorem le_hi {a b : S73} (h : a.f0 < b.f0) (m : Rat) : m ≤ hiS a b ↔ m * b.f0 - m * a.f0 ≤ (b.f2 : Rat) - a.f1 := by
  have hp := cast_pos h
  rw [← Rat.not_lt, ← Rat.not_lt]
  unfold hiS
  rw [Rat.divInt_eq_div, Rat.div_lt_iff hp]
  have e : m * ((b.f0 - a.f0 : Int) : Rat) = m * b.f0 - m * a.f0 := by simp only [Rat.intCast_sub]; grind
  rw [e]
  simp only [Rat.intCast_sub]

/-- What the fold has found over some pairs. -/
def Ext (s : St) (Q : S73 → S73 → Prop) : Prop :=
  match s with
  | none => ∀ a b, ¬ Q a b
  | some (p, q) => (∀ a b, Q a b → loS a b ≤ p ∧ q ≤ hiS a b) ∧ (∃ a b, Q a b ∧ loS a b = p) ∧ (∃ a b, Q a b ∧ hiS a b = q)
theorem Ext.step {s : St} {Q : S73 → S73 → Prop} (h : Ext s Q) (a b : S73) : Ext (stepS s a b) (fun x y => Q x y ∨ (x = a ∧ y = b)) := by
  cases s with
  | none =>
    refine ⟨?_, ⟨a, b, .inr ⟨rfl, rfl⟩, rfl⟩, ⟨a, b, .inr ⟨rfl, rfl⟩, rfl⟩⟩
    rintro x y (hq | ⟨rfl, rfl⟩)
    · exact absurd hq (h x y)
    · exact ⟨by grind, by grind⟩
  | some z =>
    obtain ⟨p, q⟩ := z
    obtain ⟨h1, ⟨a1, b1, q1, e1⟩, ⟨a2, b2, q2, e2⟩⟩ := h
    refine ⟨?_, ?_, ?_⟩
    · rintro x y (hq | ⟨rfl, rfl⟩)
      · have := h1 x y hq
        constructor <;> split <;> grind
      · constructor <;> split <;> grind
    · by_cases c : p < loS a b
      · exact ⟨a, b, .inr ⟨rfl, rfl⟩, by rw [if_pos c]⟩
      · exact ⟨a1, b1, .inl q1, by rw [if_neg c]; exact e1⟩
    · by_cases c : hiS a b < q
      · exact ⟨a, b, .inr ⟨rfl, rfl⟩, by rw [if_pos c]⟩
      · exact ⟨a2, b2, .inl q2, by rw [if_neg c]; exact e2⟩
theorem Ext.congr {s : St} {Q Q' : S73 → S73 → Prop} (h : Ext s Q) (e : ∀ a b, Q a b ↔ Q' a b) : Ext s Q' := by
  have : Q = Q' := by funext a b; exact propext (e a b)
  rwa [← this]
theorem Ext.fold (b : S73) : ∀ (ws : List S73) (s : St) (Q : S73 → S73 → Prop), Ext s Q → Ext (ws.foldl (fun s a => stepS s a b) s) (fun x y => Q x y ∨ (x ∈ ws ∧ y = b))
  | [], s, Q, h => h.congr (by simp)
  | a :: ws, s, Q, h => by
    rw [List.foldl_cons]
    refine (Ext.fold b ws _ _ (h.step a b)).congr fun x y => ?_
    simp only [List.mem_cons]
    constructor
    · rintro ((h | ⟨rfl, rfl⟩) | ⟨h, rfl⟩)
      · exact .inl h
      · exact .inr ⟨.inl rfl, rfl⟩
      · exact .inr ⟨.inr h, rfl⟩
    · rintro (h | ⟨rfl | h, rfl⟩)
      · exact .inl (.inl h)
      · exact .inl (.inr ⟨rfl, rfl⟩)
      · exact .inr ⟨h, rfl⟩
theorem allS_ext (l : List S73) : ∀ k, Ext (allS l k) (fun x y => ∃ j, j < k ∧ y = rd_T73 l (j : Int) ∧ x ∈ l.take j)
  | 0 => by intro a b ⟨j, hj, _⟩; omega
  | k + 1 => by
    refine (Ext.fold _ _ _ _ (allS_ext l k)).congr fun x y => ?_
    constructor
    · rintro (⟨j, hj, h1, h2⟩ | ⟨h1, rfl⟩)
      · exact ⟨j, by omega, h1, h2⟩
      · exact ⟨k, by omega, rfl, h1⟩
    · rintro ⟨j, hj, h1, h2⟩
      by_cases e : j = k
      · subst e; exact .inr ⟨h2, h1⟩
      · exact .inl ⟨j, by omega, h1, h2⟩

theorem before_iff {l : List S73} (h : Okl l) (x y : S73) : (∃ j, j < l.length ∧ y = rd_T73 l (j : Int) ∧ x ∈ l.take j) ↔ x ∈ l ∧ y ∈ l ∧ x.f0 < y.f0 := by
  constructor
  · rintro ⟨j, hj, rfl, hx⟩
    exact ⟨List.mem_of_mem_take hx, rd_mem hj, (take_before h hj x hx).2⟩
  · rintro ⟨hx, hy, hlt⟩
    obtain ⟨j, hj, rfl⟩ := List.getElem_of_mem hy
    obtain ⟨i, hi, rfl⟩ := List.getElem_of_mem hx
    refine ⟨j, hj, (rd_nat l j hj).symm, ?_⟩
    have hij : i < j := by
      have hp := List.pairwise_iff_getElem.1 h.asc
      rcases Nat.lt_trichotomy i j with c | c | c
      · exact c
      · subst c; omega
      · have := hp j i hj hi c; omega
    rw [List.mem_take_iff_getElem]
    exact ⟨i, by omega, rfl⟩
/-- What the fold over all pairs has found. -/
theorem all_ext {l : List S73} (h : Okl l) : Ext (allS l l.length) (fun x y => x ∈ l ∧ y ∈ l ∧ x.f0 < y.f0) := (allS_ext l l.length).congr (before_iff h)

theorem list_max (f : S73 → Rat) : ∀ (l : List S73), l ≠ [] → ∃ w ∈ l, ∀ v ∈ l, f v ≤ f w
  | [], h => absurd rfl h
  | [w], _ => ⟨w, by simp, by intro v hv; simp at hv; subst hv; grind⟩
  | w :: x :: ws, _ => by
    obtain ⟨u, hu, hm⟩ := list_max f (x :: ws) (by simp)
    by_cases c : f u ≤ f w
    · refine ⟨w, List.mem_cons_self, fun v hv => ?_⟩
      rcases List.mem_cons.1 hv with rfl | hv
      · grind
      · have := hm v hv; grind
    · refine ⟨u, List.mem_cons_of_mem _ hu, fun v hv => ?_⟩
      rcases List.mem_cons.1 hv with rfl | hv
      · grind
      · exact hm v hv

theorem feas_pairs {l : List S73} {m c : Rat} (h : ∀ w ∈ l, thr m c w) {a b : S73} (ha : a ∈ l) (hb : b ∈ l) (hab : a.f0 < b.f0) : loS a b ≤ m ∧ m ≤ hiS a b := by
  have h1 := h a ha
  have h2 := h b hb
  unfold thr at h1 h2
  rw [lo_le hab, le_hi hab]
  grind

theorem same_at {l : List S73} (h : Okl l) {a b : S73} (ha : a ∈ l) (hb : b ∈ l) (e : a.f0 = b.f0) : a = b := by
  obtain ⟨i, hi, rfl⟩ := List.getElem_of_mem ha
  obtain ⟨j, hj, rfl⟩ := List.getElem_of_mem hb
  have hp := List.pairwise_iff_getElem.1 h.asc
  rcases Nat.lt_trichotomy i j with c | c | c
  · have := hp i j hi hj c; omega
  · subst c; rfl
  · have := hp j i hj hi c; omega

theorem Okl.lt {l : List S73} (h : Okl l) {i j : Nat} (hij : i < j) (hj : j < l.length) : (rd_T73 l (i : Int)).f0 < (rd_T73 l (j : Int)).f0 := by
  rw [rd_nat l i (by omega), rd_nat l j hj]
  exact List.pairwise_iff_getElem.1 h.asc i j (by omega) hj hij

/-- With a slope that all pairs bear there is a line: as low as it can be. -/
theorem line_at {l : List S73} (h : Okl l) {m : Rat} (hm : ∀ a b, a ∈ l → b ∈ l → a.f0 < b.f0 → loS a b ≤ m ∧ m ≤ hiS a b) {u : S73} (hu : u ∈ l) (hmax : ∀ v ∈ l, (v.f1 : Rat) - m * v.f0 ≤ (u.f1 : Rat) - m * u.f0) :
    ∀ w ∈ l, thr m ((u.f1 : Rat) - m * u.f0) w := by
  intro w hw
  have h1 := hmax w hw
  refine ⟨by grind, ?_⟩
  rcases Int.lt_trichotomy u.f0 w.f0 with c | c | c
  · have := (hm u w hu hw c).2
    rw [le_hi c] at this
    grind
  · have e := same_at h hu hw c
    subst e
    have : (u.f1 : Rat) ≤ u.f2 := Rat.intCast_le_intCast.2 (h.bnd u hu).2.2.2.1
    grind
  · have := (hm w u hw hu c).1
    rw [lo_le c] at this
    grind

theorem feas_iff {l : List S73} (h : Okl l) : Feas l ↔ match allS l l.length with | none => True | some (p, q) => ¬ q < p := by
  have hE := all_ext h
  generalize allS l l.length = s at hE
  cases s with
  | none =>
    simp only [iff_true]
    by_cases hl : l = []
    · subst hl; exact ⟨0, 0, by simp⟩
    · obtain ⟨u, hu, hm⟩ := list_max (fun w => (w.f1 : Rat) - 0 * w.f0) l hl
      exact ⟨0, _, line_at h (m := 0) (fun a b ha hb hab => absurd ⟨ha, hb, hab⟩ (hE a b)) hu hm⟩
  | some z =>
    obtain ⟨p, q⟩ := z
    obtain ⟨h1, ⟨a1, b1, ⟨qa, qb, qab⟩, e1⟩, ⟨a2, b2, ⟨ra, rb, rab⟩, e2⟩⟩ := hE
    dsimp only
    constructor
    · rintro ⟨m, c, hm⟩
      have z1 := (feas_pairs hm qa qb qab).1
      have z2 := (feas_pairs hm ra rb rab).2
      grind
    · intro hpq
      have hne : l ≠ [] := by rintro rfl; simp at qa
      obtain ⟨u, hu, hm⟩ := list_max (fun w => (w.f1 : Rat) - p * w.f0) l hne
      refine ⟨p, _, line_at h (m := p) (fun a b ha hb hab => ?_) hu hm⟩
      have := h1 a b ⟨ha, hb, hab⟩
      exact ⟨this.1, by grind⟩

open Classical in
theorem can_ev {l : List S73} (h : Okl l) (hl : l.length ≤ 4611686018427387904) : Ev (fun m => arm_can.f m l) (decide (Feas l)) := by
  obtain ⟨K, hK⟩ := slopes_ev h hl
  refine ⟨K, fun k hk => ?_⟩
  have e := hK k hk
  dsimp only at e ⊢
  have hf := feas_iff h
  have hs := allS_ok h l.length (Nat.le_refl _)
  unfold arm_can.f
  rw [e]
  simp only [Option.bind_some]
  generalize allS l l.length = s at *
  cases s with
  | none =>
    simp only [encS, Bool.false_eq_true, if_false]
    rw [decide_eq_true (hf.2 trivial)]
  | some z =>
    obtain ⟨p, q⟩ := z
    simp only [encS, if_true]
    rw [small_less hs.2 hs.1]
    simp only [Option.bind_some]
    congr 1
    by_cases c : q < p
    · rw [decide_eq_true c, decide_eq_false (fun x => hf.1 x c)]; rfl
    · rw [decide_eq_false c, decide_eq_true (hf.2 c)]; rfl
end Go.Proofs.Ytiapmkndgalgnaa.G
