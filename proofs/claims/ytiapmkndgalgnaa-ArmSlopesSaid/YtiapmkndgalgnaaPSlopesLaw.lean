/- The law ArmSlopes of the printed functions. Plain Lean. -/
import Derived.Test.YtiapmkndgalgnaaPLine
namespace Go.Proofs.Ytiapmkndgalgnaa.G
set_option linter.unusedVariables false
open Go.RowKit Go.Proofs.YtiapmkndgalgnaaW.PrintWords Go.Proofs.YtiapmkndgalgnaaW.PrintLast
open Rat (divInt)

/-- What a line that Line tells is good for. -/
structure GoodLine (l : List S73) (A B D : Int) : Prop where
  a : A.natAbs ≤ 100000
  b : -1000000000000 ≤ B ∧ B ≤ 100000000000
  d : 1 ≤ D ∧ D ≤ 100000
  on : ∀ w ∈ l, onL A B D w

theorem line_core {l : List S73} (h : Okl l) (hne : l ≠ []) (hl : l.length ≤ 4611686018427387904) {m : Rat} (hs : small m) (hm : ∀ a b, a ∈ l → b ∈ l → a.f0 < b.f0 → loS a b ≤ m ∧ m ≤ hiS a b) :
    ∃ B, Ev (fun k => arm_Line.j0 k l m.num m.den) (m.num, B, (m.den : Int), 0) ∧ GoodLine l m.num B m.den := by
  have hd := m.den_pos
  have hs2 := hs.2
  obtain ⟨B', e, g1, g2, g3, g4⟩ := line_loop h hl (N := m.num) (D := m.den) hs.1 (by omega) (by omega) l.length 0 (-1000000000000) (by omega) (by omega) (by omega) (by omega)
  rw [List.drop_zero] at g3 g4
  refine ⟨B', Ev.step (fun k => ?_) e, ⟨hs.1, ⟨g1, g2⟩, ⟨by omega, by omega⟩, ?_⟩⟩
  · rw [arm_Line.j0]; rfl
  · rcases g4 with g4 | ⟨u, hu, g4⟩
    · obtain ⟨u, hu⟩ := List.exists_mem_of_ne_nil l hne
      have := g3 u hu
      obtain ⟨b1, b2, b3, b4, b5⟩ := h.bnd u hu
      have hs1 := hs.1
      have m1 := mul_bd' (a := u.f1) (b := (m.den : Int)) (A := 1000) (B := 100000) (by omega) (by omega)
      have m2 := mul_bd' (a := m.num) (b := u.f0) (A := 100000) (B := 100000) (by omega) (by omega)
      omega
    · exact line_on h hm hu g4 g3

open Classical in
theorem arm_Line_ev (l : List S73) (hl : l.length ≤ 4611686018427387904) :
    ∃ A B D e, Ev (fun k => arm_Line.f k l) (A, B, D, e) ∧ (okV l = false → (A, B, D, e) = (0, 0, 0, 20)) ∧
      (okV l = true → (¬ Feas l ∧ (A, B, D, e) = (0, 0, 0, 5)) ∨ (Feas l ∧ e = 0 ∧ GoodLine l A B D)) := by
  have v1 := arm_valid_ev l hl
  cases hv : okV l with
  | false =>
    rw [hv] at v1
    exact ⟨0, 0, 0, 20, Ev.bind v1 (Ev.now _), fun _ => rfl, by simp⟩
  | true =>
    rw [hv] at v1
    obtain ⟨h, h1, h30⟩ := okV_okl hv
    have hne : l ≠ [] := by rintro rfl; simp at h1
    have c1 := can_ev h hl
    have s1 := slopes_ev h hl
    have hF := feas_iff h
    have hE := all_ext h
    have hS := allS_ok h l.length (Nat.le_refl _)
    by_cases hf : Feas l
    · rw [decide_eq_true hf] at c1
      have key : ∃ B m, Ev (fun k => if (encS (allS l l.length)).2.2.2.2 = true then arm_Line.j0 k l (encS (allS l l.length)).1 (encS (allS l l.length)).2.1 else arm_Line.j0 k l 0 1) (Rat.num m, B, (Rat.den m : Int), 0) ∧ GoodLine l m.num B m.den := by
        have hF' := hF.1 hf
        generalize allS l l.length = s at *
        cases s with
        | none =>
          obtain ⟨B, e, g⟩ := line_core h hne hl (m := 0) ⟨by decide, by decide⟩ (fun a b ha hb hab => absurd ⟨ha, hb, hab⟩ (hE a b))
          exact ⟨B, 0, by simpa [encS] using e, g⟩
        | some z =>
          obtain ⟨p, q⟩ := z
          obtain ⟨E1, _, _⟩ := hE
          obtain ⟨B, e, g⟩ := line_core h hne hl (m := p) hS.1 (fun a b ha hb hab => by
            have := E1 a b ⟨ha, hb, hab⟩
            dsimp only at hF'
            exact ⟨this.1, by grind⟩)
          exact ⟨B, p, by simpa [encS] using e, g⟩
      obtain ⟨B, m, e, g⟩ := key
      refine ⟨m.num, B, m.den, 0, Ev.bind v1 ?_, by simp, fun _ => .inr ⟨hf, rfl, g⟩⟩
      simp only [if_true]
      exact Ev.bind c1 (by simp only [if_true]; exact Ev.bind s1 e)
    · rw [decide_eq_false hf] at c1
      refine ⟨0, 0, 0, 5, Ev.bind v1 ?_, by simp, fun _ => .inl ⟨hf, rfl⟩⟩
      simp only [if_true]
      exact Ev.bind c1 (Ev.now _)

theorem isline_some {A B D : Int} (hA : A.natAbs ≤ 1000000) (hB : B.natAbs ≤ 1000000000000) (hD : 1 ≤ D) (hD2 : D ≤ 1000000) : dropperref03_IsLine.f A B D = some true := by
  unfold dropperref03_IsLine.f
  rw [if_pos (by omega), if_pos (by omega), if_pos (by omega), if_pos (by omega), if_pos (by omega), decide_eq_true hD2]

theorem ref_through_good {l : List S73} (hv : okV l = true) (hl : l.length ≤ 4611686018427387904) {A B D : Int} (g : GoodLine l A B D) : Ev (fun k => dropperref03_Through.f k l A B D) (true, 0) := by
  have v := ref_valid_ev l hl
  rw [hv] at v
  obtain ⟨ga, gb, gd, gon⟩ := g
  refine Ev.bind v ?_
  simp only [if_true]
  have e := ref_through_loop (okV_okl hv).1 hl (A := A) (B := B) (D := D) (by omega) (by omega) (by omega) (by omega) l.length 0 true (by omega) (by omega) ⟨fun _ => by rw [List.drop_zero]; exact gon, fun _ => rfl⟩
  refine Ev.congr (fun k => ?_) e
  rw [isline_some (by omega) (by omega) gd.1 (by omega)]
  rfl

theorem long_law {f : Nat → Option Bool} {g : Nat → Option Bool} (l : List S73) (h : ∀ k, f k = (dropperlaw03_Long.f l).bind fun t => if t = true then ((dropperlaw03_First.f k).bind fun t1 => some t1) else g k) (hg : l.length ≤ 4611686018427387904 → ∃ k, g k = some true) : ∃ k, f k = some true := by
  by_cases c : (l.length : Int) > 40
  · obtain ⟨K, hK⟩ := first_ev
    refine ⟨K, ?_⟩
    have := hK K (Nat.le_refl _)
    dsimp only at this
    rw [h]
    unfold dropperlaw03_Long.f
    rw [decide_eq_true c]
    simp [this]
  · obtain ⟨k, hk⟩ := hg (by omega)
    refine ⟨k, ?_⟩
    rw [h]
    unfold dropperlaw03_Long.f
    rw [decide_eq_false c]
    simp [hk]

open Classical in
theorem ArmSlopes_pure (l : List S73) (hx : ∀ x ∈ l, (Lit.int .i64 x.f0).wf = true ∧ (Lit.int .i64 x.f1).wf = true ∧ (Lit.int .i64 x.f2).wf = true) : ∃ k, dropperlaw03_ArmSlopes.f k l = some true := by
  refine long_law l (fun k => rfl) fun hl => ?_
  obtain ⟨K1, s1⟩ := arm_Slopes_ev l hl
  obtain ⟨K2, s2⟩ := ref_Slopes_ev l hl
  obtain ⟨A, B, D, e, ⟨K3, n1⟩, nF, nT⟩ := arm_Line_ev l hl
  obtain ⟨K4, v1⟩ := arm_valid_ev l hl
  obtain ⟨K5, v2⟩ := ref_valid_ev l hl
  obtain ⟨K6, f1⟩ := first_ev
  -- the part behind the comparisons
  have tail : ∃ K, ∀ k, K ≤ k → dropperlaw03_ArmSlopes.j0 (k + 1) l e false A B D = some true := by
    cases hv : okV l with
    | false =>
      have z := nF hv
      simp only [Prod.mk.injEq] at z
      obtain ⟨rfl, rfl, rfl, rfl⟩ := z
      refine ⟨K5 + K6, fun k hk => ?_⟩
      have b1 := v2 k (by omega)
      have b2 := f1 k (by omega)
      rw [hv] at b1
      dsimp only at b1 b2
      rw [dropperlaw03_ArmSlopes.j0]
      simp [b1, b2]
    | true =>
      obtain ⟨K7, so⟩ := some_ev (okV_okl hv).1 hl
      rcases nT hv with ⟨hf, z⟩ | ⟨hf, rfl, g⟩
      · simp only [Prod.mk.injEq] at z
        obtain ⟨rfl, rfl, rfl, rfl⟩ := z
        refine ⟨K5 + K6 + K7, fun k hk => ?_⟩
        have b1 := v2 k (by omega)
        have b2 := f1 k (by omega)
        have b3 := so k (by omega)
        rw [hv] at b1
        dsimp only at b1 b2 b3
        rw [decide_eq_false hf] at b3
        rw [dropperlaw03_ArmSlopes.j0]
        simp [b1, b2, b3]
      · obtain ⟨K8, th⟩ := ref_through_good hv hl g
        refine ⟨K5 + K6 + K7 + K8, fun k hk => ?_⟩
        have b1 := v2 k (by omega)
        have b2 := f1 k (by omega)
        have b3 := so k (by omega)
        have b4 := th k (by omega)
        rw [hv] at b1
        dsimp only at b1 b2 b3 b4
        rw [decide_eq_true hf] at b3
        rw [dropperlaw03_ArmSlopes.j0]
        simp [b1, b2, b3, b4]
  obtain ⟨K9, t⟩ := tail
  refine ⟨K1 + K2 + K3 + K4 + K5 + K9 + 1, ?_⟩
  generalize hk : K1 + K2 + K3 + K4 + K5 + K9 = k
  have a1 := s1 (k + 1) (by omega)
  have a2 := s2 (k + 1) (by omega)
  have a3 := n1 (k + 1) (by omega)
  have a4 := v1 (k + 1) (by omega)
  have a5 := v2 (k + 1) (by omega)
  have a6 := t k (by omega)
  dsimp only at a1 a2 a3 a4 a5
  generalize (if okV l = true then encT (finS l) else (0, 0, 0, 0, 20)) = x at *
  simp [a1, a2, a3, a4, a5, a6]
end Go.Proofs.Ytiapmkndgalgnaa.G
