/- The plans with the fewest and the most lengths: both tell the same. Plain Lean. -/
import Derived.Test.YtiebfmenkpodeaaPBestB
import Derived.Test.YtiebfmenkpodeaaGF31
import Derived.Test.YtiebfmenkpodeaaGF32
import Derived.Test.YtiebfmenkpodeaaGF47
import Derived.Test.YtiebfmenkpodeaaGF48
namespace Go.Proofs.Ytiebfmenkpodeaa.G
set_option linter.unusedVariables false
set_option linter.unusedSimpArgs false
set_option linter.unusedSectionVars false
open Go.RowKit Go.Proofs.YtiebfmenkpodeaaW.PrintWords Go.Proofs.YtiebfmenkpodeaaW.PrintLast
section
variable {M : Nat → Nat → Bool} {ln : Nat → Nat → Int} {n : Nat} {C : Nat → Int} {X : Nat → Nat} {σ : Int} (hσ : σ = 1 ∨ σ = -1) (hn : n ≤ 30) (hn1 : 1 ≤ n) (h : Chp M (fun c _ => wrap64 (c + σ)) ln n C X)
include hσ hn hn1 h
/-- What the cost at i tells. -/
def Kp (M : Nat → Nat → Bool) (n : Nat) (C : Nat → Int) (σ : Int) (i : Nat) : Prop :=
  (C i = nv ∧ ∀ q, Lq M n q i = false) ∨ (C i ≠ nv ∧ ∃ q : Nat, q ≤ 30 ∧ C i = σ * q ∧ Lq M n q i = true ∧ ∀ q' : Nat, Lq M n q' i = true → σ * q ≤ σ * q')
theorem sig : ∀ (d i : Nat), i < n → n - 1 - i ≤ d → Kp M n C σ i ∧ (i + 1 < n → Bst M (fun c _ => wrap64 (c + σ)) ln C i n (C i, X i)) := by
  intro d
  have last : ∀ i, i + 1 = n → Kp M n C σ i := by
    intro i hi
    have c0 : C i = 0 := by
      have := h.1
      rwa [show n - 1 = i by omega] at this
    refine .inr ⟨by rw [c0]; decide, 0, by omega, by rw [c0]; simp, decide_eq_true hi, fun q' hq => ?_⟩
    have := Lq_len _ _ hq
    obtain rfl : q' = 0 := by omega
    exact Int.le_refl _
  induction d with
  | zero => exact fun i h1 h2 => ⟨last i (by omega), fun z => by omega⟩
  | succ d ih =>
    intro i h1 h2
    by_cases e : i + 1 = n
    · exact ⟨last i e, fun z => by omega⟩
    · have w : ∀ c : Int, -100 ≤ c → c ≤ 100 → wrap64 (c + σ) = c + σ := fun c h3 h4 => by rcases hσ with rfl | rfl <;> exact w64 (by omega) (by omega)
      have bd : ∀ j, i < j → j < n → C j ≠ nv → -30 ≤ C j ∧ C j ≤ 30 := by
        intro j h3 h4 h5
        rcases (ih j h4 (by omega)).1 with z | ⟨_, q, z1, z2, _⟩
        · exact absurd z.1 h5
        · rcases hσ with rfl | rfl <;> omega
      have hB : Bst M (fun c _ => wrap64 (c + σ)) ln C i n (C i, X i) := by
        rw [h.2 i (by omega)]
        refine bst_all M _ ln (fun j h3 h4 h5 h6 => ?_) (n - 1 - i) (i + 1) (nv, 0) (by omega) (by omega) (.inl ⟨rfl, fun j h3 h4 => by omega⟩)
        have := bd j h3 h4 h6
        rw [w _ (by omega) (by omega)]
        unfold nv
        rcases hσ with rfl | rfl <;> omega
      refine ⟨?_, fun _ => hB⟩
      have nq : Lq M n 0 i = false := decide_eq_false e
      rcases hB with ⟨z1, z2⟩ | ⟨y1, y2, y3, y4, y5, y6, y7, y8⟩
      · refine .inl ⟨z1, fun q => ?_⟩
        cases q with
        | zero => exact nq
        | succ q =>
          refine Bool.eq_false_iff.2 fun t => ?_
          obtain ⟨k, t1, t2, t3, t4⟩ := Lq_succ.1 t
          rcases (ih k t2 (by omega)).1 with z | z
          · rw [z.2 q] at t4; cases t4
          · exact z.1 (z2 k t1 t2 t3)
      · dsimp only at y1 y2 y3 y4 y5 y6 y7 y8
        rcases (ih (X i) y2.2 (by omega)).1 with z | ⟨_, q, q1, q2, q3, q4⟩
        · exact absurd z.1 y4
        · have bx := bd (X i) y2.1 y2.2 y4
          rw [w _ (by omega) (by omega)] at y5
          have lq : Lq M n (q + 1) i = true := Lq_succ.2 ⟨X i, y2.1, y2.2, y3, q3⟩
          have ll := Lq_len _ _ lq
          refine .inr ⟨y1, q + 1, by omega, ?_, lq, fun q' hq' => ?_⟩
          · rcases hσ with rfl | rfl <;> push_cast <;> omega
          · cases q' with
            | zero => rw [nq] at hq'; cases hq'
            | succ q' =>
              obtain ⟨k, t1, t2, t3, t4⟩ := Lq_succ.1 hq'
              rcases (ih k t2 (by omega)).1 with z | ⟨u0, qk, u1, u2, u3, u4⟩
              · rw [z.2 q'] at t4; cases t4
              · have m1 := u4 q' t4
                have bk := bd k t1 t2 u0
                have m2 := y7 k t1 t2 t3 u0
                rw [w _ (by omega) (by omega)] at m2
                rcases hσ with rfl | rfl <;> push_cast <;> omega
/-- How many lengths there are left at i. -/
def Qs (σ : Int) (C : Nat → Int) (i : Nat) : Nat := (σ * C i).toNat
theorem sig_q {i : Nat} (hi : i < n) (ha : C i ≠ nv) : C i = σ * (Qs σ C i : Int) ∧ Qs σ C i ≤ 30 ∧ Lq M n (Qs σ C i) i = true ∧ ∀ q' : Nat, Lq M n q' i = true → σ * (Qs σ C i : Int) ≤ σ * q' := by
  rcases (sig hσ hn hn1 h n i hi (by omega)).1 with z | ⟨_, q, q1, q2, q3, q4⟩
  · exact absurd z.1 ha
  · have e : Qs σ C i = q := by unfold Qs; rw [q2]; rcases hσ with rfl | rfl <;> omega
    rw [e]
    exact ⟨q2, q1, q3, q4⟩
theorem sig_next {i : Nat} (hi : i + 1 < n) (ha : C i ≠ nv) : i < X i ∧ X i < n ∧ C (X i) ≠ nv ∧ M i (X i) = true ∧ Qs σ C i = Qs σ C (X i) + 1 ∧ ∀ k, i < k → k < X i → M i k = true → Lq M n (Qs σ C i - 1) k = false := by
  have w : ∀ c : Int, -100 ≤ c → c ≤ 100 → wrap64 (c + σ) = c + σ := fun c h3 h4 => by rcases hσ with rfl | rfl <;> exact w64 (by omega) (by omega)
  rcases (sig hσ hn hn1 h n i (by omega) (by omega)).2 hi with z | ⟨y1, y2, y3, y4, y5, y6, y7, y8⟩
  · exact absurd z.1 ha
  · dsimp only at y1 y2 y3 y4 y5 y6 y7 y8
    obtain ⟨a1, a2, a3, a4⟩ := sig_q hσ hn hn1 h (i := i) (by omega) ha
    obtain ⟨b1, b2, b3, b4⟩ := sig_q hσ hn hn1 h y2.2 y4
    rw [w _ (by rcases hσ with rfl | rfl <;> omega) (by rcases hσ with rfl | rfl <;> omega)] at y5
    have qe : Qs σ C i = Qs σ C (X i) + 1 := by rcases hσ with rfl | rfl <;> omega
    refine ⟨y2.1, y2.2, y4, y3, qe, fun k h1 h2 h3 => Bool.eq_false_iff.2 fun t => ?_⟩
    have ck : C k ≠ nv := by
      rcases (sig hσ hn hn1 h n k (by omega) (by omega)).1 with z | z
      · rw [z.2 _] at t; cases t
      · exact z.1
    obtain ⟨c1, c2, c3, c4⟩ := sig_q hσ hn hn1 h (i := k) (by omega) ck
    have m := y8 k h1 h2 h3 ck
    rw [w _ (by rcases hσ with rfl | rfl <;> omega) (by rcases hσ with rfl | rfl <;> omega)] at m
    have m2 := c4 _ t
    rcases hσ with rfl | rfl <;> omega
end
theorem sig_with {l : List Int} {a b : Int} {C : Nat → Int} {X : Nat → Nat} {σ : Int} (hσ : σ = 1 ∨ σ = -1) (hn : l.length ≤ 30) (hn1 : 2 ≤ l.length) (h : Chp (mayB l a b) (fun c _ => wrap64 (c + σ)) (lnI l) l.length C X) (ha : C 0 ≠ nv) : Ev (fun k => dropperref04_with.f k l a b (Qs σ C 0 : Int)) ((0 : Int) :: pth X l.length l.length 0) := by
  obtain ⟨Y, hY, e⟩ := lengths_ev (l := l) (a := a) (b := b) hn hn1
  refine Ev.bind (g := fun k => dropperref04_lengths.f k l a b) (f := fun k t => dropperref04_with.l0 k l a b (Qs σ C 0 : Int) t [0] 0) e ?_
  exact with_loop (X := X) (Q := Qs σ C) (al := fun i => C i ≠ nv) hn hY (fun i hi hc => (sig_q hσ hn (by omega) h hi hc).2.2.1) (fun i hi hc => sig_next hσ hn (by omega) h hi hc) l.length 0 [0] (by omega) (by omega) ha (by simp)
theorem best_ev (l : List Int) (hl : l.length ≤ 50) (a b : Int) : ∃ R S : List Int × Int, R.1.length ≤ 50 ∧ S.1.length ≤ 50 ∧ Ev (fun k => pull_Fewest.f k l a b) R ∧ Ev (fun k => dropperref04_Fewest.f k l a b) R ∧ Ev (fun k => pull_Most.f k l a b) S ∧ Ev (fun k => dropperref04_Most.f k l a b) S := by
  obtain ⟨m, _, hv, hm⟩ := valid_more l hl
  obtain ⟨e1, e2⟩ := hv a b
  obtain ⟨v, ev⟩ : ∃ v, v = (m && (decide (1 ≤ a ∧ a ≤ b) && decide (b ≤ 100000))) := ⟨_, rfl⟩
  rw [← ev] at e1 e2
  obtain ⟨K1, s1⟩ := open_ev e1
  obtain ⟨K2, s2⟩ := e2
  cases v with
  | false =>
    refine ⟨([], 40), ([], 40), by simp, by simp, ⟨K1, fun k hk => ?_⟩, ⟨K2, fun k hk => ?_⟩, ⟨K1, fun k hk => ?_⟩, ⟨K2, fun k hk => ?_⟩⟩
    · have t : pull_open.f k l a b = some ([], 0, 0, 40) := s1 k hk
      dsimp only; unfold pull_Fewest.f; rw [t]; rfl
    · have t : dropperref04_Valid.f k l a b = some false := s2 k hk
      dsimp only; unfold dropperref04_Fewest.f; rw [t]; rfl
    · have t : pull_open.f k l a b = some ([], 0, 0, 40) := s1 k hk
      dsimp only; unfold pull_Most.f; rw [t]; rfl
    · have t : dropperref04_Valid.f k l a b = some false := s2 k hk
      dsimp only; unfold dropperref04_Most.f; rw [t]; rfl
  | true =>
    obtain ⟨h2, h30⟩ := hm (by have t := ev.symm; rw [Bool.and_eq_true] at t; exact t.1)
    obtain ⟨Y, hY, ⟨K3, s3⟩⟩ := lengths_ev (l := l) (a := a) (b := b) h30 h2
    have hY0 := hY.2 0 (by omega) (by omega)
    have hYl := hY.1
    have rl := hY0.1
    have fin : ∀ (C : Nat → Int) (X : Nat → Nat), ((if C 0 = nv then ([], 5) else ((0 : Int) :: pth X l.length l.length 0, 0)) : List Int × Int).1.length ≤ 50 := by
      intro C X
      have := pth_len (X := X) (n := l.length) l.length 0
      split
      · simp
      · dsimp only; rw [List.length_cons]; omega
    have P : ∀ (fn : Int → Int → Option Int) (σ : Int), σ = 1 ∨ σ = -1 → (∀ c d, fn c d = some (wrap64 (c + σ))) → ∃ C X, Chp (mayB l a b) (fun c _ => wrap64 (c + σ)) (lnI l) l.length C X ∧ ∃ K, ∀ k, K ≤ k → (pull_open.f k l a b).bind (fun bt101 => (if bt101.2.2.2 = 0 then ((pull_layout_cheapest.f k bt101.1 bt101.2.1 bt101.2.2.1 fn).bind fun bt106 => (some (bt106.1, bt106.2.1))) else (some (([] : List Int), bt101.2.2.2)))) = some (if C 0 = nv then ([], 5) else ((0 : Int) :: pth X l.length l.length 0, 0)) := by
      intro fn σ hσ hfn
      obtain ⟨C, X, h⟩ := chp_ex (mayB l a b) (fun c _ => wrap64 (c + σ)) (lnI l) (n := l.length) (by omega)
      obtain ⟨K, s⟩ := cheapest_ev (fn := fn) (g := fun c _ => wrap64 (c + σ)) hfn h h30 h2 (fun i hi hc => by
        obtain ⟨z1, z2, z3, _⟩ := sig_next hσ h30 (by omega) h hi hc
        exact ⟨z1, z2, z3⟩)
      refine ⟨C, X, h, K1 + K, fun k hk => ?_⟩
      have t : pull_open.f k l a b = some (l, a, b, 0) := s1 k (by omega)
      have t3 := s k (by omega)
      dsimp only at t3
      rw [t]
      simp only [Option.bind_some, if_true]
      rw [t3]
      unfold chR
      split <;> rfl
    obtain ⟨C, X, h, KP, sP⟩ := P pull_Fewest_1.f 1 (.inl rfl) (fun c d => rfl)
    obtain ⟨D, Z, g, KQ, sQ⟩ := P pull_Most_1.f (-1) (.inr rfl) (fun c d => by unfold pull_Most_1.f; rw [Int.sub_eq_add_neg])
    have F : Ev (fun k => dropperref04_Fewest.l0 k l a b (rd_L3 Y 0) 1) (if C 0 = nv then ([], 5) else ((0 : Int) :: pth X l.length l.length 0, 0)) := by
      by_cases c : C 0 = nv
      · rw [if_pos c]
        have all : ∀ q, Lq (mayB l a b) l.length q 0 = false := by
          rcases (sig (.inl rfl) h30 (by omega) h l.length 0 (by omega) (by omega)).1 with z | z
          · exact z.2
          · exact absurd c z.1
        have loop : ∀ (d q : Nat), q + d = l.length → Ev (fun k => dropperref04_Fewest.l0 k l a b (rd_L3 Y 0) (q : Int)) ([], 5) := by
          intro d
          induction d with
          | zero =>
            intro q hq
            refine ev_some _ fun k => ?_
            rw [dropperref04_Fewest.l0, if_neg (by omega)]
          | succ d ih =>
            intro q hq
            have rv := hY0.2 q (by omega)
            dsimp only at rv
            rw [all q] at rv
            have rv' : rdOf false (rd_L3 Y 0) (q : Int) = false := rv
            have rl' : (rd_L3 Y 0).length = l.length + 1 := rl
            refine Ev.step (fun k => ?_) (ih (q + 1) (by omega))
            rw [dropperref04_Fewest.l0, if_pos (by omega), if_pos (by omega), if_pos (by omega), rv', if_neg (by decide), wsucc q (by omega)]
        exact loop (l.length - 1) 1 (by omega)
      · rw [if_neg c]
        obtain ⟨q1, q2, q3, q4⟩ := sig_q (.inl rfl) h30 (by omega) h (i := 0) (by omega) c
        have ew := sig_with (.inl rfl) h30 h2 h c
        have ql := Lq_len _ _ q3
        generalize hQ : Qs 1 C 0 = Q at *
        have loop : ∀ (d q : Nat), q + d = Q → Ev (fun k => dropperref04_Fewest.l0 k l a b (rd_L3 Y 0) (q : Int)) ((0 : Int) :: pth X l.length l.length 0, 0) := by
          intro d
          induction d with
          | zero =>
            intro q hq
            obtain rfl : q = Q := by omega
            have rv := hY0.2 q (by omega)
            dsimp only at rv
            rw [q3] at rv
            have rv' : rdOf false (rd_L3 Y 0) (q : Int) = true := rv
            have rl' : (rd_L3 Y 0).length = l.length + 1 := rl
            refine Ev.step (f := fun k => (dropperref04_with.f k l a b (q : Int)).bind fun t107 => (some (t107, 0))) (fun k => ?_) (Ev.bind ew (Ev.now _))
            rw [dropperref04_Fewest.l0, if_pos (by omega), if_pos (by omega), if_pos (by omega), rv', if_pos rfl]
          | succ d ih =>
            intro q hq
            have fq : Lq (mayB l a b) l.length q 0 = false := Bool.eq_false_iff.2 fun t => by
              have := q4 q t
              omega
            have rv := hY0.2 q (by omega)
            dsimp only at rv
            rw [fq] at rv
            have rv' : rdOf false (rd_L3 Y 0) (q : Int) = false := rv
            have rl' : (rd_L3 Y 0).length = l.length + 1 := rl
            refine Ev.step (fun k => ?_) (ih (q + 1) (by omega))
            rw [dropperref04_Fewest.l0, if_pos (by omega), if_pos (by omega), if_pos (by omega), rv', if_neg (by decide), wsucc q (by omega)]
        have Q1 : 1 ≤ Q := by
          cases Q with
          | zero => have := of_decide_eq_true q3; omega
          | succ Q => omega
        exact loop (Q - 1) 1 (by omega)
    have G : Ev (fun k => dropperref04_Most.l0 k l a b (rd_L3 Y 0) (wrap64 ((l.length : Int) - 1))) (if D 0 = nv then ([], 5) else ((0 : Int) :: pth Z l.length l.length 0, 0)) := by
      rw [w64 (n := (l.length : Int) - 1) (by omega) (by omega), show (l.length : Int) - 1 = ((l.length - 1 : Nat) : Int) by omega]
      by_cases c : D 0 = nv
      · rw [if_pos c]
        have all : ∀ q, Lq (mayB l a b) l.length q 0 = false := by
          rcases (sig (.inr rfl) h30 (by omega) g l.length 0 (by omega) (by omega)).1 with z | z
          · exact z.2
          · exact absurd c z.1
        have loop : ∀ q : Nat, q < l.length → Ev (fun k => dropperref04_Most.l0 k l a b (rd_L3 Y 0) (q : Int)) ([], 5) := by
          intro q
          induction q with
          | zero =>
            intro hq
            refine ev_some _ fun k => ?_
            rw [dropperref04_Most.l0, if_neg (by omega)]
          | succ q ih =>
            intro hq
            have rv := hY0.2 (q + 1) (by omega)
            dsimp only at rv
            rw [all (q + 1)] at rv
            have rv' : rdOf false (rd_L3 Y 0) ((q + 1 : Nat) : Int) = false := rv
            have rl' : (rd_L3 Y 0).length = l.length + 1 := rl
            refine Ev.step (fun k => ?_) (ih (by omega))
            rw [dropperref04_Most.l0, if_pos (by omega), if_pos (by omega), if_pos (by omega), rv', if_neg (by decide), wpred q (by omega)]
        exact loop (l.length - 1) (by omega)
      · rw [if_neg c]
        obtain ⟨q1, q2, q3, q4⟩ := sig_q (.inr rfl) h30 (by omega) g (i := 0) (by omega) c
        have ew := sig_with (.inr rfl) h30 h2 g c
        have ql := Lq_len _ _ q3
        generalize hQ : Qs (-1) D 0 = Q at *
        have Q1 : 1 ≤ Q := by
          cases Q with
          | zero => have := of_decide_eq_true q3; omega
          | succ Q => omega
        have loop : ∀ (d q : Nat), Q + d = q → q < l.length → Ev (fun k => dropperref04_Most.l0 k l a b (rd_L3 Y 0) (q : Int)) ((0 : Int) :: pth Z l.length l.length 0, 0) := by
          intro d
          induction d with
          | zero =>
            intro q hq hql
            obtain rfl : q = Q := by omega
            have rv := hY0.2 q (by omega)
            dsimp only at rv
            rw [q3] at rv
            have rv' : rdOf false (rd_L3 Y 0) (q : Int) = true := rv
            have rl' : (rd_L3 Y 0).length = l.length + 1 := rl
            refine Ev.step (f := fun k => (dropperref04_with.f k l a b (q : Int)).bind fun t107 => (some (t107, 0))) (fun k => ?_) (Ev.bind ew (Ev.now _))
            rw [dropperref04_Most.l0, if_pos (by omega), if_pos (by omega), if_pos (by omega), rv', if_pos rfl]
          | succ d ih =>
            intro q hq hql
            obtain ⟨p, rfl⟩ : ∃ p, q = p + 1 := ⟨q - 1, by omega⟩
            have fq : Lq (mayB l a b) l.length (p + 1) 0 = false := Bool.eq_false_iff.2 fun t => by
              have := q4 (p + 1) t
              push_cast at this
              omega
            have rv := hY0.2 (p + 1) (by omega)
            dsimp only at rv
            rw [fq] at rv
            have rv' : rdOf false (rd_L3 Y 0) ((p + 1 : Nat) : Int) = false := rv
            have rl' : (rd_L3 Y 0).length = l.length + 1 := rl
            refine Ev.step (fun k => ?_) (ih p (by omega) (by omega))
            rw [dropperref04_Most.l0, if_pos (by omega), if_pos (by omega), if_pos (by omega), rv', if_neg (by decide), wpred p (by omega)]
        exact loop (l.length - 1 - Q) (l.length - 1) (by omega) (by omega)
    obtain ⟨KF, sF⟩ := F
    obtain ⟨KG, sG⟩ := G
    refine ⟨_, _, fin C X, fin D Z, ⟨KP, sP⟩, ⟨K2 + K3 + KF, fun k hk => ?_⟩, ⟨KQ, sQ⟩, ⟨K2 + K3 + KG, fun k hk => ?_⟩⟩
    · have t : dropperref04_Valid.f k l a b = some true := s2 k (by omega)
      have t3 := s3 k (by omega)
      have t4 := sF k (by omega)
      dsimp only at t3 t4 ⊢
      unfold dropperref04_Fewest.f
      rw [t]
      simp only [Option.bind_some, if_true]
      rw [t3]
      simp only [Option.bind_some]
      rw [if_pos (by omega)]
      exact t4
    · have t : dropperref04_Valid.f k l a b = some true := s2 k (by omega)
      have t3 := s3 k (by omega)
      have t4 := sG k (by omega)
      dsimp only at t3 t4 ⊢
      unfold dropperref04_Most.f
      rw [t]
      simp only [Option.bind_some, if_true]
      rw [t3]
      simp only [Option.bind_some]
      rw [if_pos (by omega)]
      exact t4
end Go.Proofs.Ytiebfmenkpodeaa.G
