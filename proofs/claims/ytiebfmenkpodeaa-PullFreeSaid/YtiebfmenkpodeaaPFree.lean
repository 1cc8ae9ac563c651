/- The law PullFree of the printed functions. Plain Lean. -/
import Derived.Test.YtiebfmenkpodeaaPStack
import Derived.Test.YtiebfmenkpodeaaGF9
namespace Go.Proofs.Ytiebfmenkpodeaa.G
set_option linter.unusedVariables false
set_option linter.unusedSimpArgs false
set_option linter.unusedSectionVars false
open Go.RowKit Go.Proofs.YtiebfmenkpodeaaW.PrintWords Go.Proofs.YtiebfmenkpodeaaW.PrintLast
theorem gcd_loop (n : Int) : ∀ (d : Nat) (a b : Int), 0 ≤ a → 0 ≤ b → (a ≠ 0 ∨ b ≠ 0) → b.toNat ≤ d → ∃ g : Int, 0 < g ∧ g ∣ a ∧ g ∣ b ∧ Ev (fun k => pull_Height.l0 k n a b) (wrap64 (Int.tdiv n g), wrap64 (Int.tdiv (1000 : Int) g), 0) := by
  intro d
  have done : ∀ a : Int, 0 ≤ a → a ≠ 0 → ∃ g : Int, 0 < g ∧ g ∣ a ∧ g ∣ 0 ∧ Ev (fun k => pull_Height.l0 k n a 0) (wrap64 (Int.tdiv n g), wrap64 (Int.tdiv (1000 : Int) g), 0) := by
    intro a ha h
    refine ⟨a, by omega, ⟨1, by omega⟩, ⟨0, by omega⟩, ev_some _ fun k => ?_⟩
    rw [pull_Height.l0, if_pos rfl, if_neg h]
  induction d with
  | zero =>
    intro a b ha hb h hd
    obtain rfl : b = 0 := by omega
    exact done a ha (by omega)
  | succ d ih =>
    intro a b ha hb h hd
    by_cases e : b = 0
    · subst e; exact done a ha (by omega)
    · have em : a.tmod b = a % b := Int.tmod_eq_emod_of_nonneg ha
      have hm : 0 ≤ a.tmod b := Int.tmod_nonneg _ ha
      have hl : a.tmod b < b := Int.tmod_lt_of_pos _ (by omega)
      obtain ⟨g, h0, ⟨u, hu⟩, ⟨v, hv⟩, e1⟩ := ih b (a.tmod b) hb hm (.inl e) (by omega)
      rw [em] at hv
      have ed := Int.emod_def a b
      refine ⟨g, h0, ⟨v + u * (a / b), ?_⟩, ⟨u, hu⟩, Ev.step (fun k => ?_) e1⟩
      · rw [Int.mul_add, ← hv, ← Int.mul_assoc, ← hu]; omega
      · rw [pull_Height.l0, if_neg e]
/-- Height tells the height, reduced. -/
theorem height_is {h g b T t : Int} (c : okS h g b T) (ct : -60 ≤ t ∧ t ≤ 60) : ∃ N D : Int, (1 ≤ D ∧ D ≤ 1000) ∧ N * 1000 = hgt h g b t * D ∧ (-30000000 ≤ N ∧ N ≤ 30000000) ∧ Ev (fun k => pull_Height.f k h g b T t) (N, D, 0) := by
  obtain ⟨c1, c2, c3, c4⟩ := c
  obtain ⟨e1, e2⟩ := height_some (h := h) (g := g) (b := b) (t := t) T (by omega) c2 (by omega) (by omega)
  obtain ⟨_, b1, b2⟩ := heat_bd (h := h) (g := g) (t := t) (by omega) c2 (by omega)
  have hb : -30000000 ≤ hgt h g b t ∧ hgt h g b t ≤ 30000000 := by unfold hgt; omega
  generalize hH : hgt h g b t = H at *
  have ew : mx H (wrap64 (-H)) = max H (-H) := by rw [w64 (by omega) (by omega), mx_eq]
  obtain ⟨q, q0, ⟨u, hu⟩, ⟨v, hv⟩, ev⟩ := gcd_loop H 1000 (max H (-H)) 1000 (by omega) (by omega) (.inr (by omega)) (by omega)
  have key : ∀ z : Int, H = q * z → (1 ≤ v ∧ v ≤ 1000) ∧ z * 1000 = H * v ∧ (-30000000 ≤ z ∧ z ≤ 30000000) ∧ wrap64 (Int.tdiv H q) = z ∧ wrap64 (Int.tdiv (1000 : Int) q) = v := by
    intro z hz
    have v1 : 1 ≤ v := by
      by_cases c : v ≤ 0
      · have := Int.mul_nonpos_of_nonneg_of_nonpos (show 0 ≤ q by omega) c
        omega
      · omega
    have v2 : v ≤ 1000 := by
      have := Int.mul_le_mul_of_nonneg_right (show 1 ≤ q by omega) (show 0 ≤ v by omega)
      omega
    have zb : z.natAbs ≤ H.natAbs := by
      rw [hz, Int.natAbs_mul]
      exact Nat.le_mul_of_pos_left _ (by omega)
    refine ⟨⟨v1, v2⟩, by rw [hz, hv, Int.mul_assoc, Int.mul_left_comm z q v], by omega, ?_, ?_⟩
    · rw [hz, Int.mul_tdiv_cancel_left _ (by omega), w64 (by omega) (by omega)]
    · have : Int.tdiv (1000 : Int) q = v := by rw [hv, Int.mul_tdiv_cancel_left _ (by omega)]
      rw [this, w64 (by omega) (by omega)]
  have fin : ∀ z : Int, H = q * z → ∃ N D : Int, (1 ≤ D ∧ D ≤ 1000) ∧ N * 1000 = H * D ∧ (-30000000 ≤ N ∧ N ≤ 30000000) ∧ Ev (fun k => pull_Height.f k h g b T t) (N, D, 0) := by
    intro z hz
    obtain ⟨k1, k2, k3, k4, k5⟩ := key z hz
    rw [k4, k5] at ev
    refine ⟨z, v, k1, k2, k3, Ev.congr (fun k => ?_) ev⟩
    unfold pull_Height.f
    rw [valid_some, decide_eq_true ⟨c1, c2, c3, c4⟩, within_some, decide_eq_true ct, e1]
    simp only [Option.bind_some, if_true, ew]
  by_cases s : 0 ≤ H
  · exact fin u (by omega)
  · exact fin (-u) (by rw [Int.mul_neg]; omega)
theorem fr0 {h g b T : Int} (c : okS h g b T) : fr h g b T 0 := by
  obtain ⟨c1, c2, c3, c4⟩ := c
  unfold fr hgt
  rw [Int.mul_zero]
  omega
theorem low_is {h g b T : Int} : ∀ (d : Nat) (x : Int), (x + 60).toNat = d → -60 ≤ x → x ≤ 0 → fr h g b T x → -60 ≤ lowF h g b T d x ∧ lowF h g b T d x ≤ x ∧ fr h g b T (lowF h g b T d x) ∧ (lowF h g b T d x = -60 ∨ ¬ fr h g b T (lowF h g b T d x - 1))
  | 0, x, hd, h1, h2, hf => by rw [lowF]; exact ⟨h1, Int.le_refl _, hf, .inl (by omega)⟩
  | d + 1, x, hd, h1, h2, hf => by
    rw [lowF]
    by_cases c : x > -60 ∧ fr h g b T (x - 1)
    · rw [if_pos c]
      have := low_is d (x - 1) (by omega) (by omega) (by omega) c.2
      exact ⟨this.1, by omega, this.2.2⟩
    · rw [if_neg c]
      refine ⟨h1, Int.le_refl _, hf, ?_⟩
      by_cases q : fr h g b T (x - 1)
      · by_cases q2 : x > -60
        · exact absurd ⟨q2, q⟩ c
        · exact .inl (by omega)
      · exact .inr q
theorem high_is {h g b T : Int} : ∀ (d : Nat) (x : Int), (60 - x).toNat = d → 0 ≤ x → x ≤ 60 → fr h g b T x → x ≤ highF h g b T d x ∧ highF h g b T d x ≤ 60 ∧ fr h g b T (highF h g b T d x) ∧ (highF h g b T d x = 60 ∨ ¬ fr h g b T (highF h g b T d x + 1))
  | 0, x, hd, h1, h2, hf => by rw [highF]; exact ⟨Int.le_refl _, h2, hf, .inl (by omega)⟩
  | d + 1, x, hd, h1, h2, hf => by
    rw [highF]
    by_cases c : x < 60 ∧ fr h g b T (x + 1)
    · rw [if_pos c]
      have := high_is d (x + 1) (by omega) (by omega) (by omega) c.2
      exact ⟨by omega, this.2⟩
    · rw [if_neg c]
      refine ⟨Int.le_refl _, h2, hf, ?_⟩
      by_cases q : fr h g b T (x + 1)
      · by_cases q2 : x < 60
        · exact absurd ⟨q2, q⟩ c
        · exact .inl (by omega)
      · exact .inr q
/-- Free tells at which temperatures a stack is free. -/
theorem free_is {h g b T : Int} (c : okS h g b T) : ∃ lo hi : Int, (-60 ≤ lo ∧ lo ≤ 0) ∧ (0 ≤ hi ∧ hi ≤ 60) ∧ (∀ t, -60 ≤ t → t ≤ 60 → (fr h g b T t ↔ lo ≤ t ∧ t ≤ hi)) ∧ Ev (fun k => pull_Free.f k h g b T) (lo, hi, 0) := by
  have e := (free_ev h g b T).1
  unfold freeR at e
  rw [if_pos c] at e
  have f0 := fr0 c
  obtain ⟨l1, l2, l3, l4⟩ := low_is (h := h) (g := g) (b := b) (T := T) 60 0 (by omega) (by omega) (by omega) f0
  obtain ⟨u1, u2, u3, u4⟩ := high_is (h := h) (g := g) (b := b) (T := T) 60 0 (by omega) (by omega) (by omega) f0
  obtain ⟨c1, c2, c3, c4⟩ := c
  refine ⟨_, _, ⟨l1, l2⟩, ⟨u1, u2⟩, fun t h1 h2 => ⟨fun ft => ⟨?_, ?_⟩, fun z => (fr_all (by omega) (by omega) (by omega)).2 ⟨l3, u3⟩ t z.1 z.2⟩, e⟩
  · by_cases q : lowF h g b T 60 0 ≤ t
    · exact q
    · rcases l4 with z | z
      · omega
      · exact absurd ((fr_all (h := h) (g := g) (b := b) (T := T) (lo := t) (hi := 0) (by omega) (by omega) (by omega)).2 ⟨ft, f0⟩ _ (by omega) (by omega)) z
  · by_cases q : t ≤ highF h g b T 60 0
    · exact q
    · rcases u4 with z | z
      · omega
      · exact absurd ((fr_all (h := h) (g := g) (b := b) (T := T) (lo := 0) (hi := t) (by omega) (by omega) (by omega)).2 ⟨f0, ft⟩ _ (by omega) (by omega)) z
theorem lng_is {g b T lo hi : Int} : ∀ d : Nat, lngF g b T lo hi d = (0, 5) ∨ ∃ e : Int, (1 ≤ e ∧ e ≤ d) ∧ lngF g b T lo hi d = (e, 0) ∧ fr e g b T lo ∧ fr e g b T hi
  | 0 => .inl rfl
  | d + 1 => by
    rw [lngF]
    by_cases c : fr (d + 1 : Nat) g b T lo ∧ fr (d + 1 : Nat) g b T hi
    · rw [if_pos c]
      exact .inr ⟨_, by omega, rfl, c⟩
    · rw [if_neg c]
      rcases lng_is (g := g) (b := b) (T := T) (lo := lo) (hi := hi) d with z | ⟨e, z1, z2⟩
      · exact .inl z
      · exact .inr ⟨e, by omega, z2⟩
section
variable {h g b T : Int} (c : okS h g b T)
include c
theorem ask0 {lo hi : Int} (hlo : -60 ≤ lo) (hlh : lo ≤ hi) (hhi : hi ≤ 60) : askS h g b T lo hi = 0 := by
  unfold askS
  rw [if_pos c, if_pos ⟨⟨hlo, hlh⟩, hhi⟩]
theorem longest_is {lo hi : Int} (hlo : -60 ≤ lo) (hlh : lo ≤ hi) (hhi : hi ≤ 60) : Ev (fun k => pull_Longest.f k h g b T lo hi) (0, 5) ∨ ∃ e : Int, (1 ≤ e ∧ e ≤ 2000) ∧ fr e g b T lo ∧ fr e g b T hi ∧ Ev (fun k => pull_Longest.f k h g b T lo hi) (e, 0) := by
  have c' := c
  obtain ⟨c1, c2, c3, c4⟩ := c'
  have e1 := (asked_some h g b T lo hi).1
  rw [ask0 c hlo hlh hhi] at e1
  have i1 := (lng_loop (g := g) (b := b) (T := T) (lo := lo) (hi := hi) c2 (by omega) (by omega) hlo hlh hhi 2000 (by omega)).1
  have E : Ev (fun k => pull_Longest.f k h g b T lo hi) (lngF g b T lo hi 2000) := Ev.congr (fun k => by unfold pull_Longest.f; rw [e1]; rfl) i1
  rcases lng_is (g := g) (b := b) (T := T) (lo := lo) (hi := hi) 2000 with z | ⟨e, z1, z2, z3, z4⟩
  · rw [z] at E; exact .inl E
  · rw [z2] at E; exact .inr ⟨e, by omega, z3, z4, E⟩
theorem base_is {lo hi : Int} (hlo : -60 ≤ lo) (hlh : lo ≤ hi) (hhi : hi ≤ 60) : pull_Base.f h g b T lo hi = some (0, 5) ∨ ∃ e : Int, (0 ≤ e ∧ e ≤ T) ∧ fr h g e T lo ∧ fr h g e T hi ∧ pull_Base.f h g b T lo hi = some (e, 0) := by
  have c' := c
  obtain ⟨c1, c2, c3, c4⟩ := c'
  have e1 := (asked_some h g b T lo hi).1
  rw [ask0 c hlo hlh hhi] at e1
  have n0 : 0 ≤ ndB h g hi := by unfold ndB; omega
  obtain ⟨q1, q2, q3⟩ := heat_bd (h := h) (g := g) (t := hi) (by omega) c2 (by omega)
  have en : mx (wrap64 (Int.tdiv (wrap64 (wrap64 (wrap64 (wrap64 (wrap64 (17 * h) * g) * hi) + 1000) - 1)) 1000)) 0 = ndB h g hi := by
    rw [q1, w64 (n := 17 * h * g * hi + 1000) (by omega) (by omega), w64 (n := 17 * h * g * hi + 1000 - 1) (by omega) (by omega), tdiv_max (by omega) (by omega)]
    unfold ndB
    congr 2
    omega
  unfold pull_Base.f
  rw [e1]
  simp only [Option.bind_some, if_true, en]
  by_cases d1 : ndB h g hi > T
  · rw [if_pos d1]; exact .inl rfl
  · rw [if_neg d1, free_some (h := h) (g := g) (b := ndB h g hi) (T := T) (t := lo) (by omega) c2 (by omega) (by omega) (by omega), free_some (h := h) (g := g) (b := ndB h g hi) (T := T) (t := hi) (by omega) c2 (by omega) (by omega) (by omega)]
    by_cases f1 : fr h g (ndB h g hi) T lo
    · by_cases f2 : fr h g (ndB h g hi) T hi
      · exact .inr ⟨ndB h g hi, by omega, f1, f2, by simp [f1, f2]⟩
      · exact .inl (by simp [f1, f2])
    · exact .inl (by simp [f1])
theorem j4_ev {lo hi : Int} (hlo : -60 ≤ lo) (hlh : lo ≤ hi) (hhi : hi ≤ 60) : Ev (fun k => dropperlaw04_PullFree.j4 k lo hi h g b T) true := by
  obtain ⟨K0, s0⟩ := awake_ev
  rcases base_is c hlo hlh hhi with z | ⟨e, z1, z2, z3, z4⟩
  · refine ⟨K0 + 1, fun k hk => ?_⟩
    obtain ⟨q, rfl⟩ : ∃ q, k = q + 1 := ⟨k - 1, by omega⟩
    have a0 := s0 q (by omega)
    dsimp only at a0 ⊢
    rw [dropperlaw04_PullFree.j4, z]
    simp [a0]
  · obtain ⟨c1, c2, c3, c4⟩ := c
    obtain ⟨x, y, y1, y2, y3, ⟨K1, s1⟩⟩ := free_is (h := h) (g := g) (b := e) (T := T) ⟨c1, c2, z1, c4⟩
    refine ⟨K0 + K1 + 1, fun k hk => ?_⟩
    obtain ⟨q, rfl⟩ : ∃ q, k = q + 1 := ⟨k - 1, by omega⟩
    have a0 := s0 q (by omega)
    have a1 := s1 q (by omega)
    dsimp only at a0 a1 ⊢
    have f1 := (y3 lo hlo (by omega)).1 z2
    have f2 := (y3 hi (by omega) hhi).1 z3
    rw [dropperlaw04_PullFree.j4, z4]
    simp only [Option.bind_some, if_true]
    rw [a1]
    simp only [Option.bind_some, if_true]
    rw [if_pos (by omega), if_pos (by omega), a0]
    rfl
theorem j3_ev {x1 u v : Int} (hu : 0 ≤ u ∧ u ≤ 255) (hv : 0 ≤ v ∧ v ≤ 255) : Ev (fun k => dropperlaw04_PullFree.j3 k false h g b T x1 u v) true := by
  have bd : ∀ z : Int, 0 ≤ z → z ≤ 255 → -60 ≤ wrap64 (Int.tmod (wrap64 z) 121 - 60) ∧ wrap64 (Int.tmod (wrap64 z) 121 - 60) ≤ 60 := by
    intro z h1 h2
    rw [w64 (n := z) (by omega) (by omega), Int.tmod_eq_emod_of_nonneg h1, w64 (by omega) (by omega)]
    omega
  have p := bd (mn u v) (by rw [mn_eq]; omega) (by rw [mn_eq]; omega)
  have q := bd (mx u v) (by rw [mx_eq]; omega) (by rw [mx_eq]; omega)
  obtain ⟨P, hP⟩ : ∃ P, P = wrap64 (Int.tmod (wrap64 (mn u v)) 121 - 60) := ⟨_, rfl⟩
  obtain ⟨Q, hQ⟩ : ∃ Q, Q = wrap64 (Int.tmod (wrap64 (mx u v)) 121 - 60) := ⟨_, rfl⟩
  rw [← hP] at p
  rw [← hQ] at q
  obtain ⟨lo, hlo⟩ : ∃ lo, lo = mn P Q := ⟨_, rfl⟩
  obtain ⟨hi, hhi⟩ : ∃ hi, hi = mx P Q := ⟨_, rfl⟩
  have r : -60 ≤ lo ∧ lo ≤ hi ∧ hi ≤ 60 := by rw [hlo, hhi, mn_eq, mx_eq]; omega
  obtain ⟨K4, s4⟩ := j4_ev c r.1 r.2.1 r.2.2
  rcases longest_is c r.1 r.2.1 r.2.2 with ⟨K1, s1⟩ | ⟨e, z1, z2, z3, ⟨K1, s1⟩⟩
  · refine ⟨K1 + K4 + 1, fun k hk => ?_⟩
    obtain ⟨k, rfl⟩ : ∃ q, k = q + 1 := ⟨k - 1, by omega⟩
    have a1 := s1 k (by omega)
    have a4 := s4 k (by omega)
    dsimp only at a1 a4 ⊢
    rw [dropperlaw04_PullFree.j3, if_neg (by decide)]
    simp only [← hP, ← hQ, ← hlo, ← hhi]
    rw [a1]
    simp [a4]
  · obtain ⟨c1, c2, c3, c4⟩ := c
    obtain ⟨x, y, y1, y2, y3, ⟨K2, s2⟩⟩ := free_is (h := e) (g := g) (b := b) (T := T) ⟨z1, c2, c3, c4⟩
    refine ⟨K1 + K2 + K4 + 1, fun k hk => ?_⟩
    obtain ⟨k, rfl⟩ : ∃ q, k = q + 1 := ⟨k - 1, by omega⟩
    have a1 := s1 k (by omega)
    have a2 := s2 k (by omega)
    have a4 := s4 k (by omega)
    dsimp only at a1 a2 a4 ⊢
    have f1 := (y3 lo r.1 (by omega)).1 z2
    have f2 := (y3 hi (by omega) r.2.2).1 z3
    rw [dropperlaw04_PullFree.j3, if_neg (by decide)]
    simp only [← hP, ← hQ, ← hlo, ← hhi]
    rw [a1]
    simp only [Option.bind_some, if_true]
    rw [a2]
    simp only [Option.bind_some, if_true]
    rw [if_neg (show ¬ lo < x by omega), if_neg (show ¬ hi > y by omega)]
    exact a4
theorem j2_ev {x2 lo hi x1 u v : Int} (hx : 0 ≤ x2 ∧ x2 ≤ 65535) (hu : 0 ≤ u ∧ u ≤ 255) (hv : 0 ≤ v ∧ v ≤ 255) (hlo : -60 ≤ lo ∧ lo ≤ 0) (hhi : 0 ≤ hi ∧ hi ≤ 60) (hF : ∀ t, -60 ≤ t → t ≤ 60 → (fr h g b T t ↔ lo ≤ t ∧ t ≤ hi)) : Ev (fun k => dropperlaw04_PullFree.j2 k x2 lo hi h g b T x1 u v) true := by
  obtain ⟨K3, s3⟩ := j3_ev c (x1 := x1) hu hv
  obtain ⟨c1, c2, c3, c4⟩ := c
  have eh : wrap64 (1 + Int.tmod (wrap64 x2) h) = 1 + x2 % h ∧ 0 ≤ x2 % h ∧ x2 % h < h := by
    have m0 := Int.emod_nonneg x2 (show h ≠ 0 by omega)
    have m1 := Int.emod_lt_of_pos x2 (show 0 < h by omega)
    rw [w64 (n := x2) (by omega) (by omega), Int.tmod_eq_emod_of_nonneg hx.1, w64 (by omega) (by omega)]
    exact ⟨rfl, m0, m1⟩
  obtain ⟨e1, m0, m1⟩ := eh
  generalize x2 % h = w at *
  obtain ⟨x, y, y1, y2, y3, ⟨K1, s1⟩⟩ := free_is (h := 1 + w) (g := g) (b := b) (T := T) ⟨by omega, c2, c3, c4⟩
  have sh : ∀ t, fr h g b T t → fr (1 + w) g b T t := by
    intro t ft
    have lem : ∀ z : Int, 17 * z * g * t = z * (17 * g * t) := fun z => by
      rw [Int.mul_comm 17 z, Int.mul_assoc, Int.mul_assoc, Int.mul_assoc]
    unfold fr hgt at ft ⊢
    rw [lem] at ft ⊢
    by_cases ct : 0 ≤ t
    · have p0 : 0 ≤ 17 * g * t := Int.mul_nonneg (by omega) ct
      have p1 := Int.mul_le_mul_of_nonneg_right (show 1 + w ≤ h by omega) p0
      have p2 := Int.mul_nonneg (show 0 ≤ 1 + w by omega) p0
      omega
    · have p0 : 17 * g * t ≤ 0 := Int.mul_nonpos_of_nonneg_of_nonpos (by omega) (by omega)
      have p1 := Int.mul_le_mul_of_nonpos_right (show 1 + w ≤ h by omega) p0
      have p2 := Int.mul_nonpos_of_nonneg_of_nonpos (show 0 ≤ 1 + w by omega) p0
      omega
  have f1 := (y3 lo hlo.1 (by omega)).1 (sh lo ((hF lo hlo.1 (by omega)).2 (by omega)))
  have f2 := (y3 hi (by omega) hhi.2).1 (sh hi ((hF hi (by omega) hhi.2).2 (by omega)))
  refine ⟨K1 + K3 + 1, fun k hk => ?_⟩
  obtain ⟨k, rfl⟩ : ∃ q, k = q + 1 := ⟨k - 1, by omega⟩
  have a1 := s1 k (by omega)
  have a3 := s3 k (by omega)
  dsimp only at a1 a3 ⊢
  rw [dropperlaw04_PullFree.j2, if_neg (by omega), e1, a1]
  simp only [Option.bind_some, if_true]
  rw [if_neg (by omega), decide_eq_false (show ¬ y < hi by omega)]
  exact a3
theorem pr_ok {N D : Int} (hN : -30000000 ≤ N ∧ N ≤ 30000000) (hD : 1 ≤ D ∧ D ≤ 1000) : wrap64 (N * D) = N * D := by
  have := mul_bd (a := N) (b := D) (A := 30000000) (B := 1000) (by omega) (by omega)
  exact w64 (by omega) (by omega)
theorem j1_ev {x2 lo hi t x1 u v N D : Int} (hx : 0 ≤ x2 ∧ x2 ≤ 65535) (hu : 0 ≤ u ∧ u ≤ 255) (hv : 0 ≤ v ∧ v ≤ 255) (hlo : -60 ≤ lo ∧ lo ≤ 0) (hhi : 0 ≤ hi ∧ hi ≤ 60) (hF : ∀ t, -60 ≤ t → t ≤ 60 → (fr h g b T t ↔ lo ≤ t ∧ t ≤ hi))
    (ht : -60 ≤ t ∧ t ≤ 60) (hD : 1 ≤ D ∧ D ≤ 1000) (hE : N * 1000 = hgt h g b t * D) (hN : -30000000 ≤ N ∧ N ≤ 30000000) : Ev (fun k => dropperlaw04_PullFree.j1 k x2 lo hi t false h g b T x1 u v N D) true := by
  obtain ⟨K2, s2⟩ := j2_ev c (x1 := x1) hx hu hv hlo hhi hF
  by_cases c60 : t < 60
  · obtain ⟨N', D', d1, d2, d3, ⟨K1, s1⟩⟩ := height_is c (t := t + 1) (by omega)
    refine ⟨K1 + K2 + 1, fun k hk => ?_⟩
    obtain ⟨k, rfl⟩ : ∃ q, k = q + 1 := ⟨k - 1, by omega⟩
    have a1 := s1 k (by omega)
    have a2 := s2 k (by omega)
    dsimp only at a1 a2 ⊢
    have le : N' * D ≤ N * D' := by
      obtain ⟨c1, c2, _, _⟩ := c
      have m := hgt_mono (h := h) (g := g) (b := b) (t := t) (u := t + 1) (by omega) (by omega) (by omega)
      have p := Int.mul_le_mul_of_nonneg_right m (Int.mul_nonneg (show 0 ≤ D by omega) (show 0 ≤ D' by omega))
      have q1 : N' * D * 1000 = hgt h g b (t + 1) * (D * D') := by
        rw [Int.mul_right_comm, d2, Int.mul_assoc, Int.mul_comm D' D]
      have q2 : N * D' * 1000 = hgt h g b t * (D * D') := by
        rw [Int.mul_right_comm, hE, Int.mul_assoc]
      omega
    rw [dropperlaw04_PullFree.j1, if_neg (by decide), if_pos c60, w64 (n := t + 1) (by omega) (by omega), a1]
    simp only [Option.bind_some, if_true]
    rw [pr_ok c d3 hD, pr_ok c hN d1, if_neg (by omega)]
    exact a2
  · refine ⟨K2 + 1, fun k hk => ?_⟩
    obtain ⟨k, rfl⟩ : ∃ q, k = q + 1 := ⟨k - 1, by omega⟩
    have a2 := s2 k (by omega)
    dsimp only at a2 ⊢
    rw [dropperlaw04_PullFree.j1, if_neg (by decide), if_neg c60]
    exact a2
theorem j0_ev {x2 lo hi t x1 u v N D : Int} (hx : 0 ≤ x2 ∧ x2 ≤ 65535) (hu : 0 ≤ u ∧ u ≤ 255) (hv : 0 ≤ v ∧ v ≤ 255) (hlo : -60 ≤ lo ∧ lo ≤ 0) (hhi : 0 ≤ hi ∧ hi ≤ 60) (hF : ∀ t, -60 ≤ t → t ≤ 60 → (fr h g b T t ↔ lo ≤ t ∧ t ≤ hi))
    (ht : -60 ≤ t ∧ t ≤ 60) (hD : 1 ≤ D ∧ D ≤ 1000) (hE : N * 1000 = hgt h g b t * D) (hN : -30000000 ≤ N ∧ N ≤ 30000000) : Ev (fun k => dropperlaw04_PullFree.j0 k x2 lo hi t false h g b T x1 u v N D) true := by
  have e := j1_ev c (x1 := x1) hx hu hv hlo hhi hF ht hD hE hN
  have hf := hF t ht.1 ht.2
  have hT : wrap64 (T * D) = T * D := pr_ok c (N := T) (by obtain ⟨_, _, h3, h4⟩ := c; omega) hD
  have s1 : 0 ≤ N ↔ 0 ≤ hgt h g b t := by
    constructor
    · intro z
      by_cases q : 0 ≤ hgt h g b t
      · exact q
      · have := Int.mul_neg_of_neg_of_pos (show hgt h g b t < 0 by omega) (show 0 < D by omega)
        omega
    · intro z
      have := Int.mul_nonneg z (show 0 ≤ D by omega)
      omega
  have s2 : N ≤ T * D ↔ hgt h g b t ≤ T * 1000 := by
    have q1 : T * D * 1000 = T * 1000 * D := Int.mul_right_comm _ _ _
    constructor
    · intro z
      have e2 : hgt h g b t * D ≤ T * 1000 * D := by omega
      exact Int.le_of_mul_le_mul_right e2 (show 0 < D by omega)
    · intro z
      have := Int.mul_le_mul_of_nonneg_right z (show 0 ≤ D by omega)
      omega
  unfold fr at hf
  rw [← s1, ← s2] at hf
  refine Ev.step (fun k => ?_) e
  rw [dropperlaw04_PullFree.j0, if_neg (by decide), hT]
  by_cases c1 : 0 ≤ N
  · rw [if_pos (show N ≥ 0 from c1)]
    by_cases c2 : lo ≤ t
    · rw [if_pos c2]
      have : decide (N ≤ T * D) = decide (t ≤ hi) := decide_eq_decide.2 ⟨fun z => (hf.1 ⟨c1, z⟩).2, fun z => (hf.2 ⟨c2, z⟩).2⟩
      rw [this]
      simp
    · rw [if_neg c2, decide_eq_false (fun z => c2 (hf.1 ⟨c1, z⟩).1)]
      rfl
  · rw [if_neg (show ¬ N ≥ 0 from c1)]
    by_cases c2 : lo ≤ t
    · rw [if_pos c2, decide_eq_false (fun z => c1 (hf.2 ⟨c2, z⟩).1)]
      rfl
    · rw [if_neg c2]
      rfl
end
theorem u8_of {a : Int} (w : (Lit.int .u8 a).wf = true) : 0 ≤ a ∧ a ≤ 255 := by
  have w' : (decide ((0 : Int) ≤ a) && decide (a ≤ 255)) = true := w
  simpa using w'
theorem u16_of {a : Int} (w : (Lit.int .u16 a).wf = true) : 0 ≤ a ∧ a ≤ 65535 := by
  have w' : (decide ((0 : Int) ≤ a) && decide (a ≤ 65535)) = true := w
  simpa using w'
theorem PullFree_pure (h g b T x1 u v x2 : Int) (w0 : (Lit.int .i64 h).wf = true) (w1 : (Lit.int .i64 g).wf = true) (w2 : (Lit.int .i64 b).wf = true) (w3 : (Lit.int .i64 T).wf = true) (w4 : (Lit.int .u8 x1).wf = true) (w5 : (Lit.int .u8 u).wf = true) (w6 : (Lit.int .u8 v).wf = true) (w7 : (Lit.int .u16 x2).wf = true) : ∃ k, dropperlaw04_PullFree.f k h g b T x1 u v x2 = some true := by
  by_cases c : okS h g b T
  · have bx := u8_of w4
    have ht : -60 ≤ wrap64 (Int.tmod (wrap64 x1) 121 - 60) ∧ wrap64 (Int.tmod (wrap64 x1) 121 - 60) ≤ 60 := by
      rw [w64 (n := x1) (by omega) (by omega), Int.tmod_eq_emod_of_nonneg bx.1, w64 (by omega) (by omega)]
      omega
    obtain ⟨t, et⟩ : ∃ t, t = wrap64 (Int.tmod (wrap64 x1) 121 - 60) := ⟨_, rfl⟩
    rw [← et] at ht
    obtain ⟨lo, hi, l1, l2, l3, ⟨K1, s1⟩⟩ := free_is c
    obtain ⟨N, D, d1, d2, d3, ⟨K2, s2⟩⟩ := height_is c ht
    obtain ⟨K3, s3⟩ := j0_ev c (x1 := x1) (u16_of w7) (u8_of w5) (u8_of w6) l1 l2 l3 ht d1 d2 d3
    refine ⟨K1 + K2 + K3, ?_⟩
    have a1 := s1 (K1 + K2 + K3) (by omega)
    have a2 := s2 (K1 + K2 + K3) (by omega)
    have a3 := s3 (K1 + K2 + K3) (by omega)
    dsimp only at a1 a2 a3
    unfold dropperlaw04_PullFree.f
    simp only [← et]
    rw [ref_valid_some, decide_eq_true c]
    simp only [Option.bind_some, if_true]
    rw [a1]
    simp only [Option.bind_some]
    rw [a2]
    simp only [Option.bind_some, if_true]
    rw [if_neg (by omega), if_neg (by omega), if_neg (by omega), if_neg (by omega), decide_eq_false (show ¬ D < 1 by omega)]
    exact a3
  · obtain ⟨K0, s0⟩ := awake_ev
    refine ⟨K0, ?_⟩
    have a0 := s0 K0 (Nat.le_refl _)
    dsimp only at a0
    unfold dropperlaw04_PullFree.f
    rw [ref_valid_some, decide_eq_false c]
    simp [a0]
end Go.Proofs.Ytiebfmenkpodeaa.G
