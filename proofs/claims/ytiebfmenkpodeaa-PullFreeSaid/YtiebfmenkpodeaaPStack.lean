/- The laws PullStacks and PullLongest of the printed functions. Plain Lean. -/
import Derived.Test.YtiebfmenkpodeaaPBase
import Derived.Test.YtiebfmenkpodeaaGF3
import Derived.Test.YtiebfmenkpodeaaGF4
namespace Go.Proofs.Ytiebfmenkpodeaa.G
set_option linter.unusedVariables false
set_option linter.unusedSimpArgs false
open Go.RowKit Go.Proofs.YtiebfmenkpodeaaW.PrintWords Go.Proofs.YtiebfmenkpodeaaW.PrintLast
theorem awake_ev : Ev (fun k => dropperlaw04_Awake.f k) true := Ev.of (fun k => dropperlaw04_Awake.mono k) (k := 200) (by decide +kernel)
/-- A stack that is as described. -/
def okS (h g b t : Int) : Prop := (1 ≤ h ∧ h ≤ 2000) ∧ (1 ≤ g ∧ g ≤ 5) ∧ (0 ≤ b ∧ b ≤ t) ∧ t ≤ 10000
instance (h g b t : Int) : Decidable (okS h g b t) := by unfold okS; infer_instance
theorem valid_some (h g b t : Int) : pull_ValidStack.f h g b t = some (decide (okS h g b t)) := by
  unfold pull_ValidStack.f
  rw [within_some, within_some, within_some]
  unfold okS
  by_cases c1 : 1 ≤ h ∧ h ≤ 2000
  · by_cases c2 : 1 ≤ g ∧ g ≤ 5
    · by_cases c3 : 0 ≤ b ∧ b ≤ t <;> simp [c1, c2, c3]
    · simp [c1, c2]
  · simp [c1]
theorem ref_valid_some (h g b t : Int) : dropperref04_ValidStack.f h g b t = some (decide (okS h g b t)) := by
  rw [← valid_some]
  unfold dropperref04_ValidStack.f pull_ValidStack.f
  simp only [from_some, within_some]
/-- A thousand times the height. -/
def hgt (h g b t : Int) : Int := b * 1000 - 17 * h * g * t
/-- The stack is free at t. -/
def fr (h g b T t : Int) : Prop := 0 ≤ hgt h g b t ∧ hgt h g b t ≤ T * 1000
instance (h g b T t : Int) : Decidable (fr h g b T t) := by unfold fr; infer_instance
theorem heat_bd {h g t : Int} (hh : 0 ≤ h ∧ h ≤ 2000) (hg : 1 ≤ g ∧ g ≤ 5) (ht : -61 ≤ t ∧ t ≤ 61) : wrap64 (wrap64 (wrap64 (17 * h) * g) * t) = 17 * h * g * t ∧ -10370000 ≤ 17 * h * g * t ∧ 17 * h * g * t ≤ 10370000 := by
  have m1 := mul_bd (a := 17 * h) (b := g) (A := 34000) (B := 5) (by omega) (by omega)
  have m2 := mul_bd (a := 17 * h * g) (b := t) (A := 170000) (B := 61) (by omega) (by omega)
  rw [w64 (n := 17 * h) (by omega) (by omega), w64 (n := 17 * h * g) (by omega) (by omega), w64 (by omega) (by omega)]
  omega
theorem height_some {h g b t : Int} (T : Int) (hh : 0 ≤ h ∧ h ≤ 2000) (hg : 1 ≤ g ∧ g ≤ 5) (hb : 0 ≤ b ∧ b ≤ 10000) (ht : -61 ≤ t ∧ t ≤ 61) : pull_height.f h g b T t = some (hgt h g b t) ∧ dropperref04_height.f h g b T t = some (hgt h g b t) := by
  obtain ⟨e, b1, b2⟩ := heat_bd hh hg ht
  unfold pull_height.f dropperref04_height.f hgt
  rw [e, w64 (n := b * 1000) (by omega) (by omega), w64 (n := 1000 * b) (by omega) (by omega), w64 (n := b * 1000 - 17 * h * g * t) (by omega) (by omega), w64 (n := 1000 * b - 17 * h * g * t) (by omega) (by omega)]
  exact ⟨rfl, congrArg some (by omega)⟩
theorem free_some {h g b T t : Int} (hh : 0 ≤ h ∧ h ≤ 2000) (hg : 1 ≤ g ∧ g ≤ 5) (hb : 0 ≤ b ∧ b ≤ 10000) (hT : 0 ≤ T ∧ T ≤ 10000) (ht : -61 ≤ t ∧ t ≤ 61) : pull_free.f h g b T t = some (decide (fr h g b T t)) := by
  unfold pull_free.f
  rw [(height_some T hh hg hb ht).1, w64 (n := T * 1000) (by omega) (by omega)]
  simp only [Option.bind_some, within_some]
  rfl
/-- The document's free: at all temperatures from lo to hi. -/
theorem ref_free_loop {h g b T hi : Int} (hh : 0 ≤ h ∧ h ≤ 2000) (hg : 1 ≤ g ∧ g ≤ 5) (hb : 0 ≤ b ∧ b ≤ 10000) (hT : 0 ≤ T ∧ T ≤ 10000) (hhi : -61 ≤ hi ∧ hi ≤ 60) : ∀ (d : Nat) (lo : Int), (hi + 1 - lo).toNat = d → -61 ≤ lo → ∃ r : Bool, Ev (fun k => dropperref04_free.l0 k hi lo h g b T) r ∧ (r = true ↔ ∀ t, lo ≤ t → t ≤ hi → fr h g b T t) := by
  intro d
  induction d with
  | zero =>
    intro lo hd hlo
    refine ⟨true, ev_some _ fun k => ?_, ⟨fun _ t h1 h2 => by omega, fun _ => rfl⟩⟩
    rw [dropperref04_free.l0, if_neg (by omega)]
  | succ d ih =>
    intro lo hd hlo
    have red : ∀ k, dropperref04_free.l0 (k + 1) hi lo h g b T = if decide (fr h g b T lo) = true then dropperref04_free.l0 k hi (lo + 1) h g b T else some false := by
      intro k
      rw [dropperref04_free.l0, if_pos (by omega), (height_some T hh hg hb (by omega)).2, w64 (n := lo + 1) (by omega) (by omega), w64 (n := 1000 * T) (by omega) (by omega)]
      simp only [Option.bind_some, from_some]
      rw [Int.mul_comm 1000 T]
      rfl
    by_cases c : fr h g b T lo
    · obtain ⟨r, e, hr⟩ := ih (lo + 1) (by omega) (by omega)
      refine ⟨r, Ev.step (fun k => ?_) e, hr.trans ⟨fun z t h1 h2 => ?_, fun z t h1 h2 => z t (by omega) h2⟩⟩
      · rw [red k, decide_eq_true c, if_pos rfl]
      · by_cases q : t = lo
        · rw [q]; exact c
        · exact z t (by omega) h2
    · refine ⟨false, ev_some _ fun k => ?_, ⟨fun z => (by cases z), fun z => absurd (z lo (by omega) (by omega)) c⟩⟩
      rw [red k, decide_eq_false c, if_neg (by decide)]
theorem ref_free_one {h g b T t : Int} (hh : 0 ≤ h ∧ h ≤ 2000) (hg : 1 ≤ g ∧ g ≤ 5) (hb : 0 ≤ b ∧ b ≤ 10000) (hT : 0 ≤ T ∧ T ≤ 10000) (ht : -61 ≤ t ∧ t ≤ 60) : Ev (fun k => dropperref04_free.f k h g b T t t) (decide (fr h g b T t)) := by
  obtain ⟨r, e, hr⟩ := ref_free_loop hh hg hb hT ht (t + 1 - t).toNat t rfl ht.1
  have : r = decide (fr h g b T t) := by
    cases r with
    | true => rw [decide_eq_true (hr.1 rfl t (by omega) (by omega))]
    | false =>
      rw [decide_eq_false]
      intro z
      have := hr.2 (fun u h1 h2 => by
        obtain rfl : u = t := by omega
        exact z)
      cases this
  rw [← this]; exact e
/-- From when a stack is free. -/
def lowF (h g b T : Int) : Nat → Int → Int
  | 0, x => x
  | d + 1, x => if x > -60 ∧ fr h g b T (x - 1) then lowF h g b T d (x - 1) else x
/-- To when it is. -/
def highF (h g b T : Int) : Nat → Int → Int
  | 0, x => x
  | d + 1, x => if x < 60 ∧ fr h g b T (x + 1) then highF h g b T d (x + 1) else x
theorem high_loop {h g b T : Int} (hh : 0 ≤ h ∧ h ≤ 2000) (hg : 1 ≤ g ∧ g ≤ 5) (hb : 0 ≤ b ∧ b ≤ 10000) (hT : 0 ≤ T ∧ T ≤ 10000) (y : Int) : ∀ (d : Nat) (x : Int), (60 - x).toNat = d → 0 ≤ x → x ≤ 60 →
    Ev (fun k => pull_Free.l1 k y x h g b T) (y, highF h g b T d x, 0) ∧ Ev (fun k => dropperref04_Free.l1 k y x h g b T) (y, highF h g b T d x, 0) := by
  intro d
  induction d with
  | zero =>
    intro x hd h0 h1
    constructor
    · refine ev_some _ fun k => ?_
      rw [pull_Free.l1, if_neg (by omega)]; rfl
    · refine ev_some _ fun k => ?_
      rw [dropperref04_Free.l1, if_neg (by omega)]; rfl
  | succ d ih =>
    intro x hd h0 h1
    obtain ⟨i1, i2⟩ := ih (x + 1) (by omega) (by omega) (by omega)
    have ew : wrap64 (x + 1) = x + 1 := w64 (by omega) (by omega)
    have ef := free_some (t := x + 1) hh hg hb hT (by omega)
    have er := ref_free_one (t := x + 1) hh hg hb hT (by omega)
    rw [highF]
    by_cases c : fr h g b T (x + 1)
    · rw [if_pos ⟨by omega, c⟩]
      constructor
      · refine Ev.step (fun k => ?_) i1
        rw [pull_Free.l1, if_pos (by omega), ew, ef, decide_eq_true c]; rfl
      · rw [decide_eq_true c] at er
        refine Ev.step (f := fun k => (dropperref04_free.f k h g b T (x + 1) (x + 1)).bind fun t104 => (if t104 = true then (dropperref04_Free.l1 k y (x + 1) h g b T) else (some (y, x, 0)))) (fun k => ?_) (Ev.bind er i2)
        rw [dropperref04_Free.l1, if_pos (by omega), ew]
    · rw [if_neg (fun z => c z.2)]
      constructor
      · refine ev_some _ fun k => ?_
        rw [pull_Free.l1, if_pos (by omega), ew, ef, decide_eq_false c]; rfl
      · rw [decide_eq_false c] at er
        refine Ev.step (f := fun k => (dropperref04_free.f k h g b T (x + 1) (x + 1)).bind fun t104 => (if t104 = true then (dropperref04_Free.l1 k y (x + 1) h g b T) else (some (y, x, 0)))) (fun k => ?_) (Ev.bind er (Ev.now _))
        rw [dropperref04_Free.l1, if_pos (by omega), ew]
theorem low_loop {h g b T : Int} (hh : 0 ≤ h ∧ h ≤ 2000) (hg : 1 ≤ g ∧ g ≤ 5) (hb : 0 ≤ b ∧ b ≤ 10000) (hT : 0 ≤ T ∧ T ≤ 10000) : ∀ (d : Nat) (x : Int), (x + 60).toNat = d → -60 ≤ x → x ≤ 0 →
    Ev (fun k => pull_Free.l0 k x 0 h g b T) (lowF h g b T d x, highF h g b T 60 0, 0) ∧ Ev (fun k => dropperref04_Free.l0 k x 0 h g b T) (lowF h g b T d x, highF h g b T 60 0, 0) := by
  intro d
  have last : ∀ x : Int, Ev (fun k => pull_Free.j1 k x 0 h g b T) (x, highF h g b T 60 0, 0) ∧ Ev (fun k => dropperref04_Free.j1 k x 0 h g b T) (x, highF h g b T 60 0, 0) := by
    intro x
    obtain ⟨i1, i2⟩ := high_loop hh hg hb hT x 60 0 (by omega) (by omega) (by omega)
    exact ⟨Ev.step (fun k => by rw [pull_Free.j1]) i1, Ev.step (fun k => by rw [dropperref04_Free.j1]) i2⟩
  induction d with
  | zero =>
    intro x hd h0 h1
    obtain ⟨i1, i2⟩ := last x
    constructor
    · refine Ev.step (fun k => ?_) i1
      rw [pull_Free.l0, if_neg (by omega)]
    · refine Ev.step (fun k => ?_) i2
      rw [dropperref04_Free.l0, if_neg (by omega)]
  | succ d ih =>
    intro x hd h0 h1
    obtain ⟨i1, i2⟩ := ih (x - 1) (by omega) (by omega) (by omega)
    obtain ⟨j1, j2⟩ := last x
    have ew : wrap64 (x - 1) = x - 1 := w64 (by omega) (by omega)
    have ef := free_some (t := x - 1) hh hg hb hT (by omega)
    have er := ref_free_one (t := x - 1) hh hg hb hT (by omega)
    rw [lowF]
    by_cases c : fr h g b T (x - 1)
    · rw [if_pos ⟨by omega, c⟩]
      constructor
      · refine Ev.step (fun k => ?_) i1
        rw [pull_Free.l0, if_pos (by omega), ew, ef, decide_eq_true c]; rfl
      · rw [decide_eq_true c] at er
        refine Ev.step (f := fun k => (dropperref04_free.f k h g b T (x - 1) (x - 1)).bind fun t103 => (if t103 = true then (dropperref04_Free.l0 k (x - 1) 0 h g b T) else (dropperref04_Free.j1 k x 0 h g b T))) (fun k => ?_) (Ev.bind er i2)
        rw [dropperref04_Free.l0, if_pos (by omega), ew]
    · rw [if_neg (fun z => c z.2)]
      constructor
      · refine Ev.step (fun k => ?_) j1
        rw [pull_Free.l0, if_pos (by omega), ew, ef, decide_eq_false c]; rfl
      · rw [decide_eq_false c] at er
        refine Ev.step (f := fun k => (dropperref04_free.f k h g b T (x - 1) (x - 1)).bind fun t103 => (if t103 = true then (dropperref04_Free.l0 k (x - 1) 0 h g b T) else (dropperref04_Free.j1 k x 0 h g b T))) (fun k => ?_) (Ev.bind er j2)
        rw [dropperref04_Free.l0, if_pos (by omega), ew]
/-- What Free tells. -/
def freeR (h g b T : Int) : Int × Int × Int := if okS h g b T then (lowF h g b T 60 0, highF h g b T 60 0, 0) else (0, 0, 41)
theorem free_ev (h g b T : Int) : Ev (fun k => pull_Free.f k h g b T) (freeR h g b T) ∧ Ev (fun k => dropperref04_Free.f k h g b T) (freeR h g b T) := by
  unfold freeR
  by_cases c : okS h g b T
  · obtain ⟨c1, c2, c3, c4⟩ := c
    obtain ⟨i1, i2⟩ := low_loop (h := h) (g := g) (b := b) (T := T) (by omega) c2 (by omega) (by omega) 60 0 (by omega) (by omega) (by omega)
    rw [if_pos ⟨c1, c2, c3, c4⟩]
    constructor
    · refine Ev.congr (fun k => ?_) i1
      unfold pull_Free.f
      rw [valid_some, decide_eq_true ⟨c1, c2, c3, c4⟩]; rfl
    · refine Ev.congr (fun k => ?_) i2
      unfold dropperref04_Free.f
      rw [ref_valid_some, decide_eq_true ⟨c1, c2, c3, c4⟩]; rfl
  · rw [if_neg c]
    constructor
    · refine Ev.congr (fun k => ?_) (Ev.now _)
      unfold pull_Free.f
      rw [valid_some, decide_eq_false c]; rfl
    · refine Ev.congr (fun k => ?_) (Ev.now _)
      unfold dropperref04_Free.f
      rw [ref_valid_some, decide_eq_false c]; rfl
theorem height_l0_same (n : Int) : ∀ (k : Nat) (a b : Int), dropperref04_Height.l0 k n 1000 a b = pull_Height.l0 k n a b
  | 0, _, _ => rfl
  | k + 1, a, b => by
    rw [dropperref04_Height.l0, pull_Height.l0, height_l0_same n k, Int.tdiv_eq_ediv_of_nonneg (show (0 : Int) ≤ 1000 by omega)]
theorem height_l0_ev (n : Int) : ∀ (d : Nat) (a b : Int), 0 ≤ a → 0 ≤ b → (a ≠ 0 ∨ b ≠ 0) → b.toNat ≤ d → ∃ r, Ev (fun k => pull_Height.l0 k n a b) r
  | 0, a, b, ha, hb, h, hd => by
    obtain rfl : b = 0 := by omega
    refine ⟨(wrap64 (Int.tdiv n a), wrap64 (Int.tdiv (1000 : Int) a), 0), ev_some _ fun k => ?_⟩
    rw [pull_Height.l0, if_pos rfl, if_neg (by omega)]
  | d + 1, a, b, ha, hb, h, hd => by
    by_cases e : b = 0
    · subst e
      refine ⟨(wrap64 (Int.tdiv n a), wrap64 (Int.tdiv (1000 : Int) a), 0), ev_some _ fun k => ?_⟩
      rw [pull_Height.l0, if_pos rfl, if_neg (by omega)]
    · have hm : 0 ≤ a.tmod b := Int.tmod_nonneg _ ha
      have hl : a.tmod b < b := Int.tmod_lt_of_pos _ (by omega)
      obtain ⟨r, hr⟩ := height_l0_ev n d b (a.tmod b) hb hm (.inl e) (by omega)
      refine ⟨r, Ev.step (fun k => ?_) hr⟩
      rw [pull_Height.l0, if_neg e]
theorem height_ev (h g b T t : Int) : ∃ r, Ev (fun k => pull_Height.f k h g b T t) r ∧ Ev (fun k => dropperref04_Height.f k h g b T t) r := by
  by_cases c : okS h g b T
  · by_cases ct : -60 ≤ t ∧ t ≤ 60
    · obtain ⟨c1, c2, c3, c4⟩ := c
      obtain ⟨e1, e2⟩ := height_some (h := h) (g := g) (b := b) (t := t) T (by omega) c2 (by omega) (by omega)
      have e0 : 0 ≤ mx (hgt h g b t) (wrap64 (-(hgt h g b t))) := by
        obtain ⟨_, b1, b2⟩ := heat_bd (h := h) (g := g) (t := t) (by omega) c2 (by omega)
        unfold hgt
        rw [w64 (by omega) (by omega), mx_eq]
        omega
      obtain ⟨r, hr⟩ := height_l0_ev (hgt h g b t) 1000 _ 1000 e0 (by omega) (.inr (by omega)) (by omega)
      refine ⟨r, Ev.congr (fun k => ?_) hr, Ev.congr (fun k => ?_) hr⟩
      · unfold pull_Height.f
        rw [valid_some, decide_eq_true ⟨c1, c2, c3, c4⟩, within_some, decide_eq_true ct, e1]; rfl
      · unfold dropperref04_Height.f
        rw [ref_valid_some, decide_eq_true ⟨c1, c2, c3, c4⟩, from_some, decide_eq_true ct, e2]
        simp only [Option.bind_some, if_true, height_l0_same]
    · refine ⟨(0, 0, 2), Ev.congr (fun k => ?_) (Ev.now _), Ev.congr (fun k => ?_) (Ev.now _)⟩
      · unfold pull_Height.f
        rw [valid_some, decide_eq_true c, within_some, decide_eq_false ct]; rfl
      · unfold dropperref04_Height.f
        rw [ref_valid_some, decide_eq_true c, from_some, decide_eq_false ct]; rfl
  · refine ⟨(0, 0, 41), Ev.congr (fun k => ?_) (Ev.now _), Ev.congr (fun k => ?_) (Ev.now _)⟩
    · unfold pull_Height.f
      rw [valid_some, decide_eq_false c]; rfl
    · unfold dropperref04_Height.f
      rw [ref_valid_some, decide_eq_false c]; rfl
theorem PullStacks_pure (h g b T t : Int) (w0 : (Lit.int .i64 h).wf = true) (w1 : (Lit.int .i64 g).wf = true) (w2 : (Lit.int .i64 b).wf = true) (w3 : (Lit.int .i64 T).wf = true) (w4 : (Lit.int .i64 t).wf = true) : ∃ k, dropperlaw04_PullStacks.f k h g b T t = some true := by
  obtain ⟨K0, s0⟩ := awake_ev
  obtain ⟨r, ⟨K1, s1⟩, ⟨K2, s2⟩⟩ := height_ev h g b T t
  obtain ⟨⟨K3, s3⟩, ⟨K4, s4⟩⟩ := free_ev h g b T
  generalize hk : K0 + K1 + K2 + K3 + K4 = K
  have a0 := s0 K (by omega)
  have a1 := s1 K (by omega)
  have a2 := s2 K (by omega)
  have a3 := s3 K (by omega)
  have a4 := s4 K (by omega)
  dsimp only at a0 a1 a2 a3 a4
  refine ⟨K, ?_⟩
  unfold dropperlaw04_PullStacks.f
  rw [a1, a2, a3, a4, valid_some, ref_valid_some]
  generalize freeR h g b T = y at *
  simp [a0]

/-- The error of a stack and temperatures. -/
def askS (h g b T lo hi : Int) : Int := if okS h g b T then (if (-60 ≤ lo ∧ lo ≤ hi) ∧ hi ≤ 60 then 0 else 2) else 41
theorem asked_some (h g b T lo hi : Int) : pull_asked.f h g b T lo hi = some (askS h g b T lo hi) ∧ dropperref04_asked.f h g b T lo hi = some (askS h g b T lo hi) := by
  unfold pull_asked.f dropperref04_asked.f askS
  rw [valid_some, ref_valid_some, within_some, from_some]
  by_cases c : okS h g b T
  · by_cases c1 : -60 ≤ lo ∧ lo ≤ hi
    · by_cases c2 : hi ≤ 60
      · simp only [decide_eq_true c, decide_eq_true c1, Option.bind_some, if_true, if_neg (show ¬ hi > 60 by omega), if_pos c, if_pos (show (-60 ≤ lo ∧ lo ≤ hi) ∧ hi ≤ 60 from ⟨c1, c2⟩)]
        exact ⟨trivial, trivial⟩
      · simp only [decide_eq_true c, decide_eq_true c1, Option.bind_some, if_true, if_pos (show hi > 60 by omega), if_pos c, if_neg (show ¬ ((-60 ≤ lo ∧ lo ≤ hi) ∧ hi ≤ 60) from fun z => c2 z.2)]
        exact ⟨trivial, trivial⟩
    · simp only [decide_eq_true c, decide_eq_false c1, Option.bind_some, if_true, Bool.false_eq_true, if_false, if_pos c, if_neg (show ¬ ((-60 ≤ lo ∧ lo ≤ hi) ∧ hi ≤ 60) from fun z => c1 z.1)]
      exact ⟨trivial, trivial⟩
  · simp only [decide_eq_false c, Option.bind_some, Bool.false_eq_true, if_false, if_neg c]
    exact ⟨trivial, trivial⟩
theorem hgt_mono {h g b t u : Int} (hh : 0 ≤ h) (hg : 1 ≤ g) (htu : t ≤ u) : hgt h g b u ≤ hgt h g b t := by
  unfold hgt
  have : 17 * h * g * t ≤ 17 * h * g * u := Int.mul_le_mul_of_nonneg_left htu (Int.mul_nonneg (by omega) (by omega))
  omega
/-- Free at both ends is free between. -/
theorem fr_all {h g b T lo hi : Int} (hh : 0 ≤ h) (hg : 1 ≤ g) (hlh : lo ≤ hi) : (∀ t, lo ≤ t → t ≤ hi → fr h g b T t) ↔ (fr h g b T lo ∧ fr h g b T hi) := by
  refine ⟨fun z => ⟨z lo (by omega) hlh, z hi hlh (by omega)⟩, fun z t h1 h2 => ?_⟩
  obtain ⟨⟨a1, a2⟩, ⟨b1, b2⟩⟩ := z
  have m1 := hgt_mono (b := b) hh hg h1
  have m2 := hgt_mono (b := b) hh hg h2
  exact ⟨by omega, by omega⟩
theorem ref_free_ev {h g b T lo hi : Int} (hh : 0 ≤ h ∧ h ≤ 2000) (hg : 1 ≤ g ∧ g ≤ 5) (hb : 0 ≤ b ∧ b ≤ 10000) (hT : 0 ≤ T ∧ T ≤ 10000) (hlo : -60 ≤ lo) (hlh : lo ≤ hi) (hhi : hi ≤ 60) : Ev (fun k => dropperref04_free.f k h g b T lo hi) (decide (fr h g b T lo ∧ fr h g b T hi)) := by
  obtain ⟨r, e, hr⟩ := ref_free_loop hh hg hb hT (hi := hi) (by omega) (hi + 1 - lo).toNat lo rfl (by omega)
  have : r = decide (fr h g b T lo ∧ fr h g b T hi) := by
    rw [fr_all hh.1 hg.1 hlh] at hr
    cases r with
    | true => rw [decide_eq_true (hr.1 rfl)]
    | false =>
      rw [decide_eq_false]
      intro z
      have := hr.2 z
      cases this
  rw [← this]; exact e
/-- The longest half. -/
def lngF (g b T lo hi : Int) : Nat → Int × Int
  | 0 => (0, 5)
  | d + 1 => if fr (d + 1 : Nat) g b T lo ∧ fr (d + 1 : Nat) g b T hi then (((d + 1 : Nat) : Int), 0) else lngF g b T lo hi d
theorem lng_loop {g b T lo hi : Int} (hg : 1 ≤ g ∧ g ≤ 5) (hb : 0 ≤ b ∧ b ≤ 10000) (hT : 0 ≤ T ∧ T ≤ 10000) (hlo : -60 ≤ lo) (hlh : lo ≤ hi) (hhi : hi ≤ 60) : ∀ d : Nat, d ≤ 2000 → Ev (fun k => pull_Longest.l0 k lo hi (d : Int) g b T) (lngF g b T lo hi d) ∧ Ev (fun k => dropperref04_Longest.l0 k lo hi (d : Int) g b T) (lngF g b T lo hi d) := by
  intro d
  induction d with
  | zero =>
    intro _
    constructor
    · refine ev_some _ fun k => ?_
      rw [pull_Longest.l0, if_neg (by omega)]; rfl
    · refine ev_some _ fun k => ?_
      rw [dropperref04_Longest.l0, if_neg (by omega)]; rfl
  | succ d ih =>
    intro hd
    obtain ⟨i1, i2⟩ := ih (by omega)
    have e1 := free_some (h := ((d + 1 : Nat) : Int)) (g := g) (b := b) (T := T) (t := lo) (by omega) hg hb hT (by omega)
    have e2 := free_some (h := ((d + 1 : Nat) : Int)) (g := g) (b := b) (T := T) (t := hi) (by omega) hg hb hT (by omega)
    have er := ref_free_ev (h := ((d + 1 : Nat) : Int)) (g := g) (b := b) (T := T) (by omega) hg hb hT hlo hlh hhi
    have rr : ∀ k, dropperref04_Longest.l0 (k + 1) lo hi ((d + 1 : Nat) : Int) g b T = (dropperref04_free.f k ((d + 1 : Nat) : Int) g b T lo hi).bind fun t103 => (if t103 = true then (some (((d + 1 : Nat) : Int), 0)) else (dropperref04_Longest.l0 k lo hi (d : Int) g b T)) := by
      intro k
      rw [dropperref04_Longest.l0, if_pos (by omega), wpred d (by omega)]
    rw [lngF]
    by_cases c : fr ((d + 1 : Nat) : Int) g b T lo ∧ fr ((d + 1 : Nat) : Int) g b T hi
    · rw [if_pos c]
      rw [decide_eq_true c] at er
      constructor
      · refine ev_some _ fun k => ?_
        rw [pull_Longest.l0, if_pos (by omega), e1, e2, decide_eq_true c.1, decide_eq_true c.2]; rfl
      · exact Ev.step rr (Ev.bind er (Ev.now _))
    · rw [if_neg c]
      rw [decide_eq_false c] at er
      constructor
      · refine Ev.step (fun k => ?_) i1
        rw [pull_Longest.l0, if_pos (by omega), e1, e2, wpred d (by omega)]
        by_cases c1 : fr ((d + 1 : Nat) : Int) g b T lo
        · rw [decide_eq_true c1, decide_eq_false (fun z => c ⟨c1, z⟩)]; rfl
        · rw [decide_eq_false c1]; rfl
      · exact Ev.step rr (Ev.bind er i2)
theorem longest_ev (h g b T lo hi : Int) : ∃ r, Ev (fun k => pull_Longest.f k h g b T lo hi) r ∧ Ev (fun k => dropperref04_Longest.f k h g b T lo hi) r := by
  obtain ⟨e1, e2⟩ := asked_some h g b T lo hi
  by_cases c : askS h g b T lo hi = 0
  · have : okS h g b T ∧ (-60 ≤ lo ∧ lo ≤ hi) ∧ hi ≤ 60 := by
      unfold askS at c
      split at c
      · split at c
        · constructor <;> assumption
        · omega
      · omega
    obtain ⟨⟨c1, c2, c3, c4⟩, c5, c6⟩ := this
    obtain ⟨i1, i2⟩ := lng_loop (g := g) (b := b) (T := T) (lo := lo) (hi := hi) c2 (by omega) (by omega) c5.1 c5.2 c6 2000 (by omega)
    refine ⟨_, Ev.congr (fun k => ?_) i1, Ev.congr (fun k => ?_) i2⟩
    · unfold pull_Longest.f
      rw [e1, c]; rfl
    · unfold dropperref04_Longest.f
      rw [e2, c]; rfl
  · refine ⟨(0, askS h g b T lo hi), Ev.congr (fun k => ?_) (Ev.now _), Ev.congr (fun k => ?_) (Ev.now _)⟩
    · unfold pull_Longest.f
      rw [e1]; simp [c]
    · unfold dropperref04_Longest.f
      rw [e2]; simp [c]
/-- What the heat takes: the least base that can be. -/
def ndB (h g hi : Int) : Int := max ((17 * h * g * hi + 999) / 1000) 0
theorem tdiv_max {n : Int} (hn : -100000000 ≤ n) (hn2 : n ≤ 100000000) : mx (wrap64 (Int.tdiv n 1000)) 0 = max (n / 1000) 0 := by
  rw [mx_eq]
  by_cases c : 0 ≤ n
  · rw [Int.tdiv_eq_ediv_of_nonneg c, w64 (by omega) (by omega)]
  · have e : Int.tdiv n 1000 = -((-n) / 1000) := by
      have : n = -(-n) := by omega
      rw [this, Int.neg_tdiv, Int.tdiv_eq_ediv_of_nonneg (by omega)]
      simp
    rw [e, w64 (by omega) (by omega)]
    omega
theorem fr_hi {h g b T hi : Int} : 0 ≤ hgt h g b hi ∧ 0 ≤ b ↔ ndB h g hi ≤ b := by
  unfold hgt ndB
  omega
theorem hgt_up {h g b b' t : Int} : hgt h g b' t = hgt h g b t + (b' - b) * 1000 := by unfold hgt; omega
theorem ref_base_loop {h g T lo hi : Int} (hh : 1 ≤ h ∧ h ≤ 2000) (hg : 1 ≤ g ∧ g ≤ 5) (hT : 0 ≤ T ∧ T ≤ 10000) (hlo : -60 ≤ lo) (hlh : lo ≤ hi) (hhi : hi ≤ 60) : ∀ (d : Nat) (b : Int), (T + 1 - b).toNat = d → 0 ≤ b → b ≤ max (ndB h g hi) 0 ∨ b > T →
    Ev (fun k => dropperref04_Base.l0 k lo hi h g b T) (if ndB h g hi ≤ T ∧ b ≤ ndB h g hi ∧ fr h g (ndB h g hi) T lo ∧ fr h g (ndB h g hi) T hi then (ndB h g hi, 0) else (0, 5)) := by
  intro d
  have n0 : 0 ≤ ndB h g hi := by unfold ndB; omega
  have stuck : ∀ (e : Nat) (b : Int), (T + 1 - b).toNat = e → 0 ≤ b → (∀ c, b ≤ c → c ≤ T → ¬ (fr h g c T lo ∧ fr h g c T hi)) → Ev (fun k => dropperref04_Base.l0 k lo hi h g b T) (0, 5) := by
    intro e
    induction e with
    | zero =>
      intro b he hb hz
      refine ev_some _ fun k => ?_
      rw [dropperref04_Base.l0, if_neg (by omega)]
    | succ e ih =>
      intro b he hb hz
      have er := ref_free_ev (h := h) (g := g) (b := b) (T := T) (by omega) hg (by omega) hT hlo hlh hhi
      rw [decide_eq_false (hz b (by omega) (by omega))] at er
      refine Ev.step (f := fun k => (dropperref04_free.f k h g b T lo hi).bind fun t103 => (if t103 = true then (some (b, 0)) else (dropperref04_Base.l0 k lo hi h g (b + 1) T))) (fun k => ?_) (Ev.bind er (ih (b + 1) (by omega) (by omega) (fun c h1 h2 => hz c (by omega) h2)))
      rw [dropperref04_Base.l0, if_pos (by omega), w64 (n := b + 1) (by omega) (by omega)]
  induction d with
  | zero =>
    intro b hd hb hn
    rw [if_neg (fun z => by omega)]
    refine ev_some _ fun k => ?_
    rw [dropperref04_Base.l0, if_neg (by omega)]
  | succ d ih =>
    intro b hd hb hn
    have er := ref_free_ev (h := h) (g := g) (b := b) (T := T) (by omega) hg (by omega) hT hlo hlh hhi
    have rr : ∀ k, dropperref04_Base.l0 (k + 1) lo hi h g b T = (dropperref04_free.f k h g b T lo hi).bind fun t103 => (if t103 = true then (some (b, 0)) else (dropperref04_Base.l0 k lo hi h g (b + 1) T)) := by
      intro k
      rw [dropperref04_Base.l0, if_pos (by omega), w64 (n := b + 1) (by omega) (by omega)]
    by_cases c : b < ndB h g hi
    · have nf : ¬ (fr h g b T lo ∧ fr h g b T hi) := fun z => by
        have := (fr_hi (T := T)).1 ⟨z.2.1, hb⟩
        omega
      rw [decide_eq_false nf] at er
      have e2 := ih (b + 1) (by omega) (by omega) (.inl (by omega))
      have eq : (ndB h g hi ≤ T ∧ b ≤ ndB h g hi ∧ fr h g (ndB h g hi) T lo ∧ fr h g (ndB h g hi) T hi) ↔ (ndB h g hi ≤ T ∧ b + 1 ≤ ndB h g hi ∧ fr h g (ndB h g hi) T lo ∧ fr h g (ndB h g hi) T hi) := ⟨fun z => ⟨z.1, by omega, z.2.2⟩, fun z => ⟨z.1, by omega, z.2.2⟩⟩
      simp only [eq]
      exact Ev.step rr (Ev.bind er e2)
    · obtain rfl : b = ndB h g hi := by omega
      by_cases f : fr h g (ndB h g hi) T lo ∧ fr h g (ndB h g hi) T hi
      · rw [decide_eq_true f] at er
        rw [if_pos ⟨by omega, by omega, f⟩]
        exact Ev.step rr (Ev.bind er (Ev.now _))
      · rw [if_neg (fun z => f z.2.2)]
        refine stuck (d + 1) _ hd hb fun c h1 h2 z => f ?_
        have k0 := (fr_hi (T := T) (h := h) (g := g) (b := ndB h g hi) (hi := hi)).2 (Int.le_refl _)
        have m := hgt_mono (b := ndB h g hi) (h := h) (g := g) (by omega) (by omega) hlh
        obtain ⟨⟨z1, z2⟩, ⟨z3, z4⟩⟩ := z
        rw [hgt_up (b := ndB h g hi)] at z1 z2 z3 z4
        exact ⟨⟨by omega, by omega⟩, ⟨k0.1, by omega⟩⟩
theorem base_ev (h g b T lo hi : Int) : ∃ r, pull_Base.f h g b T lo hi = some r ∧ Ev (fun k => dropperref04_Base.f k h g b T lo hi) r := by
  obtain ⟨e1, e2⟩ := asked_some h g b T lo hi
  by_cases c : askS h g b T lo hi = 0
  · have : okS h g b T ∧ (-60 ≤ lo ∧ lo ≤ hi) ∧ hi ≤ 60 := by
      unfold askS at c
      split at c
      · split at c
        · constructor <;> assumption
        · omega
      · omega
    obtain ⟨⟨c1, c2, c3, c4⟩, c5, c6⟩ := this
    have n0 : 0 ≤ ndB h g hi := by unfold ndB; omega
    refine ⟨_, ?_, Ev.congr (f := fun k => dropperref04_Base.l0 k lo hi h g 0 T) (fun k => ?_) (ref_base_loop (h := h) (g := g) (T := T) (lo := lo) (hi := hi) c1 c2 (by omega) c5.1 c5.2 c6 _ 0 rfl (by omega) (.inl (by omega)))⟩
    · obtain ⟨q1, q2, q3⟩ := heat_bd (h := h) (g := g) (t := hi) (by omega) c2 (by omega)
      have en : mx (wrap64 (Int.tdiv (wrap64 (wrap64 (wrap64 (wrap64 (wrap64 (17 * h) * g) * hi) + 1000) - 1)) 1000)) 0 = ndB h g hi := by
        rw [q1, w64 (n := 17 * h * g * hi + 1000) (by omega) (by omega), w64 (n := 17 * h * g * hi + 1000 - 1) (by omega) (by omega), tdiv_max (by omega) (by omega)]
        unfold ndB
        congr 2
        omega
      unfold pull_Base.f
      rw [e1, c]
      simp only [Option.bind_some, if_true, en]
      by_cases d1 : ndB h g hi > T
      · rw [if_pos d1, if_neg (fun z => by omega)]
      · rw [if_neg d1, free_some (h := h) (g := g) (b := ndB h g hi) (T := T) (t := lo) (by omega) c2 (by omega) (by omega) (by omega), free_some (h := h) (g := g) (b := ndB h g hi) (T := T) (t := hi) (by omega) c2 (by omega) (by omega) (by omega)]
        by_cases f1 : fr h g (ndB h g hi) T lo
        · by_cases f2 : fr h g (ndB h g hi) T hi
          · rw [if_pos ⟨by omega, n0, f1, f2⟩]; simp [f1, f2]
          · rw [if_neg (fun z => f2 z.2.2.2)]; simp [f1, f2]
        · rw [if_neg (fun z => f1 z.2.2.1)]; simp [f1]
    · unfold dropperref04_Base.f
      rw [e2, c]; rfl
  · refine ⟨(0, askS h g b T lo hi), ?_, Ev.congr (fun k => ?_) (Ev.now _)⟩
    · unfold pull_Base.f
      rw [e1]; simp [c]
    · unfold dropperref04_Base.f
      rw [e2]; simp [c]
theorem PullLongest_pure (h g b T lo hi : Int) (w0 : (Lit.int .i64 h).wf = true) (w1 : (Lit.int .i64 g).wf = true) (w2 : (Lit.int .i64 b).wf = true) (w3 : (Lit.int .i64 T).wf = true) (w4 : (Lit.int .i64 lo).wf = true) (w5 : (Lit.int .i64 hi).wf = true) : ∃ k, dropperlaw04_PullLongest.f k h g b T lo hi = some true := by
  obtain ⟨K0, s0⟩ := awake_ev
  obtain ⟨r, ⟨K1, s1⟩, ⟨K2, s2⟩⟩ := longest_ev h g b T lo hi
  obtain ⟨r', a3, ⟨K4, s4⟩⟩ := base_ev h g b T lo hi
  generalize hk : K0 + K1 + K2 + K4 = K
  have a0 := s0 K (by omega)
  have a1 := s1 K (by omega)
  have a2 := s2 K (by omega)
  have a4 := s4 K (by omega)
  dsimp only at a0 a1 a2 a4
  refine ⟨K, ?_⟩
  unfold dropperlaw04_PullLongest.f
  rw [a1, a2, a3, a4]
  simp [a0]
end Go.Proofs.Ytiebfmenkpodeaa.G
