/- The document's answer on slopes: lines through corners. It finds the same least and greatest slope as the pairs' bounds. Plain Lean. -/
import Derived.Test.YtiapmkndgalgnaaPGeo
import Derived.Test.YtiapmkndgalgnaaPRatio
import Derived.Test.YtiapmkndgalgnaaGF57
namespace Go.Proofs.Ytiapmkndgalgnaa.G
set_option linter.unusedVariables false
open Go.RowKit Go.Proofs.YtiapmkndgalgnaaW.PrintWords Go.Proofs.YtiapmkndgalgnaaW.PrintLast
open Rat (divInt)

/-- A fact that omega does not look into. -/
structure Hd (p : Prop) : Prop where mk :: (out : p)
/-- The line from (x, y) to (u, z) goes through a window. -/
def thrC (x y u z : Int) (w : S73) : Prop := w.f1 * (u - x) ≤ y * (u - x) + (z - y) * (w.f0 - x) ∧ y * (u - x) + (z - y) * (w.f0 - x) ≤ w.f2 * (u - x)
instance (x y u z : Int) (w : S73) : Decidable (thrC x y u z w) := by unfold thrC; infer_instance

theorem mul_bd' {a b : Int} {A B : Nat} (ha : a.natAbs ≤ A) (hb : b.natAbs ≤ B) : (a * b).natAbs ≤ A * B := by
  rw [Int.natAbs_mul]; exact Nat.mul_le_mul ha hb

theorem through_ev {l : List S73} (h : Okl l) (hl : l.length ≤ 4611686018427387904) {x y u z : Int} (hx : 0 ≤ x) (hxu : x < u) (hu : u ≤ 100000) (hy : -1000 ≤ y) (hy2 : y ≤ 1000) (hz : -1000 ≤ z) (hz2 : z ≤ 1000) :
    ∀ (d i : Nat) (r : Bool), l.length - i = d → i ≤ l.length → (r = true ↔ ∀ w ∈ l.drop i, thrC x y u z w) → Ev (fun k => dropperref03_through.l0 k l x y u z i) r := by
  intro d
  induction d with
  | zero =>
    intro i r hd hi hr
    obtain rfl : i = l.length := by omega
    refine ev_some _ fun k => ?_
    rw [dropperref03_through.l0, if_neg (by omega)]
    rw [hr.2 (by simp)]
  | succ d ih =>
    intro i r hd hi hr
    have hlt : i < l.length := by omega
    have hb := h.bnd _ (rd_mem hlt)
    rw [drop_rd l i hlt] at hr
    generalize hw : rd_T73 l (i : Int) = w at *
    obtain ⟨b1, b2, b3, b4, b5⟩ := hb
    have m1 := mul_bd' (a := y) (b := u - x) (A := 1000) (B := 100000) (by omega) (by omega)
    have m2 := mul_bd' (a := z - y) (b := w.f0 - x) (A := 2000) (B := 100000) (by omega) (by omega)
    have m3 := mul_bd' (a := w.f1) (b := u - x) (A := 1000) (B := 100000) (by omega) (by omega)
    have m4 := mul_bd' (a := w.f2) (b := u - x) (A := 1000) (B := 100000) (by omega) (by omega)
    have red : ∀ k, dropperref03_through.l0 (k + 1) l x y u z i = if y * (u - x) + (z - y) * (w.f0 - x) < w.f1 * (u - x) then some false else if y * (u - x) + (z - y) * (w.f0 - x) > w.f2 * (u - x) then some false else dropperref03_through.l0 k l x y u z ((i + 1 : Nat) : Int) := by
      intro k
      rw [dropperref03_through.l0, if_pos (by omega), if_pos (by omega), hw, w64 (n := u - x) (by omega) (by omega), w64 (n := z - y) (by omega) (by omega), w64 (n := w.f0 - x) (by omega) (by omega),
        w64 (n := y * (u - x)) (by omega) (by omega), w64 (n := (z - y) * (w.f0 - x)) (by omega) (by omega), w64 (n := y * (u - x) + (z - y) * (w.f0 - x)) (by omega) (by omega), w64 (n := w.f1 * (u - x)) (by omega) (by omega), w64 (n := w.f2 * (u - x)) (by omega) (by omega), w64 (by omega) (by omega)]
      rfl
    by_cases c : thrC x y u z w
    · refine Ev.step (fun k => ?_) (ih (i + 1) r (by omega) (by omega) (by rw [hr]; simp [c]))
      rw [red, if_neg (by have := c.1; omega), if_neg (by have := c.2; omega)]
    · have e : r = false := by
        cases r with
        | false => rfl
        | true => exact absurd (hr.1 rfl w List.mem_cons_self) c
      rw [e]
      refine ev_some _ fun k => ?_
      rw [red]
      by_cases c1 : y * (u - x) + (z - y) * (w.f0 - x) < w.f1 * (u - x)
      · rw [if_pos c1]
      · rw [if_neg c1, if_pos]
        by_cases c2 : y * (u - x) + (z - y) * (w.f0 - x) > w.f2 * (u - x)
        · exact c2
        · exact absurd ⟨by omega, by omega⟩ c

/-- A corner of a window. -/
def cor (w : S73) (hi : Bool) : Int := if hi then w.f2 else w.f1
theorem corner_some (w : S73) (b : Bool) : dropperref03_corner.f w.f0 w.f1 w.f2 b = some (cor w b) := by
  unfold dropperref03_corner.f cor; cases b <;> rfl
theorem cor_bd {w : S73} (h : inB w) (b : Bool) : -1000 ≤ cor w b ∧ cor w b ≤ 1000 := by
  obtain ⟨_, _, _, _, _⟩ := h
  unfold cor; cases b <;> simp <;> omega

/-- The slope m is that of a line through corners number c of two windows, which goes through all. -/
def cand (l : List S73) (i k c : Nat) (m : Rat) : Prop :=
  let a := rd_T73 l (i : Int); let b := rd_T73 l (k : Int); let y := cor a (c % 2 == 1); let z := cor b (c / 2 == 1)
  (∀ w ∈ l, thrC a.f0 y b.f0 z w) ∧ m = divInt (z - y) (b.f0 - a.f0)
def Ext2 (s : St) (C : Rat → Prop) : Prop :=
  match s with
  | none => ∀ m, ¬ C m
  | some (p, q) => C p ∧ C q ∧ ∀ m, C m → p ≤ m ∧ m ≤ q
theorem Ext2.congr {s : St} {C C' : Rat → Prop} (h : Ext2 s C) (e : ∀ m, C m ↔ C' m) : Ext2 s C' := by
  have : C = C' := by funext a; exact propext (e a)
  rwa [← this]
def putS (s : St) (m : Rat) : St :=
  match s with
  | none => some (m, m)
  | some (p, q) => some (if m < p then m else p, if q < m then m else q)
theorem put_ok {s : St} {m : Rat} (hs : okS s) (hm : small m) : okS (putS s m) := by
  cases s with
  | none => exact ⟨hm, hm⟩
  | some z =>
    obtain ⟨p, q⟩ := z
    simp only [putS, okS]
    refine ⟨?_, ?_⟩ <;> split <;> first | exact hm | exact hs.1 | exact hs.2
theorem Ext2.put {s : St} {C : Rat → Prop} (h : Ext2 s C) (m : Rat) : Ext2 (putS s m) (fun x => C x ∨ x = m) := by
  cases s with
  | none =>
    refine ⟨.inr rfl, .inr rfl, ?_⟩
    rintro x (hx | rfl)
    · exact absurd hx (h x)
    · exact ⟨by grind, by grind⟩
  | some z =>
    obtain ⟨p, q⟩ := z
    obtain ⟨h1, h2, h3⟩ := h
    refine ⟨?_, ?_, ?_⟩
    · by_cases c : m < p
      · rw [if_pos c]; exact .inr rfl
      · rw [if_neg c]; exact .inl h1
    · by_cases c : q < m
      · rw [if_pos c]; exact .inr rfl
      · rw [if_neg c]; exact .inl h2
    · have hpq := h3 p h1
      rintro x (hx | rfl)
      · have := h3 x hx
        constructor <;> split <;> grind
      · constructor <;> split <;> grind
theorem ref_less {p q : Rat} (hp : small p) (hq : small q) : dropperref03_less.f p.num p.den q.num q.den = some (decide (p < q)) := small_less hp hq

theorem small_div {n d : Int} (hn : n.natAbs ≤ 100000) (hd : 0 < d) (hd2 : d ≤ 100000) : small (divInt n d) := by
  have h := ratio_num_le (n := n) (d := d) hd
  exact ⟨Nat.le_trans h.1 hn, Nat.le_trans h.2 (by omega)⟩

set_option maxHeartbeats 1000000 in
theorem ref2 {l : List S73} (h : Okl l) (hl : l.length ≤ 4611686018427387904) {i k : Nat} (hik : i < k) (hk : k < l.length) {r : Int × Int × Int × Int × Bool} : ∀ (d c : Nat) (s : St) (C : Rat → Prop), 4 - c = d → c ≤ 4 → okS s → Ext2 s C →
    (∀ s', okS s' → Ext2 s' (fun m => C m ∨ ∃ c', c ≤ c' ∧ c' < 4 ∧ cand l i k c' m) → Ev (fun n => dropperref03_slopes.l1 n l (encS s').2.2.2.2 i ((k + 1 : Nat) : Int) (encS s').1 (encS s').2.1 (encS s').2.2.1 (encS s').2.2.2.1) r) →
    Ev (fun n => dropperref03_slopes.l2 n l (encS s).2.2.2.2 i k c (encS s).1 (encS s).2.1 (encS s).2.2.1 (encS s).2.2.2.1) r := by
  intro d
  induction d with
  | zero =>
    intro c s C hd hc hs hE hr
    obtain rfl : c = 4 := by omega
    refine Ev.step (fun n => ?_) (hr s hs (hE.congr fun m => ⟨.inl, fun z => z.elim id (fun ⟨c', q1, q2, _⟩ => by omega)⟩))
    rw [dropperref03_slopes.l2, if_neg (by omega), w64 (by omega) (by omega)]
    rfl
  | succ d ih =>
    intro c s C hd hc hs hE hr
    have hc4 : c < 4 := by omega
    have ha := h.bnd _ (rd_mem (show i < l.length by omega))
    have hb := h.bnd _ (rd_mem hk)
    have hab := h.lt hik hk
    have p0 : (c : Int) < 4 := by omega
    have r1 : 4 - (c + 1) = d := by omega
    have r2 : c + 1 ≤ 4 := by omega
    have r3 : -4611686018427387904 ≤ (c : Int) ∧ (c : Int) ≤ 4611686018427387904 := by omega
    have p1 : 0 ≤ (i : Int) := by omega
    have p2 : (i : Int) < l.length := by omega
    have p3 : 0 ≤ (k : Int) := by omega
    have p4 : (k : Int) < l.length := by omega
    have hw : wrap64 ((c : Int) + 1) = ((c + 1 : Nat) : Int) := by rw [w64 (by omega) (by omega)]; rfl
    have ec1 : (Int.tmod (c : Int) 2 == 1) = (c % 2 == 1) := by
      rw [Int.tmod_eq_emod_of_nonneg (by omega)]
      rcases (show c = 0 ∨ c = 1 ∨ c = 2 ∨ c = 3 by omega) with rfl | rfl | rfl | rfl <;> rfl
    have ec0 : Int.tdiv (c : Int) 2 = ((c / 2 : Nat) : Int) := by
      rcases (show c = 0 ∨ c = 1 ∨ c = 2 ∨ c = 3 by omega) with rfl | rfl | rfl | rfl <;> rfl
    have ec2 : (wrap64 (Int.tdiv (c : Int) 2) == 1) = (c / 2 == 1) := by
      rw [ec0, w64 (by omega) (by omega)]
      rcases (show c = 0 ∨ c = 1 ∨ c = 2 ∨ c = 3 by omega) with rfl | rfl | rfl | rfl <;> rfl
    have hcand : ∀ m, cand l i k c m ↔ (∀ w ∈ l, thrC (rd_T73 l (i : Int)).f0 (cor (rd_T73 l (i : Int)) (c % 2 == 1)) (rd_T73 l (k : Int)).f0 (cor (rd_T73 l (k : Int)) (c / 2 == 1)) w) ∧ m = divInt (cor (rd_T73 l (k : Int)) (c / 2 == 1) - cor (rd_T73 l (i : Int)) (c % 2 == 1)) ((rd_T73 l (k : Int)).f0 - (rd_T73 l (i : Int)).f0) := fun m => Iff.rfl
    have hy := cor_bd ha (c % 2 == 1)
    have hz := cor_bd hb (c / 2 == 1)
    have e1 := corner_some (rd_T73 l (i : Int)) (c % 2 == 1)
    have e2 := corner_some (rd_T73 l (k : Int)) (c / 2 == 1)
    generalize hRa : rd_T73 l (i : Int) = a at *
    generalize hRb : rd_T73 l (k : Int) = b at *
    generalize cor a (c % 2 == 1) = y at *
    generalize cor b (c / 2 == 1) = z at *
    obtain ⟨a1, a2, a3, a4, a5⟩ := ha
    obtain ⟨b1, b2, b3, b4, b5⟩ := hb
    have tev := fun r (hr : r = true ↔ ∀ w ∈ l, thrC a.f0 y b.f0 z w) => through_ev h hl (x := a.f0) (y := y) (u := b.f0) (z := z) (by omega) hab (by omega) hy.1 hy.2 hz.1 hz.2 l.length 0 r (by omega) (by omega) (by rw [List.drop_zero]; exact hr)
    have z1 : wrap64 (z - y) = z - y := w64 (by omega) (by omega)
    have z2 : wrap64 (b.f0 - a.f0) = b.f0 - a.f0 := w64 (by omega) (by omega)
    have sm : small (divInt (z - y) (b.f0 - a.f0)) := small_div (by omega) (by omega) (by omega)
    have rev := ratio_ev (z - y) (b.f0 - a.f0) (by omega) (by omega) (by omega) (by omega)
    -- what one round comes to
    have red : ∀ (n : Nat) (X : Int × Int × Int × Int × Bool), dropperref03_slopes.l2 (n + 1) l X.2.2.2.2 i k c X.1 X.2.1 X.2.2.1 X.2.2.2.1 = (dropperref03_through.f n l a.f0 y b.f0 z).bind fun t111 => (if t111 = true then ((dropperref03_ratio.f n (z - y) (b.f0 - a.f0)).bind fun bt114 => (if X.2.2.2.2 = true then ((dropperref03_less.f bt114.1 bt114.2 X.1 X.2.1).bind fun t117 => (dropperref03_slopes.j3 n l X.2.2.2.2 i k c t117 X.1 X.2.1 X.2.2.1 X.2.2.2.1 bt114.1 bt114.2)) else (dropperref03_slopes.j3 n l X.2.2.2.2 i k c true X.1 X.2.1 X.2.2.1 X.2.2.2.1 bt114.1 bt114.2))) else (dropperref03_slopes.l2 n l X.2.2.2.2 i k ((c + 1 : Nat) : Int) X.1 X.2.1 X.2.2.1 X.2.2.2.1)) := by
      intro n X
      rewrite [dropperref03_slopes.l2, if_pos p0, if_pos p1, if_pos p2, ec1, ec2, hRa, e1]
      simp only [Option.bind_some]
      rewrite [if_pos p3, if_pos p4, hRb, e2]
      simp only [Option.bind_some]
      simp only [z1, z2, hw]
    have hw := Hd.mk hw
    clear ec0 ec1 ec2 z1 z2 e1 e2 hRa hRb
    by_cases hthr : ∀ w ∈ l, thrC a.f0 y b.f0 z w
    · obtain ⟨K1, t1⟩ := tev true ⟨fun _ => hthr, fun _ => rfl⟩
      clear tev
      have hm := sm
      generalize hM : divInt (z - y) (b.f0 - a.f0) = m at *
      obtain ⟨K2, t2⟩ := rev
      obtain ⟨K3, t3⟩ := ih (c + 1) (putS s m) _ r1 r2 (put_ok hs hm) (hE.put m) (fun s' o' E' => hr s' o' (E'.congr fun x => by
        constructor
        · rintro ((h1 | rfl) | ⟨c', q1, q2, q3⟩)
          · exact .inl h1
          · exact .inr ⟨c, Nat.le_refl c, hc4, (hcand _).2 ⟨hthr, rfl⟩⟩
          · exact .inr ⟨c', Nat.le_of_succ_le q1, q2, q3⟩
        · rintro (h1 | ⟨c', q1, q2, q3⟩)
          · exact .inl (.inl h1)
          · by_cases e : c' = c
            · subst e; exact .inl (.inr ((hcand x).1 q3).2)
            · exact .inr ⟨c', Nat.lt_of_le_of_ne q1 (fun z => e z.symm), q2, q3⟩))
      refine ⟨K1 + K2 + K3 + 3, fun n hn => ?_⟩
      obtain ⟨n, rfl⟩ : ∃ j, n = j + 2 := ⟨n - 2, by omega⟩
      have t1 := t1 (n + 1) (by omega)
      have t2 := t2 (n + 1) (by omega)
      have t3 := t3 n (by omega)
      dsimp only at t1 t2 t3 ⊢
      rw [red, show dropperref03_through.f (n + 1) l a.f0 y b.f0 z = some true from t1]
      simp only [Option.bind_some, if_true]
      rw [t2]
      simp only [Option.bind_some]
      cases s with
      | none =>
        simp only [encS, putS, Bool.false_eq_true, if_false] at t3 ⊢
        rw [dropperref03_slopes.j3, hw.out]
        simp only [Bool.false_eq_true, if_false, if_true]
        exact t3
      | some zz =>
        obtain ⟨p, q⟩ := zz
        have l1 := ref_less hm hs.1
        have l2 := ref_less hs.2 hm
        simp only [encS, putS, if_true] at t3 ⊢
        rw [l1]
        simp only [Option.bind_some]
        rw [dropperref03_slopes.j3, hw.out]
        by_cases d1 : m < p <;> by_cases d2 : q < m <;>
          simp only [d1, d2, decide_true, decide_false, if_true, if_false, l2, Option.bind_some, Bool.false_eq_true] at t3 ⊢ <;> exact t3
    · obtain ⟨K1, t1⟩ := tev false ⟨fun h => absurd h (by decide), fun h => absurd h hthr⟩
      clear tev
      obtain ⟨K3, t3⟩ := ih (c + 1) s C r1 r2 hs hE (fun s' o' E' => hr s' o' (E'.congr fun x => by
        constructor
        · rintro (h1 | ⟨c', q1, q2, q3⟩)
          · exact .inl h1
          · exact .inr ⟨c', Nat.le_of_succ_le q1, q2, q3⟩
        · rintro (h1 | ⟨c', q1, q2, q3⟩)
          · exact .inl h1
          · by_cases e : c' = c
            · subst e; exact absurd ((hcand x).1 q3).1 hthr
            · exact .inr ⟨c', Nat.lt_of_le_of_ne q1 (fun z => e z.symm), q2, q3⟩))
      refine ⟨K1 + K3 + 2, fun n hn => ?_⟩
      obtain ⟨n, rfl⟩ : ∃ j, n = j + 1 := ⟨n - 1, by omega⟩
      have t1 := t1 n (by omega)
      have t3 := t3 n (by omega)
      dsimp only at t1 t3 ⊢
      rw [red, show dropperref03_through.f n l a.f0 y b.f0 z = some false from t1]
      simp only [Option.bind_some, Bool.false_eq_true, if_false]
      exact t3

theorem ref1 {l : List S73} (h : Okl l) (hl : l.length ≤ 4611686018427387904) {i : Nat} (hi : i < l.length) {r : Int × Int × Int × Int × Bool} : ∀ (d k : Nat) (s : St) (C : Rat → Prop), l.length - k = d → k ≤ l.length → i < k → okS s → Ext2 s C →
    (∀ s', okS s' → Ext2 s' (fun m => C m ∨ ∃ k' c', k ≤ k' ∧ k' < l.length ∧ c' < 4 ∧ cand l i k' c' m) → Ev (fun n => dropperref03_slopes.l0 n l (encS s').2.2.2.2 ((i + 1 : Nat) : Int) (encS s').1 (encS s').2.1 (encS s').2.2.1 (encS s').2.2.2.1) r) →
    Ev (fun n => dropperref03_slopes.l1 n l (encS s).2.2.2.2 i k (encS s).1 (encS s).2.1 (encS s).2.2.1 (encS s).2.2.2.1) r := by
  intro d
  induction d with
  | zero =>
    intro k s C hd hk hik hs hE hr
    have e := hr s hs (hE.congr fun m => ⟨.inl, fun z => z.elim id (fun ⟨k', c', q1, q2, _⟩ => by omega)⟩)
    refine Ev.step (fun n => ?_) e
    have hw : wrap64 ((i : Int) + 1) = ((i + 1 : Nat) : Int) := by rw [w64 (by omega) (by omega)]; rfl
    rewrite [dropperref03_slopes.l1, if_neg (by omega), hw]
    rfl
  | succ d ih =>
    intro k s C hd hk hik hs hE hr
    have hlt : k < l.length := by omega
    have r1 : l.length - (k + 1) = d := by omega
    have r2 : k + 1 ≤ l.length := by omega
    have r3 : i < k + 1 := by omega
    have e := ref2 h hl hik hlt 4 0 s C rfl (by omega) hs hE (fun s' o' E' => ih (k + 1) s' _ r1 r2 r3 o' E' (fun s'' o'' E'' => hr s'' o'' (E''.congr fun m => by
      constructor
      · rintro ((h1 | ⟨c', _, q2, q3⟩) | ⟨k', c', q1, q2, q3, q4⟩)
        · exact .inl h1
        · exact .inr ⟨k, c', Nat.le_refl k, hlt, q2, q3⟩
        · exact .inr ⟨k', c', Nat.le_of_succ_le q1, q2, q3, q4⟩
      · rintro (h1 | ⟨k', c', q1, q2, q3, q4⟩)
        · exact .inl (.inl h1)
        · by_cases e : k' = k
          · subst e; exact .inl (.inr ⟨c', Nat.zero_le c', q3, q4⟩)
          · exact .inr ⟨k', c', Nat.lt_of_le_of_ne q1 (fun z => e z.symm), q2, q3, q4⟩)))
    refine Ev.step (fun n => ?_) e
    rewrite [dropperref03_slopes.l1, if_pos (by omega)]
    rfl

theorem ref0 {l : List S73} (h : Okl l) (hl : l.length ≤ 4611686018427387904) {r : Int × Int × Int × Int × Bool} : ∀ (d i : Nat) (s : St) (C : Rat → Prop), l.length - i = d → i ≤ l.length → okS s → Ext2 s C →
    (∀ s', okS s' → Ext2 s' (fun m => C m ∨ ∃ i' k' c', i ≤ i' ∧ i' < k' ∧ k' < l.length ∧ c' < 4 ∧ cand l i' k' c' m) → r = encS s') →
    Ev (fun n => dropperref03_slopes.l0 n l (encS s).2.2.2.2 i (encS s).1 (encS s).2.1 (encS s).2.2.1 (encS s).2.2.2.1) r := by
  intro d
  induction d with
  | zero =>
    intro i s C hd hi hs hE hr
    have e := hr s hs (hE.congr fun m => ⟨.inl, fun z => z.elim id (fun ⟨i', k', c', q1, q2, q3, _⟩ => by omega)⟩)
    refine ev_some _ fun n => ?_
    rewrite [dropperref03_slopes.l0, if_neg (by omega), e]
    rfl
  | succ d ih =>
    intro i s C hd hi hs hE hr
    have hlt : i < l.length := by omega
    have r1 : l.length - (i + 1) = d := by omega
    have r2 : i + 1 ≤ l.length := by omega
    have hw : wrap64 ((i : Int) + 1) = ((i + 1 : Nat) : Int) := by rw [w64 (by omega) (by omega)]; rfl
    have p : (i : Int) < l.length := by omega
    have e := ref1 h hl hlt (l.length - (i + 1)) (i + 1) s C rfl r2 (Nat.lt_succ_self i) hs hE (fun s' o' E' => ih (i + 1) s' _ r1 r2 o' E' (fun s'' o'' E'' => hr s'' o'' (E''.congr fun m => by
      constructor
      · rintro ((h1 | ⟨k', c', q1, q2, q3, q4⟩) | ⟨i', k', c', q1, q2, q3, q4, q5⟩)
        · exact .inl h1
        · exact .inr ⟨i, k', c', Nat.le_refl i, q1, q2, q3, q4⟩
        · exact .inr ⟨i', k', c', Nat.le_of_succ_le q1, q2, q3, q4, q5⟩
      · rintro (h1 | ⟨i', k', c', q1, q2, q3, q4, q5⟩)
        · exact .inl (.inl h1)
        · by_cases e : i' = i
          · subst e; exact .inl (.inr ⟨k', c', q2, q3, q4, q5⟩)
          · exact .inr ⟨i', k', c', Nat.lt_of_le_of_ne q1 (fun z => e z.symm), q2, q3, q4, q5⟩)))
    refine Ev.step (fun n => ?_) e
    rewrite [dropperref03_slopes.l0, if_pos p, hw]
    rfl

theorem Ext2.uniq {s t : St} {C : Rat → Prop} (h : Ext2 s C) (k : Ext2 t C) : s = t := by
  cases s with
  | none =>
    cases t with
    | none => rfl
    | some z => exact absurd k.1 (h _)
  | some z =>
    obtain ⟨p, q⟩ := z
    cases t with
    | none => exact absurd h.1 (k _)
    | some y =>
      obtain ⟨p', q'⟩ := y
      obtain ⟨h1, h2, h3⟩ := h
      obtain ⟨k1, k2, k3⟩ := k
      have a1 := h3 _ k1
      have a2 := h3 _ k2
      have b1 := k3 _ h1
      have b2 := k3 _ h2
      have e1 : p = p' := by grind
      have e2 : q = q' := by grind
      rw [e1, e2]

/-- The least and the greatest slope, if there is a line. -/
def finS (l : List S73) : St :=
  match allS l l.length with
  | none => none
  | some (p, q) => if q < p then none else some (p, q)

theorem thrC_iff {x u : Int} (hxu : x < u) (y z : Int) (w : S73) : thrC x y u z w ↔ thr (divInt (z - y) (u - x)) ((y : Rat) - divInt (z - y) (u - x) * x) w := by
  have hp : (0 : Rat) < ((u - x : Int) : Rat) := by
    have : ((0 : Int) : Rat) < ((u - x : Int) : Rat) := Rat.intCast_lt_intCast.2 (by omega)
    simpa using this
  have hne : ((u - x : Int) : Rat) ≠ 0 := by grind
  have hm : divInt (z - y) (u - x) * ((u - x : Int) : Rat) = ((z - y : Int) : Rat) := by
    rw [Rat.divInt_eq_div]; exact Rat.div_mul_cancel hne
  generalize divInt (z - y) (u - x) = m at *
  simp only [Rat.intCast_sub] at hm hp
  unfold thrC thr
  have i1 : w.f1 * (u - x) ≤ y * (u - x) + (z - y) * (w.f0 - x) ↔ (w.f1 : Rat) * ((u : Rat) - x) ≤ (m * w.f0 + ((y : Rat) - m * x)) * ((u : Rat) - x) := by
    have e : (m * w.f0 + ((y : Rat) - m * x)) * ((u : Rat) - x) = (y : Rat) * ((u : Rat) - x) + ((z : Rat) - y) * (w.f0 - x) := by grind
    rw [e, ← Rat.intCast_le_intCast]; simp
  have i2 : y * (u - x) + (z - y) * (w.f0 - x) ≤ w.f2 * (u - x) ↔ (m * w.f0 + ((y : Rat) - m * x)) * ((u : Rat) - x) ≤ (w.f2 : Rat) * ((u : Rat) - x) := by
    have e : (m * w.f0 + ((y : Rat) - m * x)) * ((u : Rat) - x) = (y : Rat) * ((u : Rat) - x) + ((z : Rat) - y) * (w.f0 - x) := by grind
    rw [e, ← Rat.intCast_le_intCast]; simp
  rw [i1, i2]
  constructor
  · rintro ⟨h1, h2⟩
    exact ⟨Rat.le_of_mul_le_mul_right h1 hp, Rat.le_of_mul_le_mul_right h2 hp⟩
  · rintro ⟨h1, h2⟩
    exact ⟨Rat.mul_le_mul_of_nonneg_right h1 (by grind), Rat.mul_le_mul_of_nonneg_right h2 (by grind)⟩

/-- The slopes of lines through corners that go through all windows. -/
def Cn (l : List S73) (m : Rat) : Prop := ∃ i k c : Nat, i < k ∧ k < l.length ∧ c < 4 ∧ cand l i k c m
theorem cand_bound {l : List S73} (h : Okl l) {i k c : Nat} (hik : i < k) (hk : k < l.length) {m : Rat} (hc : cand l i k c m) : ∃ e, ∀ w ∈ l, thr m e w := by
  obtain ⟨h1, rfl⟩ := hc
  exact ⟨_, fun w hw => (thrC_iff (h.lt hik hk) _ _ w).1 (h1 w hw)⟩
/-- A line with slope m through all windows that touches a's and b's corners makes m a candidate. -/
theorem cand_of {l : List S73} (h : Okl l) {i k c : Nat} (hik : i < k) (hk : k < l.length) {m e : Rat} (hl : ∀ w ∈ l, thr m e w)
    (ha : m * (rd_T73 l (i : Int)).f0 + e = cor (rd_T73 l (i : Int)) (c % 2 == 1)) (hb : m * (rd_T73 l (k : Int)).f0 + e = cor (rd_T73 l (k : Int)) (c / 2 == 1)) : cand l i k c m := by
  have hlt := h.lt hik hk
  unfold cand
  generalize rd_T73 l (i : Int) = a at *
  generalize rd_T73 l (k : Int) = b at *
  dsimp only
  generalize cor a (c % 2 == 1) = y at *
  generalize cor b (c / 2 == 1) = z at *
  have hp := cast_pos hlt
  have hne : ((b.f0 - a.f0 : Int) : Rat) ≠ 0 := by grind
  have hm : divInt (z - y) (b.f0 - a.f0) * ((b.f0 - a.f0 : Int) : Rat) = ((z - y : Int) : Rat) := by
    rw [Rat.divInt_eq_div]; exact Rat.div_mul_cancel hne
  have em : m = divInt (z - y) (b.f0 - a.f0) := by
    have h1 : m * ((b.f0 - a.f0 : Int) : Rat) = ((z - y : Int) : Rat) := by simp only [Rat.intCast_sub]; grind
    have h2 : m * ((b.f0 - a.f0 : Int) : Rat) = divInt (z - y) (b.f0 - a.f0) * ((b.f0 - a.f0 : Int) : Rat) := by rw [h1, hm]
    have h3 : ¬ m < divInt (z - y) (b.f0 - a.f0) := fun hh => by have := Rat.mul_lt_mul_of_pos_right hh hp; grind
    have h4 : ¬ divInt (z - y) (b.f0 - a.f0) < m := fun hh => by have := Rat.mul_lt_mul_of_pos_right hh hp; grind
    grind
  refine ⟨fun w hw => ?_, em⟩
  rw [thrC_iff hlt, ← em]
  have e2 : (y : Rat) - m * a.f0 = e := by grind
  rw [e2]
  exact hl w hw

theorem mem_rd {l : List S73} {a : S73} (ha : a ∈ l) : ∃ i : Nat, i < l.length ∧ rd_T73 l (i : Int) = a := by
  obtain ⟨i, hi, rfl⟩ := List.getElem_of_mem ha
  exact ⟨i, hi, rd_nat l i hi⟩
theorem idx_lt {l : List S73} (h : Okl l) {i j : Nat} (hi : i < l.length) (hj : j < l.length) (hlt : (rd_T73 l (i : Int)).f0 < (rd_T73 l (j : Int)).f0) : i < j := by
  rcases Nat.lt_trichotomy i j with c | c | c
  · exact c
  · subst c; omega
  · have := h.lt c hi; omega

theorem fin_ext {l : List S73} (h : Okl l) : Ext2 (finS l) (Cn l) := by
  have hE := all_ext h
  have hF := feas_iff h
  unfold finS
  generalize allS l l.length = s at hE hF
  cases s with
  | none =>
    rintro m ⟨i, k, c, hik, hk, _, _⟩
    exact hE _ _ ⟨rd_mem (show i < l.length by omega), rd_mem hk, h.lt hik hk⟩
  | some z =>
    obtain ⟨p, q⟩ := z
    obtain ⟨h1, ⟨a1, b1, ⟨qa, qb, qab⟩, e1⟩, ⟨a2, b2, ⟨ra, rb, rab⟩, e2⟩⟩ := hE
    have hbd : ∀ m, Cn l m → p ≤ m ∧ m ≤ q := by
      rintro m ⟨i, k, c, hik, hk, _, hc⟩
      obtain ⟨e, he⟩ := cand_bound h hik hk hc
      have z1 := (feas_pairs he qa qb qab).1
      have z2 := (feas_pairs he ra rb rab).2
      rw [e1] at z1
      rw [e2] at z2
      exact ⟨z1, z2⟩
    dsimp only
    by_cases c : q < p
    · rw [if_pos c]
      intro m hm
      have := hbd m hm
      grind
    · rw [if_neg c]
      have hne : l ≠ [] := by rintro rfl; simp at qa
      have line : ∀ m, p ≤ m → m ≤ q → ∃ e, ∀ w ∈ l, thr m e w := by
        intro m m1 m2
        obtain ⟨u, hu, hm⟩ := list_max (fun w => (w.f1 : Rat) - m * w.f0) l hne
        exact ⟨_, line_at h (m := m) (fun a b ha hb hab => by
          have := h1 a b ⟨ha, hb, hab⟩
          exact ⟨by grind, by grind⟩) hu hm⟩
      refine ⟨?_, ?_, hbd⟩
      · obtain ⟨e, he⟩ := line p (by grind) (by grind)
        have t1 := he a1 qa
        have t2 := he b1 qb
        have t3 := (lo_le qab p).1 (by rw [e1]; grind)
        obtain ⟨i, hi, rfl⟩ := mem_rd qa
        obtain ⟨k, hk, rfl⟩ := mem_rd qb
        have t4 : ¬ (((rd_T73 l (k : Int)).f1 : Rat) - (rd_T73 l (i : Int)).f2 < p * (rd_T73 l (k : Int)).f0 - p * (rd_T73 l (i : Int)).f0) := by
          intro hh
          have hp := cast_pos qab
          have hm : loS (rd_T73 l (i : Int)) (rd_T73 l (k : Int)) * (((rd_T73 l (k : Int)).f0 - (rd_T73 l (i : Int)).f0 : Int) : Rat) = (((rd_T73 l (k : Int)).f1 - (rd_T73 l (i : Int)).f2 : Int) : Rat) := by
            unfold loS; rw [Rat.divInt_eq_div]; exact Rat.div_mul_cancel (by grind)
          rw [e1] at hm
          simp only [Rat.intCast_sub] at hm
          grind
        unfold thr at t1 t2
        refine ⟨i, k, 1, idx_lt h hi hk qab, hk, by omega, cand_of h (idx_lt h hi hk qab) hk he ?_ ?_⟩
        · show _ = ((rd_T73 l (i : Int)).f2 : Rat)
          grind
        · show _ = ((rd_T73 l (k : Int)).f1 : Rat)
          grind
      · obtain ⟨e, he⟩ := line q (by grind) (by grind)
        have t1 := he a2 ra
        have t2 := he b2 rb
        have t3 := (le_hi rab q).1 (by rw [e2]; grind)
        obtain ⟨i, hi, rfl⟩ := mem_rd ra
        obtain ⟨k, hk, rfl⟩ := mem_rd rb
        have t4 : ¬ (q * (rd_T73 l (k : Int)).f0 - q * (rd_T73 l (i : Int)).f0 < ((rd_T73 l (k : Int)).f2 : Rat) - (rd_T73 l (i : Int)).f1) := by
          intro hh
          have hp := cast_pos rab
          have hm : hiS (rd_T73 l (i : Int)) (rd_T73 l (k : Int)) * (((rd_T73 l (k : Int)).f0 - (rd_T73 l (i : Int)).f0 : Int) : Rat) = (((rd_T73 l (k : Int)).f2 - (rd_T73 l (i : Int)).f1 : Int) : Rat) := by
            unfold hiS; rw [Rat.divInt_eq_div]; exact Rat.div_mul_cancel (by grind)
          rw [e2] at hm
          simp only [Rat.intCast_sub] at hm
          grind
        unfold thr at t1 t2
        refine ⟨i, k, 2, idx_lt h hi hk rab, hk, by omega, cand_of h (idx_lt h hi hk rab) hk he ?_ ?_⟩
        · show _ = ((rd_T73 l (i : Int)).f1 : Rat)
          grind
        · show _ = ((rd_T73 l (k : Int)).f2 : Rat)
          grind

/-- The document's slopes are the pairs' bounds, if these leave room. -/
theorem ref_slopes_ev {l : List S73} (h : Okl l) (hl : l.length ≤ 4611686018427387904) : Ev (fun n => dropperref03_slopes.f n l) (encS (finS l)) := by
  refine ref0 h hl l.length 0 none (fun _ => False) (by omega) (by omega) trivial (fun m hm => hm) (fun s' o' E' => ?_)
  have e := (fin_ext h).uniq (E'.congr fun m => (show (False ∨ ∃ i' k' c', 0 ≤ i' ∧ i' < k' ∧ k' < l.length ∧ c' < 4 ∧ cand l i' k' c' m) ↔ Cn l m from by
    unfold Cn; simp))
  rw [e]
end Go.Proofs.Ytiapmkndgalgnaa.G
