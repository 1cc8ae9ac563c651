/- The numbers of lengths with which ways lead on, as the document tells them. Plain Lean. -/
import Derived.Test.YtiebfmenkpodeaaPBest0
import Derived.Test.YtiebfmenkpodeaaGF82
namespace Go.Proofs.Ytiebfmenkpodeaa.G
set_option linter.unusedVariables false
set_option linter.unusedSimpArgs false
set_option linter.unusedSectionVars false
open Go.RowKit Go.Proofs.YtiebfmenkpodeaaW.PrintWords Go.Proofs.YtiebfmenkpodeaaW.PrintLast
/-- Some way from i takes q lengths. -/
def Lq (M : Nat → Nat → Bool) (n : Nat) : Nat → Nat → Bool
  | 0, i => decide (i + 1 = n)
  | q + 1, i => (List.range n).any fun k => decide (i < k) && M i k && Lq M n q k
/-- The same, of those to places below k first. -/
def Lp (M : Nat → Nat → Bool) (n i k : Nat) : Nat → Bool
  | 0 => decide (i + 1 = n)
  | q + 1 => (List.range k).any fun j => decide (i < j) && M i j && Lq M n q j
theorem Lp_all (M : Nat → Nat → Bool) (n i : Nat) : ∀ q, Lp M n i n q = Lq M n q i
  | 0 => rfl
  | q + 1 => rfl
theorem Lp_next (M : Nat → Nat → Bool) (n i k q : Nat) : Lp M n i (k + 1) (q + 1) = (Lp M n i k (q + 1) || (decide (i < k) && M i k && Lq M n q k)) := by
  rw [Lp, Lp, List.range_succ, List.any_append]
  simp
theorem Lp_none (M : Nat → Nat → Bool) (n i q : Nat) : Lp M n i (i + 1) (q + 1) = false := by
  rw [Lp, List.any_eq_false]
  intro j hj
  rw [List.mem_range] at hj
  simp
  omega
theorem Lq_succ {M : Nat → Nat → Bool} {n q i : Nat} : Lq M n (q + 1) i = true ↔ ∃ k, i < k ∧ k < n ∧ M i k = true ∧ Lq M n q k = true := by
  rw [Lq, List.any_eq_true]
  simp only [List.mem_range, Bool.and_eq_true, decide_eq_true_eq]
  exact ⟨fun ⟨k, h1, ⟨h2, h3⟩, h4⟩ => ⟨k, h2, h1, h3, h4⟩, fun ⟨k, h2, h1, h3, h4⟩ => ⟨k, h1, ⟨h2, h3⟩, h4⟩⟩
theorem Lq_len {M : Nat → Nat → Bool} {n : Nat} : ∀ q i, Lq M n q i = true → q + i + 1 ≤ n
  | 0, i, h => by have := of_decide_eq_true h; omega
  | q + 1, i, h => by
    obtain ⟨k, h1, h2, h3, h4⟩ := Lq_succ.1 h
    have := Lq_len q k h4
    omega
theorem rdb_set (x : List Bool) {i j : Nat} (v : Bool) (hi : i < x.length) (hj : j < x.length) : rdOf false (x.set i v) (j : Int) = if j = i then v else rdOf false x (j : Int) := by
  simp only [rdOf, List.getD_eq_getElem?_getD, Int.toNat_natCast, List.getElem?_set]
  by_cases e : i = j
  · subst e; simp [hi]
  · rw [if_neg e, if_neg (fun h => e h.symm)]
theorem rdl_set (x : List (List Bool)) {i j : Nat} (v : List Bool) (hi : i < x.length) (hj : j < x.length) : rd_L3 (x.set i v) (j : Int) = if j = i then v else rd_L3 x (j : Int) := by
  simp only [rd_L3, List.getD_eq_getElem?_getD, Int.toNat_natCast, List.getElem?_set]
  by_cases e : i = j
  · subst e; simp [hi]
  · rw [if_neg e, if_neg (fun h => e h.symm)]
theorem rdb_rep (m i : Nat) : rdOf false (List.replicate m false) (i : Int) = false := by
  simp only [rdOf, List.getD_eq_getElem?_getD, Int.toNat_natCast, List.getElem?_replicate]
  split <;> rfl
/-- A row of bools is as a function tells. -/
def Row (n : Nat) (f : Nat → Bool) (r : List Bool) : Prop := r.length = n + 1 ∧ ∀ q : Nat, q < n + 1 → rdOf false r (q : Int) = f q
theorem Row.set {n : Nat} {f : Nat → Bool} {r : List Bool} (h : Row n f r) {q : Nat} (hq : q < n + 1) (v : Bool) : Row n (fun e => if e = q then v else f e) (r.set q v) := by
  have hl := h.1
  refine ⟨by simp [hl], fun e he => ?_⟩
  rw [rdb_set r v (by omega) (by omega), h.2 e he]
theorem Row.same {n : Nat} {f g : Nat → Bool} {r : List Bool} (h : Row n f r) (hfg : ∀ q, q < n + 1 → f q = g q) : Row n g r := ⟨h.1, fun q hq => by rw [h.2 q hq, hfg q hq]⟩
/-- The rows behind i are told, the one at i is under way. -/
def RI (M : Nat → Nat → Bool) (n i : Nat) (f : Nat → Bool) (x : List (List Bool)) : Prop := x.length = n ∧ Row n f (rd_L3 x (i : Int)) ∧ ∀ j : Nat, i < j → j < n → Row n (fun q => Lq M n q j) (rd_L3 x (j : Int))
/-- The rows from m on are told. -/
def RM (M : Nat → Nat → Bool) (n m : Nat) (x : List (List Bool)) : Prop := x.length = n ∧ ∀ j : Nat, m ≤ j → j < n → Row n (fun q => Lq M n q j) (rd_L3 x (j : Int))
theorem RI.set {M : Nat → Nat → Bool} {n i : Nat} {f g : Nat → Bool} {x : List (List Bool)} {r : List Bool} (h : RI M n i f x) (hi : i < n) (hr : Row n g r) : RI M n i g (x.set i r) := by
  have hl := h.1
  refine ⟨by simp [hl], ?_, fun j h1 h2 => ?_⟩
  · rw [rdl_set x r (by omega) (by omega), if_pos rfl]; exact hr
  · rw [rdl_set x r (by omega) (by omega), if_neg (by omega)]; exact h.2.2 j h1 h2
section
variable {l : List Int} {a b : Int} (hn : l.length ≤ 30)
include hn
theorem len_l2 {i k : Nat} (hik : i < k) (hk : k < l.length) (hM : mayB l a b i k = true) (cont : ∀ x', RI (mayB l a b) l.length i (Lp (mayB l a b) l.length i (k + 1)) x' → ∃ X, RM (mayB l a b) l.length 0 X ∧ Ev (fun s => dropperref04_lengths.l1 s l a b x' (i : Int) ((k + 1 : Nat) : Int)) X) :
    ∀ (d q : Nat) (x : List (List Bool)), q + d = l.length → RI (mayB l a b) l.length i (fun e => if e ≤ q then Lp (mayB l a b) l.length i (k + 1) e else Lp (mayB l a b) l.length i k e) x →
      ∃ X, RM (mayB l a b) l.length 0 X ∧ Ev (fun s => dropperref04_lengths.l2 s l a b x (i : Int) (k : Int) (q : Int)) X := by
  intro d
  induction d with
  | zero =>
    intro q x hq hx
    obtain ⟨X, hX, e⟩ := cont x ⟨hx.1, hx.2.1.same (fun e he => by rw [if_pos (by omega)]), hx.2.2⟩
    refine ⟨X, hX, Ev.step (fun s => ?_) e⟩
    rw [dropperref04_lengths.l2, if_neg (by omega), wsucc k (by omega)]
  | succ d ih =>
    intro q x hq hx
    have hl := hx.1
    have er := may_some (l := l) (a := a) (b := b) (i := i) (k := k) hik hk
    have r1 := hx.2.1.2 (q + 1) (by omega)
    have r2 := (hx.2.2 k hik hk).2 q (by omega)
    have l1 := hx.2.1.1
    have l2 := (hx.2.2 k hik hk).1
    dsimp only at r1 r2
    rw [if_neg (by omega)] at r1
    have nx := Lp_next (mayB l a b) l.length i k q
    rw [hM, decide_eq_true hik] at nx
    simp only [Bool.true_and] at nx
    have step : ∀ v : Bool, v = Lp (mayB l a b) l.length i (k + 1) (q + 1) → ∃ X, RM (mayB l a b) l.length 0 X ∧ Ev (fun s => dropperref04_lengths.l2 s l a b (x.set i ((rd_L3 x (i : Int)).set (q + 1) v)) (i : Int) (k : Int) ((q + 1 : Nat) : Int)) X := by
      intro v hv
      refine ih (q + 1) _ (by omega) (hx.set (by omega) ((hx.2.1.set (q := q + 1) (by omega) v).same fun e he => ?_))
      by_cases c : e = q + 1
      · subst c; rw [if_pos rfl, if_pos (Nat.le_refl _), hv]
      · rw [if_neg c]
        by_cases c2 : e ≤ q
        · rw [if_pos c2, if_pos (by omega)]
        · rw [if_neg c2, if_neg (by omega)]
    by_cases c : Lp (mayB l a b) l.length i k (q + 1) = true
    · obtain ⟨X, hX, e⟩ := step true (by rw [nx, c]; rfl)
      refine ⟨X, hX, Ev.step (fun s => ?_) e⟩
      rw [dropperref04_lengths.l2, if_pos (by omega), er, hM]
      simp only [Option.bind_some, if_true]
      rw [wsucc q (by omega), r1, if_pos (by omega), if_pos (by omega), if_pos (by omega), if_pos (by omega), if_pos c, Int.toNat_natCast, Int.toNat_natCast]
    · obtain ⟨X, hX, e⟩ := step (Lq (mayB l a b) l.length q k) (by rw [nx, Bool.eq_false_iff.2 c]; rfl)
      refine ⟨X, hX, Ev.step (fun s => ?_) e⟩
      rw [dropperref04_lengths.l2, if_pos (by omega), er, hM]
      simp only [Option.bind_some, if_true]
      rw [wsucc q (by omega), r1, if_pos (by omega), if_pos (by omega), if_pos (by omega), if_pos (by omega), if_neg c, if_pos (by omega), if_pos (by omega), if_pos (by omega), if_pos (by omega), r2, Int.toNat_natCast, Int.toNat_natCast]
theorem len_l1 {i : Nat} (cont : ∀ x', RM (mayB l a b) l.length i x' → ∃ X, RM (mayB l a b) l.length 0 X ∧ Ev (fun s => dropperref04_lengths.l0 s l a b x' ((i : Int) - 1)) X) :
    ∀ (d k : Nat) (x : List (List Bool)), k + d = l.length → i < k → RI (mayB l a b) l.length i (Lp (mayB l a b) l.length i k) x → ∃ X, RM (mayB l a b) l.length 0 X ∧ Ev (fun s => dropperref04_lengths.l1 s l a b x (i : Int) (k : Int)) X := by
  intro d
  induction d with
  | zero =>
    intro k x hk hik hx
    obtain rfl : k = l.length := by omega
    obtain ⟨X, hX, e⟩ := cont x ⟨hx.1, fun j h1 h2 => by
      by_cases c : j = i
      · subst c; exact hx.2.1.same (fun q _ => Lp_all _ _ _ q)
      · exact hx.2.2 j (by omega) h2⟩
    refine ⟨X, hX, Ev.step (fun s => ?_) e⟩
    rw [dropperref04_lengths.l1, if_neg (by omega), w64 (n := (i : Int) - 1) (by omega) (by omega)]
  | succ d ih =>
    intro k x hk hik hx
    cases hM : mayB l a b i k with
    | true =>
      obtain ⟨X, hX, e⟩ := len_l2 hn hik (by omega) hM (fun x' h' => ih (k + 1) x' (by omega) (by omega) h') l.length 0 x (by omega) ⟨hx.1, hx.2.1.same (fun e he => by
        by_cases c : e ≤ 0
        · obtain rfl : e = 0 := by omega
          rw [if_pos c]; rfl
        · rw [if_neg c]), hx.2.2⟩
      refine ⟨X, hX, Ev.step (fun s => ?_) e⟩
      rw [dropperref04_lengths.l1, if_pos (by omega)]
      rfl
    | false =>
      obtain ⟨X, hX, e⟩ := ih (k + 1) x (by omega) (by omega) ⟨hx.1, hx.2.1.same (fun e he => by
        cases e with
        | zero => rfl
        | succ q => rw [Lp_next, hM]; simp), hx.2.2⟩
      have er := may_some (l := l) (a := a) (b := b) (i := i) (k := k) hik (by omega)
      have e' : Ev (fun s => dropperref04_lengths.l2 s l a b x (i : Int) (k : Int) 0) X := Ev.step (fun s => by
        rw [dropperref04_lengths.l2, if_pos (by omega), er, hM]
        simp only [Option.bind_some, Bool.false_eq_true, if_false]
        rw [wsucc k (by omega)]) e
      refine ⟨X, hX, Ev.step (fun s => ?_) e'⟩
      rw [dropperref04_lengths.l1, if_pos (by omega)]
theorem len_l0 : ∀ (m : Nat) (x : List (List Bool)), m ≤ l.length → RM (mayB l a b) l.length m x → ∃ X, RM (mayB l a b) l.length 0 X ∧ Ev (fun s => dropperref04_lengths.l0 s l a b x ((m : Int) - 1)) X := by
  intro m
  induction m with
  | zero =>
    intro x hm hx
    refine ⟨x, hx, ev_some _ fun s => ?_⟩
    rw [dropperref04_lengths.l0, if_neg (by omega)]
  | succ m ih =>
    intro x hm hx
    have hl := hx.1
    have em : ((m + 1 : Nat) : Int) - 1 = (m : Int) := by omega
    rw [em]
    have ew : wrap64 ((l.length : Int) + 1) = (l.length : Int) + 1 := w64 (by omega) (by omega)
    have e1 : ((m : Int) == wrap64 ((l.length : Int) - 1)) = decide (m + 1 = l.length) := by
      rw [w64 (by omega) (by omega)]
      by_cases c : m + 1 = l.length
      · rw [decide_eq_true c, beq_iff_eq]; omega
      · rw [decide_eq_false c, beq_eq_false_iff_ne]; omega
    have r0 : Row l.length (fun _ => false) (List.replicate (l.length + 1) false) := ⟨by simp, fun q hq => rdb_rep _ q⟩
    have y0 : rd_L3 (x.set m (List.replicate (l.length + 1) false)) (m : Int) = List.replicate (l.length + 1) false := by rw [rdl_set x _ (by omega) (by omega), if_pos rfl]
    have y1 : RI (mayB l a b) l.length m (fun _ => false) (x.set m (List.replicate (l.length + 1) false)) := ⟨by simp [hl], by rw [y0]; exact r0, fun j h1 h2 => by
      rw [rdl_set x _ (by omega) (by omega), if_neg (by omega)]; exact hx.2 j (by omega) h2⟩
    have y2 : RI (mayB l a b) l.length m (Lp (mayB l a b) l.length m (m + 1)) ((x.set m (List.replicate (l.length + 1) false)).set m ((List.replicate (l.length + 1) false).set 0 (decide (m + 1 = l.length)))) := y1.set (by omega) ((r0.set (q := 0) (by omega) (decide (m + 1 = l.length))).same fun q hq => by
      cases q with
      | zero => rfl
      | succ q => rw [if_neg (by omega), Lp_none])
    obtain ⟨X, hX, e⟩ := len_l1 hn (i := m) (fun x' h' => ih x' (by omega) h') (l.length - 1 - m) (m + 1) _ (by omega) (by omega) y2
    refine ⟨X, hX, Ev.step (fun s => ?_) e⟩
    rw [dropperref04_lengths.l0, if_pos (by omega), ew, if_pos (by omega), if_pos (by omega), if_pos (by omega), if_pos (by omega), wsucc m (by omega), e1]
    simp only [Option.bind_some, Int.toNat_natCast, show ((l.length : Int) + 1).toNat = l.length + 1 by omega, y0, List.length_replicate]
    rw [if_pos (by omega)]
    rfl
theorem lengths_ev (hn1 : 2 ≤ l.length) : ∃ X, RM (mayB l a b) l.length 0 X ∧ Ev (fun s => dropperref04_lengths.f s l a b) X := by
  obtain ⟨X, hX, e⟩ := len_l0 hn (l := l) (a := a) (b := b) l.length (List.replicate l.length []) (Nat.le_refl _) ⟨by simp, fun j h1 h2 => by omega⟩
  refine ⟨X, hX, Ev.congr (fun s => ?_) e⟩
  unfold dropperref04_lengths.f
  rw [if_pos (by omega), if_pos (by omega), w64 (n := (l.length : Int) - 1) (by omega) (by omega), Int.toNat_natCast]
/-- The path by a row of next places. -/
def pth (X : Nat → Nat) (n : Nat) : Nat → Nat → List Int
  | 0, _ => []
  | e + 1, i => if i + 1 = n then [] else (X i : Int) :: pth X n e (X i)
omit hn in
theorem pth_len {X : Nat → Nat} {n : Nat} : ∀ e i, (pth X n e i).length ≤ e
  | 0, _ => by simp [pth]
  | e + 1, i => by
    rw [pth]
    split
    · simp
    · have := pth_len (X := X) (n := n) e (X i); rw [List.length_cons]; omega
/-- The document's path with so many lengths. -/
theorem with_loop {X : Nat → Nat} {Q : Nat → Nat} {al : Nat → Prop} {Y : List (List Bool)} (hY : RM (mayB l a b) l.length 0 Y)
    (h0 : ∀ i, i < l.length → al i → Lq (mayB l a b) l.length (Q i) i = true)
    (h1 : ∀ i, i + 1 < l.length → al i → i < X i ∧ X i < l.length ∧ al (X i) ∧ mayB l a b i (X i) = true ∧ Q i = Q (X i) + 1 ∧ ∀ k, i < k → k < X i → mayB l a b i k = true → Lq (mayB l a b) l.length (Q i - 1) k = false) :
    ∀ (e i : Nat) (out : List Int), l.length - 1 - i ≤ e → i < l.length → al i → out.length ≤ i + 1 → Ev (fun s => dropperref04_with.l0 s l a b (Q i : Int) Y out (i : Int)) (out ++ pth X l.length e i) := by
  have hYl := hY.1
  have last : ∀ (e i : Nat) (out : List Int), i + 1 = l.length → al i → Ev (fun s => dropperref04_with.l0 s l a b (Q i : Int) Y out (i : Int)) (out ++ pth X l.length e i) := by
    intro e i out hi ha
    have q0 : Q i = 0 := by have := Lq_len _ _ (h0 i (by omega) ha); omega
    have : pth X l.length e i = [] := by cases e with
      | zero => rfl
      | succ e => rw [pth, if_pos hi]
    rw [this, List.append_nil, q0]
    refine ev_some _ fun s => ?_
    rw [dropperref04_with.l0, if_neg (by omega)]
  intro e
  induction e with
  | zero => exact fun i out he hi ha _ => last 0 i out (by omega) ha
  | succ e ih =>
    intro i out he hi ha ho
    by_cases c : i + 1 = l.length
    · exact last _ i out c ha
    · obtain ⟨b1, b2, b3, b4, b5, b6⟩ := h1 i (by omega) ha
      have eq : wrap64 ((Q i : Int) - 1) = (Q (X i) : Int) := by
        have := Lq_len _ _ (h0 i (by omega) ha)
        rw [w64 (by omega) (by omega)]; omega
      have en := ih (X i) (out ++ [(X i : Int)]) (by omega) b2 b3 (by simp; omega)
      rw [pth, if_neg c]
      have inner : ∀ (d k : Nat), k + d = X i → i < k → Ev (fun s => dropperref04_with.l1 s l a b (Q i : Int) Y out (i : Int) (k : Int)) (out ++ (X i : Int) :: pth X l.length e (X i)) := by
        intro d
        induction d with
        | zero =>
          intro k hk hik
          obtain rfl : k = X i := by omega
          have er := may_some (l := l) (a := a) (b := b) hik b2
          have rY := (hY.2 (X i) (by omega) b2)
          have rl := rY.1
          have rv := rY.2 (Q (X i)) (by have := Lq_len _ _ (h0 (X i) b2 b3); omega)
          dsimp only at rv
          rw [h0 (X i) b2 b3] at rv
          have qb := Lq_len _ _ (h0 (X i) b2 b3)
          rw [List.append_assoc] at en
          refine Ev.step (fun s => ?_) en
          rw [dropperref04_with.l1, if_pos (by omega), er, b4]
          simp only [Option.bind_some, if_true]
          rw [eq, if_pos (by omega), if_pos (by omega), if_pos (by omega), if_pos (by omega), rv, if_pos rfl, if_pos (by omega)]
        | succ d ihd =>
          intro k hk hik
          have e2 := ihd (k + 1) (by omega) (by omega)
          have er := may_some (l := l) (a := a) (b := b) (i := i) (k := k) hik (by omega)
          refine Ev.step (fun s => ?_) e2
          cases hM : mayB l a b i k with
          | false =>
            rw [dropperref04_with.l1, if_pos (by omega), er, hM]
            simp only [Option.bind_some, Bool.false_eq_true, if_false]
            rw [wsucc k (by omega)]
          | true =>
            have f := b6 k hik (by omega) hM
            rw [b5, Nat.add_sub_cancel] at f
            have rY := (hY.2 k (by omega) (by omega))
            have rl := rY.1
            have qb := Lq_len _ _ (h0 (X i) b2 b3)
            have rv := rY.2 (Q (X i)) (by omega)
            dsimp only at rv
            rw [f] at rv
            rw [dropperref04_with.l1, if_pos (by omega), er, hM]
            simp only [Option.bind_some, if_true]
            rw [eq, if_pos (by omega), if_pos (by omega), if_pos (by omega), if_pos (by omega), rv, if_neg (by decide), wsucc k (by omega)]
      refine Ev.step (fun s => ?_) (inner (X i - (i + 1)) (i + 1) (by omega) (by omega))
      rw [dropperref04_with.l0, if_pos (by omega), wsucc i (by omega)]
end
end Go.Proofs.Ytiebfmenkpodeaa.G
