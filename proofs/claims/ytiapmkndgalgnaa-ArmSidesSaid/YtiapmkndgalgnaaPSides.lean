/- The law ArmSides of the printed functions: the longest pieces are the fewest, from either side and either end. Plain Lean. -/
import Derived.Test.YtiapmkndgalgnaaPPiecesS
import Derived.Test.YtiapmkndgalgnaaPTurnsS
import Derived.Test.YtiapmkndgalgnaaGF10
namespace Go.Proofs.Ytiapmkndgalgnaa.G
set_option linter.unusedVariables false
set_option linter.unusedSimpArgs false
open Go.RowKit Go.Proofs.YtiapmkndgalgnaaW.PrintWords Go.Proofs.YtiapmkndgalgnaaW.PrintLast
/-- Some line goes through the windows from a to b, b without. -/
def FI (l : List S73) (a b : Nat) : Prop := ∃ m c : Rat, ∀ j : Nat, a ≤ j → j < b → thr m c (rd_T73 l (j : Int))
theorem FI.sub {l : List S73} {a b a' b' : Nat} (h : FI l a b) (h1 : a ≤ a') (h2 : b' ≤ b) : FI l a' b' := by
  obtain ⟨m, c, h⟩ := h
  exact ⟨m, c, fun j h3 h4 => h j (by omega) (by omega)⟩
theorem mem_seg {l : List S73} {a b : Nat} (hb : b ≤ l.length) {w : S73} : w ∈ seg l a b ↔ ∃ j : Nat, (a ≤ j ∧ j < b) ∧ w = rd_T73 l (j : Int) := by
  unfold seg
  constructor
  · intro h
    obtain ⟨i, hi, rfl⟩ := List.getElem_of_mem h
    rw [List.length_drop, List.length_take] at hi
    refine ⟨a + i, by omega, ?_⟩
    rw [rd_nat l (a + i) (by omega)]
    simp
  · rintro ⟨j, h1, rfl⟩
    rw [rd_nat l j (by omega)]
    have hj : j - a < ((l.take b).drop a).length := by rw [List.length_drop, List.length_take]; omega
    have : ((l.take b).drop a)[j - a] = l[j]'(by omega) := by
      simp only [List.getElem_drop, List.getElem_take]
      congr 1
      omega
    rw [← this]
    exact List.getElem_mem hj
theorem feas_FI {l : List S73} {a b : Nat} (hb : b ≤ l.length) : Feas (seg l a b) ↔ FI l a b := by
  unfold Feas FI
  constructor
  · rintro ⟨m, c, h⟩
    exact ⟨m, c, fun j h1 h2 => h _ ((mem_seg hb).2 ⟨j, ⟨h1, h2⟩, rfl⟩)⟩
  · rintro ⟨m, c, h⟩
    refine ⟨m, c, fun w hw => ?_⟩
    obtain ⟨j, h1, rfl⟩ := (mem_seg hb).1 hw
    exact h j h1.1 h1.2
theorem FI_one {l : List S73} (h : Okl l) {i : Nat} (hi : i < l.length) : FI l i (i + 1) := by
  rw [← feas_FI (by omega)]
  refine feas_one (seg_ok h i (i + 1)) ?_
  unfold seg; rw [List.length_drop, List.length_take]; omega
open Classical in
/-- How many pieces there are from window i on, the last one begun at p. -/
noncomputable def gc (l : List S73) : Nat → Nat → Nat → Nat
  | 0, i, p => 1
  | d + 1, i, p => if FI l p (i + 1) then gc l d (i + 1) p else gc l d (i + 1) i + 1
theorem gr_gc {l : List S73} : ∀ (d i : Nat) (out : List Int) (p : Nat), i + d = l.length → (gr l d i out p).length = out.length + gc l d i p
  | 0, i, out, p, hd => by simp [gr, gc]
  | d + 1, i, out, p, hd => by
    rw [gr, gc]
    by_cases f : FI l p (i + 1)
    · rw [if_pos f, if_pos ((feas_FI (by omega)).2 f)]
      exact gr_gc d (i + 1) out p (by omega)
    · rw [if_neg f, if_neg (fun z => f ((feas_FI (by omega)).1 z)), gr_gc d (i + 1) _ i (by omega), List.length_append, List.length_singleton]
      omega
/-- The windows from p on are n pieces. -/
def PN (l : List S73) : Nat → Nat → Prop
  | 0, p => p = l.length
  | n + 1, p => ∃ q, p < q ∧ q ≤ l.length ∧ FI l p q ∧ PN l n q
theorem gc_is {l : List S73} (h : Okl l) : ∀ (d i p : Nat), i + d = l.length → p < i → FI l p i → PN l (gc l d i p) p
  | 0, i, p, hd, hp, f => ⟨i, hp, by omega, f, by show i = l.length; omega⟩
  | d + 1, i, p, hd, hp, f => by
    rw [gc]
    by_cases c : FI l p (i + 1)
    · rw [if_pos c]
      exact gc_is h d (i + 1) p (by omega) (by omega) c
    · rw [if_neg c]
      exact ⟨i, hp, by omega, f, gc_is h d (i + 1) i (by omega) (by omega) (FI_one h (by omega))⟩
theorem PN.later {l : List S73} {n i : Nat} (h : PN l n i) (hi : i < l.length) : ∃ m, m ≤ n ∧ PN l m (i + 1) := by
  cases n with
  | zero => exact absurd h (by show ¬ i = l.length; omega)
  | succ n =>
    obtain ⟨q, h1, h2, h3, h4⟩ := h
    by_cases e : q = i + 1
    · subst e; exact ⟨n, by omega, h4⟩
    · exact ⟨n + 1, Nat.le_refl _, q, by omega, h2, h3.sub (by omega) (Nat.le_refl _), h4⟩
theorem gc_least {l : List S73} (h : Okl l) : ∀ (d i p : Nat), i + d = l.length → p < i → (∀ n, PN l n i → gc l d i p ≤ n + 1) ∧ (∀ q e n, q ≤ p → i ≤ e → FI l q e → PN l n e → gc l d i p ≤ n + 1)
  | 0, i, p, hd, hp => ⟨fun n _ => by rw [gc]; omega, fun q e n _ _ _ _ => by rw [gc]; omega⟩
  | d + 1, i, p, hd, hp => by
    have S2 : ∀ n, PN l n i → gc l (d + 1) i p ≤ n + 1 := by
      intro n hn
      rw [gc]
      by_cases c : FI l p (i + 1)
      · rw [if_pos c]
        obtain ⟨m, h1, h2⟩ := hn.later (by omega)
        have := (gc_least h d (i + 1) p (by omega) (by omega)).1 m h2
        omega
      · rw [if_neg c]
        cases n with
        | zero => exact absurd hn (by show ¬ i = l.length; omega)
        | succ n =>
          obtain ⟨q, h1, h2, h3, h4⟩ := hn
          have := (gc_least h d (i + 1) i (by omega) (by omega)).2 i q n (Nat.le_refl _) (by omega) h3 h4
          omega
    refine ⟨S2, fun q e n hq he hf hn => ?_⟩
    by_cases c : e = i
    · subst c; exact S2 n hn
    · rw [gc, if_pos (hf.sub hq (by omega))]
      exact (gc_least h d (i + 1) p (by omega) (by omega)).2 q e n hq (by omega) hf hn
theorem gp_len {l : List S73} (h : Okl l) (h1 : 1 ≤ l.length) : (gp l).length = gc l (l.length - 1) 1 0 := by
  unfold gp
  rw [gr_gc _ _ _ _ (by omega)]
  simp
theorem gp_is {l : List S73} (h : Okl l) (h1 : 1 ≤ l.length) : PN l (gp l).length 0 := by
  rw [gp_len h h1]
  exact gc_is h _ 1 0 (by omega) (by omega) (FI_one h (by omega))
theorem gp_least {l : List S73} (h : Okl l) (h1 : 1 ≤ l.length) {n : Nat} (hn : PN l n 0) : (gp l).length ≤ n := by
  rw [gp_len h h1]
  cases n with
  | zero => exact absurd hn (by show ¬ 0 = l.length; omega)
  | succ n =>
    obtain ⟨q, h2, h3, h4, h5⟩ := hn
    exact (gc_least h _ 1 0 (by omega) (by omega)).2 0 q n (Nat.le_refl _) (by omega) h4 h5
/-- The windows up to p are n pieces. -/
def PR (l : List S73) : Nat → Nat → Prop
  | 0, p => p = 0
  | n + 1, p => ∃ q, q < p ∧ FI l q p ∧ PR l n q
theorem PR_of {l : List S73} : ∀ (n m p : Nat), PR l m p → PN l n p → PR l (m + n) l.length
  | 0, m, p, hr, hn => by
    obtain rfl : p = l.length := hn
    exact hr
  | n + 1, m, p, hr, ⟨q, h1, h2, h3, h4⟩ => by
    have := PR_of n (m + 1) q ⟨p, h1, h3, hr⟩ h4
    rwa [show m + 1 + n = m + (n + 1) by omega] at this
/-- The same windows otherwise: at each place one that the same lines, told otherwise, go through. -/
theorem PN_map {l l' : List S73} (hl : l'.length = l.length) (hf : ∀ a b, b ≤ l.length → FI l a b → FI l' a b) : ∀ (n p : Nat), PN l n p → PN l' n p
  | 0, p, h => by
    obtain rfl : p = l.length := h
    exact hl.symm
  | n + 1, p, ⟨q, h1, h2, h3, h4⟩ => ⟨q, h1, by omega, hf p q h2 h3, PN_map hl hf n q h4⟩
theorem PN_rev {l l' : List S73} (hl : l'.length = l.length) (hf : ∀ a b, a ≤ b → b ≤ l.length → FI l a b → FI l' (l.length - b) (l.length - a)) : ∀ (n p : Nat), p ≤ l.length → PR l n p → PN l' n (l.length - p)
  | 0, p, hp, h => by
    obtain rfl : p = 0 := h
    show l.length - 0 = l'.length
    omega
  | n + 1, p, hp, ⟨q, h1, h2, h3⟩ => ⟨l.length - q, by omega, by omega, hf q p (by omega) hp h2, PN_rev hl hf n q (by omega) h3⟩
theorem okF_of : ∀ (l : List S73) (last : Int), Okl l → (∀ w ∈ l, last < w.f0) → okF last l = true
  | [], _, _, _ => rfl
  | w :: ws, last, h, hl => by
    have b := h.bnd w (by simp)
    have hl' := hl w (by simp)
    rw [okF, Bool.and_eq_true]
    refine ⟨decide_eq_true ?_, okF_of ws w.f0 ⟨fun x hx => h.bnd x (by simp [hx]), (List.pairwise_cons.1 h.asc).2⟩ (fun x hx => (List.pairwise_cons.1 h.asc).1 x hx)⟩
    obtain ⟨_, _, _, _, _⟩ := b
    exact ⟨by omega, by omega, by omega, by omega, by omega⟩
theorem okV_of {l : List S73} (h : Okl l) (h1 : 1 ≤ l.length) (h2 : l.length ≤ 30) : okV l = true := by
  unfold okV
  rw [Bool.and_eq_true]
  exact ⟨decide_eq_true ⟨h1, h2⟩, okF_of l (-1) h (fun w hw => by have := (h.bnd w hw).1; omega)⟩
theorem mir_eq {w : S73} (h : inB w) : mirG w = ⟨w.f0, -w.f2, -w.f1⟩ := by
  obtain ⟨_, _, _, _, _⟩ := h
  unfold mirG
  rw [w64 (by omega) (by omega), w64 (by omega) (by omega)]
theorem tur_eq {w : S73} (h : inB w) : turG w = ⟨100000 - w.f0, w.f1, w.f2⟩ := by
  obtain ⟨_, _, _, _, _⟩ := h
  unfold turG
  rw [w64 (by omega) (by omega)]
theorem wid_eq {w : S73} (h : inB w) {b : Int} (hb : 0 ≤ b ∧ b ≤ 2000) : widG b w = ⟨w.f0, max (w.f1 - b) (-1000), min (w.f2 + b) 1000⟩ := by
  obtain ⟨_, _, _, _, _⟩ := h
  unfold widG
  rw [w64 (n := w.f1 - b) (by omega) (by omega), w64 (n := w.f2 + b) (by omega) (by omega)]
  have e1 : mx (w.f1 - b) (-1000) = max (w.f1 - b) (-1000) := by unfold mx; split <;> omega
  have e2 : mn (w.f2 + b) 1000 = min (w.f2 + b) 1000 := by unfold mn; split <;> omega
  rw [e1, e2]
theorem okl_map {l : List S73} (h : Okl l) {g : S73 → S73} (hb : ∀ w, inB w → inB (g w)) (h0 : ∀ w, inB w → (g w).f0 = w.f0) : Okl (l.map g) := by
  refine ⟨fun w hw => ?_, ?_⟩
  · obtain ⟨x, hx, rfl⟩ := List.mem_map.1 hw
    exact hb x (h.bnd x hx)
  · rw [List.pairwise_map]
    refine h.asc.imp_of_mem fun {a b} ha hb' hab => ?_
    rw [h0 a (h.bnd a ha), h0 b (h.bnd b hb')]
    exact hab
theorem okl_mir {l : List S73} (h : Okl l) : Okl (l.map mirG) := okl_map h (fun w hw => by rw [mir_eq hw]; obtain ⟨_, _, _, _, _⟩ := hw; exact ⟨by omega, by omega, by dsimp only; omega, by dsimp only; omega, by dsimp only; omega⟩) (fun w hw => by rw [mir_eq hw])
theorem okl_wid {l : List S73} (h : Okl l) {b : Int} (hb : 0 ≤ b ∧ b ≤ 2000) : Okl (l.map (widG b)) := okl_map h (fun w hw => by rw [wid_eq hw hb]; obtain ⟨_, _, _, _, _⟩ := hw; exact ⟨by omega, by omega, by dsimp only; omega, by dsimp only; omega, by dsimp only; omega⟩) (fun w hw => by rw [wid_eq hw hb])
theorem okl_tur {l : List S73} (h : Okl l) : Okl (l.map turG).reverse := by
  refine ⟨fun w hw => ?_, ?_⟩
  · obtain ⟨x, hx, rfl⟩ := List.mem_map.1 (List.mem_reverse.1 hw)
    have b := h.bnd x hx
    rw [tur_eq b]
    obtain ⟨_, _, _, _, _⟩ := b
    exact ⟨by dsimp only; omega, by dsimp only; omega, by dsimp only; omega, by dsimp only; omega, by dsimp only; omega⟩
  · rw [List.pairwise_reverse, List.pairwise_map]
    refine h.asc.imp_of_mem fun {a b} ha hb' hab => ?_
    rw [tur_eq (h.bnd a ha), tur_eq (h.bnd b hb')]
    dsimp only
    omega
theorem rd_mapG {l : List S73} (g : S73 → S73) {j : Nat} (h : j < l.length) : rd_T73 (l.map g) (j : Int) = g (rd_T73 l (j : Int)) := by
  rw [rd_nat _ j (by simpa using h), rd_nat l j h]; simp
theorem FI_mir {l : List S73} (h : Okl l) (a b : Nat) (hb : b ≤ l.length) (f : FI l a b) : FI (l.map mirG) a b := by
  obtain ⟨m, c, f⟩ := f
  refine ⟨-m, -c, fun j h1 h2 => ?_⟩
  rw [rd_mapG _ (by omega), mir_eq (h.bnd _ (rd_mem (show j < l.length by omega)))]
  have := f j h1 h2
  unfold thr at this ⊢
  dsimp only
  rw [Rat.intCast_neg, Rat.intCast_neg]
  grind
theorem FI_wid {l : List S73} (h : Okl l) {w : Int} (hw : 0 ≤ w ∧ w ≤ 2000) (a b : Nat) (hb : b ≤ l.length) (f : FI l a b) : FI (l.map (widG w)) a b := by
  obtain ⟨m, c, f⟩ := f
  refine ⟨m, c, fun j h1 h2 => ?_⟩
  have ib := h.bnd _ (rd_mem (show j < l.length by omega))
  rw [rd_mapG _ (by omega), wid_eq ib hw]
  have := f j h1 h2
  obtain ⟨_, _, _, _, _⟩ := ib
  unfold thr at this ⊢
  dsimp only
  have e1 : ((max ((rd_T73 l (j : Int)).f1 - w) (-1000) : Int) : Rat) ≤ ((rd_T73 l (j : Int)).f1 : Rat) := Rat.intCast_le_intCast.2 (by omega)
  have e2 : ((rd_T73 l (j : Int)).f2 : Rat) ≤ ((min ((rd_T73 l (j : Int)).f2 + w) 1000 : Int) : Rat) := Rat.intCast_le_intCast.2 (by omega)
  exact ⟨Rat.le_trans e1 this.1, Rat.le_trans this.2 e2⟩
theorem FI_tur {l : List S73} (h : Okl l) (a b : Nat) (hab : a ≤ b) (hb : b ≤ l.length) (f : FI l a b) : FI (l.map turG).reverse (l.length - b) (l.length - a) := by
  obtain ⟨m, c, f⟩ := f
  refine ⟨-m, c + 100000 * m, fun j h1 h2 => ?_⟩
  have hj : j < (l.map turG).length := by rw [List.length_map]; omega
  rw [rev_get _ j hj, List.length_map, rd_mapG _ (by omega)]
  have ib := h.bnd _ (rd_mem (show l.length - 1 - j < l.length by omega))
  rw [tur_eq ib]
  have := f (l.length - 1 - j) (by omega) (by omega)
  unfold thr at this ⊢
  dsimp only
  rw [Rat.intCast_sub]
  have e : ((100000 : Int) : Rat) = 100000 := by simp
  rw [e]
  grind
theorem map_map_id {l : List S73} (h : Okl l) {g : S73 → S73} (hg : ∀ w, inB w → g (g w) = w) : (l.map g).map g = l := by
  rw [List.map_map]
  conv => rhs; rw [← List.map_id l]
  exact List.map_congr_left fun w hw => hg w (h.bnd w hw)
theorem mir_mir {w : S73} (h : inB w) : mirG (mirG w) = w := by
  have h2 : inB (mirG w) := by rw [mir_eq h]; obtain ⟨_, _, _, _, _⟩ := h; exact ⟨by omega, by omega, by dsimp only; omega, by dsimp only; omega, by dsimp only; omega⟩
  rw [mir_eq h2, mir_eq h]
  simp
theorem tur_tur {w : S73} (h : inB w) : turG (turG w) = w := by
  have h2 : inB (turG w) := by rw [tur_eq h]; obtain ⟨_, _, _, _, _⟩ := h; exact ⟨by dsimp only; omega, by dsimp only; omega, by dsimp only; omega, by dsimp only; omega, by dsimp only; omega⟩
  rw [tur_eq h2, tur_eq h]
  cases w
  congr 1
  dsimp only
  omega
theorem u16_of {a : Int} (w : (Lit.int .u16 a).wf = true) : 0 ≤ a ∧ a ≤ 65535 := by
  have w' : (decide ((0 : Int) ≤ a) && decide (a ≤ 65535)) = true := w
  simpa using w'
theorem ArmSides_pure (l : List S73) (u : Int) (hx : ∀ x ∈ l, (Lit.int .i64 x.f0).wf = true ∧ (Lit.int .i64 x.f1).wf = true ∧ (Lit.int .i64 x.f2).wf = true) (wu : (Lit.int .u16 u).wf = true) (hL : l.length ≤ 9223372036854775807) : ∃ k, dropperlaw03_ArmSides.f k l u = some true := by
  obtain ⟨K0, f0⟩ := first_ev
  obtain ⟨K1, v1⟩ := ref_valid_far l hL
  cases hv : okV l with
  | false =>
    rw [hv] at v1
    refine ⟨K0 + K1, ?_⟩
    have a0 := f0 (K0 + K1) (by omega)
    have a1 := v1 (K0 + K1) (by omega)
    dsimp only at a0 a1
    unfold dropperlaw03_ArmSides.f
    rw [a1]
    simp [a0]
  | true =>
    rw [hv] at v1
    obtain ⟨ho, p1, p30⟩ := okV_okl hv
    have hl : l.length ≤ 4611686018427387904 := by omega
    have bu := u16_of wu
    obtain ⟨b, hb⟩ : ∃ b, b = u % 2001 := ⟨_, rfl⟩
    have hb2 : 0 ≤ b ∧ b ≤ 2000 := by omega
    have eb : Int.tmod (wrap64 u) 2001 = b := by rw [w64 (n := u) (by omega) (by omega), Int.tmod_eq_emod_of_nonneg bu.1, hb]
    have vm : okV (l.map mirG) = true := okV_of (okl_mir ho) (by simpa using p1) (by simpa using p30)
    have vt : okV (l.map turG).reverse = true := okV_of (okl_tur ho) (by simpa using p1) (by simpa using p30)
    have vw : okV (l.map (widG b)) = true := okV_of (okl_wid ho hb2) (by simpa using p1) (by simpa using p30)
    have lm : (gp (l.map mirG)).length = (gp l).length := by
      refine Nat.le_antisymm (gp_least (okl_mir ho) (by simpa using p1) (PN_map (by simp) (fun a b hb f => FI_mir ho a b hb f) _ _ (gp_is ho p1))) (gp_least ho p1 ?_)
      have := PN_map (l := l.map mirG) (l' := (l.map mirG).map mirG) (by simp) (fun a b hb f => FI_mir (okl_mir ho) a b hb f) _ _ (gp_is (okl_mir ho) (by simpa using p1))
      rwa [map_map_id (g := mirG) ho (fun w hw => mir_mir hw)] at this
    have rr : ((l.map turG).reverse.map turG).reverse = l := by
      rw [List.map_reverse, List.reverse_reverse]
      exact map_map_id (g := turG) ho (fun w hw => tur_tur hw)
    have half : ∀ {x : List S73}, Okl x → 1 ≤ x.length → (gp (x.map turG).reverse).length ≤ (gp x).length := by
      intro x hx hx1
      refine gp_least (okl_tur hx) (by simpa using hx1) ?_
      have := PN_rev (l := x) (l' := (x.map turG).reverse) (by simp) (fun a b hab hb f => FI_tur hx a b hab hb f) _ x.length (Nat.le_refl _) (PR_of _ 0 0 rfl (gp_is hx hx1))
      rw [Nat.sub_self, Nat.zero_add] at this
      exact this
    have lt : (gp (l.map turG).reverse).length = (gp l).length := by
      refine Nat.le_antisymm (half ho p1) ?_
      have := half (okl_tur ho) (by simpa using p1)
      rwa [rr] at this
    have lw : (gp (l.map (widG b))).length ≤ (gp l).length := gp_least (okl_wid ho hb2) (by simpa using p1) (PN_map (by simp) (fun a b' hb f => FI_wid ho hb2 a b' hb f) _ _ (gp_is ho p1))
    have small : ∀ {x : List S73}, x.length = l.length → x.length ≤ 4611686018427387904 := fun h => by omega
    obtain ⟨K2, s2⟩ := arm_Pieces_ev l hl
    obtain ⟨K3, s3⟩ := arm_Mirror_ev l hl
    obtain ⟨K4, s4⟩ := arm_Turned_ev l hl
    obtain ⟨K5, s5⟩ := arm_Widen_ev l hl b
    obtain ⟨K6, s6⟩ := arm_Mirror_ev (l.map mirG) (small (by simp))
    obtain ⟨K7, s7⟩ := arm_Turned_ev (l.map turG).reverse (small (by simp))
    obtain ⟨K8, s8⟩ := same_ev l hl
    obtain ⟨K9, s9⟩ := arm_Pieces_ev (l.map mirG) (small (by simp))
    obtain ⟨Ka, sa⟩ := arm_Pieces_ev (l.map turG).reverse (small (by simp))
    obtain ⟨Kb, sb⟩ := arm_Pieces_ev (l.map (widG b)) (small (by simp))
    unfold chR at s3 s4 s6 s7
    rw [if_pos hv] at s2 s3 s4 s5
    rw [if_pos hb2] at s5
    rw [if_pos vm] at s6
    dsimp only at s6
    rw [map_map_id (g := mirG) ho (fun w hw => mir_mir hw)] at s6
    rw [if_pos vt] at s7
    dsimp only at s7
    rw [rr] at s7
    rw [if_pos vm] at s9
    rw [if_pos vt] at sa
    rw [if_pos vw] at sb
    generalize hk : K0 + K1 + K2 + K3 + K4 + K5 + K6 + K7 + K8 + K9 + Ka + Kb = k
    have a0 := f0 k (by omega)
    have a1 := v1 (k + 2) (by omega)
    have a2 := s2 (k + 2) (by omega)
    have a3 := s3 (k + 2) (by omega)
    have a4 := s4 (k + 2) (by omega)
    have a5 := s5 (k + 2) (by omega)
    have a6 := s6 (k + 1) (by omega)
    have a7 := s7 (k + 1) (by omega)
    have a8 := s8 (k + 1) (by omega)
    have a9 := s9 k (by omega)
    have aa := sa k (by omega)
    have ab := sb k (by omega)
    dsimp only at a0 a1 a2 a3 a4 a5 a6 a7 a8 a9 aa ab
    refine ⟨k + 2, ?_⟩
    unfold dropperlaw03_ArmSides.f
    rw [a1, eb]
    simp only [Option.bind_some, if_true, a2, a3, a4, a5]
    show dropperlaw03_ArmSides.j0 (k + 1 + 1) l (gp l) (l.map mirG) (l.map turG).reverse (l.map (widG b)) false = some true
    rw [dropperlaw03_ArmSides.j0]
    simp only [Option.bind_some, if_true, Bool.false_eq_true, if_false, a6, a7, a8, Bool.not_true]
    rw [dropperlaw03_ArmSides.j1]
    simp only [Option.bind_some, if_true, Bool.false_eq_true, if_false, a9, aa, ab, lm, lt]
    rw [if_pos (show ((gp (l.map (widG b))).length : Int) ≤ ((gp l).length : Int) by omega), a0]
    rfl
end Go.Proofs.Ytiapmkndgalgnaa.G
