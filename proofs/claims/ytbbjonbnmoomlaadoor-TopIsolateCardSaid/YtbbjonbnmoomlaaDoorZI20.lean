/- Functions of the seat and plain laws about them: PWalk, PFeeds, PNet, PPaths. -/
import Derived.Test.YtbbjonbnmoomlaaDoorZI19
import Derived.Test.YtbbjonbnmoomlaaDoorZI11
import Derived.Test.YtbbjonbnmoomlaaDoorZI16
import Derived.Test.YtbbjonbnmoomlaaDoorZI9
section
namespace Go.Proofs.YtbbjonbnmoomlaaDoor.G
open Go.RowKit Go.Proofs.YtbbjonbnmoomlaaDoorW.PrintWords Go.Proofs.YtbbjonbnmoomlaaDoorW.PrintLast Go.Proofs.YtbbjonbnmoomlaaDoorW.PrintMore
set_option linter.unusedVariables false
set_option linter.unusedSectionVars false
/-- A closed switch. -/
def shut (S : List S47) (st : Nat) (i : Int) : Prop := 0 ≤ i ∧ i < (S.length : Int) ∧ st.testBit i.toNat = true
instance (S : List S47) (st : Nat) (i : Int) : Decidable (shut S st i) := by unfold shut; infer_instance
/-- Where switches lead from a section, without a section twice. -/
def go (S : List S47) (st : Nat) : List Nat → Nat → List Int → Option Nat
  | _, x, [] => some x
  | been, x, i :: l => if shut S st i then (if x = sA S i.toNat then (if sB S i.toNat ∈ been then none else go S st (sB S i.toNat :: been) (sB S i.toNat) l) else (if x = sB S i.toNat then (if sA S i.toNat ∈ been then none else go S st (sA S i.toNat :: been) (sA S i.toNat) l) else none)) else none
def res : Option Nat → Int × Bool
  | some y => ((y : Int), true)
  | none => (0, false)
theorem drop_cons {l : List Int} {i : Nat} (h : i < l.length) : l.drop i = rd l (i : Int) :: l.drop (i + 1) := by
  rw [rd_get h]; exact List.drop_eq_getElem_cons h
section
variable {N : Int} {S : List S47} {F : List S49} (o : okG N S F) {st : Nat} (hs : isSt S st) {t : Nat} (ht : t < N.toNat) (hh : ¬ home F t)
include o in
theorem shut_s {i : Int} (h : shut S st i) : (rd_T47 S i).f0 = sA S i.toNat ∧ (rd_T47 S i).f1 = sB S i.toNat ∧ sA S i.toNat < N.toNat ∧ sB S i.toNat < N.toNat ∧ sA S i.toNat ≠ sB S i.toNat := by
  have := s_eq o (show i.toNat < S.length by have := h.1; have := h.2.1; omega)
  rw [Int.toNat_of_nonneg h.1] at this
  exact this
include o hs in
theorem end_loop {l : List Int} (hl : l.length < 4611686018427387904) : ∀ (d i : Nat) (been : List Nat) (x g : Nat), l.length - i = d → i ≤ l.length → g < 256 → (∀ v, g.testBit v = true ↔ v ∈ been) → ∀ k, 2 * d + 1 ≤ k →
    feed_grid_end.l0 k (st : Int) (x : Int) (g : Int) l (l.length : Int) (i : Int) N S F = some (res (go S st been x (l.drop i))) := by
  have hst := isSt_lt o.s10 hs
  have hS := o.s10
  have h8 := o.n8
  intro d
  induction d with
  | zero =>
    intro i been x g h1 hi hg hb k hk
    obtain rfl : i = l.length := by omega
    obtain ⟨k, rfl⟩ : ∃ a, k = a + 1 := ⟨k - 1, by omega⟩
    rw [feed_grid_end.l0, if_neg (by omega), List.drop_length]
    rfl
  | succ d ih =>
    intro i been x g h1 hi hg hb k hk
    obtain ⟨k, rfl⟩ : ∃ a, k = a + 1 + 1 := ⟨k - 2, by omega⟩
    rw [drop_cons (show i < l.length by omega)]
    generalize hv : rd l (i : Int) = v
    have no : (feed_grid_end.j1 (k + 1) (st : Int) (x : Int) (g : Int) v l (l.length : Int) (i : Int) true N S F) = some (0, false) := by
      rw [feed_grid_end.j1, if_pos rfl]
    rw [feed_grid_end.l0, if_pos (by omega), if_pos (by omega), if_pos (by omega), within_some, w64 (by omega) (by omega), hv, Option.bind_some]
    by_cases c : 0 ≤ v ∧ v ≤ (S.length : Int) - 1
    · rw [decide_eq_true c, if_pos rfl, if_pos c.1]
      obtain ⟨j, rfl⟩ := Int.eq_ofNat_of_zero_le c.1
      rw [tb_nat (.inl rfl) (by omega) (by omega)]
      cases q : st.testBit j with
      | false =>
        rw [show ((if false = true then (1 : Int) else 0) == 0) = true from rfl, no, go, if_neg (fun z => by have := z.2.2; rw [Int.toNat_natCast, q] at this; exact absurd this (by decide))]
        rfl
      | true =>
        have sh : shut S st (j : Int) := ⟨c.1, by omega, by rw [Int.toNat_natCast]; exact q⟩
        obtain ⟨eA, eB, lA, lB, _⟩ := shut_s o sh
        have mark : ∀ b : Nat, b < N.toNat → Go.bits .and .u64 (shr .u64 (g : Int) (b : Int)) 1 = (if b ∈ been then 1 else 0) ∧ g ||| 2 ^ b < 256 ∧ (∀ v, (g ||| 2 ^ b).testBit v = true ↔ v ∈ b :: been) ∧ Go.bits .or .u64 (g : Int) (shl .u64 1 (b : Int)) = ((g ||| 2 ^ b : Nat) : Int) := fun b hb8 => by
          have p8 : 2 ^ b < 2 ^ 8 := Nat.pow_lt_pow_right (by omega) (by omega)
          refine ⟨?_, Nat.or_lt_two_pow (n := 8) hg p8, fun v => ?_, ?_⟩
          · rw [tb_nat (.inr rfl) (by omega) (by omega)]
            by_cases z : b ∈ been
            · rw [if_pos z, if_pos ((hb b).2 z)]
            · rw [if_neg z, if_neg (fun w => z ((hb b).1 w))]
          · rw [Nat.testBit_or, Bool.or_eq_true, hb, pow_bit, List.mem_cons, or_comm]
          · rw [shl_nat (.inr rfl) (by omega), or_nat (.inr rfl) (by omega) (by omega)]
        rw [show ((if true = true then (1 : Int) else 0) == 0) = false from rfl, feed_grid_end.j1, if_neg (by decide), if_pos (by omega), if_pos (by omega), go, if_pos sh, eA, eB]
        by_cases cA : x = sA S (j : Int).toNat
        · rw [if_pos (by omega), if_pos cA, if_pos (by omega)]
          obtain ⟨m1, m2, m3, m4⟩ := mark _ lB
          rw [m1]
          by_cases z : sB S (j : Int).toNat ∈ been
          · rw [if_pos z, if_pos rfl, if_pos z]; rfl
          · rw [if_neg z, if_neg (by decide), if_neg z, m4, wsucc i (by omega), ih (i + 1) _ _ _ (by omega) (by omega) m2 m3 k (by omega)]
        · rw [if_neg (by omega), if_neg cA]
          by_cases cB : x = sB S (j : Int).toNat
          · rw [if_pos (by omega), if_pos cB, if_pos (by omega)]
            obtain ⟨m1, m2, m3, m4⟩ := mark _ lA
            rw [m1]
            by_cases z : sA S (j : Int).toNat ∈ been
            · rw [if_pos z, if_pos rfl, if_pos z]; rfl
            · rw [if_neg z, if_neg (by decide), if_neg z, m4, wsucc i (by omega), ih (i + 1) _ _ _ (by omega) (by omega) m2 m3 k (by omega)]
          · rw [if_neg (by omega), if_neg cB]; rfl
    · rw [decide_eq_false c, if_neg (by decide), no, go, if_neg (fun z => c ⟨z.1, by have := z.2.1; omega⟩)]
      rfl
include o hs in
theorem leads_loop {l : List Int} (hl : l.length < 4611686018427387904) : ∀ (d i : Nat) (been : List Nat) (x : Nat) (g : List Bool), l.length - i = d → i ≤ l.length → g.length = N.toNat → (∀ v, g.getD v false = true ↔ v ∈ been) → ∀ k, 2 * d + 1 ≤ k →
    dropperref05_leads.l0 k (st : Int) (t : Int) l g (x : Int) (i : Int) N S F = some (decide (go S st been x (l.drop i) = some t)) := by
  have hst := isSt_lt o.s10 hs
  have hS := o.s10
  have h8 := o.n8
  intro d
  induction d with
  | zero =>
    intro i been x g h1 hi hg hb k hk
    obtain rfl : i = l.length := by omega
    obtain ⟨k, rfl⟩ : ∃ a, k = a + 1 := ⟨k - 1, by omega⟩
    rw [dropperref05_leads.l0, if_neg (by omega), List.drop_length, go]
    by_cases c : x = t
    · simp [c]
    · rw [beq_eq_false_iff_ne.2 (by omega), decide_eq_false (fun z => c (Option.some.inj z))]
  | succ d ih =>
    intro i been x g h1 hi hg hb k hk
    obtain ⟨k, rfl⟩ : ∃ a, k = a + 1 + 1 := ⟨k - 2, by omega⟩
    rw [drop_cons (show i < l.length by omega)]
    have no : (dropperref05_leads.j1 (k + 1) (st : Int) (t : Int) l g (x : Int) (i : Int) true N S F) = some false := by
      rw [dropperref05_leads.j1, if_pos rfl]
    rw [dropperref05_leads.l0, if_pos (by omega), if_pos (by omega)]
    by_cases c : 0 ≤ rd l (i : Int) ∧ rd l (i : Int) < (S.length : Int)
    · rw [if_neg (by omega), if_neg (by omega)]
      obtain ⟨j, hj⟩ := Int.eq_ofNat_of_zero_le c.1
      rw [hj] at c ⊢
      rw [dropperref05_closed.f, if_pos (by omega), tb_nat (.inl rfl) (by omega) (by omega), Option.bind_some]
      cases q : st.testBit j with
      | false =>
        rw [show (!((if false = true then (1 : Int) else 0) == 1)) = true from rfl, no, go, if_neg (fun z => by have := z.2.2; rw [Int.toNat_natCast, q] at this; exact absurd this (by decide))]
        rfl
      | true =>
        have sh : shut S st (j : Int) := ⟨c.1, by omega, by rw [Int.toNat_natCast]; exact q⟩
        obtain ⟨eA, eB, lA, lB, _⟩ := shut_s o sh
        have mark : ∀ b : Nat, b < N.toNat → (rdOf false g (b : Int) = decide (b ∈ been)) ∧ (g.set b true).length = N.toNat ∧ (∀ v, (g.set b true).getD v false = true ↔ v ∈ b :: been) := fun b hb8 => by
          refine ⟨?_, by rw [List.length_set]; exact hg, fun v => ?_⟩
          · unfold rdOf
            rw [Int.toNat_natCast]
            have := hb b
            by_cases z : b ∈ been
            · rw [decide_eq_true z]; exact this.2 z
            · rw [decide_eq_false z]
              cases w : g.getD b false with
              | false => rfl
              | true => exact absurd (this.1 w) z
          · rw [set_bool _ _ _ (by omega), hb, List.mem_cons, or_comm]
        rw [show (!((if true = true then (1 : Int) else 0) == 1)) = false from rfl, dropperref05_leads.j1, if_neg (by decide), if_pos (by omega), if_pos (by omega), hj, if_pos (by omega), if_pos (by omega), go, if_pos sh, eA, eB]
        by_cases cA : x = sA S (j : Int).toNat
        · obtain ⟨m1, m2, m3⟩ := mark _ lB
          rw [if_pos (by omega), if_pos cA, if_pos (by omega), if_pos (by omega), m1]
          by_cases z : sB S (j : Int).toNat ∈ been
          · rw [decide_eq_true z, if_pos rfl, if_pos z]; rfl
          · rw [decide_eq_false z, if_neg (by decide), if_neg z, wsucc i (by omega), Int.toNat_natCast (sB S (j : Int).toNat), ih (i + 1) _ _ _ (by omega) (by omega) m2 m3 k (by omega)]
        · rw [if_neg (by omega), if_neg cA]
          by_cases cB : x = sB S (j : Int).toNat
          · obtain ⟨m1, m2, m3⟩ := mark _ lA
            rw [if_pos (by omega), if_pos cB, if_pos (by omega), if_pos (by omega), m1]
            by_cases z : sA S (j : Int).toNat ∈ been
            · rw [decide_eq_true z, if_pos rfl, if_pos z]; rfl
            · rw [decide_eq_false z, if_neg (by decide), if_neg z, wsucc i (by omega), Int.toNat_natCast (sA S (j : Int).toNat), ih (i + 1) _ _ _ (by omega) (by omega) m2 m3 k (by omega)]
          · rw [if_neg (by omega), if_neg cB]; rfl
    · have gn : go S st been x (rd l (i : Int) :: l.drop (i + 1)) = none := by rw [go, if_neg (fun z => c ⟨z.1, z.2.1⟩)]
      rw [gn]
      by_cases c1 : rd l (i : Int) < 0
      · rw [if_pos c1, no]; rfl
      · rw [if_neg c1, if_pos (by omega), no]; rfl
/-- A list of switches is a feed. -/
def fd (S : List S47) (F : List S49) (st t : Nat) (l : List Int) : Prop := ∃ h, home F h ∧ go S st [h] h l = some t
include o in
theorem fd_iff (l : List Int) : fd S F st t l ↔ ∃ j, j < F.length ∧ go S st [fh F j] (fh F j) l = some t := by
  constructor
  · rintro ⟨h, hh, g⟩
    obtain ⟨j, hj, rfl⟩ := (home_iff o _).1 hh
    exact ⟨j, hj, g⟩
  · rintro ⟨j, hj, g⟩
    exact ⟨_, (home_iff o _).2 ⟨j, hj, rfl⟩, g⟩
include o hs in
theorem fisFeed_ev {l : List Int} (hl : l.length < 4611686018427387904) : ∃ b : Bool, Ev (fun k => feed_grid_isFeed.f k N S F (st : Int) (t : Int) l) b ∧ (b = true ↔ fd S F st t l) := by
  have h8 := o.n8
  obtain ⟨b, e, hb⟩ := feeder_ev o.f6 (fn := fun z0_ z1_ => feed_grid_isFeed_1.f z0_ z1_ N S F (st : Int) l (t : Int)) (p := fun j => go S st [fh F j] (fh F j) l = some t) (fun j hj => by
    have fe := f_eq o hj
    unfold feed_grid_isFeed_1.f feed_grid_isFeed_1.fk feed_grid_end.f
    rw [if_pos (by omega), fe.1, shl_nat (.inr rfl) (by omega)]
    have := end_loop o hs hl l.length 0 [fh F j] (fh F j) (2 ^ fh F j) (by omega) (by omega) (Nat.pow_lt_pow_right (a := 2) (n := 8) (by omega) (by omega)) (fun v => by rw [pow_bit, List.mem_singleton]) (2 * l.length + 3) (by omega)
    rw [show ((0 : Nat) : Int) = 0 from rfl] at this
    rw [this, List.drop_zero, Option.bind_some]
    cases go S st [fh F j] (fh F j) l with
    | none => rfl
    | some y =>
      show some ((y : Int) == (t : Int)) = _
      by_cases c : y = t
      · simp [c]
      · rw [beq_eq_false_iff_ne.2 (by omega), decide_eq_false (fun z => c (Option.some.inj z))])
  exact ⟨b, Ev.bind e (Ev.now _), hb.trans (fd_iff o l).symm⟩
include o hs ht in
theorem risFeed_loop {l : List Int} (hl : l.length < 4611686018427387904) : ∀ (d i : Nat), F.length - i = d → i ≤ F.length → (∀ j, j < i → ¬ go S st [fh F j] (fh F j) l = some t) → ∃ b : Bool, Ev (fun k => dropperref05_isFeed.l0 k (st : Int) (t : Int) l (i : Int) N S F) b ∧ (b = true ↔ ∃ j, j < F.length ∧ go S st [fh F j] (fh F j) l = some t) := by
  have h1 := o.n1
  have h8 := o.n8
  have hF := o.f6
  intro d
  induction d with
  | zero =>
    intro i hd hi h
    refine ⟨false, ev_some _ fun k => ?_, ⟨fun z => absurd z (by decide), fun ⟨j, hj, q⟩ => absurd q (h j (by omega))⟩⟩
    rw [dropperref05_isFeed.l0, if_neg (by omega)]
  | succ d ih =>
    intro i hd hi h
    have fe := f_eq o (show i < F.length by omega)
    have e1 : Ev (fun k => dropperref05_leads.f k N S F (st : Int) (rd_T49 F (i : Int)).f0 (t : Int) l) (decide (go S st [fh F i] (fh F i) l = some t)) := ⟨2 * l.length + 1, fun k hk => by
      show dropperref05_leads.f _ _ _ _ _ _ _ _ = _
      unfold dropperref05_leads.f
      rw [if_pos (by omega), if_pos (by omega), fe.1]
      simp only [Option.bind_some, List.length_replicate, Int.toNat_natCast]
      rw [if_pos (by omega), if_pos (by omega)]
      have := leads_loop (t := t) o hs hl l.length 0 [fh F i] (fh F i) ((List.replicate N.toNat false).set (fh F i) true) (by omega) (by omega) (by rw [List.length_set, List.length_replicate]) (fun v => by
        rw [set_bool _ _ _ (by rw [List.length_replicate]; exact fe.2), List.mem_singleton]
        refine ⟨fun z => z.resolve_left fun q => ?_, .inr⟩
        rw [List.getD_eq_getElem?_getD, List.getElem?_replicate] at q
        split at q <;> exact absurd q (by decide)) k hk
      rw [List.drop_zero] at this
      exact this⟩
    by_cases c : go S st [fh F i] (fh F i) l = some t
    · refine ⟨true, Ev.step (fun k => ?_) (Ev.bind (f := fun k t103 => (if t103 = true then (some true) else (dropperref05_isFeed.l0 k (st : Int) (t : Int) l (wrap64 ((i : Int) + 1)) N S F))) e1 (Ev.congr (fun k => ?_) (Ev.now true))), ⟨fun _ => ⟨i, by omega, c⟩, fun _ => rfl⟩⟩
      · rw [dropperref05_isFeed.l0, if_pos (by omega), if_pos (by omega)]
      · rw [decide_eq_true c, if_pos rfl]
    · obtain ⟨b, e, hb⟩ := ih (i + 1) (by omega) (by omega) (fun j hj => if q : j = i then q ▸ c else h j (by omega))
      refine ⟨b, Ev.step (fun k => ?_) (Ev.bind (f := fun k t103 => (if t103 = true then (some true) else (dropperref05_isFeed.l0 k (st : Int) (t : Int) l (wrap64 ((i : Int) + 1)) N S F))) e1 (Ev.congr (fun k => ?_) e)), hb⟩
      · rw [dropperref05_isFeed.l0, if_pos (by omega), if_pos (by omega)]
      · rw [decide_eq_false c, if_neg (by decide), wsucc i (by omega)]
include o hs ht in
theorem risFeed_ev {l : List Int} (hl : l.length < 4611686018427387904) : ∃ b : Bool, Ev (fun k => dropperref05_isFeed.f k N S F (st : Int) (t : Int) l) b ∧ (b = true ↔ fd S F st t l) := by
  obtain ⟨b, e, hb⟩ := risFeed_loop o hs ht hl F.length 0 (by omega) (by omega) (by omega)
  exact ⟨b, e, hb.trans (fd_iff o l).symm⟩
theorem go_shut : ∀ {l : List Int} {been : List Nat} {x y : Nat}, go S st been x l = some y → ∀ i, i ∈ l → shut S st i
  | [], _, _, _, _, i, hi => absurd hi (by simp)
  | i :: l, been, x, y, h, j, hj => by
    rw [go] at h
    by_cases c : shut S st i
    · rcases List.mem_cons.1 hj with rfl | hj
      · exact c
      · rw [if_pos c] at h
        by_cases cA : x = sA S i.toNat
        · rw [if_pos cA] at h
          by_cases z : sB S i.toNat ∈ been
          · rw [if_pos z] at h; cases h
          · rw [if_neg z] at h; exact go_shut h j hj
        · rw [if_neg cA] at h
          by_cases cB : x = sB S i.toNat
          · rw [if_pos cB] at h
            by_cases z : sA S i.toNat ∈ been
            · rw [if_pos z] at h; cases h
            · rw [if_neg z] at h; exact go_shut h j hj
          · rw [if_neg cB] at h; cases h
    · rw [if_neg c] at h; cases h
end
/-- No two lists have a switch in common. -/
def apartI : List (List Int) → Prop
  | [] => True
  | l :: L => (∀ l', l' ∈ L → ∀ i, i ∈ l → i ∉ l') ∧ apartI L
theorem dropL_cons {L : List (List Int)} {i : Nat} (h : i < L.length) : L.drop i = rd_L4 L (i : Int) :: L.drop (i + 1) := by
  rw [List.drop_eq_getElem_cons h]
  unfold rd_L4
  rw [Int.toNat_natCast, List.getD_eq_getElem?_getD, List.getElem?_eq_getElem h]
  rfl
theorem rdL_mem {L : List (List Int)} {i : Nat} (h : i < L.length) : rd_L4 L (i : Int) ∈ L := by
  unfold rd_L4
  rw [Int.toNat_natCast, List.getD_eq_getElem?_getD, List.getElem?_eq_getElem h]
  exact List.getElem_mem h
section
variable {N : Int} {S : List S47} {F : List S49} (o : okG N S F) {st : Nat} (hs : isSt S st) {t : Nat} (ht : t < N.toNat) (hh : ¬ home F t)
include o in
theorem rare_l1 {L : List (List Int)} (hL : L.length ≤ 20) {i : Nat} (hi : i < L.length) {l : List Int} (el : rd_L4 L (i : Int) = l) (hl : l.length ≤ 20) (sl : ∀ v, v ∈ l → shut S st v) : ∀ (d k : Nat) (u : List Bool) (U : Nat → Prop), l.length - k = d → k ≤ l.length → u.length = S.length → (∀ v, u.getD v false = true ↔ U v) →
    Ev (fun f => dropperref05_AreFeeds.l1 f (st : Int) (t : Int) L u (i : Int) (k : Int) N S F) (false, 0) ∨
    ∃ u', u'.length = S.length ∧ (∀ v, u'.getD v false = true ↔ (U v ∨ ∃ w, w ∈ l.drop k ∧ w.toNat = v)) ∧ (∀ w, w ∈ l.drop k → ¬ U w.toNat) ∧ ∀ r, Ev (fun f => dropperref05_AreFeeds.l0 f (st : Int) (t : Int) L u' ((i + 1 : Nat) : Int) N S F) r → Ev (fun f => dropperref05_AreFeeds.l1 f (st : Int) (t : Int) L u (i : Int) (k : Int) N S F) r := by
  intro d
  induction d with
  | zero =>
    intro k u U h1 hk hu hU
    obtain rfl : k = l.length := by omega
    refine .inr ⟨u, hu, fun v => by rw [hU, List.drop_length]; simp, by simp, fun r e => Ev.step (fun f => ?_) e⟩
    rw [dropperref05_AreFeeds.l1, if_pos (by omega), if_pos (by omega), el, if_neg (by omega), wsucc i (by omega)]
  | succ d ih =>
    intro k u U h1 hk hu hU
    have dc := drop_cons (l := l) (i := k) (by omega)
    have sv := sl (rd l (k : Int)) (by have : rd l (k : Int) ∈ l.drop k := by rw [dc]; exact List.mem_cons_self
                                       exact List.mem_of_mem_drop this)
    have e0 : ∀ f, dropperref05_AreFeeds.l1 (f + 1) (st : Int) (t : Int) L u (i : Int) (k : Int) N S F = (if rdOf false u (rd l (k : Int)) = true then (some (false, 0)) else (dropperref05_AreFeeds.l1 f (st : Int) (t : Int) L (u.set (rd l (k : Int)).toNat true) (i : Int) ((k + 1 : Nat) : Int) N S F)) := fun f => by
      rw [dropperref05_AreFeeds.l1, if_pos (by omega), if_pos (by omega), el, if_pos (by omega), if_pos (by omega), if_pos sv.1, if_pos (by have := sv.2.1; omega), wsucc k (by omega)]
    have e1 : rdOf false u (rd l (k : Int)) = u.getD (rd l (k : Int)).toNat false := rfl
    have vl : (rd l (k : Int)).toNat < u.length := by have := sv.1; have := sv.2.1; omega
    cases q : u.getD (rd l (k : Int)).toNat false with
    | true => exact .inl (ev_some _ fun f => by rw [e0, e1, q, if_pos rfl])
    | false =>
      rcases ih (k + 1) (u.set (rd l (k : Int)).toNat true) (fun v => U v ∨ v = (rd l (k : Int)).toNat) (by omega) (by omega) (by rw [List.length_set]; exact hu) (fun v => by rw [set_bool _ _ _ vl, hU]) with e | ⟨u', hu', hU', n', e'⟩
      · exact .inl (Ev.step (fun f => by rw [e0, e1, q, if_neg (by decide)]) e)
      · refine .inr ⟨u', hu', fun v => (hU' v).trans ?_, fun w hw => ?_, fun r e => Ev.step (fun f => by rw [e0, e1, q, if_neg (by decide)]) (e' r e)⟩
        · rw [dc]
          constructor
          · rintro ((z | rfl) | ⟨w, hw, rfl⟩)
            · exact .inl z
            · exact .inr ⟨_, List.mem_cons_self, rfl⟩
            · exact .inr ⟨w, List.mem_cons_of_mem _ hw, rfl⟩
          · rintro (z | ⟨w, hw, rfl⟩)
            · exact .inl (.inl z)
            · rcases List.mem_cons.1 hw with rfl | hw
              · exact .inl (.inr rfl)
              · exact .inr ⟨w, hw, rfl⟩
        · rw [dc] at hw
          rcases List.mem_cons.1 hw with rfl | hw
          · intro z
            rw [← hU, q] at z
            exact absurd z (by decide)
          · exact fun z => n' w hw (.inl z)
include o hs ht in
theorem rare_l0 {L : List (List Int)} (hL : L.length ≤ 20) (hl : ∀ l, l ∈ L → l.length ≤ 20) : ∀ (d i : Nat) (u : List Bool) (U : Nat → Prop), L.length - i = d → i ≤ L.length → u.length = S.length → (∀ v, u.getD v false = true ↔ U v) →
    ∃ b : Bool, Ev (fun f => dropperref05_AreFeeds.l0 f (st : Int) (t : Int) L u (i : Int) N S F) (b, 0) ∧ (b = true → (∀ l, l ∈ L.drop i → fd S F st t l ∧ ∀ w, w ∈ l → ¬ U w.toNat) ∧ apartI (L.drop i)) := by
  intro d
  induction d with
  | zero =>
    intro i u U h1 hi hu hU
    obtain rfl : i = L.length := by omega
    refine ⟨true, ev_some _ fun f => ?_, fun _ => ?_⟩
    · rw [dropperref05_AreFeeds.l0, if_neg (by omega)]
    · rw [List.drop_length]; exact ⟨by simp, trivial⟩
  | succ d ih =>
    intro i u U h1 hi hu hU
    have ll := hl _ (rdL_mem (L := L) (i := i) (by omega))
    obtain ⟨b1, eb1, hb1⟩ := risFeed_ev o hs ht (l := rd_L4 L (i : Int)) (by omega)
    have e0 : ∀ f, dropperref05_AreFeeds.l0 (f + 1) (st : Int) (t : Int) L u (i : Int) N S F = ((dropperref05_isFeed.f f N S F (st : Int) (t : Int) (rd_L4 L (i : Int))).bind fun t107 => (if t107 = true then (dropperref05_AreFeeds.l1 f (st : Int) (t : Int) L u (i : Int) 0 N S F) else (some (false, 0)))) := fun f => by
      rw [dropperref05_AreFeeds.l0, if_pos (by omega), if_pos (by omega)]
    cases b1 with
    | false =>
      exact ⟨false, Ev.step e0 (Ev.bind (f := fun f t107 => (if t107 = true then (dropperref05_AreFeeds.l1 f (st : Int) (t : Int) L u (i : Int) 0 N S F) else (some (false, 0)))) eb1 (Ev.now _)), fun z => absurd z (by decide)⟩
    | true =>
      have fe := hb1.1 rfl
      obtain ⟨h, _, hg⟩ := fe
      rcases rare_l1 (t := t) o hL (show i < L.length by omega) rfl ll (go_shut hg) (rd_L4 L (i : Int)).length 0 u U (by omega) (by omega) hu hU with e | ⟨u', hu', hU', n', e'⟩
      · exact ⟨false, Ev.step e0 (Ev.bind (f := fun f t107 => (if t107 = true then (dropperref05_AreFeeds.l1 f (st : Int) (t : Int) L u (i : Int) 0 N S F) else (some (false, 0)))) eb1 e), fun z => absurd z (by decide)⟩
      · obtain ⟨b, e, hb⟩ := ih (i + 1) u' _ (by omega) (by omega) hu' hU'
        refine ⟨b, Ev.step e0 (Ev.bind (f := fun f t107 => (if t107 = true then (dropperref05_AreFeeds.l1 f (st : Int) (t : Int) L u (i : Int) 0 N S F) else (some (false, 0)))) eb1 (e' _ e)), fun z => ?_⟩
        obtain ⟨h2, h3⟩ := hb z
        rw [List.drop_zero] at n' h2
        rw [dropL_cons (show i < L.length by omega)]
        refine ⟨fun l hl' => ?_, fun l hl' w hw hw2 => (h2 l hl').2 w hw2 (.inr ⟨w, hw, rfl⟩), h3⟩
        rcases List.mem_cons.1 hl' with rfl | hl'
        · exact ⟨hb1.1 rfl, n'⟩
        · exact ⟨(h2 l hl').1, fun w hw z => (h2 l hl').2 w hw (.inl z)⟩
include o hs ht in
theorem rare_ev {L : List (List Int)} (hL : L.length ≤ 20) (hl : ∀ l, l ∈ L → l.length ≤ 20) : ∃ b : Bool, Ev (fun f => dropperref05_AreFeeds.f f N S F (st : Int) (t : Int) L) (b, 0) ∧ (b = true → (∀ l, l ∈ L → fd S F st t l) ∧ apartI L) := by
  obtain ⟨r, er, hr⟩ := why_ev o (st : Int) (t : Int)
  obtain rfl := hr.2 ⟨st, t, rfl, hs, rfl, by omega⟩
  have hS := o.s10
  obtain ⟨b, e, hb⟩ := rare_l0 o hs ht hL hl L.length 0 (List.replicate S.length false) (fun _ => False) (by omega) (by omega) List.length_replicate (fun v => by
    rw [List.getD_eq_getElem?_getD, List.getElem?_replicate]
    split <;> simp)
  refine ⟨b, Ev.bind er (Ev.congr (fun k => ?_) e), fun z => ?_⟩
  · rw [if_pos rfl, if_neg (by omega), if_pos (by omega), if_pos (by omega), Int.toNat_natCast]
    rfl
  · have := hb z
    rw [List.drop_zero] at this
    exact ⟨fun l hl => (this.1 l hl).1, this.2⟩
include o in
theorem fare_l1 {L : List (List Int)} {i : Nat} (hi : i < L.length) (hL : L.length ≤ 20) {l : List Int} (el : rd_L4 L (i : Int) = l) (hl : l.length ≤ 20) (sl : ∀ v, v ∈ l → shut S st v) (nl : l.Nodup) : ∀ (d k : Nat) (u : Nat) (U : Nat → Prop), l.length - k = d → k ≤ l.length → u < 1024 → (∀ v, u.testBit v = true ↔ U v) → (∀ w, w ∈ l.drop k → ¬ U w.toNat) →
    ∃ u' : Nat, u' < 1024 ∧ (∀ v, u'.testBit v = true ↔ (U v ∨ ∃ w, w ∈ l.drop k ∧ w.toNat = v)) ∧ ∀ r, Ev (fun f => feed_AreFeeds.l0 f (st : Int) (t : Int) L (u' : Int) L (L.length : Int) ((i + 1 : Nat) : Int) N S F) r → Ev (fun f => feed_AreFeeds.l1 f (st : Int) (t : Int) L (u : Int) L (L.length : Int) (i : Int) l (l.length : Int) (k : Int) N S F) r := by
  have hS := o.s10
  intro d
  induction d with
  | zero =>
    intro k u U h1 hk hu hU hw
    obtain rfl : k = l.length := by omega
    refine ⟨u, hu, fun v => by rw [hU, List.drop_length]; simp, fun r e => Ev.step (fun f => ?_) e⟩
    rw [feed_AreFeeds.l1, if_neg (by omega), wsucc i (by omega)]
  | succ d ih =>
    intro k u U h1 hk hu hU hw
    have dc := drop_cons (l := l) (i := k) (by omega)
    have sv := sl (rd l (k : Int)) (by have : rd l (k : Int) ∈ l.drop k := by rw [dc]; exact List.mem_cons_self
                                       exact List.mem_of_mem_drop this)
    obtain ⟨v, hv⟩ := Int.eq_ofNat_of_zero_le sv.1
    have v10 : v < 10 := by have := sv.2.1; omega
    have nv : u.testBit v = false := by
      cases q : u.testBit v with
      | false => rfl
      | true => exact absurd ((hU v).1 q) (by have := hw (rd l (k : Int)) (by rw [dc]; exact List.mem_cons_self); rw [hv, Int.toNat_natCast] at this; exact this)
    have ndr : (l.drop k).Nodup := nl.sublist (List.drop_sublist _ _)
    rw [dc] at ndr
    obtain ⟨u', hu', hU', e'⟩ := ih (k + 1) (u ||| 2 ^ v) (fun x => U x ∨ x = v) (by omega) (by omega) (Nat.or_lt_two_pow (n := 10) hu (pow_lt10 v10)) (fun x => by rw [Nat.testBit_or, Bool.or_eq_true, hU, pow_bit]) (fun w hw2 z => by
      rcases z with z | z
      · exact hw w (by rw [dc]; exact List.mem_cons_of_mem _ hw2) z
      · have sw := sl w (List.mem_of_mem_drop hw2)
        have : w = rd l (k : Int) := by have := sw.1; omega
        exact (List.nodup_cons.1 ndr).1 (this ▸ hw2))
    refine ⟨u', hu', fun x => (hU' x).trans ?_, fun r e => Ev.step (fun f => ?_) (e' r e)⟩
    · rw [dc]
      constructor
      · rintro ((z | rfl) | ⟨w, hw, rfl⟩)
        · exact .inl z
        · exact .inr ⟨_, List.mem_cons_self, by rw [hv, Int.toNat_natCast]⟩
        · exact .inr ⟨w, List.mem_cons_of_mem _ hw, rfl⟩
      · rintro (z | ⟨w, hw, rfl⟩)
        · exact .inl (.inl z)
        · rcases List.mem_cons.1 hw with rfl | hw
          · exact .inl (.inr (by rw [hv, Int.toNat_natCast]))
          · exact .inr ⟨w, hw, rfl⟩
    · have p10 := pow_lt10 v10
      rw [feed_AreFeeds.l1, if_pos (by omega), if_pos (by omega), if_pos (by omega), hv, if_pos (by omega), tb_nat (.inl rfl) (by omega) (by omega), nv, if_neg (by decide), shl_nat (.inl rfl) (by omega), or_nat (.inl rfl) (by omega) (by omega), wsucc k (by omega)]
include o hs ht in
theorem fare_l0 {L : List (List Int)} (hL : L.length ≤ 20) (hl : ∀ l, l ∈ L → fd S F st t l ∧ l.Nodup ∧ l.length ≤ 20) : ∀ (d i : Nat) (u : Nat) (U : Nat → Prop), L.length - i = d → i ≤ L.length → u < 1024 → (∀ v, u.testBit v = true ↔ U v) → (∀ l, l ∈ L.drop i → ∀ w, w ∈ l → ¬ U w.toNat) → apartI (L.drop i) →
    Ev (fun f => feed_AreFeeds.l0 f (st : Int) (t : Int) L (u : Int) L (L.length : Int) (i : Int) N S F) (true, 0) := by
  intro d
  induction d with
  | zero =>
    intro i u U h1 hi hu hU hw ha
    refine ev_some _ fun f => ?_
    rw [feed_AreFeeds.l0, if_neg (by omega), decide_eq_true (by omega)]
  | succ d ih =>
    intro i u U h1 hi hu hU hw ha
    obtain ⟨lf, ln, ll⟩ := hl _ (rdL_mem (L := L) (i := i) (by omega))
    have dL := dropL_cons (L := L) (i := i) (by omega)
    rw [dL] at ha
    obtain ⟨b1, eb1, hb1⟩ := fisFeed_ev (t := t) o hs (l := rd_L4 L (i : Int)) (by omega)
    obtain rfl := hb1.2 lf
    obtain ⟨h, _, hg⟩ := lf
    obtain ⟨u', hu', hU', e'⟩ := fare_l1 (t := t) o (show i < L.length by omega) hL rfl ll (go_shut hg) ln (rd_L4 L (i : Int)).length 0 u U (by omega) (by omega) hu hU (fun w hw2 => hw _ (by rw [dL]; exact List.mem_cons_self) w (by rw [List.drop_zero] at hw2; exact hw2))
    rw [List.drop_zero] at hU'
    refine Ev.step (fun f => ?_) (Ev.bind (f := fun f t105 => (if t105 = true then (feed_AreFeeds.l1 f (st : Int) (t : Int) L (u : Int) L (L.length : Int) (i : Int) (rd_L4 L (i : Int)) ((rd_L4 L (i : Int)).length : Int) 0 N S F) else (some (false, 0)))) eb1 (e' _ (ih (i + 1) u' _ (by omega) (by omega) hu' hU' (fun l hl2 w hw2 z => ?_) ha.2)))
    · rw [feed_AreFeeds.l0, if_pos (by omega), if_pos (by omega), if_pos (by omega)]
    · rcases z with z | ⟨w2, hw3, e⟩
      · exact hw l (by rw [dL]; exact List.mem_cons_of_mem _ hl2) w hw2 z
      · have s1 := (go_shut hg w2 hw3).1
        obtain ⟨⟨h2, _, hg2⟩, _, _⟩ := hl l (List.mem_of_mem_drop hl2)
        have s2 := (go_shut hg2 w hw2).1
        have : w2 = w := by omega
        exact ha.1 l hl2 w2 hw3 (this ▸ hw2)
include o hs ht in
theorem fare_ev {L : List (List Int)} (hL : L.length ≤ 20) (hl : ∀ l, l ∈ L → fd S F st t l ∧ l.Nodup ∧ l.length ≤ 20) (ha : apartI L) : Ev (fun f => feed_AreFeeds.f f N S F (st : Int) (t : Int) L) (true, 0) := by
  refine Ev.bind (fasked_ev o hs (by omega) (by omega)) ?_
  exact fare_l0 o hs ht hL hl L.length 0 0 (fun _ => False) (by omega) (by omega) (by omega) (fun v => by simp) (fun l _ w _ => id) (by rw [List.drop_zero]; exact ha)
end
section
variable {N : Int} {S : List S47} {F : List S49} (o : okG N S F) {st : Nat} (hs : isSt S st) {t : Nat} (ht : t < N.toNat) (hh : ¬ home F t)
def gn (o : okG N S F) (st : Nat) (ht : t < N.toNat) (hh : ¬ home F t) : Net where
  m := S.length
  n := N.toNat
  A := sA S
  B := sB S
  lt := fun i hi => by
    obtain ⟨_, _, h1, h2, h3⟩ := s_eq o hi
    exact ⟨h1, h2, h3⟩
  home := home F
  t := t
  tn := ht
  th := hh
  cl := fun i => st.testBit i = true
theorem jn_iff (i x y : Nat) : jn S st i x y ↔ (joins (gn o st ht hh) i x y ∧ (gn o st ht hh).cl i) := by
  constructor
  · rintro ⟨h1, h2, h3⟩; exact ⟨⟨h1, h3⟩, h2⟩
  · rintro ⟨⟨h1, h3⟩, h2⟩; exact ⟨h1, h2, h3⟩
/-- Ways over closed switches. -/
abbrev wk (S : List S47) (st : Nat) : List Nat → List Nat → Prop := lk (jn S st)
theorem feed_iff (l : List Nat) : feed (gn o st ht hh) l ↔ ∃ h vs, wk S st (h :: vs) l ∧ (h :: vs).Nodup ∧ home F h ∧ (h :: vs).getLast? = some t := by
  constructor
  · rintro ⟨h, vs, h1, h2, h3, h4⟩
    exact ⟨h, vs, lk_mono (fun i x y q => (jn_iff o ht hh i x y).2 q) h1, h2, h3.2, h4⟩
  · rintro ⟨h, vs, h1, h2, h3, h4⟩
    exact ⟨h, vs, lk_mono (fun i x y q => (jn_iff o ht hh i x y).1 q) h1, h2, ⟨home_lt o h3, h3⟩, h4⟩
include o in
theorem jn_shut {i x y : Nat} (h : jn S st i x y) : shut S st (i : Int) ∧ ((x = sA S i ∧ y = sB S i) ∨ (x ≠ sA S i ∧ x = sB S i ∧ y = sA S i)) ∧ x < N.toNat ∧ y < N.toNat := by
  obtain ⟨h1, h2, h3⟩ := h
  obtain ⟨_, _, l1, l2, ne⟩ := s_eq o h1
  refine ⟨⟨by omega, by omega, by rw [Int.toNat_natCast]; exact h2⟩, ?_, ?_⟩
  · rcases h3 with ⟨rfl, rfl⟩ | ⟨rfl, rfl⟩
    · exact .inl ⟨rfl, rfl⟩
    · exact .inr ⟨fun z => ne z.symm, rfl, rfl⟩
  · rcases h3 with ⟨rfl, rfl⟩ | ⟨rfl, rfl⟩
    · exact ⟨l1, l2⟩
    · exact ⟨l2, l1⟩
include o in
theorem go_of_wk : ∀ {vs l been : List Nat} {x : Nat}, wk S st (x :: vs) l → vs.Nodup → (∀ v, v ∈ vs → v ∉ been) → (x :: vs).getLast? = some t → go S st been x (il l) = some t
  | [], [], been, x, _, _, _, h => by
    show go S st been x [] = _
    rw [go]
    simpa using h
  | y :: vs, i :: l, been, x, ⟨hj, hw⟩, hn, hb, h => by
    obtain ⟨sh, c, _⟩ := jn_shut o hj
    show go S st been x ((i : Int) :: il l) = _
    have yb : y ∉ been := hb y List.mem_cons_self
    have rest : go S st (y :: been) y (il l) = some t := by
      refine go_of_wk hw (List.nodup_cons.1 hn).2 (fun v hv z => ?_) (by rw [List.getLast?_cons_cons] at h; exact h)
      rcases List.mem_cons.1 z with rfl | z
      · exact (List.nodup_cons.1 hn).1 hv
      · exact hb v (List.mem_cons_of_mem _ hv) z
    rw [go, if_pos sh, Int.toNat_natCast]
    rcases c with ⟨c1, c2⟩ | ⟨c1, c2, c3⟩
    · rw [if_pos c1, ← c2, if_neg yb]; exact rest
    · rw [if_neg c1, if_pos c2, ← c3, if_neg yb]; exact rest
  | [], _ :: _, _, _, hw, _, _, _ => hw.elim
  | _ :: _, [], _, _, hw, _, _, _ => hw.elim
theorem wk_of_go : ∀ {l : List Int} {been : List Nat} {x : Nat}, go S st been x l = some t → ∃ vs, wk S st (x :: vs) (l.map Int.toNat) ∧ vs.Nodup ∧ (∀ v, v ∈ vs → v ∉ been) ∧ (x :: vs).getLast? = some t
  | [], been, x, h => by
    rw [go] at h
    exact ⟨[], trivial, .nil, fun v hv => absurd hv (by simp), h⟩
  | i :: l, been, x, h => by
    rw [go] at h
    by_cases sh : shut S st i
    · rw [if_pos sh] at h
      have use : ∀ y, y ∉ been → jn S st i.toNat x y → go S st (y :: been) y l = some t → ∃ vs, wk S st (x :: vs) ((i :: l).map Int.toNat) ∧ vs.Nodup ∧ (∀ v, v ∈ vs → v ∉ been) ∧ (x :: vs).getLast? = some t := fun y yb hj hg => by
        obtain ⟨vs, w, n, b, e⟩ := wk_of_go hg
        refine ⟨y :: vs, ⟨hj, w⟩, List.nodup_cons.2 ⟨fun z => b y z List.mem_cons_self, n⟩, fun v hv => ?_, by rw [List.getLast?_cons_cons]; exact e⟩
        rcases List.mem_cons.1 hv with rfl | hv
        · exact yb
        · exact fun z => b v hv (List.mem_cons_of_mem _ z)
      have li : i.toNat < S.length := by have := sh.1; have := sh.2.1; omega
      by_cases cA : x = sA S i.toNat
      · rw [if_pos cA] at h
        by_cases z : sB S i.toNat ∈ been
        · rw [if_pos z] at h; cases h
        · rw [if_neg z] at h
          exact use _ z ⟨li, sh.2.2, .inl ⟨cA.symm, rfl⟩⟩ h
      · rw [if_neg cA] at h
        by_cases cB : x = sB S i.toNat
        · rw [if_pos cB] at h
          by_cases z : sA S i.toNat ∈ been
          · rw [if_pos z] at h; cases h
          · rw [if_neg z] at h
            exact use _ z ⟨li, sh.2.2, .inr ⟨rfl, cB.symm⟩⟩ h
        · rw [if_neg cB] at h; cases h
    · rw [if_neg sh] at h; cases h
theorem fd_of_feed {l : List Nat} (h : feed (gn o st ht hh) l) : fd S F st t (il l) := by
  obtain ⟨x, vs, h1, h2, h3, h4⟩ := (feed_iff o ht hh l).1 h
  exact ⟨x, h3, go_of_wk o h1 (List.nodup_cons.1 h2).2 (fun v hv z => (List.nodup_cons.1 h2).1 (List.mem_singleton.1 z ▸ hv)) h4⟩
theorem feed_of_fd {l : List Int} (h : fd S F st t l) : feed (gn o st ht hh) (l.map Int.toNat) := by
  obtain ⟨x, h3, hg⟩ := h
  obtain ⟨vs, w, n, b, e⟩ := wk_of_go hg
  exact (feed_iff o ht hh _).2 ⟨x, vs, w, List.nodup_cons.2 ⟨fun z => b x z (List.mem_singleton.2 rfl), n⟩, h3, e⟩
theorem wk_ends : ∀ {vs l : List Nat}, wk S st vs l → ∀ i, i ∈ l → i < S.length ∧ sA S i ∈ vs ∧ sB S i ∈ vs
  | [_], [], _, i, hi => absurd hi (by simp)
  | x :: y :: vs, i :: l, ⟨hj, hw⟩, j, h => by
    rcases List.mem_cons.1 h with rfl | h
    · refine ⟨hj.1, ?_⟩
      rcases hj.2.2 with ⟨h1, h2⟩ | ⟨h1, h2⟩ <;> rw [h1, h2] <;> simp
    · obtain ⟨a, b, c⟩ := wk_ends hw j h
      exact ⟨a, List.mem_cons_of_mem _ b, List.mem_cons_of_mem _ c⟩
  | [], _, h, _, _ => h.elim
  | [_], _ :: _, h, _, _ => h.elim
  | _ :: _ :: _, [], h, _, _ => h.elim
theorem wk_nodup : ∀ {vs l : List Nat}, wk S st vs l → vs.Nodup → l.Nodup
  | [_], [], _, _ => .nil
  | x :: y :: vs, i :: l, ⟨hj, hw⟩, hn => by
    have hn := List.nodup_cons.1 hn
    refine List.nodup_cons.2 ⟨fun z => ?_, wk_nodup hw hn.2⟩
    obtain ⟨_, b, c⟩ := wk_ends hw i z
    rcases hj.2.2 with ⟨h1, _⟩ | ⟨_, h2⟩
    · exact hn.1 (h1 ▸ b)
    · exact hn.1 (h2 ▸ c)
  | [], _, h, _ => h.elim
  | [_], _ :: _, h, _ => h.elim
  | _ :: _ :: _, [], h, _ => h.elim
theorem feed_small {l : List Nat} (h : feed (gn o st ht hh) l) : l.Nodup ∧ (∀ i, i ∈ l → i < 10) ∧ l.length ≤ 10 ∧ l ≠ [] := by
  have hS := o.s10
  obtain ⟨x, vs, h1, h2, h3, h4⟩ := (feed_iff o ht hh l).1 h
  have n := wk_nodup h1 h2
  have b : ∀ i, i ∈ l → i < 10 := fun i hi => by have := (wk_ends h1 i hi).1; omega
  refine ⟨n, b, ?_, ?_⟩
  · have := nodup_sub n (c := List.range 10) (fun i hi => List.mem_range.2 (b i hi))
    simpa using this
  · rintro rfl
    cases vs with
    | nil => exact hh (Option.some.inj h4 ▸ h3)
    | cons y vs => exact h1.elim
inductive Bk (S : List S47) (F : List S49) (st : Nat) : List Nat → Nat → List Nat → List Nat → Prop
  | here {been : List Nat} {x : Nat} {l : List Nat} : home F x → Bk S F st been x l l
  | step {been : List Nat} {x y i : Nat} {l l' : List Nat} : jn S st i x y → y ∉ been → Bk S F st (y :: been) y (i :: l) l' → Bk S F st been x l l'
theorem jn_symm {i x y : Nat} (h : jn S st i x y) : jn S st i y x := ⟨h.1, h.2.1, h.2.2.symm⟩
theorem bk_sound {been : List Nat} {x : Nat} {l l' : List Nat} (h : Bk S F st been x l l') : ∀ vs, been = x :: vs → wk S st (x :: vs) l → (x :: vs).Nodup → (x :: vs).getLast? = some t → ∃ h vs, wk S st (h :: vs) l' ∧ (h :: vs).Nodup ∧ home F h ∧ (h :: vs).getLast? = some t := by
  induction h with
  | here hx => exact fun vs _ w n e => ⟨_, vs, w, n, hx, e⟩
  | step j nb b ih =>
    intro vs hb w n e
    subst hb
    exact ih _ rfl ⟨jn_symm j, w⟩ (List.nodup_cons.2 ⟨nb, n⟩) (by rw [List.getLast?_cons_cons]; exact e)
theorem bk_complete {l' : List Nat} : ∀ {vs l : List Nat} {x : Nat}, wk S st (x :: vs) l → (x :: vs).Nodup → (x :: vs).getLast? = some t → Bk S F st (x :: vs) x l l' → Bk S F st [t] t [] l'
  | [], [], x, _, _, e, b => by
    obtain rfl : x = t := Option.some.inj e
    exact b
  | y :: vs, i :: l, x, ⟨hj, hw⟩, hn, e, b => bk_complete hw (List.nodup_cons.1 hn).2 (by rw [List.getLast?_cons_cons] at e; exact e) (.step (jn_symm hj) (List.nodup_cons.1 hn).1 b)
  | [], _ :: _, _, h, _, _, _ => h.elim
  | _ :: _, [], _, h, _, _, _ => h.elim
theorem bk_iff (l : List Nat) : Bk S F st [t] t [] l ↔ feed (gn o st ht hh) l := by
  rw [feed_iff]
  constructor
  · exact fun h => bk_sound h [] rfl trivial (by simp) rfl
  · rintro ⟨h, vs, h1, h2, h3, h4⟩
    exact bk_complete h1 h2 h4 (.here h3)
theorem bits_of (C : Nat → Prop) : ∀ m, ∃ s : Nat, s < 2 ^ m ∧ ∀ j, s.testBit j = true ↔ (j < m ∧ C j)
  | 0 => ⟨0, by decide, fun j => by simp⟩
  | m + 1 => by
    obtain ⟨s, h1, h2⟩ := bits_of C m
    by_cases c : C m
    · refine ⟨s ||| 2 ^ m, Nat.or_lt_two_pow (Nat.lt_trans h1 (Nat.pow_lt_pow_right (by omega) (by omega))) (Nat.pow_lt_pow_right (by omega) (by omega)), fun j => ?_⟩
      rw [Nat.testBit_or, Bool.or_eq_true, h2, pow_bit]
      constructor
      · rintro (z | rfl)
        · exact ⟨by omega, z.2⟩
        · exact ⟨by omega, c⟩
      · rintro ⟨z1, z2⟩
        by_cases q : j = m
        · exact .inr q
        · exact .inl ⟨by omega, z2⟩
    · refine ⟨s, Nat.lt_trans h1 (Nat.pow_lt_pow_right (by omega) (by omega)), fun j => (h2 j).trans ⟨fun z => ⟨by omega, z.2⟩, fun z => ⟨?_, z.2⟩⟩⟩
      by_cases q : j = m
      · exact absurd (q ▸ z.2) c
      · omega
theorem iso_cut (hst : st < 1024) {c : Nat} (hc : c < 1024) (h : ¬ lv S F (dif st c) t) : iso (gn o st ht hh) (fun i => i ∈ bl c) := by
  refine ⟨fun v => lv S F (dif st c) v, fun v _ hv => ⟨v, hv, .refl⟩, h, fun i hi hcl hn => ?_⟩
  have nb : (dif st c).testBit i = true := (dif_tb hst hc i).2 ⟨hcl, fun z => hn ((bl_mem hc).2 z)⟩
  exact ⟨fun ⟨x, hx, r⟩ => ⟨x, hx, r.step ⟨hi, nb, .inl ⟨rfl, rfl⟩⟩⟩, fun ⟨x, hx, r⟩ => ⟨x, hx, r.step ⟨hi, nb, .inr ⟨rfl, rfl⟩⟩⟩⟩
theorem cnt_range (G : Net) (C : Nat → Prop) (s : Nat) (h : ∀ j, s.testBit j = true ↔ (j < G.m ∧ C j)) : ∀ n, n ≤ G.m → (((List.range n).filter fun i => s.testBit i).length : Int) = sm (fun i => ind (C i)) n
  | 0, _ => rfl
  | n + 1, hn => by
    rw [List.range_succ, List.filter_append, List.length_append, sm, ← cnt_range G C s h n (by omega)]
    unfold ind
    by_cases c : s.testBit n = true
    · rw [if_pos ((h n).1 c).2]; simp [c]
    · rw [if_neg (fun z => c ((h n).2 ⟨by omega, z⟩))]; simp [c]
theorem cut_of_iso (hs : isSt S st) {C : Nat → Prop} (h1 : ∀ i, C i → (gn o st ht hh).cl i) (h2 : iso (gn o st ht hh) C) : ∃ s, cuts S F st t s ∧ ((bl s).length : Int) ≤ cnt (gn o st ht hh) C := by
  have hst := isSt_lt o.s10 hs
  obtain ⟨s, s1, s2⟩ := bits_of C S.length
  have s3 := isSt_lt o.s10 s1
  refine ⟨s, ⟨s1, fun j hj => h1 j ((s2 j).1 hj).2, ?_⟩, ?_⟩
  · obtain ⟨X, x1, x2, x3⟩ := h2
    rintro ⟨h, hhome, r⟩
    refine x2 (r.closed (P := X) (fun i u v j hu => ?_) (x1 h (home_lt o hhome) hhome))
    obtain ⟨j1, j2, j3⟩ := j
    have d := (dif_tb hst s3 i).1 j2
    have := x3 i j1 d.1 (fun z => d.2 ((s2 i).2 ⟨j1, z⟩))
    rcases j3 with ⟨rfl, rfl⟩ | ⟨rfl, rfl⟩
    · exact this.1 hu
    · exact this.2 hu
  · have e := cnt_range (gn o st ht hh) C s s2 S.length (Nat.le_refl _)
    show _ ≤ sm (fun i => ind (C i)) S.length
    rw [← e]
    have : (bl s).length ≤ ((List.range S.length).filter fun i => s.testBit i).length := nodup_sub (bl_nodup s) fun i hi => by
      have := (bl_mem s3).1 hi
      exact List.mem_filter.2 ⟨List.mem_range.2 ((s2 i).1 this).1, this⟩
    omega
end
/-- The set of a list. -/
def bs : List Nat → Nat
  | [] => 0
  | i :: l => bs l ||| 2 ^ i
theorem bs_lt : ∀ {l : List Nat}, (∀ i, i ∈ l → i < 10) → bs l < 1024
  | [], _ => by decide
  | i :: l, h => Nat.or_lt_two_pow (n := 10) (bs_lt fun j hj => h j (List.mem_cons_of_mem _ hj)) (pow_lt10 (h i List.mem_cons_self))
theorem bs_bit : ∀ (l : List Nat) (v : Nat), (bs l).testBit v = true ↔ v ∈ l
  | [], v => by simp [bs]
  | i :: l, v => by rw [bs, Nat.testBit_or, Bool.or_eq_true, bs_bit l v, pow_bit, List.mem_cons, or_comm]
theorem and_zero (x y : Nat) : x &&& y = 0 ↔ ∀ v, ¬ (x.testBit v = true ∧ y.testBit v = true) := by
  constructor
  · intro h v z
    have : (x &&& y).testBit v = true := by rw [Nat.testBit_and, z.1, z.2]; rfl
    rw [h, Nat.zero_testBit] at this
    exact absurd this (by decide)
  · intro h
    refine bit_ext fun v => ?_
    rw [Nat.testBit_and, Bool.and_eq_true, Nat.zero_testBit]
    exact ⟨fun z => absurd z (h v), fun z => absurd z (by decide)⟩
theorem wrap_other {a b x y : Nat} (ha : a < 8) (hb : b < 8) (hx : x < 8) (h : ((a : Int) + (b : Int)) - (x : Int) = (y : Int)) : wrap64 (wrap64 ((a : Int) + (b : Int)) - (x : Int)) = (y : Int) := by
  have e : wrap64 ((a : Int) + (b : Int)) = (a : Int) + (b : Int) := w64 (by omega) (by omega)
  generalize wrap64 ((a : Int) + (b : Int)) = z at e ⊢
  subst e
  rw [h]
  exact w64 (by omega) (by omega)
theorem pow11 : ∀ {e : Nat}, e ≤ 8 → 11 ^ e ≤ 214358881
  | 0, _ => by decide
  | 1, _ => by decide
  | 2, _ => by decide
  | 3, _ => by decide
  | 4, _ => by decide
  | 5, _ => by decide
  | 6, _ => by decide
  | 7, _ => by decide
  | 8, _ => by decide
  | _ + 9, h => by omega
theorem pow11_step {m e : Nat} (h : m ≤ 10) : 1 + m * 11 ^ e ≤ 11 ^ (e + 1) := by
  have h1 : m * 11 ^ e ≤ 10 * 11 ^ e := Nat.mul_le_mul_right _ h
  have h2 : 1 ≤ 11 ^ e := Nat.one_le_pow _ _ (by omega)
  rw [Nat.pow_succ]
  omega
theorem lim_step (e i : Nat) : (1 + i * 11 ^ e) + 11 ^ e ≤ 1 + (i + 1) * 11 ^ e := by
  rw [Nat.add_mul, Nat.one_mul]
  generalize 11 ^ e = B
  generalize i * B = C
  omega
theorem lim_max {e : Nat} (he : e ≤ 8) (i : Nat) (hi : i < 10) : (1 + i * 11 ^ e) + 11 ^ e < 4398046511104 := by
  have h := pow11 he
  revert h
  generalize 11 ^ e = B
  intro h
  have : i * B ≤ 10 * B := Nat.mul_le_mul_right _ (by omega)
  omega
/-- A feed with its set, as the program has it. -/
def pk (l : List Nat) : S67 := ⟨(bs l : Int), il l⟩
section
variable {N : Int} {S : List S47} {F : List S49} (o : okG N S F) {st : Nat} (hs : isSt S st)
include o hs in
/-- One round for each switch, if the calls answer. -/
theorem paths_l0 {been : List Nat} {g x : Nat} (hg : g < 256) (hb : ∀ v, g.testBit v = true ↔ v ∈ been) (hx : x < N.toNat) {l : List Nat} (hl : ∀ i, i ∈ l → i < 10) (hl2 : l.length ≤ 20) {B : Nat} {lim : Nat → Nat} (hlim : ∀ i, lim i + B ≤ lim (i + 1)) (hmax : ∀ i, i < 10 → lim i + B < 4398046511104)
    (call : ∀ i y, jn S st i x y → y ∉ been → ∃ Q : List (List Nat), Ev (fun k => feed_grid_paths.f k N S F (st : Int) (y : Int) ((g ||| 2 ^ y : Nat) : Int) (bs (i :: l) : Int) (il (i :: l))) (Q.map pk) ∧ Q.length ≤ B ∧ ∀ l', l' ∈ Q ↔ Bk S F st (y :: been) y (i :: l) l') : ∀ (d i : Nat) (acc : List (List Nat)), S.length - i = d → i ≤ S.length → acc.length ≤ lim i →
    ∃ Q : List (List Nat), Ev (fun k => feed_grid_paths.l0 k (st : Int) (x : Int) (g : Int) (acc.map pk) S (S.length : Int) (i : Int) N S F (bs l : Int) (il l)) (Q.map pk) ∧ Q.length ≤ lim S.length ∧ ∀ l', l' ∈ Q ↔ (l' ∈ acc ∨ ∃ j y, i ≤ j ∧ jn S st j x y ∧ y ∉ been ∧ Bk S F st (y :: been) y (j :: l) l') := by
  have hst := isSt_lt o.s10 hs
  have hS := o.s10
  have h8 := o.n8
  intro d
  induction d with
  | zero =>
    intro i acc h1 hi ha
    obtain rfl : i = S.length := by omega
    refine ⟨acc, ev_some _ fun k => ?_, ha, fun l' => ⟨.inl, fun z => z.resolve_right fun ⟨j, y, z1, z2, _⟩ => by have := z2.1; omega⟩⟩
    rw [feed_grid_paths.l0, if_neg (by omega)]
  | succ d ih =>
    intro i acc h1 hi ha
    have hi2 : i < S.length := by omega
    obtain ⟨eA, eB, lA, lB, ne⟩ := s_eq o hi2
    have mono : acc.length ≤ lim (i + 1) := Nat.le_trans ha (Nat.le_trans (Nat.le_add_right _ _) (hlim i))
    have skip : (∀ y, ¬ (jn S st i x y ∧ y ∉ been)) → (∀ k, feed_grid_paths.l0 (k + 1 + 1) (st : Int) (x : Int) (g : Int) (acc.map pk) S (S.length : Int) (i : Int) N S F (bs l : Int) (il l) = feed_grid_paths.l0 k (st : Int) (x : Int) (g : Int) (acc.map pk) S (S.length : Int) ((i + 1 : Nat) : Int) N S F (bs l : Int) (il l)) → ∃ Q : List (List Nat), Ev (fun k => feed_grid_paths.l0 k (st : Int) (x : Int) (g : Int) (acc.map pk) S (S.length : Int) (i : Int) N S F (bs l : Int) (il l)) (Q.map pk) ∧ Q.length ≤ lim S.length ∧ ∀ l', l' ∈ Q ↔ (l' ∈ acc ∨ ∃ j y, i ≤ j ∧ jn S st j x y ∧ y ∉ been ∧ Bk S F st (y :: been) y (j :: l) l') := fun hno hk => by
      obtain ⟨Q, ⟨K, eQ⟩, lQ, mQ⟩ := ih (i + 1) acc (by omega) (by omega) mono
      refine ⟨Q, ⟨K + 2, fun k hk2 => ?_⟩, lQ, fun l' => (mQ l').trans (or_congr Iff.rfl ⟨fun ⟨j, y, z1, z⟩ => ⟨j, y, by omega, z⟩, fun ⟨j, y, z1, z2, z3, z4⟩ => ⟨j, y, ?_, z2, z3, z4⟩⟩)⟩
      · obtain ⟨k, rfl⟩ : ∃ a, k = a + 1 + 1 := ⟨k - 2, by omega⟩
        show feed_grid_paths.l0 _ _ _ _ _ _ _ _ _ _ _ _ _ = _
        rw [hk]
        exact eQ k (by omega)
      · by_cases c : j = i
        · exact absurd ⟨c ▸ z2, z3⟩ (hno y)
        · omega
    have head : ∀ k, feed_grid_paths.l0 (k + 1) (st : Int) (x : Int) (g : Int) (acc.map pk) S (S.length : Int) (i : Int) N S F (bs l : Int) (il l) = feed_grid_paths.j2 k (st : Int) (x : Int) (g : Int) (acc.map pk) (i : Int) S (S.length : Int) (i : Int) (decide (¬ (st.testBit i = true ∧ (sA S i = x ∨ sB S i = x)))) N S F (bs l : Int) (il l) (sA S i : Int) (sB S i : Int) := fun k => by
      rw [feed_grid_paths.l0, if_pos (by omega), if_pos (by omega), if_pos (by omega), tb_nat (.inl rfl) (by omega) (by omega), eA, eB]
      cases q : st.testBit i with
      | false =>
        rw [if_pos (by decide)]
        simp
      | true =>
        rw [if_pos rfl, if_neg (by decide)]
        by_cases cA : sA S i = x
        · rw [if_pos (by omega)]
          simp [cA]
        · rw [if_neg (by omega)]
          by_cases cB : sB S i = x
          · rw [cB]; simp
          · rw [bne_iff_ne.2 (show (sB S i : Int) ≠ (x : Int) by omega)]; simp [cA, cB]
    by_cases c : st.testBit i = true ∧ (sA S i = x ∨ sB S i = x)
    · -- the section at the other end
      obtain ⟨y, hy, hyl, hyj⟩ : ∃ y : Nat, ((sA S i : Int) + (sB S i : Int)) - (x : Int) = (y : Int) ∧ y < N.toNat ∧ jn S st i x y := by
        rcases c.2 with c2 | c2
        · exact ⟨sB S i, by omega, lB, hi2, c.1, .inl ⟨c2, rfl⟩⟩
        · exact ⟨sA S i, by omega, lA, hi2, c.1, .inr ⟨rfl, c2⟩⟩
      have uy : ∀ y2, jn S st i x y2 → y2 = y := fun y2 h2 => by
        rcases h2.2.2 with ⟨a1, a2⟩ | ⟨a1, a2⟩ <;> omega
      have e2 : Go.bits .and .u64 (shr .u64 (g : Int) (y : Int)) 1 = (if y ∈ been then 1 else 0) := by
        rw [tb_nat (.inr rfl) (by omega) (by omega)]
        by_cases z : y ∈ been
        · rw [if_pos z, if_pos ((hb y).2 z)]
        · rw [if_neg z, if_neg (fun w => z ((hb y).1 w))]
      by_cases cb : y ∈ been
      · refine skip (fun y2 z => z.2 (uy y2 z.1 ▸ cb)) fun k => ?_
        rw [head, feed_grid_paths.j2, decide_eq_false (fun z => z c), if_neg (by decide), wrap_other (show sA S i < 8 by omega) (show sB S i < 8 by omega) (show x < 8 by omega) hy, if_pos (by omega), e2, if_pos cb, if_neg (by decide), wsucc i (by omega)]
      · obtain ⟨Q1, eQ1, lQ1, mQ1⟩ := call i y hyj cb
        have p1 := hlim i
        have p2 := hmax i (by omega)
        obtain ⟨Q, eQ, lQ, mQ⟩ := ih (i + 1) (acc ++ Q1) (by omega) (by omega) (by rw [List.length_append]; omega)
        have p8 : 2 ^ y < 2 ^ 8 := Nat.pow_lt_pow_right (by omega) (by omega)
        have p10 := pow_lt10 (show i < 10 by omega)
        have bl10 := bs_lt hl
        obtain ⟨K, eB2⟩ := Ev.bind (f := fun k t116 => (if (acc.map pk).length + t116.length < 4398046511104 then (feed_grid_paths.l0 k (st : Int) (x : Int) (g : Int) ((acc.map pk) ++ t116) S (S.length : Int) ((i + 1 : Nat) : Int) N S F (bs l : Int) (il l)) else (none))) eQ1 (Ev.congr (fun k => by
          rw [if_pos (by rw [List.length_map, List.length_map]; omega), ← List.map_append]) eQ)
        refine ⟨Q, ⟨K + 2, fun k hk2 => ?_⟩, lQ, fun l' => (mQ l').trans ?_⟩
        · obtain ⟨k, rfl⟩ : ∃ a, k = a + 1 + 1 := ⟨k - 2, by omega⟩
          show feed_grid_paths.l0 _ _ _ _ _ _ _ _ _ _ _ _ _ = _
          rw [head, feed_grid_paths.j2, decide_eq_false (fun z => z c), if_neg (by decide), wrap_other (show sA S i < 8 by omega) (show sB S i < 8 by omega) (show x < 8 by omega) hy, if_pos (by omega), e2, if_neg cb, if_pos rfl, if_pos (by omega)]
          rw [shl_nat (.inr rfl) (by omega), or_nat (.inr rfl) (by omega) (by omega), shl_nat (.inl rfl) (by omega), or_nat (.inl rfl) (by omega) (by omega), wsucc i (by omega)]
          simp only [Option.bind_some]
          rw [if_pos (by rw [il_len]; simp; omega)]
          exact eB2 k (by omega)
        · rw [List.mem_append, mQ1]
          constructor
          · rintro ((z | z) | ⟨j, y2, z1, z⟩)
            · exact .inl z
            · exact .inr ⟨i, y, by omega, hyj, cb, z⟩
            · exact .inr ⟨j, y2, by omega, z⟩
          · rintro (z | ⟨j, y2, z1, z2, z3, z4⟩)
            · exact .inl (.inl z)
            · by_cases q : j = i
              · subst q
                obtain rfl := uy y2 z2
                exact .inl (.inr z4)
              · exact .inr ⟨j, y2, by omega, z2, z3, z4⟩
    · refine skip (fun y z => c ⟨z.1.2.1, z.1.2.2.imp (fun h => h.1) (fun h => h.2)⟩) fun k => ?_
      rw [head, feed_grid_paths.j2, decide_eq_true c, if_pos rfl, wsucc i (by omega)]
include o hs in
theorem paths_ev : ∀ (e : Nat), e ≤ 9 → ∀ (been : List Nat) (g x : Nat), mis (fun v => g.testBit v) 8 < e → g < 256 → (∀ v, g.testBit v = true ↔ v ∈ been) → x < N.toNat → ∀ l : List Nat, (∀ i, i ∈ l → i < 10) → l.length + e ≤ 20 →
    ∃ Q : List (List Nat), Ev (fun k => feed_grid_paths.f k N S F (st : Int) (x : Int) (g : Int) (bs l : Int) (il l)) (Q.map pk) ∧ Q.length ≤ 11 ^ e ∧ ∀ l', l' ∈ Q ↔ Bk S F st been x l l' := by
  have hS := o.s10
  have h8 := o.n8
  intro e
  induction e with
  | zero => intro _ been g x h; omega
  | succ e ih =>
    intro he been g x hm hg hb hx l hl hl2
    have call : ∀ i y, jn S st i x y → y ∉ been → ∃ Q : List (List Nat), Ev (fun k => feed_grid_paths.f k N S F (st : Int) (y : Int) ((g ||| 2 ^ y : Nat) : Int) (bs (i :: l) : Int) (il (i :: l))) (Q.map pk) ∧ Q.length ≤ 11 ^ e ∧ ∀ l', l' ∈ Q ↔ Bk S F st (y :: been) y (i :: l) l' := fun i y hj hy => by
      obtain ⟨_, _, _, ly⟩ := jn_shut o hj
      have p8 : 2 ^ y < 2 ^ 8 := Nat.pow_lt_pow_right (by omega) (by omega)
      have tb : ∀ v, (g ||| 2 ^ y).testBit v = true ↔ v ∈ y :: been := fun v => by rw [Nat.testBit_or, Bool.or_eq_true, hb, pow_bit, List.mem_cons, or_comm]
      have lt := mis_lt (m := fun v => g.testBit v) (m' := fun v => (g ||| 2 ^ y).testBit v) (fun v hv => (tb v).2 (List.mem_cons_of_mem _ ((hb v).1 hv))) ((tb y).2 List.mem_cons_self) (by
        show g.testBit y = false
        cases q : g.testBit y with
        | false => rfl
        | true => exact absurd ((hb y).1 q) hy) 8 (by omega)
      refine ih (by omega) (y :: been) (g ||| 2 ^ y) y (by omega) (Nat.or_lt_two_pow (n := 8) hg p8) tb ly (i :: l) (fun j hj2 => ?_) (by rw [List.length_cons]; omega)
      rcases List.mem_cons.1 hj2 with rfl | hj2
      · have := hj.1; omega
      · exact hl j hj2
    obtain ⟨b, eb, hb2⟩ := home_ev (N := N) (S := S) o.f6 x
    have bound : 1 + S.length * 11 ^ e ≤ 11 ^ (e + 1) := pow11_step hS
    have done : ∀ acc : List (List Nat), acc.length ≤ 1 → (∀ l', l' ∈ acc ↔ (home F x ∧ l' = l)) → Ev (fun k => feed_grid_atHome.f k N S F (x : Int)) b → (∀ k, (if b = true then (if ([] : List (S67)).length < 4398046511104 then (feed_grid_paths.j0 k (st : Int) (x : Int) (g : Int) (([] : List (S67)) ++ [(⟨(bs l : Int), il l⟩ : S67)]) N S F (bs l : Int) (il l)) else (none)) else (feed_grid_paths.j0 k (st : Int) (x : Int) (g : Int) ([] : List (S67)) N S F (bs l : Int) (il l))) = feed_grid_paths.j0 k (st : Int) (x : Int) (g : Int) (acc.map pk) N S F (bs l : Int) (il l)) → ∃ Q : List (List Nat), Ev (fun k => feed_grid_paths.f k N S F (st : Int) (x : Int) (g : Int) (bs l : Int) (il l)) (Q.map pk) ∧ Q.length ≤ 11 ^ (e + 1) ∧ ∀ l', l' ∈ Q ↔ Bk S F st been x l l' := fun acc ha hm2 eb hk => by
      obtain ⟨Q, eQ, lQ, mQ⟩ := paths_l0 o hs hg hb hx hl (by omega) (B := 11 ^ e) (lim := fun i => 1 + i * 11 ^ e) (lim_step e) (lim_max (by omega)) call S.length 0 acc (Nat.sub_zero _) (Nat.zero_le _) (by show acc.length ≤ 1 + 0 * 11 ^ e; rw [Nat.zero_mul]; exact ha)
      refine ⟨Q, Ev.step (fun k => ?_) (Ev.bind (f := fun k t103 => (if t103 = true then (if ([] : List (S67)).length < 4398046511104 then (feed_grid_paths.j0 k (st : Int) (x : Int) (g : Int) (([] : List (S67)) ++ [(⟨(bs l : Int), il l⟩ : S67)]) N S F (bs l : Int) (il l)) else (none)) else (feed_grid_paths.j0 k (st : Int) (x : Int) (g : Int) ([] : List (S67)) N S F (bs l : Int) (il l)))) eb (Ev.congr hk (Ev.step (fun k => ?_) eQ))), Nat.le_trans lQ bound, fun l' => (mQ l').trans ?_⟩
      · rw [feed_grid_paths.f]
      · rw [feed_grid_paths.j0]; rfl
      · constructor
        · rintro (z | ⟨j, y, _, z1, z2, z3⟩)
          · obtain ⟨z1, rfl⟩ := (hm2 l').1 z
            exact .here z1
          · exact .step z1 z2 z3
        · intro z
          cases z with
          | here z => exact .inl ((hm2 _).2 ⟨z, rfl⟩)
          | step z1 z2 z3 => exact .inr ⟨_, _, by omega, z1, z2, z3⟩
    cases b with
    | true =>
      refine done [l] (by simp) (fun l' => ?_) eb fun k => by rw [if_pos rfl, if_pos (show ([] : List S67).length < 4398046511104 by simp)]; rfl
      rw [List.mem_singleton]
      exact ⟨fun z => ⟨hb2.1 rfl, z⟩, fun z => z.2⟩
    | false =>
      refine done [] (by simp) (fun l' => ⟨fun z => absurd z (by simp), fun z => absurd (hb2.2 z.1) (by decide)⟩) eb fun k => rfl
end
end Go.Proofs.YtbbjonbnmoomlaaDoor.G
end
