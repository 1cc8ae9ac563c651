/- Functions of the seat and plain laws about them: PChoose, PTop, OpenT. -/
import Derived.Test.YtbbjonbnmoomlaaDoorZI20
import Derived.Test.YtbbjonbnmoomlaaDoorZI17
import Derived.Test.YtbbjonbnmoomlaaDoorOpen
import Derived.Test.YtbbjonbnmoomlaaDoorRows
import Derived.Test.YtbbjonbnmoomlaaDoorZI3
import Derived.Lib.LaidTab
import Derived.LaidMore
import Derived.MakeChecks
section
namespace Go.Proofs.YtbbjonbnmoomlaaDoor.G
open Go.RowKit Go.Proofs.YtbbjonbnmoomlaaDoorW.PrintWords Go.Proofs.YtbbjonbnmoomlaaDoorW.PrintLast Go.Proofs.YtbbjonbnmoomlaaDoorW.PrintMore
set_option linter.unusedVariables false
set_option linter.unusedSectionVars false
/-- Two lists have no switch in common. -/
def dj (a b : List Nat) : Prop := bs a &&& bs b = 0
/-- What a choice answers. -/
structure good (Q : List (List Nat)) (many used : Nat) (r : List (List Nat) × Bool) : Prop where
  len : r.2 = true → r.1.length = many
  mem : r.2 = true → ∀ q, q ∈ r.1 → q ∈ Q ∧ bs q &&& used = 0
  dis : r.2 = true → r.1.Pairwise dj
  all : ∀ P : List (List Nat), P.length = many → (∀ q, q ∈ P → q ∈ Q ∧ bs q &&& used = 0 ∧ bs q ≠ 0) → P.Pairwise dj → r.2 = true
theorem rd_pk {Q : List (List Nat)} {i : Nat} (h : i < Q.length) : rd_T67 (Q.map pk) (i : Int) = pk (Q.getD i []) := by
  unfold rd_T67
  rw [Int.toNat_natCast, List.getD_eq_getElem?_getD, List.getD_eq_getElem?_getD, List.getElem?_map, List.getElem?_eq_getElem h]
  rfl
theorem dropQ {Q : List (List Nat)} {i : Nat} (h : i < Q.length) : Q.drop i = Q.getD i [] :: Q.drop (i + 1) := by
  rw [List.drop_eq_getElem_cons h, List.getD_eq_getElem?_getD, List.getElem?_eq_getElem h]
  rfl
theorem getQ_mem {Q : List (List Nat)} {i : Nat} (h : i < Q.length) : Q.getD i [] ∈ Q := by
  rw [List.getD_eq_getElem?_getD, List.getElem?_eq_getElem h]
  exact List.getElem_mem h
theorem and_or_zero (x y z : Nat) : x &&& (y ||| z) = 0 ↔ (x &&& y = 0 ∧ x &&& z = 0) := by
  rw [and_zero, and_zero, and_zero]
  constructor
  · exact fun h => ⟨fun v q => h v ⟨q.1, by rw [Nat.testBit_or, q.2]; rfl⟩, fun v q => h v ⟨q.1, by rw [Nat.testBit_or, q.2, Bool.or_true]⟩⟩
  · rintro ⟨h1, h2⟩ v ⟨q1, q2⟩
    rw [Nat.testBit_or, Bool.or_eq_true] at q2
    rcases q2 with q2 | q2
    · exact h1 v ⟨q1, q2⟩
    · exact h2 v ⟨q1, q2⟩
theorem dj_symm {a b : List Nat} (h : dj a b) : dj b a := by unfold dj at *; rw [Nat.and_comm]; exact h
theorem good_skip {Q : List (List Nat)} {q : List Nat} {many used : Nat} {r : List (List Nat) × Bool} (h : good Q many used r) (hq : ∀ P : List (List Nat), P.length = many → (∀ p, p ∈ P → p ∈ q :: Q ∧ bs p &&& used = 0 ∧ bs p ≠ 0) → P.Pairwise dj → q ∈ P → False) : good (q :: Q) many used r := by
  refine ⟨h.len, fun z p hp => ⟨List.mem_cons_of_mem _ (h.mem z p hp).1, (h.mem z p hp).2⟩, h.dis, fun P h1 h2 h3 => h.all P h1 (fun p hp => ?_) h3⟩
  obtain ⟨a, b⟩ := h2 p hp
  refine ⟨?_, b⟩
  rcases List.mem_cons.1 a with rfl | a
  · exact (hq P h1 h2 h3 hp).elim
  · exact a
theorem less1 {m : Nat} (h : m ≤ 10) : wrap64 (((m + 1 : Nat) : Int) - 1) = (m : Int) := by
  rw [w64 (by omega) (by omega)]
  omega
/-- One round for each feed, if the calls answer. -/
theorem choose_l0 {Q : List (List Nat)} (hb : ∀ q, q ∈ Q → bs q < 1024) (hn : Q.length ≤ 4611686018427387903) {many used : Nat} (hm : many ≤ 10) (hu : used < 1024)
    (call : ∀ i, i < Q.length → ∀ u : Nat, u < 1024 → ∃ r, Ev (fun k => feed_choose.f k ((Q.drop (i + 1)).map pk) (many : Int) (u : Int)) (r.1.map il, r.2) ∧ good (Q.drop (i + 1)) many u r) : ∀ (d i : Nat), Q.length - i = d → i ≤ Q.length →
    ∃ r, Ev (fun k => feed_choose.l0 k (Q.map pk) ((many + 1 : Nat) : Int) (used : Int) (Q.map pk) ((Q.map pk).length : Int) (i : Int)) (r.1.map il, r.2) ∧ good (Q.drop i) (many + 1) used r := by
  have hlen : (Q.map pk).length = Q.length := List.length_map _
  intro d
  induction d with
  | zero =>
    intro i h1 hi
    obtain rfl : i = Q.length := by omega
    refine ⟨([], false), ev_some _ fun k => ?_, ⟨fun z => absurd z (by decide), fun z => absurd z (by decide), fun z => absurd z (by decide), fun P h1 h2 _ => ?_⟩⟩
    · rw [feed_choose.l0, if_neg (by omega)]; rfl
    · cases P with
      | nil => exact absurd h1 (by simp)
      | cons p P => exact absurd (h2 p List.mem_cons_self).1 (by rw [List.drop_length]; simp)
  | succ d ih =>
    intro i h1 hi
    have hi2 : i < Q.length := by omega
    obtain ⟨r, er, hr⟩ := ih (i + 1) (by omega) (by omega)
    have dq := dropQ hi2
    have q10 := hb _ (getQ_mem hi2)
    generalize hq : Q.getD i [] = q at dq q10
    have head : ∀ k, feed_choose.l0 (k + 1) (Q.map pk) ((many + 1 : Nat) : Int) (used : Int) (Q.map pk) ((Q.map pk).length : Int) (i : Int) = (if ((bs q &&& used : Nat) : Int) = 0 then ((feed_choose.f k ((Q.drop (i + 1)).map pk) (many : Int) ((used ||| bs q : Nat) : Int)).bind fun bt108 => (if bt108.2 = true then (if ([il q] : List (List Int)).length + bt108.1.length < 5864062014805 then (some (([il q] ++ bt108.1), true)) else (none)) else (feed_choose.l0 k (Q.map pk) ((many + 1 : Nat) : Int) (used : Int) (Q.map pk) ((Q.map pk).length : Int) ((i + 1 : Nat) : Int)))) else (feed_choose.l0 k (Q.map pk) ((many + 1 : Nat) : Int) (used : Int) (Q.map pk) ((Q.map pk).length : Int) ((i + 1 : Nat) : Int))) := fun k => by
      have e1 : (pk q).f0 = (bs q : Int) := rfl
      have e2 : (pk q).f1 = il q := rfl
      rw [feed_choose.l0, if_pos (by omega), if_pos (by omega), if_pos (by omega), rd_pk hi2, hq, wsucc i (by omega), e1, e2, and_nat (.inl rfl) (by omega) (by omega)]
      by_cases c : ((bs q &&& used : Nat) : Int) = 0
      · rw [if_pos c, if_pos c, if_pos (by omega), if_pos (by omega), Int.toNat_natCast, or_nat (.inl rfl) (by omega) (by omega), less1 (by omega), ← List.map_drop]
        rfl
      · rw [if_neg c, if_neg c]
    by_cases c : bs q &&& used = 0
    · obtain ⟨r1, er1, hr1⟩ := call i hi2 (used ||| bs q) (Nat.or_lt_two_pow (n := 10) hu q10)
      cases q1 : r1.2 with
      | true =>
        refine ⟨(q :: r1.1, true), Ev.step (fun k => ?_) (Ev.bind (f := fun k bt108 => (if bt108.2 = true then (if ([il q] : List (List Int)).length + bt108.1.length < 5864062014805 then (some (([il q] ++ bt108.1), true)) else (none)) else (feed_choose.l0 k (Q.map pk) ((many + 1 : Nat) : Int) (used : Int) (Q.map pk) ((Q.map pk).length : Int) ((i + 1 : Nat) : Int)))) er1 (Ev.congr (fun k => ?_) (Ev.now _))), ?_⟩
        · rw [head, if_pos (by rw [c]; rfl)]
        · have := hr1.len q1
          rw [if_pos q1, if_pos (by rw [List.length_map]; simp; omega)]
          rfl
        · rw [dq]
          refine ⟨fun _ => ?_, fun _ p hp => ?_, fun _ => ?_, fun P _ _ _ => rfl⟩
          · show (q :: r1.1).length = _
            rw [List.length_cons, hr1.len q1]
          · rcases List.mem_cons.1 hp with rfl | hp
            · exact ⟨List.mem_cons_self, c⟩
            · obtain ⟨a, b⟩ := hr1.mem q1 p hp
              exact ⟨List.mem_cons_of_mem _ a, ((and_or_zero _ _ _).1 b).1⟩
          · refine List.pairwise_cons.2 ⟨fun p hp => ?_, hr1.dis q1⟩
            obtain ⟨a, b⟩ := hr1.mem q1 p hp
            exact dj_symm ((and_or_zero _ _ _).1 b).2
      | false =>
        refine ⟨r, Ev.step (fun k => ?_) (Ev.bind (f := fun k bt108 => (if bt108.2 = true then (if ([il q] : List (List Int)).length + bt108.1.length < 5864062014805 then (some (([il q] ++ bt108.1), true)) else (none)) else (feed_choose.l0 k (Q.map pk) ((many + 1 : Nat) : Int) (used : Int) (Q.map pk) ((Q.map pk).length : Int) ((i + 1 : Nat) : Int)))) er1 (Ev.congr (fun k => ?_) er)), ?_⟩
        · rw [head, if_pos (by rw [c]; rfl)]
        · rw [q1, if_neg (by decide)]
        · rw [dq]
          refine good_skip hr fun P p1 p2 p3 hp => ?_
          obtain ⟨P1, P2, rfl⟩ := List.append_of_mem hp
          have p3 := List.pairwise_append.1 p3
          have p4 := List.pairwise_cons.1 p3.2.1
          have qz := (p2 q hp).2.2
          have apart : ∀ x, x ∈ P1 ++ P2 → dj q x := fun x hx => by
            rcases List.mem_append.1 hx with hx | hx
            · exact dj_symm (p3.2.2 x hx q List.mem_cons_self)
            · exact p4.1 x hx
          have := hr1.all (P1 ++ P2) (by simp only [List.length_append, List.length_cons] at p1 ⊢; omega) (fun x hx => by
            have hx2 : x ∈ P1 ++ q :: P2 := by
              rcases List.mem_append.1 hx with hx | hx
              · exact List.mem_append_left _ hx
              · exact List.mem_append_right _ (List.mem_cons_of_mem _ hx)
            obtain ⟨a, b, b2⟩ := p2 x hx2
            refine ⟨?_, (and_or_zero _ _ _).2 ⟨b, dj_symm (apart x hx)⟩, b2⟩
            rcases List.mem_cons.1 a with rfl | a
            · have := apart x hx
              unfold dj at this
              rw [Nat.and_self] at this
              exact absurd this b2
            · exact a) (List.pairwise_append.2 ⟨p3.1, p4.2, fun a ha b hb => p3.2.2 a ha b (List.mem_cons_of_mem _ hb)⟩)
          rw [q1] at this
          exact absurd this (by decide)
    · refine ⟨r, Ev.step (fun k => ?_) er, ?_⟩
      · rw [head, if_neg (by omega)]
      · rw [dq]
        exact good_skip hr fun P p1 p2 p3 hp => c (p2 q hp).2.1
theorem choose_ev : ∀ (n : Nat) (Q : List (List Nat)) (many used : Nat), Q.length < n → n ≤ 4611686018427387903 → (∀ q, q ∈ Q → bs q < 1024) → many ≤ 10 → used < 1024 → ∃ r, Ev (fun k => feed_choose.f k (Q.map pk) (many : Int) (used : Int)) (r.1.map il, r.2) ∧ good Q many used r
  | 0, Q, _, _, h, _, _, _, _ => by omega
  | n + 1, Q, 0, used, h, hn, hb, hm, hu => by
    refine ⟨([], true), ev_some _ fun k => ?_, ⟨fun _ => rfl, fun _ q hq => absurd hq (by simp), fun _ => .nil, fun _ _ _ _ => rfl⟩⟩
    rw [feed_choose.f, if_pos (by omega)]
    rfl
  | n + 1, Q, many + 1, used, h, hn, hb, hm, hu => by
    obtain ⟨r, e, hr⟩ := choose_l0 hb (by omega) (many := many) (used := used) (by omega) hu (fun i hi u hu2 => choose_ev n (Q.drop (i + 1)) many u (by rw [List.length_drop]; omega) (by omega) (fun q hq => hb q (List.mem_of_mem_drop hq)) (by omega) hu2) Q.length 0 (by omega) (by omega)
    refine ⟨r, Ev.step (fun k => ?_) e, by rw [List.drop_zero] at hr; exact hr⟩
    rw [feed_choose.f, if_neg (by omega)]
    rfl
theorem first_ev : Ev (fun k => dropperlaw05_First.f k) true := Ev.of dropperlaw05_First.mono (k := 60) (by decide +kernel)
section
variable {N : Int} {S : List S47} {F : List S49} (o : okG N S F) {st : Nat} (hs : isSt S st) {t : Nat} (ht : t < N.toNat) (hh : ¬ home F t)
theorem dj_iff (a b : List Nat) : dj a b ↔ ∀ i, i ∈ a → i ∉ b := by
  unfold dj
  rw [and_zero]
  constructor
  · exact fun h i h1 h2 => h i ⟨(bs_bit a i).2 h1, (bs_bit b i).2 h2⟩
  · exact fun h v z => h v ((bs_bit a v).1 z.1) ((bs_bit b v).1 z.2)
theorem apart_dj : ∀ {L : List (List Nat)}, apart L → L.Pairwise dj
  | [], _ => .nil
  | l :: L, ⟨h1, h2⟩ => List.pairwise_cons.2 ⟨fun l' hl' => (dj_iff l l').2 (h1 l' hl'), apart_dj h2⟩
theorem il_mem (l : List Nat) (i : Int) : i ∈ il l ↔ ∃ j, j ∈ l ∧ (j : Int) = i := by
  unfold il
  rw [List.mem_map]
theorem dj_apartI : ∀ {L : List (List Nat)}, L.Pairwise dj → apartI (L.map il)
  | [], _ => trivial
  | l :: L, h => by
    obtain ⟨h1, h2⟩ := List.pairwise_cons.1 h
    refine ⟨fun l' hl' i hi hi2 => ?_, dj_apartI h2⟩
    obtain ⟨m, hm, rfl⟩ := List.mem_map.1 hl'
    obtain ⟨j, hj, rfl⟩ := (il_mem l i).1 hi
    obtain ⟨j2, hj2, e⟩ := (il_mem m _).1 hi2
    exact (dj_iff l m).1 (h1 m hm) j hj (by rw [← Int.ofNat.inj e]; exact hj2)
theorem il_nodup {l : List Nat} (h : l.Nodup) : (il l).Nodup := by
  unfold il
  exact List.Pairwise.map _ (fun a b h z => h (Int.ofNat.inj z)) h
include o hs ht hh in
/-- The feeds that are told: as many as the least isolation has switches. -/
theorem feeds_ev : ∃ c : Nat, ∃ L : List (List Int), Ev (fun k => feed_Isolate.f k N S F (st : Int) (t : Int)) (il (bl c), 0) ∧ Ev (fun k => feed_Feeds.f k N S F (st : Int) (t : Int)) (L, 0) ∧ cuts S F st t c ∧ (∀ s, cuts S F st t s → (bl c).length ≤ (bl s).length) ∧ L.length = (bl c).length ∧ (∀ l, l ∈ L → fd S F st t l ∧ l.Nodup ∧ l.length ≤ 20) ∧ apartI L := by
  have h8 := o.n8
  have hst := isSt_lt o.s10 hs
  obtain ⟨c, ei, el, hc, hm⟩ := isolate_ev o hs ht hh
  obtain ⟨b, eb, hb⟩ := home_ev (N := N) (S := S) o.f6 t
  have hb0 : b = false := by
    cases b with
    | false => rfl
    | true => exact absurd (hb.1 rfl) hh
  subst hb0
  have c10 := isSt_lt o.s10 hc.lt
  have t8 : 2 ^ t < 2 ^ 8 := Nat.pow_lt_pow_right (by omega) (by omega)
  obtain ⟨Q, eQ, lQ, mQ⟩ := paths_ev o hs 9 (by omega) [t] (2 ^ t) t (Nat.lt_of_le_of_lt (mis_bd _ 8) (by omega)) t8 (fun v => by rw [pow_bit, List.mem_singleton]) ht [] (by simp) (by simp)
  have fQ : ∀ q, q ∈ Q ↔ feed (gn o st ht hh) q := fun q => (mQ q).trans (bk_iff o ht hh q)
  have small : ∀ q, q ∈ Q → bs q < 1024 ∧ bs q ≠ 0 := fun q hq => by
    obtain ⟨h1, h2, h3, h4⟩ := feed_small o ht hh ((fQ q).1 hq)
    refine ⟨bs_lt h2, fun z => ?_⟩
    cases q with
    | nil => exact h4 rfl
    | cons i l =>
      have := (bs_bit (i :: l) i).2 List.mem_cons_self
      rw [z, Nat.zero_testBit] at this
      exact absurd this (by decide)
  have l9 : Q.length < 4611686018427387903 := Nat.lt_of_le_of_lt lQ (by decide)
  obtain ⟨r, er, hr⟩ := choose_ev (Q.length + 1) Q (bl c).length 0 (by omega) (by omega) (fun q hq => (small q hq).1) (bl_len c) (by omega)
  have all := hr.all
  have rt : r.2 = true := by
    obtain ⟨L, h1, h2, h3⟩ := menger (gn o st ht hh) (k := (bl c).length) fun C hC hI => by
      obtain ⟨s, h1, h2⟩ := cut_of_iso o ht hh hs hC hI
      have := hm s h1
      omega
    exact all L h1 (fun q hq => ⟨(fQ q).2 (h2 q hq), Nat.and_zero _, (small q ((fQ q).2 (h2 q hq))).2⟩) (apart_dj h3)
  refine ⟨c, r.1.map il, ei, ?_, hc, hm, ?_, ?_, dj_apartI (hr.dis rt)⟩
  · refine Ev.bind (fasked_ev o hs (by omega) (by omega)) (Ev.congr (fun k => if_pos rfl) (Ev.bind eb (Ev.congr (fun k => if_neg (by decide)) (Ev.bind el ?_))))
    refine Ev.congr (f := fun k => (feed_grid_paths.f k N S F (st : Int) (t : Int) ((2 ^ t : Nat) : Int) (bs [] : Int) (il [])).bind fun t107 => ((feed_choose.f k t107 ((bl c).length : Int) 0).bind fun bt110 => (some (bt110.1, (0 : Int))))) (fun k => ?_) (Ev.bind eQ (Ev.bind (f := fun k bt110 => some (bt110.1, (0 : Int))) er (Ev.now _)))
    rw [count_nat c10, Option.bind_some, if_pos (by omega), shl_nat (.inr rfl) (by omega)]
    rfl
  · rw [List.length_map]; exact hr.len rt
  · intro l hl
    obtain ⟨q, hq, rfl⟩ := List.mem_map.1 hl
    have fq := (fQ q).1 (hr.mem rt q hq).1
    obtain ⟨h1, h2, h3, h4⟩ := feed_small o ht hh fq
    exact ⟨fd_of_feed o ht hh fq, il_nodup h1, by rw [il_len]; omega⟩
include o hs ht hh in
/-- No feeds that are apart are more than an isolation's switches. -/
theorem weak_cut {c : Nat} (hc : cuts S F st t c) {L : List (List Int)} (h1 : ∀ l, l ∈ L → fd S F st t l) (h2 : apartI L) : L.length ≤ (bl c).length := by
  have hst := isSt_lt o.s10 hs
  have ap : ∀ {L : List (List Int)}, (∀ l, l ∈ L → fd S F st t l) → apartI L → apart (L.map fun l => l.map Int.toNat) := fun {L} => by
    induction L with
    | nil => exact fun _ _ => trivial
    | cons l L ih =>
      rintro f ⟨a1, a2⟩
      refine ⟨fun l' hl' i hi hi2 => ?_, ih (fun l hl => f l (List.mem_cons_of_mem _ hl)) a2⟩
      obtain ⟨m, hm, rfl⟩ := List.mem_map.1 hl'
      obtain ⟨a, ha, rfl⟩ := List.mem_map.1 hi
      obtain ⟨b, hb, e⟩ := List.mem_map.1 hi2
      obtain ⟨x, _, gx⟩ := f l List.mem_cons_self
      obtain ⟨y, _, gy⟩ := f m (List.mem_cons_of_mem _ hm)
      have := (go_shut gx a ha).1
      have := (go_shut gy b hb).1
      have : a = b := by omega
      exact a1 m hm a ha (this ▸ hb)
  have := weak_le (gn o st ht hh) (c := bl c) (iso_cut o ht hh hst (isSt_lt o.s10 hc.lt) hc.dead) (L := L.map fun l => l.map Int.toNat) (fun l hl => by
    obtain ⟨m, hm, rfl⟩ := List.mem_map.1 hl
    exact feed_of_fd o ht hh (h1 m hm)) (ap h1 h2)
  rw [List.length_map] at this
  exact this
end
section
variable {N : Int} {S : List S47} {F : List S49} {a t : Int} {C : List Int} {L : List (List Int)}
theorem top_first_j0 : Ev (fun k => droppertop_TopIsolate.j0 k true N S F a t C L) true := by
  refine Ev.step (fun k => ?_) (Ev.bind (f := fun k t605 => some t605) first_ev (Ev.now true))
  rw [droppertop_TopIsolate.j0, if_pos rfl]
theorem top_first_j2 : Ev (fun k => droppertop_TopIsolate.j2 k true N S F a t C L) true := by
  refine Ev.step (fun k => ?_) (Ev.bind (f := fun k t610 => some t610) first_ev (Ev.now true))
  rw [droppertop_TopIsolate.j2, if_pos rfl]
theorem top_j2 (o : okG N S F) {st v : Nat} (hs : isSt S st) (hv : v < N.toNat) (hh : ¬ home F v) (hC : C.length ≤ 20) (hL : L.length ≤ 20) (hl : ∀ l, l ∈ L → l.length ≤ 20) : Ev (fun k => droppertop_TopIsolate.j2 k false N S F (st : Int) (v : Int) C L) true := by
  have h1 := o.n1
  obtain ⟨c, L', ei, ef, hc, hm, lL, fL, aL⟩ := feeds_ev o hs hv hh
  have lc : (il (bl c)).length = (bl c).length := il_len _
  have bc := bl_len c
  have e1 := isolates_ev o hs hv hc
  have e2 := fare_ev o hs hv (L := L') (by omega) fL aL
  obtain ⟨l, e3, ll, hl3⟩ := live_ev o hs hv
  obtain ⟨b4, e4, hb4⟩ := risolates_ev o hs hv hC
  obtain ⟨b5, e5, hb5⟩ := rare_ev o hs hv hL hl
  have dead0 : rd l (v : Int) = 0 ↔ (bl c).length = 0 := by
    have hst := isSt_lt o.s10 hs
    rw [hl3]
    have d0 : dif st 0 = st := bit_ext fun j => by rw [dif_tb hst (by omega), Nat.zero_testBit]; simp
    constructor
    · intro h
      have := hm 0 ⟨Nat.two_pow_pos _, fun j hj => by rw [Nat.zero_testBit] at hj; exact absurd hj (by decide), by rw [d0]; exact h⟩
      have z : (bl 0).length = 0 := by decide
      omega
    · intro h
      have hd := hc.dead
      have c0 : c = 0 := bit_ext fun j => by
        rw [← bl_mem (isSt_lt o.s10 hc.lt), List.length_eq_zero_iff.1 h, Nat.zero_testBit]
        simp
      rw [c0, d0] at hd
      exact hd
  have e6 : Ev (fun k => droppertop_TopIsolate.j4 k (il (bl c)) L' false N S F (st : Int) (v : Int) C L) true := by
    refine Ev.step (fun k => ?_) (Ev.bind (f := fun k bt628 => ((dropperref05_AreFeeds.f k N S F (st : Int) (v : Int) L).bind fun bt630 => (if bt628.2 = 0 then (if bt630.2 = 0 then (if bt628.1 = true then (if (C.length : Int) < (L'.length : Int) then (some false) else (if bt630.1 = true then (if (L.length : Int) > ((il (bl c)).length : Int) then (some false) else ((dropperlaw05_First.f k).bind fun t632 => (some t632))) else ((dropperlaw05_First.f k).bind fun t633 => (some t633)))) else (if bt630.1 = true then (if (L.length : Int) > ((il (bl c)).length : Int) then (some false) else ((dropperlaw05_First.f k).bind fun t634 => (some t634))) else ((dropperlaw05_First.f k).bind fun t635 => (some t635)))) else (some false)) else (some false)))) e4 (Ev.bind (f := fun k bt630 => (if ((b4, (0 : Int)) : Bool × Int).2 = 0 then (if bt630.2 = 0 then (if ((b4, (0 : Int)) : Bool × Int).1 = true then (if (C.length : Int) < (L'.length : Int) then (some false) else (if bt630.1 = true then (if (L.length : Int) > ((il (bl c)).length : Int) then (some false) else ((dropperlaw05_First.f k).bind fun t632 => (some t632))) else ((dropperlaw05_First.f k).bind fun t633 => (some t633)))) else (if bt630.1 = true then (if (L.length : Int) > ((il (bl c)).length : Int) then (some false) else ((dropperlaw05_First.f k).bind fun t634 => (some t634))) else ((dropperlaw05_First.f k).bind fun t635 => (some t635)))) else (some false)) else (some false))) e5 (Ev.congr (fun k => ?_) (Ev.bind (f := fun k t605 => some t605) first_ev (Ev.now true)))))
    · rw [droppertop_TopIsolate.j4, if_neg (by decide)]
    · rw [if_pos rfl, if_pos rfl]
      have x1 : b4 = true → ¬ (C.length : Int) < (L'.length : Int) := fun z => by
        obtain ⟨s, hs1, hs2⟩ := hb4 z
        have := hm s hs1
        omega
      have x2 : b5 = true → ¬ (L.length : Int) > ((il (bl c)).length : Int) := fun z => by
        obtain ⟨h1, h2⟩ := hb5 z
        have := weak_cut o hs hv hh hc h1 h2
        omega
      cases b4 with
      | true =>
        rw [if_pos rfl, if_neg (x1 rfl)]
        cases b5 with
        | true => rw [if_pos rfl, if_neg (x2 rfl)]
        | false => rw [if_neg (by decide)]
      | false =>
        rw [if_neg (by decide)]
        cases b5 with
        | true => rw [if_pos rfl, if_neg (x2 rfl)]
        | false => rw [if_neg (by decide)]
  have e7 : Ev (fun k => droppertop_TopIsolate.j3 k (il (bl c)) L' false N S F (st : Int) (v : Int) C L) true := by
    obtain ⟨K1, g1⟩ := e1
    obtain ⟨K2, g2⟩ := e2
    obtain ⟨K3, g3⟩ := e3
    refine Ev.step (f := fun k => droppertop_TopIsolate.j3 (k + 1) (il (bl c)) L' false N S F (st : Int) (v : Int) C L) (fun k => rfl) ?_
    obtain ⟨K4, g4⟩ := e6
    dsimp only at g1 g2 g3 g4
    refine ⟨K1 + K2 + K3 + K4, fun k hk => ?_⟩
    show droppertop_TopIsolate.j3 _ _ _ _ _ _ _ _ _ _ _ = _
    rw [droppertop_TopIsolate.j3, if_neg (by decide), g1 k (by omega), Option.bind_some, g2 k (by omega), Option.bind_some, g3 k (by omega), Option.bind_some, if_pos rfl, if_pos rfl, if_pos rfl, if_pos rfl, if_pos rfl, if_pos (by show (l.length : Int) = N; omega), if_pos (by omega), if_pos (by show (v : Int) < (l.length : Int); omega)]
    have : (((rd l (v : Int)) == 0) != (((il (bl c)).length : Int) == 0)) = false := by
      by_cases z : (bl c).length = 0
      · have z1 := dead0.2 z
        rw [z1, lc, z]; rfl
      · have z1 : rd l (v : Int) ≠ 0 := fun q => z (dead0.1 q)
        rw [beq_eq_false_iff_ne.2 z1, beq_eq_false_iff_ne.2 (show ((il (bl c)).length : Int) ≠ 0 by omega)]; rfl
    show droppertop_TopIsolate.j4 _ _ _ (((rd l (v : Int)) == 0) != (((il (bl c)).length : Int) == 0)) _ _ _ _ _ _ _ = _
    rw [this]
    exact g4 k (by omega)
  obtain ⟨K1, g1⟩ := ei
  obtain ⟨K2, g2⟩ := ef
  obtain ⟨K3, g3⟩ := e7
  dsimp only at g1 g2 g3
  refine Ev.step (f := fun k => droppertop_TopIsolate.j2 (k + 1) false N S F (st : Int) (v : Int) C L) (fun k => rfl) ⟨K1 + K2 + K3, fun k hk => ?_⟩
  show droppertop_TopIsolate.j2 _ _ _ _ _ _ _ _ _ = _
  rw [droppertop_TopIsolate.j2, if_neg (by decide), g1 k (by omega), Option.bind_some, g2 k (by omega), Option.bind_some, if_pos rfl, if_pos rfl]
  have : (((il (bl c)).length : Int) != (L'.length : Int)) = false := by
    rw [lc, lL]
    exact bne_self_eq_false _
  show droppertop_TopIsolate.j3 _ _ _ (((il (bl c)).length : Int) != (L'.length : Int)) _ _ _ _ _ _ _ = _
  rw [this]
  exact g3 k (by omega)
theorem top_l0 (o : okG N S F) (hC : C.length ≤ 20) (hL : L.length ≤ 20) : ∀ (d i : Nat), L.length - i = d → i ≤ L.length → (∀ l, l ∈ L.take i → l.length ≤ 20) → Ev (fun k => droppertop_TopIsolate.l0 k (i : Int) N S F a t C L) true := by
  intro d
  induction d with
  | zero =>
    intro i hd hi h
    obtain rfl : i = L.length := by omega
    rw [List.take_length] at h
    obtain ⟨r, er, hr⟩ := why_ev o a t
    have e0 : ∀ k, droppertop_TopIsolate.l0 (k + 1) (L.length : Int) N S F a t C L = ((dropperref05_Why.f k N S F a t).bind fun t608 => (if t608 = 0 then ((dropperref05_At.f k N S F t).bind fun t609 => (droppertop_TopIsolate.j2 k t609 N S F a t C L)) else (droppertop_TopIsolate.j2 k true N S F a t C L))) := fun k => by
      rw [droppertop_TopIsolate.l0, if_neg (by omega)]
    by_cases c : r = 0
    · obtain ⟨st, v, rfl, hs, rfl, hv⟩ := hr.1 c
      subst c
      obtain ⟨b, eb, hb⟩ := at_ev (N := N) (S := S) o.f6 v
      refine Ev.step e0 (Ev.bind (f := fun k t608 => (if t608 = 0 then ((dropperref05_At.f k N S F (v : Int)).bind fun t609 => (droppertop_TopIsolate.j2 k t609 N S F (st : Int) (v : Int) C L)) else (droppertop_TopIsolate.j2 k true N S F (st : Int) (v : Int) C L))) er (Ev.congr (fun k => if_pos rfl) (Ev.bind (f := fun k t609 => droppertop_TopIsolate.j2 k t609 N S F (st : Int) (v : Int) C L) eb ?_)))
      cases b with
      | true => exact top_first_j2
      | false => exact top_j2 o hs (by omega) (fun z => absurd (hb.2 z) (by decide)) hC hL h
    · refine Ev.step e0 (Ev.bind (f := fun k t608 => (if t608 = 0 then ((dropperref05_At.f k N S F t).bind fun t609 => (droppertop_TopIsolate.j2 k t609 N S F a t C L)) else (droppertop_TopIsolate.j2 k true N S F a t C L))) er (Ev.congr (fun k => if_neg c) top_first_j2))
  | succ d ih =>
    intro i hd hi h
    by_cases c : ((rd_L4 L (i : Int)).length : Int) > 20
    · refine Ev.step (fun k => ?_) (Ev.bind (f := fun k t605 => some t605) first_ev (Ev.now true))
      rw [droppertop_TopIsolate.l0, if_pos (by omega), if_pos (by omega), if_pos c]
    · refine Ev.step (fun k => ?_) (ih (i + 1) (by omega) (by omega) fun l hl => ?_)
      · rw [droppertop_TopIsolate.l0, if_pos (by omega), if_pos (by omega), if_neg c, wsucc i (by omega)]
      · rw [List.take_add_one, List.mem_append] at hl
        rcases hl with hl | hl
        · exact h l hl
        · rw [List.getElem?_eq_getElem (show i < L.length by omega)] at hl
          have e : rd_L4 L (i : Int) = L[i] := by
            unfold rd_L4
            rw [Int.toNat_natCast, List.getD_eq_getElem?_getD, List.getElem?_eq_getElem (show i < L.length by omega)]
            rfl
          have : l = L[i] := by simpa using hl
          rw [this, ← e]
          omega
theorem TopIsolate_pure (N : Int) (S : List S47) (F : List S49) (a t : Int) (C : List Int) (L : List (List Int)) : ∃ k, droppertop_TopIsolate.f k N S F a t C L = some true := by
  suffices h : Ev (fun k => droppertop_TopIsolate.f k N S F a t C L) true by
    obtain ⟨K, hK⟩ := h
    exact ⟨K, hK K (Nat.le_refl _)⟩
  obtain ⟨b, eb, hb⟩ := rvalid_ev N S F
  refine Ev.bind eb ?_
  cases b with
  | false => exact Ev.congr (fun k => if_neg (by decide)) top_first_j0
  | true =>
    have o := hb.1 rfl
    refine Ev.congr (fun k => if_pos rfl) ?_
    by_cases c1 : (C.length : Int) > 20
    · exact Ev.congr (fun k => if_pos c1) top_first_j0
    · refine Ev.congr (fun k => if_neg c1) ?_
      by_cases c2 : (L.length : Int) > 20
      · rw [decide_eq_true c2]
        exact top_first_j0
      · rw [decide_eq_false c2]
        refine Ev.step (fun k => ?_) (top_l0 (a := a) (t := t) o (show C.length ≤ 20 by omega) (show L.length ≤ 20 by omega) L.length 0 (by omega) (by omega) (by simp))
        rw [droppertop_TopIsolate.j0, if_neg (by decide)]
        rfl
end
end Go.Proofs.YtbbjonbnmoomlaaDoor.G
end
section
namespace Go.Proofs.YtbbjonbnmoomlaaDoor.Open
open Go.ChangeShapes Go.WideShapes Go.ChangeAt Go.RowKit Go.Joins Go.Deep
open Go.Proofs.YtbbjonbnmoomlaaDoor.G Go.Proofs.YtbbjonbnmoomlaaDoorW.PrintWords
set_option linter.unusedVariables false
section
variable {H : Type} {enc : TypeId × Value → H} {w : World} {base : Nat} {spare : Nat → Bool} {held : Bool}
theorem slice_shape {P : Program} {t e : TypeId} (ht : P.underlying t = some (.slice e)) {fuel : Nat} {x : Value} {y : DataW H × List MemPlace} (h : DataW.trod enc P w base spare held fuel t [x] = some y) :
    ∃ (A : Option Addr) (len cap : Nat), x = .slice A len cap ∧ DataW.Trod enc P w base spare held t (.slice A len cap) y.1 y.2 := by
  rcases DataW.trod_slice ht h with ⟨hcs, _⟩ | ⟨a, len, cap, _, _, _, _, hcs, _⟩
  · obtain rfl := (List.cons.inj hcs).1
    exact ⟨none, 0, 0, rfl, fuel, h⟩
  · obtain rfl := (List.cons.inj hcs).1
    exact ⟨some a, len, cap, rfl, fuel, h⟩
/-- A slice of slices of whole numbers reads as a list of lists. -/
theorem open_rows_C {t : TypeId} {A : Option Addr} {len cap : Nat} {d : DataW H} {pl : List MemPlace} (ht : Tryd.prog.underlying t = some (.slice 28)) (h : DataW.Trod enc Tryd.prog w base spare held t (.slice A len cap) d pl) :
    ∃ l : List (List Int), l.length = len ∧ Kd.C (Kd.slice 3 (Kd.int .i64)) w A len l ∧ len ≤ cap := by
  obtain ⟨fuel, hf⟩ := h
  rcases open_slice1 ht (by kernel_rfl) hf with ⟨hcs, _⟩ | ⟨a, l, c, m, n, V, D, Pl, hcs, _, hl, hm, hmm, _, hi⟩
  · simp [Value.cells] at hcs
    obtain ⟨rfl, rfl, rfl⟩ := hcs
    exact ⟨[], rfl, ⟨rfl, by omega, fun h => absurd h (by omega)⟩, Nat.le_refl _⟩
  · simp [Value.cells] at hcs
    obtain ⟨rfl, rfl, rfl⟩ := hcs
    have hlm : len ≤ m := by rw [hmm]; split <;> omega
    have key : ∀ i, ∃ z : List Int, i < len → ∃ (A : Option Addr) (c : Nat), w.cell? (a.add i) = some (.slice A z.length c) ∧ z.length ≤ c ∧ Kd.C (Kd.int .i64) w A z.length z := fun i => by
      by_cases hil : i < len
      · obtain ⟨hc, ht2⟩ := hi i (by omega)
        obtain ⟨A, k, c2, hV, tr⟩ := slice_shape Tryd.underlying28 ht2
        obtain ⟨z, rfl, hz, hzc, _⟩ := open_ints_C Tryd.underlying28 Tryd.underlying3 (by kernel_rfl) tr
        exact ⟨z, fun _ => ⟨A, c2, by rw [hc, hV], hzc, hz⟩⟩
      · exact ⟨[], fun h => absurd h hil⟩
    have hf2 := fun i hil => Classical.choose_spec (key i) hil
    generalize hg : (fun i => Classical.choose (key i)) = f at hf2
    have hf3 : ∀ i, i < len → ∃ (A : Option Addr) (c : Nat), w.cell? (a.add i) = some (.slice A (f i).length c) ∧ (f i).length ≤ c ∧ Kd.C (Kd.int .i64) w A (f i).length (f i) := fun i hil => by
      have := hf2 i hil
      rw [← hg]
      exact this
    refine ⟨(List.range len).map f, by simp, ⟨by simp, by unfold maxLen at hm; omega, fun _ => ⟨a, rfl, ?_⟩⟩, hl⟩
    intro j p hp
    rw [List.getElem?_map, Option.map_eq_some_iff] at hp
    obtain ⟨i, hi2, rfl⟩ := hp
    have hjl : j < len := by
      have := (List.getElem?_eq_some_iff.1 hi2).1
      simpa using this
    obtain rfl : j = i := by
      rw [List.getElem?_eq_getElem (by simpa using hjl), List.getElem_range] at hi2
      exact Option.some.inj hi2
    obtain ⟨A, c2, h1, h2, h3⟩ := hf3 j hjl
    refine ⟨[.slice A (f j).length c2], rfl, ⟨A, c2, rfl, h2, h3⟩, ?_⟩
    intro i u hu
    match i, hu with
    | 0, hu =>
      simp at hu
      subst hu
      have e : j * (Kd.slice 3 (Kd.int .i64)).sz + 0 = j := by show j * 1 + 0 = j; omega
      rw [e]
      exact h1
    | i + 1, hu => simp at hu
theorem open_grid {r : Reach} {b0 : Nat} {v : Value} {d : DataW H} {p : List MemPlace} (hv : Value.okWide Tryd.prog w r b0 25 v) (h : DataW.Trod enc Tryd.prog w base spare held 25 v d p) :
    ∃ (a : Int) (A1 : Option Addr) (c1 : Nat) (l1 : List S47) (A2 : Option Addr) (c2 : Nat) (l2 : List S49), v = .agg #[.int .i64 a, .slice A1 l1.length c1, .slice A2 l2.length c2] ∧
      Kd.C k47 w A1 l1.length l1 ∧ l1.length ≤ c1 ∧ Kd.C k49 w A2 l2.length l2 ∧ l2.length ≤ c2 := by
  obtain ⟨cs, rfl, hsz⟩ := WideShapes.okWide_struct Tryd.underlying25 hv
  obtain ⟨fuel, hf⟩ := h
  obtain ⟨L, rfl⟩ : ∃ L : List Value, cs = L.toArray := ⟨cs.toList, by simp⟩
  have hL : L.length = 3 := by
    have : Tryd.prog.cellsOf 25 = 3 := by kernel_rfl
    rw [this] at hsz
    simpa using hsz
  match L, hL with
  | [x0, x1, x2], _ =>
    obtain ⟨ys, n, _, _, _, hyl, hg⟩ := DataW.trod_struct Tryd.underlying25 hf
    match ys, hyl with
    | [y0, y1, y2], _ =>
      have g0 : DataW.trod enc Tryd.prog w base spare held n 3 ((([x0, x1, x2] : List Value).drop 0).take (Tryd.prog.cellsOf 3)) = some y0 := hg 0 _ rfl
      have g1 : DataW.trod enc Tryd.prog w base spare held n 22 ((([x0, x1, x2] : List Value).drop 1).take (Tryd.prog.cellsOf 22)) = some y1 := hg 1 _ rfl
      have g2 : DataW.trod enc Tryd.prog w base spare held n 23 ((([x0, x1, x2] : List Value).drop 2).take (Tryd.prog.cellsOf 23)) = some y2 := hg 2 _ rfl
      rw [show Tryd.prog.cellsOf 3 = 1 by kernel_rfl] at g0
      rw [show Tryd.prog.cellsOf 22 = 1 by kernel_rfl] at g1
      rw [show Tryd.prog.cellsOf 23 = 1 by kernel_rfl] at g2
      have g0' : DataW.trod enc Tryd.prog w base spare held n 3 [x0] = some y0 := g0
      have g1' : DataW.trod enc Tryd.prog w base spare held n 22 [x1] = some y1 := g1
      have g2' : DataW.trod enc Tryd.prog w base spare held n 23 [x2] = some y2 := g2
      obtain ⟨a, e0, _, _⟩ := DataW.trod_int Tryd.underlying3 g0'
      obtain rfl := (List.cons.inj e0).1
      obtain ⟨A1, len1, c1, rfl, t1⟩ := slice_shape Tryd.underlying22 g1'
      obtain ⟨A2, len2, c2, rfl, t2⟩ := slice_shape Tryd.underlying23 g2'
      obtain ⟨l1, rfl, hr1, hc1, _⟩ := open_47_C Tryd.underlying22 t1
      obtain ⟨l2, rfl, hr2, hc2, _⟩ := open_49_C Tryd.underlying23 t2
      exact ⟨a, A1, c1, l1, A2, c2, l2, rfl, hr1, hc1, hr2, hc2⟩
theorem open_lists {r : Reach} {b0 : Nat} {v : Value} {d : DataW H} {p : List MemPlace} (hv : Value.okWide Tryd.prog w r b0 31 v) (h : DataW.Trod enc Tryd.prog w base spare held 31 v d p) :
    ∃ (A1 : Option Addr) (c1 : Nat) (l1 : List Int) (A2 : Option Addr) (c2 : Nat) (l2 : List (List Int)), v = .agg #[.slice A1 l1.length c1, .slice A2 l2.length c2] ∧
      Kd.C (Kd.int .i64) w A1 l1.length l1 ∧ l1.length ≤ c1 ∧ Kd.C (Kd.slice 3 (Kd.int .i64)) w A2 l2.length l2 ∧ l2.length ≤ c2 := by
  obtain ⟨cs, rfl, hsz⟩ := WideShapes.okWide_struct Tryd.underlying31 hv
  obtain ⟨fuel, hf⟩ := h
  obtain ⟨L, rfl⟩ : ∃ L : List Value, cs = L.toArray := ⟨cs.toList, by simp⟩
  have hL : L.length = 2 := by
    have : Tryd.prog.cellsOf 31 = 2 := by kernel_rfl
    rw [this] at hsz
    simpa using hsz
  match L, hL with
  | [x1, x2], _ =>
    obtain ⟨ys, n, _, _, _, hyl, hg⟩ := DataW.trod_struct Tryd.underlying31 hf
    match ys, hyl with
    | [y1, y2], _ =>
      have g1 : DataW.trod enc Tryd.prog w base spare held n 28 ((([x1, x2] : List Value).drop 0).take (Tryd.prog.cellsOf 28)) = some y1 := hg 0 _ rfl
      have g2 : DataW.trod enc Tryd.prog w base spare held n 29 ((([x1, x2] : List Value).drop 1).take (Tryd.prog.cellsOf 29)) = some y2 := hg 1 _ rfl
      rw [show Tryd.prog.cellsOf 28 = 1 by kernel_rfl] at g1
      rw [show Tryd.prog.cellsOf 29 = 1 by kernel_rfl] at g2
      have g1' : DataW.trod enc Tryd.prog w base spare held n 28 [x1] = some y1 := g1
      have g2' : DataW.trod enc Tryd.prog w base spare held n 29 [x2] = some y2 := g2
      obtain ⟨A1, len1, c1, rfl, t1⟩ := slice_shape Tryd.underlying28 g1'
      obtain ⟨A2, len2, c2, rfl, t2⟩ := slice_shape Tryd.underlying29 g2'
      obtain ⟨l1, rfl, hr1, hc1, _⟩ := open_ints_C Tryd.underlying28 Tryd.underlying3 (by kernel_rfl) t1
      obtain ⟨l2, rfl, hr2, hc2⟩ := open_rows_C Tryd.underlying29 t2
      exact ⟨A1, c1, l1, A2, c2, l2, rfl, hr1, hc1, hr2, hc2⟩
end
/-- What the row lists gives the walk its table. -/
theorem of_laid {W : World} (h : laidMetH Tryd.prog Rows.topIsolateRow.laid W) : TzT W := by
  rw [MakeChecks.laidMetH_plain _ _ _ (by kernel_rfl)] at h
  obtain ⟨ps, ⟨g0, t0, cs0, f0, p0, q0, hg0, ht0, hv0, hd0, ⟨g1, t1, cs1, f1, p1, q1, hg1, ht1, hv1, hd1, _, _⟩, _⟩, _, _⟩ := h
  have n1 : Tryd.prog.globalNamed "math/bits.deBruijn64tab" = some 1 := by kernel_rfl
  have y1 : (Tryd.prog.globals[1]?).map (·.type) = some 98 := by kernel_rfl
  obtain rfl := Option.some.inj (n1.symm.trans hg1)
  obtain rfl := Option.some.inj (y1.symm.trans ht1)
  have e := Lib.cells_of_tab (zs := Lib.deBruijn64tab.map fun n : Nat => (n : Int)) (k := .u8) Tryd.underlying98 Tryd.underlying5 (by kernel_rfl) (by kernel_rfl) hd1
  have tab : Lib.TabIs Tryd.prog W "math/bits.deBruijn64tab" .u8 (Lib.deBruijn64tab.map fun n : Nat => (n : Int)) := by
    unfold Lib.TabIs
    rw [hv1, ← e]
  intro j hj
  have := tab.cell n1 j (by rw [List.length_map]; exact hj)
  rw [this, List.getD_eq_getElem?_getD, List.getElem?_map, List.getD_eq_getElem?_getD, List.getElem?_eq_getElem hj]
  rfl
end Go.Proofs.YtbbjonbnmoomlaaDoor.Open
end
