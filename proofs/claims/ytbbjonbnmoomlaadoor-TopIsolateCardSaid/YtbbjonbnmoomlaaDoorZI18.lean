/- Functions of the seat and plain laws about them: PBits, PGrid, PReach, PLive. -/
import Derived.Test.YtbbjonbnmoomlaaDoorZI3
import Derived.Test.YtbbjonbnmoomlaaDoorZI0
import Derived.Test.YtbbjonbnmoomlaaDoorZI7
import Derived.Test.YtbbjonbnmoomlaaDoorZI5
import Derived.Test.YtbbjonbnmoomlaaDoorZI13
section
namespace Go.Proofs.YtbbjonbnmoomlaaDoor.G
open Go.RowKit Go.Proofs.YtbbjonbnmoomlaaDoorW.PrintWords Go.Proofs.YtbbjonbnmoomlaaDoorW.PrintLast Go.Proofs.YtbbjonbnmoomlaaDoorW.PrintMore
set_option linter.unusedVariables false
theorem w64 {n : Int} (h : -9223372036854775808 ≤ n) (h2 : n ≤ 9223372036854775807) : wrap64 n = n := by unfold wrap64; omega
theorem wsucc (i : Nat) (h : i < 9223372036854775807) : wrap64 ((i : Int) + 1) = ((i + 1 : Nat) : Int) := by rw [w64 (by omega) (by omega)]; rfl
theorem ev_some {α : Type} (r : α) {g : Nat → Option α} (h : ∀ k, g (k + 1) = some r) : Ev g r := Ev.step (f := fun _ => some r) h (Ev.now r)
theorem wrap_nat {k : IntKind} (hk : k = .i64 ∨ k = .u64) {x : Nat} (hx : x < 4611686018427387904) : k.wrap (x : Int) = x := by
  rcases hk with rfl | rfl
  · simp [IntKind.wrap, IntKind.bits, IntKind.signed]
    omega
  · simp [IntKind.wrap, IntKind.bits, IntKind.signed]
    omega
theorem bv_nat (x : Nat) (hx : x < 4611686018427387904) : (BitVec.ofInt 64 (x : Int)).toNat = x := by
  rw [BitVec.toNat_ofInt]
  omega
theorem bits_nat {k : IntKind} (hk : k = .i64 ∨ k = .u64) : k.bits = 64 := by rcases hk with rfl | rfl <;> rfl
theorem and_nat {k : IntKind} (hk : k = .i64 ∨ k = .u64) {x y : Nat} (hx : x < 4611686018427387904) (hy : y < 4611686018427387904) : Go.bits .and k (x : Int) (y : Int) = ((x &&& y : Nat) : Int) := by
  have e : Go.bits .and k (x : Int) (y : Int) = k.wrap (((BitVec.ofInt 64 (x : Int) &&& BitVec.ofInt 64 (y : Int)).toNat : Nat) : Int) := by
    rcases hk with rfl | rfl <;> rfl
  rw [e, BitVec.toNat_and, bv_nat x hx, bv_nat y hy]
  exact wrap_nat hk (Nat.lt_of_le_of_lt Nat.and_le_left hx)
theorem or_nat {k : IntKind} (hk : k = .i64 ∨ k = .u64) {x y : Nat} (hx : x < 4611686018427387904) (hy : y < 4611686018427387904) : Go.bits .or k (x : Int) (y : Int) = ((x ||| y : Nat) : Int) := by
  have e : Go.bits .or k (x : Int) (y : Int) = k.wrap (((BitVec.ofInt 64 (x : Int) ||| BitVec.ofInt 64 (y : Int)).toNat : Nat) : Int) := by
    rcases hk with rfl | rfl <;> rfl
  rw [e, BitVec.toNat_or, bv_nat x hx, bv_nat y hy]
  exact wrap_nat hk (Nat.or_lt_two_pow (n := 62) hx hy)
/-- The bits of one number that another one does not have. -/
def dif (x y : Nat) : Nat := (BitVec.ofNat 64 x &&& ~~~ BitVec.ofNat 64 y).toNat
theorem dif_le {x y : Nat} (hx : x < 4611686018427387904) : dif x y ≤ x := by
  unfold dif
  rw [BitVec.toNat_and, BitVec.toNat_ofNat, Nat.mod_eq_of_lt (by omega)]
  exact Nat.and_le_left
theorem dif_bit {x y : Nat} (hx : x < 4611686018427387904) (hy : y < 4611686018427387904) (j : Nat) : (dif x y).testBit j = (x.testBit j && !y.testBit j) := by
  unfold dif
  rw [BitVec.testBit_toNat, BitVec.getLsbD_and, BitVec.getLsbD_not, ← BitVec.testBit_toNat, ← BitVec.testBit_toNat, BitVec.toNat_ofNat, BitVec.toNat_ofNat, Nat.mod_eq_of_lt (by omega), Nat.mod_eq_of_lt (by omega)]
  by_cases h : j < 64
  · simp [h]
  · have : x.testBit j = false := Nat.testBit_lt_two_pow (Nat.lt_of_lt_of_le hx (by
      have : 2 ^ 62 ≤ 2 ^ j := Nat.pow_le_pow_right (by omega) (by omega)
      omega))
    simp [this]
theorem dif_nat {k : IntKind} (hk : k = .i64 ∨ k = .u64) {x y : Nat} (hx : x < 4611686018427387904) : Go.bits .andNot k (x : Int) (y : Int) = ((dif x y : Nat) : Int) := by
  have e : Go.bits .andNot k (x : Int) (y : Int) = k.wrap (((BitVec.ofInt 64 (x : Int) &&& ~~~ BitVec.ofInt 64 (y : Int)).toNat : Nat) : Int) := by
    rcases hk with rfl | rfl <;> rfl
  rw [e]
  exact wrap_nat hk (Nat.lt_of_le_of_lt (dif_le hx) hx)
theorem shl_nat {k : IntKind} (hk : k = .i64 ∨ k = .u64) {i : Nat} (hi : i < 62) : shl k 1 (i : Int) = ((2 ^ i : Nat) : Int) := by
  unfold shl
  rw [bits_nat hk, Int.toNat_natCast, Nat.min_eq_left (by omega), Int.one_mul]
  have : (2 : Int) ^ i = ((2 ^ i : Nat) : Int) := by simp
  rw [this]
  exact wrap_nat hk (Nat.pow_lt_pow_right (a := 2) (m := i) (n := 62) (by omega) hi)
theorem tb_nat {k : IntKind} (hk : k = .i64 ∨ k = .u64) {x i : Nat} (hx : x < 4611686018427387904) (hi : i < 64) : Go.bits .and k (shr k (x : Int) (i : Int)) 1 = if x.testBit i then 1 else 0 := by
  have e : shr k (x : Int) (i : Int) = ((x >>> i : Nat) : Int) := by
    unfold shr
    rw [bits_nat hk, Int.toNat_natCast, Nat.min_eq_left (by omega), Nat.shiftRight_eq_div_pow]
    simp
  rw [e]
  have e2 : ((1 : Int)) = ((1 : Nat) : Int) := rfl
  rw [e2, and_nat hk (Nat.lt_of_le_of_lt (Nat.shiftRight_le _ _) hx) (by omega), Nat.and_one_is_mod]
  have : x.testBit i = decide (x >>> i % 2 = 1) := by
    rw [Nat.testBit_eq_decide_div_mod_eq, Nat.shiftRight_eq_div_pow]
  rw [this]
  by_cases h : x >>> i % 2 = 1
  · rw [h]; rfl
  · have : x >>> i % 2 = 0 := by omega
    rw [this]; rfl
/-- The bits of a number, in order. -/
def bl (x : Nat) : List Nat := (List.range 10).filter fun i => x.testBit i
theorem bl_mem {x i : Nat} (hx : x < 1024) : i ∈ bl x ↔ x.testBit i = true := by
  unfold bl
  rw [List.mem_filter, List.mem_range]
  refine ⟨fun h => h.2, fun h => ⟨?_, h⟩⟩
  refine Nat.lt_of_not_le fun c => ?_
  have := Nat.testBit_lt_two_pow (x := x) (i := i) (Nat.lt_of_lt_of_le hx (by
    have : 2 ^ 10 ≤ 2 ^ i := Nat.pow_le_pow_right (by omega) c
    omega))
  rw [this] at h
  exact absurd h (by decide)
theorem bl_nodup (x : Nat) : (bl x).Nodup := List.nodup_range.filter _
theorem bl_sorted (x : Nat) : (bl x).Pairwise (· < ·) := List.pairwise_lt_range.filter _
theorem bl_len (x : Nat) : (bl x).length ≤ 10 := Nat.le_trans (List.length_filter_le _ _) (by simp)
/-- Numbers as the program's. -/
def il (l : List Nat) : List Int := l.map fun i : Nat => (i : Int)
theorem il_len (l : List Nat) : (il l).length = l.length := by unfold il; exact List.length_map _
theorem il_rd (l : List Nat) (i : Nat) : rd (il l) (i : Int) = ((l.getD i 0 : Nat) : Int) := by
  unfold rd il
  rw [Int.toNat_natCast, List.getD_eq_getElem?_getD, List.getElem?_map, List.getD_eq_getElem?_getD]
  cases l[i]? <;> rfl
theorem count_all : ∀ x : Nat, x < 1024 → bits_OnesCount.f (x : Int) = some ((bl x).length : Int) := by decide +kernel
theorem list_all : ∀ x : Nat, x < 1024 → feed_list.f 12 (x : Int) = some (il (bl x)) := by decide +kernel
theorem count_nat {x : Nat} (hx : x < 1024) : bits_OnesCount.f (IntKind.u64.wrap (x : Int)) = some ((bl x).length : Int) := by
  rw [wrap_nat (.inr rfl) (by omega)]
  exact count_all x hx
theorem list_ev {x : Nat} (hx : x < 1024) : Ev (fun k => feed_list.f k (x : Int)) (il (bl x)) := Ev.of (feed_list.mono _) (list_all x hx)
def okS (N : Int) (s : S47) : Prop := 0 ≤ s.f0 ∧ s.f0 < N ∧ 0 ≤ s.f1 ∧ s.f1 < N ∧ s.f0 ≠ s.f1
def okF (N : Int) (s : S49) : Prop := 0 ≤ s.f0 ∧ s.f0 < N ∧ 1 ≤ s.f1 ∧ s.f1 ≤ 3
instance (N : Int) (s : S47) : Decidable (okS N s) := by unfold okS; infer_instance
instance (N : Int) (s : S49) : Decidable (okF N s) := by unfold okF; infer_instance
/-- A grid as described. -/
structure okG (N : Int) (S : List S47) (F : List S49) : Prop where
  n1 : 1 ≤ N
  n8 : N ≤ 8
  s10 : S.length ≤ 10
  f6 : F.length ≤ 6
  hs : ∀ i : Nat, i < S.length → okS N (rd_T47 S (i : Int))
  hf : ∀ i : Nat, i < F.length → okF N (rd_T49 F (i : Int))
theorem section_some (N : Int) (S : List S47) (F : List S49) (a : Int) : dropperref05_section.f N S F a = some (decide (0 ≤ a ∧ a < N)) := by
  unfold dropperref05_section.f
  by_cases c : 0 ≤ a
  · rw [if_pos c]; congr 1; exact decide_eq_decide.2 ⟨fun h => ⟨c, h⟩, fun h => h.2⟩
  · rw [if_neg c, decide_eq_false (fun h => c h.1)]
theorem within_some (a b c : Int) : feed_within.f a b c = some (decide (a ≤ b ∧ b ≤ c)) := by
  unfold feed_within.f
  by_cases h : a ≤ b <;> simp [h]
theorem rvalid_l1 {N : Int} {S : List S47} {F : List S49} (hF : F.length ≤ 6) : ∀ (d i : Nat), F.length - i = d → i ≤ F.length → ∃ b : Bool, Ev (fun k => dropperref05_Valid.l1 k i N S F) b ∧ (b = true ↔ ∀ j : Nat, i ≤ j → j < F.length → okF N (rd_T49 F (j : Int))) := by
  intro d
  induction d with
  | zero =>
    intro i hd hi
    refine ⟨true, ev_some _ fun k => ?_, by simp; omega⟩
    rw [dropperref05_Valid.l1, if_neg (by omega)]
  | succ d ih =>
    intro i hd hi
    by_cases c : okF N (rd_T49 F (i : Int))
    · obtain ⟨b, e, hb⟩ := ih (i + 1) (by omega) (by omega)
      refine ⟨b, Ev.step (fun k => ?_) e, hb.trans ⟨fun h j hj hj2 => ?_, fun h j hj hj2 => h j (by omega) hj2⟩⟩
      · rw [dropperref05_Valid.l1, if_pos (by omega), if_pos (by omega), section_some, decide_eq_true ⟨c.1, c.2.1⟩]
        simp only [Option.bind_some, if_true]
        rw [if_neg (by have := c.2.2.1; omega), if_neg (by have := c.2.2.2; omega), wsucc i (by omega)]
      · by_cases q : j = i
        · exact q ▸ c
        · exact h j (by omega) hj2
    · refine ⟨false, ev_some _ fun k => ?_, ⟨fun h => absurd h (by decide), fun h => absurd (h i (by omega) (by omega)) c⟩⟩
      rw [dropperref05_Valid.l1, if_pos (by omega), if_pos (by omega), section_some]
      by_cases c1 : 0 ≤ (rd_T49 F (i : Int)).f0 ∧ (rd_T49 F (i : Int)).f0 < N
      · rw [decide_eq_true c1]
        simp only [Option.bind_some, if_true]
        by_cases c2 : (rd_T49 F (i : Int)).f1 < 1
        · rw [if_pos c2]
        · rw [if_neg c2, if_pos]
          refine Int.lt_of_not_ge fun z => c ⟨c1.1, c1.2, by omega, by omega⟩
      · rw [decide_eq_false c1]
        simp
theorem rvalid_l0 {N : Int} {S : List S47} {F : List S49} (hS : S.length ≤ 10) (hF : F.length ≤ 6) : ∀ (d i : Nat), S.length - i = d → i ≤ S.length → ∃ b : Bool, Ev (fun k => dropperref05_Valid.l0 k i N S F) b ∧ (b = true ↔ (∀ j : Nat, i ≤ j → j < S.length → okS N (rd_T47 S (j : Int))) ∧ ∀ j : Nat, j < F.length → okF N (rd_T49 F (j : Int))) := by
  intro d
  induction d with
  | zero =>
    intro i hd hi
    obtain ⟨b, e, hb⟩ := rvalid_l1 (N := N) (S := S) hF F.length 0 (by omega) (by omega)
    refine ⟨b, Ev.step (fun k => ?_) e, hb.trans ⟨fun h => ⟨by omega, fun j hj => h j (by omega) hj⟩, fun h j _ hj => h.2 j hj⟩⟩
    rw [dropperref05_Valid.l0, if_neg (by omega)]
    rfl
  | succ d ih =>
    intro i hd hi
    by_cases c : okS N (rd_T47 S (i : Int))
    · obtain ⟨b, e, hb⟩ := ih (i + 1) (by omega) (by omega)
      refine ⟨b, Ev.step (fun k => ?_) e, hb.trans ⟨fun h => ⟨fun j hj hj2 => ?_, h.2⟩, fun h => ⟨fun j hj hj2 => h.1 j (by omega) hj2, h.2⟩⟩⟩
      · rw [dropperref05_Valid.l0, if_pos (by omega), if_pos (by omega), section_some, section_some, decide_eq_true ⟨c.1, c.2.1⟩, decide_eq_true ⟨c.2.2.1, c.2.2.2.1⟩]
        simp only [Option.bind_some, if_true]
        rw [if_neg c.2.2.2.2, wsucc i (by omega)]
      · by_cases q : j = i
        · exact q ▸ c
        · exact h.1 j (by omega) hj2
    · refine ⟨false, ev_some _ fun k => ?_, ⟨fun h => absurd h (by decide), fun h => absurd (h.1 i (by omega) (by omega)) c⟩⟩
      rw [dropperref05_Valid.l0, if_pos (by omega), if_pos (by omega), section_some, section_some]
      by_cases c1 : 0 ≤ (rd_T47 S (i : Int)).f0 ∧ (rd_T47 S (i : Int)).f0 < N
      · rw [decide_eq_true c1]
        simp only [Option.bind_some, if_true]
        by_cases c2 : 0 ≤ (rd_T47 S (i : Int)).f1 ∧ (rd_T47 S (i : Int)).f1 < N
        · rw [decide_eq_true c2, if_pos rfl, if_pos]
          exact Decidable.not_not.1 fun z => c ⟨c1.1, c1.2, c2.1, c2.2, z⟩
        · rw [decide_eq_false c2]
          simp
      · rw [decide_eq_false c1]
        simp
theorem rvalid_ev (N : Int) (S : List S47) (F : List S49) : ∃ b : Bool, Ev (fun k => dropperref05_Valid.f k N S F) b ∧ (b = true ↔ okG N S F) := by
  have no : ∀ (h : ¬ okG N S F) (h2 : ∀ k, dropperref05_Valid.f k N S F = dropperref05_Valid.j0 k true N S F), ∃ b : Bool, Ev (fun k => dropperref05_Valid.f k N S F) b ∧ (b = true ↔ okG N S F) := fun h h2 => by
    refine ⟨false, Ev.congr h2 (ev_some _ fun k => ?_), ⟨fun h => absurd h (by decide), fun z => absurd z h⟩⟩
    rw [dropperref05_Valid.j0]
    rfl
  by_cases c1 : N < 1
  · exact no (fun z => by have := z.n1; omega) fun k => by unfold dropperref05_Valid.f; rw [if_pos c1]
  by_cases c2 : N > 8
  · exact no (fun z => by have := z.n8; omega) fun k => by unfold dropperref05_Valid.f; rw [if_neg c1, if_pos c2]
  by_cases c3 : (S.length : Int) > 10
  · exact no (fun z => by have := z.s10; omega) fun k => by unfold dropperref05_Valid.f; rw [if_neg c1, if_neg c2, if_pos c3]
  by_cases c4 : (F.length : Int) > 6
  · exact no (fun z => by have := z.f6; omega) fun k => by unfold dropperref05_Valid.f; rw [if_neg c1, if_neg c2, if_neg c3, decide_eq_true c4]
  obtain ⟨b, e, hb⟩ := rvalid_l0 (N := N) (S := S) (F := F) (by omega) (by omega) S.length 0 (by omega) (by omega)
  refine ⟨b, Ev.congr (f := fun k => dropperref05_Valid.j0 k false N S F) (fun k => ?_) (Ev.step (fun k => ?_) e), hb.trans ⟨fun h => ⟨by omega, by omega, by omega, by omega, fun i hi => h.1 i (by omega) hi, h.2⟩, fun h => ⟨fun i _ hi => h.hs i hi, h.hf⟩⟩⟩
  · unfold dropperref05_Valid.f
    rw [if_neg c1, if_neg c2, if_neg c3, decide_eq_false c4]
  · rw [dropperref05_Valid.j0]
    rfl
theorem feeder_loop {F : List S49} (hF : F.length ≤ 6) {fn : Int → Int → Option Bool} {p : Nat → Prop} [DecidablePred p] (hp : ∀ j, j < F.length → fn (rd_T49 F (j : Int)).f0 (rd_T49 F (j : Int)).f1 = some (decide (p j))) : ∀ (d i : Nat), F.length - i = d → i ≤ F.length → (∀ j, j < i → ¬ p j) →
    ∃ t : Int, Ev (fun k => api_Feeder_51.l0 k F fn F.length i) t ∧ (0 ≤ t ↔ ∃ j, j < F.length ∧ p j) := by
  intro d
  induction d with
  | zero =>
    intro i hd hi h1
    refine ⟨-1, ev_some _ fun k => ?_, ⟨fun z => by omega, fun ⟨j, hj, q⟩ => absurd q (h1 j (by omega))⟩⟩
    rw [api_Feeder_51.l0, if_neg (by omega)]
  | succ d ih =>
    intro i hd hi h1
    by_cases c : p i
    · refine ⟨i, ev_some _ fun k => ?_, ⟨fun _ => ⟨i, by omega, c⟩, fun _ => by omega⟩⟩
      rw [api_Feeder_51.l0, if_pos (by omega), if_pos (by omega), if_pos (by omega), hp i (by omega), decide_eq_true c]
      rfl
    · obtain ⟨t, e, ht⟩ := ih (i + 1) (by omega) (by omega) (fun j hj => if q : j = i then q ▸ c else h1 j (by omega))
      refine ⟨t, Ev.step (fun k => ?_) e, ht⟩
      rw [api_Feeder_51.l0, if_pos (by omega), if_pos (by omega), if_pos (by omega), hp i (by omega), decide_eq_false c, wsucc i (by omega)]
      rfl
theorem feeder_ev {F : List S49} (hF : F.length ≤ 6) {fn : Int → Int → Option Bool} {p : Nat → Prop} [DecidablePred p] (hp : ∀ j, j < F.length → fn (rd_T49 F (j : Int)).f0 (rd_T49 F (j : Int)).f1 = some (decide (p j))) :
    ∃ b : Bool, Ev (fun k => api_Feeder_37.f k F fn) b ∧ (b = true ↔ ∃ j, j < F.length ∧ p j) := by
  obtain ⟨t, e, ht⟩ := feeder_loop hF hp F.length 0 (by omega) (by omega) (by omega)
  refine ⟨decide (t ≥ 0), Ev.bind e (Ev.now _), ?_⟩
  rw [decide_eq_true_eq]
  exact ht
theorem switch_loop {S : List S47} (hS : S.length ≤ 10) {fn : Int → Int → Option Bool} (hp : ∀ j : Nat, j < S.length → fn (rd_T47 S (j : Int)).f0 (rd_T47 S (j : Int)).f1 = some false) : ∀ (d i : Nat), S.length - i = d → i ≤ S.length →
    Ev (fun k => api_Switch_60.l0 k S fn S.length i) (-1) := by
  intro d
  induction d with
  | zero =>
    intro i hd hi
    refine ev_some _ fun k => ?_
    rw [api_Switch_60.l0, if_neg (by omega)]
  | succ d ih =>
    intro i hd hi
    refine Ev.step (fun k => ?_) (ih (i + 1) (by omega) (by omega))
    rw [api_Switch_60.l0, if_pos (by omega), if_pos (by omega), if_pos (by omega), hp i (by omega), wsucc i (by omega)]
    rfl
theorem fvalid_ev {N : Int} {S : List S47} {F : List S49} (o : okG N S F) : Ev (fun k => feed_Valid.f k N S F) true := by
  have h1 := o.n1
  have h8 := o.n8
  obtain ⟨b, e, hb⟩ := feeder_ev o.f6 (fn := fun z0_ z1_ => feed_Valid_2.f z0_ z1_ N S F) (p := fun _ => False) (fun j hj => by
    have := o.hf j hj
    unfold feed_Valid_2.f
    rw [within_some, w64 (by omega) (by omega), decide_eq_true ⟨this.1, by have := this.2.1; omega⟩]
    simp only [Option.bind_some, if_true]
    rw [within_some, decide_eq_true this.2.2]
    rfl)
  have hb0 : b = false := by
    cases b with
    | false => rfl
    | true => obtain ⟨j, _, h⟩ := hb.1 rfl; exact h.elim
  subst hb0
  have e2 := switch_loop o.s10 (fn := fun z0_ z1_ => feed_Valid_1.f z0_ z1_ N S F) (fun j hj => by
    have := o.hs j hj
    unfold feed_Valid_1.f
    rw [within_some, within_some, w64 (by omega) (by omega), decide_eq_true ⟨this.1, by have := this.2.1; omega⟩, decide_eq_true ⟨this.2.2.1, by have := this.2.2.2.1; omega⟩]
    simp only [Option.bind_some, if_true]
    rw [beq_eq_false_iff_ne.2 this.2.2.2.2]) S.length 0 (by omega) (by omega)
  have e3 : Ev (fun k => api_Switch_55.f k S fun z0_ z1_ => feed_Valid_1.f z0_ z1_ N S F) false := Ev.bind (f := fun _ (t101 : Int) => some (decide (t101 ≥ 0))) e2 (Ev.now (decide ((-1 : Int) ≥ 0)))
  have e4 : Ev (fun k => (api_Feeder_37.f k F fun z0_ z1_ => feed_Valid_2.f z0_ z1_ N S F).bind fun t104 => some (!t104)) true := Ev.bind (f := fun _ (t104 : Bool) => some (!t104)) e (Ev.now (!false))
  refine Ev.congr (f := fun k => feed_Valid.j0 k false N S F) (fun k => ?_) (Ev.step (fun k => ?_) (Ev.bind (f := fun k (t103 : Bool) => if t103 = true then some false else (api_Feeder_37.f k F fun z0_ z1_ => feed_Valid_2.f z0_ z1_ N S F).bind fun t104 => some (!t104)) e3 e4))
  · unfold feed_Valid.f
    rw [within_some, decide_eq_true ⟨h1, h8⟩]
    simp only [Option.bind_some, if_true]
    rw [if_neg (by have := o.s10; omega), decide_eq_false (by have := o.f6; omega)]
  · rw [feed_Valid.j0]
    rfl
def isSt (S : List S47) (st : Nat) : Prop := st < 2 ^ S.length
theorem isSt_lt {S : List S47} (h : S.length ≤ 10) {st : Nat} (hs : isSt S st) : st < 1024 := Nat.lt_of_lt_of_le hs (show _ ≤ 2 ^ 10 from Nat.pow_le_pow_right (by decide) h)
theorem all_some {S : List S47} (hS : S.length ≤ 10) (N : Int) (F : List S49) : feed_grid_all.f N S F = some ((2 ^ S.length : Nat) : Int) := by
  unfold feed_grid_all.f
  rw [shl_nat (.inl rfl) (by omega)]
theorem pow_le {S : List S47} (hS : S.length ≤ 10) : 2 ^ S.length ≤ 1024 ∧ 1 ≤ 2 ^ S.length := ⟨show _ ≤ 2 ^ 10 from Nat.pow_le_pow_right (by decide) hS, Nat.one_le_two_pow⟩
theorem open_ev {N : Int} {S : List S47} {F : List S49} (o : okG N S F) {st : Nat} (hs : isSt S st) : Ev (fun k => feed_open.f k N S F (st : Int)) 0 := by
  refine Ev.bind (fvalid_ev o) (Ev.congr (fun k => ?_) (Ev.now 0))
  have := pow_le o.s10
  rw [if_pos rfl, all_some o.s10, Option.bind_some, within_some, w64 (by omega) (by omega), decide_eq_true]
  · rfl
  · unfold isSt at hs
    omega
theorem fasked_ev {N : Int} {S : List S47} {F : List S49} (o : okG N S F) {st : Nat} (hs : isSt S st) {t : Int} (h0 : 0 ≤ t) (h1 : t < N) : Ev (fun k => feed_asked.f k N S F (st : Int) t) 0 := by
  refine Ev.bind (open_ev o hs) ?_
  have e : Ev (fun k => slices_IndexFunc_int_int.l0 k [t] (fun z0_ => feed_grid_section_1.f z0_ N S F) 1 0) (-1) := by
    refine Ev.step (f := fun k => slices_IndexFunc_int_int.l0 k [t] (fun z0_ => feed_grid_section_1.f z0_ N S F) 1 1) (fun k => ?_) (ev_some _ fun k => ?_)
    · have h8 := o.n8
      rw [slices_IndexFunc_int_int.l0, if_pos (by omega), if_pos (by omega), if_pos (by simp)]
      have : rd [t] 0 = t := rfl
      rw [this]
      have : feed_grid_section_1.f t N S F = some false := by
        unfold feed_grid_section_1.f
        rw [within_some, w64 (by omega) (by omega), decide_eq_true ⟨h0, by omega⟩]
        rfl
      rw [this, show wrap64 (0 + 1) = 1 from w64 (by omega) (by omega)]
      rfl
    · rw [slices_IndexFunc_int_int.l0, if_neg (by omega)]
  exact Ev.bind (f := fun k t108 => some t108) (Ev.bind (f := fun k t102 => if t102 = true then some 2 else some 0) (Ev.bind (f := fun k t101 => some (decide (t101 ≥ 0))) e (Ev.now (decide ((-1 : Int) ≥ 0)))) (Ev.now 0)) (Ev.now 0)
/-- A feeder is at a section. -/
def home (F : List S49) (v : Nat) : Prop := ∃ j, j < F.length ∧ (rd_T49 F (j : Int)).f0 = v
theorem home_ev {N : Int} {S : List S47} {F : List S49} (hF : F.length ≤ 6) (v : Nat) : ∃ b : Bool, Ev (fun k => feed_grid_atHome.f k N S F (v : Int)) b ∧ (b = true ↔ home F v) := by
  obtain ⟨b, e, hb⟩ := feeder_ev hF (fn := fun z0_ z1_ => feed_grid_atHome_1.f z0_ z1_ (v : Int)) (p := fun j => (rd_T49 F (j : Int)).f0 = (v : Int)) (fun j hj => by
    unfold feed_grid_atHome_1.f
    by_cases c : (rd_T49 F (j : Int)).f0 = (v : Int) <;> simp [c])
  exact ⟨b, Ev.bind e (Ev.now _), hb⟩
theorem at_loop {N : Int} {S : List S47} {F : List S49} (hF : F.length ≤ 6) (v : Nat) : ∀ (d i : Nat), F.length - i = d → i ≤ F.length → (∀ j : Nat, j < i → (rd_T49 F (j : Int)).f0 ≠ v) → ∃ b : Bool, Ev (fun k => dropperref05_At.l0 k v i N S F) b ∧ (b = true ↔ home F v) := by
  intro d
  induction d with
  | zero =>
    intro i hd hi h
    refine ⟨false, ev_some _ fun k => ?_, ⟨fun z => absurd z (by decide), fun ⟨j, hj, q⟩ => absurd q (h j (by omega))⟩⟩
    rw [dropperref05_At.l0, if_neg (by omega)]
  | succ d ih =>
    intro i hd hi h
    by_cases c : (rd_T49 F (i : Int)).f0 = v
    · refine ⟨true, ev_some _ fun k => ?_, ⟨fun _ => ⟨i, by omega, c⟩, fun _ => rfl⟩⟩
      rw [dropperref05_At.l0, if_pos (by omega), if_pos (by omega), if_pos c]
    · obtain ⟨b, e, hb⟩ := ih (i + 1) (by omega) (by omega) (fun j hj => if q : j = i then q ▸ c else h j (by omega))
      refine ⟨b, Ev.step (fun k => ?_) e, hb⟩
      rw [dropperref05_At.l0, if_pos (by omega), if_pos (by omega), if_neg c, wsucc i (by omega)]
theorem at_ev {N : Int} {S : List S47} {F : List S49} (hF : F.length ≤ 6) (v : Nat) : ∃ b : Bool, Ev (fun k => dropperref05_At.f k N S F (v : Int)) b ∧ (b = true ↔ home F v) := at_loop hF v F.length 0 (by omega) (by omega) (by omega)
/-- The first error of a grid, a state and a section. -/
theorem why_ev {N : Int} {S : List S47} {F : List S49} (o : okG N S F) (a t : Int) : ∃ r : Int, Ev (fun k => dropperref05_Why.f k N S F a t) r ∧ (r = 0 ↔ ∃ st v : Nat, a = st ∧ isSt S st ∧ t = v ∧ (v : Int) < N) := by
  obtain ⟨b, e, hb⟩ := rvalid_ev N S F
  obtain rfl := hb.2 o
  have := pow_le o.s10
  have hst : dropperref05_IsState.f N S F a = some (decide (0 ≤ a ∧ a < ((2 ^ S.length : Nat) : Int))) := by
    unfold dropperref05_IsState.f
    have := o.s10
    rw [shl_nat (.inl rfl) (by omega)]
    by_cases c : a ≥ 0
    · rw [if_pos c]; congr 1; exact decide_eq_decide.2 ⟨fun h => ⟨c, h⟩, fun h => h.2⟩
    · rw [if_neg c, decide_eq_false (fun h => c h.1)]
  by_cases c : 0 ≤ a ∧ a < ((2 ^ S.length : Nat) : Int)
  · have e1 : Ev (fun k => dropperref05_asked.f k N S F a) 0 := Ev.bind e (Ev.congr (fun k => by rw [if_pos rfl, hst, decide_eq_true c]; rfl) (Ev.now 0))
    by_cases c2 : 0 ≤ t ∧ t < N
    · refine ⟨0, Ev.bind e1 (Ev.congr (fun k => by rw [if_pos rfl, section_some, decide_eq_true c2]; rfl) (Ev.now 0)), ⟨fun _ => ⟨a.toNat, t.toNat, by omega, ?_, by omega, by omega⟩, fun _ => rfl⟩⟩
      unfold isSt
      omega
    · refine ⟨2, Ev.bind e1 (Ev.congr (fun k => by rw [if_pos rfl, section_some, decide_eq_false c2]; rfl) (Ev.now 2)), ⟨fun h => absurd h (by decide), fun ⟨st, v, _, _, h, h2⟩ => absurd (⟨by omega, by omega⟩ : 0 ≤ t ∧ t < N) c2⟩⟩
  · have e1 : Ev (fun k => dropperref05_asked.f k N S F a) 51 := Ev.bind e (Ev.congr (fun k => by rw [if_pos rfl, hst, decide_eq_false c]; rfl) (Ev.now 51))
    refine ⟨51, Ev.bind e1 (Ev.congr (fun k => by rw [if_neg (by decide)]) (Ev.now 51)), ⟨fun h => absurd h (by decide), fun ⟨st, v, h, h1, _, h2⟩ => absurd ?_ c⟩⟩
    unfold isSt at h1
    omega
def sA (S : List S47) (i : Nat) : Nat := (rd_T47 S (i : Int)).f0.toNat
def sB (S : List S47) (i : Nat) : Nat := (rd_T47 S (i : Int)).f1.toNat
def fh (F : List S49) (i : Nat) : Nat := (rd_T49 F (i : Int)).f0.toNat
theorem s_eq {N : Int} {S : List S47} {F : List S49} (o : okG N S F) {i : Nat} (h : i < S.length) : (rd_T47 S (i : Int)).f0 = sA S i ∧ (rd_T47 S (i : Int)).f1 = sB S i ∧ sA S i < N.toNat ∧ sB S i < N.toNat ∧ sA S i ≠ sB S i := by
  have := o.hs i h
  unfold okS at this
  unfold sA sB
  omega
theorem f_eq {N : Int} {S : List S47} {F : List S49} (o : okG N S F) {i : Nat} (h : i < F.length) : (rd_T49 F (i : Int)).f0 = fh F i ∧ fh F i < N.toNat := by
  have := o.hf i h
  unfold okF at this
  unfold fh
  omega
theorem home_iff {N : Int} {S : List S47} {F : List S49} (o : okG N S F) (v : Nat) : home F v ↔ ∃ j, j < F.length ∧ fh F j = v := by
  unfold home
  constructor
  · rintro ⟨j, hj, h⟩
    have := f_eq o hj
    exact ⟨j, hj, by omega⟩
  · rintro ⟨j, hj, h⟩
    have := f_eq o hj
    exact ⟨j, hj, by omega⟩
theorem home_lt {N : Int} {S : List S47} {F : List S49} (o : okG N S F) {v : Nat} (h : home F v) : v < N.toNat := by
  obtain ⟨j, hj, h⟩ := (home_iff o v).1 h
  have := f_eq o hj
  omega
/-- A closed switch joins two sections. -/
def jn (S : List S47) (st i x y : Nat) : Prop := i < S.length ∧ st.testBit i = true ∧ ((sA S i = x ∧ sB S i = y) ∨ (sA S i = y ∧ sB S i = x))
/-- One comes from a section to another one. -/
inductive Rch (S : List S47) (st : Nat) (x : Nat) : Nat → Prop
  | refl : Rch S st x x
  | step {y z i : Nat} : Rch S st x y → jn S st i y z → Rch S st x z
theorem Rch.trans {S : List S47} {st x y z : Nat} (h : Rch S st x y) (h2 : Rch S st y z) : Rch S st x z := by
  induction h2 with
  | refl => exact h
  | step _ j ih => exact ih.step j
theorem Rch.closed {S : List S47} {st x y : Nat} {P : Nat → Prop} (h : Rch S st x y) (hc : ∀ i u v, jn S st i u v → P u → P v) (hx : P x) : P y := by
  induction h with
  | refl => exact hx
  | step _ j ih => exact hc _ _ _ j ih
def mis (m : Nat → Bool) : Nat → Nat
  | 0 => 0
  | n + 1 => mis m n + if m n then 0 else 1
theorem mis_bd (m : Nat → Bool) : ∀ n, mis m n ≤ n
  | 0 => Nat.le_refl _
  | n + 1 => by
    have := mis_bd m n
    simp only [mis]
    split <;> omega
theorem mis_le {m m' : Nat → Bool} (h : ∀ v, m v = true → m' v = true) : ∀ n, mis m' n ≤ mis m n
  | 0 => Nat.le_refl _
  | n + 1 => by
    have := mis_le h n
    simp only [mis]
    by_cases c : m n = true
    · rw [if_pos c, if_pos (h n c)]; omega
    · rw [if_neg c]; split <;> omega
theorem mis_lt {m m' : Nat → Bool} (h : ∀ v, m v = true → m' v = true) {v : Nat} (h1 : m' v = true) (h2 : m v = false) : ∀ n, v < n → mis m' n < mis m n
  | 0, h => by omega
  | n + 1, hv => by
    simp only [mis]
    by_cases c : v = n
    · subst c
      have := mis_le h v
      rw [if_pos h1, h2]
      simp
      omega
    · have := mis_lt h h1 h2 n (by omega)
      by_cases c : m n = true
      · rw [if_pos c, if_pos (h n c)]; omega
      · rw [if_neg c]; split <;> omega
section
variable {σ τ : Type} {S : List S47} {st : Nat} (good : σ → Prop) (mem : σ → Nat → Bool) (out : σ → τ) (l0 : Nat → σ → Bool → Option τ) (l1 : Nat → σ → Bool → Nat → Option τ)
  (hb : ∀ o, good o → ∀ v, mem o v = true → v < 8)
  (h0 : ∀ k o, l0 (k + 1) o false = some (out o))
  (h0' : ∀ k o, l0 (k + 1) o true = l1 k o false 0)
  (h1 : ∀ k o b i, good o → i < S.length → (st.testBit i = false ∨ mem o (sA S i) = mem o (sB S i)) → l1 (k + 1) o b i = l1 k o b (i + 1))
  (h2 : ∀ o i, good o → i < S.length → st.testBit i = true → mem o (sA S i) ≠ mem o (sB S i) → ∃ o', good o' ∧ (∀ v, mem o' v = true ↔ (mem o v = true ∨ v = sA S i ∨ v = sB S i)) ∧ ∀ k b, l1 (k + 1) o b i = l1 k o' true (i + 1))
  (h3 : ∀ k o b, l1 (k + 1) o b S.length = l0 k o b)
include h1 h2 h3 hb in
theorem reach_pass : ∀ (d i : Nat) (o : σ) (b : Bool), S.length - i = d → i ≤ S.length → good o → ∃ o' b', good o' ∧ (∀ v, mem o v = true → mem o' v = true) ∧ (∀ v, mem o' v = true → ∃ u, mem o u = true ∧ Rch S st u v) ∧
    ((b' = b ∧ o' = o ∧ ∀ j, i ≤ j → j < S.length → st.testBit j = true → mem o (sA S j) = mem o (sB S j)) ∨ (b' = true ∧ ∃ v, v < 8 ∧ mem o' v = true ∧ mem o v = false)) ∧ ∀ r, Ev (fun k => l0 k o' b') r → Ev (fun k => l1 k o b i) r := by
  intro d
  induction d with
  | zero =>
    intro i o b hd hi ho
    obtain rfl : i = S.length := by omega
    exact ⟨o, b, ho, fun _ h => h, fun v h => ⟨v, h, .refl⟩, .inl ⟨rfl, rfl, fun j h1 h2 => by omega⟩, fun r e => Ev.step (fun k => h3 k o b) e⟩
  | succ d ih =>
    intro i o b hd hi ho
    by_cases c : st.testBit i = false ∨ mem o (sA S i) = mem o (sB S i)
    · obtain ⟨o', b', g', s', r', x', e'⟩ := ih (i + 1) o b (by omega) (by omega) ho
      refine ⟨o', b', g', s', r', ?_, fun r e => Ev.step (fun k => h1 k o b i ho (by omega) c) (e' r e)⟩
      rcases x' with ⟨y1, y2, y3⟩ | x'
      · refine .inl ⟨y1, y2, fun j hj hj2 ht => ?_⟩
        by_cases q : j = i
        · subst q
          rcases c with c | c
          · rw [c] at ht; exact absurd ht (by decide)
          · exact c
        · exact y3 j (by omega) hj2 ht
      · exact .inr x'
    · have c1 : st.testBit i = true := by
        cases q : st.testBit i with
        | true => rfl
        | false => exact absurd (.inl q) c
      have c2 : mem o (sA S i) ≠ mem o (sB S i) := fun q => c (.inr q)
      obtain ⟨o1, g1, m1, e1⟩ := h2 o i ho (by omega) c1 c2
      obtain ⟨o', b', g', s', r', x', e'⟩ := ih (i + 1) o1 true (by omega) (by omega) g1
      have base : ∀ v, mem o1 v = true → ∃ u, mem o u = true ∧ Rch S st u v := fun v hv => by
        have ab : jn S st i (sA S i) (sB S i) := ⟨by omega, c1, .inl ⟨rfl, rfl⟩⟩
        have ba : jn S st i (sB S i) (sA S i) := ⟨by omega, c1, .inr ⟨rfl, rfl⟩⟩
        rcases (m1 v).1 hv with h | rfl | rfl
        · exact ⟨v, h, .refl⟩
        · cases q : mem o (sA S i) with
          | true => exact ⟨_, q, .refl⟩
          | false =>
            cases q2 : mem o (sB S i) with
            | true => exact ⟨_, q2, Rch.refl.step ba⟩
            | false => exact absurd (q.trans q2.symm) c2
        · cases q : mem o (sB S i) with
          | true => exact ⟨_, q, .refl⟩
          | false =>
            cases q2 : mem o (sA S i) with
            | true => exact ⟨_, q2, Rch.refl.step ab⟩
            | false => exact absurd (q2.trans q.symm) c2
      refine ⟨o', b', g', fun v h => s' v ((m1 v).2 (.inl h)), fun v h => ?_, .inr ⟨?_, ?_⟩, fun r e => Ev.step (fun k => e1 k b) (e' r e)⟩
      · obtain ⟨u, hu, ru⟩ := r' v h
        obtain ⟨u2, hu2, ru2⟩ := base u hu
        exact ⟨u2, hu2, ru2.trans ru⟩
      · rcases x' with ⟨y1, _, _⟩ | ⟨y1, _⟩ <;> exact y1
      · have hA := s' _ ((m1 (sA S i)).2 (.inr (.inl rfl)))
        have hB := s' _ ((m1 (sB S i)).2 (.inr (.inr rfl)))
        cases q : mem o (sA S i) with
        | false => exact ⟨_, hb o' g' _ hA, hA, q⟩
        | true =>
          cases q2 : mem o (sB S i) with
          | false => exact ⟨_, hb o' g' _ hB, hB, q2⟩
          | true => exact absurd (q.trans q2.symm) c2
include hb h0 h0' h1 h2 h3 in
theorem reach_loop : ∀ (e : Nat) (o : σ), mis (mem o) 8 ≤ e → good o → ∃ o', Ev (fun k => l0 k o true) (out o') ∧ good o' ∧ ∀ v, mem o' v = true ↔ ∃ u, mem o u = true ∧ Rch S st u v := by
  intro e
  induction e with
  | zero =>
    intro o he ho
    obtain ⟨o', b', g', s', r', x', e'⟩ := reach_pass good mem l0 l1 hb h1 h2 h3 S.length 0 o false (by omega) (by omega) ho
    rcases x' with ⟨y1, y2, y3⟩ | ⟨_, v, hv, v1, v2⟩
    · subst y1 y2
      refine ⟨o', Ev.step (fun k => h0' k o') (e' _ (ev_some _ fun k => h0 k o')), ho, fun v => ⟨fun h => ⟨v, h, .refl⟩, fun ⟨u, hu, r⟩ => ?_⟩⟩
      refine r.closed (P := fun v => mem o' v = true) (fun i x y j q => ?_) hu
      obtain ⟨j1, j2, ⟨rfl, rfl⟩ | ⟨rfl, rfl⟩⟩ := j
      · rw [← y3 _ (by omega) j1 j2]; exact q
      · rw [y3 _ (by omega) j1 j2]; exact q
    · have := mis_lt (m := mem o) (m' := mem o') s' v1 v2 8 hv
      omega
  | succ e ih =>
    intro o he ho
    obtain ⟨o', b', g', s', r', x', e'⟩ := reach_pass good mem l0 l1 hb h1 h2 h3 S.length 0 o false (by omega) (by omega) ho
    rcases x' with ⟨y1, y2, y3⟩ | ⟨y1, v, hv, v1, v2⟩
    · subst y1 y2
      refine ⟨o', Ev.step (fun k => h0' k o') (e' _ (ev_some _ fun k => h0 k o')), ho, fun v => ⟨fun h => ⟨v, h, .refl⟩, fun ⟨u, hu, r⟩ => ?_⟩⟩
      refine r.closed (P := fun v => mem o' v = true) (fun i x y j q => ?_) hu
      obtain ⟨j1, j2, ⟨rfl, rfl⟩ | ⟨rfl, rfl⟩⟩ := j
      · rw [← y3 _ (by omega) j1 j2]; exact q
      · rw [y3 _ (by omega) j1 j2]; exact q
    · have := mis_lt (m := mem o) (m' := mem o') s' v1 v2 8 hv
      subst y1
      obtain ⟨o2, e2, g2, m2⟩ := ih o' (by omega) g'
      refine ⟨o2, Ev.step (fun k => h0' k o) (e' _ e2), g2, fun v => (m2 v).trans ⟨fun ⟨u, hu, r⟩ => ?_, fun ⟨u, hu, r⟩ => ⟨u, s' u hu, r⟩⟩⟩
      obtain ⟨u2, hu2, ru2⟩ := r' u hu
      exact ⟨u2, hu2, ru2.trans r⟩
end
theorem two_all : ((List.range 256).all fun x => (List.range 8).all fun a => (List.range 8).all fun b => if x.testBit a == x.testBit b then (x &&& (2 ^ a ||| 2 ^ b) == 0 || x &&& (2 ^ a ||| 2 ^ b) == 2 ^ a ||| 2 ^ b) else (x &&& (2 ^ a ||| 2 ^ b) != 0 && x &&& (2 ^ a ||| 2 ^ b) != 2 ^ a ||| 2 ^ b)) = true := by decide +kernel
theorem two_cases (x : Nat) (hx : x < 256) (a : Nat) (ha : a < 8) (b : Nat) (hb : b < 8) : (x.testBit a = x.testBit b → (x &&& (2 ^ a ||| 2 ^ b) = 0 ∨ x &&& (2 ^ a ||| 2 ^ b) = 2 ^ a ||| 2 ^ b)) ∧ (x.testBit a ≠ x.testBit b → x &&& (2 ^ a ||| 2 ^ b) ≠ 0 ∧ x &&& (2 ^ a ||| 2 ^ b) ≠ 2 ^ a ||| 2 ^ b) := by
  have h := List.all_eq_true.1 (List.all_eq_true.1 (List.all_eq_true.1 two_all x (List.mem_range.2 hx)) a (List.mem_range.2 ha)) b (List.mem_range.2 hb)
  by_cases c : x.testBit a = x.testBit b
  · rw [if_pos (beq_iff_eq.2 c), Bool.or_eq_true, beq_iff_eq, beq_iff_eq] at h
    exact ⟨fun _ => h, fun z => absurd c z⟩
  · rw [if_neg (fun z => c (beq_iff_eq.1 z)), Bool.and_eq_true, bne_iff_ne, bne_iff_ne] at h
    exact ⟨fun z => absurd z c, fun _ => h⟩
theorem two_lt {x a b : Nat} (hx : x < 256) (ha : a < 8) (hb : b < 8) : (2 ^ a ||| 2 ^ b) < 256 ∧ x ||| (2 ^ a ||| 2 ^ b) < 256 := by
  have h : (2 ^ a ||| 2 ^ b) < 2 ^ 8 := Nat.or_lt_two_pow (Nat.pow_lt_pow_right (by omega) ha) (Nat.pow_lt_pow_right (by omega) hb)
  exact ⟨h, Nat.or_lt_two_pow (n := 8) hx h⟩
theorem tb_lt {x v : Nat} (hx : x < 256) (h : x.testBit v = true) : v < 8 := by
  refine Nat.lt_of_not_le fun c => ?_
  have := Nat.testBit_lt_two_pow (x := x) (i := v) (Nat.lt_of_lt_of_le hx (show 2 ^ 8 ≤ 2 ^ v from Nat.pow_le_pow_right (by decide) c))
  rw [this] at h
  exact absurd h (by decide)
theorem pow_bit (a v : Nat) : (2 ^ a).testBit v = true ↔ v = a := by
  rw [Nat.testBit_two_pow, decide_eq_true_eq]
  exact eq_comm
theorem group_ev {N : Int} {S : List S47} {F : List S49} (o : okG N S F) {st : Nat} (hs : st < 1024) {x : Nat} (hx : x < N.toNat) : ∃ g : Nat, Ev (fun k => feed_grid_group.f k N S F (st : Int) (x : Int)) (g : Int) ∧ g < 256 ∧ ∀ v, g.testBit v = true ↔ Rch S st x v := by
  have h8 := o.n8
  have hS := o.s10
  obtain ⟨g, e, hg, h⟩ := reach_loop (σ := Nat) (τ := Int) (S := S) (st := st) (fun o => o < 256) (fun o v => o.testBit v) (fun o => (o : Int)) (fun k g b => feed_grid_group.l0 k (st : Int) (g : Int) b N S F) (fun k g b i => feed_grid_group.l1 k (st : Int) (g : Int) b S (S.length : Int) (i : Int) N S F)
    (fun g hg v hv => tb_lt hg hv) (fun k g => by show feed_grid_group.l0 _ _ _ _ _ _ _ = _; rw [feed_grid_group.l0, if_neg (by decide)])
    (fun k g => by show feed_grid_group.l0 _ _ _ _ _ _ _ = _; rw [feed_grid_group.l0, if_pos rfl]; rfl)
    (fun k g b i hg hi c => by
      obtain ⟨eA, eB, lA, lB, _⟩ := s_eq o hi
      show feed_grid_group.l1 _ _ _ _ _ _ _ _ _ _ = _
      rw [feed_grid_group.l1, if_pos (by omega), if_pos (by omega), if_pos (by omega), tb_nat (.inl rfl) (by omega) (by omega), wsucc i (by omega)]
      cases q : st.testBit i with
      | false => simp
      | true =>
        have c := c.resolve_left (by rw [q]; decide)
        have tw := two_lt hg (show sA S i < 8 by omega) (show sB S i < 8 by omega)
        simp only [if_true]
        rw [if_neg (by decide), eA, eB, if_pos (by omega), if_pos (by omega), shl_nat (.inr rfl) (by omega), shl_nat (.inr rfl) (by omega), or_nat (.inr rfl) (Nat.lt_of_lt_of_le (Nat.pow_lt_pow_right (a := 2) (n := 8) (by omega) (by omega)) (by decide)) (Nat.lt_of_lt_of_le (Nat.pow_lt_pow_right (a := 2) (n := 8) (by omega) (by omega)) (by decide)), and_nat (.inr rfl) (by omega) (by omega)]
        rcases (two_cases g hg _ (show sA S i < 8 by omega) _ (show sB S i < 8 by omega)).1 c with z | z
        · rw [if_pos (by rw [z]; rfl)]
        · rw [z]
          by_cases z2 : ((2 ^ sA S i ||| 2 ^ sB S i : Nat) : Int) = 0
          · rw [if_pos z2]
          · rw [if_neg z2, if_pos rfl])
    (fun g i hg hi q c => by
      obtain ⟨eA, eB, lA, lB, _⟩ := s_eq o hi
      have tw := two_lt hg (show sA S i < 8 by omega) (show sB S i < 8 by omega)
      refine ⟨g ||| (2 ^ sA S i ||| 2 ^ sB S i), tw.2, fun v => ?_, fun k b => ?_⟩
      · rw [Nat.testBit_or, Nat.testBit_or, Bool.or_eq_true, Bool.or_eq_true, pow_bit, pow_bit]
      · show feed_grid_group.l1 _ _ _ _ _ _ _ _ _ _ = _
        have z := (two_cases g hg _ (show sA S i < 8 by omega) _ (show sB S i < 8 by omega)).2 c
        rw [feed_grid_group.l1, if_pos (by omega), if_pos (by omega), if_pos (by omega), tb_nat (.inl rfl) (by omega) (by omega), wsucc i (by omega), q]
        simp only [if_true]
        rw [if_neg (by decide), eA, eB, if_pos (by omega), if_pos (by omega), shl_nat (.inr rfl) (by omega), shl_nat (.inr rfl) (by omega), or_nat (.inr rfl) (Nat.lt_of_lt_of_le (Nat.pow_lt_pow_right (a := 2) (n := 8) (by omega) (by omega)) (by decide)) (Nat.lt_of_lt_of_le (Nat.pow_lt_pow_right (a := 2) (n := 8) (by omega) (by omega)) (by decide)), and_nat (.inr rfl) (by omega) (by omega), if_neg (by omega), if_neg (by omega), or_nat (.inr rfl) (by omega) (by omega)])
    (fun k g b => by show feed_grid_group.l1 _ _ _ _ _ _ _ _ _ _ = _; rw [feed_grid_group.l1, if_neg (by omega)])
    8 (2 ^ x) (mis_bd _ 8) (Nat.pow_lt_pow_right (a := 2) (n := 8) (by omega) (by omega))
  refine ⟨g, Ev.congr (fun k => ?_) e, hg, fun v => (h v).trans ⟨fun ⟨u, hu, r⟩ => (pow_bit x u).1 hu ▸ r, fun r => ⟨x, (pow_bit x x).2 rfl, r⟩⟩⟩
  unfold feed_grid_group.f
  rw [if_pos (by omega), shl_nat (.inr rfl) (by omega)]
theorem set_bool (o : List Bool) (a v : Nat) (h : a < o.length) : (o.set a true).getD v false = true ↔ (o.getD v false = true ∨ v = a) := by
  rw [List.getD_eq_getElem?_getD, List.getD_eq_getElem?_getD, List.getElem?_set]
  by_cases c : a = v
  · subst c; rw [if_pos rfl, if_pos h]; simp
  · rw [if_neg c]
    exact ⟨.inl, fun z => z.resolve_right fun q => c q.symm⟩
theorem getD_lt {o : List Bool} {v : Nat} (h : o.getD v false = true) : v < o.length := by
  refine Nat.lt_of_not_le fun c => ?_
  rw [List.getD_eq_getElem?_getD, List.getElem?_eq_none c] at h
  exact absurd h (by decide)
theorem from_ev {N : Int} {S : List S47} {F : List S49} (o : okG N S F) {st : Nat} (hs : st < 1024) {x : Nat} (hx : x < N.toNat) : ∃ g : List Bool, Ev (fun k => dropperref05_from.f k N S F (st : Int) (x : Int)) g ∧ g.length = N.toNat ∧ ∀ v, g.getD v false = true ↔ Rch S st x v := by
  have h8 := o.n8
  have hS := o.s10
  obtain ⟨g, e, hg, h⟩ := reach_loop (σ := List Bool) (τ := List Bool) (S := S) (st := st) (fun o => o.length = N.toNat) (fun o v => o.getD v false) (fun o => o) (fun k g b => dropperref05_from.l0 k (st : Int) g b N S F) (fun k g b i => dropperref05_from.l1 k (st : Int) g b (i : Int) N S F)
    (fun g hg v hv => by have := getD_lt hv; omega) (fun k g => by show dropperref05_from.l0 _ _ _ _ _ _ _ = _; rw [dropperref05_from.l0, if_neg (by decide)])
    (fun k g => by show dropperref05_from.l0 _ _ _ _ _ _ _ = _; rw [dropperref05_from.l0, if_pos rfl]; rfl)
    (fun k g b i hg hi c => by
      obtain ⟨eA, eB, lA, lB, _⟩ := s_eq o hi
      show dropperref05_from.l1 _ _ _ _ _ _ _ _ = _
      rw [dropperref05_from.l1, if_pos (by omega), if_pos (by omega), dropperref05_closed.f, if_pos (by omega), tb_nat (.inl rfl) (by omega) (by omega), wsucc i (by omega)]
      cases q : st.testBit i with
      | false => simp
      | true =>
        have c := c.resolve_left (by rw [q]; decide)
        simp only [if_true, Option.bind_some]
        rw [if_pos (by decide), eA, eB, if_pos (by omega), if_pos (by omega), if_pos (by omega), if_pos (by omega), if_neg]
        unfold rdOf
        rw [Int.toNat_natCast, Int.toNat_natCast, c]
        simp)
    (fun g i hg hi q c => by
      obtain ⟨eA, eB, lA, lB, _⟩ := s_eq o hi
      refine ⟨(g.set (sA S i) true).set (sB S i) true, by rw [List.length_set, List.length_set]; exact hg, fun v => ?_, fun k b => ?_⟩
      · rw [set_bool _ _ _ (by rw [List.length_set]; omega), set_bool _ _ _ (by omega), or_assoc]
      · show dropperref05_from.l1 _ _ _ _ _ _ _ _ = _
        rw [dropperref05_from.l1, if_pos (by omega), if_pos (by omega), dropperref05_closed.f, if_pos (by omega), tb_nat (.inl rfl) (by omega) (by omega), wsucc i (by omega), q]
        simp only [if_true, Option.bind_some]
        rw [if_pos (by decide), eA, eB, if_pos (by omega), if_pos (by omega), if_pos (by omega), if_pos (by omega), if_pos]
        · simp only [Int.toNat_natCast]
        · unfold rdOf
          rw [Int.toNat_natCast, Int.toNat_natCast]
          exact bne_iff_ne.2 c)
    (fun k g b => by show dropperref05_from.l1 _ _ _ _ _ _ _ _ = _; rw [dropperref05_from.l1, if_neg (by omega)])
    8 ((List.replicate N.toNat false).set x true) (mis_bd _ 8) (by rw [List.length_set, List.length_replicate])
  have st0 : ∀ v, ((List.replicate N.toNat false).set x true).getD v false = true ↔ v = x := fun v => by
    rw [set_bool _ _ _ (by rw [List.length_replicate]; exact hx)]
    refine ⟨fun z => z.resolve_left fun q => ?_, .inr⟩
    rw [List.getD_eq_getElem?_getD, List.getElem?_replicate] at q
    split at q <;> exact absurd q (by decide)
  refine ⟨g, Ev.congr (fun k => ?_) e, hg, fun v => (h v).trans ⟨fun ⟨u, hu, r⟩ => (st0 u).1 hu ▸ r, fun r => ⟨x, (st0 x).2 rfl, r⟩⟩⟩
  have h1 := o.n1
  unfold dropperref05_from.f
  rw [if_pos (by omega), if_pos (by omega)]
  simp only [Option.bind_some, List.length_replicate, Int.toNat_natCast]
  rw [if_pos (by omega), if_pos (by omega)]
/-- A row's sections that are not 0 are those that D has. -/
structure Fd (n : Nat) (ok : Int → Prop) (D : Nat → Prop) (x : List Int) : Prop where
  len : x.length = n
  ok : ∀ v : Nat, v < n → ok (rd x (v : Int))
  iff : ∀ v : Nat, v < n → (rd x (v : Int) ≠ 0 ↔ D v)
theorem rd_set (x : List Int) (a v : Nat) (y : Int) (h : a < x.length) : rd (x.set a y) (v : Int) = if v = a then y else rd x (v : Int) := by
  unfold rd
  rw [Int.toNat_natCast, List.getD_eq_getElem?_getD, List.getD_eq_getElem?_getD, List.getElem?_set]
  by_cases c : a = v
  · subst c; rw [if_pos rfl, if_pos h, if_pos rfl]; rfl
  · rw [if_neg c, if_neg (fun q => c q.symm)]
theorem Fd.congr {n : Nat} {ok : Int → Prop} {D D' : Nat → Prop} {x : List Int} (h : Fd n ok D x) (e : ∀ v, v < n → (D v ↔ D' v)) : Fd n ok D' x := ⟨h.len, h.ok, fun v hv => (h.iff v hv).trans (e v hv)⟩
theorem Fd.set {n : Nat} {ok : Int → Prop} {D D' : Nat → Prop} {x : List Int} (h : Fd n ok D x) {a : Nat} (ha : a < n) {y : Int} (hy : ok y) (hy0 : y ≠ 0) (ha' : D' a) (e : ∀ v, v < n → v ≠ a → (D v ↔ D' v)) : Fd n ok D' (x.set a y) := by
  refine ⟨by rw [List.length_set]; exact h.len, fun v hv => ?_, fun v hv => ?_⟩
  · rw [rd_set _ _ _ _ (by rw [h.len]; exact ha)]
    split
    · exact hy
    · exact h.ok v hv
  · rw [rd_set _ _ _ _ (by rw [h.len]; exact ha)]
    by_cases c : v = a
    · rw [if_pos c]; exact ⟨fun _ => c ▸ ha', fun _ => hy0⟩
    · rw [if_neg c]; exact (h.iff v hv).trans (e v hv c)
/-- Sets of phases. -/
def ph (m : Int) : Prop := ∃ x : Nat, m = x ∧ x < 16 ∧ x % 2 = 0
theorem ph_all : ((List.range 16).all fun x => (List.range 4).all fun p => x % 2 != 0 || p == 0 || (decide (x ||| 2 ^ p < 16) && (x ||| 2 ^ p) % 2 == 0 && x ||| 2 ^ p != 0)) = true := by decide +kernel
theorem ph_or (x : Nat) (hx : x < 16) (p : Nat) (hp : p < 4) (h1 : x % 2 = 0) (h2 : 1 ≤ p) : x ||| 2 ^ p < 16 ∧ (x ||| 2 ^ p) % 2 = 0 ∧ x ||| 2 ^ p ≠ 0 := by
  have h := List.all_eq_true.1 (List.all_eq_true.1 ph_all x (List.mem_range.2 hx)) p (List.mem_range.2 hp)
  rw [Bool.or_eq_true, Bool.or_eq_true, bne_iff_ne, beq_iff_eq, Bool.and_eq_true, Bool.and_eq_true, decide_eq_true_eq, beq_iff_eq, bne_iff_ne] at h
  rcases h with (h | h) | h
  · exact absurd h1 h
  · omega
  · exact ⟨h.1.1, h.1.2, h.2⟩
theorem zeros_fd (n : Nat) {ok : Int → Prop} (h : ok 0) : Fd n ok (fun _ => False) (List.replicate n 0) := by
  have e : ∀ v : Nat, rd (List.replicate n 0) (v : Int) = 0 := fun v => by
    unfold rd
    rw [Int.toNat_natCast, List.getD_eq_getElem?_getD, List.getElem?_replicate]
    split <;> rfl
  exact ⟨List.length_replicate, fun v _ => by rw [e]; exact h, fun v _ => by rw [e]; simp⟩
section
variable {N : Int} {S : List S47} {F : List S49} (o : okG N S F) {st : Nat} (hs : st < 1024)
include o in
theorem fed_l1 {g : Nat} (hg : g < 256) {i : Nat} (hi : i < F.length) : ∀ (d v : Nat) (x : List Int) (D : Nat → Prop), N.toNat - v = d → v ≤ N.toNat → Fd N.toNat ph D x →
    ∃ x', Fd N.toNat ph (fun u => D u ∨ (v ≤ u ∧ g.testBit u = true)) x' ∧ ∀ r, Ev (fun k => feed_grid_fed.l0 k (st : Int) x' F (F.length : Int) ((i + 1 : Nat) : Int) N S F) r → Ev (fun k => feed_grid_fed.l1 k (st : Int) x (g : Int) F (F.length : Int) (i : Int) (N.toNat : Int) (v : Int) N S F ((rd_T49 F (i : Int)).f0) ((rd_T49 F (i : Int)).f1)) r := by
  have h8 := o.n8
  have hF := o.f6
  intro d
  induction d with
  | zero =>
    intro v x D hd hv h
    refine ⟨x, h.congr fun u hu => ⟨.inl, fun z => z.resolve_right fun q => by omega⟩, fun r e => Ev.step (fun k => ?_) e⟩
    rw [feed_grid_fed.l1, if_neg (by omega), wsucc i (by omega)]
  | succ d ih =>
    intro v x D hd hv h
    cases q : g.testBit v with
    | false =>
      obtain ⟨x', h', e'⟩ := ih (v + 1) x D (by omega) (by omega) h
      refine ⟨x', h'.congr fun u hu => or_congr Iff.rfl ⟨fun z => ⟨by omega, z.2⟩, fun z => ⟨?_, z.2⟩⟩, fun r e => Ev.step (fun k => ?_) (e' r e)⟩
      · by_cases c : u = v
        · rw [c, q] at z; exact absurd z.2 (by decide)
        · omega
      · rw [feed_grid_fed.l1, if_pos (by omega), if_pos (by omega), tb_nat (.inr rfl) (by omega) (by omega), q, if_neg (by decide), wsucc v (by omega)]
    | true =>
      obtain ⟨m, hm, hm1, hm2⟩ := h.ok v (by omega)
      have hp := o.hf i hi
      unfold okF at hp
      have po := ph_or m hm1 (rd_T49 F (i : Int)).f1.toNat (by omega) hm2 (by omega)
      have h2 : Fd N.toNat ph (fun u => D u ∨ u = v) (x.set v ((m ||| 2 ^ (rd_T49 F (i : Int)).f1.toNat : Nat) : Int)) := h.set (by omega) ⟨_, rfl, po.1, po.2.1⟩ (by omega) (.inr rfl) (fun u hu c => ⟨.inl, fun z => z.resolve_right c⟩)
      obtain ⟨x', h', e'⟩ := ih (v + 1) _ _ (by omega) (by omega) h2
      refine ⟨x', h'.congr fun u hu => ⟨?_, ?_⟩, fun r e => Ev.step (fun k => ?_) (e' r e)⟩
      · rintro ((z | rfl) | z)
        · exact .inl z
        · exact .inr ⟨by omega, q⟩
        · exact .inr ⟨by omega, z.2⟩
      · rintro (z | z)
        · exact .inl (.inl z)
        · by_cases c : u = v
          · exact .inl (.inr c)
          · exact .inr ⟨by omega, z.2⟩
      · rw [feed_grid_fed.l1, if_pos (by omega), if_pos (by omega), tb_nat (.inr rfl) (by omega) (by omega), q, if_pos rfl, if_pos rfl, if_pos (by have := h.len; omega), if_pos (by omega), wsucc v (by omega), hm, Int.toNat_natCast]
        have e1 : shl .u64 1 ((rd_T49 F (i : Int)).f1) = ((2 ^ (rd_T49 F (i : Int)).f1.toNat : Nat) : Int) := by
          rw [← shl_nat (k := .u64) (.inr rfl) (by omega), Int.toNat_of_nonneg (by omega)]
        have : 2 ^ (rd_T49 F (i : Int)).f1.toNat < 2 ^ 4 := Nat.pow_lt_pow_right (by omega) (by omega)
        rw [e1, or_nat (.inr rfl) (by omega) (by omega)]
include o hs in
theorem fed_l0 : ∀ (d i : Nat) (x : List Int) (D : Nat → Prop), F.length - i = d → i ≤ F.length → Fd N.toNat ph D x →
    ∃ x', Fd N.toNat ph (fun u => D u ∨ ∃ j, i ≤ j ∧ j < F.length ∧ Rch S st (fh F j) u) x' ∧ Ev (fun k => feed_grid_fed.l0 k (st : Int) x F (F.length : Int) (i : Int) N S F) x' := by
  have hF := o.f6
  have h1 := o.n1
  intro d
  induction d with
  | zero =>
    intro i x D hd hi h
    refine ⟨x, h.congr fun u hu => ⟨.inl, fun z => z.resolve_right fun ⟨j, _, _, _⟩ => by omega⟩, ev_some _ fun k => ?_⟩
    rw [feed_grid_fed.l0, if_neg (by omega)]
  | succ d ih =>
    intro i x D hd hi h
    have fe := f_eq o (show i < F.length by omega)
    obtain ⟨g, eg, hg, mg⟩ := group_ev o hs fe.2
    obtain ⟨x1, h1, e1⟩ := fed_l1 (st := st) o hg (show i < F.length by omega) N.toNat 0 x D (by omega) (by omega) h
    obtain ⟨x', h', e'⟩ := ih (i + 1) x1 _ (by omega) (by omega) h1
    refine ⟨x', h'.congr fun u hu => ⟨?_, ?_⟩, Ev.step (fun k => ?_) (Ev.bind (f := fun k t107 => feed_grid_fed.l1 k (st : Int) x t107 F (F.length : Int) (i : Int) (N.toNat : Int) 0 N S F ((rd_T49 F (i : Int)).f0) ((rd_T49 F (i : Int)).f1)) eg (e1 _ e'))⟩
    · rintro ((z | z) | ⟨j, hj, hj2, r⟩)
      · exact .inl z
      · exact .inr ⟨i, by omega, by omega, (mg u).1 z.2⟩
      · exact .inr ⟨j, by omega, hj2, r⟩
    · rintro (z | ⟨j, hj, hj2, r⟩)
      · exact .inl (.inl z)
      · by_cases c : j = i
        · subst c; exact .inl (.inr ⟨by omega, (mg u).2 r⟩)
        · exact .inr ⟨j, by omega, hj2, r⟩
    · rw [feed_grid_fed.l0, if_pos (by omega), if_pos (by omega), if_pos (by omega), fe.1, h.len]
/-- A section is live. -/
def lv (S : List S47) (F : List S49) (st v : Nat) : Prop := ∃ h, home F h ∧ Rch S st h v
include o in
theorem lv_iff (v : Nat) : (False ∨ ∃ j, 0 ≤ j ∧ j < F.length ∧ Rch S st (fh F j) v) ↔ lv S F st v := by
  constructor
  · rintro (z | ⟨j, _, hj, r⟩)
    · exact z.elim
    · exact ⟨_, (home_iff o _).2 ⟨j, hj, rfl⟩, r⟩
  · rintro ⟨h, hh, r⟩
    obtain ⟨j, hj, rfl⟩ := (home_iff o _).1 hh
    exact .inr ⟨j, by omega, hj, r⟩
include o hs in
theorem fed_ev : ∃ x, Ev (fun k => feed_grid_fed.f k N S F (st : Int)) x ∧ Fd N.toNat ph (lv S F st) x := by
  have h1 := o.n1
  have h8 := o.n8
  obtain ⟨x, h, e⟩ := fed_l0 o hs F.length 0 (List.replicate N.toNat 0) _ (by omega) (by omega) (zeros_fd N.toNat ⟨0, rfl, by omega, rfl⟩)
  refine ⟨x, Ev.congr (fun k => ?_) e, h.congr fun v hv => lv_iff o v⟩
  unfold feed_grid_fed.f
  rw [if_pos (by omega), if_pos (by omega)]
  rfl
include o hs in
theorem dead_ev {t : Nat} (ht : t < N.toNat) : ∃ b : Bool, Ev (fun k => feed_grid_dead.f k N S F (st : Int) (t : Int)) b ∧ (b = true ↔ ¬ lv S F st t) := by
  obtain ⟨x, e, h⟩ := fed_ev o hs
  refine ⟨rd x t == 0, Ev.bind e (Ev.congr (fun k => ?_) (Ev.now _)), ?_⟩
  · rw [if_pos (by omega), if_pos (by have := h.len; omega)]
  · rw [beq_iff_eq, ← h.iff t ht, Decidable.not_not]
include o in
theorem live_l1 {g : List Bool} (hg : g.length = N.toNat) {i : Nat} (hi : i < F.length) : ∀ (d v : Nat) (x : List Int) (D : Nat → Prop), N.toNat - v = d → v ≤ N.toNat → Fd N.toNat (fun _ => True) D x →
    ∃ x', Fd N.toNat (fun _ => True) (fun u => D u ∨ (v ≤ u ∧ g.getD u false = true)) x' ∧ ∀ r, Ev (fun k => dropperref05_live.l0 k (st : Int) x' ((i + 1 : Nat) : Int) N S F) r → Ev (fun k => dropperref05_live.l1 k (st : Int) x (i : Int) g (v : Int) N S F) r := by
  have h1 := o.n1
  have h8 := o.n8
  have hF := o.f6
  intro d
  induction d with
  | zero =>
    intro v x D hd hv h
    refine ⟨x, h.congr fun u hu => ⟨.inl, fun z => z.resolve_right fun q => by omega⟩, fun r e => Ev.step (fun k => ?_) e⟩
    rw [dropperref05_live.l1, if_neg (by omega), wsucc i (by omega)]
  | succ d ih =>
    intro v x D hd hv h
    have rdg : rdOf false g (v : Int) = g.getD v false := by unfold rdOf; rw [Int.toNat_natCast]
    have hp := o.hf i hi
    unfold okF at hp
    have grow : ∀ x2, Fd N.toNat (fun _ => True) (fun u => D u ∨ u = v) x2 → g.getD v false = true → ∃ x', Fd N.toNat (fun _ => True) (fun u => D u ∨ (v ≤ u ∧ g.getD u false = true)) x' ∧ ∀ r, Ev (fun k => dropperref05_live.l0 k (st : Int) x' ((i + 1 : Nat) : Int) N S F) r → Ev (fun k => dropperref05_live.l1 k (st : Int) x2 (i : Int) g ((v + 1 : Nat) : Int) N S F) r := fun x2 h2 q => by
      obtain ⟨x', h', e'⟩ := ih (v + 1) x2 _ (by omega) (by omega) h2
      refine ⟨x', h'.congr fun u hu => ⟨?_, ?_⟩, e'⟩
      · rintro ((z | rfl) | z)
        · exact .inl z
        · exact .inr ⟨by omega, q⟩
        · exact .inr ⟨by omega, z.2⟩
      · rintro (z | z)
        · exact .inl (.inl z)
        · by_cases c : u = v
          · exact .inl (.inr c)
          · exact .inr ⟨by omega, z.2⟩
    cases q : g.getD v false with
    | false =>
      obtain ⟨x', h', e'⟩ := ih (v + 1) x D (by omega) (by omega) h
      refine ⟨x', h'.congr fun u hu => or_congr Iff.rfl ⟨fun z => ⟨by omega, z.2⟩, fun z => ⟨?_, z.2⟩⟩, fun r e => Ev.step (fun k => ?_) (e' r e)⟩
      · by_cases c : u = v
        · rw [c, q] at z; exact absurd z.2 (by decide)
        · omega
      · rw [dropperref05_live.l1, if_pos (by omega), if_pos (by omega), if_pos (by omega), if_pos (by omega), if_pos (by omega), rdg, q, if_neg (by decide), wsucc v (by omega)]
    | true =>
      have pre : ∀ k, dropperref05_live.l1 (k + 1) (st : Int) x (i : Int) g (v : Int) N S F = if (rd x (v : Int)) = 0 then (dropperref05_live.l1 k (st : Int) (x.set v ((rd_T49 F (i : Int)).f1)) (i : Int) g ((v + 1 : Nat) : Int) N S F) else (if (rd x (v : Int)) = ((rd_T49 F (i : Int)).f1) then (dropperref05_live.l1 k (st : Int) x (i : Int) g ((v + 1 : Nat) : Int) N S F) else (dropperref05_live.l1 k (st : Int) (x.set v (-1)) (i : Int) g ((v + 1 : Nat) : Int) N S F)) := fun k => by
        rw [dropperref05_live.l1, if_pos (by omega), if_pos (by omega), if_pos (by omega), if_pos (by omega), if_pos (by omega), rdg, q, if_pos rfl, if_pos (by have := h.len; omega), wsucc v (by omega), Int.toNat_natCast]
      by_cases c : rd x (v : Int) = 0
      · obtain ⟨x', h', e'⟩ := grow _ (h.set (by omega) (y := (rd_T49 F (i : Int)).f1) trivial (by omega) (.inr rfl) (fun u hu c => ⟨.inl, fun z => z.resolve_right c⟩)) q
        refine ⟨x', h', fun r e => Ev.step (fun k => ?_) (e' r e)⟩
        rw [pre, if_pos c]
      · have hD := (h.iff v (by omega)).1 c
        by_cases c2 : rd x (v : Int) = (rd_T49 F (i : Int)).f1
        · obtain ⟨x', h', e'⟩ := grow x (h.congr fun u hu => ⟨.inl, fun z => z.elim id fun q => q ▸ hD⟩) q
          refine ⟨x', h', fun r e => Ev.step (fun k => ?_) (e' r e)⟩
          rw [pre, if_neg c, if_pos c2]
        · obtain ⟨x', h', e'⟩ := grow _ (h.set (by omega) (y := -1) trivial (by omega) (.inr rfl) (fun u hu c => ⟨.inl, fun z => z.resolve_right c⟩)) q
          refine ⟨x', h', fun r e => Ev.step (fun k => ?_) (e' r e)⟩
          rw [pre, if_neg c, if_neg c2]
include o hs in
theorem live_l0 : ∀ (d i : Nat) (x : List Int) (D : Nat → Prop), F.length - i = d → i ≤ F.length → Fd N.toNat (fun _ => True) D x →
    ∃ x', Fd N.toNat (fun _ => True) (fun u => D u ∨ ∃ j, i ≤ j ∧ j < F.length ∧ Rch S st (fh F j) u) x' ∧ Ev (fun k => dropperref05_live.l0 k (st : Int) x (i : Int) N S F) x' := by
  have hF := o.f6
  have h1 := o.n1
  intro d
  induction d with
  | zero =>
    intro i x D hd hi h
    refine ⟨x, h.congr fun u hu => ⟨.inl, fun z => z.resolve_right fun ⟨j, _, _, _⟩ => by omega⟩, ev_some _ fun k => ?_⟩
    rw [dropperref05_live.l0, if_neg (by omega)]
  | succ d ih =>
    intro i x D hd hi h
    have fe := f_eq o (show i < F.length by omega)
    obtain ⟨g, eg, hg, mg⟩ := from_ev o hs fe.2
    obtain ⟨x1, h1, e1⟩ := live_l1 (st := st) o hg (show i < F.length by omega) N.toNat 0 x D (by omega) (by omega) h
    obtain ⟨x', h', e'⟩ := ih (i + 1) x1 _ (by omega) (by omega) h1
    refine ⟨x', h'.congr fun u hu => ⟨?_, ?_⟩, Ev.step (fun k => ?_) (Ev.bind (f := fun k t106 => dropperref05_live.l1 k (st : Int) x (i : Int) t106 0 N S F) eg (e1 _ e'))⟩
    · rintro ((z | z) | ⟨j, hj, hj2, r⟩)
      · exact .inl z
      · exact .inr ⟨i, by omega, by omega, (mg u).1 z.2⟩
      · exact .inr ⟨j, by omega, hj2, r⟩
    · rintro (z | ⟨j, hj, hj2, r⟩)
      · exact .inl (.inl z)
      · by_cases c : j = i
        · subst c; exact .inl (.inr ⟨by omega, (mg u).2 r⟩)
        · exact .inr ⟨j, by omega, hj2, r⟩
    · rw [dropperref05_live.l0, if_pos (by omega), if_pos (by omega), fe.1]
include o hs in
theorem rlive_ev : ∃ x, Ev (fun k => dropperref05_live.f k N S F (st : Int)) x ∧ Fd N.toNat (fun _ => True) (lv S F st) x := by
  have h1 := o.n1
  have h8 := o.n8
  obtain ⟨x, h, e⟩ := live_l0 o hs F.length 0 (List.replicate N.toNat 0) _ (by omega) (by omega) (zeros_fd N.toNat trivial)
  refine ⟨x, Ev.congr (fun k => ?_) e, h.congr fun v hv => lv_iff o v⟩
  unfold dropperref05_live.f
  rw [if_pos (by omega), if_pos (by omega)]
  rfl
end
end Go.Proofs.YtbbjonbnmoomlaaDoor.G
end
