/- The two sweeps over bounds come to what all windows ask of each one. Plain Lean. -/
import Derived.Test.YtciepmpadcpkbaaPBase
import Derived.Test.YtciepmpadcpkbaaGF58
import Derived.Test.YtciepmpadcpkbaaGF59
import Derived.Test.YtciepmpadcpkbaaGF60
namespace Go.Proofs.Ytciepmpadcpkbaa.G
set_option linter.unusedVariables false
set_option linter.unusedSimpArgs false
open Go.RowKit Go.Proofs.YtciepmpadcpkbaaW.PrintWords Go.Proofs.YtciepmpadcpkbaaW.PrintLast

/-- What m windows ask of the window at i. -/
def gM (b : Nat → Int) (l : List S72) (r n : Int) (i : Nat) : Nat → Int
  | 0 => b i
  | m + 1 => max (gM b l r n i m) (b m - dst l r n i m)
theorem gM_char (b : Nat → Int) (l : List S72) (r n : Int) (i : Nat) : ∀ m, (∀ k, k < m → b k - dst l r n i k ≤ gM b l r n i m) ∧ b i ≤ gM b l r n i m ∧ (gM b l r n i m ≤ b i ∨ ∃ k, k < m ∧ gM b l r n i m ≤ b k - dst l r n i k)
  | 0 => ⟨fun k hk => by omega, by simp [gM], .inl (by simp [gM])⟩
  | m + 1 => by
    obtain ⟨h1, h2, h3⟩ := gM_char b l r n i m
    rw [gM]
    refine ⟨fun k hk => ?_, by omega, ?_⟩
    · by_cases e : k = m
      · subst e; omega
      · have := h1 k (by omega); omega
    · by_cases c : gM b l r n i m ≤ b m - dst l r n i m
      · exact .inr ⟨m, by omega, by omega⟩
      · rcases h3 with h | ⟨k, hk, h⟩
        · exact .inl (by omega)
        · exact .inr ⟨k, by omega, by omega⟩
theorem gM_uniq {b : Nat → Int} {l : List S72} {r n : Int} {i : Nat} (hi : i < l.length) {x : Int} (h1 : ∀ k, k < l.length → b k - dst l r n i k ≤ x) (h2 : ∃ k, k < l.length ∧ x ≤ b k - dst l r n i k) : gM b l r n i l.length = x := by
  obtain ⟨g1, g2, g3⟩ := gM_char b l r n i l.length
  obtain ⟨k, hk, h2⟩ := h2
  have a := g1 k hk
  have e := h1 i hi
  rw [dst_self] at e
  rcases g3 with h | ⟨k', hk', h⟩
  · omega
  · have := h1 k' hk'
    omega
/-- The sweep forward. -/
def fw (b : Nat → Int) (l : List S72) (r n : Int) : Nat → Int
  | 0 => b 0
  | i + 1 => max (b (i + 1)) (fw b l r n i - stp l r n i)
theorem fw_char {l : List S72} (h : okV l) {r n : Int} (hs : slope r n) (b : Nat → Int) : ∀ {i : Nat}, i < l.length → (∀ k, k ≤ i → b k - (pre l r n i - pre l r n k) ≤ fw b l r n i) ∧ ∃ k, k ≤ i ∧ fw b l r n i = b k - (pre l r n i - pre l r n k)
  | 0, _ => ⟨fun k hk => by
      obtain rfl : k = 0 := by omega
      simp [fw], 0, by omega, by simp [fw]⟩
  | i + 1, hi => by
    obtain ⟨h1, k, hk, h2⟩ := fw_char h hs b (i := i) (by omega)
    have s := (stp_bd h hs hi).1
    have p : pre l r n (i + 1) = pre l r n i + stp l r n i := rfl
    rw [fw]
    refine ⟨fun j hj => ?_, ?_⟩
    · by_cases e : j = i + 1
      · subst e; omega
      · have := h1 j (by omega); omega
    · by_cases c : b (i + 1) ≤ fw b l r n i - stp l r n i
      · exact ⟨k, by omega, by omega⟩
      · exact ⟨i + 1, by omega, by omega⟩
theorem gM_last {l : List S72} (h : okV l) {r n : Int} (hs : slope r n) (b : Nat → Int) {m : Nat} (hm : m + 1 = l.length) : gM b l r n m l.length = fw b l r n m := by
  obtain ⟨h1, k, hk, h2⟩ := fw_char h hs b (i := m) (by omega)
  refine gM_uniq (by omega) (fun j hj => ?_) ⟨k, by omega, ?_⟩
  · rw [dst_comm, dst_le h hs (by omega) (by omega)]
    exact h1 j (by omega)
  · rw [dst_comm, dst_le h hs (by omega) (by omega), h2]
    omega
theorem gM_step {l : List S72} (h : okV l) {r n : Int} (hs : slope r n) (b : Nat → Int) {j : Nat} (hj : j + 1 < l.length) : gM b l r n j l.length = max (fw b l r n j) (gM b l r n (j + 1) l.length - stp l r n j) := by
  obtain ⟨h1, k, hk, h2⟩ := fw_char h hs b (i := j) (by omega)
  obtain ⟨g1, g2, g3⟩ := gM_char b l r n (j + 1) l.length
  have s := (stp_bd h hs hj).1
  have p : pre l r n (j + 1) = pre l r n j + stp l r n j := rfl
  refine gM_uniq (by omega) (fun i hi => ?_) ?_
  · by_cases c : i ≤ j
    · rw [dst_comm, dst_le h hs c (by omega)]
      have := h1 i c
      omega
    · have a := g1 i hi
      rw [dst_le h hs (by omega) hi] at a ⊢
      omega
  · by_cases c : gM b l r n (j + 1) l.length - stp l r n j ≤ fw b l r n j
    · refine ⟨k, by omega, ?_⟩
      rw [dst_comm, dst_le h hs hk (by omega)]
      omega
    · have key : ∃ i, i < l.length ∧ gM b l r n (j + 1) l.length ≤ b i - dst l r n (j + 1) i := by
        rcases g3 with g | ⟨i, hi, g⟩
        · exact ⟨j + 1, hj, by rw [dst_self]; omega⟩
        · exact ⟨i, hi, g⟩
      obtain ⟨i, hi, g⟩ := key
      by_cases e : i ≤ j
      · exfalso
        have := h1 i e
        rw [dst_comm, dst_le h hs (show i ≤ j + 1 by omega) hj] at g
        omega
      · refine ⟨i, hi, ?_⟩
        rw [dst_le h hs (by omega) hi] at g ⊢
        omega
theorem fw_bd {l : List S72} (h : okV l) {r n : Int} (hs : slope r n) {b : Nat → Int} (hb : ∀ k, k < l.length → -10000 ≤ b k ∧ b k ≤ 10000) {i : Nat} (hi : i < l.length) : -10000 ≤ fw b l r n i ∧ fw b l r n i ≤ 10000 := by
  obtain ⟨h1, k, hk, h2⟩ := fw_char h hs b hi
  have a := h1 i (by omega)
  have e := pre_mono h hs hk hi
  have := hb k (by omega)
  have := hb i hi
  omega
theorem gM_bd {l : List S72} (h : okV l) {r n : Int} (hs : slope r n) {b : Nat → Int} (hb : ∀ k, k < l.length → -10000 ≤ b k ∧ b k ≤ 10000) {i : Nat} (hi : i < l.length) : -10000 ≤ gM b l r n i l.length ∧ gM b l r n i l.length ≤ 10000 := by
  obtain ⟨g1, g2, g3⟩ := gM_char b l r n i l.length
  have := hb i hi
  rcases g3 with g | ⟨k, hk, g⟩
  · omega
  · have := hb k hk
    have := dst_bd h hs hi hk
    omega
/-- What all windows ask, as a list. -/
def gL (b : Nat → Int) (l : List S72) (r n : Int) : List Int := (List.range l.length).map fun i => gM b l r n i l.length
theorem gL_len (b : Nat → Int) (l : List S72) (r n : Int) : (gL b l r n).length = l.length := by simp [gL]
theorem rd_gL (b : Nat → Int) (l : List S72) (r n : Int) {i : Nat} (h : i < l.length) : rd (gL b l r n) (i : Int) = gM b l r n i l.length := rd_map _ h

theorem back_loop {l : List S72} (h : okV l) {r n : Int} (hs : slope r n) {b : Nat → Int} (hb : ∀ k, k < l.length → -10000 ≤ b k ∧ b k ≤ 10000) : ∀ (d : Nat) (x : List Int), d + 1 ≤ l.length → x.length = l.length → (∀ j, d ≤ j → j < l.length → rd x (j : Int) = gM b l r n j l.length) → (∀ j, j < d → rd x (j : Int) = fw b l r n j) →
    Ev (fun k => wire_places_lowest.l1 k (plc l r n) x ((d : Int) - 1)) (gL b l r n) := by
  intro d
  induction d with
  | zero =>
    intro x hd hx h1 h2
    refine ev_some _ fun k => ?_
    rw [wire_places_lowest.l1, if_neg (by omega)]
    congr 1
    exact rd_ext hx fun i hi => h1 i (by omega) hi
  | succ d ih =>
    intro x hd hx h1 h2
    have hl30 := h.1.2
    have b1 := gM_bd h hs hb (i := d + 1) (by omega)
    have b2 := stp_bd h hs (i := d) (by omega)
    have e0 : dst l r n d (d + 1) = stp l r n d := by rw [dst_le h hs (by omega) (by omega), pre]; omega
    have e := ih (x.set d (gM b l r n d l.length)) (by omega) (by rw [List.length_set]; exact hx) (fun j hj hj2 => by
        rw [rd_set x _ (by omega) (by omega)]
        by_cases q : j = d
        · rw [if_pos q, q]
        · rw [if_neg q]; exact h1 j (by omega) hj2) (fun j hj => by
        rw [rd_set x _ (by omega) (by omega), if_neg (by omega)]
        exact h2 j (by omega))
    refine Ev.step (fun k => ?_) e
    have q0 : (((d + 1 : Nat) : Int) - 1) = (d : Int) := by omega
    rw [q0, wire_places_lowest.l1, wsucc d (by omega), if_pos (by omega), if_pos (by omega), if_pos (by omega), if_pos (by omega), if_pos (by omega), to_some h hs (by omega) (by omega), e0]
    simp only [Option.bind_some]
    rw [h1 (d + 1) (by omega) (by omega), h2 d (by omega), w64 (n := gM b l r n (d + 1) l.length - stp l r n d) (by omega) (by omega), w64 (n := (d : Int) - 1) (by omega) (by omega), mx_eq, ← gM_step h hs b (by omega)]
    rfl
theorem front_loop {l : List S72} (h : okV l) {r n : Int} (hs : slope r n) {b : Nat → Int} (hb : ∀ k, k < l.length → -10000 ≤ b k ∧ b k ≤ 10000) : ∀ (d i : Nat) (x : List Int), l.length - i = d → 1 ≤ i → i ≤ l.length → x.length = l.length → (∀ j, j < i → rd x (j : Int) = fw b l r n j) → (∀ j, i ≤ j → j < l.length → rd x (j : Int) = b j) →
    Ev (fun k => wire_places_lowest.l0 k (plc l r n) x i) (gL b l r n) := by
  intro d
  induction d with
  | zero =>
    intro i x hd hi1 hi hx h1 h2
    obtain rfl : i = l.length := by omega
    have hl30 := h.1.2
    refine Ev.step (fun k => ?_) (back_loop h hs hb (l.length - 1) x (by omega) hx (fun j hj hj2 => ?_) (fun j hj => h1 j (by omega)))
    · rw [wire_places_lowest.l0, hx, if_neg (by omega), w64 (by omega) (by omega)]
      congr 1
      omega
    · obtain rfl : j = l.length - 1 := by omega
      rw [h1 _ hj2, gM_last h hs b (by omega)]
  | succ d ih =>
    intro i x hd hi1 hi hx h1 h2
    obtain ⟨j, rfl⟩ : ∃ j, i = j + 1 := ⟨i - 1, by omega⟩
    have hlt : j + 1 < l.length := by omega
    have hl30 := h.1.2
    have b1 := fw_bd h hs hb (i := j) (by omega)
    have b2 := stp_bd h hs (i := j) (by omega)
    have e0 : dst l r n (j + 1) j = stp l r n j := by rw [dst_comm, dst_le h hs (by omega) (by omega), pre]; omega
    have e := ih (j + 1 + 1) (x.set (j + 1) (fw b l r n (j + 1))) (by omega) (by omega) (by omega) (by rw [List.length_set]; exact hx) (fun m hm => by
        rw [rd_set x _ (by omega) (by omega)]
        by_cases q : m = j + 1
        · rw [if_pos q, q]
        · rw [if_neg q]; exact h1 m (by omega)) (fun m hm hm2 => by
        rw [rd_set x _ (by omega) (by omega), if_neg (by omega)]
        exact h2 m (by omega) hm2)
    refine Ev.step (fun k => ?_) e
    rw [wire_places_lowest.l0, wpred j (by omega), if_pos (by omega), if_pos (by omega), if_pos (by omega), if_pos (by omega), to_some h hs (by omega) (by omega), e0]
    simp only [Option.bind_some]
    rw [h1 j (by omega), h2 (j + 1) (by omega) hlt, w64 (n := fw b l r n j - stp l r n j) (by omega) (by omega), mx_eq, wsucc (j + 1) (by omega)]
    rfl
theorem lowest_ev' {l : List S72} (h : okV l) {r n : Int} (hs : slope r n) {b : Nat → Int} (hb : ∀ k, k < l.length → -10000 ≤ b k ∧ b k ≤ 10000) {x : List Int} (hx : x.length = l.length) (hxb : ∀ j, j < l.length → rd x (j : Int) = b j) :
    Ev (fun k => wire_places_lowest.f k (plc l r n) x) (gL b l r n) := by
  have hl := h.1
  refine Ev.congr (fun k => ?_) (front_loop h hs hb (l.length - 1) 1 x (by omega) (by omega) (by omega) hx (fun j hj => by
    obtain rfl : j = 0 := by omega
    rw [hxb 0 (by omega), fw]) (fun j hj hj2 => hxb j hj2))
  unfold wire_places_lowest.f slices_Clone_int_int.f
  simp only [Option.bind_some, List.nil_append, List.length_nil, Nat.zero_add]
  rw [if_pos (by omega)]
  rfl

/-- The lows of windows. -/
def loL (l : List S72) : List Int := (List.range l.length).map fun i => (wn l i).f1
theorem lows_loop {l : List S72} (hl : l.length ≤ 50) : ∀ (d i : Nat) (x : List Int), l.length - i = d → i ≤ l.length → x.length = i → (∀ j, j < i → rd x (j : Int) = (wn l j).f1) → Ev (fun k => wire_lows.l0 k x l l.length i) (loL l) := by
  intro d
  induction d with
  | zero =>
    intro i x hd hi hx h1
    obtain rfl : i = l.length := by omega
    refine ev_some _ fun k => ?_
    rw [wire_lows.l0, if_neg (by omega)]
    congr 1
    exact rd_ext hx h1
  | succ d ih =>
    intro i x hd hi hx h1
    have e := ih (i + 1) (x ++ [(wn l i).f1]) (by omega) (by omega) (by simp [hx]) (fun j hj => by
      by_cases q : j = i
      · subst q
        simp [rd, List.getD_eq_getElem?_getD, ← hx]
      · rw [← h1 j (by omega)]
        simp only [rd, List.getD_eq_getElem?_getD, Int.toNat_natCast]
        rw [List.getElem?_append_left (by omega)])
    refine Ev.step (fun k => ?_) e
    rw [wire_lows.l0, if_pos (by omega), if_pos (by omega), if_pos (by omega), if_pos (by omega), wsucc i (by omega)]
theorem lows_ev {l : List S72} (hl : l.length ≤ 50) : Ev (fun k => wire_lows.f k l) (loL l) := lows_loop hl l.length 0 [] (by omega) (by omega) rfl (by omega)
theorem loL_len (l : List S72) : (loL l).length = l.length := by simp [loL]
theorem rd_loL (l : List S72) {i : Nat} (h : i < l.length) : rd (loL l) (i : Int) = (wn l i).f1 := rd_map _ h

/-- Heights are nowhere above the windows. -/
def undr (l : List S72) (x : List Int) : Prop := ∀ i, i < l.length → rd x (i : Int) ≤ (wn l i).f2
open Classical in
theorem under_loop {l : List S72} (hl : l.length ≤ 50) {x : List Int} (hx : x.length = l.length) : ∀ (d i : Nat), l.length - i = d → i ≤ l.length → (∀ j, j < i → rd x (j : Int) ≤ (wn l j).f2) → Ev (fun k => wire_under.l0 k l x l.length i) (decide (undr l x)) := by
  intro d
  induction d with
  | zero =>
    intro i hd hi h1
    obtain rfl : i = l.length := by omega
    refine ev_some _ fun k => ?_
    rw [wire_under.l0, if_neg (by omega), decide_eq_true (show undr l x from h1)]
  | succ d ih =>
    intro i hd hi h1
    by_cases c : rd x (i : Int) ≤ (wn l i).f2
    · refine Ev.step (fun k => ?_) (ih (i + 1) (by omega) (by omega) (fun j hj => if q : j = i then q ▸ c else h1 j (by omega)))
      rw [wire_under.l0, if_pos (by omega), if_pos (by omega), if_pos (by omega), if_pos (by omega), if_neg (Int.not_lt.2 c), wsucc i (by omega)]
    · refine ev_some _ fun k => ?_
      rw [wire_under.l0, if_pos (by omega), if_pos (by omega), if_pos (by omega), if_pos (by omega), if_pos (Int.not_le.1 c), decide_eq_false (fun z => c (z i (by omega)))]
open Classical in
theorem under_ev {l : List S72} (hl : l.length ≤ 50) {x : List Int} (hx : x.length = l.length) : Ev (fun k => wire_under.f k l x) (decide (undr l x)) := by
  refine Ev.congr (fun k => ?_) (under_loop hl hx l.length 0 (by omega) (by omega) (by omega))
  unfold wire_under.f
  rw [hx]
  rfl
end Go.Proofs.Ytciepmpadcpkbaa.G
