/- The law WireSags of the printed functions. Plain Lean. -/
import Derived.Test.YtciepmpadcpkbaaRat
import Derived.Test.YtciepmpadcpkbaaGF7
namespace Go.Proofs.Ytciepmpadcpkbaa.G
set_option linter.unusedVariables false
open Go.RowKit Go.Proofs.YtciepmpadcpkbaaW.PrintWords Go.Proofs.YtciepmpadcpkbaaW.PrintLast
open Rat (divInt)

theorem awake_ev : Ev (fun k => dropperlaw02_Awake.f k) true := Ev.of (fun k => dropperlaw02_Awake.mono k) (k := 40) (by decide +kernel)
/-- A weight, a span and a pull in range. -/
def okM (w s p : Int) : Prop := 1 ≤ w ∧ w ≤ 1000 ∧ 1 ≤ s ∧ s ≤ 100 ∧ 1 ≤ p ∧ p ≤ 1000000
instance (w s p : Int) : Decidable (okM w s p) := by unfold okM; infer_instance
theorem messenger_some (w s p : Int) : wire_messenger.f w s p = some (decide (okM w s p)) := by
  unfold wire_messenger.f
  simp only [within_some]
  by_cases c1 : 1 ≤ w ∧ w ≤ 1000
  · rw [decide_eq_true c1]
    simp only [Option.bind_some, if_true]
    by_cases c2 : 1 ≤ s ∧ s ≤ 100
    · rw [decide_eq_true c2]
      simp only [if_true]
      exact congrArg some (decide_eq_decide.2 ⟨fun z => ⟨c1.1, c1.2, c2.1, c2.2, z.1, z.2⟩, fun z => ⟨z.2.2.2.2.1, z.2.2.2.2.2⟩⟩)
    · rw [decide_eq_false c2]
      simp only [Bool.false_eq_true, if_false]
      rw [decide_eq_false (fun z => c2 ⟨z.2.2.1, z.2.2.2.1⟩)]
  · rw [decide_eq_false c1]
    simp only [Option.bind_some, Bool.false_eq_true, if_false]
    rw [decide_eq_false (fun z => c1 ⟨z.1, z.2.1⟩)]
theorem loaded_same (w s p : Int) : dropperref02_loaded.f w s p = wire_messenger.f w s p := by
  unfold dropperref02_loaded.f wire_messenger.f
  simp only [within_some, from_some]

theorem sag_same (k : Nat) (w s p : Int) : dropperref02_Sag.f k w s p = wire_Sag.f k w s p := by
  unfold dropperref02_Sag.f wire_Sag.f
  simp only [loaded_same, ratio_same]
theorem drop_same (k : Nat) (w s p x : Int) : dropperref02_Drop.f k w s p x = wire_Drop.f k w s p x := by
  unfold dropperref02_Drop.f wire_Drop.f
  simp only [loaded_same, ratio_same, within_some, from_some]

theorem sag_bd {w s p : Int} (h : okM w s p) : wrap64 (wrap64 (w * s) * s) = w * s * s ∧ 0 ≤ w * s * s ∧ w * s * s ≤ 10000000 ∧ wrap64 (8 * p) = 8 * p ∧ wrap64 (2 * p) = 2 * p := by
  obtain ⟨h1, h2, h3, h4, h5, h6⟩ := h
  have m1 := mul_bd (a := w) (b := s) (A := 1000) (B := 100) (by omega) (by omega)
  have n1 : 0 ≤ w * s := Int.mul_nonneg (by omega) (by omega)
  have m2 := mul_bd (a := w * s) (b := s) (A := 100000) (B := 100) (by omega) (by omega)
  have n2 : 0 ≤ w * s * s := Int.mul_nonneg n1 (by omega)
  rw [w64 (n := w * s) (by omega) (by omega), w64 (n := w * s * s) (by omega) (by omega), w64 (n := 8 * p) (by omega) (by omega), w64 (n := 2 * p) (by omega) (by omega)]
  omega
def sagR (w s p : Int) : Int × Int × Int := if okM w s p then ((divInt (w * s * s) (8 * p)).num, ((divInt (w * s * s) (8 * p)).den : Int), 0) else (0, 0, 2)
theorem sag_ev (w s p : Int) : Ev (fun k => wire_Sag.f k w s p) (sagR w s p) := by
  unfold sagR
  by_cases h : okM w s p
  · obtain ⟨e1, e2, e3, e4, _⟩ := sag_bd h
    obtain ⟨K, hK⟩ := lowest_ev (w * s * s) (8 * p) (by omega) (by omega) (by have := h.2.2.2.2.1; omega) (by have := h.2.2.2.2.2; omega)
    refine ⟨K, fun k hk => ?_⟩
    have := hK k hk
    dsimp only at this ⊢
    unfold wire_Sag.f
    rw [messenger_some, decide_eq_true h, e1, e4, if_pos h]
    simp only [Option.bind_some, if_true]
    rw [this]
    rfl
  · refine Ev.congr (fun k => ?_) (Ev.now _)
    unfold wire_Sag.f
    rw [messenger_some, decide_eq_false h, if_neg h]
    rfl
theorem drop_bd {w s p x : Int} (h : okM w s p) (hx : 0 ≤ x) (hx2 : x ≤ s) : wrap64 (wrap64 (w * x) * wrap64 (s - x)) = w * x * (s - x) ∧ 0 ≤ w * x * (s - x) ∧ w * x * (s - x) ≤ 10000000 := by
  obtain ⟨h1, h2, h3, h4, h5, h6⟩ := h
  have m1 := mul_bd (a := w) (b := x) (A := 1000) (B := 100) (by omega) (by omega)
  have n1 : 0 ≤ w * x := Int.mul_nonneg (by omega) (by omega)
  have m2 := mul_bd (a := w * x) (b := s - x) (A := 100000) (B := 100) (by omega) (by omega)
  have n2 : 0 ≤ w * x * (s - x) := Int.mul_nonneg n1 (by omega)
  rw [w64 (n := w * x) (by omega) (by omega), w64 (n := s - x) (by omega) (by omega), w64 (by omega) (by omega)]
  omega
def dropR (w s p x : Int) : Int × Int × Int := if okM w s p ∧ 0 ≤ x ∧ x ≤ s then ((divInt (w * x * (s - x)) (2 * p)).num, ((divInt (w * x * (s - x)) (2 * p)).den : Int), 0) else (0, 0, 2)
theorem drop_ev (w s p x : Int) : Ev (fun k => wire_Drop.f k w s p x) (dropR w s p x) := by
  unfold dropR
  by_cases h : okM w s p
  · by_cases c : 0 ≤ x ∧ x ≤ s
    · obtain ⟨e1, e2, e3⟩ := drop_bd h c.1 c.2
      obtain ⟨_, _, _, _, e4⟩ := sag_bd h
      obtain ⟨K, hK⟩ := lowest_ev (w * x * (s - x)) (2 * p) (by omega) (by omega) (by have := h.2.2.2.2.1; omega) (by have := h.2.2.2.2.2; omega)
      refine ⟨K, fun k hk => ?_⟩
      have := hK k hk
      dsimp only at this ⊢
      unfold wire_Drop.f
      rw [messenger_some, decide_eq_true h, within_some, decide_eq_true c, e1, e4, if_pos ⟨h, c⟩]
      simp only [Option.bind_some, if_true]
      rw [this]
      rfl
    · refine Ev.congr (fun k => ?_) (Ev.now _)
      unfold wire_Drop.f
      rw [messenger_some, decide_eq_true h, within_some, decide_eq_false c, if_neg (fun z => c z.2)]
      rfl
  · refine Ev.congr (fun k => ?_) (Ev.now _)
    unfold wire_Drop.f
    rw [messenger_some, decide_eq_false h, if_neg (fun z => h z.1)]
    rfl
end Go.Proofs.Ytciepmpadcpkbaa.G
