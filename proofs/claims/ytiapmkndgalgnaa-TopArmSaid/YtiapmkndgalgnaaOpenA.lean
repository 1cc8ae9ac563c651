/- A slice of pairs of whole numbers, opened to cells. Plain lemmas. -/
import Derived.Test.YtiapmkndgalgnaaOpen
namespace Go.Proofs.Ytiapmkndgalgnaa.Open
open Go.ChangeShapes Go.WideShapes Go.ChangeAt Go.RowKit Go.Joins Go.Deep
open Go.Proofs.Ytiapmkndgalgnaa.G Go.Proofs.YtiapmkndgalgnaaW.PrintWords
set_option linter.unusedVariables false
/-- The cells of a row of pairs of whole numbers. -/
theorem cellsA2 {H : Type} {enc : TypeId × Value → H} {P : Program} {w : World} {base : Nat} {spare : Nat → Bool} {held : Bool} {t e g : TypeId} {A : Option Addr} {len cap : Nat} {d : DataW H} {pl : List MemPlace} (ht : P.underlying t = some (.slice e)) (he : P.underlying e = some (.array 2 g))
    (h0 : P.underlying g = some (.int .i64)) (hcf : P.cellsOf g = 1) (hC : P.cellsOf e = 2) (h : DataW.Trod enc P w base spare held t (.slice A len cap) d pl) :
    len ≤ cap ∧ cap ≤ maxLen ∧ ((A = none ∧ len = 0) ∨ ∃ ad, A = some ad ∧ ∃ f : Nat → Int × Int, ∀ i, i < len →
      w.cell? (ad.add (i * 2 + 0)) = some (.int .i64 (f i).1) ∧ w.cell? (ad.add (i * 2 + 1)) = some (.int .i64 (f i).2) ∧
      (Lit.int .i64 (f i).1).wf = true ∧ (Lit.int .i64 (f i).2).wf = true) := by
  obtain ⟨fuel, hf⟩ := h
  rcases open_slice ht hf with ⟨hcs, _⟩ | ⟨a, l, c, m, n, D, Pl, hcs, _, hl, hm, hmm, _, hi⟩
  · simp [Value.cells] at hcs
    obtain ⟨rfl, rfl, rfl⟩ := hcs
    exact ⟨by omega, by simp [maxLen], .inl ⟨rfl, rfl⟩⟩
  · simp [Value.cells] at hcs
    obtain ⟨rfl, rfl, rfl⟩ := hcs
    have hlm : len ≤ m := by rw [hmm]; split <;> omega
    refine ⟨hl, hm, .inr ⟨a, rfl, ?_⟩⟩
    have key : ∀ i, ∃ z : Int × Int, i < len → w.cell? (a.add (i * 2 + 0)) = some (.int .i64 z.1) ∧ w.cell? (a.add (i * 2 + 1)) = some (.int .i64 z.2) ∧
        (Lit.int .i64 z.1).wf = true ∧ (Lit.int .i64 z.2).wf = true := by
      intro i
      by_cases hil : i < len
      · obtain ⟨cs', hc, ht'⟩ := hi i (by omega)
        rw [hC] at hc
        obtain ⟨_, hcl, hat⟩ := World.cells?_some hc
        obtain ⟨xs, m', _, _, _, hxl, hxi⟩ := DataW.trod_array he ht'
        obtain ⟨n0, e0, w0⟩ := array_cell h0 hcf hxl hxi 0 (by omega)
        obtain ⟨n1, e1, w1⟩ := array_cell h0 hcf hxl hxi 1 (by omega)
        have c0 := hat 0 (by omega)
        have c1 := hat 1 (by omega)
        match cs', hcl, e0, e1, c0, c1 with
        | [x0, x1], _, e0, e1, c0, c1 =>
          obtain rfl := (List.cons.inj e0).1
          obtain rfl := (List.cons.inj e1).1
          rw [Go.Deep.add_add] at c0 c1
          exact ⟨(n0, n1), fun _ => ⟨c0, c1, w0, w1⟩⟩
      · exact ⟨(0, 0), fun h => absurd h hil⟩
    exact ⟨fun i => Classical.choose (key i), fun i hil => Classical.choose_spec (key i) hil⟩
/-- A slice of pairs reads as a list. -/
theorem open_84_C {H : Type} {enc : TypeId × Value → H} {w : World} {base : Nat} {spare : Nat → Bool} {held : Bool} {t : TypeId} {A : Option Addr} {len cap : Nat} {d : DataW H} {pl : List MemPlace} (ht : Try.prog.underlying t = some (.slice 84))
    (h : DataW.Trod enc Try.prog w base spare held t (.slice A len cap) d pl) :
    ∃ l : List S84, l.length = len ∧ Kd.C k84 w A len l ∧ len ≤ cap ∧ ∀ x ∈ l, (Lit.int .i64 x.f0).wf = true ∧ (Lit.int .i64 x.f1).wf = true := by
  obtain ⟨hl, hm, hc⟩ := cellsA2 ht Try.underlying84 Try.underlying3 (by kernel_rfl) (by kernel_rfl) h
  rcases hc with ⟨rfl, rfl⟩ | ⟨ad, rfl, f, hf⟩
  · exact ⟨[], rfl, ⟨rfl, by omega, fun h => absurd h (by omega)⟩, hl, by simp⟩
  · refine ⟨(List.range len).map fun i => ⟨(f i).1, (f i).2⟩, by simp, ⟨by simp, by unfold maxLen at hm; omega, fun _ => ⟨ad, rfl, ?_⟩⟩, hl, ?_⟩
    · intro j p hp
      rw [List.getElem?_map, Option.map_eq_some_iff] at hp
      obtain ⟨i, hi, rfl⟩ := hp
      have hjl : j < len := by
        have := (List.getElem?_eq_some_iff.1 hi).1
        simpa using this
      obtain rfl : j = i := by
        rw [List.getElem?_eq_getElem (by simpa using hjl), List.getElem_range] at hi
        exact Option.some.inj hi
      obtain ⟨c0, c1, _⟩ := hf j hjl
      refine ⟨[.int .i64 (f j).1, .int .i64 (f j).2], rfl, k84_mk w _, ?_⟩
      intro i u hu
      match i, hu with
      | 0, hu => simp at hu; subst hu; exact c0
      | 1, hu => simp at hu; subst hu; exact c1
      | i + 2, hu => simp at hu
    · intro x hx
      rw [List.mem_map] at hx
      obtain ⟨i, hi, rfl⟩ := hx
      have hil : i < len := by simpa using hi
      exact (hf i hil).2.2
end Go.Proofs.Ytiapmkndgalgnaa.Open
