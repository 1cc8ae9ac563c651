/- Arguments opened to cells: slices of structs and of arrays of whole numbers, structs and arrays of whole numbers by value. Plain lemmas. -/
import Derived.Test.YtbbjonbnmoomlaaDoorGBase
import Derived.ProofKit
import Derived.OpenShut
import Derived.ChangeOld
import Derived.SizedLaws
import Derived.Deep.Slices
import Derived.Deep.Fields
import Derived.ChangeSame
import Derived.Lib.SmallJoins
namespace Go.Proofs.YtbbjonbnmoomlaaDoor.Open
open Go.ChangeShapes Go.WideShapes Go.ChangeAt Go.RowKit Go.Joins Go.Deep
open Go.Proofs.YtbbjonbnmoomlaaDoor.G Go.Proofs.YtbbjonbnmoomlaaDoorW.PrintWords
set_option linter.unusedVariables false
section
variable {H : Type} {enc : TypeId × Value → H} {P : Program} {w : World} {base : Nat} {spare : Nat → Bool} {held : Bool}
theorem open_slice_fields {t e : TypeId} {fs : Array Field} {fuel : Nat} {cs : List Value} {x : DataW H × List MemPlace} (ht : P.underlying t = some (.slice e)) (he : P.underlying e = some (.struct fs))
    (hone : oneCellFields P fs = true) (hC : P.cellsOf e = fs.size) (h : DataW.trod enc P w base spare held fuel t cs = some x) :
    (cs = [.slice none 0 0] ∧ x = (.nil, [])) ∨
    ∃ (a : Addr) (len cap m : Nat) (D : Nat → DataW H) (Pl : Nat → List MemPlace), cs = [.slice (some a) len cap] ∧ base ≤ a.block ∧ len ≤ cap ∧ cap ≤ maxLen ∧ m = (if spare a.block then cap else len) ∧
      x = (.slice ((List.range len).map D) ((List.range (m - len)).map fun j => D (len + j)), MemPlace.row a (m * fs.size) ++ (List.range m).flatMap Pl) ∧
      ∀ i, i < m → ∃ (ys : List (DataW H × List MemPlace)) (n : Nat), D i = .agg (ys.map (·.1)) ∧ Pl i = ys.flatMap (·.2) ∧ ys.length = fs.size ∧
        ∀ (j : Nat) (f : Field), fs[j]? = some f → ∃ (v : Value) (y : DataW H × List MemPlace), w.cell? (a.add (i * fs.size + j)) = some v ∧ ys[j]? = some y ∧ DataW.trod enc P w base spare held n f.type [v] = some y := by
  rcases open_slice ht h with h0 | ⟨a, len, cap, m, n, D, Pl, hcs, hb, hl, hm, hmm, hx, hi⟩
  · exact .inl h0
  · refine .inr ⟨a, len, cap, m, D, Pl, hcs, hb, hl, hm, hmm, by rw [hC] at hx; exact hx, fun i him => ?_⟩
    obtain ⟨cs', hc, ht'⟩ := hi i him
    rw [hC] at hc
    obtain ⟨ys, n', hn', hy, hlen, hyl, hf⟩ := DataW.trod_struct he ht'
    obtain ⟨_, hcl, hat⟩ := World.cells?_some hc
    simp only [Prod.mk.injEq] at hy
    refine ⟨ys, n', hy.1, hy.2, hyl, fun j f hj => ?_⟩
    obtain ⟨ho, hk⟩ := hone_of hone j f hj
    have hjl : j < fs.size := (Array.getElem?_eq_some_iff.1 hj).1
    have hcell := hat j hjl
    have hv : cs'[j]? = some (cs'[j]'(by omega)) := List.getElem?_eq_getElem (by omega)
    have h1 := hf j f hj
    rw [ho, hk] at h1
    have hone' : (cs'.drop j).take 1 = [cs'[j]'(by omega)] := by
      rw [List.drop_eq_getElem_cons (by omega)]
      rfl
    rw [hone'] at h1
    have hys : ys[j]? = some (ys[j]'(by omega)) := List.getElem?_eq_getElem (by omega)
    refine ⟨_, _, ?_, hys, h1.trans hys⟩
    rw [← Go.Deep.add_add, hcell, hv]
/-- The cells of a row of structs of two whole numbers. -/
theorem cells2 {t e : TypeId} {f0 f1 : Field} {A : Option Addr} {len cap : Nat} {d : DataW H} {pl : List MemPlace} (ht : P.underlying t = some (.slice e)) (he : P.underlying e = some (.struct #[f0, f1]))
    (h0 : P.underlying f0.type = some (.int .i64)) (h1 : P.underlying f1.type = some (.int .i64))
    (hone : oneCellFields P #[f0, f1] = true) (hC : P.cellsOf e = 2) (h : DataW.Trod enc P w base spare held t (.slice A len cap) d pl) :
    len ≤ cap ∧ cap ≤ maxLen ∧ ((A = none ∧ len = 0) ∨ ∃ ad, A = some ad ∧ ∃ f : Nat → Int × Int, ∀ i, i < len →
      w.cell? (ad.add (i * 2 + 0)) = some (.int .i64 (f i).1) ∧ w.cell? (ad.add (i * 2 + 1)) = some (.int .i64 (f i).2) ∧
      (Lit.int .i64 (f i).1).wf = true ∧ (Lit.int .i64 (f i).2).wf = true) := by
  obtain ⟨fuel, hf⟩ := h
  rcases open_slice_fields ht he hone hC hf with ⟨hcs, _⟩ | ⟨a, l, c, m, D, Pl, hcs, _, hl, hm, hmm, _, hi⟩
  · simp [Value.cells] at hcs
    obtain ⟨rfl, rfl, rfl⟩ := hcs
    exact ⟨by omega, by simp [maxLen], .inl ⟨rfl, rfl⟩⟩
  · simp [Value.cells] at hcs
    obtain ⟨rfl, rfl, rfl⟩ := hcs
    have hlm : len ≤ m := by rw [hmm]; split <;> omega
    refine ⟨hl, hm, .inr ⟨a, rfl, ?_⟩⟩
    have key : ∀ i, ∃ z : Int × Int, i < len → w.cell? (a.add (i * 2 + 0)) = some (.int .i64 z.1) ∧ w.cell? (a.add (i * 2 + 1)) = some (.int .i64 z.2) ∧
        (Lit.int .i64 z.1).wf = true ∧ (Lit.int .i64 z.2).wf = true := by
      intro i
      by_cases hil : i < len
      · obtain ⟨ys, n, _, _, _, hg⟩ := hi i (by omega)
        obtain ⟨v0, y0, c0, _, t0⟩ := hg 0 f0 rfl
        obtain ⟨v1, y1, c1, _, t1⟩ := hg 1 f1 rfl
        obtain ⟨n0, e0, _, w0⟩ := DataW.trod_int h0 t0
        obtain ⟨n1, e1, _, w1⟩ := DataW.trod_int h1 t1
        obtain rfl := (List.cons.inj e0).1
        obtain rfl := (List.cons.inj e1).1
        exact ⟨(n0, n1), fun _ => ⟨c0, c1, w0, w1⟩⟩
      · exact ⟨(0, 0), fun h => absurd h hil⟩
    exact ⟨fun i => Classical.choose (key i), fun i hil => Classical.choose_spec (key i) hil⟩
end
/-- A slice of switches reads as a list. -/
theorem open_47_C {H : Type} {enc : TypeId × Value → H} {w : World} {base : Nat} {spare : Nat → Bool} {held : Bool} {t : TypeId} {A : Option Addr} {len cap : Nat} {d : DataW H} {pl : List MemPlace} (ht : Tryd.prog.underlying t = some (.slice 47))
    (h : DataW.Trod enc Tryd.prog w base spare held t (.slice A len cap) d pl) :
    ∃ l : List S47, l.length = len ∧ Kd.C k47 w A len l ∧ len ≤ cap ∧ ∀ x ∈ l, (Lit.int .i64 x.f0).wf = true ∧ (Lit.int .i64 x.f1).wf = true := by
  obtain ⟨hl, hm, hc⟩ := cells2 ht Tryd.underlying47 Tryd.underlying3 Tryd.underlying3 (by kernel_rfl) (by kernel_rfl) h
  rcases hc with ⟨rfl, rfl⟩ | ⟨ad, rfl, f, hf⟩
  · exact ⟨[], rfl, ⟨rfl, by omega, fun h => absurd h (by omega)⟩, hl, by simp⟩
  · refine ⟨(List.range len).map fun i => ⟨(f i).1, (f i).2⟩, by simp, ⟨by simp, by unfold maxLen at hm; omega, fun _ => ⟨ad, rfl, ?_⟩⟩, hl, ?_⟩
    · intro j p hp
      rw [List.getElem?_map, Option.map_eq_some_iff] at hp
      obtain ⟨i, hi, rfl⟩ := hp
      have hjl : j < len := by
        have := (List.getElem?_eq_some_iff.1 hi).1
        simpa using this
      obtain rfl : j = i := by
        rw [List.getElem?_eq_getElem (by simpa using hjl), List.getElem_range] at hi
        exact Option.some.inj hi
      obtain ⟨c0, c1, _⟩ := hf j hjl
      refine ⟨[.int .i64 (f j).1, .int .i64 (f j).2], rfl, k47_mk w _, ?_⟩
      intro i u hu
      match i, hu with
      | 0, hu => simp at hu; subst hu; exact c0
      | 1, hu => simp at hu; subst hu; exact c1
      | i + 2, hu => simp at hu
    · intro x hx
      rw [List.mem_map] at hx
      obtain ⟨i, hi, rfl⟩ := hx
      have hil : i < len := by simpa using hi
      exact (hf i hil).2.2
/-- A slice of feeders reads as a list. -/
theorem open_49_C {H : Type} {enc : TypeId × Value → H} {w : World} {base : Nat} {spare : Nat → Bool} {held : Bool} {t : TypeId} {A : Option Addr} {len cap : Nat} {d : DataW H} {pl : List MemPlace} (ht : Tryd.prog.underlying t = some (.slice 49))
    (h : DataW.Trod enc Tryd.prog w base spare held t (.slice A len cap) d pl) :
    ∃ l : List S49, l.length = len ∧ Kd.C k49 w A len l ∧ len ≤ cap ∧ ∀ x ∈ l, (Lit.int .i64 x.f0).wf = true ∧ (Lit.int .i64 x.f1).wf = true := by
  obtain ⟨hl, hm, hc⟩ := cells2 ht Tryd.underlying49 Tryd.underlying3 Tryd.underlying3 (by kernel_rfl) (by kernel_rfl) h
  rcases hc with ⟨rfl, rfl⟩ | ⟨ad, rfl, f, hf⟩
  · exact ⟨[], rfl, ⟨rfl, by omega, fun h => absurd h (by omega)⟩, hl, by simp⟩
  · refine ⟨(List.range len).map fun i => ⟨(f i).1, (f i).2⟩, by simp, ⟨by simp, by unfold maxLen at hm; omega, fun _ => ⟨ad, rfl, ?_⟩⟩, hl, ?_⟩
    · intro j p hp
      rw [List.getElem?_map, Option.map_eq_some_iff] at hp
      obtain ⟨i, hi, rfl⟩ := hp
      have hjl : j < len := by
        have := (List.getElem?_eq_some_iff.1 hi).1
        simpa using this
      obtain rfl : j = i := by
        rw [List.getElem?_eq_getElem (by simpa using hjl), List.getElem_range] at hi
        exact Option.some.inj hi
      obtain ⟨c0, c1, _⟩ := hf j hjl
      refine ⟨[.int .i64 (f j).1, .int .i64 (f j).2], rfl, k49_mk w _, ?_⟩
      intro i u hu
      match i, hu with
      | 0, hu => simp at hu; subst hu; exact c0
      | 1, hu => simp at hu; subst hu; exact c1
      | i + 2, hu => simp at hu
    · intro x hx
      rw [List.mem_map] at hx
      obtain ⟨i, hi, rfl⟩ := hx
      have hil : i < len := by simpa using hi
      exact (hf i hil).2.2
section
variable {H : Type} {enc : TypeId × Value → H} {P : Program} {w : World} {base : Nat} {spare : Nat → Bool} {held : Bool}
/-- An array of two whole numbers by value. -/
theorem ints_C {k : IntKind} {A : Option Addr} {n : Nat} {xs : List Int} (h : xs.length = n) (h2 : n ≤ 9223372036854775807) (h3 : 0 < n → ∃ ad : Addr, A = some ad ∧ ∀ j, j < n → w.cell? (ad.add j) = some (.int k (xs.getD j 0))) : Kd.C (Kd.int k) w A n xs := by
  refine ⟨h, h2, fun hn => ?_⟩
  obtain ⟨ad, e, hc⟩ := h3 hn
  refine ⟨ad, e, fun j p hj => ⟨[.int k p], rfl, rfl, fun i u hu => ?_⟩⟩
  have hj2 := hc j (by have := (List.getElem?_eq_some_iff.1 hj).1; omega)
  rw [List.getD_eq_getElem?_getD, hj] at hj2
  match i, hu with
  | 0, hu =>
    obtain rfl : (Value.int k p) = u := by simpa using hu
    simpa [Kd.int, Kd.scalar] using hj2
  | i + 1, hu => simp at hu
/-- A slice of whole numbers reads as a list. -/
theorem open_ints_C {k : IntKind} {t e : TypeId} {A : Option Addr} {len cap : Nat} {d : DataW H} {pl : List MemPlace} (ht : P.underlying t = some (.slice e)) (he : P.underlying e = some (.int k)) (hc : P.cellsOf e = 1)
    (h : DataW.Trod enc P w base spare held t (.slice A len cap) d pl) :
    ∃ l : List Int, l.length = len ∧ Kd.C (Kd.int k) w A len l ∧ len ≤ cap ∧ ∀ x ∈ l, (Lit.int k x).wf = true := by
  obtain ⟨fuel, hf⟩ := h
  rcases open_ints ht he hc hf with ⟨hcs, _⟩ | ⟨a, l, c, zs, hcs, _, hl, hm, hz, _, hi, hw⟩
  · simp [Value.cells] at hcs
    obtain ⟨rfl, rfl, rfl⟩ := hcs
    exact ⟨[], rfl, ⟨rfl, by omega, fun h => absurd h (by omega)⟩, Nat.le_refl _, by simp⟩
  · simp [Value.cells] at hcs
    obtain ⟨rfl, rfl, rfl⟩ := hcs
    have hlz : len ≤ zs.length := by rw [hz]; split <;> omega
    refine ⟨zs.take len, by rw [List.length_take]; omega, ints_C (by rw [List.length_take]; omega) (by unfold maxLen at hm; omega) (fun _ => ⟨a, rfl, fun j hj => ?_⟩), hl, fun x hx => hw x (List.mem_of_mem_take hx)⟩
    rw [hi j (by omega), List.getD_eq_getElem?_getD, List.getD_eq_getElem?_getD, List.getElem?_take, if_pos hj]
/-- The cell of a struct's field. -/
theorem struct_cell {k : IntKind} {t : TypeId} {fs : Array Field} {cs : List Value} {fuel : Nat} {x : DataW H × List MemPlace} (hs : P.underlying t = some (.struct fs)) (hone : oneCellFields P fs = true) (h : DataW.trod enc P w base spare held fuel t cs = some x)
    (j : Nat) (f : Field) (hj : fs[j]? = some f) (hf : P.underlying f.type = some (.int k)) : ∃ a, (cs.drop j).take 1 = [.int k a] ∧ (Lit.int k a).wf = true := by
  obtain ⟨ys, n', hn', hy, hlen, hyl, hg⟩ := DataW.trod_struct hs h
  obtain ⟨ho, hk⟩ := hone_of hone j f hj
  have hjl : j < fs.size := (Array.getElem?_eq_some_iff.1 hj).1
  have h1 := hg j f hj
  rw [ho, hk] at h1
  have hys : ys[j]? = some (ys[j]'(by omega)) := List.getElem?_eq_getElem (by omega)
  obtain ⟨a, e1, _, w1⟩ := DataW.trod_int hf (h1.trans hys)
  exact ⟨a, e1, w1⟩
theorem okWide_struct {r : Reach} {b0 : Nat} {t : TypeId} {fs : Array Field} {v : Value} (ht : P.underlying t = some (.struct fs)) (h : Value.okWide P w r b0 t v) : ∃ cs, v = .agg cs ∧ cs.size = P.cellsOf t := by
  simp only [Value.okWide, ht] at h
  obtain ⟨cs, h1, h2, _⟩ := h
  exact ⟨cs, h1, h2⟩
/-- A struct of two whole numbers by value. -/
theorem open_s2_ints {k : IntKind} {r : Reach} {b0 : Nat} {t : TypeId} {f0 f1 : Field} {v : Value} {d : DataW H} {p : List MemPlace} (hs : P.underlying t = some (.struct #[f0, f1])) (hone : oneCellFields P #[f0, f1] = true) (hC : P.cellsOf t = 2)
    (h0 : P.underlying f0.type = some (.int k)) (h1 : P.underlying f1.type = some (.int k)) (hv : Value.okWide P w r b0 t v)
    (h : DataW.Trod enc P w base spare held t v d p) : ∃ a b : Int, v = .agg #[.int k a, .int k b] ∧ (Lit.int k a).wf = true ∧ (Lit.int k b).wf = true := by
  obtain ⟨cs, rfl, hsz⟩ := okWide_struct hs hv
  obtain ⟨c0, c1, rfl⟩ := array2 (hsz.trans hC)
  obtain ⟨fuel, hf⟩ := h
  obtain ⟨a, e0, w0⟩ := struct_cell hs hone hf 0 f0 rfl h0
  obtain ⟨b, e1, w1⟩ := struct_cell hs hone hf 1 f1 rfl h1
  simp [Value.cells] at e0 e1
  subst e0 e1
  exact ⟨a, b, rfl, w0, w1⟩
end
end Go.Proofs.YtbbjonbnmoomlaaDoor.Open
