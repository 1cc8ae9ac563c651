/- A struct's field that is a slice of whole numbers, opened to its cells. Plain lemma. -/
import Derived.Test.YtiebfmenkpodeaaOpen
namespace Go.Proofs.Ytiebfmenkpodeaa.Open
open Go.ChangeShapes Go.WideShapes Go.ChangeAt Go.RowKit Go.Joins Go.Deep
open Go.Proofs.Ytiebfmenkpodeaa.G Go.Proofs.YtiebfmenkpodeaaW.PrintWords
set_option linter.unusedVariables false
section
variable {H : Type} {enc : TypeId × Value → H} {P : Program} {w : World} {base : Nat} {spare : Nat → Bool} {held : Bool}
/-- The cell of a struct's field that is a slice of whole numbers, and the list that it reads as. -/
theorem struct_slice {k : IntKind} {t e : TypeId} {fs : Array Field} {cs : List Value} {fuel : Nat} {x : DataW H × List MemPlace} (hs : P.underlying t = some (.struct fs)) (hone : oneCellFields P fs = true) (h : DataW.trod enc P w base spare held fuel t cs = some x)
    (j : Nat) (f : Field) (hj : fs[j]? = some f) (hf : P.underlying f.type = some (.slice e)) (he : P.underlying e = some (.int k)) (hc : P.cellsOf e = 1) :
    ∃ (A : Option Addr) (len cap : Nat), (cs.drop j).take 1 = [.slice A len cap] ∧ ∃ l : List Int, l.length = len ∧ Kd.C (Kd.int k) w A len l ∧ len ≤ cap ∧ ∀ x ∈ l, (Lit.int k x).wf = true := by
  obtain ⟨ys, n', hn', hy, hlen, hyl, hg⟩ := DataW.trod_struct hs h
  obtain ⟨ho, hk⟩ := hone_of hone j f hj
  have hjl : j < fs.size := (Array.getElem?_eq_some_iff.1 hj).1
  have h1 := hg j f hj
  rw [ho, hk] at h1
  have hys : ys[j]? = some (ys[j]'(by omega)) := List.getElem?_eq_getElem (by omega)
  have h2 := h1.trans hys
  rcases open_ints hf he hc h2 with ⟨hcs, _⟩ | ⟨a, l, c, zs, hcs, _, hl, hm, hz, _, hi, hw⟩
  · exact ⟨none, 0, 0, hcs, [], rfl, ⟨rfl, by omega, fun h => absurd h (by omega)⟩, Nat.le_refl _, by simp⟩
  · have hlz : l ≤ zs.length := by rw [hz]; split <;> omega
    refine ⟨some a, l, c, hcs, zs.take l, by rw [List.length_take]; omega, ints_C (by rw [List.length_take]; omega) (by unfold maxLen at hm; omega) (fun _ => ⟨a, rfl, fun j hj => ?_⟩), hl, fun x hx => hw x (List.mem_of_mem_take hx)⟩
    rw [hi j (by omega), List.getD_eq_getElem?_getD, List.getD_eq_getElem?_getD, List.getElem?_take, if_pos hj]
end
end Go.Proofs.Ytiebfmenkpodeaa.Open
