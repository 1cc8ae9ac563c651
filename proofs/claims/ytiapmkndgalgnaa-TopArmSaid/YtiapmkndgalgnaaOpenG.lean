/- A guess (a line, a list of numbers, a list of pairs), opened to cells. Plain lemmas. -/
import Derived.Test.YtiapmkndgalgnaaOpenA
namespace Go.Proofs.Ytiapmkndgalgnaa.Open
open Go.ChangeShapes Go.WideShapes Go.ChangeAt Go.RowKit Go.Joins Go.Deep
open Go.Proofs.Ytiapmkndgalgnaa.G Go.Proofs.YtiapmkndgalgnaaW.PrintWords
set_option linter.unusedVariables false
section
variable {H : Type} {enc : TypeId × Value → H} {w : World} {base : Nat} {spare : Nat → Bool} {held : Bool}
theorem slice_shape {P : Program} {t e : TypeId} (ht : P.underlying t = some (.slice e)) {fuel : Nat} {x : Value} {y : DataW H × List MemPlace} (h : DataW.trod enc P w base spare held fuel t [x] = some y) :
    ∃ (A : Option Addr) (len cap : Nat), x = .slice A len cap ∧ DataW.Trod enc P w base spare held t (.slice A len cap) y.1 y.2 := by
  rcases DataW.trod_slice ht h with ⟨hcs, _⟩ | ⟨a, len, cap, _, _, _, _, hcs, _⟩
  · obtain rfl := (List.cons.inj hcs).1
    exact ⟨none, 0, 0, rfl, fuel, h⟩
  · obtain rfl := (List.cons.inj hcs).1
    exact ⟨some a, len, cap, rfl, fuel, h⟩
theorem open_guess {r : Reach} {b0 : Nat} {v : Value} {d : DataW H} {p : List MemPlace} (hv : Value.okWide Try.prog w r b0 62 v) (h : DataW.Trod enc Try.prog w base spare held 62 v d p) :
    ∃ (a b c : Int) (A3 : Option Addr) (c3 : Nat) (l3 : List Int) (A4 : Option Addr) (c4 : Nat) (l4 : List S84), v = .agg #[.int .i64 a, .int .i64 b, .int .i64 c, .slice A3 l3.length c3, .slice A4 l4.length c4] ∧
      Kd.C (Kd.int .i64) w A3 l3.length l3 ∧ l3.length ≤ c3 ∧ Kd.C k84 w A4 l4.length l4 ∧ l4.length ≤ c4 := by
  obtain ⟨cs, rfl, hsz⟩ := WideShapes.okWide_struct Try.underlying62 hv
  obtain ⟨fuel, hf⟩ := h
  obtain ⟨L, rfl⟩ : ∃ L : List Value, cs = L.toArray := ⟨cs.toList, by simp⟩
  have hL : L.length = 5 := by
    have : Try.prog.cellsOf 62 = 5 := by kernel_rfl
    rw [this] at hsz
    simpa using hsz
  match L, hL with
  | [x0, x1, x2, x3, x4], _ =>
    obtain ⟨ys, n, _, _, _, hyl, hg⟩ := DataW.trod_struct Try.underlying62 hf
    match ys, hyl with
    | [y0, y1, y2], _ =>
      have g0 : DataW.trod enc Try.prog w base spare held n 41 ((([x0, x1, x2, x3, x4] : List Value).drop 0).take (Try.prog.cellsOf 41)) = some y0 := hg 0 _ rfl
      have g1 : DataW.trod enc Try.prog w base spare held n 45 ((([x0, x1, x2, x3, x4] : List Value).drop 3).take (Try.prog.cellsOf 45)) = some y1 := hg 1 _ rfl
      have g2 : DataW.trod enc Try.prog w base spare held n 60 ((([x0, x1, x2, x3, x4] : List Value).drop 4).take (Try.prog.cellsOf 60)) = some y2 := hg 2 _ rfl
      rw [show Try.prog.cellsOf 41 = 3 by kernel_rfl] at g0
      rw [show Try.prog.cellsOf 45 = 1 by kernel_rfl] at g1
      rw [show Try.prog.cellsOf 60 = 1 by kernel_rfl] at g2
      have g0' : DataW.trod enc Try.prog w base spare held n 41 [x0, x1, x2] = some y0 := g0
      have g1' : DataW.trod enc Try.prog w base spare held n 45 [x3] = some y1 := g1
      have g2' : DataW.trod enc Try.prog w base spare held n 60 [x4] = some y2 := g2
      obtain ⟨zs, n', _, _, _, hzl, hk⟩ := DataW.trod_struct Try.underlying41 g0'
      match zs, hzl with
      | [z0, z1, z2], _ =>
        have k0 : DataW.trod enc Try.prog w base spare held n' 3 ((([x0, x1, x2] : List Value).drop 0).take (Try.prog.cellsOf 3)) = some z0 := hk 0 _ rfl
        have k1 : DataW.trod enc Try.prog w base spare held n' 3 ((([x0, x1, x2] : List Value).drop 1).take (Try.prog.cellsOf 3)) = some z1 := hk 1 _ rfl
        have k2 : DataW.trod enc Try.prog w base spare held n' 3 ((([x0, x1, x2] : List Value).drop 2).take (Try.prog.cellsOf 3)) = some z2 := hk 2 _ rfl
        rw [show Try.prog.cellsOf 3 = 1 by kernel_rfl] at k0 k1 k2
        have k0' : DataW.trod enc Try.prog w base spare held n' 3 [x0] = some z0 := k0
        have k1' : DataW.trod enc Try.prog w base spare held n' 3 [x1] = some z1 := k1
        have k2' : DataW.trod enc Try.prog w base spare held n' 3 [x2] = some z2 := k2
        obtain ⟨a, e0, _, _⟩ := DataW.trod_int Try.underlying3 k0'
        obtain ⟨b, e1, _, _⟩ := DataW.trod_int Try.underlying3 k1'
        obtain ⟨c, e2, _, _⟩ := DataW.trod_int Try.underlying3 k2'
        obtain rfl := (List.cons.inj e0).1
        obtain rfl := (List.cons.inj e1).1
        obtain rfl := (List.cons.inj e2).1
        obtain ⟨A3, len3, c3, rfl, t3⟩ := slice_shape Try.underlying45 g1'
        obtain ⟨A4, len4, c4, rfl, t4⟩ := slice_shape Try.underlying60 g2'
        obtain ⟨l3, rfl, hr3, hc3, _⟩ := open_ints_C Try.underlying45 Try.underlying3 (by kernel_rfl) t3
        obtain ⟨l4, rfl, hr4, hc4, _⟩ := open_84_C Try.underlying60 t4
        exact ⟨a, b, c, A3, c3, l3, A4, c4, l4, rfl, hr3, hc3, hr4, hc4⟩
end
end Go.Proofs.Ytiapmkndgalgnaa.Open
