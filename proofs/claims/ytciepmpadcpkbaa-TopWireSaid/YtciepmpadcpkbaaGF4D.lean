-- Written by this session's driver (wip/tools/printmore.py) over the kit's print, with hand-written parts.
import Derived.Test.YtciepmpadcpkbaaGBase
import Derived.Test.YtciepmpadcpkbaaGF13
import Derived.Test.YtciepmpadcpkbaaGF15
import Derived.Test.YtciepmpadcpkbaaGF21
import Derived.Test.YtciepmpadcpkbaaGF14
import Derived.Test.YtciepmpadcpkbaaGF19
import Derived.Test.YtciepmpadcpkbaaGF20
import Derived.Test.YtciepmpadcpkbaaGF17
import Derived.Test.YtciepmpadcpkbaaGF22
import Derived.Test.YtciepmpadcpkbaaGF23
import Derived.Test.YtciepmpadcpkbaaGF24
import Derived.Test.YtciepmpadcpkbaaGF25
import Derived.Test.YtciepmpadcpkbaaGF26
import Derived.Test.YtciepmpadcpkbaaGF27
namespace Go.Proofs.Ytciepmpadcpkbaa.G
open Go.RowKit Go.Proofs.YtciepmpadcpkbaaW.PrintWords Go.Proofs.YtciepmpadcpkbaaW.PrintLast Go.Proofs.YtciepmpadcpkbaaW.PrintMore
attribute [local go_sem] max2_int min2_int max_two min_two max_three min_three max_four min_four   -- for this text's walks alone
set_option linter.unusedVariables false
set_option linter.unusedSimpArgs false

/-! ### droppertop_TopWire: function 4 -/
mutual
def droppertop_TopWire.j0 : Nat → List (S72) → Bool → Int → Int → List Int → List Int → Int → Int → Option (Bool)
 | 0, _, _, _, _, _, _, _, _ => none
 | k + 1, x0, x46, x602000, x602001, x603000, x603001, x603002, x603003 => if x46 = true then ((dropperlaw02_Awake.f k).bind fun t609 => (some t609)) else ((wire_Lowest.f k x0 x602000 x602001).bind fun bt610 => ((wire_Highest.f k x0 x602000 x602001).bind fun bt614 => ((wire_Clash.f k x0 x602000 x602001).bind fun bt618 => (if (IntKind.u64.wrap ((x0.length : Int))) = 0 then (none) else ((wire_Through.f k x0 x602000 x602001 (wrap64 (Int.tmod (IntKind.u64.wrap (x603002)) (IntKind.u64.wrap ((x0.length : Int))))) x603003).bind fun bt621 => (if bt618.2.2 = 0 then ((wire_Clashes.f k x0 x602000 x602001 bt618.1 bt618.2.1).bind fun bt625 => (if bt625.2 = 0 then (if bt625.1 = true then (if bt610.2 = 5 then (if bt614.2 = 5 then (if bt621.2 = 5 then ((droppertop_fits.f k x0 x602000 x602001 x603000).bind fun t627 => (if t627 = true then (some false) else ((droppertop_fits.f k x0 x602000 x602001 x603001).bind fun t628 => (if t628 = true then (some false) else ((dropperlaw02_Awake.f k).bind fun t629 => (some t629)))))) else (some false)) else (some false)) else (some false)) else (some false)) else (some false))) else (if bt618.2.2 = 5 then (if bt610.2 = 0 then (if bt614.2 = 0 then ((droppertop_fits.f k x0 x602000 x602001 bt610.1).bind fun t630 => (if t630 = true then ((droppertop_fits.f k x0 x602000 x602001 bt614.1).bind fun t631 => (if t631 = true then ((droppertop_lies.f k bt610.1 bt610.1 bt614.1).bind fun t632 => (droppertop_TopWire.j1 k x0 bt610.1 bt614.1 (wrap64 (Int.tmod (IntKind.u64.wrap (x603002)) (IntKind.u64.wrap ((x0.length : Int))))) bt621.1 bt621.2 (!t632) x602000 x602001 x603000 x603001 x603002 x603003)) else (droppertop_TopWire.j1 k x0 bt610.1 bt614.1 (wrap64 (Int.tmod (IntKind.u64.wrap (x603002)) (IntKind.u64.wrap ((x0.length : Int))))) bt621.1 bt621.2 true x602000 x602001 x603000 x603001 x603002 x603003))) else (droppertop_TopWire.j1 k x0 bt610.1 bt614.1 (wrap64 (Int.tmod (IntKind.u64.wrap (x603002)) (IntKind.u64.wrap ((x0.length : Int))))) bt621.1 bt621.2 true x602000 x602001 x603000 x603001 x603002 x603003))) else (droppertop_TopWire.j1 k x0 bt610.1 bt614.1 (wrap64 (Int.tmod (IntKind.u64.wrap (x603002)) (IntKind.u64.wrap ((x0.length : Int))))) bt621.1 bt621.2 true x602000 x602001 x603000 x603001 x603002 x603003)) else (droppertop_TopWire.j1 k x0 bt610.1 bt614.1 (wrap64 (Int.tmod (IntKind.u64.wrap (x603002)) (IntKind.u64.wrap ((x0.length : Int))))) bt621.1 bt621.2 true x602000 x602001 x603000 x603001 x603002 x603003)) else (droppertop_TopWire.j1 k x0 bt610.1 bt614.1 (wrap64 (Int.tmod (IntKind.u64.wrap (x603002)) (IntKind.u64.wrap ((x0.length : Int))))) bt621.1 bt621.2 true x602000 x602001 x603000 x603001 x603002 x603003))))))))
def droppertop_TopWire.j1 : Nat → List (S72) → List Int → List Int → Int → List Int → Int → Bool → Int → Int → List Int → List Int → Int → Int → Option (Bool)
 | 0, _, _, _, _, _, _, _, _, _, _, _, _, _ => none
 | k + 1, x0, x7, x9, x14, x15, x16, x175, x602000, x602001, x603000, x603001, x603002, x603003 => if x175 = true then (some false) else (droppertop_TopWire.l0 k x0 x7 x9 x14 x15 x16 (([x7, x9] : List (List Int))) (([x603000, x603001] : List (List Int))) 0 x602000 x602001 x603000 x603001 x603002 x603003)
def droppertop_TopWire.l0 : Nat → List (S72) → List Int → List Int → Int → List Int → Int → List (List Int) → List (List Int) → Int → Int → Int → List Int → List Int → Int → Int → Option (Bool)
 | 0, _, _, _, _, _, _, _, _, _, _, _, _, _, _, _ => none
 | k + 1, x0, x7, x9, x14, x15, x16, x19, x20, x21, x602000, x602001, x603000, x603001, x603002, x603003 => if x21 < (x20.length : Int) then (if 0 ≤ x21 then ((droppertop_fits.f k x0 x602000 x602001 (rd_L1 x20 x21)).bind fun t640 => (if t640 = true then (if x19.length < 5864062014805 then (droppertop_TopWire.l0 k x0 x7 x9 x14 x15 x16 (x19 ++ [rd_L1 x20 x21]) x20 (wrap64 (x21 + 1)) x602000 x602001 x603000 x603001 x603002 x603003) else (none)) else (droppertop_TopWire.l0 k x0 x7 x9 x14 x15 x16 x19 x20 (wrap64 (x21 + 1)) x602000 x602001 x603000 x603001 x603002 x603003))) else (none)) else (if x16 = 0 then (if (x15.length : Int) = (x0.length : Int) then (if 0 ≤ x14 then (if x14 < (x15.length : Int) then (if (rd x15 x14) = x603003 then (if x19.length < 5864062014805 then (droppertop_TopWire.j3 k x0 x7 x9 x14 x15 x16 (x19 ++ [x15]) x602000 x602001 x603000 x603001 x603002 x603003) else (none)) else (some false)) else (none)) else (none)) else (some false)) else (droppertop_TopWire.j3 k x0 x7 x9 x14 x15 x16 x19 x602000 x602001 x603000 x603001 x603002 x603003))
def droppertop_TopWire.j3 : Nat → List (S72) → List Int → List Int → Int → List Int → Int → List (List Int) → Int → Int → List Int → List Int → Int → Int → Option (Bool)
 | 0, _, _, _, _, _, _, _, _, _, _, _, _, _ => none
 | k + 1, x0, x7, x9, x14, x15, x16, x19, x602000, x602001, x603000, x603001, x603002, x603003 => if 0 ≤ x14 then (if x14 < (x7.length : Int) then (if (rd x7 x14) ≤ x603003 then (if x14 < (x9.length : Int) then (if ((x16 == 0) != (decide (x603003 ≤ (rd x9 x14)))) = true then (droppertop_TopWire.j4 k x0 x7 x9 x14 x15 x16 x19 true x602000 x602001 x603000 x603001 x603002 x603003) else (if x16 = 0 then (droppertop_TopWire.j4 k x0 x7 x9 x14 x15 x16 x19 false x602000 x602001 x603000 x603001 x603002 x603003) else (droppertop_TopWire.j4 k x0 x7 x9 x14 x15 x16 x19 (x16 != 5) x602000 x602001 x603000 x603001 x603002 x603003))) else (none)) else (if ((x16 == 0) != false) = true then (droppertop_TopWire.j4 k x0 x7 x9 x14 x15 x16 x19 true x602000 x602001 x603000 x603001 x603002 x603003) else (if x16 = 0 then (droppertop_TopWire.j4 k x0 x7 x9 x14 x15 x16 x19 false x602000 x602001 x603000 x603001 x603002 x603003) else (droppertop_TopWire.j4 k x0 x7 x9 x14 x15 x16 x19 (x16 != 5) x602000 x602001 x603000 x603001 x603002 x603003)))) else (none)) else (none)
def droppertop_TopWire.j4 : Nat → List (S72) → List Int → List Int → Int → List Int → Int → List (List Int) → Bool → Int → Int → List Int → List Int → Int → Int → Option (Bool)
 | 0, _, _, _, _, _, _, _, _, _, _, _, _, _, _ => none
 | k + 1, x0, x7, x9, x14, x15, x16, x19, x250, x602000, x602001, x603000, x603001, x603002, x603003 => if x250 = true then (some false) else (droppertop_TopWire.l1 k x0 x7 x9 x14 x15 x16 x19 0 x602000 x602001 x603000 x603001 x603002 x603003)
def droppertop_TopWire.l1 : Nat → List (S72) → List Int → List Int → Int → List Int → Int → List (List Int) → Int → Int → Int → List Int → List Int → Int → Int → Option (Bool)
 | 0, _, _, _, _, _, _, _, _, _, _, _, _, _, _ => none
 | k + 1, x0, x7, x9, x14, x15, x16, x19, x22, x602000, x602001, x603000, x603001, x603002, x603003 => if x22 < (x19.length : Int) then (if 0 ≤ x22 then ((droppertop_fits.f k x0 x602000 x602001 (rd_L1 x19 x22)).bind fun t653 => (if t653 = true then ((droppertop_lies.f k x7 (rd_L1 x19 x22) x9).bind fun t655 => (droppertop_TopWire.j6 k x0 x7 x9 x14 x15 x16 x19 x22 (!t655) x602000 x602001 x603000 x603001 x603002 x603003)) else (droppertop_TopWire.j6 k x0 x7 x9 x14 x15 x16 x19 x22 true x602000 x602001 x603000 x603001 x603002 x603003))) else (none)) else ((dropperlaw02_Awake.f k).bind fun t651 => (some t651))
def droppertop_TopWire.j6 : Nat → List (S72) → List Int → List Int → Int → List Int → Int → List (List Int) → Int → Bool → Int → Int → List Int → List Int → Int → Int → Option (Bool)
 | 0, _, _, _, _, _, _, _, _, _, _, _, _, _, _, _ => none
 | k + 1, x0, x7, x9, x14, x15, x16, x19, x22, x274, x602000, x602001, x603000, x603001, x603002, x603003 => if x274 = true then (some false) else (if x16 = 0 then (if 0 ≤ x22 then (if x22 < (x19.length : Int) then (if 0 ≤ x14 then (if x14 < ((rd_L1 x19 x22).length : Int) then (if (rd (rd_L1 x19 x22) x14) = x603003 then ((droppertop_lies.f k x15 (rd_L1 x19 x22) x9).bind fun t659 => (droppertop_TopWire.j7 k x0 x7 x9 x14 x15 x16 x19 x22 (!t659) x602000 x602001 x603000 x603001 x603002 x603003)) else (droppertop_TopWire.j7 k x0 x7 x9 x14 x15 x16 x19 x22 false x602000 x602001 x603000 x603001 x603002 x603003)) else (none)) else (none)) else (none)) else (none)) else (droppertop_TopWire.j7 k x0 x7 x9 x14 x15 x16 x19 x22 false x602000 x602001 x603000 x603001 x603002 x603003))
def droppertop_TopWire.j7 : Nat → List (S72) → List Int → List Int → Int → List Int → Int → List (List Int) → Int → Bool → Int → Int → List Int → List Int → Int → Int → Option (Bool)
 | 0, _, _, _, _, _, _, _, _, _, _, _, _, _, _, _ => none
 | k + 1, x0, x7, x9, x14, x15, x16, x19, x22, x298, x602000, x602001, x603000, x603001, x603002, x603003 => if x298 = true then (some false) else (droppertop_TopWire.l2 k x0 x7 x9 x14 x15 x16 x19 x22 0 x602000 x602001 x603000 x603001 x603002 x603003)
def droppertop_TopWire.l2 : Nat → List (S72) → List Int → List Int → Int → List Int → Int → List (List Int) → Int → Int → Int → Int → List Int → List Int → Int → Int → Option (Bool)
 | 0, _, _, _, _, _, _, _, _, _, _, _, _, _, _, _ => none
 | k + 1, x0, x7, x9, x14, x15, x16, x19, x22, x23, x602000, x602001, x603000, x603001, x603002, x603003 => if x23 < x22 then (if 0 ≤ x22 then (if x22 < (x19.length : Int) then (if 0 ≤ x23 then (if x23 < (x19.length : Int) then ((wire_Meet.f k (rd_L1 x19 x22) (rd_L1 x19 x23)).bind fun bt662 => ((wire_Join.f k (rd_L1 x19 x22) (rd_L1 x19 x23)).bind fun bt668 => (if bt662.2 = 0 then (if bt668.2 = 0 then ((droppertop_fits.f k x0 x602000 x602001 bt662.1).bind fun t672 => (if t672 = true then ((droppertop_fits.f k x0 x602000 x602001 bt668.1).bind fun t673 => (if t673 = true then (droppertop_TopWire.l2 k x0 x7 x9 x14 x15 x16 x19 x22 (wrap64 (x23 + 1)) x602000 x602001 x603000 x603001 x603002 x603003) else (some false))) else (some false))) else (some false)) else (some false)))) else (none)) else (none)) else (none)) else (none)) else (droppertop_TopWire.l1 k x0 x7 x9 x14 x15 x16 x19 (wrap64 (x22 + 1)) x602000 x602001 x603000 x603001 x603002 x603003)
end
def droppertop_TopWire.f (k : Nat) (l0 : List (S72)) (a1_0 : Int) (a1_1 : Int) (l2_0 : List Int) (l2_1 : List Int) (a2_2 : Int) (a2_3 : Int) : Option (Bool) := (dropperref02_Valid.f k l0).bind fun t603 => (if t603 = true then ((dropperref02_Slope.f a1_0 a1_1).bind fun t604 => (if t604 = true then ((dropperlaw02_Large.f k ([] : List (S72)) (([l2_0, l2_1] : List (List Int)))).bind fun t608 => (droppertop_TopWire.j0 k l0 t608 a1_0 a1_1 l2_0 l2_1 a2_2 a2_3)) else (droppertop_TopWire.j0 k l0 true a1_0 a1_1 l2_0 l2_1 a2_2 a2_3))) else (droppertop_TopWire.j0 k l0 true a1_0 a1_1 l2_0 l2_1 a2_2 a2_3))
theorem droppertop_TopWire.mono_l : ∀ k, (∀ y0 y1 y2 y3 y4 y5 y6 y7, LeO (droppertop_TopWire.j0 k y0 y1 y2 y3 y4 y5 y6 y7) (droppertop_TopWire.j0 (k + 1) y0 y1 y2 y3 y4 y5 y6 y7)) ∧ (∀ y0 y1 y2 y3 y4 y5 y6 y7 y8 y9 y10 y11 y12, LeO (droppertop_TopWire.j1 k y0 y1 y2 y3 y4 y5 y6 y7 y8 y9 y10 y11 y12) (droppertop_TopWire.j1 (k + 1) y0 y1 y2 y3 y4 y5 y6 y7 y8 y9 y10 y11 y12)) ∧ (∀ y0 y1 y2 y3 y4 y5 y6 y7 y8 y9 y10 y11 y12 y13 y14, LeO (droppertop_TopWire.l0 k y0 y1 y2 y3 y4 y5 y6 y7 y8 y9 y10 y11 y12 y13 y14) (droppertop_TopWire.l0 (k + 1) y0 y1 y2 y3 y4 y5 y6 y7 y8 y9 y10 y11 y12 y13 y14)) ∧ (∀ y0 y1 y2 y3 y4 y5 y6 y7 y8 y9 y10 y11 y12, LeO (droppertop_TopWire.j3 k y0 y1 y2 y3 y4 y5 y6 y7 y8 y9 y10 y11 y12) (droppertop_TopWire.j3 (k + 1) y0 y1 y2 y3 y4 y5 y6 y7 y8 y9 y10 y11 y12)) ∧ (∀ y0 y1 y2 y3 y4 y5 y6 y7 y8 y9 y10 y11 y12 y13, LeO (droppertop_TopWire.j4 k y0 y1 y2 y3 y4 y5 y6 y7 y8 y9 y10 y11 y12 y13) (droppertop_TopWire.j4 (k + 1) y0 y1 y2 y3 y4 y5 y6 y7 y8 y9 y10 y11 y12 y13)) ∧ (∀ y0 y1 y2 y3 y4 y5 y6 y7 y8 y9 y10 y11 y12 y13, LeO (droppertop_TopWire.l1 k y0 y1 y2 y3 y4 y5 y6 y7 y8 y9 y10 y11 y12 y13) (droppertop_TopWire.l1 (k + 1) y0 y1 y2 y3 y4 y5 y6 y7 y8 y9 y10 y11 y12 y13)) ∧ (∀ y0 y1 y2 y3 y4 y5 y6 y7 y8 y9 y10 y11 y12 y13 y14, LeO (droppertop_TopWire.j6 k y0 y1 y2 y3 y4 y5 y6 y7 y8 y9 y10 y11 y12 y13 y14) (droppertop_TopWire.j6 (k + 1) y0 y1 y2 y3 y4 y5 y6 y7 y8 y9 y10 y11 y12 y13 y14)) ∧ (∀ y0 y1 y2 y3 y4 y5 y6 y7 y8 y9 y10 y11 y12 y13 y14, LeO (droppertop_TopWire.j7 k y0 y1 y2 y3 y4 y5 y6 y7 y8 y9 y10 y11 y12 y13 y14) (droppertop_TopWire.j7 (k + 1) y0 y1 y2 y3 y4 y5 y6 y7 y8 y9 y10 y11 y12 y13 y14)) ∧ (∀ y0 y1 y2 y3 y4 y5 y6 y7 y8 y9 y10 y11 y12 y13 y14, LeO (droppertop_TopWire.l2 k y0 y1 y2 y3 y4 y5 y6 y7 y8 y9 y10 y11 y12 y13 y14) (droppertop_TopWire.l2 (k + 1) y0 y1 y2 y3 y4 y5 y6 y7 y8 y9 y10 y11 y12 y13 y14))
 | 0 => ⟨fun _ _ _ _ _ _ _ _ r h => by simp [droppertop_TopWire.j0] at h, fun _ _ _ _ _ _ _ _ _ _ _ _ _ r h => by simp [droppertop_TopWire.j1] at h, fun _ _ _ _ _ _ _ _ _ _ _ _ _ _ _ r h => by simp [droppertop_TopWire.l0] at h, fun _ _ _ _ _ _ _ _ _ _ _ _ _ r h => by simp [droppertop_TopWire.j3] at h, fun _ _ _ _ _ _ _ _ _ _ _ _ _ _ r h => by simp [droppertop_TopWire.j4] at h, fun _ _ _ _ _ _ _ _ _ _ _ _ _ _ r h => by simp [droppertop_TopWire.l1] at h, fun _ _ _ _ _ _ _ _ _ _ _ _ _ _ _ r h => by simp [droppertop_TopWire.j6] at h, fun _ _ _ _ _ _ _ _ _ _ _ _ _ _ _ r h => by simp [droppertop_TopWire.j7] at h, fun _ _ _ _ _ _ _ _ _ _ _ _ _ _ _ r h => by simp [droppertop_TopWire.l2] at h⟩
 | k + 1 => by
  obtain ⟨ih0, ih1, ih2, ih3, ih4, ih5, ih6, ih7, ih8⟩ := droppertop_TopWire.mono_l k
  refine ⟨?_, ?_, ?_, ?_, ?_, ?_, ?_, ?_, ?_⟩
  intro y0 y1 y2 y3 y4 y5 y6 y7; unfold droppertop_TopWire.j0; rotate_left
  intro y0 y1 y2 y3 y4 y5 y6 y7 y8 y9 y10 y11 y12; unfold droppertop_TopWire.j1; rotate_left
  intro y0 y1 y2 y3 y4 y5 y6 y7 y8 y9 y10 y11 y12 y13 y14; unfold droppertop_TopWire.l0; rotate_left
  intro y0 y1 y2 y3 y4 y5 y6 y7 y8 y9 y10 y11 y12; unfold droppertop_TopWire.j3; rotate_left
  intro y0 y1 y2 y3 y4 y5 y6 y7 y8 y9 y10 y11 y12 y13; unfold droppertop_TopWire.j4; rotate_left
  intro y0 y1 y2 y3 y4 y5 y6 y7 y8 y9 y10 y11 y12 y13; unfold droppertop_TopWire.l1; rotate_left
  intro y0 y1 y2 y3 y4 y5 y6 y7 y8 y9 y10 y11 y12 y13 y14; unfold droppertop_TopWire.j6; rotate_left
  intro y0 y1 y2 y3 y4 y5 y6 y7 y8 y9 y10 y11 y12 y13 y14; unfold droppertop_TopWire.j7; rotate_left
  intro y0 y1 y2 y3 y4 y5 y6 y7 y8 y9 y10 y11 y12 y13 y14; unfold droppertop_TopWire.l2; rotate_left
  all_goals repeat' first
   | (with_reducible exact ih0 _ _ _ _ _ _ _ _)
   | (with_reducible exact ih1 _ _ _ _ _ _ _ _ _ _ _ _ _)
   | (with_reducible exact ih2 _ _ _ _ _ _ _ _ _ _ _ _ _ _ _)
   | (with_reducible exact ih3 _ _ _ _ _ _ _ _ _ _ _ _ _)
   | (with_reducible exact ih4 _ _ _ _ _ _ _ _ _ _ _ _ _ _)
   | (with_reducible exact ih5 _ _ _ _ _ _ _ _ _ _ _ _ _ _)
   | (with_reducible exact ih6 _ _ _ _ _ _ _ _ _ _ _ _ _ _ _)
   | (with_reducible exact ih7 _ _ _ _ _ _ _ _ _ _ _ _ _ _ _)
   | (with_reducible exact ih8 _ _ _ _ _ _ _ _ _ _ _ _ _ _ _)
   | (with_reducible exact dropperlaw02_Awake.mono _)
   | (with_reducible exact dropperlaw02_Large.mono _ _ _)
   | (with_reducible exact dropperref02_Valid.mono _ _)
   | (with_reducible exact droppertop_fits.mono _ _ _ _ _)
   | (with_reducible exact droppertop_lies.mono _ _ _ _)
   | (with_reducible exact wire_Clash.mono _ _ _ _)
   | (with_reducible exact wire_Clashes.mono _ _ _ _ _ _)
   | (with_reducible exact wire_Highest.mono _ _ _ _)
   | (with_reducible exact wire_Join.mono _ _ _)
   | (with_reducible exact wire_Lowest.mono _ _ _ _)
   | (with_reducible exact wire_Meet.mono _ _ _)
   | (with_reducible exact wire_Through.mono _ _ _ _ _ _)
   | (with_reducible exact LeO.refl _)
   | (with_reducible exact LeO.none _)
   | (with_reducible refine LeO.ite ?_ ?_)
   | (with_reducible refine LeO.bind ?_ (fun _ => ?_))
   | exact ih0 _ _ _ _ _ _ _ _
   | exact ih1 _ _ _ _ _ _ _ _ _ _ _ _ _
   | exact ih2 _ _ _ _ _ _ _ _ _ _ _ _ _ _ _
   | exact ih3 _ _ _ _ _ _ _ _ _ _ _ _ _
   | exact ih4 _ _ _ _ _ _ _ _ _ _ _ _ _ _
   | exact ih5 _ _ _ _ _ _ _ _ _ _ _ _ _ _
   | exact ih6 _ _ _ _ _ _ _ _ _ _ _ _ _ _ _
   | exact ih7 _ _ _ _ _ _ _ _ _ _ _ _ _ _ _
   | exact ih8 _ _ _ _ _ _ _ _ _ _ _ _ _ _ _
   | exact dropperlaw02_Awake.mono _
   | exact dropperlaw02_Large.mono _ _ _
   | exact dropperref02_Valid.mono _ _
   | exact droppertop_fits.mono _ _ _ _ _
   | exact droppertop_lies.mono _ _ _ _
   | exact wire_Clash.mono _ _ _ _
   | exact wire_Clashes.mono _ _ _ _ _ _
   | exact wire_Highest.mono _ _ _ _
   | exact wire_Join.mono _ _ _
   | exact wire_Lowest.mono _ _ _ _
   | exact wire_Meet.mono _ _ _
   | exact wire_Through.mono _ _ _ _ _ _
   | exact LeO.none _
   | refine LeO.ite ?_ ?_
   | refine LeO.bind ?_ (fun _ => ?_)
theorem droppertop_TopWire.mono : ∀ a0 a1 a2 a3 a4 a5 a6 k, LeO (droppertop_TopWire.f k a0 a1 a2 a3 a4 a5 a6) (droppertop_TopWire.f (k + 1) a0 a1 a2 a3 a4 a5 a6) := by
 intro a0 a1 a2 a3 a4 a5 a6 k
 obtain ⟨ih0, ih1, ih2, ih3, ih4, ih5, ih6, ih7, ih8⟩ := droppertop_TopWire.mono_l k
 unfold droppertop_TopWire.f
 repeat' first
   | (with_reducible exact ih0 _ _ _ _ _ _ _ _)
   | (with_reducible exact ih1 _ _ _ _ _ _ _ _ _ _ _ _ _)
   | (with_reducible exact ih2 _ _ _ _ _ _ _ _ _ _ _ _ _ _ _)
   | (with_reducible exact ih3 _ _ _ _ _ _ _ _ _ _ _ _ _)
   | (with_reducible exact ih4 _ _ _ _ _ _ _ _ _ _ _ _ _ _)
   | (with_reducible exact ih5 _ _ _ _ _ _ _ _ _ _ _ _ _ _)
   | (with_reducible exact ih6 _ _ _ _ _ _ _ _ _ _ _ _ _ _ _)
   | (with_reducible exact ih7 _ _ _ _ _ _ _ _ _ _ _ _ _ _ _)
   | (with_reducible exact ih8 _ _ _ _ _ _ _ _ _ _ _ _ _ _ _)
   | (with_reducible exact dropperlaw02_Awake.mono _)
   | (with_reducible exact dropperlaw02_Large.mono _ _ _)
   | (with_reducible exact dropperref02_Valid.mono _ _)
   | (with_reducible exact droppertop_fits.mono _ _ _ _ _)
   | (with_reducible exact droppertop_lies.mono _ _ _ _)
   | (with_reducible exact wire_Clash.mono _ _ _ _)
   | (with_reducible exact wire_Clashes.mono _ _ _ _ _ _)
   | (with_reducible exact wire_Highest.mono _ _ _ _)
   | (with_reducible exact wire_Join.mono _ _ _)
   | (with_reducible exact wire_Lowest.mono _ _ _ _)
   | (with_reducible exact wire_Meet.mono _ _ _)
   | (with_reducible exact wire_Through.mono _ _ _ _ _ _)
   | (with_reducible exact LeO.refl _)
   | (with_reducible exact LeO.none _)
   | (with_reducible refine LeO.ite ?_ ?_)
   | (with_reducible refine LeO.bind ?_ (fun _ => ?_))
   | exact ih0 _ _ _ _ _ _ _ _
   | exact ih1 _ _ _ _ _ _ _ _ _ _ _ _ _
   | exact ih2 _ _ _ _ _ _ _ _ _ _ _ _ _ _ _
   | exact ih3 _ _ _ _ _ _ _ _ _ _ _ _ _
   | exact ih4 _ _ _ _ _ _ _ _ _ _ _ _ _ _
   | exact ih5 _ _ _ _ _ _ _ _ _ _ _ _ _ _
   | exact ih6 _ _ _ _ _ _ _ _ _ _ _ _ _ _ _
   | exact ih7 _ _ _ _ _ _ _ _ _ _ _ _ _ _ _
   | exact ih8 _ _ _ _ _ _ _ _ _ _ _ _ _ _ _
   | exact dropperlaw02_Awake.mono _
   | exact dropperlaw02_Large.mono _ _ _
   | exact dropperref02_Valid.mono _ _
   | exact droppertop_fits.mono _ _ _ _ _
   | exact droppertop_lies.mono _ _ _ _
   | exact wire_Clash.mono _ _ _ _
   | exact wire_Clashes.mono _ _ _ _ _ _
   | exact wire_Highest.mono _ _ _ _
   | exact wire_Join.mono _ _ _
   | exact wire_Lowest.mono _ _ _ _
   | exact wire_Meet.mono _ _ _
   | exact wire_Through.mono _ _ _ _ _ _
   | exact LeO.none _
   | refine LeO.ite ?_ ?_
   | refine LeO.bind ?_ (fun _ => ?_)
end Go.Proofs.Ytciepmpadcpkbaa.G
