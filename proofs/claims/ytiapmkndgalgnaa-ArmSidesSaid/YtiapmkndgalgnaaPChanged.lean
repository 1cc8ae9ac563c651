/- Windows that are changed one by one, and lists of windows that are the same. Plain Lean. -/
import Derived.Test.YtiapmkndgalgnaaPValid
import Derived.Test.YtiapmkndgalgnaaGF65
import Derived.Test.YtiapmkndgalgnaaGF38
namespace Go.Proofs.Ytiapmkndgalgnaa.G
set_option linter.unusedVariables false
open Go.RowKit Go.Proofs.YtiapmkndgalgnaaW.PrintWords Go.Proofs.YtiapmkndgalgnaaW.PrintLast

theorem changed_loop {fn : Int → Int → Int → Option (Int × Int × Int)} {g : S73 → S73} {l : List S73} (hl : l.length ≤ 30) (hg : ∀ x ∈ l, fn x.f0 x.f1 x.f2 = some ((g x).f0, (g x).f1, (g x).f2)) : ∀ (d i : Nat) (out : List S73), l.length - i = d → i ≤ l.length → out.length ≤ i →
    Ev (fun k => arm_changed.l0 k fn out l l.length i) (out ++ (l.drop i).map g, 0) := by
  intro d
  induction d with
  | zero =>
    intro i out hd hi ho
    obtain rfl : i = l.length := by omega
    refine ev_some _ fun k => ?_
    rw [arm_changed.l0, if_neg (by omega), List.drop_length]
    simp
  | succ d ih =>
    intro i out hd hi ho
    have hlt : i < l.length := by omega
    have hw : wrap64 ((i : Int) + 1) = ((i + 1 : Nat) : Int) := by unfold wrap64; omega
    have q1 : (i : Int) < (l.length : Int) := by omega
    have q2 : (0 : Int) ≤ (i : Int) := by omega
    have q3 : out.length < 5864062014805 := by omega
    have hx := hg (rd_T73 l (i : Int)) (by rw [rd_nat l i hlt]; exact List.getElem_mem hlt)
    have e := ih (i + 1) (out ++ [g (rd_T73 l (i : Int))]) (by omega) (by omega) (by rw [List.length_append]; simp; omega)
    rw [drop_rd l i hlt, List.map_cons]
    rw [List.append_assoc] at e
    refine Ev.step (fun k => ?_) e
    rw [arm_changed.l0, if_pos q1, if_pos q2, if_pos q1, hx]
    simp only [Option.bind_some]
    rw [if_pos q3, hw]

theorem changed_ev {fn : Int → Int → Int → Option (Int × Int × Int)} {g : S73 → S73} {l : List S73} (hl : l.length ≤ 4611686018427387904) (hg : okV l = true → ∀ x ∈ l, fn x.f0 x.f1 x.f2 = some ((g x).f0, (g x).f1, (g x).f2)) :
    Ev (fun k => arm_changed.f k l fn) (if okV l = true then (l.map g, 0) else ([], 20)) := by
  have v1 := arm_valid_ev l hl
  cases hv : okV l with
  | false => rw [hv] at v1; exact Ev.bind v1 (Ev.now _)
  | true =>
    rw [hv] at v1
    have h30 : l.length ≤ 30 := by
      simp only [okV, Bool.and_eq_true, decide_eq_true_eq] at hv
      exact hv.1.2
    refine Ev.bind v1 ?_
    simp only [if_true]
    simpa using changed_loop h30 (hg hv) l.length 0 [] (by omega) (by omega) (by simp)

theorem same_loop (l : List S73) (hl : l.length ≤ 4611686018427387904) : ∀ (d i : Nat), l.length - i = d → i ≤ l.length → Ev (fun k => dropperlaw03_same.l0 k l l i) true := by
  intro d
  induction d with
  | zero =>
    intro i hd hi
    refine ev_some _ fun k => ?_
    rw [dropperlaw03_same.l0, if_neg (by omega)]
  | succ d ih =>
    intro i hd hi
    have hw : wrap64 ((i : Int) + 1) = ((i + 1 : Nat) : Int) := by unfold wrap64; omega
    refine Ev.step (fun k => ?_) (ih (i + 1) (by omega) (by omega))
    rw [dropperlaw03_same.l0, if_pos (by omega), if_pos (by omega), if_pos (by omega), hw]
    simp
theorem same_ev (l : List S73) (hl : l.length ≤ 4611686018427387904) : Ev (fun k => dropperlaw03_same.f k l l) true := by
  refine Ev.congr (fun k => ?_) (same_loop l hl l.length 0 (by omega) (by omega))
  unfold dropperlaw03_same.f
  rw [if_pos rfl]; rfl
theorem mn_comm (a b : Int) : mn a b = mn b a := by unfold mn; repeat' split <;> omega
end Go.Proofs.Ytiapmkndgalgnaa.G
