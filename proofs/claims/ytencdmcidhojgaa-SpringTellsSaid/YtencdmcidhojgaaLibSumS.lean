/- Plain laws of what a list has together. No condition but each lemma's own. -/
import Derived.Test.YtencdmcidhojgaaPx2
import Derived.Test.YtencdmcidhojgaaLibNum
namespace Go.Proofs.Ytencdmcidhojgaa.Pure
open Go.RowKit Go.Proofs.Ytencdmcidhojgaa.P Go.Proofs.YtencdmcidhojgaaW.PrintWords Go.Proofs.YtencdmcidhojgaaW.PrintLast
set_option linter.unusedVariables false
set_option linter.unusedSimpArgs false
/-- A list that may be summed up. -/
def okL (l : List Int) : Prop := l.length ≤ 1000 ∧ l.any units_Sum.bad = false
theorem okL_nil : okL [] := ⟨by simp, rfl⟩
theorem sum_ok {l : List Int} (h : okL l) : units_Sum.f l = some (l.sum, true) := by
  unfold units_Sum.f
  exact if_pos h
theorem sum_no {l : List Int} (h : ¬ okL l) : units_Sum.f l = some (0, false) := by
  unfold units_Sum.f
  exact if_neg h
theorem bad_iff (x : Int) : units_Sum.bad x = false ↔ 0 ≤ x ∧ x ≤ 1099511627776 := by
  unfold units_Sum.bad
  rw [Bool.or_eq_false_iff, decide_eq_false_iff_not, decide_eq_false_iff_not]
  omega
theorem sum_bounds : ∀ (l : List Int), l.any units_Sum.bad = false → 0 ≤ l.sum ∧ l.sum ≤ l.length * 1099511627776
  | [], _ => by simp
  | x :: t, h => by
    simp only [List.any_cons, Bool.or_eq_false_iff] at h
    have := (bad_iff x).1 h.1
    have := sum_bounds t h.2
    simp only [List.sum_cons, List.length_cons]
    omega
theorem sum_append (l m : List Int) : (l ++ m).sum = l.sum + m.sum := by
  induction l with
  | nil => simp
  | cons x t ih => simp only [List.cons_append, List.sum_cons, ih]; omega
theorem sum_reverse (l : List Int) : l.reverse.sum = l.sum := by
  induction l with
  | nil => rfl
  | cons x t ih => rw [List.reverse_cons, sum_append, ih]; simp; omega
end Go.Proofs.Ytencdmcidhojgaa.Pure
