/- Two lists have together what both have; with more none fit that did not. No condition. -/
import Derived.Test.YtkcpkglplhgjfaaPx8
import Derived.Test.YtkcpkglplhgjfaaLibSum
import Derived.Test.YtkcpkglplhgjfaaLibA06
namespace Go.Proofs.Ytkcpkglplhgjfaa.Pure
open Go.RowKit Go.Proofs.Ytkcpkglplhgjfaa.P Go.Proofs.YtkcpkglplhgjfaaW.PrintWords Go.Proofs.YtkcpkglplhgjfaaW.PrintLast
set_option linter.unusedVariables false
set_option linter.unusedSimpArgs false
theorem UnitsParts : fuseelaw06_UnitsParts.Pure := by
  intro l m _ hl _ _ hm _
  refine ⟨2, ?_⟩
  unfold fuseelaw06_UnitsParts.f
  rw [awake06]
  simp only [Option.bind_some, if_true]
  have out : fuseelaw06_UnitsParts.j0 2 l m true true = some true := by rw [fuseelaw06_UnitsParts.j0, if_pos rfl]
  by_cases c1 : (l.length : Int) > 500
  · rw [if_pos c1]; exact out
  rw [if_neg c1]
  by_cases c2 : (m.length : Int) > 500
  · rw [decide_eq_true c2]; exact out
  rw [decide_eq_false c2, fuseelaw06_UnitsParts.j0, if_neg (by decide), if_pos (by simp; omega)]
  simp only [Option.bind_some, List.nil_append]
  rw [if_pos (by omega)]
  have any_app : (l ++ m).any units_Sum.bad = (l.any units_Sum.bad || m.any units_Sum.bad) := List.any_append
  by_cases h1 : okL l
  · by_cases h2 : okL m
    · have h3 : okL (l ++ m) := ⟨by rw [List.length_append]; omega, by rw [any_app, h1.2, h2.2]; rfl⟩
      have b1 := sum_bounds l h1.2
      have b2 := sum_bounds m h2.2
      rw [sum_ok h1, sum_ok h2, sum_ok h3]
      simp only [Option.bind_some, if_true]
      rw [if_neg (by decide), w64 (by omega) (by omega), sum_append, if_pos rfl, fuseelaw06_UnitsParts.j1, if_neg (by decide), fits_ok h3, fits_ok h1, fits_ok h2, sum_append]
      simp only [Option.bind_some]
      by_cases c : l.sum + m.sum ≤ 983040
      · rw [decide_eq_true c, if_pos rfl, decide_eq_true (by omega), if_pos rfl, decide_eq_true (by omega)]
      · rw [decide_eq_false c, if_neg (by decide)]
    · have h3 : ¬ okL (l ++ m) := fun q => h2 ⟨by omega, by
        have := q.2
        rw [any_app, Bool.or_eq_false_iff] at this
        exact this.2⟩
      rw [sum_ok h1, sum_no h2, sum_no h3]
      simp only [Option.bind_some, if_true]
      rw [if_neg (by decide), if_neg (by decide), show ((0 : Int) != 0) = false from rfl, fuseelaw06_UnitsParts.j1, if_neg (by decide), fits_no h3]
      rfl
  · have h3 : ¬ okL (l ++ m) := fun q => h1 ⟨by omega, by
      have := q.2
      rw [any_app, Bool.or_eq_false_iff] at this
      exact this.1⟩
    obtain ⟨p, hp⟩ : ∃ p, units_Sum.f m = some p := by
      by_cases h : okL m
      · exact ⟨_, sum_ok h⟩
      · exact ⟨_, sum_no h⟩
    rw [sum_no h1, hp, sum_no h3]
    simp only [Option.bind_some]
    rw [if_neg (by decide), if_neg (by decide), if_neg (by decide), show ((0 : Int) != 0) = false from rfl, fuseelaw06_UnitsParts.j1, if_neg (by decide), fits_no h3]
    rfl
end Go.Proofs.Ytkcpkglplhgjfaa.Pure
