/- At the period of units a task has no more than these; at a lesser one it would have more; there is one just where its least is no more. No condition. -/
import Derived.Test.YtcgplkcjanakcaaQPeriodUnits
import Derived.Test.YtcgplkcjanakcaaLibPeriod
namespace Go.Proofs.Ytcgplkcjanakcaa.Pure
open Go.RowKit Go.Proofs.Ytcgplkcjanakcaa.P Go.Proofs.YtcgplkcjanakcaaW.PrintWords Go.Proofs.YtcgplkcjanakcaaW.PrintLast
set_option linter.unusedVariables false
set_option linter.unusedSimpArgs false
theorem PeriodUnits : fuseelaw08_PeriodUnits.Pure := by
  intro C T X M K E u _ _ _ _ _ _ _
  refine ⟨20, ?_⟩
  unfold fuseelaw08_PeriodUnits.f
  rw [awake08 (by omega)]
  simp only [Option.bind_some, if_true]
  by_cases h : okS C T X M K E
  · rw [may_ok h]
    simp only [Option.bind_some, if_true]
    by_cases c1 : u < 1
    · rw [if_pos c1]
    rw [if_neg c1]
    by_cases c2 : u > 1048576
    · rw [if_pos c2]
    rw [if_neg c2, pof_eq h (by omega) (by omega) 19]
    have hx := h.2.2.2.1
    have hl : units_Least.f C T X M K E = some (unitsOf C M K X) := by
      unfold units_Least.f; rw [at_ok h hx (Int.le_refl _)]; rfl
    have hle := at_le h hx (Int.le_refl X) (show 1 ≤ u by omega)
    rw [hl]
    by_cases c : leastP C M K u ≤ X
    · rw [if_pos c]
      simp only [Option.bind_some]
      rw [decide_eq_true (hle.2 c), if_neg (by decide), if_pos trivial, if_pos (by omega), if_pos (by omega), at_ok h (by omega) (by omega)]
      simp only [Option.bind_some]
      rw [if_pos ((at_le h (by omega) (by omega) (by omega)).2 (by omega))]
      by_cases c3 : max (leastP C M K u) T = T
      · rw [if_pos c3]
      · have hT := h.1
        have hT2 := h.2.2.1
        rw [if_neg c3, w64 (by have := h.2.2.2.2.1; omega) (by have := h.2.2.2.2.1; omega), at_ok h (by omega) (by omega)]
        simp only [Option.bind_some]
        rw [decide_eq_true]
        refine Int.not_le.1 fun q => ?_
        have := (at_le h (by omega) (by omega) (by omega)).1 q
        omega
    · rw [if_neg c]
      simp only [Option.bind_some]
      rw [decide_eq_false (fun q => c (hle.1 q)), if_neg (by decide), if_neg (by decide), if_pos trivial]
  · rw [may_no h]
    rfl
end Go.Proofs.Ytcgplkcjanakcaa.Pure
