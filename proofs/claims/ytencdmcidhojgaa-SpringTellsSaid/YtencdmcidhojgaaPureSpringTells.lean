/- THE STAGE'S THEOREM: any springs may be, or not, have room, or not, and have the force, and the units, that the document says. No condition. -/
import Derived.Test.YtencdmcidhojgaaQSpringTells
import Derived.Test.YtencdmcidhojgaaLibSpringRef3
import Derived.Test.YtencdmcidhojgaaLibInts
import Derived.Test.YtencdmcidhojgaaLibA07
namespace Go.Proofs.Ytencdmcidhojgaa.Pure
open Go.RowKit Go.Proofs.Ytencdmcidhojgaa.P Go.Proofs.YtencdmcidhojgaaW.PrintWords Go.Proofs.YtencdmcidhojgaaW.PrintLast
set_option linter.unusedVariables false
set_option linter.unusedSimpArgs false
theorem SpringTells : fuseelaw07_SpringTells.Pure := by
  intro l load _ _ _ _
  refine ⟨3000, ?_⟩
  unfold fuseelaw07_SpringTells.f
  rw [awake07 (by omega), Option.bind_some, if_pos rfl]
  by_cases c : (l.length : Int) > 10
  · rw [if_pos c]
  rw [if_neg c]
  have hl : l.length ≤ 10 := by omega
  rw [rforce_eq l load (by omega) (by omega), rpress_eq l load (by omega) (by omega), mayP_eq l (by omega), rmayP_eq l (by omega) (by omega), roomP_eq l load (by omega), rroomP_eq l load (by omega) (by omega)]
  by_cases h : roomP l load
  · obtain ⟨a, b, hi, hf, hp⟩ := press_ok h (k := 3000) (by omega)
    rw [hf, hp]
    simp only [Option.bind_some, beq_self_eq_true, if_true]
    rw [ints_eq _ (by rw [List.length_map]; omega) (by rw [List.length_map]; omega)]
    rfl
  · rw [force_no h (by omega), press_no h (by omega)]
    simp only [Option.bind_some, beq_self_eq_true, if_true]
    rw [ints_eq _ (by simp) (by simp)]
    rfl
end Go.Proofs.Ytencdmcidhojgaa.Pure
