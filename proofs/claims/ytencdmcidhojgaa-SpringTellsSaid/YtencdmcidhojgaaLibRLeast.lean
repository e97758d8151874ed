/- The document's least of a spring. No condition. -/
import Derived.Test.YtencdmcidhojgaaPx7
import Derived.Test.YtencdmcidhojgaaLibSpringPress
namespace Go.Proofs.Ytencdmcidhojgaa.Pure
open Go.RowKit Go.Proofs.Ytencdmcidhojgaa.P Go.Proofs.YtencdmcidhojgaaW.PrintWords Go.Proofs.YtencdmcidhojgaaW.PrintLast Go.Proofs.YtencdmcidhojgaaW.PrintMore
set_option linter.unusedVariables false
set_option linter.unusedSimpArgs false
theorem rleast_eq (s : Spr) : fuseeref07_Least.f s.f0 s.f1 s.f2 = some (lst s) := by
  unfold fuseeref07_Least.f lst
  split <;> rfl
end Go.Proofs.Ytencdmcidhojgaa.Pure
