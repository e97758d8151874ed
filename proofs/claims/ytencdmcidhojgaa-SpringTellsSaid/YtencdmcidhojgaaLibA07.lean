/- The chapter's example holds. No condition. -/
import Derived.Test.YtencdmcidhojgaaPx6
namespace Go.Proofs.Ytencdmcidhojgaa.Pure
open Go.RowKit Go.Proofs.Ytencdmcidhojgaa.P Go.Proofs.YtencdmcidhojgaaW.PrintWords Go.Proofs.YtencdmcidhojgaaW.PrintLast Go.Proofs.YtencdmcidhojgaaW.PrintMore
theorem awake07 {f : Nat} (hf : 100 ≤ f) : fuseelaw07_awake.f f = some true :=
  at_rounds fuseelaw07_awake.mono hf (by decide +kernel : fuseelaw07_awake.f 100 = some true)
end Go.Proofs.Ytencdmcidhojgaa.Pure
