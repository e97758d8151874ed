/- The chapter's example holds. No condition. -/
import Derived.Test.YtkcpkglplhgjfaaPx3
namespace Go.Proofs.Ytkcpkglplhgjfaa.Pure
open Go.RowKit Go.Proofs.Ytkcpkglplhgjfaa.P
theorem awake06 : fuseelaw06_awake.f = some true := by decide +kernel
end Go.Proofs.Ytkcpkglplhgjfaa.Pure
