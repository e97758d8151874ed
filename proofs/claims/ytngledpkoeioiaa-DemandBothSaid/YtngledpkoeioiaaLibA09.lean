/- The chapter's example holds. No condition. -/
import Derived.Test.YtngledpkoeioiaaPx6
import Derived.Test.YtngledpkoeioiaaLibDemandTest
namespace Go.Proofs.Ytngledpkoeioiaa.Pure
open Go.RowKit Go.Proofs.Ytngledpkoeioiaa.P Go.Proofs.YtngledpkoeioiaaW.PrintWords Go.Proofs.YtngledpkoeioiaaW.PrintLast Go.Proofs.YtngledpkoeioiaaW.PrintMore
theorem awake09 {f : Nat} (hf : 1000 ≤ f) : fuseelaw09_awake.f f = some true :=
  at_rounds fuseelaw09_awake.mono hf (by decide +kernel : fuseelaw09_awake.f 1000 = some true)
end Go.Proofs.Ytngledpkoeioiaa.Pure
