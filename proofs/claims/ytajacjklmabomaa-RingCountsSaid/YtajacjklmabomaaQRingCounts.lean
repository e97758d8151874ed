-- Written by a program of this session (hprint.py), out of the translation; functions that the print does not take are given by hand.
import Derived.Test.YtajacjklmabomaaPx12
namespace Go.Proofs.Ytajacjklmabomaa.P
open Go.RowKit Go.Proofs.YtajacjklmabomaaW.PrintWords Go.Proofs.YtajacjklmabomaaW.PrintLast
/-- The one pure statement of fuseelaw03_RingCounts. -/
def fuseelaw03_RingCounts.Pure : Prop := ∀ (a0_0 : Int) (a0_1 : Int) (a1 : Int), (Lit.int .i64 a0_0).wf = true → (Lit.int .u64 a0_1).wf = true → (Lit.int .i64 a1).wf = true → ∃ k, fuseelaw03_RingCounts.f k a0_0 a0_1 a1 = some true
end Go.Proofs.Ytajacjklmabomaa.P
