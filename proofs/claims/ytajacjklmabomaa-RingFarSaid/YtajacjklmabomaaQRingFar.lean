-- Written by a program of this session (hprint.py), out of the translation; functions that the print does not take are given by hand.
import Derived.Test.YtajacjklmabomaaPx5
namespace Go.Proofs.Ytajacjklmabomaa.P
open Go.RowKit Go.Proofs.YtajacjklmabomaaW.PrintWords Go.Proofs.YtajacjklmabomaaW.PrintLast
/-- The one pure statement of fuseelaw03_RingFar. -/
def fuseelaw03_RingFar.Pure : Prop := ∀ (l0 : List Bool) (a1 : Int) (a2 : Int), l0.length ≤ maxLen → l0.length * 1 ≤ 140737488351232 → (Lit.int .i64 a1).wf = true → (Lit.int .i64 a2).wf = true → ∃ k, fuseelaw03_RingFar.f k l0 a1 a2 = some true
end Go.Proofs.Ytajacjklmabomaa.P
