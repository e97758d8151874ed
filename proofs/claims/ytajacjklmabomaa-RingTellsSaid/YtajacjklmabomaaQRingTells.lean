-- Written by a program of this session (hprint.py), out of the translation; functions that the print does not take are given by hand.
import Derived.Test.YtajacjklmabomaaPx10
namespace Go.Proofs.Ytajacjklmabomaa.P
open Go.RowKit Go.Proofs.YtajacjklmabomaaW.PrintWords Go.Proofs.YtajacjklmabomaaW.PrintLast
/-- The one pure statement of fuseelaw03_RingTells. -/
def fuseelaw03_RingTells.Pure : Prop := ∀ (a0_0 : Int) (a0_1 : Int) (a1 : Bool) (l2 : List Bool) (a3 : Int) (a4 : Int) (a5 : Int), (Lit.int .i64 a0_0).wf = true → (Lit.int .u64 a0_1).wf = true → l2.length ≤ maxLen → l2.length * 1 ≤ 140737488351232 → (Lit.int .i64 a3).wf = true → (Lit.int .i64 a4).wf = true → (Lit.int .i64 a5).wf = true → ∃ k, fuseelaw03_RingTells.f k a0_0 a0_1 a1 l2 a3 a4 a5 = some true
end Go.Proofs.Ytajacjklmabomaa.P
