-- Written by a program of this session (hprint.py), out of the translation; functions that the print does not take are given by hand.
import Derived.Test.YtajacjklmabomaaPx11
namespace Go.Proofs.Ytajacjklmabomaa.P
open Go.RowKit Go.Proofs.YtajacjklmabomaaW.PrintWords Go.Proofs.YtajacjklmabomaaW.PrintLast
/-- The one pure statement of fuseelaw03_RingBack. -/
def fuseelaw03_RingBack.Pure : Prop := ∀ (l0 : List Bool) (a1 : Bool), l0.length ≤ maxLen → l0.length * 1 ≤ 140737488351232 → ∃ k, fuseelaw03_RingBack.f k l0 a1 = some true
end Go.Proofs.Ytajacjklmabomaa.P
