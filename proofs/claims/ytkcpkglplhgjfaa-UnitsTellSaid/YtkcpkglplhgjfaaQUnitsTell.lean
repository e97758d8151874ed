-- Written by a program of this session (hprint.py), out of the translation; functions that the print does not take are given by hand.
import Derived.Test.YtkcpkglplhgjfaaPx6
namespace Go.Proofs.Ytkcpkglplhgjfaa.P
open Go.RowKit Go.Proofs.YtkcpkglplhgjfaaW.PrintWords Go.Proofs.YtkcpkglplhgjfaaW.PrintLast
/-- The one pure statement of fuseelaw06_UnitsTell. -/
def fuseelaw06_UnitsTell.Pure : Prop := ∀ (a0_0 : Int) (a0_1 : Int) (a0_2 : Int) (a0_3 : Int) (a0_4 : Int) (a0_5 : Int) (a1 : Int) (l2 : List Int), (Lit.int .i64 a0_0).wf = true → (Lit.int .i64 a0_1).wf = true → (Lit.int .i64 a0_2).wf = true → (Lit.int .i64 a0_3).wf = true → (Lit.int .i64 a0_4).wf = true → (Lit.int .i64 a0_5).wf = true → (Lit.int .i64 a1).wf = true → l2.length ≤ maxLen → l2.length * 8 ≤ 140737488351232 → (∀ x ∈ l2, (Lit.int .i64 x).wf = true) → ∃ k, fuseelaw06_UnitsTell.f k a0_0 a0_1 a0_2 a0_3 a0_4 a0_5 a1 l2 = some true
end Go.Proofs.Ytkcpkglplhgjfaa.P
