-- Written by a program of this session (hprint.py), out of the translation; functions that the print does not take are given by hand.
import Derived.Test.YtencdmcidhojgaaPx11
namespace Go.Proofs.Ytencdmcidhojgaa.P
open Go.RowKit Go.Proofs.YtencdmcidhojgaaW.PrintWords Go.Proofs.YtencdmcidhojgaaW.PrintLast
/-- The one pure statement of fuseelaw07_SpringTells. -/
def fuseelaw07_SpringTells.Pure : Prop := ∀ (l0 : List (S33)) (a1 : Int), l0.length ≤ maxLen → l0.length * 24 ≤ 140737488351232 → (∀ x ∈ l0, (Lit.int .i64 x.f0).wf = true ∧ (Lit.int .i64 x.f1).wf = true ∧ (Lit.int .i64 x.f2).wf = true) → (Lit.int .i64 a1).wf = true → ∃ k, fuseelaw07_SpringTells.f k l0 a1 = some true
end Go.Proofs.Ytencdmcidhojgaa.P
