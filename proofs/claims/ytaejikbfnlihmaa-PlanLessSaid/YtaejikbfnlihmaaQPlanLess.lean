-- Written by a program of this session (hprint.py), out of the translation; functions that the print does not take are given by hand.
import Derived.Test.YtaejikbfnlihmaaPx30
namespace Go.Proofs.Ytaejikbfnlihmaa.P
open Go.RowKit Go.Proofs.YtaejikbfnlihmaaW.PrintWords Go.Proofs.YtaejikbfnlihmaaW.PrintLast
/-- The one pure statement of fuseelaw10_PlanLess. -/
def fuseelaw10_PlanLess.Pure : Prop := ∀ (l0 : List (S40)) (a1 : Int), l0.length ≤ maxLen → l0.length * 48 ≤ 140737488351232 → (∀ x ∈ l0, (Lit.int .i64 x.f0).wf = true ∧ (Lit.int .i64 x.f1).wf = true ∧ (Lit.int .i64 x.f2).wf = true ∧ (Lit.int .i64 x.f3).wf = true ∧ (Lit.int .i64 x.f4).wf = true ∧ (Lit.int .i64 x.f5).wf = true) → (Lit.int .i64 a1).wf = true → ∃ k, fuseelaw10_PlanLess.f k l0 a1 = some true
end Go.Proofs.Ytaejikbfnlihmaa.P
