-- Written by a program of this session (hprint.py), out of the translation; functions that the print does not take are given by hand.
import Derived.Test.YtaejikbfnlihmaaPx27
namespace Go.Proofs.Ytaejikbfnlihmaa.P
open Go.RowKit Go.Proofs.YtaejikbfnlihmaaW.PrintWords Go.Proofs.YtaejikbfnlihmaaW.PrintLast
/-- The one pure statement of fuseelaw10_PlanTells. -/
def fuseelaw10_PlanTells.Pure : Prop := ∀ (l0 : List (S40)) (l1 : List (S42)) (a2 : Int), l0.length ≤ maxLen → l0.length * 48 ≤ 140737488351232 → (∀ x ∈ l0, (Lit.int .i64 x.f0).wf = true ∧ (Lit.int .i64 x.f1).wf = true ∧ (Lit.int .i64 x.f2).wf = true ∧ (Lit.int .i64 x.f3).wf = true ∧ (Lit.int .i64 x.f4).wf = true ∧ (Lit.int .i64 x.f5).wf = true) → l1.length ≤ maxLen → l1.length * 56 ≤ 140737488351232 → (∀ x ∈ l1, (Lit.int .i64 x.f0.f0).wf = true ∧ (Lit.int .i64 x.f0.f1).wf = true ∧ (Lit.int .i64 x.f0.f2).wf = true ∧ (Lit.int .i64 x.f0.f3).wf = true ∧ (Lit.int .i64 x.f0.f4).wf = true ∧ (Lit.int .i64 x.f0.f5).wf = true ∧ (Lit.int .i64 x.f1).wf = true) → (Lit.int .i64 a2).wf = true → ∃ k, fuseelaw10_PlanTells.f k l0 l1 a2 = some true
end Go.Proofs.Ytaejikbfnlihmaa.P
