-- Written by a program of this session (hprint.py), out of the translation; functions that the print does not take are given by hand.
import Derived.Test.YtngledpkoeioiaaPx7
namespace Go.Proofs.Ytngledpkoeioiaa.P
open Go.RowKit Go.Proofs.YtngledpkoeioiaaW.PrintWords Go.Proofs.YtngledpkoeioiaaW.PrintLast
/-- The one pure statement of fuseelaw09_DemandMore. -/
def fuseelaw09_DemandMore.Pure : Prop := ∀ (l0 : List (S26)) (a1_0 : Int) (a1_1 : Int) (a1_2 : Int) (a1_3 : Int) (a1_4 : Int) (a1_5 : Int) (a1_6 : Int) (a2 : Int) (a3 : Int) (a4 : Int), l0.length ≤ maxLen → l0.length * 56 ≤ 140737488351232 → (∀ x ∈ l0, (Lit.int .i64 x.f0.f0).wf = true ∧ (Lit.int .i64 x.f0.f1).wf = true ∧ (Lit.int .i64 x.f0.f2).wf = true ∧ (Lit.int .i64 x.f0.f3).wf = true ∧ (Lit.int .i64 x.f0.f4).wf = true ∧ (Lit.int .i64 x.f0.f5).wf = true ∧ (Lit.int .i64 x.f1).wf = true) → (Lit.int .i64 a1_0).wf = true → (Lit.int .i64 a1_1).wf = true → (Lit.int .i64 a1_2).wf = true → (Lit.int .i64 a1_3).wf = true → (Lit.int .i64 a1_4).wf = true → (Lit.int .i64 a1_5).wf = true → (Lit.int .i64 a1_6).wf = true → (Lit.int .i64 a2).wf = true → (Lit.int .i64 a3).wf = true → (Lit.int .i64 a4).wf = true → ∃ k, fuseelaw09_DemandMore.f k l0 a1_0 a1_1 a1_2 a1_3 a1_4 a1_5 a1_6 a2 a3 a4 = some true
end Go.Proofs.Ytngledpkoeioiaa.P
