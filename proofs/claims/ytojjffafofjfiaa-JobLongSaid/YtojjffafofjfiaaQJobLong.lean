-- Written by a program of this session (hprint.py), out of the translation; functions that the print does not take are given by hand.
import Derived.Test.YtojjffafofjfiaaPx12
namespace Go.Proofs.Ytojjffafofjfiaa.P
open Go.RowKit Go.Proofs.YtojjffafofjfiaaW.PrintWords Go.Proofs.YtojjffafofjfiaaW.PrintLast
/-- The one pure statement of fuseelaw11_JobLong. -/
def fuseelaw11_JobLong.Pure : Prop := ∀ (a0_0 : Int) (a0_1 : Int) (a0_2 : Int) (a0_3 : Int) (a0_4 : Int) (a0_5 : Int) (a1_0 : Bool) (a1_1 : Int) (a1_2 : Int) (a1_3 : Int) (a1_4 : Bool) (a1_5 : Int) (a1_6 : Int) (a1_7 : Int) (a2 : Int), (Lit.int .i64 a0_0).wf = true → (Lit.int .i64 a0_1).wf = true → (Lit.int .i64 a0_2).wf = true → (Lit.int .i64 a0_3).wf = true → (Lit.int .i64 a0_4).wf = true → (Lit.int .i64 a0_5).wf = true → (Lit.int .i64 a1_1).wf = true → (Lit.int .i64 a1_2).wf = true → (Lit.int .i64 a1_3).wf = true → (Lit.int .i64 a1_5).wf = true → (Lit.int .i64 a1_6).wf = true → (Lit.int .i64 a1_7).wf = true → (Lit.int .i64 a2).wf = true → fuseelaw11_JobLong.f a0_0 a0_1 a0_2 a0_3 a0_4 a0_5 a1_0 a1_1 a1_2 a1_3 a1_4 a1_5 a1_6 a1_7 a2 = some true
end Go.Proofs.Ytojjffafofjfiaa.P
