/- What is left of a job whose numbers are small. -/
import Derived.Test.YtceldebkpjgmkaaPx3
namespace Go.Proofs.Ytceldebkpjgmkaa.Pure
open Go.RowKit Go.Proofs.Ytceldebkpjgmkaa.P Go.Proofs.YtceldebkpjgmkaaW.PrintWords Go.Proofs.YtceldebkpjgmkaaW.PrintLast Go.Proofs.YtceldebkpjgmkaaW.PrintMore
set_option linter.unusedVariables false
set_option linter.unusedSimpArgs false
theorem spec_w64 {x : Int} (h0 : -9223372036854775808 ≤ x) (h1 : x ≤ 9223372036854775807) : wrap64 x = x := by unfold wrap64; omega
/-- What is left of a job, and for how long it may run, where its numbers are small. -/
theorem jleft_on {J R D c d r : Int} {Md : Bool} (h0 : -4611686018427387904 ≤ c) (h1 : c ≤ 4611686018427387904) (h2 : -4611686018427387904 ≤ d) (h3 : d ≤ 4611686018427387904) (h4 : -4611686018427387903 ≤ r) (h5 : r ≤ 4611686018427387904) :
    job_Left.f true J R D Md c d r = some (max (min (c - r) (d - r)) 0) := by
  unfold job_Left.f
  rw [if_pos rfl, spec_w64 (by omega) (by omega), spec_w64 (by omega) (by omega)]
  congr 1
  unfold mx mn
  split <;> split <;> omega
end Go.Proofs.Ytceldebkpjgmkaa.Pure
