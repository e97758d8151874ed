/- One that is ahead of another one: an order. No condition. -/
import Derived.Test.YtceldebkpjgmkaaPx3
import Derived.Test.YtceldebkpjgmkaaPx6
namespace Go.Proofs.Ytceldebkpjgmkaa.Pure
open Go.RowKit Go.Proofs.Ytceldebkpjgmkaa.P Go.Proofs.YtceldebkpjgmkaaW.PrintWords Go.Proofs.YtceldebkpjgmkaaW.PrintLast Go.Proofs.YtceldebkpjgmkaaW.PrintMore
set_option linter.unusedVariables false
set_option linter.unusedSimpArgs false
theorem awake14 {f : Nat} (hf : 100 ≤ f) : fuseelaw14_awake.f f = some true :=
  at_rounds fuseelaw14_awake.mono hf (by decide +kernel : fuseelaw14_awake.f 100 = some true)
theorem less_eq (a0 a1 a2 b0 b1 b2 : Int) : option_Less.f a0 a1 a2 b0 b1 b2 = some (option_Less.lt a0 a1 a2 b0 b1 b2) := rfl
theorem lt_iff {a0 a1 a2 b0 b1 b2 : Int} : option_Less.lt a0 a1 a2 b0 b1 b2 = true ↔ (a0 < b0 ∨ a0 = b0 ∧ (a1 < b1 ∨ a1 = b1 ∧ a2 < b2)) := decide_eq_true_iff
theorem lt_no {a0 a1 a2 b0 b1 b2 : Int} : option_Less.lt a0 a1 a2 b0 b1 b2 = false ↔ ¬ (a0 < b0 ∨ a0 = b0 ∧ (a1 < b1 ∨ a1 = b1 ∧ a2 < b2)) := decide_eq_false_iff_not
end Go.Proofs.Ytceldebkpjgmkaa.Pure
