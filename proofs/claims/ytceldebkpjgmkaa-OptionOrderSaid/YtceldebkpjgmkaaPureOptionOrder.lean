/- Of any two one is ahead, or they are the same; what is ahead of what is ahead is ahead. No condition. -/
import Derived.Test.YtceldebkpjgmkaaQOptionOrder
import Derived.Test.YtceldebkpjgmkaaLibLess
namespace Go.Proofs.Ytceldebkpjgmkaa.Pure
open Go.RowKit Go.Proofs.Ytceldebkpjgmkaa.P Go.Proofs.YtceldebkpjgmkaaW.PrintWords Go.Proofs.YtceldebkpjgmkaaW.PrintLast
set_option linter.unusedVariables false
set_option linter.unusedSimpArgs false
theorem OptionOrder : fuseelaw14_OptionOrder.Pure := by
  intro a0 a1 a2 b0 b1 b2 c0 c1 c2 _ _ _ _ _ _ _ _ _
  refine ⟨100, ?_⟩
  unfold fuseelaw14_OptionOrder.f
  rw [awake14 (by omega), Option.bind_some, less_eq a0, less_eq b0 b1 b2 a0, Option.bind_some, Option.bind_some, if_pos rfl, less_eq b0 b1 b2 c0, less_eq a0 a1 a2 c0, Option.bind_some, Option.bind_some]
  have eq_iff : (a0 == b0 && (a1 == b1 && (a2 == b2))) = true ↔ a0 = b0 ∧ a1 = b1 ∧ a2 = b2 := by simp
  have ne_iff : (!(a0 == b0) || (!(a1 == b1) || (!(a2 == b2)))) = true ↔ ¬ (a0 = b0 ∧ a1 = b1 ∧ a2 = b2) := by
    by_cases h0 : a0 = b0 <;> by_cases h1 : a1 = b1 <;> by_cases h2 : a2 = b2 <;> simp [h0, h1, h2]
  cases x : option_Less.lt a0 a1 a2 b0 b1 b2 with
  | true =>
    have hx := lt_iff.1 x
    rw [if_pos rfl, if_neg (fun y => by have hy := lt_iff.1 y; omega), if_neg (fun y => by have hy := eq_iff.1 y; omega)]
    cases y : option_Less.lt b0 b1 b2 c0 c1 c2 with
    | true =>
      have hy := lt_iff.1 y
      rw [if_pos rfl, lt_iff.2 (by omega)]
    | false => rw [if_neg (by decide)]
  | false =>
    have hx := lt_no.1 x
    rw [if_neg (by decide)]
    cases y : option_Less.lt b0 b1 b2 a0 a1 a2 with
    | true =>
      have hy := lt_iff.1 y
      rw [if_pos rfl, if_neg (fun z => by have hz := eq_iff.1 z; omega)]
    | false =>
      have hy := lt_no.1 y
      rw [if_neg (by decide), if_neg (fun z => by have hz := ne_iff.1 z; omega)]
      split <;> rfl
end Go.Proofs.Ytceldebkpjgmkaa.Pure
