/- A job that need not run, as one of an order: the program's answer is the document's. Its numbers are small. -/
import Derived.Test.YtceldebkpjgmkaaPx3
import Derived.Test.YtceldebkpjgmkaaPx4
import Derived.Test.YtceldebkpjgmkaaPx14
import Derived.Test.YtceldebkpjgmkaaPx16
import Derived.Test.YtceldebkpjgmkaaLibRingFarRef
import Derived.Test.YtceldebkpjgmkaaLibJobLeft
namespace Go.Proofs.Ytceldebkpjgmkaa.Pure
open Go.RowKit Go.Proofs.Ytceldebkpjgmkaa.P Go.Proofs.YtceldebkpjgmkaaW.PrintWords Go.Proofs.YtceldebkpjgmkaaW.PrintLast Go.Proofs.YtceldebkpjgmkaaW.PrintMore
set_option linter.unusedVariables false
set_option linter.unusedSimpArgs false
theorem rleft_eq {J R D c d r : Int} {o Md : Bool} (h0 : -4611686018427387904 ≤ c) (h1 : c ≤ 4611686018427387904) (h2 : -4611686018427387904 ≤ d) (h3 : d ≤ 4611686018427387904) (h4 : -4611686018427387903 ≤ r) (h5 : r ≤ 4611686018427387904) (f : Nat) :
    fuseeref11_Left.f (f + 1) o J R D Md c d r = job_Left.f o J R D Md c d r := by
  cases o with
  | false => rfl
  | true =>
    rw [jleft_on h0 h1 h2 h3 h4 h5]
    unfold fuseeref11_Left.f
    rw [if_pos rfl]
    by_cases q : c ≤ r
    · rw [if_pos q, fuseeref11_Left.j0, if_pos rfl]; congr 1; omega
    · rw [if_neg q]
      by_cases q2 : d ≤ r
      · rw [decide_eq_true q2, fuseeref11_Left.j0, if_pos rfl]; congr 1; omega
      · rw [decide_eq_false q2, fuseeref11_Left.j0, if_neg (by decide), spec_w64 (by omega) (by omega), spec_w64 (by omega) (by omega)]
        by_cases q3 : d < c
        · rw [if_pos q3]; congr 1; omega
        · rw [if_neg q3]; congr 1; omega
theorem left_some (J R D c d r : Int) (o Md : Bool) : ∃ v, job_Left.f o J R D Md c d r = some v := by
  unfold job_Left.f
  split <;> exact ⟨_, rfl⟩
theorem opt_of {f : Nat} {id C T X M K E J R D c d r N B : Int} {o Md : Bool} (hf : 300 ≤ f) (hB : 0 ≤ B) (h0 : -1099511627776 ≤ c) (h1 : c ≤ 1099511627776) (h2 : -1099511627776 ≤ d) (h3 : d ≤ 1099511627776) (h4 : -1099511627776 ≤ r) (h5 : r ≤ 1099511627776) :
    ∃ v, option_Of.f f id C T X M K E o J R D Md c d r N B = some v ∧ fuseeref14_Of.f f id C T X M K E o J R D Md c d r N B = some v := by
  obtain ⟨f, rfl⟩ : ∃ x, f = x + 1 := ⟨f - 1, by omega⟩
  obtain ⟨t, hv⟩ := view_any (N := N) hB
  obtain ⟨y, hy, hy'⟩ := rfar_eq hv hB M K (f := f + 1) (by omega)
  obtain ⟨q, hq⟩ := left_some J R D c d r o Md
  unfold option_Of.f fuseeref14_Of.f
  rw [rleft_eq (by omega) (by omega) (by omega) (by omega) (by omega) (by omega), hq, hy, hy']
  cases o with
  | false => exact ⟨_, rfl, rfl⟩
  | true =>
    cases Md with
    | true => exact ⟨_, rfl, rfl⟩
    | false =>
      by_cases g : q = 0
      · simp [g]
      · simp [g]
end Go.Proofs.Ytceldebkpjgmkaa.Pure
