/- Plain laws of whole numbers: wraps that change nothing, quotients that are rounded up. No condition but each lemma's own. -/
import Derived.Test.YtphonmldcbgklaaPx5
namespace Go.Proofs.Ytphonmldcbgklaa.Pure
open Go.RowKit Go.Proofs.Ytphonmldcbgklaa.P Go.Proofs.YtphonmldcbgklaaW.PrintWords Go.Proofs.YtphonmldcbgklaaW.PrintLast
set_option linter.unusedVariables false
set_option linter.unusedSimpArgs false
theorem w64 {x : Int} (h0 : -9223372036854775808 ≤ x) (h1 : x ≤ 9223372036854775807) : wrap64 x = x := by unfold wrap64; omega
theorem wf_i64 {x : Int} (h : (Lit.int .i64 x).wf = true) : -9223372036854775808 ≤ x ∧ x ≤ 9223372036854775807 := by
  simp only [Lit.wf, Bool.and_eq_true, decide_eq_true_eq] at h
  exact h
/-- A quotient that is rounded up. -/
def up (x k : Int) : Int := x / k + min (x % k) 1
theorem up_spec {x k : Int} (hk : 1 ≤ k) : (up x k - 1) * k < x ∧ x ≤ up x k * k := by
  have e := Int.mul_ediv_add_emod x k
  have m0 := Int.emod_nonneg x (show k ≠ 0 by omega)
  have m1 := Int.emod_lt_of_pos x (show 0 < k by omega)
  unfold up
  have q : k * (x / k) = x / k * k := Int.mul_comm _ _
  by_cases hr : x % k = 0
  · have : min (x % k) 1 = 0 := by omega
    rw [this, Int.add_zero, Int.sub_mul]
    omega
  · have : min (x % k) 1 = 1 := by omega
    rw [this, Int.add_mul, Int.add_sub_cancel]
    omega
theorem up_le {x k n : Int} (hk : 1 ≤ k) (h : x ≤ n * k) : up x k ≤ n := by
  refine Int.not_lt.1 fun hc => ?_
  have h1 := (up_spec (x := x) hk).1
  have h2 : n * k ≤ (up x k - 1) * k := Int.mul_le_mul_of_nonneg_right (by omega) (by omega)
  omega
theorem le_up {x k n : Int} (hk : 1 ≤ k) (h : (n - 1) * k < x) : n ≤ up x k := by
  refine Int.not_lt.1 fun hc => ?_
  have h1 := (up_spec (x := x) hk).2
  have h2 : up x k * k ≤ (n - 1) * k := Int.mul_le_mul_of_nonneg_right (by omega) (by omega)
  omega
theorem up_eq {x k n : Int} (hk : 1 ≤ k) (h : (n - 1) * k < x) (h' : x ≤ n * k) : up x k = n := Int.le_antisymm (up_le hk h') (le_up hk h)
theorem ceil_up {x k : Int} (h0 : 0 ≤ x) (h1 : x ≤ 4611686018427387904) (h2 : 1 ≤ k) (h3 : k ≤ 4611686018427387904) : frac_Ceil.f x k = some (up x k, true) := by
  unfold frac_Ceil.f up
  exact if_pos ⟨h0, h1, h2, h3⟩
theorem mulb {a b A B : Int} (h0 : 0 ≤ a) (h1 : a ≤ A) (h2 : 0 ≤ b) (h3 : b ≤ B) : 0 ≤ a * b ∧ a * b ≤ A * B := ⟨Int.mul_nonneg h0 h2, Int.mul_le_mul h1 h3 h2 (by omega)⟩
end Go.Proofs.Ytphonmldcbgklaa.Pure
