/- Both numbers so many times as great stand as they stood; the quotient is the same. No condition. -/
import Derived.Test.YtdhedkeeccofgaaPx8
import Derived.Test.YtdhedkeeccofgaaLibFrac
import Derived.Test.YtdhedkeeccofgaaLibA01
namespace Go.Proofs.Ytdhedkeeccofgaa.Pure
open Go.RowKit Go.Proofs.Ytdhedkeeccofgaa.P Go.Proofs.YtdhedkeeccofgaaW.PrintWords Go.Proofs.YtdhedkeeccofgaaW.PrintLast
set_option linter.unusedVariables false
set_option linter.unusedSimpArgs false
theorem FracScale : fuseelaw01_FracScale.Pure := by
  intro a b c d k _ _ _ _ _
  refine ⟨1, ?_⟩
  unfold fuseelaw01_FracScale.f
  rw [awake01]
  simp only [Option.bind_some, if_true]
  have out : fuseelaw01_FracScale.j0 1 a b c d k true true = some true := by rw [fuseelaw01_FracScale.j0, if_pos rfl]
  by_cases c1 : a < 0
  · rw [if_pos c1]; exact out
  rw [if_neg c1]
  by_cases c2 : b < 1
  · rw [if_pos c2]; exact out
  rw [if_neg c2]
  by_cases c3 : c < 0
  · rw [if_pos c3]; exact out
  rw [if_neg c3]
  by_cases c4 : d < 1
  · rw [if_pos c4]; exact out
  rw [if_neg c4]
  by_cases c5 : k < 1
  · rw [if_pos c5]; exact out
  rw [if_neg c5]
  by_cases c6 : a > 1073741824
  · rw [if_pos c6]; exact out
  rw [if_neg c6]
  by_cases c7 : b > 1073741824
  · rw [if_pos c7]; exact out
  rw [if_neg c7]
  by_cases c8 : c > 1073741824
  · rw [if_pos c8]; exact out
  rw [if_neg c8]
  by_cases c9 : d > 1073741824
  · rw [if_pos c9]; exact out
  rw [if_neg c9]
  by_cases c10 : k > 1073741824
  · rw [decide_eq_true c10]; exact out
  rw [decide_eq_false c10, fuseelaw01_FracScale.j0, if_neg (by decide)]
  have a1 : a * k ≤ 1073741824 * 1073741824 := Int.mul_le_mul (by omega) (by omega) (by omega) (by omega)
  have a0 : 0 ≤ a * k := Int.mul_nonneg (by omega) (by omega)
  have b1 : b * k ≤ 1073741824 * 1073741824 := Int.mul_le_mul (by omega) (by omega) (by omega) (by omega)
  have b0 : 1 * 1 ≤ b * k := Int.mul_le_mul (by omega) (by omega) (by omega) (by omega)
  rw [w64 (x := a * k) (by omega) (by omega), w64 (x := b * k) (by omega) (by omega)]
  have o1 : okq a b := ⟨by omega, by omega, by omega, by omega⟩
  have o2 : okq c d := ⟨by omega, by omega, by omega, by omega⟩
  have o3 : okq (a * k) (b * k) := ⟨a0, by omega, by omega, by omega⟩
  rw [cmp_ok o1 o2, cmp_ok o3 o2, floor_ok o1, floor_ok o3, ceil_ok o1, ceil_ok o3]
  simp only [Option.bind_some, if_true]
  have e1 : a * k / (b * k) = a / b := Int.mul_ediv_mul_of_pos_left a b (by omega)
  have e2 : a * k % (b * k) = (a % b) * k := by rw [Int.mul_comm a k, Int.mul_comm b k, Int.mul_emod_mul_of_pos _ _ (by omega), Int.mul_comm]
  have e3 : min (a % b * k) 1 = min (a % b) 1 := by
    have m0 := Int.emod_nonneg a (show b ≠ 0 by omega)
    by_cases z : a % b = 0
    · rw [z, Int.zero_mul]
    · have : 1 * 1 ≤ a % b * k := Int.mul_le_mul (by omega) (by omega) (by omega) (by omega)
      omega
  have l1 : a * d < c * b ↔ a * k * d < c * (b * k) := by
    have z1 : a * k * d = (a * d) * k := by grind
    have z2 : c * (b * k) = (c * b) * k := by grind
    rw [z1, z2]
    exact ⟨fun h => Int.mul_lt_mul_of_pos_right h (by omega), fun h => Int.lt_of_mul_lt_mul_right h (by omega)⟩
  have l2 : c * b < a * d ↔ c * (b * k) < a * k * d := by
    have z1 : a * k * d = (a * d) * k := by grind
    have z2 : c * (b * k) = (c * b) * k := by grind
    rw [z1, z2]
    exact ⟨fun h => Int.mul_lt_mul_of_pos_right h (by omega), fun h => Int.lt_of_mul_lt_mul_right h (by omega)⟩
  rw [e1, e2, e3]
  simp only [l1, l2, if_true]
  simp
end Go.Proofs.Ytdhedkeeccofgaa.Pure
