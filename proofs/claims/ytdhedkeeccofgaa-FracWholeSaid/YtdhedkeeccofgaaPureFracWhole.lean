/- A product through one of its numbers is the other one, without anything left; so is the root of a square. No condition. -/
import Derived.Test.YtdhedkeeccofgaaPx5
import Derived.Test.YtdhedkeeccofgaaLibFrac
import Derived.Test.YtdhedkeeccofgaaLibA01
namespace Go.Proofs.Ytdhedkeeccofgaa.Pure
open Go.RowKit Go.Proofs.Ytdhedkeeccofgaa.P Go.Proofs.YtdhedkeeccofgaaW.PrintWords Go.Proofs.YtdhedkeeccofgaaW.PrintLast
set_option linter.unusedVariables false
set_option linter.unusedSimpArgs false
theorem FracWhole : fuseelaw01_FracWhole.Pure := by
  intro a b _ _
  refine ⟨34, ?_⟩
  unfold fuseelaw01_FracWhole.f
  rw [awake01]
  simp only [Option.bind_some, if_true]
  have out : fuseelaw01_FracWhole.j0 34 a b true true = some true := by rw [fuseelaw01_FracWhole.j0, if_pos rfl]
  by_cases c1 : a < 0
  · rw [if_pos c1]; exact out
  rw [if_neg c1]
  by_cases c2 : b < 1
  · rw [if_pos c2]; exact out
  rw [if_neg c2]
  by_cases c3 : a > 2147483648
  · rw [if_pos c3]; exact out
  rw [if_neg c3]
  by_cases c4 : b > 2147483648
  · rw [decide_eq_true c4]; exact out
  rw [decide_eq_false c4, fuseelaw01_FracWhole.j0, if_neg (by decide)]
  have m1 : a * b ≤ 2147483648 * 2147483648 := Int.mul_le_mul (by omega) (by omega) (by omega) (by omega)
  have m0 : 0 ≤ a * b := Int.mul_nonneg (by omega) (by omega)
  have s1 : a * a ≤ 2147483648 * 2147483648 := sq_le (by omega) (by omega)
  have s0 : 0 ≤ a * a := Int.mul_nonneg (by omega) (by omega)
  rw [w64 (x := a * b) (by omega) (by omega), w64 (x := a * a) (by omega) (by omega)]
  have hok : okq (a * b) b := ⟨m0, by omega, by omega, by omega⟩
  rw [floor_ok hok, ceil_ok hok, Int.mul_ediv_cancel _ (by omega), Int.mul_emod_left]
  obtain ⟨r, hr, h0, h1, h2, h3⟩ := root_ok s0 (by omega)
  rw [hr 33 (by omega)]
  have e1 : r ≤ a := sq_mono h0 (by omega) (by have : (a + 1) * (a + 1) = a * a + 2 * a + 1 := by grind
                                               omega)
  have e2 : a ≤ r := sq_mono (by omega) h0 h3
  have : r = a := by omega
  subst this
  have z : min (0 : Int) 1 = 0 := by decide
  simp [z]
end Go.Proofs.Ytdhedkeeccofgaa.Pure
