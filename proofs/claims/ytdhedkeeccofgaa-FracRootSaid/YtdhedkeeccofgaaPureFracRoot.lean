/- The square of a root is no more than the number, and that of one more is above it. No condition. -/
import Derived.Test.YtdhedkeeccofgaaPx3
import Derived.Test.YtdhedkeeccofgaaLibFrac
import Derived.Test.YtdhedkeeccofgaaLibA01
namespace Go.Proofs.Ytdhedkeeccofgaa.Pure
open Go.RowKit Go.Proofs.Ytdhedkeeccofgaa.P Go.Proofs.YtdhedkeeccofgaaW.PrintWords Go.Proofs.YtdhedkeeccofgaaW.PrintLast
set_option linter.unusedVariables false
set_option linter.unusedSimpArgs false
theorem FracRoot : fuseelaw01_FracRoot.Pure := by
  intro n hn
  have hn := wf_i64 hn
  refine ⟨33, ?_⟩
  unfold fuseelaw01_FracRoot.f
  rw [awake01]
  by_cases h : 0 ≤ n ∧ n ≤ 4611686018427387904
  · obtain ⟨r, hr, h0, h1, h2, h3⟩ := root_ok h.1 h.2
    rw [hr 33 (by omega)]
    simp only [Option.bind_some, if_true]
    have b1 : (r + 1) * (r + 1) ≤ 2147483649 * 2147483649 := sq_le (by omega) (by omega)
    have b0 : 0 ≤ r * r := Int.mul_nonneg h0 h0
    rw [if_pos h0, if_pos h1, w64 (x := r * r) (by omega) (by omega), if_pos h2, w64 (x := r + 1) (by omega) (by omega), w64 (by omega) (by omega), decide_eq_true h3]
  · rw [root_no h]
    simp only [Option.bind_some, if_true]
    rw [if_neg (by decide)]
    by_cases h0 : n < 0
    · rw [if_pos h0]
    · rw [if_neg h0, decide_eq_true (by omega)]
end Go.Proofs.Ytdhedkeeccofgaa.Pure
