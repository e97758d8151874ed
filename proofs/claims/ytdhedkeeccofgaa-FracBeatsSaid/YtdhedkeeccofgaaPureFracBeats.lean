/- What beats something beats less, and by a lesser k; what is no more never does. No condition. -/
import Derived.Test.YtdhedkeeccofgaaPx2
import Derived.Test.YtdhedkeeccofgaaLibFrac
import Derived.Test.YtdhedkeeccofgaaLibA01
namespace Go.Proofs.Ytdhedkeeccofgaa.Pure
open Go.RowKit Go.Proofs.Ytdhedkeeccofgaa.P Go.Proofs.YtdhedkeeccofgaaW.PrintWords Go.Proofs.YtdhedkeeccofgaaW.PrintLast
set_option linter.unusedVariables false
set_option linter.unusedSimpArgs false
theorem FracBeats : fuseelaw01_FracBeats.Pure := by
  intro v s k t l _ _ _ _ _
  refine ⟨1, ?_⟩
  unfold fuseelaw01_FracBeats.f
  rw [awake01, beats_eq]
  simp only [Option.bind_some, if_true]
  by_cases h : okb v s k ∧ (v - s) * (v - s) > k * s * s
  · rw [decide_eq_true h, if_pos rfl]
    obtain ⟨⟨h1, h2, h3, h4⟩, h5⟩ := h
    rw [decide_eq_false (show ¬ v ≤ s by omega), fuseelaw01_FracBeats.j0, if_neg (by decide), if_pos rfl]
    by_cases c1 : t ≥ 0
    · rw [if_pos c1]
      by_cases c2 : t ≤ s
      · rw [if_pos c2]
        by_cases c3 : l ≥ 0
        · rw [if_pos c3]
          by_cases c4 : l ≤ k
          · rw [if_pos c4, beats_eq]
            simp only [Option.bind_some]
            have m1 : (v - s) * (v - s) ≤ (v - t) * (v - t) := sq_le (by omega) (by omega)
            have m2 : l * t ≤ k * s := Int.mul_le_mul c4 c2 c1 (by omega)
            have m0 : 0 ≤ k * s := Int.mul_nonneg h3.1 h2.1
            have m3 : l * t * t ≤ k * s * s := Int.mul_le_mul m2 c2 c1 m0
            rw [decide_eq_true ⟨⟨h1, by omega, by omega, by omega⟩, by omega⟩]
          · rw [if_neg c4]
        · rw [if_neg c3]
      · rw [if_neg c2]
    · rw [if_neg c1]
  · rw [decide_eq_false h, if_neg (by decide), fuseelaw01_FracBeats.j0, if_neg (by decide), if_neg (by decide)]
end Go.Proofs.Ytdhedkeeccofgaa.Pure
