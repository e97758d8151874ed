/- A quotient that is rounded up is the one that is rounded down, or one more, just where something is left. No condition. -/
import Derived.Test.YtdhedkeeccofgaaPx2
import Derived.Test.YtdhedkeeccofgaaLibFrac
import Derived.Test.YtdhedkeeccofgaaLibA01
namespace Go.Proofs.Ytdhedkeeccofgaa.Pure
open Go.RowKit Go.Proofs.Ytdhedkeeccofgaa.P Go.Proofs.YtdhedkeeccofgaaW.PrintWords Go.Proofs.YtdhedkeeccofgaaW.PrintLast
set_option linter.unusedVariables false
set_option linter.unusedSimpArgs false
theorem FracCeil : fuseelaw01_FracCeil.Pure := by
  intro a b ha hb
  have ha := wf_i64 ha
  have hb := wf_i64 hb
  unfold fuseelaw01_FracCeil.f
  rw [awake01]
  by_cases h : okq a b
  · rw [floor_ok h, ceil_ok h]
    obtain ⟨h0, h1, h2, h3⟩ := h
    have hb0 : b ≠ 0 := by omega
    have e := Int.mul_ediv_add_emod a b
    have m0 := Int.emod_nonneg a hb0
    have m1 := Int.emod_lt_of_pos a (show 0 < b by omega)
    have q0 : 0 ≤ a / b := Int.ediv_nonneg h0 (by omega)
    have ec : a / b * b = a - a % b := by rw [Int.mul_comm]; omega
    have e1 : wrap64 (a / b * b) = a / b * b := w64 (by omega) (by omega)
    simp only [Option.bind_some, if_true]
    rw [if_neg (by decide), e1, ec, if_pos (by omega), w64 (by omega) (by omega), if_pos (by omega)]
    generalize a / b = q at *
    generalize a % b = r at *
    by_cases hr : r = 0
    · subst hr
      have : min (0 : Int) 1 = 0 := by decide
      rw [this]
      simp
      rw [w64 (by omega) (by omega)]
      decide
    · have : min r 1 = 1 := by omega
      rw [this, if_pos (by rw [beq_eq_false_iff_ne.2 (show q + 1 ≠ q by omega), beq_eq_false_iff_ne.2 (show a - r ≠ a by omega)]; rfl), w64 (by omega) (by omega), if_pos (by omega)]
      simp; omega
  · rw [floor_no h, ceil_no h]
    simp
end Go.Proofs.Ytdhedkeeccofgaa.Pure
