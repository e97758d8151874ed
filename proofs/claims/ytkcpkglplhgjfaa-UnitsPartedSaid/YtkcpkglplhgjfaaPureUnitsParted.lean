/- A task at twice its period has half as many units, or half of one more; of all jobs mandatory no fewer than of some. No condition. -/
import Derived.Test.YtkcpkglplhgjfaaQUnitsParted
import Derived.Test.YtkcpkglplhgjfaaLibUnits
import Derived.Test.YtkcpkglplhgjfaaLibA06
namespace Go.Proofs.Ytkcpkglplhgjfaa.Pure
open Go.RowKit Go.Proofs.Ytkcpkglplhgjfaa.P Go.Proofs.YtkcpkglplhgjfaaW.PrintWords Go.Proofs.YtkcpkglplhgjfaaW.PrintLast
set_option linter.unusedVariables false
set_option linter.unusedSimpArgs false
theorem UnitsParted : fuseelaw06_UnitsParted.Pure := by
  intro C T X M K E p _ _ _ _ _ _ hp
  have hp := wf_i64 hp
  unfold fuseelaw06_UnitsParted.f
  rw [awake06]
  simp only [Option.bind_some, if_true]
  by_cases h : okS C T X M K E
  · rw [may_ok h]
    simp only [Option.bind_some, if_true]
    by_cases c1 : p < T
    · rw [if_pos c1]
    rw [if_neg c1]
    by_cases c2 : wrap64 (2 * p) > X
    · rw [if_pos c2]
    rw [if_neg c2]
    by_cases c3 : p > 48
    · rw [if_pos c3]
    have hT : 1 ≤ T := by have := h.1; have := h.2.2.1; omega
    have e2 : wrap64 (2 * p) = 2 * p := w64 (by omega) (by omega)
    rw [e2] at c2
    have h' : okS C T X K K E := ⟨h.1, h.2.1, h.2.2.1, h.2.2.2.1, h.2.2.2.2.1, by have := h.2.2.2.2.2.1; omega, h.2.2.2.2.2.2⟩
    rw [if_neg c3, at_ok h (by omega) (by omega), e2, at_ok h (by omega) (by omega), at_ok h' (by omega) (by omega)]
    simp only [Option.bind_some]
    obtain ⟨u1, u2, u3, u4⟩ := unitsOf_spec h (show T ≤ p by omega) (by omega)
    obtain ⟨v1, v2, v3, v4⟩ := unitsOf_spec h (show T ≤ 2 * p by omega) (by omega)
    obtain ⟨z1, z2, z3, z4⟩ := unitsOf_spec h' (show T ≤ p by omega) (by omega)
    obtain ⟨m1, m2, m3, m4, m5⟩ := units_nums h (show T ≤ p by omega) (by omega)
    have k1 : unitsOf C M K p ≤ 2 * unitsOf C M K (2 * p) := by
      refine up_le m3 (Int.le_trans v4 (Int.le_of_eq ?_))
      rw [Int.mul_left_comm K 2 p, ← Int.mul_assoc, Int.mul_comm _ 2]
    have k2 : 2 * unitsOf C M K (2 * p) ≤ unitsOf C M K p + 1 := by
      have : unitsOf C M K (2 * p) ≤ (unitsOf C M K p + 1) / 2 := by
        refine up_le (by rw [Int.mul_left_comm K 2 p]; omega) (Int.le_trans u4 ?_)
        rw [Int.mul_left_comm K 2 p, ← Int.mul_assoc ((unitsOf C M K p + 1) / 2) 2 (K * p)]
        exact Int.mul_le_mul_of_nonneg_right (by omega) (by omega)
      omega
    have k3 : unitsOf C M K p ≤ unitsOf C K K p := by
      refine up_le m3 (Int.le_trans ?_ z4)
      have := h.2.2.2.2.2.1
      have : C * M ≤ C * K := Int.mul_le_mul_of_nonneg_left (by omega) (by have := h.1; omega)
      omega
    rw [w64 (x := 2 * unitsOf C M K (2 * p)) (by omega) (by omega), w64 (x := unitsOf C M K p + 1) (by omega) (by omega), if_pos k1, if_pos k2, decide_eq_true k3]
  · rw [may_no h]
    rfl
end Go.Proofs.Ytkcpkglplhgjfaa.Pure
