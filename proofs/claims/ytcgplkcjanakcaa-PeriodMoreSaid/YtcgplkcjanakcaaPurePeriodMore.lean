/- With more units a period is no longer; by its units at a period a task has that one, or a lesser one with as many. No condition. -/
import Derived.Test.YtcgplkcjanakcaaQPeriodMore
import Derived.Test.YtcgplkcjanakcaaLibPeriod
namespace Go.Proofs.Ytcgplkcjanakcaa.Pure
open Go.RowKit Go.Proofs.Ytcgplkcjanakcaa.P Go.Proofs.YtcgplkcjanakcaaW.PrintWords Go.Proofs.YtcgplkcjanakcaaW.PrintLast
set_option linter.unusedVariables false
set_option linter.unusedSimpArgs false
theorem leastP_anti {C T X M K E u v : Int} (h : okS C T X M K E) (hu : 1 ≤ u) (huv : u ≤ v) (hv : v ≤ 1048576) : leastP C M K v ≤ leastP C M K u := by
  obtain ⟨k1, k2, m1, m2, l1, l2⟩ := leastP_num h hu (by omega)
  obtain ⟨k1', k2', _⟩ := leastP_num h (show 1 ≤ v by omega) hv
  have hk := h.2.2.2.2.2.1
  have s := up_spec (x := C * M * 1048576) k1
  refine up_le k1' (Int.le_trans s.2 ?_)
  exact Int.mul_le_mul_of_nonneg_left (Int.mul_le_mul_of_nonneg_right huv (by omega)) (by unfold leastP at l1; omega)
theorem PeriodMore : fuseelaw08_PeriodMore.Pure := by
  intro C T X M K E u v p _ _ _ _ _ _ _ _ _
  refine ⟨20, ?_⟩
  unfold fuseelaw08_PeriodMore.f
  rw [awake08 (by omega)]
  simp only [Option.bind_some, if_true]
  by_cases h : okS C T X M K E
  · rw [may_ok h]
    simp only [Option.bind_some, if_true]
    by_cases c1 : u < 1
    · rw [if_pos c1]
    rw [if_neg c1]
    by_cases c2 : v < u
    · rw [if_pos c2]
    rw [if_neg c2]
    by_cases c3 : v > 1048576
    · rw [if_pos c3]
    rw [if_neg c3, pof_eq h (by omega) (by omega) 19, pof_eq h (u := v) (by omega) (by omega) 19]
    have ha := leastP_anti h (show 1 ≤ u by omega) (show u ≤ v by omega) (by omega)
    have hx := h.2.2.2.1
    have tail : (if p < T then (some true) else (if p > X then (some true) else ((units_At.f C T X M K E p).bind fun t197 => ((period_Of.f 20 C T X M K E t197).bind fun bt198 => (if bt198.2 = true then (if bt198.1 ≤ p then ((units_At.f C T X M K E bt198.1).bind fun t200 => ((units_At.f C T X M K E p).bind fun t201 => (some (t200 == t201)))) else (none)) else (none)))))) = some true := by
      by_cases d1 : p < T
      · rw [if_pos d1]
      rw [if_neg d1]
      by_cases d2 : p > X
      · rw [if_pos d2]
      have us := unitsOf_spec h (show T ≤ p by omega) (show p ≤ X by omega)
      rw [if_neg d2, at_ok h (by omega) (by omega)]
      simp only [Option.bind_some]
      have hl := (at_le h (show T ≤ p by omega) (show p ≤ X by omega) us.1).1 (Int.le_refl _)
      rw [pof_eq h us.1 us.2.1 19, if_pos (by omega)]
      simp only [Option.bind_some, if_true]
      rw [if_pos (by omega), at_ok h (by omega) (by omega)]
      simp only [Option.bind_some]
      congr 1
      rw [beq_iff_eq]
      have e1 := unitsOf_anti h (p := max (leastP C M K (unitsOf C M K p)) T) (q := p) (by omega) (by omega) (by omega)
      have e2 := (at_le h (q := max (leastP C M K (unitsOf C M K p)) T) (by omega) (by omega) us.1).2 (by omega)
      omega
    by_cases c : leastP C M K u ≤ X
    · rw [if_pos c, if_pos (by omega)]
      simp only [Option.bind_some, if_true]
      rw [if_neg (by omega)]
      exact tail
    · rw [if_neg c]
      simp only [Option.bind_some]
      by_cases c4 : leastP C M K v ≤ X
      · rw [if_pos c4]
        simp only [Option.bind_some]
        rw [if_neg (by decide)]
        exact tail
      · rw [if_neg c4]
        simp only [Option.bind_some]
        rw [if_neg (by decide)]
        exact tail
  · rw [may_no h]
    rfl
end Go.Proofs.Ytcgplkcjanakcaa.Pure
