/- Any task has the period of any units, the periods, and the ends of jobs, that the document says. No condition. -/
import Derived.Test.YtcgplkcjanakcaaQPeriodTells
import Derived.Test.YtcgplkcjanakcaaLibPeriodRef
namespace Go.Proofs.Ytcgplkcjanakcaa.Pure
open Go.RowKit Go.Proofs.Ytcgplkcjanakcaa.P Go.Proofs.YtcgplkcjanakcaaW.PrintWords Go.Proofs.YtcgplkcjanakcaaW.PrintLast
set_option linter.unusedVariables false
set_option linter.unusedSimpArgs false
theorem PeriodTells : fuseelaw08_PeriodTells.Pure := by
  intro C T X M K E u p fr tt _ _ _ _ _ _ _ _ hfr hto
  have wfr := wf_i64 hfr
  refine ⟨0 + 6000, ?_⟩
  unfold fuseelaw08_PeriodTells.f
  rw [awake08 (by omega)]
  obtain ⟨v1, h1⟩ : ∃ v, period_Of.f (5900 + 100) C T X M K E u = some v := by
    by_cases h : okS C T X M K E ∧ 1 ≤ u ∧ u ≤ 1048576
    · rw [pof_eq h.1 h.2.1 h.2.2 5999]; split <;> exact ⟨_, rfl⟩
    · exact ⟨_, pof_bad h 5999⟩
  have h1' := rof_eq C T X M K E u 5900
  rw [h1] at h1'
  have hAll : ∃ l, period_All.f C T X M K E = some l ∧ l.length ≤ 100 := by
    by_cases h : okS C T X M K E
    · have ⟨a1, a2, a3, a4, a5, b, _⟩ := h
      exact ⟨_, all_ok h, by rw [nums_length]; omega⟩
    · exact ⟨_, all_no h, by simp⟩
  obtain ⟨l2, h2, b2⟩ := hAll
  have h2' := rall_eq C T X M K E 5900
  rw [h2] at h2'
  have hEnds : ∃ l, period_Ends.f C T X M K E p fr tt = some l ∧ l.length ≤ 5000 := by
    by_cases h : okE C T X M K E p fr tt
    · have ⟨⟨a1, a2, a3, a4, a5, b, _⟩, b1, b2, b3, b4, b5, b6⟩ := h
      have hq : (tt - fr) / p ≤ tt - fr := Int.ediv_le_self _ (by omega)
      exact ⟨_, ends_ok h, by rw [nums_length]; omega⟩
    · exact ⟨_, ends_no h, by simp⟩
  obtain ⟨l3, h3, b3⟩ := hEnds
  have h3' := rends_eq C T X M K E p fr tt wfr 0
  rw [h3] at h3'
  rw [show (5900 + 100 : Nat) = 6000 from rfl] at h1 h1' h2'
  rw [show (0 + 6000 : Nat) = 6000 from rfl] at h3' ⊢
  rw [h1, h1', h2, h2', h3, h3']
  simp only [Option.bind_some, if_true, BEq.rfl]
  rw [ints_eq l2 (by omega) (by omega), ints_eq l3 (by omega) (by omega)]
  rfl
end Go.Proofs.Ytcgplkcjanakcaa.Pure
