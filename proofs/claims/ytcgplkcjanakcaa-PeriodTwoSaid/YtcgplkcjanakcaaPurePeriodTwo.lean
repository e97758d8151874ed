/- Ends of one stretch, and of the one behind it, from its last end on, are those of both. No condition. -/
import Derived.Test.YtcgplkcjanakcaaQPeriodTwo
import Derived.Test.YtcgplkcjanakcaaLibPeriod
namespace Go.Proofs.Ytcgplkcjanakcaa.Pure
open Go.RowKit Go.Proofs.Ytcgplkcjanakcaa.P Go.Proofs.YtcgplkcjanakcaaW.PrintWords Go.Proofs.YtcgplkcjanakcaaW.PrintLast
set_option linter.unusedVariables false
set_option linter.unusedSimpArgs false
theorem PeriodTwo : fuseelaw08_PeriodTwo.Pure := by
  intro C T X M K E p fr mid tt _ _ _ _ _ _ hp hfr hmid hto
  have wp := wf_i64 hp
  have wfr := wf_i64 hfr
  have wmid := wf_i64 hmid
  have wto := wf_i64 hto
  refine ⟨6000, ?_⟩
  unfold fuseelaw08_PeriodTwo.f
  rw [awake08 (by omega)]
  simp only [Option.bind_some, if_true]
  by_cases h : okS C T X M K E ∧ T ≤ p ∧ p ≤ X
  · have us := unitsOf_spec h.1 h.2.1 h.2.2
    have ⟨a1, a2, a3, a4, a5, _⟩ := h.1
    rw [at_ok h.1 h.2.1 h.2.2]
    simp only [Option.bind_some]
    rw [if_neg (by omega)]
    by_cases c1 : fr < 0
    · rw [if_pos c1]
    rw [if_neg c1]
    by_cases c2 : mid < fr
    · rw [if_pos c2]
    rw [if_neg c2]
    by_cases c3 : tt < mid
    · rw [if_pos c3]
    rw [if_neg c3]
    by_cases c4 : tt > 1000000
    · rw [if_pos c4]
    rw [if_neg c4, w64 (x := tt - fr) (by omega) (by omega)]
    by_cases c5 : tt - fr > 5000
    · rw [if_pos c5]
    rw [if_neg c5]
    have hq : (mid - fr) / p ≤ mid - fr := Int.ediv_le_self _ (by omega)
    have hq0 : 0 ≤ (mid - fr) / p := Int.ediv_nonneg (by omega) (by omega)
    have hr : (tt - fr) / p ≤ tt - fr := Int.ediv_le_self _ (by omega)
    have hr0 : 0 ≤ (tt - fr) / p := Int.ediv_nonneg (by omega) (by omega)
    have hmul := Int.ediv_mul_le (mid - fr) (show p ≠ 0 by omega)
    have hnn : 0 ≤ (mid - fr) / p * p := Int.mul_nonneg hq0 (by omega)
    obtain ⟨m1, hm1⟩ : ∃ m1 : Nat, (m1 : Int) = (mid - fr) / p := ⟨((mid - fr) / p).toNat, by omega⟩
    -- from the last end on
    have hlast : (tt - (fr + (mid - fr) / p * p)) / p = (tt - fr) / p - (mid - fr) / p := by
      have e : tt - (fr + (mid - fr) / p * p) = (tt - fr) + (-((mid - fr) / p)) * p := by rw [Int.neg_mul]; omega
      rw [e, Int.add_mul_ediv_right _ _ (by omega)]; omega
    have hge : (mid - fr) / p ≤ (tt - fr) / p := Int.ediv_le_ediv (by omega) (by omega)
    have ea : period_Ends.f C T X M K E p fr mid = some (period_list.nums (fr + p) p m1) := by
      rw [ends_ok ⟨h.1, h.2.1, h.2.2, by omega, by omega, by omega, by omega⟩, ← hm1, Int.toNat_natCast]
    have eb : period_Ends.f C T X M K E p (fr + (m1 : Int) * p) tt = some (period_list.nums (fr + p + (m1 : Int) * p) p ((tt - fr) / p - (m1 : Int)).toNat) := by
      rw [hm1, ends_ok ⟨h.1, h.2.1, h.2.2, by omega, by omega, by omega, by omega⟩, hlast]
      rw [show fr + (mid - fr) / p * p + p = fr + p + (mid - fr) / p * p by omega]
    have ec : period_Ends.f C T X M K E p fr tt = some (period_list.nums (fr + p) p ((tt - fr) / p).toNat) := ends_ok ⟨h.1, h.2.1, h.2.2, by omega, by omega, by omega, by omega⟩
    have eall := all_ok h.1
    have hj : period_list.nums (fr + p) p m1 ++ period_list.nums (fr + p + (m1 : Int) * p) p ((tt - fr) / p - (m1 : Int)).toNat = period_list.nums (fr + p) p ((tt - fr) / p).toNat := by
      rw [nums_add]; congr 1; omega
    have key : ((period_Ends.f C T X M K E p (fr + (m1 : Int) * p) tt).bind fun t222 => (if ([] : List Int).length + (period_list.nums (fr + p) p m1).length < 17592186044416 then ((some (([] : List Int) ++ (period_list.nums (fr + p) p m1) : List Int)).bind fun y225 => (if y225.length + t222.length < 17592186044416 then ((period_Ends.f C T X M K E p fr tt).bind fun t231 => ((fuseeref06_Ints.f 6000 (y225 ++ t222) t231).bind fun t234 => (if t234 = true then ((period_All.f C T X M K E).bind fun t235 => (some ((t235.length : Int) == (wrap64 ((wrap64 (X - T)) + 1))))) else (none)))) else (none))) else (none))) = some true := by
      rw [eb, ec, eall]
      simp only [Option.bind_some, List.nil_append]
      rw [if_pos (by simp [nums_length]; omega), if_pos (by simp [nums_length]; omega), hj, ints_eq _ (by rw [nums_length]; omega) (by rw [nums_length]; omega)]
      simp only [Option.bind_some, if_true]
      rw [nums_length, w64 (x := X - T) (by omega) (by omega), w64 (by omega) (by omega)]
      congr 1
      rw [beq_iff_eq]
      omega
    rw [ea]
    simp only [Option.bind_some]
    rw [nums_length]
    rw [nums_length] at key
    by_cases c6 : (m1 : Int) > 0
    · have hrd := rd_nums (a := fr + p) (b := p) (m := m1) (i := m1 - 1) (by omega)
      have e1 : fr + p + ((m1 - 1 : Nat) : Int) * p = fr + (m1 : Int) * p := by
        obtain ⟨q, rfl⟩ : ∃ q, m1 = q + 1 := ⟨m1 - 1, by omega⟩
        rw [show (q + 1 - 1 : Nat) = q by omega, Int.natCast_add, Int.add_mul]
        omega
      rw [if_pos c6, w64 (by omega) (by omega), if_pos (by omega), if_pos (by omega), show (m1 : Int) - 1 = ((m1 - 1 : Nat) : Int) by omega, hrd, e1]
      exact key
    · have : m1 = 0 := by omega
      subst this
      rw [if_neg c6]
      have e0 : fr + ((0 : Nat) : Int) * p = fr := by simp
      rw [e0] at key
      exact key
  · rw [at_no h]
    rfl
end Go.Proofs.Ytcgplkcjanakcaa.Pure
