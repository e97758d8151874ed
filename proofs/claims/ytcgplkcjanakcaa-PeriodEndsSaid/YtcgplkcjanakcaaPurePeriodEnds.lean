/- Jobs that end one behind the other are a period apart, the first one a period behind where they begin; there are as many as whole periods. No condition. -/
import Derived.Test.YtcgplkcjanakcaaQPeriodEnds
import Derived.Test.YtcgplkcjanakcaaLibPeriod
namespace Go.Proofs.Ytcgplkcjanakcaa.Pure
open Go.RowKit Go.Proofs.Ytcgplkcjanakcaa.P Go.Proofs.YtcgplkcjanakcaaW.PrintWords Go.Proofs.YtcgplkcjanakcaaW.PrintLast
set_option linter.unusedVariables false
set_option linter.unusedSimpArgs false
theorem periodEnds_loop {p fr tt : Int} (hp : 1 ≤ p) (hp2 : p ≤ 48) (h0 : 0 ≤ fr) (h1 : fr ≤ tt) (h2 : tt ≤ 1000000) (m : Nat) (hm : (m : Int) = (tt - fr) / p) : ∀ (d i f : Nat), i + d = m → d < f →
    fuseelaw08_PeriodEnds.l0 f p fr tt (period_list.nums (fr + p) p m) (i : Int) = some true
  | 0, i, f, hd, hf => by
    obtain ⟨f, rfl⟩ : ∃ x, f = x + 1 := ⟨f - 1, by omega⟩
    have hq : (tt - fr) / p ≤ tt - fr := Int.ediv_le_self _ (by omega)
    rw [fuseelaw08_PeriodEnds.l0, nums_length, if_neg (by omega), if_neg (by omega), w64 (x := tt - fr) (by omega) (by omega), Int.tdiv_eq_ediv_of_nonneg (by omega), ← hm, w64 (by omega) (by omega)]
    simp
  | d + 1, i, f, hd, hf => by
    obtain ⟨f, rfl⟩ : ∃ x, f = x + 1 := ⟨f - 1, by omega⟩
    have hi : i < m := by omega
    have hq : (tt - fr) / p ≤ tt - fr := Int.ediv_le_self _ (by omega)
    have hle : ((i : Int) + 1) * p ≤ tt - fr := by
      have := Int.ediv_mul_le (tt - fr) (show p ≠ 0 by omega)
      have := Int.mul_le_mul_of_nonneg_right (show (i : Int) + 1 ≤ (tt - fr) / p by omega) (show 0 ≤ p by omega)
      omega
    have hnn : 0 ≤ ((i : Int) + 1) * p := Int.mul_nonneg (by omega) (by omega)
    have e : fr + p + (i : Int) * p = fr + ((i : Int) + 1) * p := by rw [Int.add_mul]; omega
    rw [fuseelaw08_PeriodEnds.l0, nums_length, if_pos (by omega), if_pos (by omega), rd_nums hi, w64 (x := (i : Int) + 1) (by omega) (by omega), w64 (x := ((i : Int) + 1) * p) (by omega) (by omega), w64 (x := fr + ((i : Int) + 1) * p) (by omega) (by omega),
      if_pos e, e, if_neg (by omega), show ((i : Int) + 1) = ((i + 1 : Nat) : Int) by omega]
    exact periodEnds_loop hp hp2 h0 h1 h2 m hm d (i + 1) f (by omega) (by omega)
theorem PeriodEnds : fuseelaw08_PeriodEnds.Pure := by
  intro C T X M K E p fr tt _ _ _ _ _ _ hp hfr hto
  have wp := wf_i64 hp
  have wfr := wf_i64 hfr
  have wto := wf_i64 hto
  refine ⟨6000, ?_⟩
  unfold fuseelaw08_PeriodEnds.f
  rw [awake08 (by omega)]
  simp only [Option.bind_some, if_true]
  by_cases h : okS C T X M K E ∧ T ≤ p ∧ p ≤ X
  · have us := unitsOf_spec h.1 h.2.1 h.2.2
    have ⟨a1, a2, a3, a4, a5, _⟩ := h.1
    rw [at_ok h.1 h.2.1 h.2.2]
    simp only [Option.bind_some]
    rw [if_neg (by omega)]
    by_cases c1 : fr < 0
    · rw [if_pos c1]
    rw [if_neg c1]
    by_cases c2 : tt < fr
    · rw [if_pos c2]
    rw [if_neg c2]
    by_cases c3 : tt > 1000000
    · rw [if_pos c3]
    rw [if_neg c3, w64 (x := tt - fr) (by omega) (by omega)]
    by_cases c4 : tt - fr > 5000
    · rw [if_pos c4]
    rw [if_neg c4, ends_ok ⟨h.1, h.2.1, h.2.2, by omega, by omega, by omega, by omega⟩]
    simp only [Option.bind_some]
    have hq : (tt - fr) / p ≤ tt - fr := Int.ediv_le_self _ (by omega)
    have hq0 : 0 ≤ (tt - fr) / p := Int.ediv_nonneg (by omega) (by omega)
    have this := periodEnds_loop (p := p) (fr := fr) (tt := tt) (by omega) (by omega) (by omega) (by omega) (by omega) ((tt - fr) / p).toNat (by omega) ((tt - fr) / p).toNat 0 6000 (by omega) (by omega)
    rw [show ((0 : Nat) : Int) = 0 from rfl] at this
    exact this
  · rw [at_no h]
    rfl
end Go.Proofs.Ytcgplkcjanakcaa.Pure
