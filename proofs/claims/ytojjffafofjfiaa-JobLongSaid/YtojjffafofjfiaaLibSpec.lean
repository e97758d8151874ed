/- The document's answer of layers 2 and 5 is the program's: which specs may be, which jobs are mandatory. No condition but each lemma's own. -/
import Derived.Test.YtojjffafofjfiaaPx3
import Derived.Test.YtojjffafofjfiaaPx4
import Derived.Test.YtojjffafofjfiaaPx13
namespace Go.Proofs.Ytojjffafofjfiaa.Pure
open Go.RowKit Go.Proofs.Ytojjffafofjfiaa.P Go.Proofs.YtojjffafofjfiaaW.PrintWords Go.Proofs.YtojjffafofjfiaaW.PrintLast Go.Proofs.YtojjffafofjfiaaW.PrintMore
set_option linter.unusedVariables false
set_option linter.unusedSimpArgs false
theorem spec_w64 {x : Int} (h0 : -9223372036854775808 ≤ x) (h1 : x ≤ 9223372036854775807) : wrap64 x = x := by unfold wrap64; omega
theorem rmay02_eq (m k : Int) : fuseeref02_May.f m k = some (decide (1 ≤ m ∧ m ≤ k ∧ k ≤ 6)) := by
  unfold fuseeref02_May.f
  by_cases c1 : m ≥ 1
  · rw [if_pos c1]
    by_cases c2 : k ≥ m
    · rw [if_pos c2]; congr 1; rw [decide_eq_decide]; omega
    · rw [if_neg c2]; congr 1; symm; rw [decide_eq_false_iff_not]; omega
  · rw [if_neg c1]; congr 1; symm; rw [decide_eq_false_iff_not]; omega
theorem rmay05_eq (C T X M K E : Int) : fuseeref05_May.f C T X M K E = spec_May.f C T X M K E := by
  unfold fuseeref05_May.f spec_May.f spec_May.ok
  rw [rmay02_eq]
  simp only [Option.bind_some]
  by_cases c1 : C ≥ 1
  · rw [if_pos c1]
    by_cases c2 : C ≤ 6
    · rw [if_pos c2]
      by_cases c3 : T ≥ C
      · rw [if_pos c3]
        by_cases c4 : X ≥ T
        · rw [if_pos c4]
          by_cases c5 : X ≤ 48
          · rw [if_pos c5]
            by_cases c6 : 1 ≤ M ∧ M ≤ K ∧ K ≤ 6
            · rw [decide_eq_true c6, if_pos rfl]
              by_cases c7 : E ≥ 0
              · rw [if_pos c7]
                by_cases c8 : E ≤ 8
                · rw [if_pos c8]
                  by_cases c9 : E = 0
                  · rw [if_pos c9]; congr 1
                    by_cases c10 : T = X
                    · rw [beq_iff_eq.2 c10]; symm; rw [decide_eq_true_iff]; omega
                    · rw [beq_eq_false_iff_ne.2 c10]; symm; rw [decide_eq_false_iff_not]; omega
                  · rw [if_neg c9]; congr 1; symm; rw [decide_eq_true_iff]; omega
                · rw [if_neg c8]; congr 1; symm; rw [decide_eq_false_iff_not]; omega
              · rw [if_neg c7]; congr 1; symm; rw [decide_eq_false_iff_not]; omega
            · rw [decide_eq_false c6, if_neg (by decide)]; congr 1; symm; rw [decide_eq_false_iff_not]; exact fun q => c6 q.2.2.2.2.2.1
          · rw [if_neg c5]; congr 1; symm; rw [decide_eq_false_iff_not]; omega
        · rw [if_neg c4]; congr 1; symm; rw [decide_eq_false_iff_not]; omega
      · rw [if_neg c3]; congr 1; symm; rw [decide_eq_false_iff_not]; omega
    · rw [if_neg c2]; congr 1; symm; rw [decide_eq_false_iff_not]; omega
  · rw [if_neg c1]; congr 1; symm; rw [decide_eq_false_iff_not]; omega
theorem spec_ok {C T X M K E : Int} (h : spec_May.ok C T X M K E = true) : 1 ≤ C ∧ C ≤ 6 ∧ C ≤ T ∧ T ≤ X ∧ X ≤ 48 ∧ (1 ≤ M ∧ M ≤ K ∧ K ≤ 6) ∧ 0 ≤ E ∧ E ≤ 8 ∧ (0 < E ∨ T = X) := of_decide_eq_true h
theorem even_on {m k x : Int} (h1 : 1 ≤ m) (hm : m ≤ k) (hk : k ≤ 6) (hx : 0 ≤ x) : ∀ y, (pat_of.up (x - k * y) k < pat_of.up (x - k * y + m) k ↔ (x % k = 0 ∨ k - m < x % k)) := by
  have : k = 1 ∨ k = 2 ∨ k = 3 ∨ k = 4 ∨ k = 5 ∨ k = 6 := by omega
  unfold pat_of.up
  rcases this with rfl | rfl | rfl | rfl | rfl | rfl <;> intro y <;> omega
theorem ron_eq (m k j : Int) : fuseeref02_On.f m k j = pat_On.f m k j := by
  unfold fuseeref02_On.f pat_On.f
  rw [rmay02_eq]
  simp only [Option.bind_some]
  unfold fuseeref02_in.f
  by_cases c0 : j ≥ 0
  · rw [if_pos c0]
    simp only [Option.bind_some]
    by_cases c1 : 1 ≤ m ∧ m ≤ k ∧ k ≤ 6
    · rw [decide_eq_true c1, if_pos rfl]
      by_cases c2 : j ≤ 1099511627776
      · rw [decide_eq_true c2, if_pos rfl, if_pos ⟨c1.1, c1.2.1, c1.2.2, c0, c2⟩]
        have hx : 0 ≤ j * m := Int.mul_nonneg c0 (by omega)
        have hx2 : j * m ≤ 1099511627776 * 6 := Int.mul_le_mul c2 (by omega) (by omega) (by omega)
        unfold fuseeref02_even.f
        rw [if_neg (by omega), spec_w64 (x := j * m) (by omega) (by omega), spec_w64 (x := k - m) (by omega) (by omega), Int.tmod_eq_emod_of_nonneg hx]
        have e0 : j % k * m = j * m - k * (j / k * m) := by
          have := Int.mul_ediv_add_emod j k
          have e : j % k = j - k * (j / k) := by omega
          rw [e, Int.sub_mul, Int.mul_assoc]
        have e1 : (j % k + 1) * m = j * m - k * (j / k * m) + m := by rw [Int.add_mul, Int.one_mul, e0]
        have ev := even_on c1.1 c1.2.1 c1.2.2 hx (j / k * m)
        unfold pat_of.on
        rw [e0, e1]
        by_cases c3 : j * m % k = 0
        · rw [if_pos c3, decide_eq_true (ev.2 (.inl c3))]; rfl
        · rw [if_neg c3]
          simp only [Option.bind_some]
          congr 1
          rw [decide_eq_decide]
          omega
      · rw [decide_eq_false c2, if_neg (by decide), if_neg (fun q => c2 q.2.2.2.2)]
    · rw [decide_eq_false c1, if_neg (by decide), if_neg (fun q => c1 ⟨q.1, q.2.1, q.2.2.1⟩)]
  · rw [if_neg c0]
    simp only [Option.bind_some]
    rw [if_neg (c := 1 ≤ m ∧ m ≤ k ∧ k ≤ 6 ∧ 0 ≤ j ∧ j ≤ 1099511627776) (fun q => c0 q.2.2.2.1)]
    split <;> rfl
theorem on_some (m k j : Int) : ∃ b, pat_On.f m k j = some b := by unfold pat_On.f; split <;> exact ⟨_, rfl⟩
end Go.Proofs.Ytojjffafofjfiaa.Pure
