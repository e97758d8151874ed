/- A job that would run longer is left no less; one that ran is worse off by one at most; where none is there nothing is left. No condition. -/
import Derived.Test.YtojjffafofjfiaaQJobLong
import Derived.Test.YtojjffafofjfiaaLibJob
namespace Go.Proofs.Ytojjffafofjfiaa.Pure
open Go.RowKit Go.Proofs.Ytojjffafofjfiaa.P Go.Proofs.YtojjffafofjfiaaW.PrintWords Go.Proofs.YtojjffafofjfiaaW.PrintLast
set_option linter.unusedVariables false
set_option linter.unusedSimpArgs false
theorem awake11 : fuseelaw11_awake.f = some true := by decide +kernel
theorem JobLong : fuseelaw11_JobLong.Pure := by
  intro C T X M K E o J R D Md c d r more _ _ _ _ _ _ _ _ _ _ _ _ _
  unfold fuseelaw11_JobLong.f
  rw [awake11]
  simp only [Option.bind_some, if_true]
  obtain ⟨b, hb⟩ := jmay_some C T X M K E J R D c d r o Md
  rw [hb]
  simp only [Option.bind_some]
  cases b with
  | false => rw [if_neg (by decide)]
  | true =>
    rw [if_pos rfl]
    by_cases c1 : more < 0
    · rw [if_pos c1]
    · rw [if_neg c1]
      by_cases c2 : more > 1000
      · rw [if_pos c2]
      · rw [if_neg c2]
        have hs := jmay_spec hb
        have s := spec_ok hs
        cases o with
        | false =>
          have l0 : ∀ x, job_Left.f false J R D Md c x r = some 0 := fun x => rfl
          have w0 : job_Worst.f false J R D Md c d r = some 0 := rfl
          have st : job_Step.f false J R D Md c d r = some (false, 0, 0, 0, false, 0, 0, 0, 3) := rfl
          rw [l0, l0, w0, st]
          simp only [Option.bind_some]
          rfl
        | true =>
          have hj := (jmay_on hs).1.1 hb
          obtain ⟨j1, j2, j3, j4, j5, j6, j7, j8, j9, j10, j11, j12⟩ := hj
          rw [spec_w64 (x := d + more) (by omega) (by omega), jleft_on (by omega) (by omega) (by omega) (by omega) (by omega) (by omega), jleft_on (by omega) (by omega) (by omega) (by omega) (by omega) (by omega), jworst_on (by omega) (by omega) (by omega) (by omega)]
          simp only [Option.bind_some, if_true]
          rw [if_neg (by omega), if_neg (by omega)]
          by_cases cd : d ≤ r + 1 ∨ c ≤ r + 1
          · have hst : ∃ f, f ≠ 0 ∧ job_Step.f true J R D Md c d r = some (false, 0, 0, 0, false, 0, 0, 0, f) := by
              unfold job_Step.f
              rw [if_pos rfl, spec_w64 (by omega) (by omega)]
              by_cases q : d ≤ r + 1
              · exact ⟨1, by decide, by rw [if_pos q]⟩
              · exact ⟨2, by decide, by rw [if_neg q, if_pos (by omega)]⟩
            obtain ⟨f, hf, hst⟩ := hst
            rw [hst]
            simp only [Option.bind_some]
            rw [if_neg hf]
          · have hst : job_Step.f true J R D Md c d r = some (true, J, R, D, Md, c, d, r + 1, 0) := by
              unfold job_Step.f
              rw [if_pos rfl, spec_w64 (by omega) (by omega), if_neg (by omega), if_neg (by omega)]
            rw [hst]
            simp only [Option.bind_some, if_true]
            rw [jworst_on (by omega) (by omega) (by omega) (by omega), jleft_on (by omega) (by omega) (by omega) (by omega) (by omega) (by omega)]
            simp only [Option.bind_some]
            rw [spec_w64 (by omega) (by omega), spec_w64 (by omega) (by omega), if_pos (by omega)]
            congr 1
            rw [beq_iff_eq]
            omega
end Go.Proofs.Ytojjffafofjfiaa.Pure
