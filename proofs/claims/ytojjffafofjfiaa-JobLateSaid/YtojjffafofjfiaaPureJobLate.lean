/- A job is there till just ahead of when it must have ended; a new one may be, is mandatory just where its number is, and will run no longer than it may. No condition. -/
import Derived.Test.YtojjffafofjfiaaQJobLate
import Derived.Test.YtojjffafofjfiaaLibJob
namespace Go.Proofs.Ytojjffafofjfiaa.Pure
open Go.RowKit Go.Proofs.Ytojjffafofjfiaa.P Go.Proofs.YtojjffafofjfiaaW.PrintWords Go.Proofs.YtojjffafofjfiaaW.PrintLast
set_option linter.unusedVariables false
set_option linter.unusedSimpArgs false
theorem awake11 : fuseelaw11_awake.f = some true := by decide +kernel
theorem JobLate : fuseelaw11_JobLate.Pure := by
  intro C T X M K E n rel due d _ _ _ _ _ _ _ _ _ _
  unfold fuseelaw11_JobLate.f
  rw [awake11]
  simp only [Option.bind_some, if_true]
  obtain ⟨b, hb⟩ := on_some M K n
  obtain ⟨e, he⟩ := jmay_some C T X M K E n rel due C d 0 true b
  have hn : job_New.f C T X M K E n rel due d = if e = true then some (true, n, rel, due, b, C, d, 0, true) else some (false, 0, 0, 0, false, 0, 0, 0, false) := by
    unfold job_New.f
    rw [hb]
    simp only [Option.bind_some]
    rw [he]
    rfl
  rw [hn]
  cases e with
  | false =>
    rw [if_neg (by decide)]
    simp only [Option.bind_some]
    rw [if_neg (by decide)]
    rfl
  | true =>
    rw [if_pos rfl]
    simp only [Option.bind_some, if_true]
    have hs := jmay_spec he
    have s := spec_ok hs
    obtain ⟨j1, j2, j3, j4, j5, j6, j7, j8, j9, j10, j11, j12⟩ := (jmay_on hs).1.1 he
    have a1 : job_At.f true n rel due b C d 0 (wrap64 (due - 1)) = some (true, n, rel, due, b, C, d, 0, 0) := by
      unfold job_At.f
      rw [if_pos rfl, spec_w64 (by omega) (by omega), if_pos (by omega)]
    have a2 : job_At.f true n rel due b C d 0 due = some (false, 0, 0, 0, false, 0, 0, 0, 3) := by
      unfold job_At.f
      rw [if_pos rfl, if_neg (by omega)]
    rw [a1, a2, he, hb, jworst_on (by omega) (by omega) (by omega) (by omega), jleft_on (by omega) (by omega) (by omega) (by omega) (by omega) (by omega)]
    simp only [Option.bind_some, if_true, BEq.rfl, Bool.and_self]
    rw [if_pos (by omega), if_pos (by omega), if_pos (by omega)]
    rfl
end Go.Proofs.Ytojjffafofjfiaa.Pure
