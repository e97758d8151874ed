/- A job that begins is the next one, and lasts a period. No condition. -/
import Derived.Test.YtphonmldcbgklaaQTaskJob
import Derived.Test.YtphonmldcbgklaaLibTask
namespace Go.Proofs.Ytphonmldcbgklaa.Pure
open Go.RowKit Go.Proofs.Ytphonmldcbgklaa.P Go.Proofs.YtphonmldcbgklaaW.PrintWords Go.Proofs.YtphonmldcbgklaaW.PrintLast
set_option linter.unusedVariables false
set_option linter.unusedSimpArgs false
theorem awake15 : fuseelaw15_awake.f 1 = some true := by decide +kernel
theorem TaskJob : fuseelaw15_TaskJob.Pure := by
  intro a b c d e f g h i j l on m n o md p q r s t kp w D
  intros
  refine ⟨1, ?_⟩
  unfold fuseelaw15_TaskJob.f
  rw [awake15]
  simp only [Option.bind_some, if_true]
  by_cases c1 : w > 274877906944
  · rw [if_pos c1]
  rw [if_neg c1]
  by_cases c2 : l > 274877906944
  · rw [if_pos c2]
  rw [if_neg c2]
  obtain ⟨z, hz⟩ := t_May 0 a b c d e f g h i j l on m n o md p q r s t kp w
  rw [hz]
  simp only [Option.bind_some]
  cases z with
  | false => rfl
  | true =>
    rcases t_Begin 0 a b c d e f g h i j l on m n o md p q r s t kp w D with q1 | ⟨mt, kq, hp, q1⟩
    · rw [q1]
      simp
    · rw [q1, hp]
      simp
end Go.Proofs.Ytphonmldcbgklaa.Pure
