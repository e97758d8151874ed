/- A task that may be is looked on as one that may be. No condition. -/
import Derived.Test.YtphonmldcbgklaaQTaskLive
import Derived.Test.YtphonmldcbgklaaLibTaskMay
namespace Go.Proofs.Ytphonmldcbgklaa.Pure
open Go.RowKit Go.Proofs.Ytphonmldcbgklaa.P Go.Proofs.YtphonmldcbgklaaW.PrintWords Go.Proofs.YtphonmldcbgklaaW.PrintLast
set_option linter.unusedVariables false
set_option linter.unusedSimpArgs false
theorem awake15 : fuseelaw15_awake.f 1 = some true := by decide +kernel
theorem TaskLive : fuseelaw15_TaskLive.Pure := by
  intro a b c d e f g h i j l on m n o md p q r s t kp w
  intros
  refine ⟨1, ?_⟩
  unfold fuseelaw15_TaskLive.f
  rw [awake15, t_LiveOf]
  simp only [Option.bind_some, if_true]
  obtain ⟨z, hz⟩ := t_May 0 a b c d e f g h i j l on m n o md p q r s t kp w
  rw [hz]
  simp only [Option.bind_some]
  cases z with
  | false => rfl
  | true =>
    obtain ⟨⟨_, _, _, _, w1, w2⟩, _, hl, _, _⟩ := (t_May_iff 0 a b c d e f g h i j l on m n o md p q r s t kp w).1 hz
    have hM : live_May.f ([(⟨(⟨b, c, d, e, f, g⟩ : S23), (⟨on, m, n, o, md, p, (if on = true then b else q), r⟩ : S25), i, j, l⟩ : S38)] : List S38) w = some true := by
      rw [live_MayOf, if_pos ⟨w1, w2⟩]
      exact hl
    rw [if_pos rfl]
    rw [hM]
    simp only [Option.bind_some, if_true]
    cases on
    · simp
    · simp
end Go.Proofs.Ytphonmldcbgklaa.Pure
