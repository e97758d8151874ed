/- Turned a task is as it was, but for its periods; turned back it is the same. No condition. -/
import Derived.Test.YtphonmldcbgklaaQTaskTurns
import Derived.Test.YtphonmldcbgklaaLibTaskMay
namespace Go.Proofs.Ytphonmldcbgklaa.Pure
open Go.RowKit Go.Proofs.Ytphonmldcbgklaa.P Go.Proofs.YtphonmldcbgklaaW.PrintWords Go.Proofs.YtphonmldcbgklaaW.PrintLast
set_option linter.unusedVariables false
set_option linter.unusedSimpArgs false
theorem awake15 : fuseelaw15_awake.f 1 = some true := by decide +kernel
theorem t_Turn (a b c d e f g h i j l : Int) (on : Bool) (m n o : Int) (md : Bool) (p q r s t : Int) (kp : Bool) (B C D E F G P : Int) :
    task_Turn.f a b c d e f g h i j l on m n o md p q r s t kp B C D E F G P = some (a, b, c, d, e, f, g, h, i, j, l, on, m, n, o, md, p, q, r, s, t, kp, false) ∨
    ((B = b ∧ E = e ∧ F = f ∧ ∃ u, units_At.f B C D E F G P = some u ∧ u ≠ 0) ∧ task_Turn.f a b c d e f g h i j l on m n o md p q r s t kp B C D E F G P = some (a, B, C, D, E, F, G, h, P, j, l, on, m, n, o, md, p, q, r, s, t, kp, true)) := by
  unfold task_Turn.f
  by_cases c1 : B = b
  · rw [if_pos c1]
    by_cases c2 : E = e
    · rw [if_pos c2]
      by_cases c3 : F = f
      · rw [if_pos c3]
        obtain ⟨u, hu⟩ := t_unit B C D E F G P
        rw [hu]
        simp only [Option.bind_some]
        by_cases c4 : u = 0
        · rw [if_pos c4]; exact .inl rfl
        · rw [if_neg c4]; exact .inr ⟨⟨c1, c2, c3, u, rfl, c4⟩, rfl⟩
      · rw [if_neg c3]; exact .inl rfl
    · rw [if_neg c2]; exact .inl rfl
  · rw [if_neg c1]; exact .inl rfl
theorem t_TurnOf (a b c d e f g h i j l : Int) (on : Bool) (m n o : Int) (md : Bool) (p q r s t : Int) (kp : Bool) (C D G P u : Int) (hu : units_At.f b C D e f G P = some u) (h0 : u ≠ 0) :
    task_Turn.f a b c d e f g h i j l on m n o md p q r s t kp b C D e f G P = some (a, b, C, D, e, f, G, h, P, j, l, on, m, n, o, md, p, q, r, s, t, kp, true) := by
  unfold task_Turn.f
  rw [if_pos rfl, if_pos rfl, if_pos rfl, hu]
  simp only [Option.bind_some]
  rw [if_neg h0]
theorem TaskTurns : fuseelaw15_TaskTurns.Pure := by
  intro a b c d e f g h i j l on m n o md p q r s t kp B C D E F G P w
  intros
  refine ⟨1, ?_⟩
  unfold fuseelaw15_TaskTurns.f
  rw [awake15]
  simp only [Option.bind_some, if_true]
  obtain ⟨z, hz⟩ := t_May 0 a b c d e f g h i j l on m n o md p q r s t kp w
  rw [hz]
  simp only [Option.bind_some]
  cases z with
  | false => rfl
  | true =>
    rw [if_pos rfl]
    have HM := (t_May_iff 0 a b c d e f g h i j l on m n o md p q r s t kp w).1 hz
    obtain ⟨⟨m1, m2, m3, m4, w1, w2⟩, hr, hl, hj, ho⟩ := HM
    rcases t_Turn a b c d e f g h i j l on m n o md p q r s t kp B C D E F G P with q1 | ⟨⟨rfl, rfl, rfl, u, hu, hu0⟩, q1⟩
    · rw [q1]
      simp
    · rw [q1]
      simp only [Option.bind_some, if_true]
      obtain ⟨v, hv, hv0⟩ := live_unit hl
      rw [t_TurnOf a B C D E F G h P j l on m n o md p q r s t kp c d g i v hv hv0, t_LiveOf]
      simp only [Option.bind_some, if_true]
      have hk : okS B C D E F G := by
        by_cases hk : okS B C D E F G
        · exact hk
        · have := at_no (p := P) (fun hh => hk hh.1)
          rw [this] at hu
          exact absurd (Option.some.inj hu).symm hu0
      have hl2 := live_cong hk hu hu0 hl
      have hj2 := job_cong hk hj
      have hz2 : task_May.f 1 a B C D E F G h P j l on m n o md p q r s t kp w = some true := (t_May_iff 0 a B C D E F G h P j l on m n o md p q r s t kp w).2 ⟨⟨m1, m2, m3, m4, w1, w2⟩, hr, hl2, hj2, ho⟩
      rw [hz2]
      have hM : live_May.f ([(⟨(⟨B, C, D, E, F, G⟩ : S23), (⟨on, m, n, o, md, p, (if on = true then B else q), r⟩ : S25), P, j, l⟩ : S38)] : List S38) w = some true := by
        rw [live_MayOf, if_pos ⟨w1, w2⟩]
        exact hl2
      simp only [Option.bind_some, if_true]
      rw [hM]
      simp
end Go.Proofs.Ytphonmldcbgklaa.Pure
