/- Tasks: what May, Begin and Turn answer. No condition but each lemma's own. -/
import Derived.Test.YtphonmldcbgklaaPx8
import Derived.Test.YtphonmldcbgklaaPx9
import Derived.Test.YtphonmldcbgklaaPx10
import Derived.Test.YtphonmldcbgklaaPx11
import Derived.Test.YtphonmldcbgklaaPx12
import Derived.Test.YtphonmldcbgklaaLibUnitAt
namespace Go.Proofs.Ytphonmldcbgklaa.Pure
open Go.RowKit Go.Proofs.Ytphonmldcbgklaa.P Go.Proofs.YtphonmldcbgklaaW.PrintWords Go.Proofs.YtphonmldcbgklaaW.PrintLast Go.Proofs.YtphonmldcbgklaaW.PrintMore
set_option linter.unusedVariables false
set_option linter.unusedSimpArgs false
theorem ite_some {α : Type} {c : Prop} [Decidable c] {x y : Option α} (hx : ∃ b, x = some b) (hy : ∃ b, y = some b) : ∃ b, (if c then x else y) = some b := by
  by_cases h : c
  · rw [if_pos h]; exact hx
  · rw [if_neg h]; exact hy
theorem t_on (m k j : Int) : ∃ b, pat_On.f m k j = some b := by
  unfold pat_On.f
  split <;> exact ⟨_, rfl⟩
theorem t_spec (a b c d e f : Int) : ∃ r, spec_May.f a b c d e f = some r := by
  by_cases h : okS a b c d e f
  · exact ⟨_, may_ok h⟩
  · exact ⟨_, may_no h⟩
theorem t_unit (a b c d e f p : Int) : ∃ r, units_At.f a b c d e f p = some r := by
  by_cases h : okS a b c d e f ∧ b ≤ p ∧ p ≤ c
  · exact ⟨_, at_ok h.1 h.2.1 h.2.2⟩
  · exact ⟨_, at_no h⟩
theorem t_in (a b c : Int) : ∃ r, live_in.f a b c = some r := by
  unfold live_in.f
  split <;> exact ⟨_, rfl⟩
theorem t_job (C T X M K E J R D c d r : Int) (o Md : Bool) : ∃ b, job_May.f C T X M K E o J R D Md c d r = some b := by
  unfold job_May.f
  obtain ⟨s, hs⟩ := t_spec C T X M K E
  obtain ⟨p, hp⟩ := t_on M K J
  rw [hs, hp]
  simp only [Option.bind_some]
  repeat' (first | exact ⟨_, rfl⟩ | refine ite_some ?_ ?_)
theorem t_may (a b c d e f : Int) (g : Bool) (h i j : Int) (l : Bool) (m n o p q r s : Int) : ∃ z, live_may.f a b c d e f g h i j l m n o p q r s = some z := by
  unfold live_may.f
  obtain ⟨s1, h1⟩ := t_spec a b c d e f
  obtain ⟨s2, h2⟩ := t_unit a b c d e f p
  obtain ⟨s3, h3⟩ := t_in q s (wrap64 (s + 48))
  obtain ⟨s4, h4⟩ := t_in r 0 549755813888
  obtain ⟨s5, h5⟩ := t_job a b c d e f h i j m n o g l
  rw [h1, h2, h3, h4, h5]
  simp only [Option.bind_some]
  repeat' (first | exact ⟨_, rfl⟩ | refine ite_some ?_ ?_)
theorem t_ring (n b : Int) : ∃ r, ring_May.f n b = some r := by
  unfold ring_May.f
  by_cases h : n ≥ 0
  · rw [if_pos h]
    by_cases h2 : n ≤ 60
    · rw [if_pos h2, if_pos (show 0 ≤ n from h)]; exact ⟨_, rfl⟩
    · rw [if_neg h2]; exact ⟨_, rfl⟩
  · rw [if_neg h]; exact ⟨_, rfl⟩
theorem t_live (x : S38) (n : Int) : ∃ r, live_May.f [x] n = some r := by
  show ∃ r, (if 0 ≤ n ∧ n ≤ 549755813888 then live_May.one x n else some false) = some r
  split
  · exact t_may _ _ _ _ _ _ _ _ _ _ _ _ _ _ _ _ _ _
  · exact ⟨_, rfl⟩
theorem t_Live (a b c d e f g h i j l : Int) (on : Bool) (m n o : Int) (md : Bool) (p q r s t : Int) (kp : Bool) : ∃ z, task_Live.f a b c d e f g h i j l on m n o md p q r s t kp = some z := by
  unfold task_Live.f
  split <;> exact ⟨_, rfl⟩
theorem t_over (a b c d e f g h i j l : Int) (on : Bool) (m n o : Int) (md : Bool) (p q r s t : Int) (kp : Bool) : ∃ z, task_work_over.f a b c d e f g h i j l on m n o md p q r s t kp = some z := by
  unfold task_work_over.f
  split <;> exact ⟨_, rfl⟩
theorem t_j0 (k : Nat) (w : Int) (x : Bool) (a b c d e f g h i j l : Int) (on : Bool) (m n o : Int) (md : Bool) (p q r s t : Int) (kp : Bool) : ∃ z, task_May.j0 (k + 1) w x a b c d e f g h i j l on m n o md p q r s t kp = some z := by
  simp only [task_May.j0]
  obtain ⟨s1, h1⟩ := t_Live a b c d e f g h i j l on m n o md p q r s t kp
  obtain ⟨s3, h3⟩ := t_job b c d e f g m n o p q r on md
  obtain ⟨s4, h4⟩ := t_over a b c d e f g h i j l on m n o md p q r s t kp
  rw [h1, h3, h4]
  simp only [Option.bind_some]
  obtain ⟨s2, h2⟩ := t_live (⟨(⟨s1.1, s1.2.1, s1.2.2.1, s1.2.2.2.1, s1.2.2.2.2.1, s1.2.2.2.2.2.1⟩ : S23), (⟨s1.2.2.2.2.2.2.1, s1.2.2.2.2.2.2.2.1, s1.2.2.2.2.2.2.2.2.1, s1.2.2.2.2.2.2.2.2.2.1, s1.2.2.2.2.2.2.2.2.2.2.1, s1.2.2.2.2.2.2.2.2.2.2.2.1, s1.2.2.2.2.2.2.2.2.2.2.2.2.1, s1.2.2.2.2.2.2.2.2.2.2.2.2.2.1⟩ : S25), s1.2.2.2.2.2.2.2.2.2.2.2.2.2.2.1, s1.2.2.2.2.2.2.2.2.2.2.2.2.2.2.2.1, s1.2.2.2.2.2.2.2.2.2.2.2.2.2.2.2.2⟩ : S38) w
  rw [h2]
  simp only [Option.bind_some]
  repeat' (first | exact ⟨_, rfl⟩ | refine ite_some ?_ ?_)
theorem t_May (k : Nat) (a b c d e f g h i j l : Int) (on : Bool) (m n o : Int) (md : Bool) (p q r s t : Int) (kp : Bool) (w : Int) : ∃ z, task_May.f (k + 1) a b c d e f g h i j l on m n o md p q r s t kp w = some z := by
  unfold task_May.f
  obtain ⟨s1, h1⟩ := t_ring s t
  rw [h1]
  simp only [Option.bind_some]
  repeat' (first | (with_reducible exact t_j0 _ _ _ _ _ _ _ _ _ _ _ _ _ _ _ _ _ _ _ _ _ _ _ _ _) | (with_reducible refine ite_some ?_ ?_))
theorem t_new (a b c d e f n r u D : Int) {md : Bool} (hp : pat_On.f d e n = some md) : job_New.f a b c d e f n r u D = some (true, n, r, u, md, a, D, 0, true) ∨ job_New.f a b c d e f n r u D = some (false, 0, 0, 0, false, 0, 0, 0, false) := by
  unfold job_New.f
  obtain ⟨z, hz⟩ := t_job a b c d e f n r u a D 0 true md
  rw [hp]
  simp only [Option.bind_some]
  rw [hz]
  simp only [Option.bind_some]
  cases z
  · exact .inr rfl
  · exact .inl rfl
theorem t_Begin (k : Nat) (a b c d e f g h i j l : Int) (on : Bool) (m n o : Int) (md : Bool) (p q r s t : Int) (kp : Bool) (w D : Int) :
    task_Begin.f (k + 1) a b c d e f g h i j l on m n o md p q r s t kp w D = some (a, b, c, d, e, f, g, h, i, j, l, on, m, n, o, md, p, q, r, s, t, kp, false) ∨
    ∃ mt kq, pat_On.f e f l = some mt ∧ task_Begin.f (k + 1) a b c d e f g h i j l on m n o md p q r s t kp w D = some (a, b, c, d, e, f, g, i, i, wrap64 (w + i), wrap64 (l + 1), true, l, w, wrap64 (w + i), mt, b, D, 0, s, t, kq, true) := by
  have hj : ∀ x, task_Begin.j0 (k + 1) w D x a b c d e f g h i j l on m n o md p q r s t kp = some (a, b, c, d, e, f, g, h, i, j, l, on, m, n, o, md, p, q, r, s, t, kp, false) ∨
    ∃ mt kq, pat_On.f e f l = some mt ∧ task_Begin.j0 (k + 1) w D x a b c d e f g h i j l on m n o md p q r s t kp = some (a, b, c, d, e, f, g, i, i, wrap64 (w + i), wrap64 (l + 1), true, l, w, wrap64 (w + i), mt, b, D, 0, s, t, kq, true) := by
    intro x
    simp only [task_Begin.j0]
    cases x with
    | true => exact .inl rfl
    | false =>
      obtain ⟨mt, hp⟩ := t_on e f l
      rcases t_new b c d e f g l w (wrap64 (w + i)) D hp with q1 | q1
      · rw [q1]
        simp only [Option.bind_some]
        cases kp
        · exact .inr ⟨mt, _, hp, rfl⟩
        · exact .inr ⟨mt, _, hp, rfl⟩
      · rw [q1]
        exact .inl rfl
  unfold task_Begin.f
  cases on
  · rw [if_neg (by decide)]; exact hj _
  · rw [if_pos rfl]; exact hj _
end Go.Proofs.Ytphonmldcbgklaa.Pure
