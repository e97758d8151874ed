/- A run that ends a job puts a good outcome just where the job would have run no longer than it may. No condition. -/
import Derived.Test.YtphonmldcbgklaaQTaskGood
import Derived.Test.YtphonmldcbgklaaLibTaskMay
import Derived.Test.YtphonmldcbgklaaLibRingGood
namespace Go.Proofs.Ytphonmldcbgklaa.Pure
open Go.RowKit Go.Proofs.Ytphonmldcbgklaa.P Go.Proofs.YtphonmldcbgklaaW.PrintWords Go.Proofs.YtphonmldcbgklaaW.PrintLast
set_option linter.unusedVariables false
set_option linter.unusedSimpArgs false
theorem awake15 : fuseelaw15_awake.f 1 = some true := by decide +kernel
theorem put_good {N B : Int} (hB : 0 ≤ B) (g : Bool) : ∃ x y, ring_Put.f N B g = some (x, y) ∧ ring_Good.f x y 1 = some (if g = true then 1 else 0) := by
  obtain ⟨t, ht⟩ := view_any (N := N) hB
  obtain ⟨⟨x, y⟩, h1, h2, h3⟩ := put_view ht g
  refine ⟨x, y, h1, ?_⟩
  rw [good_eq h2]
  cases g <;> rfl
theorem job_on {C T X M K E J R D c d r : Int} {Md : Bool} (h : job_May.f C T X M K E true J R D Md c d r = some true) : 1 ≤ c ∧ c ≤ 6 ∧ 1 ≤ d ∧ d ≤ 20 ∧ 0 ≤ r ∧ r < c ∧ r < d := by
  have hk := spec_of h
  unfold job_May.f at h
  rw [may_ok hk] at h
  simp only [Option.bind_some, if_true] at h
  obtain ⟨k1, k2, _⟩ := hk
  by_cases c1 : J < 0
  · rw [if_pos c1] at h; exact absurd h (by simp)
  rw [if_neg c1] at h
  by_cases c2 : J > 1099511627776
  · rw [if_pos c2] at h; exact absurd h (by simp)
  rw [if_neg c2] at h
  by_cases c3 : R < 0
  · rw [if_pos c3] at h; exact absurd h (by simp)
  rw [if_neg c3] at h
  by_cases c4 : R ≥ D
  · rw [if_pos c4] at h; exact absurd h (by simp)
  rw [if_neg c4] at h
  by_cases c5 : D > 1099511627776
  · rw [if_pos c5] at h; exact absurd h (by simp)
  rw [if_neg c5] at h
  by_cases c6 : c = C
  · rw [if_pos c6] at h
    by_cases c7 : d ≥ 1
    · rw [if_pos c7] at h
      by_cases c8 : d ≤ 20
      · rw [if_pos c8] at h
        by_cases c9 : r ≥ 0
        · rw [if_pos c9] at h
          by_cases c10 : r < mn c d
          · have c11 : r < c ∧ r < d := by unfold mn at c10; split at c10 <;> omega
            exact ⟨by omega, by omega, c7, c8, c9, c11.1, c11.2⟩
          · rw [if_neg c10] at h; exact absurd h (by simp)
        · rw [if_neg c9] at h; exact absurd h (by simp)
      · rw [if_neg c8] at h; exact absurd h (by simp)
    · rw [if_neg c7] at h; exact absurd h (by simp)
  · rw [if_neg c6] at h; exact absurd h (by simp)
theorem run_end {a b c d e f g h i j l m n o : Int} {md : Bool} {p q r s t : Int} {kp : Bool} {x y z : Int} (hz : z ≠ 0) (hs : job_Step.f true m n o md p q r = some (false, 0, 0, 0, false, 0, 0, 0, z)) (hp : ring_Put.f s t (z == 1) = some (x, y)) :
    task_Run.f a b c d e f g h i j l true m n o md p q r s t kp = some (a, b, c, d, e, f, g, h, i, j, l, false, 0, 0, 0, false, 0, 0, 0, x, y, kp, z) := by
  unfold task_Run.f
  rw [if_pos rfl, hs]
  simp only [Option.bind_some]
  unfold task_work_done.f
  rw [if_neg hz]
  unfold task_work_put.f
  rw [hp]
  rfl
theorem run_go {a b c d e f g h i j l m n o : Int} {md : Bool} {p q r s t : Int} {kp : Bool} {r' : Int} (hs : job_Step.f true m n o md p q r = some (true, m, n, o, md, p, q, r', 0)) :
    task_Run.f a b c d e f g h i j l true m n o md p q r s t kp = some (a, b, c, d, e, f, g, h, i, j, l, true, m, n, o, md, p, q, r', s, t, kp, 0) := by
  unfold task_Run.f
  rw [if_pos rfl, hs]
  simp only [Option.bind_some]
  unfold task_work_done.f
  rw [if_pos rfl]
  rfl
theorem tw64 {x : Int} (h0 : 0 ≤ x) (h1 : x ≤ 1000) : wrap64 x = x := by unfold wrap64; omega
theorem good_loop (a b c d e f g h i j l m n o : Int) (md : Bool) (p q s t : Int) (kp : Bool) (hB : 0 ≤ t) (p1 : 1 ≤ p) (p6 : p ≤ 6) (q1 : 1 ≤ q) (q2 : q ≤ 20) :
    ∀ (u : Nat) (r x W : Int), W = x + u → 1 ≤ x → W ≤ 20 → 0 ≤ r → r + u + 1 = (if q < p then q else p) →
      fuseelaw15_TaskGood.l0 (u + 1) W x a b c d e f g h i j l true m n o md p q r s t kp = some true
  | 0, r, x, W, hW, hx, hW2, hr, hm => by
    have e1 : wrap64 (r + 1) = r + 1 := tw64 (by omega) (by split at hm <;> omega)
    simp only [fuseelaw15_TaskGood.l0]
    rw [if_pos (by omega)]
    by_cases cq : q ≤ p
    · have hs : job_Step.f true m n o md p q r = some (false, 0, 0, 0, false, 0, 0, 0, 1) := by
        unfold job_Step.f
        rw [if_pos rfl, e1, if_pos (by split at hm <;> omega)]
      obtain ⟨x1, y1, h1, h2⟩ := put_good (N := s) hB true
      rw [run_end (by decide) hs h1]
      simp only [Option.bind_some]
      rw [if_neg (by rw [decide_eq_false (by omega)]; decide), if_neg (by decide), if_pos (by omega), if_pos (by rw [decide_eq_true cq]; rfl), if_neg (by decide), h2]
      simp only [Option.bind_some]
      rw [decide_eq_true cq]
      rfl
    · have hs : job_Step.f true m n o md p q r = some (false, 0, 0, 0, false, 0, 0, 0, 2) := by
        unfold job_Step.f
        rw [if_pos rfl, e1, if_neg (by split at hm <;> omega), if_pos (by split at hm <;> omega)]
      obtain ⟨x1, y1, h1, h2⟩ := put_good (N := s) hB false
      rw [run_end (by decide) hs h1]
      simp only [Option.bind_some]
      rw [if_neg (by rw [decide_eq_false (by omega)]; decide), if_neg (by decide), if_pos (by omega), if_pos (by rw [decide_eq_false cq]; rfl), if_neg (by decide), h2]
      simp only [Option.bind_some]
      rw [decide_eq_false cq]
      rfl
  | u + 1, r, x, W, hW, hx, hW2, hr, hm => by
    have e1 : wrap64 (r + 1) = r + 1 := tw64 (by omega) (by split at hm <;> omega)
    have e2 : wrap64 (x + 1) = x + 1 := tw64 (by omega) (by omega)
    have ih := good_loop a b c d e f g h i j l m n o md p q s t kp hB p1 p6 q1 q2 u (r + 1) (x + 1) W (by omega) (by omega) hW2 (by omega) (by rw [← hm]; omega)
    unfold fuseelaw15_TaskGood.l0
    rw [if_pos (show x ≤ W by omega)]
    have hs : job_Step.f true m n o md p q r = some (true, m, n, o, md, p, q, r + 1, 0) := by
      unfold job_Step.f
      rw [if_pos rfl, e1, if_neg (by split at hm <;> omega), if_neg (by split at hm <;> omega)]
    rw [run_go hs]
    simp only [Option.bind_some]
    rw [if_neg (by rw [decide_eq_true (show x < W by omega)]; decide), if_pos trivial, if_neg (by simp), if_neg (by omega), e2]
    exact ih
theorem TaskGood : fuseelaw15_TaskGood.Pure := by
  intro a b c d e f g h i j l on m n o md p q r s t kp w
  intro _ _ _ _ _ _ _ _ _ _ _ _ _ _ _ _ _ _ ht _
  have hB := (wf_u64 ht).1
  have hA : ∀ k, fuseelaw15_awake.f (k + 1) = some true := by
    intro k
    induction k with
    | zero => exact awake15
    | succ k ih => exact fuseelaw15_awake.mono _ _ ih
  cases on with
  | false =>
    refine ⟨1, ?_⟩
    unfold fuseelaw15_TaskGood.f
    rw [hA 0]
    rfl
  | true =>
    by_cases hz : MayBe a b c d e f g h i j l true m n o md p q r s t w
    · have hz' := hz
      obtain ⟨_, _, _, hj, _⟩ := hz
      obtain ⟨j1, j2, j3, j4, j5, j6, j7⟩ := job_on hj
      refine ⟨((if q < p then q else p) - r - 1).toNat + 1, ?_⟩
      unfold fuseelaw15_TaskGood.f
      rw [hA, (t_May_iff _ a b c d e f g h i j l true m n o md p q r s t kp w).2 hz']
      simp only [Option.bind_some, if_true]
      by_cases cq : q < p
      · simp only [if_pos cq]
        rw [tw64 (by omega) (by omega)]
        exact good_loop a b c d e f g h i j l m n o md p q s t kp hB j1 j2 j3 j4 _ r 1 (q - r) (by omega) (by omega) (by omega) j5 (by rw [if_pos cq]; omega)
      · simp only [if_neg cq]
        rw [tw64 (by omega) (by omega)]
        exact good_loop a b c d e f g h i j l m n o md p q s t kp hB j1 j2 j3 j4 _ r 1 (p - r) (by omega) (by omega) (by omega) j5 (by rw [if_neg cq]; omega)
    · refine ⟨1, ?_⟩
      unfold fuseelaw15_TaskGood.f
      obtain ⟨z, hz2⟩ := t_May 0 a b c d e f g h i j l true m n o md p q r s t kp w
      rw [hA 0, hz2]
      cases z with
      | false => rfl
      | true => exact absurd ((t_May_iff 0 a b c d e f g h i j l true m n o md p q r s t kp w).1 hz2) hz
end Go.Proofs.Ytphonmldcbgklaa.Pure
