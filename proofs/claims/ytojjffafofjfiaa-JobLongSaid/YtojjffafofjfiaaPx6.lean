-- Written by a program of this session (hprint.py), out of the translation; functions that the print does not take are given by hand.
import Derived.Test.YtojjffafofjfiaaPx0
namespace Go.Proofs.Ytojjffafofjfiaa.P
open Go.RowKit Go.Proofs.YtojjffafofjfiaaM Go.Proofs.YtojjffafofjfiaaW.PrintWords Go.Proofs.YtojjffafofjfiaaW.PrintLast Go.Proofs.YtojjffafofjfiaaW.PrintMore
attribute [local go_sem] max2_int min2_int max_two min_two max_three min_three max_four min_four   -- for this text's walks alone
set_option linter.unusedVariables false
set_option linter.unusedSimpArgs false

/-! ### job_Step: function 13 -/
theorem job_fates.calls (w : World) :
    Calls Try.prog 27 #[] w fun e w' => e = .returned (.agg #[.int .i64 0, .int .i64 2, .int .i64 1]) ∧ w' = w.alloc (.cells #[.int .i64 0, .int .i64 2, .int .i64 1] 51) := by
  go_enter Try.func27, Try.ntmps27
  go_wp2
  refine bodyPost_ret (v := .agg #[.int .i64 0, .int .i64 2, .int .i64 1]) (by simp [results, Try.results27, go_sem]) rfl ⟨rfl, rfl⟩
def job_Step.f (a0_0 : Bool) (a0_1 : Int) (a0_2 : Int) (a0_3 : Int) (a0_4 : Bool) (a0_5 : Int) (a0_6 : Int) (a0_7 : Int) : Option (Bool × Int × Int × Int × Bool × Int × Int × Int × Int) :=
  if a0_0 = true then (if a0_6 ≤ wrap64 (a0_7 + 1) then some (false, 0, 0, 0, false, 0, 0, 0, 1) else if a0_5 ≤ wrap64 (a0_7 + 1) then some (false, 0, 0, 0, false, 0, 0, 0, 2) else some (true, a0_1, a0_2, a0_3, a0_4, a0_5, a0_6, wrap64 (a0_7 + 1), 0))
  else some (false, 0, 0, 0, false, 0, 0, 0, 3)
set_option maxHeartbeats 8000000 in
set_option maxRecDepth 100000 in
theorem job_Step.calls (a0_0 : Bool) (a0_1 : Int) (a0_2 : Int) (a0_3 : Int) (a0_4 : Bool) (a0_5 : Int) (a0_6 : Int) (a0_7 : Int) (r1 : Bool) (r2 : Int) (r3 : Int) (r4 : Int) (r5 : Bool) (r6 : Int) (r7 : Int) (r8 : Int) (r9 : Int) (w : World) (h : job_Step.f a0_0 a0_1 a0_2 a0_3 a0_4 a0_5 a0_6 a0_7 = some (r1, r2, r3, r4, r5, r6, r7, r8, r9)) :
    Calls Try.prog 13 #[.agg #[.bool a0_0, .int .i64 a0_1, .int .i64 a0_2, .int .i64 a0_3, .bool a0_4, .int .i64 a0_5, .int .i64 a0_6, .int .i64 a0_7]] w fun e w' => e = .returned (.tuple #[.agg #[.bool r1, .int .i64 r2, .int .i64 r3, .int .i64 r4, .bool r5, .int .i64 r6, .int .i64 r7, .int .i64 r8], .int .i64 r9]) ∧ Below w.heap.size w w' := by
  have hu := Try.underlying25
  have hx0 : ∀ w : World, (Instr.index 51 (.agg #[.int .i64 0, .int .i64 2, .int .i64 1]) (.int .i64 0)).run Try.prog w = .ok (.int .i64 0) w := fun _ => by kernel_rfl
  have hx1 : ∀ w : World, (Instr.index 51 (.agg #[.int .i64 0, .int .i64 2, .int .i64 1]) (.int .i64 1)).run Try.prog w = .ok (.int .i64 2) w := fun _ => by kernel_rfl
  have hx2 : ∀ w : World, (Instr.index 51 (.agg #[.int .i64 0, .int .i64 2, .int .i64 1]) (.int .i64 2)).run Try.prog w = .ok (.int .i64 1) w := fun _ => by kernel_rfl
  cases a0_0 with
  | false =>
    have H : job_Step.f false a0_1 a0_2 a0_3 a0_4 a0_5 a0_6 a0_7 = some (false, 0, 0, 0, false, 0, 0, 0, 3) := rfl
    rw [H] at h
    simp only [Option.some.injEq, Prod.mk.injEq] at h
    obtain ⟨rfl, rfl, rfl, rfl, rfl, rfl, rfl, rfl, rfl⟩ := h
    clear H
    go_enter Try.func13, Try.ntmps13
    go_wp2
    all_goals
      refine bodyPost_ret (v := .tuple #[.agg #[.bool false, .int .i64 0, .int .i64 0, .int .i64 0, .bool false, .int .i64 0, .int .i64 0, .int .i64 0], .int .i64 3]) (by simp [results, Try.results13, go_sem]) rfl ⟨rfl, ?_⟩
      repeat (first | exact Below.refl _ _ | assumption | apply below_alloc | apply pw_below_drewN | apply below_drew1 | refine below_set ?_ (Nat.le_refl _))
  | true =>
    by_cases c1 : a0_6 ≤ wrap64 (a0_7 + 1)
    · have H : job_Step.f true a0_1 a0_2 a0_3 a0_4 a0_5 a0_6 a0_7 = some (false, 0, 0, 0, false, 0, 0, 0, 1) := by unfold job_Step.f; rw [if_pos rfl, if_pos c1]
      rw [H] at h
      simp only [Option.some.injEq, Prod.mk.injEq] at h
      obtain ⟨rfl, rfl, rfl, rfl, rfl, rfl, rfl, rfl, rfl⟩ := h
      have d1 : decide (a0_6 ≤ wrap64 (a0_7 + 1)) = true := decide_eq_true c1
      clear c1
      clear H
      go_enter Try.func13, Try.ntmps13
      go_wp2
      go_region_with (go_at_call 27; refine (job_fates.calls _).mono ?_; rintro e w' ⟨rfl, rfl⟩)
      all_goals try go_wp2
      all_goals
        refine bodyPost_ret (v := .tuple #[.agg #[.bool false, .int .i64 0, .int .i64 0, .int .i64 0, .bool false, .int .i64 0, .int .i64 0, .int .i64 0], .int .i64 1]) (by simp [results, Try.results13, go_sem]) rfl ⟨rfl, ?_⟩
        repeat (first | exact Below.refl _ _ | assumption | apply below_alloc | apply pw_below_drewN | apply below_drew1 | refine below_set ?_ (Nat.le_refl _))
    · by_cases c2 : a0_5 ≤ wrap64 (a0_7 + 1)
      · have H : job_Step.f true a0_1 a0_2 a0_3 a0_4 a0_5 a0_6 a0_7 = some (false, 0, 0, 0, false, 0, 0, 0, 2) := by unfold job_Step.f; rw [if_pos rfl, if_neg c1, if_pos c2]
        rw [H] at h
        simp only [Option.some.injEq, Prod.mk.injEq] at h
        obtain ⟨rfl, rfl, rfl, rfl, rfl, rfl, rfl, rfl, rfl⟩ := h
        have d1 : decide (a0_6 ≤ wrap64 (a0_7 + 1)) = false := decide_eq_false c1
        have d2 : decide (a0_5 ≤ wrap64 (a0_7 + 1)) = true := decide_eq_true c2
        clear c1 c2
        clear H
        go_enter Try.func13, Try.ntmps13
        go_wp2
        go_region_with (go_at_call 27; refine (job_fates.calls _).mono ?_; rintro e w' ⟨rfl, rfl⟩)
        all_goals try go_wp2
        all_goals
          refine bodyPost_ret (v := .tuple #[.agg #[.bool false, .int .i64 0, .int .i64 0, .int .i64 0, .bool false, .int .i64 0, .int .i64 0, .int .i64 0], .int .i64 2]) (by simp [results, Try.results13, go_sem]) rfl ⟨rfl, ?_⟩
          repeat (first | exact Below.refl _ _ | assumption | apply below_alloc | apply pw_below_drewN | apply below_drew1 | refine below_set ?_ (Nat.le_refl _))
      · have H : job_Step.f true a0_1 a0_2 a0_3 a0_4 a0_5 a0_6 a0_7 = some (true, a0_1, a0_2, a0_3, a0_4, a0_5, a0_6, wrap64 (a0_7 + 1), 0) := by unfold job_Step.f; rw [if_pos rfl, if_neg c1, if_neg c2]
        rw [H] at h
        simp only [Option.some.injEq, Prod.mk.injEq] at h
        obtain ⟨rfl, rfl, rfl, rfl, rfl, rfl, rfl, rfl, rfl⟩ := h
        have d1 : decide (a0_6 ≤ wrap64 (a0_7 + 1)) = false := decide_eq_false c1
        have d2 : decide (a0_5 ≤ wrap64 (a0_7 + 1)) = false := decide_eq_false c2
        clear c1 c2
        clear H
        go_enter Try.func13, Try.ntmps13
        go_wp2
        go_region_with (go_at_call 27; refine (job_fates.calls _).mono ?_; rintro e w' ⟨rfl, rfl⟩)
        all_goals try go_wp2
        all_goals
          refine bodyPost_ret (v := .tuple #[.agg #[.bool true, .int .i64 a0_1, .int .i64 a0_2, .int .i64 a0_3, .bool a0_4, .int .i64 a0_5, .int .i64 a0_6, .int .i64 (wrap64 (a0_7 + 1))], .int .i64 0]) (by simp [results, Try.results13, go_sem]) rfl ⟨rfl, ?_⟩
          repeat (first | exact Below.refl _ _ | assumption | apply below_alloc | apply pw_below_drewN | apply below_drew1 | refine below_set ?_ (Nat.le_refl _))

end Go.Proofs.Ytojjffafofjfiaa.P
