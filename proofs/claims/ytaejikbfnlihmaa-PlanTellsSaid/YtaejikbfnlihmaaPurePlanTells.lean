/- THE STAGE'S THEOREM: any tasks are springs, and are to have the periods, or are told why not, and any take as long, as the document says. No condition. -/
import Derived.Test.YtaejikbfnlihmaaQPlanTells
import Derived.Test.YtaejikbfnlihmaaLibAllT10
namespace Go.Proofs.Ytaejikbfnlihmaa.Pure
open Go.RowKit Go.Proofs.Ytaejikbfnlihmaa.P Go.Proofs.YtaejikbfnlihmaaW.PrintWords Go.Proofs.YtaejikbfnlihmaaW.PrintLast
set_option linter.unusedVariables false
set_option linter.unusedSimpArgs false
theorem springs_some (l : List Spec) (hl : l.length ≤ 1000) {k : Nat} (hk : l.length < k) : ∃ a b, plan_Springs.f k l = some (a, b) ∧ a.length ≤ 1000 := by
  by_cases h : mayT l
  · exact ⟨_, _, springs_ok h hk, by rw [List.length_map]; omega⟩
  · exact ⟨_, _, springs_no h hk, by simp⟩
theorem target_some (l : List Spec) (hl : l.length ≤ 1000) {k : Nat} (hk : 500 ≤ k) : ∃ f e, plan_Target.f k l = some (f, e) ∧ f.length ≤ 1000 := by
  by_cases c : 4 < l.length
  · exact ⟨_, _, target_full c k, by simp⟩
  · obtain ⟨f, e, h, hc⟩ := target_cases l (by omega) hk
    refine ⟨f, e, h, ?_⟩
    rcases hc with ⟨_, _, rfl⟩ | ⟨_, _, _, rfl⟩ | ⟨_, _, a, b, _, ⟨_, _, rfl⟩ | ⟨_, _, rfl⟩⟩
    · simp
    · simp
    · rw [List.length_map]; omega
    · simp
theorem bound_some (l : List Fix) (r : Int) (hl : l.length ≤ 1000) {k : Nat} (hk : l.length + 2 ≤ k) : ∃ n, plan_Bound.f k l r = some n := by
  by_cases h : mayF l ∧ 0 ≤ r ∧ r ≤ 1048576
  · exact ⟨_, bound_ok h.1 h.2.1 h.2.2 hk⟩
  · exact ⟨_, bound_no (by omega) h (by omega)⟩
theorem PlanTells : fuseelaw10_PlanTells.Pure := by
  intro l f r _ _ _ _ _ _ _
  refine ⟨3000, ?_⟩
  unfold fuseelaw10_PlanTells.f
  rw [awake10 (by omega), Option.bind_some, if_pos rfl]
  by_cases c1 : (l.length : Int) > 10
  · rw [if_pos c1]
  rw [if_neg c1]
  by_cases c2 : (f.length : Int) > 10
  · rw [if_pos c2]
  rw [if_neg c2, springs_same l (by omega) (by omega), target_same l (by omega) (by omega), bound_same f r (by omega) (by omega)]
  obtain ⟨a, b, h1, h1l⟩ := springs_some l (by omega) (k := 3000) (by omega)
  obtain ⟨g, e, h2, h2l⟩ := target_some l (by omega) (k := 3000) (by omega)
  obtain ⟨n, h3⟩ := bound_some f r (by omega) (k := 3000) (by omega)
  rw [h1, h2, h3]
  simp only [Option.bind_some]
  rw [springy_same a h1l (by omega), Option.bind_some, if_pos rfl, if_pos (by simp), same_same g h2l (by omega), Option.bind_some, if_pos rfl]
  simp
end Go.Proofs.Ytaejikbfnlihmaa.Pure
