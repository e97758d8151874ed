/- In another order the same tasks have the same periods, or are refused alike. No condition. -/
import Derived.Test.YtaejikbfnlihmaaQPlanTurned
import Derived.Test.YtaejikbfnlihmaaLibAll10
namespace Go.Proofs.Ytaejikbfnlihmaa.Pure
open Go.RowKit Go.Proofs.Ytaejikbfnlihmaa.P Go.Proofs.YtaejikbfnlihmaaW.PrintWords Go.Proofs.YtaejikbfnlihmaaW.PrintLast
set_option linter.unusedVariables false
set_option linter.unusedSimpArgs false
theorem force_turned {l : List Spr} {load a b : Int} (h : isForce l load a b) : isForce l.reverse load a b := by
  unfold isForce gOf sumU at *
  rw [List.map_reverse, List.map_reverse, sum_reverse, sum_reverse]
  simp only [List.mem_reverse]
  exact h
theorem may_turned {l : List Fix} : mayF l.reverse ↔ mayF l := by
  unfold mayF
  rw [List.map_reverse, sum_reverse, List.length_reverse]
  simp only [List.mem_reverse]
theorem test_turned (l : List Fix) : testB l.reverse = testB l := by
  have e : good l.reverse ↔ good l := by
    unfold good sumF
    simp only [List.map_reverse, sum_reverse]
  rw [Bool.eq_iff_iff, testB_iff, testB_iff, may_turned, e]
theorem leasts_turned (l : List Spec) : leasts l.reverse = leasts l := by unfold leasts; rw [List.map_reverse, sum_reverse]
theorem target_turned (l : List Spec) (h4 : l.length ≤ 4) {k : Nat} (hk : 500 ≤ k) : ∃ f e, plan_Target.f k l = some (f, e) ∧ plan_Target.f k l.reverse = some (f.reverse, e) ∧ f.length ≤ 4 := by
  obtain ⟨f, e, h1, c1⟩ := target_cases l h4 hk
  obtain ⟨g, e', h2, c2⟩ := target_cases l.reverse (by rw [List.length_reverse]; exact h4) hk
  have all : (∀ s ∈ l.reverse, okT s) ↔ ∀ s ∈ l, okT s := by simp only [List.mem_reverse]
  rw [all, leasts_turned] at c2
  refine ⟨f, e, h1, ?_⟩
  rcases c1 with ⟨ha, rfl, rfl⟩ | ⟨ha, hr, rfl, rfl⟩ | ⟨ha, hr, a, b, hi, c1⟩
  · rcases c2 with ⟨_, rfl, rfl⟩ | ⟨ha', _⟩ | ⟨ha', _⟩
    · exact ⟨h2, by simp⟩
    · exact absurd ha' ha
    · exact absurd ha' ha
  · rcases c2 with ⟨ha', _⟩ | ⟨_, _, rfl, rfl⟩ | ⟨_, hr', _⟩
    · exact absurd ha ha'
    · exact ⟨h2, by simp⟩
    · omega
  · rcases c2 with ⟨ha', _⟩ | ⟨_, hr', _⟩ | ⟨_, _, a', b', hi', c2⟩
    · exact absurd ha ha'
    · omega
    · have hi2 := force_turned hi
      rw [← List.map_reverse] at hi2
      have ho : ∀ s ∈ l.reverse.map sprOf, okP s := (mayP_map (l := l.reverse) ⟨all.2 ha, by rw [List.length_reverse]; exact h4⟩).1
      obtain ⟨rfl, rfl⟩ := isForce_one ho hi2 hi'
      rw [List.map_reverse, test_turned] at c2
      rcases c1 with ⟨t1, rfl, rfl⟩ | ⟨t1, rfl, rfl⟩
      · rcases c2 with ⟨_, rfl, rfl⟩ | ⟨t2, _⟩
        · exact ⟨h2, by rw [List.length_map]; exact h4⟩
        · rw [t1] at t2; cases t2
      · rcases c2 with ⟨t2, _⟩ | ⟨_, rfl, rfl⟩
        · rw [t1] at t2; cases t2
        · exact ⟨h2, by simp⟩
theorem turned_same {f : List Fix} (h4 : f.length ≤ 4) : ∀ (d i k : Nat), i + d = f.length → d < k → fuseelaw10_PlanTurned.l1 k f f.reverse (i : Int) = some true := by
  intro d
  induction d with
  | zero =>
    intro i k hi hk
    obtain ⟨k, rfl⟩ : ∃ x, k = x + 1 := ⟨k - 1, by omega⟩
    rw [fuseelaw10_PlanTurned.l1, if_neg (by omega)]
  | succ d ih =>
    intro i k hi hk
    obtain ⟨k, rfl⟩ : ∃ x, k = x + 1 := ⟨k - 1, by omega⟩
    have hlt : i < f.length := by omega
    have e : (f.length : Int) - 1 - i = ((f.length - 1 - i : Nat) : Int) := by omega
    have hr : rd_T42 f.reverse ((f.length - 1 - i : Nat) : Int) = f[i] := by
      rw [rd_fix (by rw [List.length_reverse]; omega), List.getElem_reverse]
      congr 1
      omega
    rw [fuseelaw10_PlanTurned.l1, if_pos (by omega), if_pos (by omega), List.length_reverse, w64 (x := (f.length : Int) - 1) (by omega) (by omega), w64 (x := (f.length : Int) - 1 - i) (by omega) (by omega), e, if_pos (by omega), if_pos (by omega), rd_fix hlt, hr, if_neg (by simp), w64 (by omega) (by omega), show ((i : Int) + 1) = ((i + 1 : Nat) : Int) by omega]
    exact ih (i + 1) k (by omega) (by omega)
theorem turned_rev {l : List Spec} (h4 : l.length ≤ 4) : ∀ (i k : Nat), i ≤ l.length → 600 + i ≤ k → fuseelaw10_PlanTurned.l0 (k + 1) l (l.reverse.take (l.length - i)) (i : Int) = some true := by
  intro i
  induction i with
  | zero =>
    intro k _ hk
    rw [List.take_of_length_le (by simp)]
    obtain ⟨f, e, h1, h2, hf⟩ := target_turned l h4 (k := k) (by omega)
    rw [fuseelaw10_PlanTurned.l0, if_neg (by omega), h1, Option.bind_some, h2, Option.bind_some, if_pos rfl, if_pos (by simp)]
    exact turned_same hf f.length 0 k (by omega) (by omega)
  | succ i ih =>
    intro k hi hk
    obtain ⟨k, rfl⟩ : ∃ x, k = x + 1 := ⟨k - 1, by omega⟩
    have hlt : i < l.length := by omega
    have e : (((i + 1 : Nat) : Int) - 1) = (i : Int) := by omega
    have hj : l.length - (i + 1) < l.reverse.length := by simp; omega
    have step : l.reverse.take (l.length - (i + 1)) ++ [(⟨l[i].f0, l[i].f1, l[i].f2, l[i].f3, l[i].f4, l[i].f5⟩ : Spec)] = l.reverse.take (l.length - i) := by
      rw [show l.length - i = l.length - (i + 1) + 1 by omega, List.take_succ_eq_append_getElem hj]
      have hg : l.reverse[l.length - (i + 1)] = l[i] := by
        rw [List.getElem_reverse]
        congr 1
        omega
      rw [hg]
    rw [fuseelaw10_PlanTurned.l0, if_pos (by omega), w64 (x := ((i + 1 : Nat) : Int) - 1) (by omega) (by omega), e, if_pos (by omega), if_pos (by omega), if_pos (by simp; omega), rd_spec hlt, step]
    exact ih k (by omega) (by omega)
theorem PlanTurned : fuseelaw10_PlanTurned.Pure := by
  intro l _ _ _
  refine ⟨1001, ?_⟩
  unfold fuseelaw10_PlanTurned.f
  rw [awake10 (by omega), Option.bind_some, if_pos rfl]
  by_cases c : (l.length : Int) > 4
  · rw [if_pos c]
  · rw [if_neg c]
    have := turned_rev (l := l) (by omega) l.length 1000 (by omega) (by omega)
    rw [show l.length - l.length = 0 by omega] at this
    simpa using this
end Go.Proofs.Ytaejikbfnlihmaa.Pure
