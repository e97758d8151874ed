/- Of tasks that pass no more must be done in any stretch of time than it is long; of others that may be the first one is told in which it is more. No condition. -/
import Derived.Test.YtngledpkoeioiaaQDemandAll
import Derived.Test.YtngledpkoeioiaaLibDemandFirst
import Derived.Test.YtngledpkoeioiaaLibA09
namespace Go.Proofs.Ytngledpkoeioiaa.Pure
open Go.RowKit Go.Proofs.Ytngledpkoeioiaa.P Go.Proofs.YtngledpkoeioiaaW.PrintWords Go.Proofs.YtngledpkoeioiaaW.PrintLast
set_option linter.unusedVariables false
set_option linter.unusedSimpArgs false
theorem DemandAll : fuseelaw09_DemandAll.Pure := by
  intro l n _ hl _ hn
  refine ⟨l.length + 2000, ?_⟩
  unfold fuseelaw09_DemandAll.f
  rw [awake09 (by omega), Option.bind_some, if_pos rfl, may_list l (by omega) (by omega), Option.bind_some]
  by_cases h : mayF l
  · rw [decide_eq_true h, if_pos rfl]
    by_cases c1 : n < 0
    · rw [if_pos c1]
    rw [if_neg c1]
    by_cases c2 : n > 1099511627776
    · rw [if_pos c2]
    rw [if_neg c2]
    obtain ⟨r, hr, hf⟩ := first_eq l (by omega) (k := l.length + 2000) (by omega)
    have hb := horF_bound l
    rw [hr, Option.bind_some, test_eq l (by omega) (by omega), Option.bind_some, test_first h hf, if_neg (by simp), hor_eq l (by omega) (by omega), Option.bind_some, all_eq l n (by omega), all_eq l r (by omega), allF_may h, allF_may h]
    simp only [Option.bind_some]
    have zero : r = 0 → decide (sumF l n ≤ n) = true := fun e => by
      refine decide_eq_true ?_
      by_cases q : n < horF l
      · rcases hf with ⟨_, b⟩ | ⟨a, _⟩
        · exact b n (by omega) q
        · omega
      · exact beyond h (by omega) (by omega)
    have pos : ¬ r = 0 → r > 0 ∧ r < horF l ∧ sumF l r > r ∧ (¬ n ≥ r → decide (sumF l n ≤ n) = true) := fun e => by
      rcases hf with ⟨a, _⟩ | ⟨a, b, c, d⟩
      · exact absurd a e
      · exact ⟨a, b, c, fun q => decide_eq_true (d n (by omega) (by omega))⟩
    have tail : (if r = 0 then some (decide (sumF l n ≤ n)) else if r > 0 then if r < horF l then if sumF l r > r then if n ≥ r then some true else some (decide (sumF l n ≤ n)) else none else none else none) = some true := by
      by_cases c : r = 0
      · rw [if_pos c, zero c]
      · obtain ⟨p1, p2, p3, p4⟩ := pos c
        rw [if_neg c, if_pos p1, if_pos p2, if_pos p3]
        by_cases q : n ≥ r
        · rw [if_pos q]
        · rw [if_neg q, p4 q]
    by_cases c3 : n ≥ horF l
    · rw [if_pos c3, if_neg (by have := beyond h (n := n) (by omega) (by omega); omega)]
      exact tail
    · rw [if_neg c3]
      exact tail
  · rw [decide_eq_false h, if_neg (by decide)]
end Go.Proofs.Ytngledpkoeioiaa.Pure
