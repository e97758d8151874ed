/- In a longer stretch no less must be done; with a longer period no more; with one task more no less. No condition. -/
import Derived.Test.YtngledpkoeioiaaQDemandMore
import Derived.Test.YtngledpkoeioiaaLibDemandTest
import Derived.Test.YtngledpkoeioiaaLibA09
namespace Go.Proofs.Ytngledpkoeioiaa.Pure
open Go.RowKit Go.Proofs.Ytngledpkoeioiaa.P Go.Proofs.YtngledpkoeioiaaW.PrintWords Go.Proofs.YtngledpkoeioiaaW.PrintLast
set_option linter.unusedVariables false
set_option linter.unusedSimpArgs false
theorem of_fix' (x : Fix) (p n : Int) : demand_Of.f x.f0.f0 x.f0.f1 x.f0.f2 x.f0.f3 x.f0.f4 x.f0.f5 p n = some (ofF ⟨x.f0, p⟩ n) := of_fix ⟨x.f0, p⟩ n
theorem ofF_long {x : Fix} (o : okF x) {p : Int} (h1 : x.f1 ≤ p) (h2 : p ≤ x.f0.f2) {n : Int} (n0 : 0 ≤ n) (n1 : n ≤ 1099511627776) : ofF ⟨x.f0, p⟩ n ≤ ofF x n := by
  obtain ⟨a1, a2, a3, a4, a5, a6, a7⟩ := okF_nums o
  have oy : okF ⟨x.f0, p⟩ := ⟨o.1, Int.le_trans o.2.1 h1, h2⟩
  rw [ofF_ok o n0 n1, ofF_ok oy n0 n1]
  show x.f0.f0 * up (n / p * x.f0.f3) x.f0.f4 ≤ x.f0.f0 * up (n / x.f1 * x.f0.f3) x.f0.f4
  refine Int.mul_le_mul_of_nonneg_left (up_mono (by omega) (Int.mul_le_mul_of_nonneg_right ?_ (by omega))) (by omega)
  refine Int.le_ediv_of_mul_le (by omega) ?_
  have q := Int.ediv_mul_le n (show p ≠ 0 by omega)
  have r : n / p * x.f1 ≤ n / p * p := Int.mul_le_mul_of_nonneg_left h1 (Int.ediv_nonneg n0 (by omega))
  omega
theorem more_tail (x : Fix) (p n : Int) (n0 : 0 ≤ n) (n1 : n ≤ 1099511627776) (k : Nat) (hk : 3 ≤ k) :
    fuseelaw09_DemandMore.j1 k p n false x.f0.f0 x.f0.f1 x.f0.f2 x.f0.f3 x.f0.f4 x.f0.f5 x.f1 x.f0.f0 x.f0.f1 x.f0.f2 x.f0.f3 x.f0.f4 x.f0.f5 p = some true := by
  obtain ⟨k, rfl⟩ : ∃ y, k = y + 1 := ⟨k - 1, by omega⟩
  rw [fuseelaw09_DemandMore.j1, if_neg (by decide)]
  by_cases c1 : p < x.f1
  · rw [if_pos c1]
  rw [if_neg c1]
  by_cases c2 : p > x.f0.f2
  · rw [if_pos c2]
  rw [if_neg c2, may_list [_] (by simp) (by simp; omega), Option.bind_some]
  by_cases h : mayF [x]
  · have o := h.1 x (by simp)
    rw [if_pos (decide_eq_true h), of_fix', of_fix, Option.bind_some, Option.bind_some, decide_eq_true (ofF_long o (by omega) (by omega) n0 n1)]
  · rw [if_neg (fun q => h (of_decide_eq_true q))]
theorem DemandMore : fuseelaw09_DemandMore.Pure := by
  intro l C T X M K E P p n m _ hl _ _ _ _ _ _ _ _ _ _ _
  refine ⟨2000, ?_⟩
  unfold fuseelaw09_DemandMore.f
  rw [awake09 (by omega), Option.bind_some, if_pos rfl]
  generalize hx : (⟨⟨C, T, X, M, K, E⟩, P⟩ : Fix) = x
  have e0 : C = x.f0.f0 := by rw [← hx]
  have e1 : T = x.f0.f1 := by rw [← hx]
  have e2 : X = x.f0.f2 := by rw [← hx]
  have e3 : M = x.f0.f3 := by rw [← hx]
  have e4 : K = x.f0.f4 := by rw [← hx]
  have e5 : E = x.f0.f5 := by rw [← hx]
  have e6 : P = x.f1 := by rw [← hx]
  clear hx
  subst e0 e1 e2 e3 e4 e5 e6
  have up : fuseelaw09_DemandMore.j0 2000 l p n m true true x.f0.f0 x.f0.f1 x.f0.f2 x.f0.f3 x.f0.f4 x.f0.f5 x.f1 = some true := by
    rw [fuseelaw09_DemandMore.j0, if_pos rfl]
  by_cases c1 : (l.length : Int) > 10
  · rw [if_pos c1, up]
  rw [if_neg c1]
  by_cases c2 : n < 0
  · rw [if_pos c2, up]
  rw [if_neg c2]
  by_cases c3 : m < n
  · rw [if_pos c3, up]
  rw [if_neg c3]
  by_cases c4 : m > 1099511627776
  · rw [decide_eq_true c4, up]
  rw [decide_eq_false c4, fuseelaw09_DemandMore.j0, if_neg (by decide), if_pos (by simp; omega), Option.bind_some, Option.bind_some, if_pos (by simp; omega), of_fix, of_fix, Option.bind_some, Option.bind_some,
    if_neg (by have := ofF_mono x (n := n) (m := m) (by omega) (by omega) (by omega); omega), all_eq l n (by omega), all_eq l m (by omega), Option.bind_some, Option.bind_some]
  have a1 : ∀ z, allF l z = sumF l z := fun z => if_pos (by omega)
  have a2 : ∀ z, allF (l ++ [x]) z = sumF l z + ofF x z := fun z => by
    unfold allF
    rw [if_pos (by simp; omega), sumF_append, sumF_cons, sumF_nil, Int.add_zero]
  have b1 := sumF_bound l n
  have b2 := ofF_bound x n
  rw [a1, a1, if_neg (by have := sumF_mono (n := n) (m := m) (by omega) (by omega) (by omega) l; omega), List.nil_append, all_eq (l ++ [x]) n (by simp; omega), a2, Option.bind_some, Option.bind_some, Option.bind_some, w64 (by omega) (by omega)]
  rw [show (sumF l n + ofF x n != sumF l n + ofF x n) = false by simp]
  exact more_tail x p n (by omega) (by omega) _ (by omega)
end Go.Proofs.Ytngledpkoeioiaa.Pure
