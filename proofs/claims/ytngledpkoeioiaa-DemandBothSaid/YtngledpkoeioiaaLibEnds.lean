/- The ends of a task's jobs. No condition but each lemma's own. -/
import Derived.Test.YtngledpkoeioiaaPx5
import Derived.Test.YtngledpkoeioiaaLibUnitAt
namespace Go.Proofs.Ytngledpkoeioiaa.Pure
open Go.RowKit Go.Proofs.Ytngledpkoeioiaa.P Go.Proofs.YtngledpkoeioiaaW.PrintWords Go.Proofs.YtngledpkoeioiaaW.PrintLast Go.Proofs.YtngledpkoeioiaaW.PrintMore
set_option linter.unusedVariables false
set_option linter.unusedSimpArgs false
theorem list_ok {a b c : Int} (h1 : 1 ≤ b) (h2 : 0 ≤ a) (h3 : a ≤ 2199023255552) (h4 : b ≤ 2199023255552) (h5 : c ≤ 2199023255552) (h6 : (c - a) / b + 1 ≤ 10000) : period_list.f a b c = some (period_list.nums a b (period_list.num a b c)) := by
  unfold period_list.f
  rw [if_pos ⟨h1, h2, h3, h4, h5, by unfold period_list.num; omega⟩]
/-- What the ends of jobs are asked of. -/
def okE (C T X M K E p fr tt : Int) : Prop := okS C T X M K E ∧ T ≤ p ∧ p ≤ X ∧ 0 ≤ fr ∧ fr ≤ tt ∧ tt ≤ 1099511627776 ∧ tt - fr ≤ 5000
theorem ends_num {p fr tt : Int} (hp : 1 ≤ p) : ((tt - (fr + p)) / p + 1) = (tt - fr) / p := by
  have : tt - fr = (tt - (fr + p)) + 1 * p := by omega
  rw [this, Int.add_mul_ediv_right _ _ (by omega)]
theorem ends_ok {C T X M K E p fr tt : Int} (h : okE C T X M K E p fr tt) : period_Ends.f C T X M K E p fr tt = some (period_list.nums (fr + p) p ((tt - fr) / p).toNat) := by
  obtain ⟨hs, h1, h2, h3, h4, h5, h6⟩ := h
  have ⟨a1, a2, a3, a4, a5, _⟩ := hs
  have us := unitsOf_spec hs h1 h2
  have hd : (tt - fr) / p ≤ tt - fr := Int.ediv_le_self _ (by omega)
  unfold period_Ends.f
  rw [at_ok hs h1 h2]
  simp only [Option.bind_some]
  rw [if_neg (by omega), if_neg (by omega), if_neg (by omega), if_neg (by omega), w64 (x := tt - fr) (by omega) (by omega), if_neg (by omega), w64 (x := fr + p) (by omega) (by omega),
    list_ok (by omega) (by omega) (by omega) (by omega) (by omega) (by rw [ends_num (by omega)]; omega)]
  simp only [Option.bind_some, period_list.num]
  rw [ends_num (by omega)]
theorem ends_no {C T X M K E p fr tt : Int} (h : ¬ okE C T X M K E p fr tt) : period_Ends.f C T X M K E p fr tt = some [] := by
  unfold period_Ends.f
  by_cases h0 : okS C T X M K E ∧ T ≤ p ∧ p ≤ X
  · have us := unitsOf_spec h0.1 h0.2.1 h0.2.2
    rw [at_ok h0.1 h0.2.1 h0.2.2]
    simp only [Option.bind_some]
    rw [if_neg (by omega)]
    by_cases c1 : fr < 0
    · rw [if_pos c1]
    rw [if_neg c1]
    by_cases c2 : fr > tt
    · rw [if_pos c2]
    rw [if_neg c2]
    by_cases c3 : tt > 1099511627776
    · rw [if_pos c3]
    rw [if_neg c3, w64 (x := tt - fr) (by omega) (by omega), if_pos]
    refine Int.not_le.1 fun q => h ⟨h0.1, h0.2.1, h0.2.2, by omega, by omega, by omega, q⟩
  · rw [at_no h0]
    rfl
theorem rd_nums {a b : Int} {m : Nat} {i : Nat} (h : i < m) : rd (period_list.nums a b m) (i : Int) = a + (i : Int) * b := by
  unfold period_list.nums rd
  simp [List.getD_eq_getElem?_getD, h]
theorem nums_length (a b : Int) (m : Nat) : (period_list.nums a b m).length = m := by unfold period_list.nums; simp
theorem nums_add (a b : Int) (m n : Nat) : period_list.nums a b m ++ period_list.nums (a + (m : Int) * b) b n = period_list.nums a b (m + n) := by
  unfold period_list.nums
  rw [List.range_add, List.map_append, List.map_map]
  congr 1
  apply List.map_congr_left
  intro i _
  simp only [Function.comp]
  rw [Int.natCast_add, Int.add_mul]
  omega
end Go.Proofs.Ytngledpkoeioiaa.Pure
