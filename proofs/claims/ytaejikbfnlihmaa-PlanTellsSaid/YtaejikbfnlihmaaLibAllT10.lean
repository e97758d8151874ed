/- Merged out of: Num SumS Sum UnitAt Ends Demand DemandTest Top POf Spring SpringForce SpringOne SpringPress Plan PlanMore Bound RLeast RAt SpringRef SpringRef2 SpringRef3 DemandFst DemandRef ROf PlanRef A10. No condition but each lemma's own. -/
import Derived.Test.YtaejikbfnlihmaaPx10
import Derived.Test.YtaejikbfnlihmaaPx11
import Derived.Test.YtaejikbfnlihmaaPx12
import Derived.Test.YtaejikbfnlihmaaPx13
import Derived.Test.YtaejikbfnlihmaaPx14
import Derived.Test.YtaejikbfnlihmaaPx15
import Derived.Test.YtaejikbfnlihmaaPx16
import Derived.Test.YtaejikbfnlihmaaPx17
import Derived.Test.YtaejikbfnlihmaaPx18
import Derived.Test.YtaejikbfnlihmaaPx19
import Derived.Test.YtaejikbfnlihmaaPx20
import Derived.Test.YtaejikbfnlihmaaPx21
import Derived.Test.YtaejikbfnlihmaaPx22
import Derived.Test.YtaejikbfnlihmaaPx23
import Derived.Test.YtaejikbfnlihmaaPx24
import Derived.Test.YtaejikbfnlihmaaPx25
import Derived.Test.YtaejikbfnlihmaaPx26
import Derived.Test.YtaejikbfnlihmaaPx5
import Derived.Test.YtaejikbfnlihmaaPx6
import Derived.Test.YtaejikbfnlihmaaPx7
import Derived.Test.YtaejikbfnlihmaaPx8
import Derived.Test.YtaejikbfnlihmaaPx9
namespace Go.Proofs.Ytaejikbfnlihmaa.Pure
open Go.RowKit Go.Proofs.Ytaejikbfnlihmaa.P Go.Proofs.YtaejikbfnlihmaaW.PrintWords Go.Proofs.YtaejikbfnlihmaaW.PrintLast Go.Proofs.YtaejikbfnlihmaaW.PrintMore
set_option linter.unusedVariables false
set_option linter.unusedSimpArgs false
/-! ## Num -/
theorem w64 {x : Int} (h0 : -9223372036854775808 ≤ x) (h1 : x ≤ 9223372036854775807) : wrap64 x = x := by unfold wrap64; omega
theorem wf_i64 {x : Int} (h : (Lit.int .i64 x).wf = true) : -9223372036854775808 ≤ x ∧ x ≤ 9223372036854775807 := by
  simp only [Lit.wf, Bool.and_eq_true, decide_eq_true_eq] at h
  exact h
/-- A quotient that is rounded up. -/
def up (x k : Int) : Int := x / k + min (x % k) 1
theorem up_spec {x k : Int} (hk : 1 ≤ k) : (up x k - 1) * k < x ∧ x ≤ up x k * k := by
  have e := Int.mul_ediv_add_emod x k
  have m0 := Int.emod_nonneg x (show k ≠ 0 by omega)
  have m1 := Int.emod_lt_of_pos x (show 0 < k by omega)
  unfold up
  have q : k * (x / k) = x / k * k := Int.mul_comm _ _
  by_cases hr : x % k = 0
  · have : min (x % k) 1 = 0 := by omega
    rw [this, Int.add_zero, Int.sub_mul]
    omega
  · have : min (x % k) 1 = 1 := by omega
    rw [this, Int.add_mul, Int.add_sub_cancel]
    omega
theorem up_le {x k n : Int} (hk : 1 ≤ k) (h : x ≤ n * k) : up x k ≤ n := by
  refine Int.not_lt.1 fun hc => ?_
  have h1 := (up_spec (x := x) hk).1
  have h2 : n * k ≤ (up x k - 1) * k := Int.mul_le_mul_of_nonneg_right (by omega) (by omega)
  omega
theorem le_up {x k n : Int} (hk : 1 ≤ k) (h : (n - 1) * k < x) : n ≤ up x k := by
  refine Int.not_lt.1 fun hc => ?_
  have h1 := (up_spec (x := x) hk).2
  have h2 : up x k * k ≤ (n - 1) * k := Int.mul_le_mul_of_nonneg_right (by omega) (by omega)
  omega
theorem up_eq {x k n : Int} (hk : 1 ≤ k) (h : (n - 1) * k < x) (h' : x ≤ n * k) : up x k = n := Int.le_antisymm (up_le hk h') (le_up hk h)
theorem ceil_up {x k : Int} (h0 : 0 ≤ x) (h1 : x ≤ 4611686018427387904) (h2 : 1 ≤ k) (h3 : k ≤ 4611686018427387904) : frac_Ceil.f x k = some (up x k, true) := by
  unfold frac_Ceil.f up
  exact if_pos ⟨h0, h1, h2, h3⟩
theorem mulb {a b A B : Int} (h0 : 0 ≤ a) (h1 : a ≤ A) (h2 : 0 ≤ b) (h3 : b ≤ B) : 0 ≤ a * b ∧ a * b ≤ A * B := ⟨Int.mul_nonneg h0 h2, Int.mul_le_mul h1 h3 h2 (by omega)⟩
/-! ## SumS -/
/-- A list that may be summed up. -/
def okL (l : List Int) : Prop := l.length ≤ 1000 ∧ l.any units_Sum.bad = false
theorem okL_nil : okL [] := ⟨by simp, rfl⟩
theorem sum_ok {l : List Int} (h : okL l) : units_Sum.f l = some (l.sum, true) := by
  unfold units_Sum.f
  exact if_pos h
theorem sum_no {l : List Int} (h : ¬ okL l) : units_Sum.f l = some (0, false) := by
  unfold units_Sum.f
  exact if_neg h
theorem bad_iff (x : Int) : units_Sum.bad x = false ↔ 0 ≤ x ∧ x ≤ 1099511627776 := by
  unfold units_Sum.bad
  rw [Bool.or_eq_false_iff, decide_eq_false_iff_not, decide_eq_false_iff_not]
  omega
theorem sum_bounds : ∀ (l : List Int), l.any units_Sum.bad = false → 0 ≤ l.sum ∧ l.sum ≤ l.length * 1099511627776
  | [], _ => by simp
  | x :: t, h => by
    simp only [List.any_cons, Bool.or_eq_false_iff] at h
    have := (bad_iff x).1 h.1
    have := sum_bounds t h.2
    simp only [List.sum_cons, List.length_cons]
    omega
theorem sum_append (l m : List Int) : (l ++ m).sum = l.sum + m.sum := by
  induction l with
  | nil => simp
  | cons x t ih => simp only [List.cons_append, List.sum_cons, ih]; omega
theorem sum_reverse (l : List Int) : l.reverse.sum = l.sum := by
  induction l with
  | nil => rfl
  | cons x t ih => rw [List.reverse_cons, sum_append, ih]; simp; omega
/-! ## Sum -/
theorem fits_ok {l : List Int} (h : okL l) : units_Fits.f l = some (decide (l.sum ≤ 983040)) := by
  unfold units_Fits.f
  rw [sum_ok h]
  rfl
theorem fits_no {l : List Int} (h : ¬ okL l) : units_Fits.f l = some false := by
  unfold units_Fits.f
  rw [sum_no h]
  rfl
/-! ## UnitAt -/
/-- A spec that may be. -/
def okS (C T X M K E : Int) : Prop := 1 ≤ C ∧ C ≤ 6 ∧ C ≤ T ∧ T ≤ X ∧ X ≤ 48 ∧ (1 ≤ M ∧ M ≤ K ∧ K ≤ 6) ∧ 0 ≤ E ∧ E ≤ 8 ∧ (0 < E ∨ T = X)
theorem may_ok {C T X M K E : Int} (h : okS C T X M K E) : spec_May.f C T X M K E = some true := by
  unfold spec_May.f spec_May.ok
  exact congrArg some (decide_eq_true h)
theorem may_no {C T X M K E : Int} (h : ¬ okS C T X M K E) : spec_May.f C T X M K E = some false := by
  unfold spec_May.f spec_May.ok
  exact congrArg some (decide_eq_false h)
/-- How many units a task has at a period. -/
def unitsOf (C M K p : Int) : Int := up (C * M * 1048576) (K * p)
theorem units_nums {C T X M K E p : Int} (h : okS C T X M K E) (h1 : T ≤ p) (h2 : p ≤ X) :
    1 ≤ C * M ∧ C * M ≤ 36 ∧ 1 ≤ K * p ∧ K * p ≤ 288 ∧ C * M ≤ K * p := by
  obtain ⟨a1, a2, a3, a4, a5, ⟨b1, b2, b3⟩, _⟩ := h
  have m1 := mulb (a := C) (b := M) (A := 6) (B := 6) (by omega) a2 (by omega) (by omega)
  have m2 := mulb (a := K) (b := p) (A := 6) (B := 48) (by omega) b3 (by omega) (by omega)
  have m3 : 1 * 1 ≤ C * M := Int.mul_le_mul a1 b1 (by omega) (by omega)
  have m4 : 1 * 1 ≤ K * p := Int.mul_le_mul (by omega) (by omega) (by omega) (by omega)
  have m5 : C * M ≤ p * K := Int.mul_le_mul (by omega) b2 (by omega) (by omega)
  rw [Int.mul_comm p K] at m5
  omega
theorem at_ok {C T X M K E p : Int} (h : okS C T X M K E) (h1 : T ≤ p) (h2 : p ≤ X) : units_At.f C T X M K E p = some (unitsOf C M K p) := by
  obtain ⟨m1, m2, m3, m4, _⟩ := units_nums h h1 h2
  unfold units_At.f
  rw [may_ok h]
  simp only [Option.bind_some, if_true]
  rw [if_neg (by omega), if_neg (by omega), w64 (x := C * M) (by omega) (by omega), w64 (by omega) (by omega), w64 (by omega) (by omega), ceil_up (by omega) (by omega) m3 (by omega)]
  rfl
theorem at_no {C T X M K E p : Int} (h : ¬ (okS C T X M K E ∧ T ≤ p ∧ p ≤ X)) : units_At.f C T X M K E p = some 0 := by
  unfold units_At.f
  by_cases h0 : okS C T X M K E
  · rw [may_ok h0]
    simp only [Option.bind_some, if_true]
    by_cases h1 : p < T
    · rw [if_pos h1]
    · rw [if_neg h1, if_pos (by refine Int.not_le.1 fun h2 => h ⟨h0, by omega, h2⟩)]
  · rw [may_no h0]
    rfl
/-- From 1 to 2^20, no less than what it takes, nor more by one. -/
theorem unitsOf_spec {C T X M K E p : Int} (h : okS C T X M K E) (h1 : T ≤ p) (h2 : p ≤ X) :
    1 ≤ unitsOf C M K p ∧ unitsOf C M K p ≤ 1048576 ∧ (unitsOf C M K p - 1) * (K * p) < C * M * 1048576 ∧ C * M * 1048576 ≤ unitsOf C M K p * (K * p) := by
  obtain ⟨m1, m2, m3, m4, m5⟩ := units_nums h h1 h2
  have s := up_spec (x := C * M * 1048576) m3
  exact ⟨le_up m3 (by omega), up_le m3 (by omega), s.1, s.2⟩
theorem unitsOf_anti {C T X M K E p q : Int} (h : okS C T X M K E) (h1 : T ≤ p) (h2 : p ≤ q) (h3 : q ≤ X) : unitsOf C M K q ≤ unitsOf C M K p := by
  obtain ⟨u1, u2, u3, u4⟩ := unitsOf_spec h h1 (Int.le_trans h2 h3)
  obtain ⟨m1, m2, m3, m4, m5⟩ := units_nums h (Int.le_trans h1 h2) h3
  refine up_le m3 (Int.le_trans u4 ?_)
  refine Int.mul_le_mul_of_nonneg_left (Int.mul_le_mul_of_nonneg_left h2 ?_) (by omega)
  have := h.2.2.2.2.2.1
  omega
/-! ## Ends -/
theorem list_ok {a b c : Int} (h1 : 1 ≤ b) (h2 : 0 ≤ a) (h3 : a ≤ 2199023255552) (h4 : b ≤ 2199023255552) (h5 : c ≤ 2199023255552) (h6 : (c - a) / b + 1 ≤ 10000) : period_list.f a b c = some (period_list.nums a b (period_list.num a b c)) := by
  unfold period_list.f
  rw [if_pos ⟨h1, h2, h3, h4, h5, by unfold period_list.num; omega⟩]
/-- What the ends of jobs are asked of. -/
def okE (C T X M K E p fr tt : Int) : Prop := okS C T X M K E ∧ T ≤ p ∧ p ≤ X ∧ 0 ≤ fr ∧ fr ≤ tt ∧ tt ≤ 1099511627776 ∧ tt - fr ≤ 5000
theorem ends_num {p fr tt : Int} (hp : 1 ≤ p) : ((tt - (fr + p)) / p + 1) = (tt - fr) / p := by
  have : tt - fr = (tt - (fr + p)) + 1 * p := by omega
  rw [this, Int.add_mul_ediv_right _ _ (by omega)]
theorem ends_ok {C T X M K E p fr tt : Int} (h : okE C T X M K E p fr tt) : period_Ends.f C T X M K E p fr tt = some (period_list.nums (fr + p) p ((tt - fr) / p).toNat) := by
  obtain ⟨hs, h1, h2, h3, h4, h5, h6⟩ := h
  have ⟨a1, a2, a3, a4, a5, _⟩ := hs
  have us := unitsOf_spec hs h1 h2
  have hd : (tt - fr) / p ≤ tt - fr := Int.ediv_le_self _ (by omega)
  unfold period_Ends.f
  rw [at_ok hs h1 h2]
  simp only [Option.bind_some]
  rw [if_neg (by omega), if_neg (by omega), if_neg (by omega), if_neg (by omega), w64 (x := tt - fr) (by omega) (by omega), if_neg (by omega), w64 (x := fr + p) (by omega) (by omega),
    list_ok (by omega) (by omega) (by omega) (by omega) (by omega) (by rw [ends_num (by omega)]; omega)]
  simp only [Option.bind_some, period_list.num]
  rw [ends_num (by omega)]
theorem ends_no {C T X M K E p fr tt : Int} (h : ¬ okE C T X M K E p fr tt) : period_Ends.f C T X M K E p fr tt = some [] := by
  unfold period_Ends.f
  by_cases h0 : okS C T X M K E ∧ T ≤ p ∧ p ≤ X
  · have us := unitsOf_spec h0.1 h0.2.1 h0.2.2
    rw [at_ok h0.1 h0.2.1 h0.2.2]
    simp only [Option.bind_some]
    rw [if_neg (by omega)]
    by_cases c1 : fr < 0
    · rw [if_pos c1]
    rw [if_neg c1]
    by_cases c2 : fr > tt
    · rw [if_pos c2]
    rw [if_neg c2]
    by_cases c3 : tt > 1099511627776
    · rw [if_pos c3]
    rw [if_neg c3, w64 (x := tt - fr) (by omega) (by omega), if_pos]
    refine Int.not_le.1 fun q => h ⟨h0.1, h0.2.1, h0.2.2, by omega, by omega, by omega, q⟩
  · rw [at_no h0]
    rfl
theorem rd_nums {a b : Int} {m : Nat} {i : Nat} (h : i < m) : rd (period_list.nums a b m) (i : Int) = a + (i : Int) * b := by
  unfold period_list.nums rd
  simp [List.getD_eq_getElem?_getD, h]
theorem nums_length (a b : Int) (m : Nat) : (period_list.nums a b m).length = m := by unfold period_list.nums; simp
theorem nums_add (a b : Int) (m n : Nat) : period_list.nums a b m ++ period_list.nums (a + (m : Int) * b) b n = period_list.nums a b (m + n) := by
  unfold period_list.nums
  rw [List.range_add, List.map_append, List.map_map]
  congr 1
  apply List.map_congr_left
  intro i _
  simp only [Function.comp]
  rw [Int.natCast_add, Int.add_mul]
  omega
/-! ## Demand -/
abbrev Fix := S42
theorem rd_fix {l : List Fix} {i : Nat} (h : i < l.length) : rd_T42 l (i : Int) = l[i] := by
  unfold rd_T42
  simp [List.getD_eq_getElem?_getD, List.getElem?_eq_getElem h]
/-- A task, at its period, that may be. -/
def okF (x : Fix) : Prop := okS x.f0.f0 x.f0.f1 x.f0.f2 x.f0.f3 x.f0.f4 x.f0.f5 ∧ x.f0.f1 ≤ x.f1 ∧ x.f1 ≤ x.f0.f2
instance (x : Fix) : Decidable (okF x) := by unfold okF okS; infer_instance
def uF (x : Fix) : Int := unitsOf x.f0.f0 x.f0.f3 x.f0.f4 x.f1
theorem okF_nums {x : Fix} (h : okF x) : 1 ≤ x.f0.f0 ∧ x.f0.f0 ≤ 6 ∧ 1 ≤ x.f1 ∧ x.f1 ≤ 48 ∧ 1 ≤ x.f0.f3 ∧ x.f0.f3 ≤ x.f0.f4 ∧ x.f0.f4 ≤ 6 := by
  obtain ⟨⟨a1, a2, a3, a4, a5, ⟨b1, b2, b3⟩, c⟩, d1, d2⟩ := h
  omega
theorem may_fix (x : Fix) : demand_may.f x.f0.f0 x.f0.f1 x.f0.f2 x.f0.f3 x.f0.f4 x.f0.f5 x.f1 = some (decide (okF x)) := by
  unfold demand_may.f
  by_cases h : okF x
  · have u := unitsOf_spec h.1 h.2.1 h.2.2
    rw [at_ok h.1 h.2.1 h.2.2, decide_eq_true h, Option.bind_some, decide_eq_true (by omega)]
  · rw [at_no h, decide_eq_false h]
    rfl
theorem at_fix (x : Fix) : units_At.f x.f0.f0 x.f0.f1 x.f0.f2 x.f0.f3 x.f0.f4 x.f0.f5 x.f1 = some (if okF x then uF x else 0) := by
  by_cases h : okF x
  · rw [if_pos h]; exact at_ok h.1 h.2.1 h.2.2
  · rw [if_neg h]; exact at_no h
theorem most_ok {m k q : Int} (h1 : 1 ≤ m) (h2 : m ≤ k) (h3 : k ≤ 6) (h4 : 0 ≤ q) (h5 : q ≤ 1099511627776) : pat_Most.f m k q = some (up (q * m) k) := by
  have hq := mulb (a := q) (b := m) (A := 1099511627776) (B := 6) h4 h5 (by omega) (by omega)
  unfold pat_Most.f pat_May.f pat_in.f
  rw [if_pos h1, if_pos h2, decide_eq_true h3]
  simp only [Option.bind_some, if_true]
  rw [if_pos h4, decide_eq_true h5]
  simp only [Option.bind_some, if_true]
  rw [w64 (by omega) (by omega), ceil_up (by omega) (by omega) (by omega) (by omega)]
  rfl
/-- What a task must have done in a stretch of n. -/
def dem (x : Fix) (n : Int) : Int := x.f0.f0 * up (n / x.f1 * x.f0.f3) x.f0.f4
def ofF (x : Fix) (n : Int) : Int := if okF x ∧ 0 ≤ n ∧ n ≤ 1099511627776 then dem x n else 0
theorem dem_bound {x : Fix} (h : okF x) {n : Int} (hn : 0 ≤ n) : 0 ≤ dem x n ∧ dem x n ≤ 6 * n ∧ 0 ≤ n / x.f1 ∧ n / x.f1 ≤ n ∧ 0 ≤ up (n / x.f1 * x.f0.f3) x.f0.f4 ∧ up (n / x.f1 * x.f0.f3) x.f0.f4 ≤ n / x.f1 := by
  obtain ⟨a1, a2, a3, a4, a5, a6, a7⟩ := okF_nums h
  have q0 : 0 ≤ n / x.f1 := Int.ediv_nonneg hn (by omega)
  have q1 : n / x.f1 ≤ n := Int.ediv_le_self _ hn
  have q2 : n / x.f1 * x.f0.f3 ≤ n / x.f1 * x.f0.f4 := Int.mul_le_mul_of_nonneg_left a6 q0
  have u1 : up (n / x.f1 * x.f0.f3) x.f0.f4 ≤ n / x.f1 := up_le (by omega) q2
  have u0 : 0 ≤ up (n / x.f1 * x.f0.f3) x.f0.f4 := le_up (by omega) (by have := Int.mul_nonneg q0 (show 0 ≤ x.f0.f3 by omega); omega)
  have m := mulb (a := x.f0.f0) (b := up (n / x.f1 * x.f0.f3) x.f0.f4) (A := 6) (B := n) (by omega) a2 u0 (by omega)
  exact ⟨m.1, m.2, q0, q1, u0, u1⟩
theorem ofF_bound (x : Fix) (n : Int) : 0 ≤ ofF x n ∧ ofF x n ≤ 6597069766656 := by
  unfold ofF
  split
  · rename_i h
    have := dem_bound h.1 h.2.1
    omega
  · omega
theorem of_fix (x : Fix) (n : Int) : demand_Of.f x.f0.f0 x.f0.f1 x.f0.f2 x.f0.f3 x.f0.f4 x.f0.f5 x.f1 n = some (ofF x n) := by
  unfold demand_Of.f
  rw [may_fix, Option.bind_some]
  by_cases h : okF x
  · obtain ⟨a1, a2, a3, a4, a5, a6, a7⟩ := okF_nums h
    rw [decide_eq_true h, if_pos rfl]
    by_cases c1 : n < 0
    · rw [if_pos c1, ofF, if_neg (by omega)]
    rw [if_neg c1]
    by_cases c2 : n > 1099511627776
    · rw [if_pos c2, ofF, if_neg (by omega)]
    have b := dem_bound h (n := n) (by omega)
    rw [if_neg c2, if_neg (by omega), Int.tdiv_eq_ediv_of_nonneg (by omega), w64 (x := n / x.f1) (by omega) (by omega), most_ok a5 a6 a7 b.2.2.1 (by omega), Option.bind_some, ofF, if_pos ⟨h, by omega, by omega⟩]
    congr 1
    exact w64 (by have := b.1; unfold dem at this; omega) (by have := b.2.1; unfold dem at this; omega)
  · rw [decide_eq_false h, if_neg (by decide), ofF, if_neg (fun q => h q.1)]
def sumF (l : List Fix) (n : Int) : Int := (l.map (ofF · n)).sum
theorem sumF_nil (n : Int) : sumF [] n = 0 := rfl
theorem sumF_cons (x : Fix) (l : List Fix) (n : Int) : sumF (x :: l) n = ofF x n + sumF l n := by unfold sumF; rw [List.map_cons, List.sum_cons]
theorem sumF_append (l m : List Fix) (n : Int) : sumF (l ++ m) n = sumF l n + sumF m n := by unfold sumF; rw [List.map_append, sum_append]
theorem sumF_bound : ∀ (l : List Fix) (n : Int), 0 ≤ sumF l n ∧ sumF l n ≤ l.length * 6597069766656
  | [], n => by simp [sumF]
  | x :: t, n => by
    have := sumF_bound t n
    have := ofF_bound x n
    rw [sumF_cons, List.length_cons]
    omega
def allF (l : List Fix) (n : Int) : Int := if l.length ≤ 1000 then sumF l n else 0
theorem all_eq (l : List Fix) (n : Int) {k : Nat} (hk : l.length < k) : demand_All.f k l n = some (allF l n) := by
  unfold demand_All.f allF
  by_cases c : l.length ≤ 1000
  · rw [if_neg (by omega), if_pos c]
    have loop : ∀ (d i k : Nat) (s : Int), i + d = l.length → d < k → 0 ≤ s → s ≤ i * 6597069766656 → demand_All.l0 k n s l (l.length : Int) (i : Int) = some (s + sumF (l.drop i) n) := by
      intro d
      induction d with
      | zero =>
        intro i k s hi hk h0 h1
        obtain ⟨k, rfl⟩ : ∃ x, k = x + 1 := ⟨k - 1, by omega⟩
        rw [demand_All.l0, if_neg (by omega), List.drop_of_length_le (by omega), sumF_nil, Int.add_zero]
      | succ d ih =>
        intro i k s hi hk h0 h1
        obtain ⟨k, rfl⟩ : ∃ x, k = x + 1 := ⟨k - 1, by omega⟩
        have hlt : i < l.length := by omega
        have b := ofF_bound l[i] n
        rw [demand_All.l0, if_pos (by omega), if_pos (by omega), if_pos (by omega), rd_fix hlt, of_fix, Option.bind_some, w64 (x := s + ofF l[i] n) (by omega) (by omega), w64 (x := (i : Int) + 1) (by omega) (by omega),
          show ((i : Int) + 1) = ((i + 1 : Nat) : Int) by omega, ih (i + 1) k _ (by omega) (by omega) (by omega) (by omega), List.drop_eq_getElem_cons hlt, sumF_cons, Int.add_assoc]
    have := loop l.length 0 k 0 (by omega) hk (by omega) (by omega)
    rw [List.drop_zero, Int.zero_add] at this
    exact this
  · rw [if_pos (by omega), if_neg c]
/-- Tasks that may be. -/
def mayF (l : List Fix) : Prop := (∀ x ∈ l, okF x) ∧ l.length ≤ 4 ∧ (l.map uF).sum ≤ 983040
instance (l : List Fix) : Decidable (mayF l) := by unfold mayF; infer_instance
theorem may_list (l : List Fix) (hl : l.length < 17592186044416) {k : Nat} (hk : l.length < k) : demand_May.f k l = some (decide (mayF l)) := by
  unfold demand_May.f
  have loop : ∀ (d i k : Nat), i + d = l.length → d < k → (∀ x ∈ l.take i, okF x) → demand_May.l0 k l ((l.take i).map uF) l (l.length : Int) (i : Int) = some (decide (mayF l)) := by
    intro d
    induction d with
    | zero =>
      intro i k hi hk hall
      obtain ⟨k, rfl⟩ : ∃ x, k = x + 1 := ⟨k - 1, by omega⟩
      rw [List.take_of_length_le (by omega)] at hall ⊢
      rw [demand_May.l0, if_neg (by omega)]
      by_cases c : l.length ≤ 4
      · rw [if_pos (by omega), fits_ok ⟨by rw [List.length_map]; omega, ?_⟩, Option.bind_some]
        · congr 1
          rw [decide_eq_decide]
          exact ⟨fun h => ⟨hall, c, h⟩, fun h => h.2.2⟩
        · rw [List.any_eq_false]
          intro u hu
          obtain ⟨x, hx, rfl⟩ := List.mem_map.1 hu
          have o := hall x hx
          have := unitsOf_spec o.1 o.2.1 o.2.2
          rw [(bad_iff _).2 (by unfold uF; omega)]
          decide
      · rw [if_neg (by omega), decide_eq_false (fun q => c q.2.1)]
    | succ d ih =>
      intro i k hi hk hall
      obtain ⟨k, rfl⟩ : ∃ x, k = x + 1 := ⟨k - 1, by omega⟩
      have hlt : i < l.length := by omega
      rw [demand_May.l0, if_pos (by omega), if_pos (by omega), if_pos (by omega), rd_fix hlt, may_fix, Option.bind_some]
      by_cases o : okF l[i]
      · rw [decide_eq_true o, if_pos rfl, at_fix, if_pos o, Option.bind_some, if_pos (by rw [List.length_map, List.length_take]; omega), w64 (x := (i : Int) + 1) (by omega) (by omega), show ((i : Int) + 1) = ((i + 1 : Nat) : Int) by omega]
        have e : (l.take i).map uF ++ [uF l[i]] = (l.take (i + 1)).map uF := by rw [List.take_succ_eq_append_getElem hlt, List.map_append]; rfl
        rw [e]
        refine ih (i + 1) k (by omega) (by omega) fun x hx => ?_
        rw [List.take_succ_eq_append_getElem hlt] at hx
        rcases List.mem_append.1 hx with h | h
        · exact hall x h
        · rw [List.mem_singleton.1 h]; exact o
      · rw [decide_eq_false o, if_neg (by decide), decide_eq_false (fun q => o (q.1 _ (List.getElem_mem hlt)))]
  exact loop l.length 0 k (by omega) hk (by simp)
def sumC (l : List Fix) : Int := (l.map (·.f0.f0)).sum
theorem sumC_cons (x : Fix) (l : List Fix) : sumC (x :: l) = x.f0.f0 + sumC l := by unfold sumC; rw [List.map_cons, List.sum_cons]
theorem sumC_bound : ∀ {l : List Fix}, (∀ x ∈ l, okF x) → (l.length : Int) ≤ sumC l ∧ sumC l ≤ l.length * 6
  | [], _ => by simp [sumC]
  | x :: t, h => by
    have := sumC_bound (l := t) (fun y hy => h y (List.mem_cons_of_mem _ hy))
    have := okF_nums (h x (List.mem_cons_self ..))
    rw [sumC_cons, List.length_cons]
    omega
def horF (l : List Fix) : Int := if mayF l then 16 * sumC l else 0
theorem horF_bound (l : List Fix) : 0 ≤ horF l ∧ horF l ≤ 384 := by
  unfold horF
  split
  · rename_i h
    have := sumC_bound h.1
    have := h.2.1
    omega
  · omega
theorem hor_eq (l : List Fix) (hl : l.length < 17592186044416) {k : Nat} (hk : l.length < k) : demand_Horizon.f k l = some (horF l) := by
  unfold demand_Horizon.f horF
  rw [may_list l hl hk, Option.bind_some]
  by_cases h : mayF l
  · rw [decide_eq_true h, if_pos rfl, if_pos h]
    have sb := sumC_bound h.1
    have h4 := h.2.1
    have loop : ∀ (d i k : Nat) (s : Int), i + d = l.length → d < k → 0 ≤ s → s + sumC (l.drop i) = sumC l → demand_Horizon.l0 k s l (l.length : Int) (i : Int) = some (16 * sumC l) := by
      intro d
      induction d with
      | zero =>
        intro i k s hi hk h0 h1
        obtain ⟨k, rfl⟩ : ∃ x, k = x + 1 := ⟨k - 1, by omega⟩
        rw [List.drop_of_length_le (by omega)] at h1
        have e : s = sumC l := by rw [← h1]; simp [sumC]
        rw [demand_Horizon.l0, if_neg (by omega), e, w64 (x := sumC l * 1048576) (by omega) (by omega), ceil_up (by omega) (by omega) (by omega) (by omega), Option.bind_some, up_eq (n := 16 * sumC l) (by omega) (by omega) (by omega)]
      | succ d ih =>
        intro i k s hi hk h0 h1
        obtain ⟨k, rfl⟩ : ∃ x, k = x + 1 := ⟨k - 1, by omega⟩
        have hlt : i < l.length := by omega
        rw [List.drop_eq_getElem_cons hlt, sumC_cons] at h1
        have n := okF_nums (h.1 _ (List.getElem_mem hlt))
        have sd := sumC_bound (l := l.drop (i + 1)) (fun y hy => h.1 y (List.mem_of_mem_drop hy))
        rw [demand_Horizon.l0, if_pos (by omega), if_pos (by omega), if_pos (by omega), rd_fix hlt, w64 (x := s + l[i].f0.f0) (by omega) (by omega), w64 (x := (i : Int) + 1) (by omega) (by omega), show ((i : Int) + 1) = ((i + 1 : Nat) : Int) by omega]
        exact ih (i + 1) k _ (by omega) (by omega) (by omega) (by omega)
    exact loop l.length 0 k 0 (by omega) hk (by omega) (by rw [List.drop_zero, Int.zero_add])
  · rw [decide_eq_false h, if_neg (by decide), if_neg h]
/-- The last end of a job ahead of n. -/
def lastG (n s : Int) : List Fix → Int
  | [] => s
  | x :: t => lastG n (max s ((n - 1) / x.f1 * x.f1)) t
def lastF (l : List Fix) (n : Int) : Int := lastG n 0 l
theorem lastG_spec (n : Int) (hn : 1 ≤ n) : ∀ (l : List Fix) (s : Int), (∀ x ∈ l, okF x) → 0 ≤ s → s ≤ n - 1 → s ≤ lastG n s l ∧ lastG n s l ≤ n - 1 ∧ ∀ x ∈ l, (n - 1) / x.f1 * x.f1 ≤ lastG n s l
  | [], s, _, h0, h1 => by simp [lastG, h1]
  | x :: t, s, h, h0, h1 => by
    have o := okF_nums (h x (List.mem_cons_self ..))
    have d1 : (n - 1) / x.f1 * x.f1 ≤ n - 1 := Int.ediv_mul_le _ (by omega)
    have := lastG_spec n hn t (max s ((n - 1) / x.f1 * x.f1)) (fun y hy => h y (List.mem_cons_of_mem _ hy)) (by omega) (by omega)
    rw [lastG]
    refine ⟨by omega, this.2.1, fun y hy => ?_⟩
    rcases List.mem_cons.1 hy with rfl | hy
    · omega
    · exact this.2.2 y hy
theorem lastF_spec {l : List Fix} (h : ∀ x ∈ l, okF x) {n : Int} (hn : 1 ≤ n) : 0 ≤ lastF l n ∧ lastF l n ≤ n - 1 ∧ ∀ x ∈ l, (n - 1) / x.f1 * x.f1 ≤ lastF l n :=
  lastG_spec n hn l 0 h (by omega) (by omega)
theorem mx_max (a b : Int) : mx a b = max a b := by unfold mx; split <;> omega
theorem last_eq {l : List Fix} (h : ∀ x ∈ l, okF x) (hl : l.length ≤ 1000) {n : Int} (hn : 1 ≤ n) (hn2 : n ≤ 5001) {k : Nat} (hk : l.length < k) : demand_last.f k l n = some (lastF l n) := by
  unfold demand_last.f lastF
  have loop : ∀ (d i k : Nat) (s : Int), i + d = l.length → d < k → 0 ≤ s → s ≤ n - 1 → demand_last.l0 k n s l (l.length : Int) (i : Int) = some (lastG n s (l.drop i)) := by
    intro d
    induction d with
    | zero =>
      intro i k s hi hk h0 h1
      obtain ⟨k, rfl⟩ : ∃ x, k = x + 1 := ⟨k - 1, by omega⟩
      rw [demand_last.l0, if_neg (by omega), List.drop_of_length_le (by omega), lastG]
    | succ d ih =>
      intro i k s hi hk h0 h1
      obtain ⟨k, rfl⟩ : ∃ x, k = x + 1 := ⟨k - 1, by omega⟩
      have hlt : i < l.length := by omega
      have o := h _ (List.getElem_mem hlt)
      have nn := okF_nums o
      have d0 : 0 ≤ (n - 1) / l[i].f1 := Int.ediv_nonneg (by omega) (by omega)
      have d2 : (n - 1) / l[i].f1 ≤ n - 1 := Int.ediv_le_self _ (by omega)
      have d1 : (n - 1) / l[i].f1 * l[i].f1 ≤ n - 1 := Int.ediv_mul_le _ (by omega)
      have dn : 0 ≤ (n - 1) / l[i].f1 * l[i].f1 := Int.mul_nonneg d0 (by omega)
      rw [demand_last.l0, if_pos (by omega), if_pos (by omega), if_pos (by omega), rd_fix hlt, w64 (x := n - 1) (by omega) (by omega), ends_ok ⟨o.1, o.2.1, o.2.2, by omega, by omega, by omega, by omega⟩, Option.bind_some, nums_length, List.drop_eq_getElem_cons hlt, lastG,
        w64 (x := (i : Int) + 1) (by omega) (by omega), show ((i : Int) + 1) = ((i + 1 : Nat) : Int) by omega]
      obtain ⟨q, hq⟩ : ∃ q : Nat, (q : Int) = (n - 1) / l[i].f1 := ⟨((n - 1) / l[i].f1).toNat, by omega⟩
      rw [Int.sub_zero, ← hq, Int.toNat_natCast]
      by_cases c : (q : Int) > 0
      · rw [if_pos c, w64 (x := (q : Int) - 1) (by omega) (by omega), if_pos (by omega), if_pos (by omega), show (q : Int) - 1 = ((q - 1 : Nat) : Int) by omega, rd_nums (by omega), mx_max]
        have e : 0 + l[i].f1 + ((q - 1 : Nat) : Int) * l[i].f1 = (q : Int) * l[i].f1 := by
          obtain ⟨q, rfl⟩ : ∃ x, q = x + 1 := ⟨q - 1, by omega⟩
          rw [show (q + 1 - 1 : Nat) = q by omega, Int.natCast_add, Int.add_mul]
          omega
        rw [e]
        rw [← hq] at d1 dn
        exact ih (i + 1) k _ (by omega) (by omega) (by omega) (by omega)
      · have e : (q : Int) = 0 := by omega
        rw [if_neg c, e, Int.zero_mul, show max s 0 = s by omega]
        exact ih (i + 1) k _ (by omega) (by omega) h0 h1
  have := loop l.length 0 k 0 (by omega) hk (by omega) (by omega)
  rw [List.drop_zero] at this
  exact this
theorem last_zero (l : List Fix) (hl : l.length ≤ 1000) {k : Nat} (hk : l.length < k) : demand_last.f k l 0 = some 0 := by
  unfold demand_last.f
  have loop : ∀ (d i k : Nat), i + d = l.length → d < k → demand_last.l0 k 0 0 l (l.length : Int) (i : Int) = some 0 := by
    intro d
    induction d with
    | zero =>
      intro i k hi hk
      obtain ⟨k, rfl⟩ : ∃ x, k = x + 1 := ⟨k - 1, by omega⟩
      rw [demand_last.l0, if_neg (by omega)]
    | succ d ih =>
      intro i k hi hk
      obtain ⟨k, rfl⟩ : ∃ x, k = x + 1 := ⟨k - 1, by omega⟩
      have hlt : i < l.length := by omega
      rw [demand_last.l0, if_pos (by omega), if_pos (by omega), if_pos (by omega), rd_fix hlt, w64 (x := (0 : Int) - 1) (by omega) (by omega), ends_no (fun q => by have := q.2.2.2.2.1; omega), Option.bind_some, if_neg (by simp),
        w64 (x := (i : Int) + 1) (by omega) (by omega), show ((i : Int) + 1) = ((i + 1 : Nat) : Int) by omega]
      exact ih (i + 1) k (by omega) (by omega)
  exact loop l.length 0 k (by omega) hk
/-! ## DemandTest -/
theorem up_mono {a b k : Int} (hk : 1 ≤ k) (h : a ≤ b) : up a k ≤ up b k := up_le hk (Int.le_trans h (up_spec hk).2)
theorem dem_mono {x : Fix} (h : okF x) {n m : Int} (h2 : n ≤ m) : dem x n ≤ dem x m := by
  obtain ⟨a1, a2, a3, a4, a5, a6, a7⟩ := okF_nums h
  unfold dem
  refine Int.mul_le_mul_of_nonneg_left (up_mono (by omega) (Int.mul_le_mul_of_nonneg_right (Int.ediv_le_ediv (by omega) h2) (by omega))) (by omega)
theorem ofF_ok {x : Fix} (h : okF x) {n : Int} (h1 : 0 ≤ n) (h2 : n ≤ 1099511627776) : ofF x n = dem x n := if_pos ⟨h, h1, h2⟩
theorem ofF_no {x : Fix} (h : ¬ okF x) (n : Int) : ofF x n = 0 := if_neg fun q => h q.1
theorem ofF_mono (x : Fix) {n m : Int} (h0 : 0 ≤ n) (h1 : n ≤ m) (h2 : m ≤ 1099511627776) : ofF x n ≤ ofF x m := by
  by_cases h : okF x
  · rw [ofF_ok h h0 (by omega), ofF_ok h (by omega) h2]; exact dem_mono h h1
  · rw [ofF_no h, ofF_no h]; omega
theorem sumF_mono {n m : Int} (h0 : 0 ≤ n) (h1 : n ≤ m) (h2 : m ≤ 1099511627776) : ∀ (l : List Fix), sumF l n ≤ sumF l m
  | [] => by simp [sumF]
  | x :: t => by
    have := sumF_mono h0 h1 h2 t
    have := ofF_mono x h0 h1 h2
    rw [sumF_cons, sumF_cons]
    omega
theorem div_same {a b c p : Int} (hp : 1 ≤ p) (h1 : a / p * p ≤ b) (h2 : b ≤ c) (h3 : c ≤ a) : b / p = c / p := by
  have e1 : a / p ≤ b / p := Int.le_ediv_of_mul_le (by omega) h1
  have e2 : b / p ≤ c / p := Int.ediv_le_ediv (by omega) h2
  have e3 : c / p ≤ a / p := Int.ediv_le_ediv (by omega) h3
  omega
theorem sumF_stay {n m : Int} (h0 : 0 ≤ m) (h2 : n ≤ 1099511627776) : ∀ {l : List Fix} {e : Int}, (∀ x ∈ l, okF x) → 0 ≤ e → (∀ x ∈ l, (n - 1) / x.f1 * x.f1 ≤ e) → e ≤ m → m ≤ n - 1 → sumF l m = sumF l e
  | [], e, _, _, _, _, _ => by simp [sumF]
  | x :: t, e, ho, he, hs, h3, h4 => by
    have o := ho x (List.mem_cons_self ..)
    have a := okF_nums o
    have r := sumF_stay h0 h2 (l := t) (e := e) (fun y hy => ho y (List.mem_cons_of_mem _ hy)) he (fun y hy => hs y (List.mem_cons_of_mem _ hy)) h3 h4
    have d := div_same (a := n - 1) (p := x.f1) (by omega) (hs x (List.mem_cons_self ..)) h3 (by omega)
    rw [sumF_cons, sumF_cons, r, ofF_ok o (by omega) (by omega), ofF_ok o (by omega) (by omega)]
    unfold dem
    rw [d]
theorem last_stay {l : List Fix} (h : ∀ x ∈ l, okF x) {n m : Int} (h0 : 1 ≤ n) (h2 : n ≤ 1099511627776) (h3 : lastF l n ≤ m) (h4 : m ≤ n - 1) : sumF l m = sumF l (lastF l n) := by
  have s := lastF_spec h h0
  exact sumF_stay (n := n) (by omega) h2 h s.1 s.2.2 h3 h4
/-- One task's demand, times 2^20. -/
theorem dem_units {x : Fix} (h : okF x) {n : Int} (h0 : 0 ≤ n) : dem x n * 1048576 ≤ uF x * n + x.f0.f0 * 1048576 := by
  obtain ⟨a1, a2, a3, a4, a5, a6, a7⟩ := okF_nums h
  obtain ⟨u1, u2, u3, u4⟩ := unitsOf_spec h.1 h.2.1 h.2.2
  have b := dem_bound h h0
  have s := (up_spec (x := n / x.f1 * x.f0.f3) (k := x.f0.f4) (by omega)).1
  have qp : n / x.f1 * x.f1 ≤ n := Int.ediv_mul_le _ (by omega)
  unfold dem uF at *
  generalize unitsOf x.f0.f0 x.f0.f3 x.f0.f4 x.f1 = u at *
  generalize up (n / x.f1 * x.f0.f3) x.f0.f4 = v at *
  generalize n / x.f1 = q at *
  generalize x.f0.f0 = C at *
  generalize x.f0.f3 = M at *
  generalize x.f0.f4 = K at *
  generalize x.f1 = P at *
  -- (v - 1) * C * 2^20 ≤ u * n, both sides times K * P
  have kp : 0 < K * P := Int.mul_pos (by omega) (by omega)
  have m1 : (v - 1) * K * (C * 1048576 * P) ≤ q * M * (C * 1048576 * P) := Int.mul_le_mul_of_nonneg_right (by omega) (Int.mul_nonneg (by omega) (by omega))
  have qp0 : 0 ≤ q * P := Int.mul_nonneg (by omega) (by omega)
  have m2 : C * M * 1048576 * (q * P) ≤ u * (K * P) * (q * P) := Int.mul_le_mul_of_nonneg_right u4 qp0
  have m3 : u * (K * P) * (q * P) ≤ u * (K * P) * n := Int.mul_le_mul_of_nonneg_left qp (Int.mul_nonneg (by omega) (by omega))
  have e1 : q * M * (C * 1048576 * P) = C * M * 1048576 * (q * P) := by ac_rfl
  have e2 : (v - 1) * K * (C * 1048576 * P) = (v - 1) * (C * 1048576) * (K * P) := by ac_rfl
  have e3 : u * (K * P) * n = u * n * (K * P) := by ac_rfl
  have m4 : (v - 1) * (C * 1048576) * (K * P) ≤ u * n * (K * P) := by rw [← e2, ← e3]; omega
  have m5 : (v - 1) * (C * 1048576) ≤ u * n := Int.le_of_mul_le_mul_right m4 kp
  have e4 : (v - 1) * (C * 1048576) = C * v * 1048576 - C * 1048576 := by rw [Int.sub_mul, Int.one_mul, ← Int.mul_assoc, Int.mul_comm v C]
  omega
theorem sumF_units {n : Int} (h0 : 0 ≤ n) (h1 : n ≤ 1099511627776) : ∀ {l : List Fix}, (∀ x ∈ l, okF x) → sumF l n * 1048576 ≤ (l.map uF).sum * n + sumC l * 1048576
  | [], _ => by simp [sumF, sumC]
  | x :: t, h => by
    have o := h x (List.mem_cons_self ..)
    have r := sumF_units h0 h1 (l := t) (fun y hy => h y (List.mem_cons_of_mem _ hy))
    have d := dem_units o h0
    rw [sumF_cons, ofF_ok o h0 h1, List.map_cons, List.sum_cons, sumC_cons, Int.add_mul, Int.add_mul, Int.add_mul]
    omega
theorem beyond {l : List Fix} (h : mayF l) {n : Int} (h0 : horF l ≤ n) (h1 : n ≤ 1099511627776) : sumF l n ≤ n := by
  have hh : horF l = 16 * sumC l := if_pos h
  have sb := sumC_bound h.1
  have hn : 0 ≤ n := by omega
  have u := sumF_units hn h1 h.1
  have m : (l.map uF).sum * n ≤ 983040 * n := Int.mul_le_mul_of_nonneg_right h.2.2 hn
  omega
/-- It is nowhere too much. -/
def good (l : List Fix) : Prop := ∀ n, 0 ≤ n → n ≤ 1099511627776 → sumF l n ≤ n
theorem allF_may {l : List Fix} (h : mayF l) (n : Int) : allF l n = sumF l n := if_pos (by have := h.2.1; omega)
theorem test_loop {l : List Fix} (h : mayF l) : ∀ (k : Nat) (n : Int), 0 ≤ n → n ≤ 384 → n + 6 ≤ k → (∀ m, n < m → m ≤ 1099511627776 → m < sumF l m → sumF l m ≤ sumF l n) → ∃ b, demand_Test.l0 k l n = some b ∧ (b = true ↔ good l) := by
  intro k
  induction k with
  | zero => intro n h0 h1 h2; omega
  | succ k ih =>
    intro n h0 h1 h2 inv
    have h4 := h.2.1
    rw [demand_Test.l0]
    by_cases c1 : n = 0
    · refine ⟨true, by rw [if_pos c1], iff_of_true rfl fun m m0 m1 => ?_⟩
      have z : sumF l 0 = 0 := by
        have : ∀ t : List Fix, (∀ x ∈ t, okF x) → sumF t 0 = 0 := by
          intro t
          induction t with
          | nil => intro _; rfl
          | cons x t it =>
            intro ht
            have o := ht x (List.mem_cons_self ..)
            have b := dem_bound o (n := 0) (by omega)
            rw [sumF_cons, it (fun y hy => ht y (List.mem_cons_of_mem _ hy)), ofF_ok o (by omega) (by omega)]
            omega
        exact this l h.1
      by_cases c : m = 0
      · subst c; omega
      · refine Int.not_lt.1 fun q => ?_
        have := inv m (by omega) m1 q
        subst c1
        omega
    · rw [if_neg c1, all_eq l n (by omega), Option.bind_some, allF_may h]
      have mono : ∀ m, 0 ≤ m → m ≤ n → sumF l m ≤ sumF l n := fun m m0 m1 => sumF_mono m0 m1 (by omega) l
      have sb := sumF_bound l n
      by_cases c2 : sumF l n > n
      · exact ⟨false, by rw [if_pos c2], iff_of_false (by decide) fun g => by have := g n h0 (by omega); omega⟩
      rw [if_neg c2]
      have above : ∀ m, n ≤ m → m ≤ 1099511627776 → sumF l m ≤ m := fun m m0 m1 => by
        by_cases c : m = n
        · subst c; omega
        · refine Int.not_lt.1 fun q => ?_
          have := inv m (by omega) m1 q
          omega
      have next : ∀ t, 1 ≤ t → t ≤ n → (∀ m, t ≤ m → m ≤ n → sumF l m ≤ m) → ∃ b, ((demand_last.f k l t).bind fun t => demand_Test.l0 k l t) = some b ∧ (b = true ↔ good l) := by
        intro t t1 t2 ht
        have s := lastF_spec h.1 t1
        rw [last_eq h.1 (by omega) t1 (by omega) (by omega), Option.bind_some]
        refine ih _ s.1 (by omega) (by omega) fun m m0 m1 m2 => ?_
        by_cases q : m ≤ t - 1
        · rw [last_stay h.1 t1 (by omega) (by omega) q]; omega
        · exfalso
          by_cases q2 : m ≤ n
          · have := ht m (by omega) q2; omega
          · have := above m (by omega) m1; omega
      by_cases c3 : sumF l n < n ∧ sumF l n > 0
      · rw [if_pos c3, w64 (by omega) (by omega)]
        refine next _ (by omega) (by omega) fun m m0 m1 => ?_
        have := mono m (by omega) m1
        omega
      · rw [if_neg c3]
        by_cases c4 : sumF l n = n
        · rw [if_pos c4]
          exact next n (by omega) (by omega) fun m m0 m1 => by have := mono m (by omega) m1; omega
        · refine ⟨true, by rw [if_neg c4], iff_of_true rfl fun m m0 m1 => ?_⟩
          by_cases q : m ≤ n
          · have := mono m m0 q; omega
          · exact above m (by omega) m1
open Classical in
/-- The test. -/
noncomputable def testB (l : List Fix) : Bool := decide (mayF l ∧ good l)
open Classical in
theorem testB_iff {l : List Fix} : testB l = true ↔ mayF l ∧ good l := by unfold testB; exact decide_eq_true_iff
theorem horF_pos {l : List Fix} (h : mayF l) : l = [] ∨ 16 ≤ horF l := by
  have hh : horF l = 16 * sumC l := if_pos h
  have sb := sumC_bound h.1
  cases l with
  | nil => exact .inl rfl
  | cons x t => rw [List.length_cons] at sb; exact .inr (by omega)
theorem test_eq (l : List Fix) (hl : l.length < 17592186044416) {k : Nat} (hk : l.length + 400 ≤ k) : demand_Test.f k l = some (testB l) := by
  unfold demand_Test.f
  rw [may_list l hl (by omega), Option.bind_some]
  by_cases h : mayF l
  · rw [decide_eq_true h, if_pos rfl, hor_eq l hl (by omega), Option.bind_some]
    have hb := horF_bound l
    have h4 := h.2.1
    have key : ∃ b, ((demand_last.f k l (horF l)).bind fun n => demand_Test.l0 k l n) = some b ∧ (b = true ↔ good l) := by
      rcases horF_pos h with e | e
      · subst e
        rw [show horF [] = 0 by simp [horF, sumC], last_zero _ (by simp) (by simp; omega), Option.bind_some]
        exact test_loop h k 0 (by omega) (by omega) (by omega) fun m _ _ q => by rw [sumF_nil] at q; omega
      · have s := lastF_spec h.1 (n := horF l) (by omega)
        rw [last_eq h.1 (by omega) (by omega) (by omega) (by omega), Option.bind_some]
        refine test_loop h k _ s.1 (by omega) (by omega) fun m m0 m1 m2 => ?_
        by_cases q : m ≤ horF l - 1
        · rw [last_stay h.1 (by omega) (by omega) (by omega) q]; omega
        · have := beyond h (n := m) (by omega) m1
          omega
    obtain ⟨b, hb, hi⟩ := key
    rw [hb]
    congr 1
    rw [Bool.eq_iff_iff, hi, testB_iff]
    exact ⟨fun g => ⟨h, g⟩, fun g => g.2⟩
  · rw [decide_eq_false h, if_neg (by decide)]
    congr 1
    symm
    rw [Bool.eq_false_iff]
    exact fun q => h (testB_iff.1 q).1
/-! ## Top -/
theorem top_ok {C T X M K E : Int} (h : okS C T X M K E) : units_Top.f C T X M K E = some (unitsOf C M K T) := by
  unfold units_Top.f
  rw [at_ok h (Int.le_refl _) h.2.2.2.1]
  rfl
theorem top_no {C T X M K E : Int} (h : ¬ okS C T X M K E) : units_Top.f C T X M K E = some 0 := by
  unfold units_Top.f
  rw [at_no (fun q => h q.1)]
  rfl
theorem least_ok {C T X M K E : Int} (h : okS C T X M K E) : units_Least.f C T X M K E = some (unitsOf C M K X) := by
  unfold units_Least.f
  rw [at_ok h h.2.2.2.1 (Int.le_refl _)]
  rfl
theorem least_no {C T X M K E : Int} (h : ¬ okS C T X M K E) : units_Least.f C T X M K E = some 0 := by
  unfold units_Least.f
  rw [at_no (fun q => h q.1)]
  rfl
/-! ## POf -/
/-- The least number of a period at which a task's units are no more than u. -/
def leastP (C M K u : Int) : Int := up (C * M * 1048576) (u * K)
theorem at_le {C T X M K E q u : Int} (h : okS C T X M K E) (h1 : T ≤ q) (h2 : q ≤ X) (hu : 1 ≤ u) : unitsOf C M K q ≤ u ↔ leastP C M K u ≤ q := by
  obtain ⟨m1, m2, m3, m4, m5⟩ := units_nums h h1 h2
  have hk := h.2.2.2.2.2.1
  have huk : 1 * 1 ≤ u * K := Int.mul_le_mul hu (by omega) (by omega) (by omega)
  have e : u * (K * q) = q * (u * K) := by rw [← Int.mul_assoc, Int.mul_comm]
  have s1 := up_spec (x := C * M * 1048576) m3
  have s2 := up_spec (x := C * M * 1048576) (k := u * K) (by omega)
  unfold unitsOf leastP
  constructor
  · intro hle
    refine up_le (by omega) ?_
    rw [← e]
    exact Int.le_trans s1.2 (Int.mul_le_mul_of_nonneg_right hle (by omega))
  · intro hle
    refine up_le m3 ?_
    rw [e]
    exact Int.le_trans s2.2 (Int.mul_le_mul_of_nonneg_right hle (by omega))
theorem leastP_num {C T X M K E u : Int} (h : okS C T X M K E) (hu : 1 ≤ u) (hu2 : u ≤ 1048576) : 1 ≤ u * K ∧ u * K ≤ 6291456 ∧ 1 ≤ C * M ∧ C * M ≤ 36 ∧ 1 ≤ leastP C M K u ∧ leastP C M K u ≤ 37748736 := by
  obtain ⟨m1, m2, _⟩ := units_nums h (Int.le_refl T) h.2.2.2.1
  have hk := h.2.2.2.2.2.1
  have huk : 1 * 1 ≤ u * K := Int.mul_le_mul hu (by omega) (by omega) (by omega)
  have huk2 := mulb (a := u) (b := K) (A := 1048576) (B := 6) (by omega) hu2 (by omega) hk.2.2
  refine ⟨by omega, by omega, m1, m2, le_up (by omega) (by omega), up_le (by omega) ?_⟩
  have : 37748736 * 1 ≤ 37748736 * (u * K) := Int.mul_le_mul_of_nonneg_left (by omega) (by omega)
  omega
theorem pof_bad {C T X M K E u : Int} (h : ¬ (okS C T X M K E ∧ 1 ≤ u ∧ u ≤ 1048576)) (f : Nat) : period_Of.f (f + 1) C T X M K E u = some (0, false) := by
  unfold period_Of.f
  by_cases h0 : okS C T X M K E
  · rw [may_ok h0]
    simp only [Option.bind_some, if_true]
    by_cases h1 : u < 1
    · rw [if_pos h1, period_Of.j0, if_pos rfl]
    · rw [if_neg h1, decide_eq_true (show u > 1048576 by refine Int.not_le.1 fun h2 => h ⟨h0, by omega, h2⟩), period_Of.j0, if_pos rfl]
  · rw [may_no h0]
    simp only [Option.bind_some]
    rw [if_neg (by decide), period_Of.j0, if_pos rfl]
theorem pof_eq {C T X M K E u : Int} (h : okS C T X M K E) (hu : 1 ≤ u) (hu2 : u ≤ 1048576) (f : Nat) :
    period_Of.f (f + 1) C T X M K E u = if leastP C M K u ≤ X then some (max (leastP C M K u) T, true) else some (0, false) := by
  obtain ⟨k1, k2, m1, m2, l1, l2⟩ := leastP_num h hu hu2
  unfold period_Of.f
  rw [may_ok h]
  simp only [Option.bind_some, if_true]
  rw [if_neg (by omega), decide_eq_false (by omega), period_Of.j0, if_neg (by decide), w64 (x := C * M) (by omega) (by omega), w64 (x := C * M * 1048576) (by omega) (by omega), w64 (x := u * K) (by omega) (by omega), ceil_up (by omega) (by omega) k1 (by omega)]
  simp only [Option.bind_some]
  have e : mx (up (C * M * 1048576) (u * K)) T = max (leastP C M K u) T := by unfold mx leastP; split <;> omega
  have hx := h.2.2.2.1
  rw [e]
  by_cases c : leastP C M K u ≤ X
  · rw [if_pos c, if_neg (by omega), at_ok h (by omega) (by omega)]
    simp only [Option.bind_some]
    have := (at_le h (q := max (leastP C M K u) T) (by omega) (by omega) hu).2 (by omega)
    rw [if_neg (by omega)]
  · rw [if_neg c, if_pos (by omega)]
/-! ## Spring -/
abbrev Spr := S53
theorem rd_spr {l : List Spr} {i : Nat} (h : i < l.length) : rd_T53 l (i : Int) = l[i] := by
  unfold rd_T53
  simp [List.getD_eq_getElem?_getD, List.getElem?_eq_getElem h]
/-- A spring that may be. -/
def okP (s : Spr) : Prop := 1 ≤ s.f1 ∧ s.f1 ≤ s.f0 ∧ s.f0 ≤ 1048576 ∧ 0 ≤ s.f2 ∧ s.f2 ≤ 8
instance (s : Spr) : Decidable (okP s) := by unfold okP; infer_instance
/-- Its least. -/
def lst (s : Spr) : Int := if s.f2 = 0 then s.f0 else s.f1
theorem lst_bound {s : Spr} (h : okP s) : 1 ≤ lst s ∧ lst s ≤ s.f0 ∧ s.f1 ≤ lst s := by
  obtain ⟨a, b, c, d, e⟩ := h
  unfold lst
  split <;> omega
theorem least_eq (s : Spr) : spring_least.f s.f0 s.f1 s.f2 = some (lst s) := by
  unfold spring_least.f lst
  split <;> rfl
theorem spr_may (s : Spr) : spring_may.f s.f0 s.f1 s.f2 = some (decide (okP s)) := by
  unfold spring_may.f
  by_cases o : okP s
  · rw [decide_eq_true o, if_pos o.1, if_pos o.2.1, if_pos o.2.2.1, if_pos o.2.2.2.1, decide_eq_true o.2.2.2.2]
  · rw [decide_eq_false o]
    by_cases c1 : s.f1 ≥ 1
    · rw [if_pos c1]
      by_cases c2 : s.f1 ≤ s.f0
      · rw [if_pos c2]
        by_cases c3 : s.f0 ≤ 1048576
        · rw [if_pos c3]
          by_cases c4 : s.f2 ≥ 0
          · rw [if_pos c4, decide_eq_false (fun q => o ⟨c1, c2, c3, c4, q⟩)]
          · rw [if_neg c4]
        · rw [if_neg c3]
      · rw [if_neg c2]
    · rw [if_neg c1]
def mayP (l : List Spr) : Prop := (∀ s ∈ l, okP s) ∧ l.length ≤ 4
instance (l : List Spr) : Decidable (mayP l) := by unfold mayP; infer_instance
theorem mayP_eq (l : List Spr) {k : Nat} (hk : l.length < k) : spring_May.f k l = some (decide (mayP l)) := by
  unfold spring_May.f
  by_cases c : (l.length : Int) ≤ 4
  · rw [if_pos c]
    unfold api_Spr_77.f api_Spr_91.f
    have loop : ∀ (d i k : Nat), i + d = l.length → d < k → (∀ s ∈ l.take i, okP s) → ∃ r, api_Spr_91.l0 k l (l.length : Int) (i : Int) = some r ∧ (0 ≤ r ↔ ¬ ∀ s ∈ l, okP s) := by
      intro d
      induction d with
      | zero =>
        intro i k hi hk hall
        obtain ⟨k, rfl⟩ : ∃ x, k = x + 1 := ⟨k - 1, by omega⟩
        rw [List.take_of_length_le (by omega)] at hall
        exact ⟨-1, by rw [api_Spr_91.l0, if_neg (by omega)], ⟨fun h => by omega, fun h => absurd hall h⟩⟩
      | succ d ih =>
        intro i k hi hk hall
        obtain ⟨k, rfl⟩ : ∃ x, k = x + 1 := ⟨k - 1, by omega⟩
        have hlt : i < l.length := by omega
        rw [api_Spr_91.l0, if_pos (by omega), if_pos (by omega), if_pos (by omega), rd_spr hlt]
        unfold spring_May_1.f
        rw [spr_may, Option.bind_some, Option.bind_some]
        by_cases o : okP l[i]
        · rw [decide_eq_true o, if_neg (by decide), w64 (by omega) (by omega), show ((i : Int) + 1) = ((i + 1 : Nat) : Int) by omega]
          refine ih (i + 1) k (by omega) (by omega) fun s hs => ?_
          rw [List.take_succ_eq_append_getElem hlt] at hs
          rcases List.mem_append.1 hs with h | h
          · exact hall s h
          · rw [List.mem_singleton.1 h]; exact o
        · rw [decide_eq_false o, if_pos (by decide)]
          exact ⟨(i : Int), rfl, ⟨fun _ h => o (h _ (List.getElem_mem hlt)), fun _ => by omega⟩⟩
    obtain ⟨r, hr, hi⟩ := loop l.length 0 k (by omega) hk (by simp)
    rw [show ((0 : Nat) : Int) = 0 from rfl] at hr
    rw [hr, Option.bind_some, Option.bind_some]
    congr 1
    by_cases h : ∀ s ∈ l, okP s
    · rw [decide_eq_true (show mayP l from ⟨h, by omega⟩), decide_eq_false (fun q => hi.1 q h)]; rfl
    · rw [decide_eq_false (fun q : mayP l => h q.1), decide_eq_true (hi.2 h)]; rfl
  · rw [if_neg c, decide_eq_false (fun q => c (by have := q.2; omega))]
def sumL (l : List Spr) : Int := (l.map lst).sum
def sumU (l : List Spr) : Int := (l.map (·.f0)).sum
theorem sumL_cons (s : Spr) (l : List Spr) : sumL (s :: l) = lst s + sumL l := by unfold sumL; rw [List.map_cons, List.sum_cons]
theorem sumU_cons (s : Spr) (l : List Spr) : sumU (s :: l) = s.f0 + sumU l := by unfold sumU; rw [List.map_cons, List.sum_cons]
theorem sumL_bound : ∀ {l : List Spr}, (∀ s ∈ l, okP s) → 0 ≤ sumL l ∧ sumL l ≤ sumU l ∧ sumU l ≤ l.length * 1048576
  | [], _ => by simp [sumL, sumU]
  | s :: t, h => by
    have o := h s (List.mem_cons_self ..)
    have b := lst_bound o
    have r := sumL_bound (l := t) (fun y hy => h y (List.mem_cons_of_mem _ hy))
    have u := o.2.2.1
    rw [sumL_cons, sumU_cons, List.length_cons]
    omega
theorem each_eq (l : List Spr) (hl : l.length ≤ 1000) {k : Nat} (hk : l.length < k) : spring_each.f k l = some (l.map lst) := by
  unfold spring_each.f
  have loop : ∀ (d i k : Nat), i + d = l.length → d < k → spring_each.l0 k ((l.take i).map lst) l (l.length : Int) (i : Int) = some (l.map lst) := by
    intro d
    induction d with
    | zero =>
      intro i k hi hk
      obtain ⟨k, rfl⟩ : ∃ x, k = x + 1 := ⟨k - 1, by omega⟩
      rw [spring_each.l0, if_neg (by omega), List.take_of_length_le (by omega)]
    | succ d ih =>
      intro i k hi hk
      obtain ⟨k, rfl⟩ : ∃ x, k = x + 1 := ⟨k - 1, by omega⟩
      have hlt : i < l.length := by omega
      rw [spring_each.l0, if_pos (by omega), if_pos (by omega), if_pos (by omega), rd_spr hlt, least_eq, Option.bind_some, if_pos (by simp; omega), w64 (by omega) (by omega), show ((i : Int) + 1) = ((i + 1 : Nat) : Int) by omega]
      have e : (l.take i).map lst ++ [lst l[i]] = (l.take (i + 1)).map lst := by rw [List.take_succ_eq_append_getElem hlt, List.map_append]; rfl
      rw [e]
      exact ih (i + 1) k (by omega) (by omega)
  exact loop l.length 0 k (by omega) hk
def roomP (l : List Spr) (load : Int) : Prop := mayP l ∧ 0 ≤ load ∧ load ≤ 1099511627776 ∧ sumL l ≤ load
instance (l : List Spr) (load : Int) : Decidable (roomP l load) := by unfold roomP; infer_instance
theorem roomP_eq (l : List Spr) (load : Int) {k : Nat} (hk : l.length + 2 ≤ k) : spring_Room.f k l load = some (decide (roomP l load)) := by
  unfold spring_Room.f
  obtain ⟨k, rfl⟩ : ∃ x, k = x + 1 := ⟨k - 1, by omega⟩
  rw [mayP_eq l (by omega), Option.bind_some]
  by_cases h : mayP l
  · rw [decide_eq_true h, if_pos rfl]
    by_cases c1 : load < 0
    · rw [if_pos c1, spring_Room.j0, if_pos rfl, decide_eq_false (fun q => by have := q.2.1; omega)]
    · rw [if_neg c1]
      by_cases c2 : load > 1099511627776
      · rw [decide_eq_true c2, spring_Room.j0, if_pos rfl, decide_eq_false (fun q => by have := q.2.2.1; omega)]
      · have h4 := h.2
        rw [decide_eq_false c2, spring_Room.j0, if_neg (by decide), each_eq l (by omega) (by omega), Option.bind_some, sum_ok ⟨by rw [List.length_map]; omega, ?_⟩, Option.bind_some, if_pos rfl]
        · congr 1
          rw [decide_eq_decide]
          exact ⟨fun q => ⟨h, by omega, by omega, q⟩, fun q => q.2.2.2⟩
        · rw [List.any_eq_false]
          intro u hu
          obtain ⟨x, hx, rfl⟩ := List.mem_map.1 hu
          have o := h.1 x hx
          have b := lst_bound o
          have u := o.2.2.1
          rw [(bad_iff _).2 (by omega)]
          decide
  · rw [decide_eq_false h, if_neg (by decide), spring_Room.j0, if_pos rfl, decide_eq_false (fun q => h q.1)]
/-- The greatest number that divides two: as many rounds as the second one, and one. -/
theorem common_eq : ∀ (b a k : Nat), b < k → spring_common.f k (a : Int) (b : Int) = some ((Nat.gcd a b : Nat) : Int) := by
  intro b
  induction b using Nat.strongRecOn with
  | ind b ih =>
    intro a k hk
    obtain ⟨k, rfl⟩ : ∃ x, k = x + 1 := ⟨k - 1, by omega⟩
    unfold spring_common.f
    rw [spring_common.l0]
    by_cases c : b = 0
    · subst c
      rw [if_neg (by omega), Nat.gcd_zero_right]
    · rw [if_pos (by omega), if_neg (by omega)]
      have e : Int.tmod (a : Int) (b : Int) = ((a % b : Nat) : Int) := by rw [Int.tmod_eq_emod_of_nonneg (by omega)]; rfl
      have hlt := Nat.mod_lt a (show 0 < b by omega)
      have := ih (a % b) hlt b k (by omega)
      unfold spring_common.f at this
      rw [e, this, Nat.gcd_comm a b, Nat.gcd_rec b a, Nat.gcd_comm]
/-! ## SpringForce -/
/-- What those that are left have, and the others at their least. -/
def ovr : List Spr → List Bool → Int
  | s :: l, b :: L => (if b = true then s.f0 else lst s) + ovr l L
  | _, _ => 0
/-- How elastic those that are left are. -/
def els : List Spr → List Bool → Int
  | s :: l, b :: L => (if b = true then s.f2 else 0) + els l L
  | _, _ => 0
theorem ovr_bound : ∀ {l : List Spr} (L : List Bool), (∀ s ∈ l, okP s) → 0 ≤ ovr l L ∧ ovr l L ≤ l.length * 1048576 ∧ 0 ≤ els l L ∧ els l L ≤ l.length * 8
  | [], L, _ => by cases L <;> simp [ovr, els]
  | s :: t, [], _ => by simp [ovr, els]; omega
  | s :: t, b :: L, h => by
    have o := h s (List.mem_cons_self ..)
    have bb := lst_bound o
    have r := ovr_bound (l := t) L (fun y hy => h y (List.mem_cons_of_mem _ hy))
    obtain ⟨o1, o2, o3, o4, o5⟩ := o
    unfold ovr els
    rw [List.length_cons]
    cases b <;> simp <;> omega
/-- The force of those that are left. -/
def forceOf (ov e : Int) : Int × Int := if ov ≤ 0 then (0, 1) else if e = 0 then (0, 1) else (ov / ((Nat.gcd ov.toNat e.toNat : Nat) : Int), e / ((Nat.gcd ov.toNat e.toNat : Nat) : Int))
theorem of_end {k : Nat} {L : List Bool} {l : List Spr} {ov e i : Int} (hi : ¬ i < (l.length : Int)) (hv : ov ≤ 1099511627776) (he : 0 ≤ e) (he2 : e ≤ 1000) (hk : e.toNat + 1 ≤ k) : spring_of.l0 (k + 1) L l ov e i = some (forceOf ov e) := by
  unfold forceOf
  rw [spring_of.l0, if_neg hi]
  by_cases c1 : ov ≤ 0
  · rw [if_pos c1, if_pos c1]
  · rw [if_neg c1, if_neg c1]
    by_cases c2 : e = 0
    · rw [if_pos c2, if_pos c2]
    · have hc := common_eq e.toNat ov.toNat k (by omega)
      rw [Int.toNat_of_nonneg (by omega), Int.toNat_of_nonneg (by omega)] at hc
      have g0 : 0 < Nat.gcd ov.toNat e.toNat := Nat.gcd_pos_of_pos_right _ (by omega)
      generalize Nat.gcd ov.toNat e.toNat = c at *
      have d1 : ov / (c : Int) ≤ ov := Int.ediv_le_self _ (by omega)
      have d2 : e / (c : Int) ≤ e := Int.ediv_le_self _ (by omega)
      have d3 : 0 ≤ ov / (c : Int) := Int.ediv_nonneg (by omega) (by omega)
      have d4 : 0 ≤ e / (c : Int) := Int.ediv_nonneg (by omega) (by omega)
      rw [if_neg c2, if_neg c2, hc, Option.bind_some, if_neg (by omega), Int.tdiv_eq_ediv_of_nonneg (by omega), Int.tdiv_eq_ediv_of_nonneg he, w64 (by omega) (by omega), w64 (by omega) (by omega)]
theorem of_eq' {l : List Spr} {L : List Bool} (h : ∀ s ∈ l, okP s) (hL : L.length = l.length) (h4 : l.length ≤ 4) {load : Int} (h0 : 0 ≤ load) (h1 : load ≤ 1099511627776) {k : Nat} (hk : l.length + 40 ≤ k) :
    spring_of.f k L l load = some (forceOf (ovr l L - load) (els l L)) := by
  unfold spring_of.f
  rw [w64 (x := -load) (by omega) (by omega)]
  have loop : ∀ (d i k : Nat) (ov e : Int), i + d = l.length → d + 36 ≤ k → -1099511627776 ≤ ov → ov ≤ i * 1048576 → 0 ≤ e → e ≤ i * 8 → spring_of.l0 k L l ov e (i : Int) = some (forceOf (ov + ovr (l.drop i) (L.drop i)) (e + els (l.drop i) (L.drop i))) := by
    intro d
    induction d with
    | zero =>
      intro i k ov e hi hk v0 v1 e0 e1
      obtain ⟨k, rfl⟩ : ∃ x, k = x + 1 := ⟨k - 1, by omega⟩
      rw [List.drop_of_length_le (show l.length ≤ i by omega), of_end (by omega) (by omega) e0 (by omega) (by omega)]
      simp [ovr, els]
    | succ d ih =>
      intro i k ov e hi hk v0 v1 e0 e1
      obtain ⟨k, rfl⟩ : ∃ x, k = x + 1 := ⟨k - 1, by omega⟩
      have hlt : i < l.length := by omega
      have hlt2 : i < L.length := by omega
      have o := h _ (List.getElem_mem hlt)
      have bb := lst_bound o
      obtain ⟨o1, o2, o3, o4, o5⟩ := o
      have hg : L.getD i false = L[i] := by simp [List.getD_eq_getElem?_getD, List.getElem?_eq_getElem hlt2]
      rw [List.drop_eq_getElem_cons hlt, List.drop_eq_getElem_cons hlt2, spring_of.l0, if_pos (by omega), if_pos (by omega), Int.toNat_natCast, hg, rd_spr hlt, w64 (x := (i : Int) + 1) (by omega) (by omega), show ((i : Int) + 1) = ((i + 1 : Nat) : Int) by omega]
      unfold ovr els
      cases hb : L[i] with
      | true =>
        rw [if_pos rfl, if_pos rfl, if_pos rfl, w64 (by omega) (by omega), w64 (by omega) (by omega), ih (i + 1) k _ _ (by omega) (by omega) (by omega) (by omega) (by omega) (by omega), Int.add_assoc, Int.add_assoc]
      | false =>
        rw [if_neg (by decide), if_neg (by decide), if_neg (by decide), least_eq, Option.bind_some, w64 (by omega) (by omega), ih (i + 1) k _ _ (by omega) (by omega) (by omega) (by omega) (by omega) (by omega), Int.add_assoc, Int.zero_add]
  have := loop l.length 0 k (-load) 0 (by omega) (by omega) (by omega) (by omega) (by omega) (by omega)
  rw [List.drop_zero, List.drop_zero, Int.zero_add, show -load + ovr l L = ovr l L - load by omega] at this
  exact this
/-- Has a spring less than its least by a force? -/
def blw (a b : Int) (s : Spr) : Bool := decide ((s.f0 - s.f1) * b < a * s.f2)
theorem blw_eq {a b : Int} {s : Spr} (o : okP s) (a0 : 0 ≤ a) (a1 : a ≤ 1099511627776) (b0 : 1 ≤ b) (b1 : b ≤ 32) : spring_force_below.f a b s.f0 s.f1 s.f2 = some (blw a b s) := by
  obtain ⟨o1, o2, o3, o4, o5⟩ := o
  have m := mulb (a := a) (b := s.f2) (A := 1099511627776) (B := 8) a0 a1 o4 o5
  unfold spring_force_below.f frac_Cmp.f blw
  rw [w64 (x := a * s.f2) (by omega) (by omega), w64 (x := s.f0 - s.f1) (by omega) (by omega), if_pos ⟨⟨by omega, by omega, by omega, by omega⟩, by omega, by omega, by omega, by omega⟩, Option.bind_some, Int.mul_one]
  congr 1
  by_cases c : (s.f0 - s.f1) * b < a * s.f2
  · rw [if_neg (by omega), if_pos c, decide_eq_true c]; rfl
  · rw [decide_eq_false c]
    by_cases c2 : a * s.f2 < (s.f0 - s.f1) * b
    · rw [if_pos c2]; rfl
    · rw [if_neg c2, if_neg c]; rfl
/-- Those that are left when they are gone that have less than their least. -/
def remL (a b : Int) : List Spr → List Bool → List Bool
  | s :: l, t :: L => (t && !blw a b s) :: remL a b l L
  | _, _ => []
theorem remL_length (a b : Int) : ∀ (l : List Spr) (L : List Bool), L.length = l.length → (remL a b l L).length = l.length
  | [], L, h => by cases L <;> simp [remL]
  | s :: l, [], h => by simp at h
  | s :: l, t :: L, h => by simp only [remL, List.length_cons] at h ⊢; rw [remL_length a b l L (by omega)]
theorem remL_get (a b : Int) : ∀ (l : List Spr) (L : List Bool) (i : Nat) (h1 : i < l.length) (h2 : i < L.length) (h3 : i < (remL a b l L).length), (remL a b l L)[i] = (L[i] && !blw a b l[i])
  | [], L, i, h1, h2, h3 => by simp at h1
  | s :: l, [], i, h1, h2, h3 => by simp at h2
  | s :: l, t :: L, 0, h1, h2, h3 => by simp [remL]
  | s :: l, t :: L, i + 1, h1, h2, h3 => by
    simp only [remL, List.getElem_cons_succ]
    exact remL_get a b l L i _ _ _
theorem rem_eq {l : List Spr} {L : List Bool} (h : ∀ s ∈ l, okP s) (hL : L.length = l.length) (h4 : l.length ≤ 4) {a b : Int} (a0 : 0 ≤ a) (a1 : a ≤ 1099511627776) (b0 : 1 ≤ b) (b1 : b ≤ 32) {k : Nat} (hk : l.length + 1 ≤ k) :
    spring_find.rem k L l a b 0 = some (remL a b l L) := by
  have hr := remL_length a b l L hL
  have loop : ∀ (d i k : Nat), i + d = l.length → d + 1 ≤ k → spring_find.rem k ((remL a b l L).take i ++ L.drop i) l a b (i : Int) = some (remL a b l L) := by
    intro d
    induction d with
    | zero =>
      intro i k hi hk
      obtain ⟨k, rfl⟩ : ∃ x, k = x + 1 := ⟨k - 1, by omega⟩
      rw [List.take_of_length_le (by omega), List.drop_of_length_le (by omega), List.append_nil, spring_find.rem, if_neg (by omega)]
    | succ d ih =>
      intro i k hi hk
      obtain ⟨k, rfl⟩ : ∃ x, k = x + 1 := ⟨k - 1, by omega⟩
      have hlt : i < l.length := by omega
      have hlt2 : i < L.length := by omega
      have hlt3 : i < (remL a b l L).length := by omega
      have o := h _ (List.getElem_mem hlt)
      have hlen : ((remL a b l L).take i).length = i := by rw [List.length_take]; omega
      have hg : ((remL a b l L).take i ++ L.drop i).getD i false = L[i] := by
        rw [List.getD_eq_getElem?_getD, List.getElem?_append_right (by omega), hlen, Nat.sub_self, List.getElem?_drop, Nat.add_zero, List.getElem?_eq_getElem hlt2]
        rfl
      have hset : ∀ v, v = (remL a b l L)[i] → ((remL a b l L).take i ++ L.drop i).set i v = (remL a b l L).take (i + 1) ++ L.drop (i + 1) := by
        intro v hv
        rw [List.set_append_right _ _ (by omega), hlen, Nat.sub_self, List.drop_eq_getElem_cons hlt2, List.set_cons_zero, List.take_succ_eq_append_getElem hlt3, List.append_assoc, hv]
        rfl
      have hkeep : L[i] = (remL a b l L)[i] → (remL a b l L).take i ++ L.drop i = (remL a b l L).take (i + 1) ++ L.drop (i + 1) := by
        intro hv
        rw [List.drop_eq_getElem_cons hlt2, List.take_succ_eq_append_getElem hlt3, List.append_assoc, hv]
        rfl
      have hget := remL_get a b l L i hlt hlt2 hlt3
      rw [spring_find.rem, if_pos (by omega), if_pos (by omega), Int.toNat_natCast, hg, rd_spr hlt, w64 (x := (i : Int) + 1) (by omega) (by omega), show ((i : Int) + 1) = ((i + 1 : Nat) : Int) by omega]
      cases hb : L[i] with
      | true =>
        rw [if_pos rfl, blw_eq o a0 a1 b0 b1, Option.bind_some]
        cases hw : blw a b l[i] with
        | true => rw [if_pos rfl, hset false (by rw [hget, hb, hw]; rfl)]; exact ih (i + 1) k (by omega) (by omega)
        | false => rw [if_neg (by decide), hkeep (by rw [hget, hb, hw]; rfl)]; exact ih (i + 1) k (by omega) (by omega)
      | false => rw [if_neg (by decide), hkeep (by rw [hget, hb]; rfl)]; exact ih (i + 1) k (by omega) (by omega)
  have := loop l.length 0 k (by omega) (by omega)
  simpa using this
/-- How many units, times b, a spring has by a force of a through b. -/
def xOf (a b : Int) (s : Spr) : Int := max (b * s.f0 - a * s.f2) (b * lst s)
def gOf (a b : Int) (l : List Spr) : Int := (l.map (xOf a b)).sum
theorem gOf_cons (a b : Int) (s : Spr) (l : List Spr) : gOf a b (s :: l) = xOf a b s + gOf a b l := by unfold gOf; rw [List.map_cons, List.sum_cons]
/-- a through b is the force by which springs have just the load, in lowest terms. -/
def isForce (l : List Spr) (load a b : Int) : Prop :=
  0 ≤ a ∧ a ≤ 4194304 ∧ 1 ≤ b ∧ b ≤ 32 ∧ Nat.gcd a.toNat b.toNat = 1 ∧
  ((a = 0 ∧ sumU l ≤ load) ∨ (0 < a ∧ gOf a b l = b * load ∧ ∃ s ∈ l, 0 < s.f2 ∧ a * s.f2 ≤ b * (s.f0 - s.f1)))
/-- What holds of those that are left, and of the others, behind a force of p through q. -/
def left (p q : Int) : List Spr → List Bool → Prop
  | s :: l, t :: L => ((t = true → 0 < s.f2) ∧ (t = false → 0 < s.f2 → (s.f0 - s.f1) * q < p * s.f2)) ∧ left p q l L
  | [], [] => True
  | _, _ => False
theorem left_len {p q : Int} : ∀ {l : List Spr} {L : List Bool}, left p q l L → L.length = l.length
  | [], [], _ => rfl
  | [], _ :: _, h => h.elim
  | _ :: _, [], h => h.elim
  | s :: l, t :: L, h => by rw [List.length_cons, List.length_cons, left_len h.2]
theorem left_start : ∀ (l : List Spr), (∀ s ∈ l, okP s) → left 0 1 l (l.map spring_find.pos)
  | [], _ => trivial
  | s :: l, h => by
    refine ⟨⟨fun e => of_decide_eq_true e, fun e e2 => absurd e2 (of_decide_eq_false e)⟩, left_start l (fun y hy => h y (List.mem_cons_of_mem _ hy))⟩
theorem left_next {p q a b : Int} (hq : 1 ≤ q) (hb : 1 ≤ b) (hpq : p * b ≤ a * q) : ∀ {l : List Spr} {L : List Bool}, (∀ s ∈ l, okP s) → left p q l L → left a b l (remL a b l L)
  | [], [], _, _ => trivial
  | [], _ :: _, _, h => h.elim
  | _ :: _, [], _, h => h.elim
  | s :: l, t :: L, ho, h => by
    refine ⟨⟨fun e => ?_, fun e e2 => ?_⟩, left_next hq hb hpq (fun y hy => ho y (List.mem_cons_of_mem _ hy)) h.2⟩
    · rw [Bool.and_eq_true] at e
      exact h.1.1 e.1
    · have o := ho s (List.mem_cons_self ..)
      cases t with
      | true =>
        rw [Bool.true_and, Bool.not_eq_false'] at e
        exact of_decide_eq_true e
      | false =>
        have h1 := h.1.2 rfl e2
        -- (U - M) q < p E, p b ≤ a q
        have m1 : (s.f0 - s.f1) * q * b < p * s.f2 * b := Int.mul_lt_mul_of_pos_right h1 (by omega)
        have m2 : p * b * s.f2 ≤ a * q * s.f2 := Int.mul_le_mul_of_nonneg_right hpq (by omega)
        have e1 : p * s.f2 * b = p * b * s.f2 := by ac_rfl
        have e3 : (s.f0 - s.f1) * q * b = (s.f0 - s.f1) * b * q := by ac_rfl
        have e4 : a * q * s.f2 = a * s.f2 * q := by ac_rfl
        have m3 : (s.f0 - s.f1) * b * q < a * s.f2 * q := by rw [← e3, ← e4]; omega
        exact Int.lt_of_mul_lt_mul_right m3 (by omega)
theorem count_cons' (t : Bool) (L : List Bool) : (t :: L).count true = L.count true + (if t = true then 1 else 0) := by
  cases t <;> simp
/-- Each one that goes leaves more over. -/
theorem rem_gain {a b : Int} (hb : 1 ≤ b) {p q : Int} : ∀ {l : List Spr} {L : List Bool}, (∀ s ∈ l, okP s) → left p q l L →
    (remL a b l L).count true ≤ L.count true ∧ ((L.count true : Nat) : Int) - (((remL a b l L).count true : Nat) : Int) ≤ (b * ovr l (remL a b l L) - a * els l (remL a b l L)) - (b * ovr l L - a * els l L)
  | [], [], _, _ => by simp [remL, ovr, els]
  | [], _ :: _, _, h => h.elim
  | _ :: _, [], _, h => h.elim
  | s :: l, t :: L, ho, h => by
    have r := rem_gain (a := a) hb (fun y hy => ho y (List.mem_cons_of_mem _ hy)) h.2
    have o := ho s (List.mem_cons_self ..)
    simp only [remL, ovr, els]
    rw [count_cons', count_cons']
    cases t with
    | false =>
      simp only [Bool.false_and, Bool.false_eq_true, if_false, Int.mul_add, Int.mul_zero]
      omega
    | true =>
      have he := h.1.1 rfl
      have hl : lst s = s.f1 := by unfold lst; rw [if_neg (by omega)]
      cases hw : blw a b s with
      | false =>
        simp only [Bool.true_and, Bool.not_false, if_true, Int.mul_add]
        omega
      | true =>
        have hw' : (s.f0 - s.f1) * b < a * s.f2 := of_decide_eq_true hw
        have e1 : (s.f0 - s.f1) * b = b * s.f0 - b * s.f1 := by rw [Int.mul_comm, Int.mul_sub]
        simp only [Bool.true_and, Bool.not_true, Bool.false_eq_true, if_false, if_true, Int.mul_add, Int.mul_zero, hl]
        omega
/-- Where none goes, each has what it has. -/
theorem stay_sum {a b : Int} (hb : 1 ≤ b) {p q : Int} (hq : 1 ≤ q) (hpq : p * b ≤ a * q) : ∀ {l : List Spr} {L : List Bool}, (∀ s ∈ l, okP s) → left p q l L → (remL a b l L).count true = L.count true → gOf a b l = b * ovr l L - a * els l L ∧ (0 < els l L → ∃ s ∈ l, 0 < s.f2 ∧ a * s.f2 ≤ b * (s.f0 - s.f1))
  | [], [], _, _, _ => by simp [gOf, ovr, els]
  | [], _ :: _, _, h, _ => h.elim
  | _ :: _, [], _, h, _ => h.elim
  | s :: l, t :: L, ho, h, hc => by
    have hol := fun y hy => ho y (List.mem_cons_of_mem s hy)
    have o := ho s (List.mem_cons_self ..)
    have g := rem_gain (a := a) hb hol h.2
    have bb := lst_bound o
    simp only [remL] at hc
    rw [count_cons', count_cons'] at hc
    have hc2 : (remL a b l L).count true = L.count true := by
      cases t <;> cases hw : blw a b s <;> simp [hw] at hc <;> omega
    have r := stay_sum hb hq hpq hol h.2 hc2
    simp only [ovr, els]
    rw [gOf_cons]
    cases t with
    | true =>
      have he := h.1.1 rfl
      have hl : lst s = s.f1 := by unfold lst; rw [if_neg (by omega)]
      have hw : blw a b s = false := by cases hw : blw a b s with | false => rfl | true => simp [hw, hc2] at hc
      have hw' : ¬ (s.f0 - s.f1) * b < a * s.f2 := of_decide_eq_false hw
      have e1 : (s.f0 - s.f1) * b = b * (s.f0 - s.f1) := Int.mul_comm _ _
      have e2 : b * (s.f0 - s.f1) = b * s.f0 - b * s.f1 := Int.mul_sub ..
      refine ⟨?_, fun _ => ⟨s, List.mem_cons_self .., he, by omega⟩⟩
      unfold xOf
      rw [hl, if_pos rfl, if_pos rfl, Int.mul_add, Int.mul_add]
      omega
    | false =>
      refine ⟨?_, fun q => ?_⟩
      · unfold xOf
        rw [if_neg (by decide), if_neg (by decide), Int.mul_add, Int.mul_add, Int.mul_zero]
        by_cases c : s.f2 = 0
        · have hl : lst s = s.f0 := by unfold lst; rw [if_pos c]
          rw [hl, c, Int.mul_zero]
          omega
        · obtain ⟨o1, o2, o3, o4, o5⟩ := o
          have hl : lst s = s.f1 := by unfold lst; rw [if_neg c]
          have h1 := h.1.2 rfl (by omega)
          have m1 : (s.f0 - s.f1) * q * b < p * s.f2 * b := Int.mul_lt_mul_of_pos_right h1 (by omega)
          have m2 : p * b * s.f2 ≤ a * q * s.f2 := Int.mul_le_mul_of_nonneg_right hpq (by omega)
          have e1 : p * s.f2 * b = p * b * s.f2 := by ac_rfl
          have e3 : (s.f0 - s.f1) * q * b = (s.f0 - s.f1) * b * q := by ac_rfl
          have e4 : a * q * s.f2 = a * s.f2 * q := by ac_rfl
          have m3 : (s.f0 - s.f1) * b * q < a * s.f2 * q := by rw [← e3, ← e4]; omega
          have m4 : (s.f0 - s.f1) * b < a * s.f2 := Int.lt_of_mul_lt_mul_right m3 (by omega)
          have e5 : (s.f0 - s.f1) * b = b * s.f0 - b * s.f1 := by rw [Int.mul_comm, Int.mul_sub]
          rw [hl]
          omega
      · rw [if_neg (by decide), Int.zero_add] at q
        obtain ⟨y, hy, r2⟩ := r.2 q
        exact ⟨y, List.mem_cons_of_mem _ hy, r2⟩
/-! ## SpringOne -/
/-- With a greater force a spring has no more. -/
theorem xOf_anti {a b a' b' : Int} (hb : 1 ≤ b) (hb' : 1 ≤ b') (h : a * b' ≤ a' * b) {s : Spr} (o : okP s) : b * xOf a' b' s ≤ b' * xOf a b s := by
  obtain ⟨o1, o2, o3, o4, o5⟩ := o
  have m : a * b' * s.f2 ≤ a' * b * s.f2 := Int.mul_le_mul_of_nonneg_right h o4
  have e1 : b * (b' * s.f0 - a' * s.f2) = b * b' * s.f0 - a' * b * s.f2 := by rw [Int.mul_sub]; congr 1 <;> ac_rfl
  have e2 : b' * (b * s.f0 - a * s.f2) = b * b' * s.f0 - a * b' * s.f2 := by rw [Int.mul_sub]; congr 1 <;> ac_rfl
  have e3 : b' * (b * lst s) = b * (b' * lst s) := by ac_rfl
  have q1 : b' * (b * s.f0 - a * s.f2) ≤ b' * xOf a b s := Int.mul_le_mul_of_nonneg_left (Int.le_max_left ..) (by omega)
  have q2 : b' * (b * lst s) ≤ b' * xOf a b s := Int.mul_le_mul_of_nonneg_left (Int.le_max_right ..) (by omega)
  unfold xOf at *
  rcases Int.le_total (b' * s.f0 - a' * s.f2) (b' * lst s) with c | c
  · rw [Int.max_eq_right c]; omega
  · rw [Int.max_eq_left c]; omega
theorem gOf_anti {a b a' b' : Int} (hb : 1 ≤ b) (hb' : 1 ≤ b') (h : a * b' ≤ a' * b) : ∀ {l : List Spr}, (∀ s ∈ l, okP s) → b * gOf a' b' l ≤ b' * gOf a b l
  | [], _ => by simp [gOf]
  | s :: t, ho => by
    have r := gOf_anti hb hb' h (l := t) (fun y hy => ho y (List.mem_cons_of_mem _ hy))
    have x := xOf_anti hb hb' h (ho s (List.mem_cons_self ..))
    rw [gOf_cons, gOf_cons, Int.mul_add, Int.mul_add]
    omega
/-- .. and less, where one was above its least. -/
theorem gOf_less {a b a' b' : Int} (hb : 1 ≤ b) (hb' : 1 ≤ b') (h : a * b' < a' * b) : ∀ {l : List Spr}, (∀ s ∈ l, okP s) → (∃ s ∈ l, 0 < s.f2 ∧ a' * s.f2 ≤ b' * (s.f0 - s.f1)) → b * gOf a' b' l < b' * gOf a b l
  | [], _, hs => by obtain ⟨s, h, _⟩ := hs; simp at h
  | s :: t, ho, hs => by
    have hot := fun y hy => ho y (List.mem_cons_of_mem s hy)
    have o := ho s (List.mem_cons_self ..)
    have x := xOf_anti hb hb' (Int.le_of_lt h) o
    have g := gOf_anti hb hb' (Int.le_of_lt h) hot
    rw [gOf_cons, gOf_cons, Int.mul_add, Int.mul_add]
    obtain ⟨y, hy, y1, y2⟩ := hs
    rcases List.mem_cons.1 hy with rfl | hy
    · obtain ⟨o1, o2, o3, o4, o5⟩ := o
      have hl : lst y = y.f1 := by unfold lst; rw [if_neg (by omega)]
      have m : a * b' * y.f2 < a' * b * y.f2 := Int.mul_lt_mul_of_pos_right h y1
      have e1 : b * (b' * y.f0 - a' * y.f2) = b * b' * y.f0 - a' * b * y.f2 := by rw [Int.mul_sub]; congr 1 <;> ac_rfl
      have e2 : b' * (b * y.f0 - a * y.f2) = b * b' * y.f0 - a * b' * y.f2 := by rw [Int.mul_sub]; congr 1 <;> ac_rfl
      have e3 : b' * (y.f0 - y.f1) = b' * y.f0 - b' * y.f1 := Int.mul_sub ..
      have q1 : b' * (b * y.f0 - a * y.f2) ≤ b' * xOf a b y := Int.mul_le_mul_of_nonneg_left (Int.le_max_left ..) (by omega)
      have e4 : xOf a' b' y = b' * y.f0 - a' * y.f2 := by unfold xOf; rw [hl]; exact Int.max_eq_left (by omega)
      rw [e4]
      omega
    · have := gOf_less hb hb' h hot ⟨y, hy, y1, y2⟩
      omega
theorem gOf_zero : ∀ {l : List Spr}, (∀ s ∈ l, okP s) → gOf 0 1 l = sumU l
  | [], _ => by simp [gOf, sumU]
  | s :: t, ho => by
    have b := lst_bound (ho s (List.mem_cons_self ..))
    rw [gOf_cons, sumU_cons, gOf_zero (fun y hy => ho y (List.mem_cons_of_mem _ hy))]
    unfold xOf
    rw [Int.one_mul, Int.zero_mul, Int.one_mul, Int.sub_zero, Int.max_eq_left (by omega)]
theorem isForce_le {l : List Spr} (ho : ∀ s ∈ l, okP s) {load a b : Int} (h : isForce l load a b) : gOf a b l ≤ b * load := by
  obtain ⟨h0, h1, h2, h3, h4, h5⟩ := h
  rcases h5 with ⟨rfl, hu⟩ | ⟨_, hg, _⟩
  · have e : b = 1 := by
      rw [show ((0 : Int).toNat) = 0 from rfl, Nat.gcd_zero_left] at h4
      omega
    subst e
    rw [gOf_zero ho]; omega
  · omega
theorem isForce_anti {l : List Spr} (ho : ∀ s ∈ l, okP s) {load more a b a' b' : Int} (hm : load ≤ more) (h : isForce l load a b) (h' : isForce l more a' b') : a' * b ≤ a * b' := by
  refine Int.not_lt.1 fun hlt => ?_
  have g := isForce_le ho h
  have ⟨p0, p1, p2, p3, p4, p5⟩ := h
  have ⟨q0, q1, q2, q3, q4, q5⟩ := h'
  rcases q5 with ⟨rfl, _⟩ | ⟨c0, c1, c2⟩
  · have := Int.mul_nonneg p0 (show 0 ≤ b' by omega)
    omega
  · have s := gOf_less p2 q2 hlt ho c2
    have m : b' * gOf a b l ≤ b' * (b * load) := Int.mul_le_mul_of_nonneg_left g (by omega)
    have e : b * gOf a' b' l = b * b' * more := by rw [c1]; ac_rfl
    have m2 : b * b' * load ≤ b * b' * more := Int.mul_le_mul_of_nonneg_left hm (Int.mul_nonneg (by omega) (by omega))
    have e2 : b' * (b * load) = b * b' * load := by ac_rfl
    omega
/-- Two quotients in lowest terms that are the same have the same numbers. -/
theorem lowest {a b a' b' : Int} (h0 : 0 ≤ a) (h0' : 0 ≤ a') (hb : 1 ≤ b) (hb' : 1 ≤ b') (g : Nat.gcd a.toNat b.toNat = 1) (g' : Nat.gcd a'.toNat b'.toNat = 1) (h : a * b' = a' * b) : a = a' ∧ b = b' := by
  obtain ⟨p, rfl⟩ : ∃ p : Nat, a = p := ⟨a.toNat, by omega⟩
  obtain ⟨q, rfl⟩ : ∃ p : Nat, b = p := ⟨b.toNat, by omega⟩
  obtain ⟨p', rfl⟩ : ∃ p : Nat, a' = p := ⟨a'.toNat, by omega⟩
  obtain ⟨q', rfl⟩ : ∃ p : Nat, b' = p := ⟨b'.toNat, by omega⟩
  rw [Int.toNat_natCast, Int.toNat_natCast] at g g'
  have e : p * q' = p' * q := by exact_mod_cast h
  have d1 : q ∣ q' := by
    have c : Nat.Coprime q p := by unfold Nat.Coprime; rw [Nat.gcd_comm]; exact g
    exact c.dvd_of_dvd_mul_left ⟨p', by rw [e, Nat.mul_comm]⟩
  have d2 : q' ∣ q := by
    have c : Nat.Coprime q' p' := by unfold Nat.Coprime; rw [Nat.gcd_comm]; exact g'
    exact c.dvd_of_dvd_mul_left ⟨p, by rw [← e, Nat.mul_comm]⟩
  have eq : q = q' := Nat.dvd_antisymm d1 d2
  subst eq
  have : p = p' := Nat.eq_of_mul_eq_mul_right (by omega) e
  subst this
  exact ⟨rfl, rfl⟩
theorem isForce_one {l : List Spr} (ho : ∀ s ∈ l, okP s) {load a b a' b' : Int} (h : isForce l load a b) (h' : isForce l load a' b') : a = a' ∧ b = b' := by
  have l1 := isForce_anti ho (Int.le_refl _) h h'
  have l2 := isForce_anti ho (Int.le_refl _) h' h
  obtain ⟨p0, p1, p2, p3, p4, p5⟩ := h
  obtain ⟨q0, q1, q2, q3, q4, q5⟩ := h'
  exact lowest p0 q0 p2 q2 p4 q4 (by omega)
theorem els_zero : ∀ {l : List Spr} {L : List Bool} {p q : Int}, (∀ s ∈ l, okP s) → left p q l L → els l L = 0 → L.count true = 0 ∧ ovr l L = sumL l
  | [], [], _, _, _, _, _ => by simp [ovr, sumL]
  | [], _ :: _, _, _, _, h, _ => h.elim
  | _ :: _, [], _, _, _, h, _ => h.elim
  | s :: l, t :: L, p, q, ho, h, he => by
    have hot := fun y hy => ho y (List.mem_cons_of_mem s hy)
    have b := ovr_bound L hot
    have o := (ho s (List.mem_cons_self ..)).2.2.2.1
    unfold els at he
    cases t with
    | true =>
      have := h.1.1 rfl
      rw [if_pos rfl] at he
      omega
    | false =>
      rw [if_neg (by decide), Int.zero_add] at he
      have r := els_zero hot h.2 he
      unfold ovr
      rw [if_neg (by decide), r.2, sumL_cons, count_cons', r.1]
      exact ⟨rfl, rfl⟩
theorem remL_none : ∀ (l : List Spr) (L : List Bool), (∀ s ∈ l, okP s) → L.length = l.length → remL 0 1 l L = L
  | [], [], _, _ => rfl
  | [], _ :: _, _, h => by simp at h
  | _ :: _, [], _, h => by simp at h
  | s :: l, t :: L, ho, h => by
    have o := ho s (List.mem_cons_self ..)
    have e : blw 0 1 s = false := decide_eq_false (by have := o.2.1; omega)
    simp only [remL, e, Bool.not_false, Bool.and_true]
    rw [remL_none l L (fun y hy => ho y (List.mem_cons_of_mem _ hy)) (by simpa using h)]
theorem force_pos {ov e : Int} (h1 : 0 < ov) (h2 : 0 < e) : ∃ a b c : Int, forceOf ov e = (a, b) ∧ 1 ≤ c ∧ ov = a * c ∧ e = b * c ∧ 1 ≤ a ∧ 1 ≤ b ∧ Nat.gcd a.toNat b.toNat = 1 := by
  obtain ⟨m, rfl⟩ : ∃ p : Nat, ov = p := ⟨ov.toNat, by omega⟩
  obtain ⟨n, rfl⟩ : ∃ p : Nat, e = p := ⟨e.toNat, by omega⟩
  unfold forceOf
  rw [if_neg (by omega), if_neg (by omega), Int.toNat_natCast, Int.toNat_natCast]
  have g0 : 0 < Nat.gcd m n := Nat.gcd_pos_of_pos_right _ (by omega)
  have d1 : m / Nat.gcd m n * Nat.gcd m n = m := Nat.div_mul_cancel (Nat.gcd_dvd_left m n)
  have d2 : n / Nat.gcd m n * Nat.gcd m n = n := Nat.div_mul_cancel (Nat.gcd_dvd_right m n)
  have cp := Nat.coprime_div_gcd_div_gcd g0
  have p1 : 0 < m / Nat.gcd m n := Nat.pos_of_ne_zero fun z => by rw [z, Nat.zero_mul] at d1; omega
  have p2 : 0 < n / Nat.gcd m n := Nat.pos_of_ne_zero fun z => by rw [z, Nat.zero_mul] at d2; omega
  refine ⟨((m / Nat.gcd m n : Nat) : Int), ((n / Nat.gcd m n : Nat) : Int), ((Nat.gcd m n : Nat) : Int), ?_, by omega, by exact_mod_cast d1.symm, by exact_mod_cast d2.symm, by omega, by omega, ?_⟩
  · rw [Int.natCast_ediv, Int.natCast_ediv]
  · rw [Int.toNat_natCast, Int.toNat_natCast]; exact cp
theorem find_loop {l : List Spr} (ho : ∀ s ∈ l, okP s) (h4 : l.length ≤ 4) {load : Int} (h0 : 0 ≤ load) (h1 : load ≤ 1099511627776) (hr : sumL l ≤ load) : ∀ (c k : Nat) (L : List Bool) (p q : Int), L.count true ≤ c → c + 60 ≤ k →
    0 ≤ p → 1 ≤ q → left p q l L → p * els l L ≤ (ovr l L - load) * q → 0 < ovr l L - load → 0 < els l L → ∃ a b, spring_find.l1 k L l load = some (a, b) ∧ isForce l load a b := by
  intro c
  induction c with
  | zero =>
    intro k L p q hc hk hp hq hL hpq hov he
    exfalso
    have : ∀ {l : List Spr} {L : List Bool}, L.count true = 0 → els l L = 0 := by
      intro l
      induction l with
      | nil => intro L _; cases L <;> rfl
      | cons s t ih =>
        intro L hL
        cases L with
        | nil => rfl
        | cons b L =>
          rw [count_cons'] at hL
          cases b with
          | true => simp at hL
          | false =>
            unfold els
            rw [if_neg (by decide), Int.zero_add]
            exact ih (by simpa using hL)
    have := this (l := l) (L := L) (by omega)
    omega
  | succ c ih =>
    intro k L p q hc hk hp hq hL hpq hov he
    obtain ⟨k, rfl⟩ : ∃ x, k = x + 1 := ⟨k - 1, by omega⟩
    have hlen := left_len hL
    have bb := ovr_bound L ho
    obtain ⟨a, b, d, hf, hd, e1, e2, a1, b1, hg⟩ := force_pos hov he
    have ab : a ≤ ovr l L - load := by have := Int.mul_le_mul_of_nonneg_left hd (show 0 ≤ a by omega); omega
    have bb2 : b ≤ els l L := by have := Int.mul_le_mul_of_nonneg_left hd (show 0 ≤ b by omega); omega
    have ratio : a * els l L = b * (ovr l L - load) := by rw [e1, e2]; ac_rfl
    -- p / q ≤ a / b
    have hpab : p * b ≤ a * q := by
      rw [e1, e2] at hpq
      have : p * b * d ≤ a * q * d := by
        have e3 : p * (b * d) = p * b * d := by ac_rfl
        have e4 : a * d * q = a * q * d := by ac_rfl
        omega
      exact Int.le_of_mul_le_mul_right this (by omega)
    rw [spring_find.l1, of_eq' ho hlen h4 h0 h1 (by omega), hf, Option.bind_some, rem_eq ho hlen h4 (by omega) (by omega) b1 (by omega) (by omega), Option.bind_some]
    have gain := rem_gain (a := a) b1 ho hL
    by_cases hcnt : (remL a b l L).count true = L.count true
    · rw [if_pos hcnt]
      obtain ⟨g, w⟩ := stay_sum b1 hq hpab ho hL hcnt
      refine ⟨a, b, rfl, by omega, by omega, b1, by omega, hg, .inr ⟨by omega, ?_, w he⟩⟩
      rw [g, ratio, Int.mul_sub]
      omega
    · rw [if_neg hcnt]
      have hL' := left_next hq b1 hpab ho hL
      -- what goes leaves more over
      have more : 0 < b * (ovr l (remL a b l L) - load) - a * els l (remL a b l L) := by
        rw [Int.mul_sub]
        rw [Int.mul_sub] at ratio
        omega
      have bb' := ovr_bound (remL a b l L) ho
      have he' : 0 < els l (remL a b l L) := by
        refine Classical.byContradiction fun z => ?_
        have z0 : els l (remL a b l L) = 0 := by omega
        have z1 := (els_zero ho hL' z0).2
        rw [z0, z1, Int.mul_zero] at more
        have : b * (sumL l - load) ≤ b * 0 := Int.mul_le_mul_of_nonneg_left (by omega) (by omega)
        omega
      have hov' : 0 < ovr l (remL a b l L) - load := by
        refine Classical.byContradiction fun z => ?_
        have m1 : b * (ovr l (remL a b l L) - load) ≤ b * 0 := Int.mul_le_mul_of_nonneg_left (by omega) (by omega)
        have m2 : 0 ≤ a * els l (remL a b l L) := Int.mul_nonneg (by omega) (by omega)
        omega
      have hc' : ((ovr l (remL a b l L)) - load) * b = b * (ovr l (remL a b l L) - load) := Int.mul_comm _ _
      exact ih k (remL a b l L) a b (by omega) (by omega) (by omega) b1 hL' (by omega) hov' he'
theorem find_eq {l : List Spr} {load : Int} (h : roomP l load) {k : Nat} (hk : 70 ≤ k) : ∃ a b, spring_find.f k l load = some (a, b) ∧ isForce l load a b := by
  obtain ⟨⟨ho, h4⟩, h0, h1, hr⟩ := h
  unfold spring_find.f
  have hL := left_start l ho
  have hlen := left_len hL
  have hcl : (l.map spring_find.pos).count true ≤ l.length := by have := List.count_le_length (a := true) (l := l.map spring_find.pos); simpa using this
  have bb := ovr_bound (l.map spring_find.pos) ho
  have easy : (ovr l (l.map spring_find.pos) - load ≤ 0 ∨ els l (l.map spring_find.pos) = 0) → ovr l (l.map spring_find.pos) ≤ load → ∃ a b, spring_find.l1 k (l.map spring_find.pos) l load = some (a, b) ∧ isForce l load a b := by
    intro hz hle
    obtain ⟨k, rfl⟩ : ∃ x, k = x + 1 := ⟨k - 1, by omega⟩
    have hf : forceOf (ovr l (l.map spring_find.pos) - load) (els l (l.map spring_find.pos)) = (0, 1) := by
      unfold forceOf
      by_cases c : ovr l (l.map spring_find.pos) - load ≤ 0
      · rw [if_pos c]
      · omega
    refine ⟨0, 1, ?_, by omega, by omega, by omega, by omega, by decide, .inl ⟨rfl, ?_⟩⟩
    · rw [spring_find.l1, of_eq' ho hlen h4 h0 h1 (by omega), hf, Option.bind_some, rem_eq ho hlen h4 (by omega) (by omega) (by omega) (by omega) (by omega), Option.bind_some, remL_none l _ ho hlen, if_pos rfl]
    · have : ∀ {l : List Spr}, (∀ s ∈ l, okP s) → sumU l = ovr l (l.map spring_find.pos) := by
        intro l
        induction l with
        | nil => intro _; rfl
        | cons s t ih =>
          intro ho
          have o := (ho s (List.mem_cons_self ..)).2.2.2.1
          rw [List.map_cons]
          unfold ovr
          rw [sumU_cons, ih (fun y hy => ho y (List.mem_cons_of_mem _ hy))]
          by_cases c : 0 < s.f2
          · rw [if_pos (show spring_find.pos s = true from decide_eq_true c)]
          · rw [if_neg (show ¬ spring_find.pos s = true from fun z => c (of_decide_eq_true z))]
            have : lst s = s.f0 := by unfold lst; rw [if_pos (by omega)]
            rw [this]
      rw [this ho]; exact hle
  by_cases c1 : ovr l (l.map spring_find.pos) - load ≤ 0
  · exact easy (.inl c1) (by omega)
  · by_cases c2 : els l (l.map spring_find.pos) = 0
    · have := (els_zero ho hL c2).2
      omega
    · exact find_loop ho h4 h0 h1 hr 4 k (l.map spring_find.pos) 0 1 (by omega) (by omega) (by omega) (by omega) hL (by omega) (by omega) (by omega)
/-- The force. -/
theorem force_ok {l : List Spr} {load : Int} (h : roomP l load) {k : Nat} (hk : 70 ≤ k) : ∃ a b, spring_Force.f k l load = some (a, b, true) ∧ isForce l load a b := by
  obtain ⟨a, b, hf, hi⟩ := find_eq h hk
  refine ⟨a, b, ?_, hi⟩
  unfold spring_Force.f
  have h4 := h.1.2
  rw [roomP_eq l load (by omega), Option.bind_some, if_pos (decide_eq_true h), hf, Option.bind_some]
theorem force_no {l : List Spr} {load : Int} (h : ¬ roomP l load) {k : Nat} (hk : l.length + 2 ≤ k) : spring_Force.f k l load = some (0, 0, false) := by
  unfold spring_Force.f
  rw [roomP_eq l load hk, Option.bind_some, if_neg (fun q => h (of_decide_eq_true q))]
/-! ## SpringPress -/
/-- How many units one has by a force of a through b. -/
def prs (a b : Int) (s : Spr) : Int := max (lst s) (s.f0 - up (a * s.f2) b)
theorem prs_spec {a b : Int} (h0 : 0 ≤ a) (hb : 1 ≤ b) {s : Spr} (o : okP s) : b * prs a b s ≤ xOf a b s ∧ xOf a b s < b * prs a b s + b ∧ lst s ≤ prs a b s ∧ prs a b s ≤ s.f0 ∧ (s.f2 = 0 → prs a b s = s.f0) := by
  have bb := lst_bound o
  obtain ⟨o1, o2, o3, o4, o5⟩ := o
  have an : 0 ≤ a * s.f2 := Int.mul_nonneg h0 o4
  obtain ⟨u1, u2⟩ := up_spec (x := a * s.f2) hb
  have u0 : 0 ≤ up (a * s.f2) b := le_up hb (by omega)
  have e1 : b * (s.f0 - up (a * s.f2) b) = b * s.f0 - up (a * s.f2) b * b := by rw [Int.mul_sub]; congr 1; exact Int.mul_comm _ _
  have e2 : (up (a * s.f2) b - 1) * b = up (a * s.f2) b * b - b := by rw [Int.sub_mul, Int.one_mul]
  unfold prs xOf
  refine ⟨?_, ?_, Int.le_max_left .., by omega, fun z => ?_⟩
  · rcases Int.le_total (lst s) (s.f0 - up (a * s.f2) b) with c | c
    · rw [Int.max_eq_right c]; omega
    · rw [Int.max_eq_left c]; omega
  · have m1 : b * lst s ≤ b * max (lst s) (s.f0 - up (a * s.f2) b) := Int.mul_le_mul_of_nonneg_left (Int.le_max_left ..) (by omega)
    have m2 : b * (s.f0 - up (a * s.f2) b) ≤ b * max (lst s) (s.f0 - up (a * s.f2) b) := Int.mul_le_mul_of_nonneg_left (Int.le_max_right ..) (by omega)
    omega
  · have hu : up (a * s.f2) b = 0 := up_eq hb (by rw [z, Int.mul_zero]; omega) (by rw [z, Int.mul_zero]; omega)
    rw [hu]; omega
def sumPr (a b : Int) (l : List Spr) : Int := (l.map (prs a b)).sum
theorem sumPr_cons (a b : Int) (s : Spr) (l : List Spr) : sumPr a b (s :: l) = prs a b s + sumPr a b l := by unfold sumPr; rw [List.map_cons, List.sum_cons]
theorem sumPr_spec {a b : Int} (h0 : 0 ≤ a) (hb : 1 ≤ b) : ∀ {l : List Spr}, (∀ s ∈ l, okP s) → b * sumPr a b l ≤ gOf a b l ∧ gOf a b l ≤ b * sumPr a b l + b * l.length ∧ (l ≠ [] → gOf a b l < b * sumPr a b l + b * l.length) ∧ sumL l ≤ sumPr a b l ∧ sumPr a b l ≤ sumU l
  | [], _ => by simp [sumPr, gOf, sumL, sumU]
  | s :: t, ho => by
    have r := sumPr_spec h0 hb (l := t) (fun y hy => ho y (List.mem_cons_of_mem _ hy))
    have p := prs_spec h0 hb (ho s (List.mem_cons_self ..))
    have e : b * ((t.length + 1 : Nat) : Int) = b * t.length + b := by rw [Int.natCast_add, Int.mul_add]; omega
    rw [sumPr_cons, gOf_cons, sumL_cons, sumU_cons, List.length_cons, Int.mul_add, e]
    refine ⟨by omega, by omega, fun _ => by omega, by omega, by omega⟩
theorem has_eq {a b : Int} (h0 : 0 ≤ a) (h1 : a ≤ 4194304) (hb : 1 ≤ b) (hb2 : b ≤ 32) {s : Spr} (o : okP s) : spring_Press_1.f a b s.f0 s.f1 s.f2 = some (prs a b s) := by
  obtain ⟨o1, o2, o3, o4, o5⟩ := o
  have m := mulb (a := a) (b := s.f2) (A := 4194304) (B := 8) h0 h1 o4 o5
  have u0 : 0 ≤ up (a * s.f2) b := le_up hb (by omega)
  have u1 : up (a * s.f2) b ≤ a * s.f2 := up_le hb (by have := Int.mul_le_mul_of_nonneg_left hb m.1; omega)
  unfold spring_Press_1.f prs
  rw [w64 (x := a * s.f2) (by omega) (by omega), ceil_up m.1 (by omega) hb (by omega), Option.bind_some, least_eq, Option.bind_some, w64 (by omega) (by omega)]
  congr 1
  unfold mx
  split <;> omega
theorem press_each {l : List Spr} (ho : ∀ s ∈ l, okP s) (hl : l.length ≤ 1000) {a b : Int} (h0 : 0 ≤ a) (h1 : a ≤ 4194304) (hb : 1 ≤ b) (hb2 : b ≤ 32) {k : Nat} (hk : l.length < k) : spring_Press.each k a b [] l 0 = some (l.map (prs a b)) := by
  have loop : ∀ (d i k : Nat), i + d = l.length → d < k → spring_Press.each k a b ((l.take i).map (prs a b)) l (i : Int) = some (l.map (prs a b)) := by
    intro d
    induction d with
    | zero =>
      intro i k hi hk
      obtain ⟨k, rfl⟩ : ∃ x, k = x + 1 := ⟨k - 1, by omega⟩
      rw [spring_Press.each, if_neg (by omega), List.take_of_length_le (by omega)]
    | succ d ih =>
      intro i k hi hk
      obtain ⟨k, rfl⟩ : ∃ x, k = x + 1 := ⟨k - 1, by omega⟩
      have hlt : i < l.length := by omega
      rw [spring_Press.each, if_pos (by omega), if_pos (by omega), rd_spr hlt, has_eq h0 h1 hb hb2 (ho _ (List.getElem_mem hlt)), Option.bind_some, if_pos (by simp; omega), w64 (by omega) (by omega), show ((i : Int) + 1) = ((i + 1 : Nat) : Int) by omega]
      have e : (l.take i).map (prs a b) ++ [prs a b l[i]] = (l.take (i + 1)).map (prs a b) := by rw [List.take_succ_eq_append_getElem hlt, List.map_append]; rfl
      rw [e]
      exact ih (i + 1) k (by omega) (by omega)
  exact loop l.length 0 k (by omega) hk
theorem press_ok {l : List Spr} {load : Int} (h : roomP l load) {k : Nat} (hk : 70 ≤ k) : ∃ a b, isForce l load a b ∧ spring_Force.f k l load = some (a, b, true) ∧ spring_Press.f k l load = some (l.map (prs a b), true) := by
  obtain ⟨a, b, hf, hi⟩ := force_ok h hk
  refine ⟨a, b, hi, hf, ?_⟩
  have ⟨p0, p1, p2, p3, p4, p5⟩ := hi
  have h4 := h.1.2
  unfold spring_Press.f
  rw [hf, Option.bind_some, if_pos rfl, press_each h.1.1 (by omega) p0 p1 p2 p3 (by omega), Option.bind_some]
theorem press_no {l : List Spr} {load : Int} (h : ¬ roomP l load) {k : Nat} (hk : l.length + 2 ≤ k) : spring_Press.f k l load = some ([], false) := by
  unfold spring_Press.f
  rw [force_no h hk]
  rfl
theorem isForce_full {l : List Spr} (ho : ∀ s ∈ l, okP s) {load a b : Int} (h : isForce l load a b) (hu : sumU l ≤ load) : a = 0 ∧ b = 1 := by
  refine isForce_one ho h ⟨by omega, by omega, by omega, by omega, by decide, .inl ⟨rfl, hu⟩⟩
theorem prs_zero {s : Spr} (o : okP s) : prs 0 1 s = s.f0 := by
  have p := prs_spec (a := 0) (b := 1) (by omega) (by omega) o
  have b := lst_bound o
  unfold xOf at p
  rw [Int.one_mul, Int.one_mul, Int.one_mul, Int.zero_mul, Int.sub_zero, Int.max_eq_left (by omega)] at p
  omega
theorem sumPr_zero : ∀ {l : List Spr}, (∀ s ∈ l, okP s) → sumPr 0 1 l = sumU l
  | [], _ => rfl
  | s :: t, ho => by rw [sumPr_cons, sumU_cons, prs_zero (ho s (List.mem_cons_self ..)), sumPr_zero (fun y hy => ho y (List.mem_cons_of_mem _ hy))]
theorem prs_mono {a b a' b' : Int} (h0 : 0 ≤ a) (h0' : 0 ≤ a') (hb : 1 ≤ b) (hb' : 1 ≤ b') (h : a' * b ≤ a * b') {s : Spr} (o : okP s) : prs a b s ≤ prs a' b' s := by
  have p := prs_spec h0 hb o
  have p' := prs_spec h0' hb' o
  have x := xOf_anti hb' hb h o
  -- b' * xOf a b ≤ b * xOf a' b'
  have m1 : b' * (b * prs a b s) ≤ b' * xOf a b s := Int.mul_le_mul_of_nonneg_left p.1 (by omega)
  have m2 : b * xOf a' b' s < b * (b' * prs a' b' s + b') := Int.mul_lt_mul_of_pos_left p'.2.1 (by omega)
  have e1 : b' * (b * prs a b s) = b * b' * prs a b s := by ac_rfl
  have e2 : b * (b' * prs a' b' s + b') = b * b' * (prs a' b' s + 1) := by rw [Int.mul_add, Int.mul_add, Int.mul_one, Int.mul_assoc]
  have m3 : b * b' * prs a b s < b * b' * (prs a' b' s + 1) := by omega
  have := Int.lt_of_mul_lt_mul_left m3 (Int.mul_nonneg (by omega) (by omega))
  omega
theorem rd_map {l : List Spr} (f : Spr → Int) {i : Nat} (h : i < l.length) : rd (l.map f) (i : Int) = f l[i] := by
  unfold rd
  rw [Int.toNat_natCast]
  simp [List.getD_eq_getElem?_getD, List.getElem?_eq_getElem h]
/-! ## Plan -/
abbrev Spec := S40
theorem rd_spec {l : List Spec} {i : Nat} (h : i < l.length) : rd_T40 l (i : Int) = l[i] := by
  unfold rd_T40
  simp [List.getD_eq_getElem?_getD, List.getElem?_eq_getElem h]
/-- A task that may be. -/
def okT (s : Spec) : Prop := okS s.f0 s.f1 s.f2 s.f3 s.f4 s.f5
instance (s : Spec) : Decidable (okT s) := by unfold okT okS; infer_instance
theorem spec_may (s : Spec) : spec_May.f s.f0 s.f1 s.f2 s.f3 s.f4 s.f5 = some (decide (okT s)) := by
  by_cases h : okT s
  · rw [decide_eq_true h]; exact may_ok h
  · rw [decide_eq_false h]; exact may_no h
def topS (s : Spec) : Int := unitsOf s.f0 s.f3 s.f4 s.f1
def leastS (s : Spec) : Int := unitsOf s.f0 s.f3 s.f4 s.f2
/-- The task as a spring. -/
def sprOf (s : Spec) : Spr := ⟨topS s, leastS s, s.f5⟩
theorem sprOf_ok {s : Spec} (h : okT s) : okP (sprOf s) := by
  have h' : okS s.f0 s.f1 s.f2 s.f3 s.f4 s.f5 := h
  have u1 := unitsOf_spec h' (Int.le_refl _) h'.2.2.2.1
  have u2 := unitsOf_spec h' h'.2.2.2.1 (Int.le_refl _)
  have u3 := unitsOf_anti h' (Int.le_refl _) h'.2.2.2.1 (Int.le_refl _)
  obtain ⟨a1, a2, a3, a4, a5, a6, a7, a8, a9⟩ := h'
  exact ⟨u2.1, u3, u1.2.1, a7, a8⟩
theorem sprOf_lst {s : Spec} (h : okT s) : lst (sprOf s) = leastS s := by
  unfold lst sprOf
  dsimp only
  by_cases c : s.f5 = 0
  · rw [if_pos c]
    obtain ⟨a1, a2, a3, a4, a5, a6, a7, a8, a9⟩ := h
    have e : s.f1 = s.f2 := by omega
    unfold topS leastS
    rw [e]
  · rw [if_neg c]
def mayT (l : List Spec) : Prop := (∀ s ∈ l, okT s) ∧ l.length ≤ 4
instance (l : List Spec) : Decidable (mayT l) := by unfold mayT; infer_instance
theorem bad_eq (l : List Spec) (hl : l.length ≤ 1000) {k : Nat} (hk : l.length < k) : plan_bad.f k l = some (!decide (∀ s ∈ l, okT s)) := by
  unfold plan_bad.f api_Spec_53.f api_Spec_81.f
  have loop : ∀ (d i k : Nat), i + d = l.length → d < k → (∀ s ∈ l.take i, okT s) → ∃ r, api_Spec_81.l0 k l (l.length : Int) (i : Int) = some r ∧ (0 ≤ r ↔ ¬ ∀ s ∈ l, okT s) := by
    intro d
    induction d with
    | zero =>
      intro i k hi hk hall
      obtain ⟨k, rfl⟩ : ∃ x, k = x + 1 := ⟨k - 1, by omega⟩
      rw [List.take_of_length_le (by omega)] at hall
      exact ⟨-1, by rw [api_Spec_81.l0, if_neg (by omega)], ⟨fun h => by omega, fun h => absurd hall h⟩⟩
    | succ d ih =>
      intro i k hi hk hall
      obtain ⟨k, rfl⟩ : ∃ x, k = x + 1 := ⟨k - 1, by omega⟩
      have hlt : i < l.length := by omega
      rw [api_Spec_81.l0, if_pos (by omega), if_pos (by omega), if_pos (by omega), rd_spec hlt]
      unfold plan_bad_1.f
      rw [spec_may, Option.bind_some, Option.bind_some]
      by_cases o : okT l[i]
      · rw [decide_eq_true o, if_neg (by decide), w64 (by omega) (by omega), show ((i : Int) + 1) = ((i + 1 : Nat) : Int) by omega]
        refine ih (i + 1) k (by omega) (by omega) fun s hs => ?_
        rw [List.take_succ_eq_append_getElem hlt] at hs
        rcases List.mem_append.1 hs with h | h
        · exact hall s h
        · rw [List.mem_singleton.1 h]; exact o
      · rw [decide_eq_false o, if_pos (by decide)]
        exact ⟨(i : Int), rfl, ⟨fun _ h => o (h _ (List.getElem_mem hlt)), fun _ => by omega⟩⟩
  obtain ⟨r, hr, hi⟩ := loop l.length 0 k (by omega) hk (by simp)
  rw [show ((0 : Nat) : Int) = 0 from rfl] at hr
  rw [hr, Option.bind_some, Option.bind_some]
  congr 1
  by_cases h : ∀ s ∈ l, okT s
  · rw [decide_eq_true h, decide_eq_false (fun q => hi.1 q h)]; rfl
  · rw [decide_eq_false h, decide_eq_true (hi.2 h)]; rfl
theorem springs_each (l : List Spec) (ho : ∀ s ∈ l, okT s) (hl : l.length ≤ 1000) {k : Nat} (hk : l.length < k) : api_Spr_28.f k l = some (l.map sprOf) := by
  unfold api_Spr_28.f
  have loop : ∀ (d i k : Nat), i + d = l.length → d < k → api_Spr_28.l0 k ((l.take i).map sprOf) l (l.length : Int) (i : Int) = some (l.map sprOf) := by
    intro d
    induction d with
    | zero =>
      intro i k hi hk
      obtain ⟨k, rfl⟩ : ∃ x, k = x + 1 := ⟨k - 1, by omega⟩
      rw [api_Spr_28.l0, if_neg (by omega), List.take_of_length_le (by omega)]
    | succ d ih =>
      intro i k hi hk
      obtain ⟨k, rfl⟩ : ∃ x, k = x + 1 := ⟨k - 1, by omega⟩
      have hlt : i < l.length := by omega
      have o := ho _ (List.getElem_mem hlt)
      rw [api_Spr_28.l0, if_pos (by omega), if_pos (by omega), if_pos (by omega), rd_spec hlt]
      unfold plan_Springs_1.f
      rw [top_ok o, Option.bind_some, least_ok o, Option.bind_some, Option.bind_some, if_pos (by simp; omega), w64 (by omega) (by omega), show ((i : Int) + 1) = ((i + 1 : Nat) : Int) by omega]
      have e : (l.take i).map sprOf ++ [(⟨unitsOf l[i].f0 l[i].f3 l[i].f4 l[i].f1, unitsOf l[i].f0 l[i].f3 l[i].f4 l[i].f2, l[i].f5⟩ : Spr)] = (l.take (i + 1)).map sprOf := by rw [List.take_succ_eq_append_getElem hlt, List.map_append]; rfl
      rw [e]
      exact ih (i + 1) k (by omega) (by omega)
  exact loop l.length 0 k (by omega) hk
theorem springs_ok {l : List Spec} (h : mayT l) {k : Nat} (hk : l.length < k) : plan_Springs.f k l = some (l.map sprOf, true) := by
  have h4 := h.2
  unfold plan_Springs.f
  rw [if_neg (by omega), bad_eq l (by omega) hk, Option.bind_some, decide_eq_true h.1, if_neg (by decide), springs_each l h.1 (by omega) hk]
  rfl
theorem springs_no {l : List Spec} (h : ¬ mayT l) {k : Nat} (hk : l.length < k) : plan_Springs.f k l = some ([], false) := by
  unfold plan_Springs.f
  by_cases c : (l.length : Int) > 4
  · rw [if_pos c]
  · rw [if_neg c, bad_eq l (by omega) hk, Option.bind_some, decide_eq_false (fun q => h ⟨q, by omega⟩), if_pos (by decide)]
theorem mayP_map {l : List Spec} (h : mayT l) : mayP (l.map sprOf) := by
  refine ⟨fun s hs => ?_, by rw [List.length_map]; exact h.2⟩
  obtain ⟨x, hx, rfl⟩ := List.mem_map.1 hs
  exact sprOf_ok (h.1 x hx)
/-- All are at their least together. -/
def leasts (l : List Spec) : Int := (l.map leastS).sum
def tops (l : List Spec) : Int := (l.map topS).sum
theorem leasts_eq {l : List Spec} (h : ∀ s ∈ l, okT s) : sumL (l.map sprOf) = leasts l := by
  unfold sumL leasts
  rw [List.map_map]
  congr 1
  exact List.map_congr_left fun s hs => sprOf_lst (h s hs)
theorem tops_eq (l : List Spec) : sumU (l.map sprOf) = tops l := by
  unfold sumU tops
  rw [List.map_map]
  rfl
theorem room_iff {l : List Spec} (h : mayT l) : roomP (l.map sprOf) 983040 ↔ leasts l ≤ 983040 := by
  rw [← leasts_eq h.1]
  exact ⟨fun q => q.2.2.2, fun q => ⟨mayP_map h, by omega, by omega, q⟩⟩
/-- The period under a force of a through b, and the task at it. -/
def perS (a b : Int) (s : Spec) : Int := max (leastP s.f0 s.f3 s.f4 (prs a b (sprOf s))) s.f1
def fixOf (a b : Int) (s : Spec) : Fix := ⟨s, perS a b s⟩
theorem prs_bounds {a b : Int} (h0 : 0 ≤ a) (hb : 1 ≤ b) {s : Spec} (h : okT s) : 1 ≤ prs a b (sprOf s) ∧ prs a b (sprOf s) ≤ 1048576 ∧ leastS s ≤ prs a b (sprOf s) ∧ prs a b (sprOf s) ≤ topS s := by
  have p := prs_spec h0 hb (sprOf_ok h)
  have o := sprOf_ok h
  have b1 := lst_bound o
  have e := sprOf_lst h
  have ou : (sprOf s).f0 ≤ 1048576 := o.2.2.1
  have et : (sprOf s).f0 = topS s := rfl
  omega
theorem perS_spec {a b : Int} (h0 : 0 ≤ a) (hb : 1 ≤ b) {s : Spec} (h : okT s) : s.f1 ≤ perS a b s ∧ perS a b s ≤ s.f2 ∧ leastP s.f0 s.f3 s.f4 (prs a b (sprOf s)) ≤ s.f2 ∧ unitsOf s.f0 s.f3 s.f4 (perS a b s) ≤ prs a b (sprOf s) := by
  have p := prs_bounds h0 hb h
  have h' : okS s.f0 s.f1 s.f2 s.f3 s.f4 s.f5 := h
  have q := (at_le h' h'.2.2.2.1 (Int.le_refl _) p.1).1 p.2.2.1
  have t := h'.2.2.2.1
  have r1 : s.f1 ≤ perS a b s := by unfold perS; omega
  have r2 : perS a b s ≤ s.f2 := by unfold perS; omega
  refine ⟨r1, r2, q, (at_le h' r1 r2 p.1).2 ?_⟩
  unfold perS
  omega
theorem of_per {a b : Int} (h0 : 0 ≤ a) (hb : 1 ≤ b) {s : Spec} (h : okT s) (k : Nat) : period_Of.f (k + 1) s.f0 s.f1 s.f2 s.f3 s.f4 s.f5 (prs a b (sprOf s)) = some (perS a b s, true) := by
  have p := prs_bounds h0 hb h
  rw [pof_eq h p.1 p.2.1, if_pos (perS_spec h0 hb h).2.2.1]
  rfl
theorem fixOf_ok {a b : Int} (h0 : 0 ≤ a) (hb : 1 ≤ b) {s : Spec} (h : okT s) : okF (fixOf a b s) := by
  have p := perS_spec h0 hb h
  exact ⟨h, p.1, p.2.1⟩
theorem rd_mapS {l : List Spec} (f : Spec → Int) {i : Nat} (h : i < l.length) : rd (l.map f) (i : Int) = f l[i] := by
  unfold rd
  simp [List.getD_eq_getElem?_getD, List.getElem?_eq_getElem h]
theorem target_each {l : List Spec} (ho : ∀ s ∈ l, okT s) (hl : l.length ≤ 1000) {a b : Int} (h0 : 0 ≤ a) (hb : 1 ≤ b) {k : Nat} (hk : l.length + 1 < k) : plan_Target.each k ((l.map sprOf).map (prs a b)) [] l 0 = some (l.map (fixOf a b)) := by
  have loop : ∀ (d i k : Nat), i + d = l.length → d + 1 < k → plan_Target.each k ((l.map sprOf).map (prs a b)) ((l.take i).map (fixOf a b)) l (i : Int) = some (l.map (fixOf a b)) := by
    intro d
    induction d with
    | zero =>
      intro i k hi hk
      obtain ⟨k, rfl⟩ : ∃ x, k = x + 1 := ⟨k - 1, by omega⟩
      rw [plan_Target.each, if_neg (by omega), List.take_of_length_le (by omega)]
    | succ d ih =>
      intro i k hi hk
      obtain ⟨k, rfl⟩ : ∃ x, k = x + 1 := ⟨k - 1, by omega⟩
      have hlt : i < l.length := by omega
      have o := ho _ (List.getElem_mem hlt)
      have er : rd ((l.map sprOf).map (prs a b)) (i : Int) = prs a b (sprOf l[i]) := by
        rw [List.map_map, rd_mapS _ hlt]; rfl
      obtain ⟨k1, rfl⟩ : ∃ x, k = x + 1 := ⟨k - 1, by omega⟩
      rw [plan_Target.each, if_pos (by omega), if_pos (by omega), rd_spec hlt]
      unfold plan_Target_1.f
      rw [if_pos (by omega), if_pos (by simp; omega), er, of_per h0 hb o, Option.bind_some, Option.bind_some, if_pos (by simp; omega), w64 (by omega) (by omega), show ((i : Int) + 1) = ((i + 1 : Nat) : Int) by omega]
      have e : (l.take i).map (fixOf a b) ++ [(⟨(⟨l[i].f0, l[i].f1, l[i].f2, l[i].f3, l[i].f4, l[i].f5⟩ : Spec), perS a b l[i]⟩ : Fix)] = (l.take (i + 1)).map (fixOf a b) := by rw [List.take_succ_eq_append_getElem hlt, List.map_append]; rfl
      rw [e]
      exact ih (i + 1) (k1 + 1) (by omega) (by omega)
  exact loop l.length 0 k (by omega) hk
theorem target_full {l : List Spec} (h : 4 < l.length) (k : Nat) : plan_Target.f k l = some ([], 3) := by
  unfold plan_Target.f
  rw [if_pos (by omega)]
theorem target_arg {l : List Spec} (h4 : l.length ≤ 4) (h : ¬ ∀ s ∈ l, okT s) {k : Nat} (hk : l.length < k) : plan_Target.f k l = some ([], 1) := by
  unfold plan_Target.f
  rw [if_neg (by omega), springs_no (fun q => h q.1) hk]
  rfl
theorem target_load {l : List Spec} (h : mayT l) (hr : 983040 < leasts l) {k : Nat} (hk : l.length + 2 ≤ k) : plan_Target.f k l = some ([], 5) := by
  have h4 := h.2
  unfold plan_Target.f
  rw [if_neg (by omega), springs_ok h (by omega), Option.bind_some, if_pos rfl, press_no (fun q => by have := (room_iff h).1 q; omega) (by rw [List.length_map]; omega)]
  rfl
theorem target_ok {l : List Spec} (h : mayT l) (hr : leasts l ≤ 983040) {k : Nat} (hk : 500 ≤ k) : ∃ a b, isForce (l.map sprOf) 983040 a b ∧ plan_Target.f k l = some (if testB (l.map (fixOf a b)) = true then (l.map (fixOf a b), 0) else ([], 6)) := by
  have h4 := h.2
  obtain ⟨a, b, hi, hf, hp⟩ := press_ok ((room_iff h).2 hr) (k := k) (by omega)
  refine ⟨a, b, hi, ?_⟩
  unfold plan_Target.f
  rw [if_neg (by omega), springs_ok h (by omega), Option.bind_some, if_pos rfl, hp, Option.bind_some, if_pos rfl, target_each h.1 (by omega) hi.1 hi.2.2.1 (by omega), Option.bind_some, test_eq _ (by rw [List.length_map]; omega) (by rw [List.length_map]; omega), Option.bind_some]
  cases testB (l.map (fixOf a b)) <;> rfl
theorem uF_sum {a b : Int} (h0 : 0 ≤ a) (hb : 1 ≤ b) : ∀ {l : List Spec}, (∀ s ∈ l, okT s) → ((l.map (fixOf a b)).map uF).sum ≤ sumPr a b (l.map sprOf)
  | [], _ => by simp [sumPr]
  | s :: t, h => by
    have o := h s (List.mem_cons_self ..)
    have r := uF_sum h0 hb (l := t) (fun y hy => h y (List.mem_cons_of_mem _ hy))
    have p := (perS_spec h0 hb o).2.2.2
    rw [List.map_cons, List.map_cons, List.sum_cons, List.map_cons, sumPr_cons]
    have e : uF (fixOf a b s) = unitsOf s.f0 s.f3 s.f4 (perS a b s) := rfl
    omega
theorem press_load {l : List Spr} (ho : ∀ s ∈ l, okP s) {load a b : Int} (h : isForce l load a b) : sumPr a b l ≤ load := by
  have sp := (sumPr_spec h.1 h.2.2.1 ho).1
  have g := isForce_le ho h
  have hb := h.2.2.1
  exact Int.le_of_mul_le_mul_left (show b * sumPr a b l ≤ b * load by omega) (by omega)
theorem fixes_may {l : List Spec} (h : mayT l) {a b : Int} (hi : isForce (l.map sprOf) 983040 a b) : mayF (l.map (fixOf a b)) := by
  refine ⟨fun x hx => ?_, by rw [List.length_map]; exact h.2, ?_⟩
  · obtain ⟨s, hs, rfl⟩ := List.mem_map.1 hx
    exact fixOf_ok hi.1 hi.2.2.1 (h.1 s hs)
  · have := uF_sum hi.1 hi.2.2.1 h.1
    have := press_load (mayP_map h).1 hi
    omega
/-! ## PlanMore -/
theorem rd_fixes {l : List Spec} (f : Spec → Fix) {i : Nat} (h : i < l.length) : rd_T42 (l.map f) (i : Int) = f l[i] := by
  rw [rd_fix (by rw [List.length_map]; exact h), List.getElem_map]
theorem per_full {l : List Spec} (h : mayT l) {a b : Int} (hi : isForce (l.map sprOf) 983040 a b) (hu : tops l ≤ 983040) {s : Spec} (hs : okT s) : perS a b s = s.f1 := by
  obtain ⟨rfl, rfl⟩ := isForce_full (mayP_map h).1 hi (by rw [tops_eq]; exact hu)
  have hs' : okS s.f0 s.f1 s.f2 s.f3 s.f4 s.f5 := hs
  have p := prs_bounds (a := 0) (b := 1) (by omega) (by omega) hs
  have e : prs 0 1 (sprOf s) = topS s := prs_zero (sprOf_ok hs)
  have q := (at_le hs' (Int.le_refl _) hs'.2.2.2.1 p.1).1 (by rw [e]; exact Int.le_refl _)
  unfold perS
  omega
theorem target_cases (l : List Spec) (h4 : l.length ≤ 4) {k : Nat} (hk : 500 ≤ k) : ∃ f e, plan_Target.f k l = some (f, e) ∧ ((¬ (∀ s ∈ l, okT s) ∧ e = 1 ∧ f = []) ∨ ((∀ s ∈ l, okT s) ∧ 983040 < leasts l ∧ e = 5 ∧ f = []) ∨ ((∀ s ∈ l, okT s) ∧ leasts l ≤ 983040 ∧ ∃ a b, isForce (l.map sprOf) 983040 a b ∧ ((testB (l.map (fixOf a b)) = true ∧ e = 0 ∧ f = l.map (fixOf a b)) ∨ (testB (l.map (fixOf a b)) = false ∧ e = 6 ∧ f = [])))) := by
  by_cases ha : ∀ s ∈ l, okT s
  · by_cases hr : leasts l ≤ 983040
    · obtain ⟨a, b, hi, ht⟩ := target_ok ⟨ha, h4⟩ hr hk
      by_cases c : testB (l.map (fixOf a b)) = true
      · rw [if_pos c] at ht
        exact ⟨_, _, ht, Or.inr (Or.inr ⟨ha, hr, a, b, hi, Or.inl ⟨c, rfl, rfl⟩⟩)⟩
      · rw [if_neg c] at ht
        exact ⟨_, _, ht, Or.inr (Or.inr ⟨ha, hr, a, b, hi, Or.inr ⟨Bool.eq_false_iff.2 c, rfl, rfl⟩⟩)⟩
    · exact ⟨_, _, target_load ⟨ha, h4⟩ (by omega) (by omega), Or.inr (Or.inl ⟨ha, by omega, rfl, rfl⟩)⟩
  · exact ⟨_, _, target_arg h4 ha (by omega), Or.inl ⟨ha, rfl, rfl⟩⟩
/-! ## Bound -/
theorem bound_no {l : List Fix} (hl : l.length < 17592186044416) {r : Int} (h : ¬ (mayF l ∧ 0 ≤ r ∧ r ≤ 1048576)) {k : Nat} (hk : l.length + 1 ≤ k) : plan_Bound.f k l r = some 0 := by
  obtain ⟨k, rfl⟩ : ∃ x, k = x + 1 := ⟨k - 1, by omega⟩
  unfold plan_Bound.f
  rw [may_list l hl (by omega), Option.bind_some]
  by_cases m : mayF l
  · rw [decide_eq_true m, if_pos rfl]
    by_cases c : r < 0
    · rw [if_pos c, plan_Bound.j0, if_pos rfl]
    · rw [if_neg c, decide_eq_true (show r > 1048576 by refine Int.not_le.1 fun q => h ⟨m, by omega, q⟩), plan_Bound.j0, if_pos rfl]
  · rw [decide_eq_false m, if_neg (by decide), plan_Bound.j0, if_pos rfl]
theorem bound_ok {l : List Fix} (h : mayF l) {r : Int} (h0 : 0 ≤ r) (h1 : r ≤ 1048576) {k : Nat} (hk : l.length + 2 ≤ k) : plan_Bound.f k l r = some (16 * (r + 2 * sumC l) + 1) := by
  obtain ⟨k, rfl⟩ : ∃ x, k = x + 1 := ⟨k - 1, by omega⟩
  have h4 := h.2.1
  have ho := h.1
  unfold plan_Bound.f
  rw [may_list l (by omega) (by omega), Option.bind_some, decide_eq_true h, if_pos rfl, if_neg (by omega), decide_eq_false (by omega), plan_Bound.j0, if_neg (by decide)]
  have loop : ∀ (d i k : Nat) (x : Int), i + d = l.length → d < k → 0 ≤ x → x ≤ 1048576 + i * 12 → x + 2 * sumC (l.drop i) = r + 2 * sumC l → plan_Bound.l0 k x l (l.length : Int) (i : Int) = some (16 * (r + 2 * sumC l) + 1) := by
    intro d
    induction d with
    | zero =>
      intro i k x hi hk x0 x1 e
      obtain ⟨k, rfl⟩ : ∃ y, k = y + 1 := ⟨k - 1, by omega⟩
      rw [List.drop_of_length_le (by omega)] at e
      simp only [sumC, List.map_nil, List.sum_nil, Int.mul_zero, Int.add_zero] at e
      have e' : x = r + 2 * sumC l := e
      rw [plan_Bound.l0, if_neg (by omega), w64 (x := x * 1048576) (by omega) (by omega), ceil_up (by omega) (by omega) (by omega) (by omega), Option.bind_some, up_eq (n := 16 * x) (by omega) (by omega) (by omega)]
      dsimp only
      rw [w64 (by omega) (by omega), e']
    | succ d ih =>
      intro i k x hi hk x0 x1 e
      obtain ⟨k, rfl⟩ : ∃ y, k = y + 1 := ⟨k - 1, by omega⟩
      have hlt : i < l.length := by omega
      have o := okF_nums (ho _ (List.getElem_mem hlt))
      rw [List.drop_eq_getElem_cons hlt, sumC_cons] at e
      rw [plan_Bound.l0, if_pos (by omega), if_pos (by omega), if_pos (by omega), rd_fix hlt, w64 (x := 2 * l[i].f0.f0) (by omega) (by omega), w64 (x := x + 2 * l[i].f0.f0) (by omega) (by omega), w64 (by omega) (by omega), show ((i : Int) + 1) = ((i + 1 : Nat) : Int) by omega]
      exact ih (i + 1) k _ (by omega) (by omega) (by omega) (by omega) (by omega)
  exact loop l.length 0 k r (by omega) (by omega) h0 (by omega) (by simp)
/-! ## RLeast -/
theorem rleast_eq (s : Spr) : fuseeref07_Least.f s.f0 s.f1 s.f2 = some (lst s) := by
  unfold fuseeref07_Least.f lst
  split <;> rfl
/-! ## RAt -/
theorem rmay05_ok {C T X M K E : Int} (h : okS C T X M K E) : fuseeref05_May.f C T X M K E = some true := by
  obtain ⟨a1, a2, a3, a4, a5, ⟨b1, b2, b3⟩, c1, c2, c3⟩ := h
  unfold fuseeref05_May.f fuseeref02_May.f
  rw [if_pos b1, if_pos b2, decide_eq_true b3]
  simp only [Option.bind_some, if_true]
  rw [if_pos a1, if_pos a2, if_pos a3, if_pos a4, if_pos a5, if_pos c1, if_pos c2]
  by_cases d : E = 0
  · rw [if_pos d]
    have : T = X := by omega
    simp [this]
  · rw [if_neg d]
theorem rmay05_no {C T X M K E : Int} (h : ¬ okS C T X M K E) : fuseeref05_May.f C T X M K E = some false := by
  unfold fuseeref05_May.f
  have hm : fuseeref02_May.f M K = some (decide (1 ≤ M ∧ M ≤ K ∧ K ≤ 6)) := by
    unfold fuseeref02_May.f
    by_cases h1 : M ≥ 1
    · rw [if_pos h1]
      by_cases h2 : K ≥ M
      · rw [if_pos h2]; congr 1; simp [h1, h2]
      · rw [if_neg h2]; congr 1; exact (decide_eq_false (by omega)).symm
    · rw [if_neg h1]; congr 1; exact (decide_eq_false (by omega)).symm
  rw [hm]
  simp only [Option.bind_some]
  by_cases a1 : C ≥ 1
  · rw [if_pos a1]
    by_cases a2 : C ≤ 6
    · rw [if_pos a2]
      by_cases a3 : T ≥ C
      · rw [if_pos a3]
        by_cases a4 : X ≥ T
        · rw [if_pos a4]
          by_cases a5 : X ≤ 48
          · rw [if_pos a5]
            by_cases b : 1 ≤ M ∧ M ≤ K ∧ K ≤ 6
            · rw [decide_eq_true b, if_pos rfl]
              by_cases c1 : E ≥ 0
              · rw [if_pos c1]
                by_cases c2 : E ≤ 8
                · rw [if_pos c2]
                  by_cases c3 : E = 0
                  · rw [if_pos c3]
                    by_cases c4 : T = X
                    · exact absurd ⟨a1, a2, a3, a4, a5, b, c1, c2, Or.inr c4⟩ h
                    · simp [c4]
                  · exact absurd ⟨a1, a2, a3, a4, a5, b, c1, c2, Or.inl (by omega)⟩ h
                · rw [if_neg c2]
              · rw [if_neg c1]
            · rw [decide_eq_false b, if_neg (by decide)]
          · rw [if_neg a5]
        · rw [if_neg a4]
      · rw [if_neg a3]
    · rw [if_neg a2]
  · rw [if_neg a1]
theorem rat_ok {C T X M K E p : Int} (f : Nat) (h : okS C T X M K E) (h1 : T ≤ p) (h2 : p ≤ X) : fuseeref06_At.f (f + 1) C T X M K E p = some (unitsOf C M K p) := by
  obtain ⟨m1, m2, m3, m4, _⟩ := units_nums h h1 h2
  have hk := h.2.2.2.2.2.1
  have hp : p ≤ 48 := by have := h.2.2.2.2.1; omega
  have hp0 : 1 ≤ p := by have := h.1; have := h.2.2.1; omega
  unfold fuseeref06_At.f
  rw [rmay05_ok h]
  simp only [Option.bind_some, if_true]
  rw [if_neg (by omega), decide_eq_false (show ¬ p > X by omega), fuseeref06_At.j0, if_neg (by decide), w64 (x := K * p) (by omega) (by omega), if_neg (by omega), w64 (x := C * M) (by omega) (by omega), w64 (x := C * M * 1048576) (by omega) (by omega),
    Int.tdiv_eq_ediv_of_nonneg (by omega)]
  unfold unitsOf up
  generalize hx : C * M * 1048576 = x at *
  generalize hkp : K * p = k at *
  have e := Int.mul_ediv_add_emod x k
  have m0 := Int.emod_nonneg x (show k ≠ 0 by omega)
  have m1' := Int.emod_lt_of_pos x (show 0 < k by omega)
  have q0 : 0 ≤ x / k := Int.ediv_nonneg (by omega) (by omega)
  have q1 : x / k ≤ x := Int.ediv_le_self k (by omega)
  have ep : x / k * K * p = x - x % k := by rw [Int.mul_assoc, hkp, Int.mul_comm]; omega
  have n1 := mulb (a := x / k) (b := K) (A := 37748736) (B := 6) q0 (by omega) (by omega) hk.2.2
  rw [w64 (x := x / k) (by omega) (by omega), w64 (x := x / k * K) (by omega) (by omega), ep, w64 (x := x - x % k) (by omega) (by omega), w64 (x := x / k + 1) (by omega) (by omega)]
  by_cases hr : x % k = 0
  · have : min (x % k) 1 = 0 := by omega
    rw [if_neg (by omega), this, Int.add_zero]
  · have : min (x % k) 1 = 1 := by omega
    rw [if_pos (by omega), this]
theorem rat_no {C T X M K E p : Int} (f : Nat) (h : ¬ (okS C T X M K E ∧ T ≤ p ∧ p ≤ X)) : fuseeref06_At.f (f + 1) C T X M K E p = some 0 := by
  unfold fuseeref06_At.f
  by_cases h0 : okS C T X M K E
  · rw [rmay05_ok h0]
    simp only [Option.bind_some, if_true]
    by_cases h1 : p < T
    · rw [if_pos h1, fuseeref06_At.j0, if_pos rfl]
    · rw [if_neg h1, decide_eq_true (show p > X by refine Int.not_le.1 fun h2 => h ⟨h0, by omega, h2⟩), fuseeref06_At.j0, if_pos rfl]
  · rw [rmay05_no h0]
    simp only [Option.bind_some]
    rw [if_neg (by decide), fuseeref06_At.j0, if_pos rfl]
theorem rat_eq (f : Nat) (C T X M K E p : Int) : fuseeref06_At.f (f + 1) C T X M K E p = units_At.f C T X M K E p := by
  by_cases h : okS C T X M K E ∧ T ≤ p ∧ p ≤ X
  · rw [rat_ok f h.1 h.2.1 h.2.2, at_ok h.1 h.2.1 h.2.2]
  · rw [rat_no f h, at_no h]
/-! ## SpringRef -/
theorem rmayP_eq (l : List Spr) (hl : l.length ≤ 1000) {k : Nat} (hk : l.length < k) : fuseeref07_May.f k l = some (decide (mayP l)) := by
  unfold fuseeref07_May.f
  have loop : ∀ (d i k : Nat), i + d = l.length → d < k → (∀ s ∈ l.take i, okP s) → fuseeref07_May.l0 k l (i : Int) = some (decide (mayP l)) := by
    intro d
    induction d with
    | zero =>
      intro i k hi hk hall
      obtain ⟨k, rfl⟩ : ∃ x, k = x + 1 := ⟨k - 1, by omega⟩
      rw [List.take_of_length_le (by omega)] at hall
      rw [fuseeref07_May.l0, if_neg (by omega)]
      congr 1
      rw [decide_eq_decide]
      exact ⟨fun q => ⟨hall, by omega⟩, fun q => by have := q.2; omega⟩
    | succ d ih =>
      intro i k hi hk hall
      obtain ⟨k, rfl⟩ : ∃ x, k = x + 1 := ⟨k - 1, by omega⟩
      have hlt : i < l.length := by omega
      have hm := List.getElem_mem hlt
      rw [fuseeref07_May.l0, if_pos (by omega), if_pos (by omega), rd_spr hlt]
      by_cases o : okP l[i]
      · have ⟨o1, o2, o3, o4, o5⟩ := o
        rw [if_neg (by omega), if_neg (by omega), if_neg (by omega), if_neg (by omega), if_neg (by omega), w64 (by omega) (by omega), show ((i : Int) + 1) = ((i + 1 : Nat) : Int) by omega]
        refine ih (i + 1) k (by omega) (by omega) fun s hs => ?_
        rw [List.take_succ_eq_append_getElem hlt] at hs
        rcases List.mem_append.1 hs with h | h
        · exact hall s h
        · rw [List.mem_singleton.1 h]; exact o
      · rw [decide_eq_false (fun q : mayP l => o (q.1 _ hm))]
        by_cases c1 : l[i].f1 < 1
        · rw [if_pos c1]
        · rw [if_neg c1]
          by_cases c2 : l[i].f0 < l[i].f1
          · rw [if_pos c2]
          · rw [if_neg c2]
            by_cases c3 : l[i].f0 > 1048576
            · rw [if_pos c3]
            · rw [if_neg c3]
              by_cases c4 : l[i].f2 < 0
              · rw [if_pos c4]
              · rw [if_neg c4, if_pos (by refine Int.not_le.1 fun c5 => o ⟨by omega, by omega, by omega, by omega, c5⟩)]
  exact loop l.length 0 k (by omega) hk (by simp)
theorem rroomP_eq (l : List Spr) (load : Int) (hl : l.length ≤ 1000) {k : Nat} (hk : l.length < k) : fuseeref07_Room.f k l load = some (decide (roomP l load)) := by
  unfold fuseeref07_Room.f
  rw [rmayP_eq l hl hk, Option.bind_some]
  by_cases m : mayP l
  · rw [decide_eq_true m]
    have h4 := m.2
    have loop : ∀ (d i k : Nat) (x : Int), i + d = l.length → d < k → 0 ≤ x → x ≤ i * 1048576 → x + sumL (l.drop i) = sumL l → fuseeref07_Room.l0 k l load true x (i : Int) = some (decide (roomP l load)) := by
      intro d
      induction d with
      | zero =>
        intro i k x hi hk x0 x1 e
        obtain ⟨k, rfl⟩ : ∃ y, k = y + 1 := ⟨k - 1, by omega⟩
        rw [List.drop_of_length_le (by omega)] at e
        simp only [sumL, List.map_nil, List.sum_nil, Int.add_zero] at e
        have e' : x = sumL l := e
        rw [fuseeref07_Room.l0, if_neg (by omega), if_pos rfl, e']
        by_cases c1 : load ≥ 0
        · rw [if_pos c1]
          by_cases c2 : load ≤ 1099511627776
          · rw [if_pos c2]
            congr 1
            rw [decide_eq_decide]
            exact ⟨fun q => ⟨m, c1, c2, q⟩, fun q => q.2.2.2⟩
          · rw [if_neg c2, decide_eq_false (fun q => c2 q.2.2.1)]
        · rw [if_neg c1, decide_eq_false (fun q => c1 q.2.1)]
      | succ d ih =>
        intro i k x hi hk x0 x1 e
        obtain ⟨k, rfl⟩ : ∃ y, k = y + 1 := ⟨k - 1, by omega⟩
        have hlt : i < l.length := by omega
        have b := lst_bound (m.1 _ (List.getElem_mem hlt))
        have u := (m.1 _ (List.getElem_mem hlt)).2.2.1
        rw [List.drop_eq_getElem_cons hlt, sumL_cons] at e
        rw [fuseeref07_Room.l0, if_pos (by omega), if_pos (by omega), rd_spr hlt, rleast_eq, Option.bind_some, w64 (x := x + lst l[i]) (by omega) (by omega), w64 (by omega) (by omega), show ((i : Int) + 1) = ((i + 1 : Nat) : Int) by omega]
        exact ih (i + 1) k _ (by omega) (by omega) (by omega) (by omega) (by omega)
    exact loop l.length 0 k 0 (by omega) hk (by omega) (by omega) (by simp)
  · rw [decide_eq_false m, decide_eq_false (fun q => m q.1)]
    have loop : ∀ (d i k : Nat) (x : Int), i + d = l.length → d < k → fuseeref07_Room.l0 k l load false x (i : Int) = some false := by
      intro d
      induction d with
      | zero =>
        intro i k x hi hk
        obtain ⟨k, rfl⟩ : ∃ y, k = y + 1 := ⟨k - 1, by omega⟩
        rw [fuseeref07_Room.l0, if_neg (by omega), if_neg (by decide)]
      | succ d ih =>
        intro i k x hi hk
        obtain ⟨k, rfl⟩ : ∃ y, k = y + 1 := ⟨k - 1, by omega⟩
        have hlt : i < l.length := by omega
        rw [fuseeref07_Room.l0, if_pos (by omega), if_pos (by omega), rd_spr hlt, rleast_eq, Option.bind_some, w64 (x := (i : Int) + 1) (by omega) (by omega), show ((i : Int) + 1) = ((i + 1 : Nat) : Int) by omega]
        exact ih (i + 1) k _ (by omega) (by omega)
    exact loop l.length 0 k 0 (by omega) hk
theorem xOf_bound {a b : Int} (a0 : 0 ≤ a) (a1 : a ≤ 4194304) (b0 : 0 ≤ b) (b1 : b ≤ 32) {s : Spr} (o : okP s) : 0 ≤ xOf a b s ∧ xOf a b s ≤ 33554432 ∧ 0 ≤ a * s.f2 ∧ a * s.f2 ≤ 33554432 ∧ 0 ≤ b * s.f0 ∧ b * s.f0 ≤ 33554432 ∧ 0 ≤ b * lst s ∧ b * lst s ≤ 33554432 := by
  have b := lst_bound o
  obtain ⟨o1, o2, o3, o4, o5⟩ := o
  have m1 := mulb a0 a1 o4 o5
  have m2 := mulb b0 b1 (show 0 ≤ s.f0 by omega) o3
  have m3 := mulb b0 b1 (show 0 ≤ lst s by omega) (show lst s ≤ 1048576 by omega)
  unfold xOf
  omega
theorem total_eq {l : List Spr} (ho : ∀ s ∈ l, okP s) (h4 : l.length ≤ 4) {a b : Int} (a0 : 0 ≤ a) (a1 : a ≤ 4194304) (b0 : 0 ≤ b) (b1 : b ≤ 32) {k : Nat} (hk : l.length < k) : fuseeref07_total.f k l a b = some (gOf a b l) := by
  unfold fuseeref07_total.f
  have loop : ∀ (d i k : Nat) (x : Int), i + d = l.length → d < k → 0 ≤ x → x ≤ i * 33554432 → x + gOf a b (l.drop i) = gOf a b l → fuseeref07_total.l0 k l a b x (i : Int) = some (gOf a b l) := by
    intro d
    induction d with
    | zero =>
      intro i k x hi hk x0 x1 e
      obtain ⟨k, rfl⟩ : ∃ y, k = y + 1 := ⟨k - 1, by omega⟩
      rw [List.drop_of_length_le (by omega)] at e
      simp only [gOf, List.map_nil, List.sum_nil, Int.add_zero] at e
      rw [fuseeref07_total.l0, if_neg (by omega)]
      exact congrArg some e
    | succ d ih =>
      intro i k x hi hk x0 x1 e
      obtain ⟨k, rfl⟩ : ∃ y, k = y + 1 := ⟨k - 1, by omega⟩
      have hlt : i < l.length := by omega
      have ⟨q0, q1, q2, q3, q4, q5, q6, q7⟩ := xOf_bound a0 a1 b0 b1 (ho _ (List.getElem_mem hlt))
      rw [List.drop_eq_getElem_cons hlt, gOf_cons] at e
      have next := ih (i + 1) k (x + xOf a b l[i]) (by omega) (by omega) (by omega) (by omega) (by omega)
      rw [fuseeref07_total.l0, if_pos (by omega), if_pos (by omega), rd_spr hlt, rleast_eq, Option.bind_some, w64 (x := b * l[i].f0) (by omega) (by omega), w64 (x := a * l[i].f2) (by omega) (by omega), w64 (x := b * l[i].f0 - a * l[i].f2) (by omega) (by omega), w64 (x := b * lst l[i]) (by omega) (by omega), w64 (x := (i : Int) + 1) (by omega) (by omega), show ((i : Int) + 1) = ((i + 1 : Nat) : Int) by omega]
      by_cases c : b * l[i].f0 - a * l[i].f2 < b * lst l[i]
      · have ex : xOf a b l[i] = b * lst l[i] := by unfold xOf; omega
        rw [if_pos c, w64 (by omega) (by omega), ← ex]
        exact next
      · have ex : xOf a b l[i] = b * l[i].f0 - a * l[i].f2 := by unfold xOf; omega
        rw [if_neg c, w64 (by omega) (by omega), ← ex]
        exact next
  exact loop l.length 0 k 0 (by omega) hk (by omega) (by omega) (by simp)
/-- What those of a set, and the others, have together, and the E of those of the set. -/
def sA : Nat → List Spr → Int
  | _, [] => 0
  | n, s :: t => (if n % 2 = 1 then s.f0 else lst s) + sA (n / 2) t
def sE : Nat → List Spr → Int
  | _, [] => 0
  | n, s :: t => (if n % 2 = 1 then s.f2 else 0) + sE (n / 2) t
theorem set_bound : ∀ {l : List Spr} (n : Nat), (∀ s ∈ l, okP s) → 0 ≤ sA n l ∧ sA n l ≤ l.length * 1048576 ∧ 0 ≤ sE n l ∧ sE n l ≤ l.length * 8
  | [], _, _ => by simp [sA, sE]
  | s :: t, n, ho => by
    have o := ho s (List.mem_cons_self ..)
    have b := lst_bound o
    have r := set_bound (l := t) (n / 2) (fun y hy => ho y (List.mem_cons_of_mem _ hy))
    obtain ⟨o1, o2, o3, o4, o5⟩ := o
    simp only [sA, sE, List.length_cons]
    split <;> omega
theorem sE_zero : ∀ (l : List Spr), sE 0 l = 0
  | [] => rfl
  | s :: t => by simp only [sE]; rw [if_neg (by decide), show 0 / 2 = 0 from rfl, sE_zero t]; rfl
theorem set_loop {l : List Spr} (ho : ∀ s ∈ l, okP s) (h4 : l.length ≤ 4) {load X Y n : Int} : ∀ (d i k m : Nat) (A B : Int), i + d = l.length → d < k → m ≤ 1000 → -1099511627776 ≤ A → A ≤ i * 1048576 → 0 ≤ B → B ≤ i * 8 →
    ∃ m', fuseeref07_Force.l1 k l load X Y n A B (m : Int) (i : Int) = fuseeref07_Force.l1 (k - d) l load X Y n (A + sA m (l.drop i)) (B + sE m (l.drop i)) m' (l.length : Int) := by
  intro d
  induction d with
  | zero =>
    intro i k m A B hi hk _ _ _ _ _
    have ei : i = l.length := by omega
    subst ei
    rw [List.drop_of_length_le (by omega)]
    simp only [sA, sE, Int.add_zero, Nat.sub_zero]
    exact ⟨_, rfl⟩
  | succ d ih =>
    intro i k m A B hi hk hm A0 A1 B0 B1
    obtain ⟨k, rfl⟩ : ∃ y, k = y + 1 := ⟨k - 1, by omega⟩
    have hlt : i < l.length := by omega
    have o := ho _ (List.getElem_mem hlt)
    have b := lst_bound o
    obtain ⟨o1, o2, o3, o4, o5⟩ := o
    rw [List.drop_eq_getElem_cons hlt, fuseeref07_Force.l1, if_pos (by omega), show Int.tmod (m : Int) 2 = ((m % 2 : Nat) : Int) from rfl, show Int.tdiv (m : Int) 2 = ((m / 2 : Nat) : Int) from rfl, rd_spr hlt, rleast_eq, Option.bind_some, if_pos (show 0 ≤ (i : Int) by omega), if_pos (show 0 ≤ (i : Int) by omega), w64 (x := ((m / 2 : Nat) : Int)) (by omega) (by omega), w64 (x := (i : Int) + 1) (by omega) (by omega), show ((i : Int) + 1) = ((i + 1 : Nat) : Int) by omega]
    simp only [sA, sE]
    by_cases c : m % 2 = 1
    · rw [if_pos (by omega), if_pos c, if_pos c, w64 (x := A + l[i].f0) (by omega) (by omega), w64 (x := B + l[i].f2) (by omega) (by omega)]
      obtain ⟨m', e⟩ := ih (i + 1) k (m / 2) (A + l[i].f0) (B + l[i].f2) (by omega) (by omega) (by omega) (by omega) (by omega) (by omega) (by omega)
      refine ⟨m', e.trans ?_⟩
      rw [show k + 1 - (d + 1) = k - d by omega, Int.add_assoc, Int.add_assoc]
    · rw [if_neg (by omega), if_neg c, if_neg c, w64 (x := A + lst l[i]) (by omega) (by omega)]
      obtain ⟨m', e⟩ := ih (i + 1) k (m / 2) (A + lst l[i]) B (by omega) (by omega) (by omega) (by omega) (by omega) (by omega) (by omega)
      refine ⟨m', e.trans ?_⟩
      rw [show k + 1 - (d + 1) = k - d by omega, Int.add_assoc, Int.zero_add]
/-! ## SpringRef2 -/
/-- A set by which all have no more than the load. -/
def cand (l : List Spr) (load : Int) (n : Nat) : Prop := 1 ≤ sE n l ∧ load ≤ sA n l ∧ gOf (sA n l - load) (sE n l) l ≤ sE n l * load
def InvS (l : List Spr) (load : Int) (n : Nat) (X Y : Int) : Prop :=
  (X = 0 ∧ Y = 0 ∧ ∀ m, 1 ≤ m → m < n → ¬ cand l load m) ∨
  (1 ≤ Y ∧ Y ≤ 32 ∧ 0 ≤ X ∧ X ≤ 4194304 ∧ gOf X Y l ≤ Y * load ∧ ∀ m, 1 ≤ m → m < n → cand l load m → X * sE m l ≤ (sA m l - load) * Y)
theorem one_set {l : List Spr} (ho : ∀ s ∈ l, okP s) (h4 : l.length ≤ 4) {load : Int} (h0 : 0 ≤ load) (h1 : load ≤ 1099511627776) {n : Nat} (hn : 1 ≤ n) (hn2 : n < 16) {X Y : Int} (hi : InvS l load n X Y) {k : Nat} (hk : 100 ≤ k) :
    ∃ X' Y', fuseeref07_Force.l0 (k + l.length + 3) l load X Y (n : Int) = fuseeref07_Force.l0 k l load X' Y' ((n + 1 : Nat) : Int) ∧ InvS l load (n + 1) X' Y' := by
  have sb := set_bound (l := l) n ho
  have more : ∀ {P : Nat → Prop}, (∀ m, 1 ≤ m → m < n → P m) → P n → ∀ m, 1 ≤ m → m < n + 1 → P m := by
    intro P h1 h2 m hm hm2
    by_cases c : m = n
    · rw [c]; exact h2
    · exact h1 m hm (by omega)
  obtain ⟨m', e⟩ := set_loop ho h4 (load := load) (X := X) (Y := Y) (n := (n : Int)) l.length 0 (k + l.length + 2) n (-load) 0 (by omega) (by omega) (by omega) (by omega) (by omega) (by omega) (by omega)
  rw [List.drop_zero, show k + l.length + 2 - l.length = k + 1 + 1 by omega, Int.zero_add] at e
  have ea : -load + sA n l = sA n l - load := by omega
  rw [ea] at e
  have e1 : fuseeref07_Force.l0 (k + l.length + 3) l load X Y (n : Int) = fuseeref07_Force.l1 (k + 1 + 1) l load X Y (n : Int) (sA n l - load) (sE n l) m' (l.length : Int) := by
    rw [show k + l.length + 3 = (k + l.length + 2) + 1 by omega, fuseeref07_Force.l0, if_pos (by omega), w64 (x := -load) (by omega) (by omega)]
    exact e
  rw [e1, fuseeref07_Force.l1, if_neg (by omega)]
  have hw : wrap64 ((n : Int) + 1) = ((n + 1 : Nat) : Int) := w64 (by omega) (by omega)
  have keep : ¬ cand l load n → InvS l load (n + 1) X Y := by
    intro hc
    rcases hi with ⟨a, b, c⟩ | ⟨a, b, c, d, g, f⟩
    · exact Or.inl ⟨a, b, more c hc⟩
    · exact Or.inr ⟨a, b, c, d, g, more f (fun q => absurd q hc)⟩
  by_cases c1 : sE n l = 0
  · refine ⟨X, Y, ?_, keep (fun q => by have := q.1; omega)⟩
    rw [if_pos c1, fuseeref07_Force.j2, if_pos rfl, hw]
  rw [if_neg c1]
  by_cases c2 : sA n l - load < 0
  · refine ⟨X, Y, ?_, keep (fun q => by have := q.2.1; omega)⟩
    rw [if_pos c2, fuseeref07_Force.j2, if_pos rfl, hw]
  rw [if_neg c2, total_eq ho h4 (by omega) (by omega) (by omega) (by omega) (by omega), Option.bind_some]
  have mb := mulb (a := sE n l) (b := load) (by omega) (show sE n l ≤ 32 by omega) h0 h1
  rw [w64 (x := sE n l * load) (by omega) (by omega)]
  by_cases c3 : gOf (sA n l - load) (sE n l) l > sE n l * load
  · refine ⟨X, Y, ?_, keep (fun q => by have := q.2.2; omega)⟩
    rw [decide_eq_true c3, fuseeref07_Force.j2, if_pos rfl, hw]
  rw [decide_eq_false c3, fuseeref07_Force.j2, if_neg (by decide)]
  have hc : cand l load n := ⟨by omega, by omega, by omega⟩
  by_cases c4 : Y = 0
  · refine ⟨sA n l - load, sE n l, ?_, ?_⟩
    · rw [if_pos c4, hw]
    · refine Or.inr ⟨by omega, by omega, by omega, by omega, by omega, ?_⟩
      rcases hi with ⟨a, b, c⟩ | ⟨a, _⟩
      · exact more (fun m hm hm2 q => absurd q (c m hm hm2)) (fun _ => Int.le_refl _)
      · omega
  · rw [if_neg c4]
    rcases hi with ⟨_, b, _⟩ | ⟨y1, y2, x1, x2, g, f⟩
    · exact absurd b c4
    · have p1 := mulb (a := sA n l - load) (b := Y) (by omega) (show sA n l - load ≤ 4194304 by omega) (by omega) y2
      have p2 := mulb (a := X) (b := sE n l) (by omega) x2 (by omega) (show sE n l ≤ 32 by omega)
      rw [w64 (x := (sA n l - load) * Y) (by omega) (by omega), w64 (x := X * sE n l) (by omega) (by omega), hw]
      by_cases c5 : (sA n l - load) * Y < X * sE n l
      · refine ⟨sA n l - load, sE n l, by rw [if_pos c5], Or.inr ⟨by omega, by omega, by omega, by omega, by omega, more (fun m hm hm2 q => ?_) (fun _ => Int.le_refl _)⟩⟩
        have r := f m hm hm2 q
        have q1 := q.1
        have q2 := q.2.1
        have r1 : X * sE m l * sE n l ≤ (sA m l - load) * Y * sE n l := Int.mul_le_mul_of_nonneg_right r (by omega)
        have r2 : (sA n l - load) * Y * sE m l ≤ X * sE n l * sE m l := Int.mul_le_mul_of_nonneg_right (by omega) (by omega)
        have r3 : X * sE n l * sE m l = X * sE m l * sE n l := by ac_rfl
        have r4 : (sA n l - load) * sE m l * Y ≤ (sA m l - load) * sE n l * Y := by
          have w1 : (sA n l - load) * sE m l * Y = (sA n l - load) * Y * sE m l := by ac_rfl
          have w2 : (sA m l - load) * sE n l * Y = (sA m l - load) * Y * sE n l := by ac_rfl
          omega
        exact Int.le_of_mul_le_mul_right r4 (by omega)
      · refine ⟨X, Y, by rw [if_neg c5], Or.inr ⟨y1, y2, x1, x2, g, more f (fun _ => by omega)⟩⟩
theorem all_sets {l : List Spr} (ho : ∀ s ∈ l, okP s) (h4 : l.length ≤ 4) {load : Int} (h0 : 0 ≤ load) (h1 : load ≤ 1099511627776) : ∀ (d n k : Nat) (X Y : Int), n + d = 16 → 1 ≤ n → 100 ≤ k → InvS l load n X Y →
    ∃ X' Y', fuseeref07_Force.l0 (k + 1 + d * (l.length + 3)) l load X Y (n : Int) = fuseeref07_Force.l2 k X' Y' 2 ∧ InvS l load 16 X' Y' := by
  intro d
  induction d with
  | zero =>
    intro n k X Y hn _ hk hi
    have en : n = 16 := by omega
    subst en
    refine ⟨X, Y, ?_, hi⟩
    rw [show k + 1 + 0 * (l.length + 3) = k + 1 by omega, fuseeref07_Force.l0, if_neg (by omega)]
  | succ d ih =>
    intro n k X Y hn hn1 hk hi
    have ef : k + 1 + (d + 1) * (l.length + 3) = (k + 1 + d * (l.length + 3)) + l.length + 3 := by rw [Nat.add_mul]; omega
    obtain ⟨X1, Y1, e1, i1⟩ := one_set ho h4 h0 h1 hn1 (by omega) hi (k := k + 1 + d * (l.length + 3)) (by omega)
    obtain ⟨X2, Y2, e2, i2⟩ := ih (n + 1) k X1 Y1 (by omega) (by omega) hk i1
    exact ⟨X2, Y2, by rw [ef, e1, e2], i2⟩
theorem lower : ∀ (k : Nat) (A B n : Int), 2 ≤ n → n ≤ 32 → 0 ≤ A → A ≤ 4194304 → 1 ≤ B → B ≤ 32 → 2 * (33 - n) + B ≤ k → (∀ m, 2 ≤ m → m < n → ¬ (m ∣ A ∧ m ∣ B)) →
    ∃ A' B' c, fuseeref07_Force.l3 k A B n = some (A', B', true) ∧ A = A' * c ∧ B = B' * c ∧ 1 ≤ c ∧ 0 ≤ A' ∧ 1 ≤ B' ∧ B' ≤ 32 ∧ ∀ m, 2 ≤ m → m ≤ 32 → ¬ (m ∣ A' ∧ m ∣ B') := by
  intro k
  induction k using Nat.strongRecOn with
  | ind k ih =>
    intro A B n hn hn2 A0 A1 B0 B1 hk hm
    obtain ⟨k, rfl⟩ : ∃ y, k = y + 1 := ⟨k - 1, by omega⟩
    have next : ¬ (n ∣ A ∧ n ∣ B) → ∃ A' B' c, fuseeref07_Force.l2 k A B (wrap64 (n + 1)) = some (A', B', true) ∧ A = A' * c ∧ B = B' * c ∧ 1 ≤ c ∧ 0 ≤ A' ∧ 1 ≤ B' ∧ B' ≤ 32 ∧ ∀ m, 2 ≤ m → m ≤ 32 → ¬ (m ∣ A' ∧ m ∣ B') := by
      intro hd
      have hm' : ∀ m, 2 ≤ m → m < n + 1 → ¬ (m ∣ A ∧ m ∣ B) := fun m h1 h2 => by
        by_cases c : m = n
        · rw [c]; exact hd
        · exact hm m h1 (by omega)
      obtain ⟨k, rfl⟩ : ∃ y, k = y + 1 := ⟨k - 1, by omega⟩
      rw [w64 (x := n + 1) (by omega) (by omega), fuseeref07_Force.l2]
      by_cases c : n + 1 ≤ 32
      · rw [if_pos c]
        exact ih k (by omega) A B (n + 1) (by omega) c A0 A1 B0 B1 (by omega) hm'
      · rw [if_neg c]
        exact ⟨A, B, 1, rfl, by omega, by omega, by omega, A0, B0, B1, fun m h1 h2 => hm' m h1 (by omega)⟩
    rw [fuseeref07_Force.l3, if_neg (by omega), Int.tmod_eq_emod_of_nonneg (by omega), Int.tmod_eq_emod_of_nonneg A0, Int.tdiv_eq_ediv_of_nonneg A0, Int.tdiv_eq_ediv_of_nonneg (by omega)]
    by_cases c1 : B % n = 0
    · rw [if_pos c1]
      by_cases c2 : A % n = 0
      · rw [if_pos c2]
        obtain ⟨a, rfl⟩ := Int.dvd_of_emod_eq_zero c2
        obtain ⟨b, rfl⟩ := Int.dvd_of_emod_eq_zero c1
        have n0 : n ≠ 0 := by omega
        rw [Int.mul_ediv_cancel_left _ n0, Int.mul_ediv_cancel_left _ n0]
        have a0 : 0 ≤ a := Int.le_of_mul_le_mul_left (show n * 0 ≤ n * a by omega) (by omega)
        have b0 : 0 < b := Int.lt_of_mul_lt_mul_left (show n * 0 < n * b by omega) (by omega)
        have ga : 2 * a ≤ n * a := Int.mul_le_mul_of_nonneg_right hn a0
        have gb : 2 * b ≤ n * b := Int.mul_le_mul_of_nonneg_right hn (by omega)
        rw [w64 (x := a) (by omega) (by omega), w64 (x := b) (by omega) (by omega)]
        obtain ⟨A', B', c, e, e1, e2, e3, e4, e5, e6, e7⟩ := ih k (by omega) a b n hn hn2 a0 (by omega) (by omega) (by omega) (by omega) (fun m h1 h2 q => hm m h1 h2 ⟨Int.dvd_trans q.1 (Int.dvd_mul_left ..), Int.dvd_trans q.2 (Int.dvd_mul_left ..)⟩)
        refine ⟨A', B', c * n, e, by rw [e1]; ac_rfl, by rw [e2]; ac_rfl, ?_, e4, e5, e6, e7⟩
        have : 1 * 1 ≤ c * n := Int.mul_le_mul e3 (by omega) (by omega) (by omega)
        omega
      · rw [if_neg c2]
        exact next (fun q => c2 (Int.emod_eq_zero_of_dvd q.1))
    · rw [if_neg c1]
      exact next (fun q => c1 (Int.emod_eq_zero_of_dvd q.2))
/-! ## SpringRef3 -/
theorem set_even (m : Nat) (s : Spr) (t : List Spr) : sA (2 * m) (s :: t) = lst s + sA m t ∧ sE (2 * m) (s :: t) = sE m t := by
  simp only [sA, sE]
  rw [if_neg (by omega), if_neg (by omega), show 2 * m / 2 = m by omega, Int.zero_add]
  exact ⟨rfl, rfl⟩
theorem set_odd (m : Nat) (s : Spr) (t : List Spr) : sA (2 * m + 1) (s :: t) = s.f0 + sA m t ∧ sE (2 * m + 1) (s :: t) = s.f2 + sE m t := by
  simp only [sA, sE]
  rw [if_pos (by omega), if_pos (by omega), show (2 * m + 1) / 2 = m by omega]
  exact ⟨rfl, rfl⟩
/-- Those that are not at their least by the force are such a set. -/
theorem true_set {a b : Int} (a0 : 0 ≤ a) (hb : 1 ≤ b) : ∀ {l : List Spr}, (∀ s ∈ l, okP s) → ∃ m, m < 2 ^ l.length ∧ gOf a b l = b * sA m l - a * sE m l ∧ ((∃ s ∈ l, 0 < s.f2 ∧ a * s.f2 ≤ b * (s.f0 - s.f1)) → 1 ≤ sE m l)
  | [], _ => ⟨0, by simp, by simp [gOf, sA, sE], fun h => by obtain ⟨s, hs, _⟩ := h; simp at hs⟩
  | s :: t, ho => by
    have o := ho s (List.mem_cons_self ..)
    have hot := fun y hy => ho y (List.mem_cons_of_mem s hy)
    obtain ⟨m, h1, h2, h3⟩ := true_set a0 hb (l := t) hot
    have sb := set_bound (l := t) m hot
    have ⟨o1, o2, o3, o4, o5⟩ := o
    have pw : 2 ^ (s :: t).length = 2 * 2 ^ t.length := by rw [List.length_cons, Nat.pow_succ]; omega
    by_cases c : 0 < s.f2 ∧ a * s.f2 ≤ b * (s.f0 - s.f1)
    · have e := set_odd m s t
      have hl : lst s = s.f1 := by unfold lst; rw [if_neg (by omega)]
      have e3 : b * (s.f0 - s.f1) = b * s.f0 - b * s.f1 := Int.mul_sub ..
      have ex : xOf a b s = b * s.f0 - a * s.f2 := by unfold xOf; rw [hl]; exact Int.max_eq_left (by omega)
      refine ⟨2 * m + 1, by omega, ?_, fun _ => by omega⟩
      rw [gOf_cons, ex, h2, e.1, e.2, Int.mul_add, Int.mul_add]
      omega
    · have e := set_even m s t
      have ex : xOf a b s = b * lst s := by
        unfold xOf
        refine Int.max_eq_right ?_
        by_cases c0 : s.f2 = 0
        · unfold lst
          rw [if_pos c0, c0]
          omega
        · have c2 : ¬ a * s.f2 ≤ b * (s.f0 - s.f1) := fun q => c ⟨by omega, q⟩
          have e3 : b * (s.f0 - s.f1) = b * s.f0 - b * s.f1 := Int.mul_sub ..
          unfold lst
          rw [if_neg c0]
          omega
      refine ⟨2 * m, by omega, ?_, fun h => ?_⟩
      · rw [gOf_cons, ex, h2, e.1, e.2, Int.mul_add]
        omega
      · rw [e.2]
        refine h3 ?_
        obtain ⟨y, hy, y1, y2⟩ := h
        rcases List.mem_cons.1 hy with rfl | hy
        · exact absurd ⟨y1, y2⟩ c
        · exact ⟨y, hy, y1, y2⟩
theorem gcd_one {A B : Int} (h0 : 0 ≤ A) (h1 : 1 ≤ B) (h2 : B ≤ 32) (h : ∀ m, 2 ≤ m → m ≤ 32 → ¬ (m ∣ A ∧ m ∣ B)) : Nat.gcd A.toNat B.toNat = 1 := by
  obtain ⟨p, rfl⟩ : ∃ p : Nat, A = p := ⟨A.toNat, by omega⟩
  obtain ⟨q, rfl⟩ : ∃ p : Nat, B = p := ⟨B.toNat, by omega⟩
  rw [Int.toNat_natCast, Int.toNat_natCast]
  have d1 := Nat.gcd_dvd_left p q
  have d2 := Nat.gcd_dvd_right p q
  have g1 : 0 < Nat.gcd p q := Nat.gcd_pos_of_pos_right _ (by omega)
  have g2 : Nat.gcd p q ≤ q := Nat.le_of_dvd (by omega) d2
  by_cases c : Nat.gcd p q = 1
  · exact c
  · exact absurd ⟨Int.natCast_dvd_natCast.2 d1, Int.natCast_dvd_natCast.2 d2⟩ (h ((Nat.gcd p q : Nat) : Int) (by omega) (by omega))
theorem rforce_eq (l : List Spr) (load : Int) (hl : l.length ≤ 1000) {k : Nat} (hk : l.length + 1500 ≤ k) : fuseeref07_Force.f k l load = spring_Force.f k l load := by
  unfold fuseeref07_Force.f
  rw [rroomP_eq l load hl (by omega), Option.bind_some]
  by_cases h : roomP l load
  · obtain ⟨a, b, hf, hi⟩ := force_ok h (k := k) (by omega)
    have ho := h.1.1
    have h4 := h.1.2
    have h0 := h.2.1
    have h1 := h.2.2.1
    have gz := gOf_zero ho
    rw [decide_eq_true h, if_pos rfl, hf, total_eq ho h4 (by omega) (by omega) (by omega) (by omega) (by omega), Option.bind_some, gz]
    by_cases hu : sumU l ≤ load
    · obtain ⟨rfl, rfl⟩ := isForce_full ho hi hu
      rw [if_pos hu]
    · rw [if_neg hu]
      obtain ⟨a0, a1, b0, b1, g, hh⟩ := hi
      rcases hh with ⟨_, q⟩ | ⟨ap, gl, un⟩
      · exact absurd q hu
      · obtain ⟨X, Y, e, inv⟩ := all_sets ho h4 h0 h1 15 1 (k - 1 - 15 * (l.length + 3)) 0 0 (by omega) (by omega) (by omega) (Or.inl ⟨rfl, rfl, fun m _ _ => by omega⟩)
        rw [show k - 1 - 15 * (l.length + 3) + 1 + 15 * (l.length + 3) = k by omega] at e
        rw [show (1 : Int) = ((1 : Nat) : Int) from rfl, e]
        obtain ⟨m, m1, m2, m3⟩ := true_set a0 b0 ho
        have sb := set_bound (l := l) m ho
        have se := m3 un
        have m16 : m < 16 := Nat.lt_of_lt_of_le m1 (Nat.pow_le_pow_right (by omega) h4)
        have mz : 1 ≤ m := by
          rcases Nat.eq_zero_or_pos m with z | z
          · rw [z, sE_zero] at se; omega
          · exact z
        have eqn : b * (sA m l - load) = a * sE m l := by rw [Int.mul_sub]; omega
        have ase : 1 * 1 ≤ a * sE m l := Int.mul_le_mul (by omega) se (by omega) (by omega)
        have apos : 0 < sA m l - load := Int.lt_of_mul_lt_mul_left (show b * 0 < b * (sA m l - load) by omega) (by omega)
        have eqn2 : (sA m l - load) * b = a * sE m l := by rw [Int.mul_comm]; exact eqn
        have cm : cand l load m := by
          refine ⟨se, by omega, ?_⟩
          have ga := gOf_anti (a := a) (b := b) (a' := sA m l - load) (b' := sE m l) b0 se (by omega) ho
          rw [gl] at ga
          have ga2 : b * gOf (sA m l - load) (sE m l) l ≤ b * (sE m l * load) := by
            have : sE m l * (b * load) = b * (sE m l * load) := Int.mul_left_comm ..
            omega
          exact Int.le_of_mul_le_mul_left ga2 (by omega)
        rcases inv with ⟨_, _, no⟩ | ⟨y1, y2, x1, x2, gx, all⟩
        · exact absurd cm (no m mz m16)
        · have r := all m mz m16 cm
          have le1 : X * b ≤ a * Y := by
            have r1 : X * sE m l * b ≤ (sA m l - load) * Y * b := Int.mul_le_mul_of_nonneg_right r (by omega)
            have r2 : (sA m l - load) * Y * b = a * sE m l * Y := by rw [← eqn2]; ac_rfl
            have r3 : X * b * sE m l ≤ a * Y * sE m l := by
              have w1 : X * b * sE m l = X * sE m l * b := by ac_rfl
              have w2 : a * Y * sE m l = a * sE m l * Y := by ac_rfl
              omega
            exact Int.le_of_mul_le_mul_right r3 (by omega)
          have le2 : a * Y ≤ X * b := by
            refine Int.not_lt.1 fun hlt => ?_
            have t1 := gOf_less (a := X) (b := Y) (a' := a) (b' := b) y1 b0 hlt ho un
            rw [gl] at t1
            have t2 : b * gOf X Y l ≤ b * (Y * load) := Int.mul_le_mul_of_nonneg_left gx (by omega)
            have t3 : Y * (b * load) = b * (Y * load) := Int.mul_left_comm ..
            omega
          obtain ⟨j, ej⟩ : ∃ j, k - 1 - 15 * (l.length + 3) = j + 1 := ⟨k - 1 - 15 * (l.length + 3) - 1, by omega⟩
          rw [ej, fuseeref07_Force.l2, if_pos (by omega)]
          obtain ⟨A', B', c, e1, e2, e3, e4, e5, e6, e7, e8⟩ := lower j X Y 2 (by omega) (by omega) x1 x2 y1 y2 (by omega) (fun m h1 h2 => by omega)
          have cr : A' * b = a * B' := by
            have q : A' * b * c = a * B' * c := by
              have w1 : X * b = A' * b * c := by rw [e2]; ac_rfl
              have w2 : a * Y = a * B' * c := by rw [e3]; ac_rfl
              omega
            exact Int.eq_of_mul_eq_mul_right (by omega) q
          obtain ⟨rfl, rfl⟩ := lowest e5 a0 e6 b0 (gcd_one e5 e6 e7 e8) g cr
          exact e1
  · rw [decide_eq_false h, if_neg (by decide), force_no h (by omega)]
theorem rpress_eq (l : List Spr) (load : Int) (hl : l.length ≤ 1000) {k : Nat} (hk : l.length + 1500 ≤ k) : fuseeref07_Press.f k l load = spring_Press.f k l load := by
  unfold fuseeref07_Press.f
  rw [rforce_eq l load hl hk]
  by_cases h : roomP l load
  · obtain ⟨a, b, hi, hf, hp⟩ := press_ok h (k := k) (by omega)
    have ho := h.1.1
    have h4 := h.1.2
    have ⟨a0, a1, b0, b1, _⟩ := hi
    rw [hf, hp, Option.bind_some, if_pos rfl]
    have loop : ∀ (d i k : Nat), i + d = l.length → d < k → fuseeref07_Press.l0 k l a b ((l.take i).map (prs a b)) (i : Int) = some (l.map (prs a b), true) := by
      intro d
      induction d with
      | zero =>
        intro i k hi' hk
        obtain ⟨k, rfl⟩ : ∃ y, k = y + 1 := ⟨k - 1, by omega⟩
        rw [fuseeref07_Press.l0, if_neg (by omega), List.take_of_length_le (by omega)]
      | succ d ih =>
        intro i k hi' hk
        obtain ⟨k, rfl⟩ : ∃ y, k = y + 1 := ⟨k - 1, by omega⟩
        have hlt : i < l.length := by omega
        have o := ho _ (List.getElem_mem hlt)
        have ⟨q0, q1, q2, q3, q4, q5, q6, q7⟩ := xOf_bound a0 a1 (by omega) b1 o
        have p := prs_spec a0 b0 o
        have pl := lst_bound o
        have ou := o.2.2.1
        have next := ih (i + 1) k (by omega) (by omega)
        have step : (l.take i).map (prs a b) ++ [prs a b l[i]] = (l.take (i + 1)).map (prs a b) := by rw [List.take_succ_eq_append_getElem hlt, List.map_append]; rfl
        have quo : Int.tdiv (xOf a b l[i]) b = prs a b l[i] := by
          rw [Int.tdiv_eq_ediv_of_nonneg q0]
          have g1 : prs a b l[i] ≤ xOf a b l[i] / b := (Int.le_ediv_iff_mul_le (by omega)).2 (by rw [Int.mul_comm]; exact p.1)
          have g2 : xOf a b l[i] / b < prs a b l[i] + 1 := (Int.ediv_lt_iff_lt_mul (by omega)).2 (by rw [Int.add_mul, Int.mul_comm (prs a b l[i]) b]; omega)
          omega
        rw [fuseeref07_Press.l0, if_pos (by omega), if_pos (by omega), rd_spr hlt, rleast_eq, Option.bind_some, w64 (x := b * l[i].f0) (by omega) (by omega), w64 (x := a * l[i].f2) (by omega) (by omega), w64 (x := b * l[i].f0 - a * l[i].f2) (by omega) (by omega), w64 (x := b * lst l[i]) (by omega) (by omega), w64 (x := (i : Int) + 1) (by omega) (by omega), show ((i : Int) + 1) = ((i + 1 : Nat) : Int) by omega]
        by_cases c : b * l[i].f0 - a * l[i].f2 < b * lst l[i]
        · have ex : b * lst l[i] = xOf a b l[i] := by unfold xOf; omega
          rw [if_pos c, if_neg (by omega), if_pos (by simp; omega), ex, quo, w64 (by omega) (by omega), step]
          exact next
        · have ex : b * l[i].f0 - a * l[i].f2 = xOf a b l[i] := by unfold xOf; omega
          rw [if_neg c, if_neg (by omega), if_pos (by simp; omega), ex, quo, w64 (by omega) (by omega), step]
          exact next
    exact loop l.length 0 k (by omega) (by omega)
  · rw [press_no h (by omega), force_no h (by omega)]
    rfl
/-! ## DemandFst -/
/-- r is the first one, or 0, and there is none. -/
def fstF (l : List Fix) (r : Int) : Prop := (r = 0 ∧ ∀ n, 0 ≤ n → n < horF l → sumF l n ≤ n) ∨ (0 < r ∧ r < horF l ∧ r < sumF l r ∧ ∀ n, 0 ≤ n → n < r → sumF l n ≤ n)
theorem fstF_one {l : List Fix} {r s : Int} (h1 : fstF l r) (h2 : fstF l s) : r = s := by
  rcases h1 with ⟨a, b⟩ | ⟨a, b, c, d⟩
  · rcases h2 with ⟨a', b'⟩ | ⟨a', b', c', d'⟩
    · omega
    · have := b s (by omega) (by omega); omega
  · rcases h2 with ⟨a', b'⟩ | ⟨a', b', c', d'⟩
    · have := b' r (by omega) (by omega); omega
    · by_cases q : r < s
      · have := d' r (by omega) q; omega
      · by_cases q2 : s < r
        · have := d s (by omega) q2; omega
        · omega
theorem sumF_zero : ∀ (l : List Fix), sumF l 0 = 0
  | [] => rfl
  | x :: t => by
    rw [sumF_cons, sumF_zero t]
    by_cases o : okF x
    · have b := dem_bound o (n := 0) (by omega)
      rw [ofF_ok o (by omega) (by omega)]
      omega
    · rw [ofF_no o]; omega
theorem horF_may {l : List Fix} (h : 0 < horF l) : mayF l := by
  refine Classical.byContradiction fun q => ?_
  unfold horF at h
  rw [if_neg q] at h
  omega
/-- A test that passes: there is no first one. -/
theorem test_first {l : List Fix} (h : mayF l) {r : Int} (hr : fstF l r) : testB l = (r == 0) := by
  rw [Bool.eq_iff_iff, testB_iff, beq_iff_eq]
  constructor
  · rintro ⟨_, g⟩
    rcases hr with a | ⟨a, b, c, d⟩
    · exact a.1
    · have := horF_bound l
      have := g r (by omega) (by omega)
      omega
  · intro e
    refine ⟨h, fun n n0 n1 => ?_⟩
    rcases hr with ⟨_, b⟩ | ⟨a, _⟩
    · by_cases q : n < horF l
      · exact b n n0 q
      · exact beyond h (by omega) n1
    · omega
/-! ## DemandRef -/
theorem rmost_ok {m k q : Int} (f : Nat) (h1 : 1 ≤ m) (h2 : m ≤ k) (h3 : k ≤ 6) (h4 : 0 ≤ q) (h5 : q ≤ 1099511627776) : fuseeref02_Most.f (f + 1) m k q = some (up (q * m) k) := by
  have hq := mulb (a := q) (b := m) (A := 1099511627776) (B := 6) h4 h5 (by omega) (by omega)
  unfold fuseeref02_Most.f fuseeref02_May.f fuseeref02_in.f
  rw [if_pos h1, if_pos h2, decide_eq_true h3]
  simp only [Option.bind_some, if_true]
  rw [if_pos h4, decide_eq_true h5]
  simp only [Option.bind_some, Bool.not_true]
  rw [fuseeref02_Most.j0, if_neg (by decide), if_neg (by omega), w64 (x := q * m) (by omega) (by omega), Int.tdiv_eq_ediv_of_nonneg (by omega)]
  unfold up
  generalize q * m = x at *
  have e := Int.mul_ediv_add_emod x k
  have m0 := Int.emod_nonneg x (show k ≠ 0 by omega)
  have m1' := Int.emod_lt_of_pos x (show 0 < k by omega)
  have q0 : 0 ≤ x / k := Int.ediv_nonneg (by omega) (by omega)
  have q1 : x / k ≤ x := Int.ediv_le_self k (by omega)
  have ep : x / k * k = x - x % k := by rw [Int.mul_comm]; omega
  rw [w64 (x := x / k) (by omega) (by omega), ep, w64 (x := x - x % k) (by omega) (by omega), w64 (x := x / k + 1) (by omega) (by omega)]
  by_cases hr : x % k = 0
  · have : min (x % k) 1 = 0 := by omega
    rw [if_neg (by omega), this, Int.add_zero]
  · have : min (x % k) 1 = 1 := by omega
    rw [if_pos (by omega), this]
theorem rmay_fix (x : Fix) : fuseeref09_may.f x.f0.f0 x.f0.f1 x.f0.f2 x.f0.f3 x.f0.f4 x.f0.f5 x.f1 = some (decide (okF x)) := by
  unfold fuseeref09_may.f
  by_cases h0 : okS x.f0.f0 x.f0.f1 x.f0.f2 x.f0.f3 x.f0.f4 x.f0.f5
  · rw [rmay05_ok h0, Option.bind_some, if_pos rfl]
    by_cases h1 : x.f1 ≥ x.f0.f1
    · rw [if_pos h1]
      congr 1
      rw [decide_eq_decide]
      exact ⟨fun h => ⟨h0, h1, h⟩, fun h => h.2.2⟩
    · rw [if_neg h1, decide_eq_false (fun h => h1 h.2.1)]
  · rw [rmay05_no h0, Option.bind_some, if_neg (by decide), decide_eq_false (fun h => h0 h.1)]
theorem rof_fix (f : Nat) (x : Fix) (n : Int) : fuseeref09_Of.f (f + 1) x.f0.f0 x.f0.f1 x.f0.f2 x.f0.f3 x.f0.f4 x.f0.f5 x.f1 n = some (ofF x n) := by
  unfold fuseeref09_Of.f
  rw [rmay_fix, Option.bind_some]
  by_cases h : okF x
  · obtain ⟨a1, a2, a3, a4, a5, a6, a7⟩ := okF_nums h
    rw [decide_eq_true h, if_pos rfl]
    by_cases c1 : n < 0
    · rw [if_pos c1, ofF, if_neg (by omega)]
    rw [if_neg c1]
    by_cases c2 : n > 1099511627776
    · rw [if_pos c2, ofF, if_neg (by omega)]
    have b := dem_bound h (n := n) (by omega)
    rw [if_neg c2, if_neg (by omega), Int.tdiv_eq_ediv_of_nonneg (by omega), w64 (x := n / x.f1) (by omega) (by omega), rmost_ok f a5 a6 a7 b.2.2.1 (by omega), Option.bind_some, ofF, if_pos ⟨h, by omega, by omega⟩]
    congr 1
    exact w64 (by have := b.1; unfold dem at this; omega) (by have := b.2.1; unfold dem at this; omega)
  · rw [decide_eq_false h, if_neg (by decide), ofF, if_neg (fun q => h q.1)]
theorem rall_eq (l : List Fix) (n : Int) {k : Nat} (hk : l.length < k) : fuseeref09_All.f k l n = some (allF l n) := by
  unfold fuseeref09_All.f allF
  by_cases c : l.length ≤ 1000
  · rw [if_pos c]
    have loop : ∀ (d i k : Nat) (s : Int), i + d = l.length → d < k → 0 ≤ s → s ≤ i * 6597069766656 → fuseeref09_All.l0 k l n s (i : Int) = some (s + sumF (l.drop i) n) := by
      intro d
      induction d with
      | zero =>
        intro i k s hi hk h0 h1
        obtain ⟨k, rfl⟩ : ∃ x, k = x + 1 := ⟨k - 1, by omega⟩
        rw [fuseeref09_All.l0, if_neg (by omega), List.drop_of_length_le (by omega), sumF_nil, Int.add_zero]
      | succ d ih =>
        intro i k s hi hk h0 h1
        obtain ⟨k, rfl⟩ : ∃ x, k = x + 2 := ⟨k - 2, by omega⟩
        have hlt : i < l.length := by omega
        have b := ofF_bound l[i] n
        rw [fuseeref09_All.l0, if_pos (by omega), if_pos (by omega), if_pos (by omega), rd_fix hlt, rof_fix, Option.bind_some, w64 (x := s + ofF l[i] n) (by omega) (by omega), w64 (x := (i : Int) + 1) (by omega) (by omega),
          show ((i : Int) + 1) = ((i + 1 : Nat) : Int) by omega, ih (i + 1) (k + 1) _ (by omega) (by omega) (by omega) (by omega), List.drop_eq_getElem_cons hlt, sumF_cons, Int.add_assoc]
    have := loop l.length 0 k 0 (by omega) hk (by omega) (by omega)
    rw [List.drop_zero, Int.zero_add] at this
    exact this
  · rw [if_neg c]
    obtain ⟨k, rfl⟩ : ∃ x, k = x + 1 := ⟨k - 1, by omega⟩
    rw [fuseeref09_All.l0, if_pos (by omega), if_neg (by omega)]
theorem rmay_list (l : List Fix) (hl : l.length ≤ 1100) {k : Nat} (hk : l.length < k) : fuseeref09_May.f k l = some (decide (mayF l)) := by
  unfold fuseeref09_May.f
  have loop : ∀ (d i k : Nat) (s : Int), i + d = l.length → d < k → (∀ x ∈ l.take i, okF x) → 0 ≤ s → s ≤ i * 1048576 → s + ((l.drop i).map uF).sum = (l.map uF).sum → fuseeref09_May.l0 k l s (i : Int) = some (decide (mayF l)) := by
    intro d
    induction d with
    | zero =>
      intro i k s hi hk hall h0 h1 h2
      obtain ⟨k, rfl⟩ : ∃ x, k = x + 1 := ⟨k - 1, by omega⟩
      rw [List.take_of_length_le (by omega)] at hall
      rw [List.drop_of_length_le (by omega)] at h2
      simp only [List.map_nil, List.sum_nil, Int.add_zero] at h2
      rw [fuseeref09_May.l0, if_neg (by omega)]
      by_cases c : l.length ≤ 4
      · rw [if_pos (by omega)]
        congr 1
        rw [decide_eq_decide, h2]
        exact ⟨fun h => ⟨hall, c, h⟩, fun h => h.2.2⟩
      · rw [if_neg (by omega), decide_eq_false (fun q => c q.2.1)]
    | succ d ih =>
      intro i k s hi hk hall h0 h1 h2
      obtain ⟨k, rfl⟩ : ∃ x, k = x + 2 := ⟨k - 2, by omega⟩
      have hlt : i < l.length := by omega
      rw [fuseeref09_May.l0, if_pos (by omega), if_pos (by omega), rd_fix hlt, rmay_fix, Option.bind_some]
      by_cases o : okF l[i]
      · have u := unitsOf_spec o.1 o.2.1 o.2.2
        have ur : fuseeref06_At.f (k + 1) l[i].f0.f0 l[i].f0.f1 l[i].f0.f2 l[i].f0.f3 l[i].f0.f4 l[i].f0.f5 l[i].f1 = some (uF l[i]) := rat_ok k o.1 o.2.1 o.2.2
        have ub : 1 ≤ uF l[i] ∧ uF l[i] ≤ 1048576 := ⟨u.1, u.2.1⟩
        rw [List.drop_eq_getElem_cons hlt, List.map_cons, List.sum_cons] at h2
        rw [decide_eq_true o, if_pos rfl, ur, Option.bind_some, w64 (x := s + uF l[i]) (by omega) (by omega), w64 (x := (i : Int) + 1) (by omega) (by omega), show ((i : Int) + 1) = ((i + 1 : Nat) : Int) by omega]
        refine ih (i + 1) (k + 1) _ (by omega) (by omega) (fun x hx => ?_) (by omega) (by omega) (by omega)
        rw [List.take_succ_eq_append_getElem hlt] at hx
        rcases List.mem_append.1 hx with h | h
        · exact hall x h
        · rw [List.mem_singleton.1 h]; exact o
      · rw [decide_eq_false o, if_neg (by decide), decide_eq_false (fun q => o (q.1 _ (List.getElem_mem hlt)))]
  exact loop l.length 0 k 0 (by omega) hk (by simp) (by omega) (by omega) (by simp)
theorem rhor_eq (l : List Fix) (hl : l.length ≤ 1100) {k : Nat} (hk : l.length < k) : fuseeref09_Horizon.f k l = some (horF l) := by
  unfold fuseeref09_Horizon.f horF
  rw [rmay_list l hl hk, Option.bind_some]
  by_cases h : mayF l
  · rw [decide_eq_true h, if_pos rfl, if_pos h]
    have sb := sumC_bound h.1
    have h4 := h.2.1
    have loop : ∀ (d i k : Nat) (s : Int), i + d = l.length → d < k → 0 ≤ s → s + sumC (l.drop i) = sumC l → fuseeref09_Horizon.l0 k l s (i : Int) = some (16 * sumC l) := by
      intro d
      induction d with
      | zero =>
        intro i k s hi hk h0 h1
        obtain ⟨k, rfl⟩ : ∃ x, k = x + 1 := ⟨k - 1, by omega⟩
        rw [List.drop_of_length_le (by omega)] at h1
        have e : s = sumC l := by rw [← h1]; simp [sumC]
        rw [fuseeref09_Horizon.l0, if_neg (by omega), e, w64 (x := sumC l * 1048576) (by omega) (by omega), w64 (x := sumC l * 1048576 + 65535) (by omega) (by omega), Int.tdiv_eq_ediv_of_nonneg (by omega), w64 (by omega) (by omega)]
        congr 1
        omega
      | succ d ih =>
        intro i k s hi hk h0 h1
        obtain ⟨k, rfl⟩ : ∃ x, k = x + 1 := ⟨k - 1, by omega⟩
        have hlt : i < l.length := by omega
        rw [List.drop_eq_getElem_cons hlt, sumC_cons] at h1
        have n := okF_nums (h.1 _ (List.getElem_mem hlt))
        have sd := sumC_bound (l := l.drop (i + 1)) (fun y hy => h.1 y (List.mem_of_mem_drop hy))
        rw [fuseeref09_Horizon.l0, if_pos (by omega), if_pos (by omega), rd_fix hlt, w64 (x := s + l[i].f0.f0) (by omega) (by omega), w64 (x := (i : Int) + 1) (by omega) (by omega), show ((i : Int) + 1) = ((i + 1 : Nat) : Int) by omega]
        exact ih (i + 1) k _ (by omega) (by omega) (by omega) (by omega)
    exact loop l.length 0 k 0 (by omega) hk (by omega) (by rw [List.drop_zero, Int.zero_add])
  · rw [decide_eq_false h, if_neg (by decide), if_neg h]
theorem rfirst_eq (l : List Fix) (hl : l.length ≤ 1100) {k : Nat} (hk : l.length + 400 ≤ k) : ∃ r, fuseeref09_First.f k l = some r ∧ fstF l r := by
  unfold fuseeref09_First.f
  rw [rhor_eq l hl (by omega), Option.bind_some]
  have hb := horF_bound l
  have loop : ∀ (d k : Nat) (i : Int), (i + d = horF l ∨ d = 0 ∧ i = horF l + 1) → 1 ≤ i → l.length + d < k → (∀ n, 0 ≤ n → n < i → n < horF l → sumF l n ≤ n) → ∃ r, fuseeref09_First.l0 k l (horF l) i = some r ∧ fstF l r := by
    intro d
    induction d with
    | zero =>
      intro k i hi h0 hk hs
      obtain ⟨k, rfl⟩ : ∃ x, k = x + 1 := ⟨k - 1, by omega⟩
      exact ⟨0, by rw [fuseeref09_First.l0, if_neg (by omega)], .inl ⟨rfl, fun n n0 n1 => hs n n0 (by omega) n1⟩⟩
    | succ d ih =>
      intro k i hi h0 hk hs
      obtain ⟨k, rfl⟩ : ∃ x, k = x + 1 := ⟨k - 1, by omega⟩
      have hm := horF_may (l := l) (by omega)
      rw [fuseeref09_First.l0, if_pos (by omega), rall_eq l i (by omega), Option.bind_some, allF_may hm]
      by_cases c : sumF l i > i
      · exact ⟨i, by rw [if_pos c], .inr ⟨by omega, by omega, by omega, fun n n0 n1 => hs n n0 n1 (by omega)⟩⟩
      · rw [if_neg c, w64 (by omega) (by omega)]
        refine ih k (i + 1) (by omega) (by omega) (by omega) fun n n0 n1 n2 => ?_
        by_cases q : n = i
        · subst q; omega
        · exact hs n n0 (by omega) n2
  have z : ∀ n, 0 ≤ n → n < 1 → n < horF l → sumF l n ≤ n := fun n n0 n1 _ => by
    have e : n = 0 := by omega
    rw [e, sumF_zero]; omega
  by_cases q : horF l = 0
  · exact loop 0 k 1 (.inr ⟨rfl, by omega⟩) (by omega) (by omega) z
  · exact loop (horF l - 1).toNat k 1 (.inl (by omega)) (by omega) (by omega) z
theorem rtest_eq (l : List Fix) (hl : l.length ≤ 1100) {k : Nat} (hk : l.length + 400 ≤ k) : fuseeref09_Test.f k l = some (testB l) := by
  unfold fuseeref09_Test.f
  rw [rmay_list l hl (by omega), Option.bind_some]
  by_cases h : mayF l
  · obtain ⟨r, hr, hf⟩ := rfirst_eq l hl hk
    rw [decide_eq_true h, if_pos rfl, hr, Option.bind_some, test_first h hf]
  · rw [decide_eq_false h, if_neg (by decide)]
    congr 1
    symm
    rw [Bool.eq_false_iff]
    exact fun q => h (testB_iff.1 q).1
/-! ## ROf -/
theorem rof_loop {C T X M K E u : Int} (h : okS C T X M K E) (hu : 1 ≤ u) (hu2 : u ≤ 1048576) : ∀ (d f : Nat) (p : Int), p + d = 50 → d < f → T ≤ p → p ≤ max (leastP C M K u) T →
    fuseeref08_Of.l0 f u p C T X M K E = if leastP C M K u ≤ X then some (max (leastP C M K u) T, true) else some (0, false)
  | 0, f, p, hd, hf, h1, h2 => by
    have := h.2.2.2.2.1
    have := h.2.2.2.1
    obtain ⟨f, rfl⟩ : ∃ x, f = x + 1 := ⟨f - 1, by omega⟩
    rw [fuseeref08_Of.l0, if_neg (by omega), if_neg (by omega)]
  | d + 1, f, p, hd, hf, h1, h2 => by
    have ⟨a1, a2, a3, a4, a5, b, _⟩ := h
    obtain ⟨f, rfl⟩ : ∃ x, f = x + 1 := ⟨f - 1, by omega⟩
    obtain ⟨k1, k2, m1, m2, l1, l2⟩ := leastP_num h hu hu2
    have hm := mulb (a := u * K) (b := p) (A := 6291456) (B := 50) (by omega) k2 (by omega) (by omega)
    rw [fuseeref08_Of.l0]
    by_cases c : p ≤ X
    · have hle := at_le h h1 c hu
      have s := up_spec (x := C * M * 1048576) k1
      rw [if_pos c, w64 (x := C * M) (by omega) (by omega), w64 (x := C * M * 1048576) (by omega) (by omega), w64 (x := u * K) (by omega) (by omega), w64 (x := u * K * p) (by omega) (by omega)]
      by_cases c2 : C * M * 1048576 ≤ u * K * p
      · have hp : leastP C M K u ≤ p := up_le k1 (by rw [Int.mul_comm p]; exact c2)
        rw [if_pos c2, if_pos (by omega), show max (leastP C M K u) T = p by omega]
      · have hp : p < leastP C M K u := by
          refine Int.not_le.1 fun q => c2 ?_
          have := Int.mul_le_mul_of_nonneg_right q (show 0 ≤ u * K by omega)
          rw [Int.mul_comm p] at this
          exact Int.le_trans s.2 this
        rw [if_neg c2, w64 (by omega) (by omega)]
        exact rof_loop h hu hu2 d f (p + 1) (by omega) (by omega) (by omega) (by omega)
    · rw [if_neg c, if_neg (by omega)]
theorem rof_eq (C T X M K E u : Int) (f : Nat) : fuseeref08_Of.f (f + 100) C T X M K E u = period_Of.f (f + 100) C T X M K E u := by
  unfold fuseeref08_Of.f
  by_cases h : okS C T X M K E
  · rw [rmay05_ok h]
    simp only [Option.bind_some, if_true]
    by_cases c1 : u < 1
    · rw [if_pos c1, pof_bad (fun q => by omega) (f + 99), show f + 100 = f + 99 + 1 by omega, fuseeref08_Of.j0, if_pos rfl]
    · rw [if_neg c1]
      by_cases c2 : u > 1048576
      · rw [decide_eq_true c2, pof_bad (fun q => by omega) (f + 99), show f + 100 = f + 99 + 1 by omega, fuseeref08_Of.j0, if_pos rfl]
      · have ⟨a1, a2, a3, a4, a5, b, _⟩ := h
        rw [decide_eq_false c2, pof_eq h (by omega) (by omega) (f + 99), show f + 100 = f + 99 + 1 by omega, fuseeref08_Of.j0, if_neg (by decide)]
        exact rof_loop h (by omega) (by omega) (50 - T).toNat (f + 99) T (by omega) (by omega) (Int.le_refl _) (by omega)
  · rw [rmay05_no h, pof_bad (fun q => h q.1) (f + 99)]
    simp only [Option.bind_some]
    rw [if_neg (by decide), show f + 100 = f + 99 + 1 by omega, fuseeref08_Of.j0, if_pos rfl]
/-! ## PlanRef -/
theorem rtopS {s : Spec} (h : okT s) (f : Nat) : fuseeref06_Top.f (f + 1) s.f0 s.f1 s.f2 s.f3 s.f4 s.f5 = some (topS s) := by
  have h' : okS s.f0 s.f1 s.f2 s.f3 s.f4 s.f5 := h
  unfold fuseeref06_Top.f
  rw [rat_ok f h' (Int.le_refl _) h'.2.2.2.1]
  rfl
theorem rleastS {s : Spec} (h : okT s) (f : Nat) : fuseeref06_Least.f (f + 1) s.f0 s.f1 s.f2 s.f3 s.f4 s.f5 = some (leastS s) := by
  have h' : okS s.f0 s.f1 s.f2 s.f3 s.f4 s.f5 := h
  have hx := h'.2.2.2.1
  unfold fuseeref06_Least.f
  by_cases c : s.f5 = 0
  · rw [if_pos c, rat_ok f h' (Int.le_refl _) hx]
    obtain ⟨a1, a2, a3, a4, a5, a6, a7, a8, a9⟩ := h'
    have e : s.f1 = s.f2 := by omega
    unfold leastS
    rw [e]
    rfl
  · rw [if_neg c, rat_ok f h' hx (Int.le_refl _)]
    rfl
theorem rmay05 (s : Spec) : fuseeref05_May.f s.f0 s.f1 s.f2 s.f3 s.f4 s.f5 = some (decide (okT s)) := by
  by_cases h : okT s
  · rw [decide_eq_true h]; exact rmay05_ok h
  · rw [decide_eq_false h]; exact rmay05_no h
theorem rsprings_ok {l : List Spec} (h : mayT l) {k : Nat} (hk : 2 * l.length + 2 ≤ k) : fuseeref10_Springs.f k l = some (l.map sprOf, true) := by
  have h4 := h.2
  unfold fuseeref10_Springs.f
  have loop : ∀ (d i k : Nat), i + d = l.length → 2 * d + 2 ≤ k → fuseeref10_Springs.l0 k l ((l.take i).map sprOf) (i : Int) = some (l.map sprOf, true) := by
    intro d
    induction d with
    | zero =>
      intro i k hi hk
      obtain ⟨k, rfl⟩ : ∃ x, k = x + 1 := ⟨k - 1, by omega⟩
      rw [fuseeref10_Springs.l0, if_neg (by omega), List.take_of_length_le (by omega)]
    | succ d ih =>
      intro i k hi hk
      obtain ⟨k, rfl⟩ : ∃ x, k = x + 3 := ⟨k - 3, by omega⟩
      have hlt : i < l.length := by omega
      have o := h.1 _ (List.getElem_mem hlt)
      have step : (l.take i).map sprOf ++ [(⟨topS l[i], leastS l[i], l[i].f5⟩ : Spr)] = (l.take (i + 1)).map sprOf := by rw [List.take_succ_eq_append_getElem hlt, List.map_append]; rfl
      rw [fuseeref10_Springs.l0, if_pos (by omega), if_pos (by omega), rd_spec hlt, rmay05, Option.bind_some, decide_eq_true o, if_pos rfl, decide_eq_false (by omega), fuseeref10_Springs.j1, if_neg (by decide), if_pos (by omega), if_pos (by omega), rd_spec hlt, rtopS o, Option.bind_some, rleastS o, Option.bind_some, if_pos (by simp; omega), step, w64 (by omega) (by omega), show ((i : Int) + 1) = ((i + 1 : Nat) : Int) by omega]
      exact ih (i + 1) (k + 1) (by omega) (by omega)
  exact loop l.length 0 k (by omega) (by omega)
theorem rsprings_no {l : List Spec} (h : ¬ mayT l) (hl : l.length ≤ 1000) {k : Nat} (hk : 2 * l.length + 2 ≤ k) : fuseeref10_Springs.f k l = some ([], false) := by
  unfold fuseeref10_Springs.f
  have loop : ∀ (d i k : Nat), i + d = l.length → 2 * d + 2 ≤ k → (∀ s ∈ l.take i, okT s) → (i = 0 ∨ l.length ≤ 4) → fuseeref10_Springs.l0 k l ((l.take i).map sprOf) (i : Int) = some ([], false) := by
    intro d
    induction d with
    | zero =>
      intro i k hi hk ha hc
      rw [List.take_of_length_le (by omega)] at ha
      exact absurd ⟨ha, by omega⟩ h
    | succ d ih =>
      intro i k hi hk ha hc
      obtain ⟨k, rfl⟩ : ∃ x, k = x + 3 := ⟨k - 3, by omega⟩
      have hlt : i < l.length := by omega
      rw [fuseeref10_Springs.l0, if_pos (by omega), if_pos (by omega), rd_spec hlt, rmay05, Option.bind_some]
      by_cases o : okT l[i]
      · rw [decide_eq_true o, if_pos rfl]
        by_cases c : (l.length : Int) > 4
        · rw [decide_eq_true c, fuseeref10_Springs.j1, if_pos rfl]
        · have step : (l.take i).map sprOf ++ [(⟨topS l[i], leastS l[i], l[i].f5⟩ : Spr)] = (l.take (i + 1)).map sprOf := by rw [List.take_succ_eq_append_getElem hlt, List.map_append]; rfl
          rw [decide_eq_false c, fuseeref10_Springs.j1, if_neg (by decide), if_pos (by omega), if_pos (by omega), rd_spec hlt, rtopS o, Option.bind_some, rleastS o, Option.bind_some, if_pos (by simp; omega), step, w64 (by omega) (by omega), show ((i : Int) + 1) = ((i + 1 : Nat) : Int) by omega]
          refine ih (i + 1) (k + 1) (by omega) (by omega) (fun s hs => ?_) (Or.inr (by omega))
          rw [List.take_succ_eq_append_getElem hlt] at hs
          rcases List.mem_append.1 hs with q | q
          · exact ha s q
          · rw [List.mem_singleton.1 q]; exact o
      · rw [decide_eq_false o, if_neg (by decide), fuseeref10_Springs.j1, if_pos rfl]
  exact loop l.length 0 k (by omega) (by omega) (by simp) (Or.inl rfl)
theorem springs_same (l : List Spec) (hl : l.length ≤ 1000) {k : Nat} (hk : 2 * l.length + 2 ≤ k) : fuseeref10_Springs.f k l = plan_Springs.f k l := by
  by_cases h : mayT l
  · rw [rsprings_ok h hk, springs_ok h (by omega)]
  · rw [rsprings_no h hl hk, springs_no h (by omega)]
theorem rtarget_each {l : List Spec} (h : mayT l) {a b : Int} (h0 : 0 ≤ a) (hb : 1 ≤ b) : ∀ (d i k : Nat), i + d = l.length → d + 600 ≤ k → fuseeref10_Target.l0 k l ((l.map sprOf).map (prs a b)) ((l.take i).map (fixOf a b)) (i : Int) = some (if testB (l.map (fixOf a b)) = true then (l.map (fixOf a b), 0) else ([], 6)) := by
  have h4 := h.2
  intro d
  induction d with
  | zero =>
    intro i k hi hk
    obtain ⟨k, rfl⟩ : ∃ x, k = x + 1 := ⟨k - 1, by omega⟩
    rw [fuseeref10_Target.l0, if_neg (by omega), List.take_of_length_le (by omega), rtest_eq _ (by rw [List.length_map]; omega) (by rw [List.length_map]; omega), Option.bind_some]
    cases testB (l.map (fixOf a b)) <;> rfl
  | succ d ih =>
    intro i k hi hk
    obtain ⟨k, rfl⟩ : ∃ x, k = x + 100 + 1 := ⟨k - 101, by omega⟩
    have hlt : i < l.length := by omega
    have o := h.1 _ (List.getElem_mem hlt)
    have er : rd ((l.map sprOf).map (prs a b)) (i : Int) = prs a b (sprOf l[i]) := by
      rw [List.map_map, rd_mapS _ hlt]; rfl
    have step : (l.take i).map (fixOf a b) ++ [(⟨(⟨l[i].f0, l[i].f1, l[i].f2, l[i].f3, l[i].f4, l[i].f5⟩ : Spec), perS a b l[i]⟩ : Fix)] = (l.take (i + 1)).map (fixOf a b) := by rw [List.take_succ_eq_append_getElem hlt, List.map_append]; rfl
    rw [fuseeref10_Target.l0, if_pos (by omega), if_pos (by omega), if_pos (by simp; omega), rd_spec hlt, er, rof_eq, show k + 100 = (k + 99) + 1 by omega, of_per h0 hb o, Option.bind_some, if_pos (by simp; omega)]
    dsimp only
    rw [step, w64 (by omega) (by omega), show ((i : Int) + 1) = ((i + 1 : Nat) : Int) by omega]
    exact ih (i + 1) (k + 99 + 1) (by omega) (by omega)
theorem target_same (l : List Spec) (hl : l.length ≤ 1000) {k : Nat} (hk : 2 * l.length + 2000 ≤ k) : fuseeref10_Target.f k l = plan_Target.f k l := by
  unfold fuseeref10_Target.f plan_Target.f
  by_cases c : (l.length : Int) > 4
  · rw [if_pos c, if_pos c]
  rw [if_neg c, if_neg c, springs_same l hl (by omega)]
  by_cases h : mayT l
  · rw [springs_ok h (by omega), Option.bind_some, Option.bind_some, if_pos rfl, if_pos rfl]
    have e := rpress_eq (l.map sprOf) 983040 (k := k) (by rw [List.length_map]; omega) (by rw [List.length_map]; omega)
    dsimp only
    rw [e]
    by_cases hr : leasts l ≤ 983040
    · obtain ⟨a, b, hi, hf, hp⟩ := press_ok ((room_iff h).2 hr) (k := k) (by omega)
      rw [hp, Option.bind_some, Option.bind_some, if_pos rfl, if_pos rfl]
      have t := rtarget_each h hi.1 hi.2.2.1 l.length 0 k (by omega) (by omega)
      simp only [List.take_zero, List.map_nil] at t
      rw [show ((0 : Nat) : Int) = 0 from rfl] at t
      dsimp only
      rw [t, target_each h.1 (by omega) hi.1 hi.2.2.1 (by omega), Option.bind_some, test_eq _ (by rw [List.length_map]; omega) (by rw [List.length_map]; omega), Option.bind_some]
      cases testB (l.map (fixOf a b)) <;> rfl
    · rw [press_no (fun q => hr ((room_iff h).1 q)) (by rw [List.length_map]; omega)]
      rfl
  · rw [springs_no h (by omega)]
    rfl
theorem springy_same (a : List Spr) (hl : a.length ≤ 1000) {k : Nat} (hk : a.length < k) : fuseeref10_Springy.f k a a = some true := by
  unfold fuseeref10_Springy.f
  rw [if_pos rfl]
  have loop : ∀ (d i k : Nat), i + d = a.length → d < k → fuseeref10_Springy.l0 k a a (i : Int) = some true := by
    intro d
    induction d with
    | zero =>
      intro i k hi hk
      obtain ⟨k, rfl⟩ : ∃ x, k = x + 1 := ⟨k - 1, by omega⟩
      rw [fuseeref10_Springy.l0, if_neg (by omega)]
    | succ d ih =>
      intro i k hi hk
      obtain ⟨k, rfl⟩ : ∃ x, k = x + 1 := ⟨k - 1, by omega⟩
      rw [fuseeref10_Springy.l0, if_pos (by omega), if_pos (by omega), if_pos (by omega), if_neg (by simp), w64 (by omega) (by omega), show ((i : Int) + 1) = ((i + 1 : Nat) : Int) by omega]
      exact ih (i + 1) k (by omega) (by omega)
  exact loop a.length 0 k (by omega) hk
theorem same_same (a : List Fix) (hl : a.length ≤ 1000) {k : Nat} (hk : a.length < k) : fuseeref10_Same.f k a a = some true := by
  unfold fuseeref10_Same.f
  rw [if_pos rfl]
  have loop : ∀ (d i k : Nat), i + d = a.length → d < k → fuseeref10_Same.l0 k a a (i : Int) = some true := by
    intro d
    induction d with
    | zero =>
      intro i k hi hk
      obtain ⟨k, rfl⟩ : ∃ x, k = x + 1 := ⟨k - 1, by omega⟩
      rw [fuseeref10_Same.l0, if_neg (by omega)]
    | succ d ih =>
      intro i k hi hk
      obtain ⟨k, rfl⟩ : ∃ x, k = x + 1 := ⟨k - 1, by omega⟩
      rw [fuseeref10_Same.l0, if_pos (by omega), if_pos (by omega), if_pos (by omega), if_neg (by simp), w64 (by omega) (by omega), show ((i : Int) + 1) = ((i + 1 : Nat) : Int) by omega]
      exact ih (i + 1) k (by omega) (by omega)
  exact loop a.length 0 k (by omega) hk
theorem bound_same (l : List Fix) (r : Int) (hl : l.length ≤ 1000) {k : Nat} (hk : l.length + 3 ≤ k) : fuseeref10_Bound.f k l r = plan_Bound.f k l r := by
  obtain ⟨k, rfl⟩ : ∃ x, k = x + 1 := ⟨k - 1, by omega⟩
  unfold fuseeref10_Bound.f
  rw [rmay_list l (by omega) (by omega), Option.bind_some]
  by_cases m : mayF l
  · rw [decide_eq_true m, if_pos rfl]
    by_cases c1 : r < 0
    · rw [if_pos c1, fuseeref10_Bound.j0, if_pos rfl, bound_no (by omega) (fun q => by omega) (by omega)]
    · rw [if_neg c1]
      by_cases c2 : r > 1048576
      · rw [decide_eq_true c2, fuseeref10_Bound.j0, if_pos rfl, bound_no (by omega) (fun q => by omega) (by omega)]
      · rw [decide_eq_false c2, fuseeref10_Bound.j0, if_neg (by decide), bound_ok m (by omega) (by omega) (by omega)]
        have h4 := m.2.1
        have loop : ∀ (d i k : Nat) (x : Int), i + d = l.length → d < k → 0 ≤ x → x ≤ 1048576 + i * 12 → x + 2 * sumC (l.drop i) = r + 2 * sumC l → fuseeref10_Bound.l0 k l x (i : Int) = some (16 * (r + 2 * sumC l) + 1) := by
          intro d
          induction d with
          | zero =>
            intro i k x hi hk x0 x1 e
            obtain ⟨k, rfl⟩ : ∃ y, k = y + 1 := ⟨k - 1, by omega⟩
            rw [List.drop_of_length_le (by omega)] at e
            simp only [sumC, List.map_nil, List.sum_nil, Int.mul_zero, Int.add_zero] at e
            have e' : x = r + 2 * sumC l := e
            have q : Int.tdiv (x * 1048576 + 65535) 65536 = 16 * x := by
              rw [Int.tdiv_eq_ediv_of_nonneg (by omega)]
              omega
            rw [fuseeref10_Bound.l0, if_neg (by omega), w64 (x := x * 1048576) (by omega) (by omega), w64 (x := x * 1048576 + 65535) (by omega) (by omega), q, w64 (x := 16 * x) (by omega) (by omega), w64 (by omega) (by omega), e']
          | succ d ih =>
            intro i k x hi hk x0 x1 e
            obtain ⟨k, rfl⟩ : ∃ y, k = y + 1 := ⟨k - 1, by omega⟩
            have hlt : i < l.length := by omega
            have o := okF_nums (m.1 _ (List.getElem_mem hlt))
            rw [List.drop_eq_getElem_cons hlt, sumC_cons] at e
            rw [fuseeref10_Bound.l0, if_pos (by omega), if_pos (by omega), rd_fix hlt, w64 (x := 2 * l[i].f0.f0) (by omega) (by omega), w64 (x := x + 2 * l[i].f0.f0) (by omega) (by omega), w64 (by omega) (by omega), show ((i : Int) + 1) = ((i + 1 : Nat) : Int) by omega]
            exact ih (i + 1) k _ (by omega) (by omega) (by omega) (by omega) (by omega)
        exact loop l.length 0 k r (by omega) (by omega) (by omega) (by omega) (by simp)
  · rw [decide_eq_false m, if_neg (by decide), fuseeref10_Bound.j0, if_pos rfl, bound_no (by omega) (fun q => m q.1) (by omega)]
/-! ## A10 -/
theorem awake10 {f : Nat} (hf : 1000 ≤ f) : fuseelaw10_awake.f f = some true :=
  at_rounds fuseelaw10_awake.mono hf (by decide +kernel : fuseelaw10_awake.f 1000 = some true)
end Go.Proofs.Ytaejikbfnlihmaa.Pure
