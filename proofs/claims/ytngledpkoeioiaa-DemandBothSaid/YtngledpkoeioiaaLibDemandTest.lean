/- Where the demand is nowhere more than the time there is: what the program's test comes to. No condition but each lemma's own. -/
import Derived.Test.YtngledpkoeioiaaPx6
import Derived.Test.YtngledpkoeioiaaLibDemand
namespace Go.Proofs.Ytngledpkoeioiaa.Pure
open Go.RowKit Go.Proofs.Ytngledpkoeioiaa.P Go.Proofs.YtngledpkoeioiaaW.PrintWords Go.Proofs.YtngledpkoeioiaaW.PrintLast Go.Proofs.YtngledpkoeioiaaW.PrintMore
set_option linter.unusedVariables false
set_option linter.unusedSimpArgs false
theorem up_mono {a b k : Int} (hk : 1 ≤ k) (h : a ≤ b) : up a k ≤ up b k := up_le hk (Int.le_trans h (up_spec hk).2)
theorem dem_mono {x : Fix} (h : okF x) {n m : Int} (h2 : n ≤ m) : dem x n ≤ dem x m := by
  obtain ⟨a1, a2, a3, a4, a5, a6, a7⟩ := okF_nums h
  unfold dem
  refine Int.mul_le_mul_of_nonneg_left (up_mono (by omega) (Int.mul_le_mul_of_nonneg_right (Int.ediv_le_ediv (by omega) h2) (by omega))) (by omega)
theorem ofF_ok {x : Fix} (h : okF x) {n : Int} (h1 : 0 ≤ n) (h2 : n ≤ 1099511627776) : ofF x n = dem x n := if_pos ⟨h, h1, h2⟩
theorem ofF_no {x : Fix} (h : ¬ okF x) (n : Int) : ofF x n = 0 := if_neg fun q => h q.1
theorem ofF_mono (x : Fix) {n m : Int} (h0 : 0 ≤ n) (h1 : n ≤ m) (h2 : m ≤ 1099511627776) : ofF x n ≤ ofF x m := by
  by_cases h : okF x
  · rw [ofF_ok h h0 (by omega), ofF_ok h (by omega) h2]; exact dem_mono h h1
  · rw [ofF_no h, ofF_no h]; omega
theorem sumF_mono {n m : Int} (h0 : 0 ≤ n) (h1 : n ≤ m) (h2 : m ≤ 1099511627776) : ∀ (l : List Fix), sumF l n ≤ sumF l m
  | [] => by simp [sumF]
  | x :: t => by
    have := sumF_mono h0 h1 h2 t
    have := ofF_mono x h0 h1 h2
    rw [sumF_cons, sumF_cons]
    omega
theorem div_same {a b c p : Int} (hp : 1 ≤ p) (h1 : a / p * p ≤ b) (h2 : b ≤ c) (h3 : c ≤ a) : b / p = c / p := by
  have e1 : a / p ≤ b / p := Int.le_ediv_of_mul_le (by omega) h1
  have e2 : b / p ≤ c / p := Int.ediv_le_ediv (by omega) h2
  have e3 : c / p ≤ a / p := Int.ediv_le_ediv (by omega) h3
  omega
theorem sumF_stay {n m : Int} (h0 : 0 ≤ m) (h2 : n ≤ 1099511627776) : ∀ {l : List Fix} {e : Int}, (∀ x ∈ l, okF x) → 0 ≤ e → (∀ x ∈ l, (n - 1) / x.f1 * x.f1 ≤ e) → e ≤ m → m ≤ n - 1 → sumF l m = sumF l e
  | [], e, _, _, _, _, _ => by simp [sumF]
  | x :: t, e, ho, he, hs, h3, h4 => by
    have o := ho x (List.mem_cons_self ..)
    have a := okF_nums o
    have r := sumF_stay h0 h2 (l := t) (e := e) (fun y hy => ho y (List.mem_cons_of_mem _ hy)) he (fun y hy => hs y (List.mem_cons_of_mem _ hy)) h3 h4
    have d := div_same (a := n - 1) (p := x.f1) (by omega) (hs x (List.mem_cons_self ..)) h3 (by omega)
    rw [sumF_cons, sumF_cons, r, ofF_ok o (by omega) (by omega), ofF_ok o (by omega) (by omega)]
    unfold dem
    rw [d]
theorem last_stay {l : List Fix} (h : ∀ x ∈ l, okF x) {n m : Int} (h0 : 1 ≤ n) (h2 : n ≤ 1099511627776) (h3 : lastF l n ≤ m) (h4 : m ≤ n - 1) : sumF l m = sumF l (lastF l n) := by
  have s := lastF_spec h h0
  exact sumF_stay (n := n) (by omega) h2 h s.1 s.2.2 h3 h4
/-- One task's demand, times 2^20. -/
theorem dem_units {x : Fix} (h : okF x) {n : Int} (h0 : 0 ≤ n) : dem x n * 1048576 ≤ uF x * n + x.f0.f0 * 1048576 := by
  obtain ⟨a1, a2, a3, a4, a5, a6, a7⟩ := okF_nums h
  obtain ⟨u1, u2, u3, u4⟩ := unitsOf_spec h.1 h.2.1 h.2.2
  have b := dem_bound h h0
  have s := (up_spec (x := n / x.f1 * x.f0.f3) (k := x.f0.f4) (by omega)).1
  have qp : n / x.f1 * x.f1 ≤ n := Int.ediv_mul_le _ (by omega)
  unfold dem uF at *
  generalize unitsOf x.f0.f0 x.f0.f3 x.f0.f4 x.f1 = u at *
  generalize up (n / x.f1 * x.f0.f3) x.f0.f4 = v at *
  generalize n / x.f1 = q at *
  generalize x.f0.f0 = C at *
  generalize x.f0.f3 = M at *
  generalize x.f0.f4 = K at *
  generalize x.f1 = P at *
  -- (v - 1) * C * 2^20 ≤ u * n, both sides times K * P
  have kp : 0 < K * P := Int.mul_pos (by omega) (by omega)
  have m1 : (v - 1) * K * (C * 1048576 * P) ≤ q * M * (C * 1048576 * P) := Int.mul_le_mul_of_nonneg_right (by omega) (Int.mul_nonneg (by omega) (by omega))
  have qp0 : 0 ≤ q * P := Int.mul_nonneg (by omega) (by omega)
  have m2 : C * M * 1048576 * (q * P) ≤ u * (K * P) * (q * P) := Int.mul_le_mul_of_nonneg_right u4 qp0
  have m3 : u * (K * P) * (q * P) ≤ u * (K * P) * n := Int.mul_le_mul_of_nonneg_left qp (Int.mul_nonneg (by omega) (by omega))
  have e1 : q * M * (C * 1048576 * P) = C * M * 1048576 * (q * P) := by ac_rfl
  have e2 : (v - 1) * K * (C * 1048576 * P) = (v - 1) * (C * 1048576) * (K * P) := by ac_rfl
  have e3 : u * (K * P) * n = u * n * (K * P) := by ac_rfl
  have m4 : (v - 1) * (C * 1048576) * (K * P) ≤ u * n * (K * P) := by rw [← e2, ← e3]; omega
  have m5 : (v - 1) * (C * 1048576) ≤ u * n := Int.le_of_mul_le_mul_right m4 kp
  have e4 : (v - 1) * (C * 1048576) = C * v * 1048576 - C * 1048576 := by rw [Int.sub_mul, Int.one_mul, ← Int.mul_assoc, Int.mul_comm v C]
  omega
theorem sumF_units {n : Int} (h0 : 0 ≤ n) (h1 : n ≤ 1099511627776) : ∀ {l : List Fix}, (∀ x ∈ l, okF x) → sumF l n * 1048576 ≤ (l.map uF).sum * n + sumC l * 1048576
  | [], _ => by simp [sumF, sumC]
  | x :: t, h => by
    have o := h x (List.mem_cons_self ..)
    have r := sumF_units h0 h1 (l := t) (fun y hy => h y (List.mem_cons_of_mem _ hy))
    have d := dem_units o h0
    rw [sumF_cons, ofF_ok o h0 h1, List.map_cons, List.sum_cons, sumC_cons, Int.add_mul, Int.add_mul, Int.add_mul]
    omega
theorem beyond {l : List Fix} (h : mayF l) {n : Int} (h0 : horF l ≤ n) (h1 : n ≤ 1099511627776) : sumF l n ≤ n := by
  have hh : horF l = 16 * sumC l := if_pos h
  have sb := sumC_bound h.1
  have hn : 0 ≤ n := by omega
  have u := sumF_units hn h1 h.1
  have m : (l.map uF).sum * n ≤ 983040 * n := Int.mul_le_mul_of_nonneg_right h.2.2 hn
  omega
/-- It is nowhere too much. -/
def good (l : List Fix) : Prop := ∀ n, 0 ≤ n → n ≤ 1099511627776 → sumF l n ≤ n
theorem allF_may {l : List Fix} (h : mayF l) (n : Int) : allF l n = sumF l n := if_pos (by have := h.2.1; omega)
theorem test_loop {l : List Fix} (h : mayF l) : ∀ (k : Nat) (n : Int), 0 ≤ n → n ≤ 384 → n + 6 ≤ k → (∀ m, n < m → m ≤ 1099511627776 → m < sumF l m → sumF l m ≤ sumF l n) → ∃ b, demand_Test.l0 k l n = some b ∧ (b = true ↔ good l) := by
  intro k
  induction k with
  | zero => intro n h0 h1 h2; omega
  | succ k ih =>
    intro n h0 h1 h2 inv
    have h4 := h.2.1
    rw [demand_Test.l0]
    by_cases c1 : n = 0
    · refine ⟨true, by rw [if_pos c1], iff_of_true rfl fun m m0 m1 => ?_⟩
      have z : sumF l 0 = 0 := by
        have : ∀ t : List Fix, (∀ x ∈ t, okF x) → sumF t 0 = 0 := by
          intro t
          induction t with
          | nil => intro _; rfl
          | cons x t it =>
            intro ht
            have o := ht x (List.mem_cons_self ..)
            have b := dem_bound o (n := 0) (by omega)
            rw [sumF_cons, it (fun y hy => ht y (List.mem_cons_of_mem _ hy)), ofF_ok o (by omega) (by omega)]
            omega
        exact this l h.1
      by_cases c : m = 0
      · subst c; omega
      · refine Int.not_lt.1 fun q => ?_
        have := inv m (by omega) m1 q
        subst c1
        omega
    · rw [if_neg c1, all_eq l n (by omega), Option.bind_some, allF_may h]
      have mono : ∀ m, 0 ≤ m → m ≤ n → sumF l m ≤ sumF l n := fun m m0 m1 => sumF_mono m0 m1 (by omega) l
      have sb := sumF_bound l n
      by_cases c2 : sumF l n > n
      · exact ⟨false, by rw [if_pos c2], iff_of_false (by decide) fun g => by have := g n h0 (by omega); omega⟩
      rw [if_neg c2]
      have above : ∀ m, n ≤ m → m ≤ 1099511627776 → sumF l m ≤ m := fun m m0 m1 => by
        by_cases c : m = n
        · subst c; omega
        · refine Int.not_lt.1 fun q => ?_
          have := inv m (by omega) m1 q
          omega
      have next : ∀ t, 1 ≤ t → t ≤ n → (∀ m, t ≤ m → m ≤ n → sumF l m ≤ m) → ∃ b, ((demand_last.f k l t).bind fun t => demand_Test.l0 k l t) = some b ∧ (b = true ↔ good l) := by
        intro t t1 t2 ht
        have s := lastF_spec h.1 t1
        rw [last_eq h.1 (by omega) t1 (by omega) (by omega), Option.bind_some]
        refine ih _ s.1 (by omega) (by omega) fun m m0 m1 m2 => ?_
        by_cases q : m ≤ t - 1
        · rw [last_stay h.1 t1 (by omega) (by omega) q]; omega
        · exfalso
          by_cases q2 : m ≤ n
          · have := ht m (by omega) q2; omega
          · have := above m (by omega) m1; omega
      by_cases c3 : sumF l n < n ∧ sumF l n > 0
      · rw [if_pos c3, w64 (by omega) (by omega)]
        refine next _ (by omega) (by omega) fun m m0 m1 => ?_
        have := mono m (by omega) m1
        omega
      · rw [if_neg c3]
        by_cases c4 : sumF l n = n
        · rw [if_pos c4]
          exact next n (by omega) (by omega) fun m m0 m1 => by have := mono m (by omega) m1; omega
        · refine ⟨true, by rw [if_neg c4], iff_of_true rfl fun m m0 m1 => ?_⟩
          by_cases q : m ≤ n
          · have := mono m m0 q; omega
          · exact above m (by omega) m1
open Classical in
/-- The test. -/
noncomputable def testB (l : List Fix) : Bool := decide (mayF l ∧ good l)
open Classical in
theorem testB_iff {l : List Fix} : testB l = true ↔ mayF l ∧ good l := by unfold testB; exact decide_eq_true_iff
theorem horF_pos {l : List Fix} (h : mayF l) : l = [] ∨ 16 ≤ horF l := by
  have hh : horF l = 16 * sumC l := if_pos h
  have sb := sumC_bound h.1
  cases l with
  | nil => exact .inl rfl
  | cons x t => rw [List.length_cons] at sb; exact .inr (by omega)
theorem test_eq (l : List Fix) (hl : l.length < 17592186044416) {k : Nat} (hk : l.length + 400 ≤ k) : demand_Test.f k l = some (testB l) := by
  unfold demand_Test.f
  rw [may_list l hl (by omega), Option.bind_some]
  by_cases h : mayF l
  · rw [decide_eq_true h, if_pos rfl, hor_eq l hl (by omega), Option.bind_some]
    have hb := horF_bound l
    have h4 := h.2.1
    have key : ∃ b, ((demand_last.f k l (horF l)).bind fun n => demand_Test.l0 k l n) = some b ∧ (b = true ↔ good l) := by
      rcases horF_pos h with e | e
      · subst e
        rw [show horF [] = 0 by simp [horF, sumC], last_zero _ (by simp) (by simp; omega), Option.bind_some]
        exact test_loop h k 0 (by omega) (by omega) (by omega) fun m _ _ q => by rw [sumF_nil] at q; omega
      · have s := lastF_spec h.1 (n := horF l) (by omega)
        rw [last_eq h.1 (by omega) (by omega) (by omega) (by omega), Option.bind_some]
        refine test_loop h k _ s.1 (by omega) (by omega) fun m m0 m1 m2 => ?_
        by_cases q : m ≤ horF l - 1
        · rw [last_stay h.1 (by omega) (by omega) (by omega) q]; omega
        · have := beyond h (n := m) (by omega) m1
          omega
    obtain ⟨b, hb, hi⟩ := key
    rw [hb]
    congr 1
    rw [Bool.eq_iff_iff, hi, testB_iff]
    exact ⟨fun g => ⟨h, g⟩, fun g => g.2⟩
  · rw [decide_eq_false h, if_neg (by decide)]
    congr 1
    symm
    rw [Bool.eq_false_iff]
    exact fun q => h (testB_iff.1 q).1
end Go.Proofs.Ytngledpkoeioiaa.Pure
