/- Plain laws of frac's functions: the quotients, what stands to what, the root, and what beats what. No condition but each lemma's own. -/
import Derived.Test.YtdhedkeeccofgaaPx1
import Derived.Test.YtdhedkeeccofgaaPx3
import Derived.Test.YtdhedkeeccofgaaPx6
namespace Go.Proofs.Ytdhedkeeccofgaa.Pure
open Go.RowKit Go.Proofs.Ytdhedkeeccofgaa.P Go.Proofs.YtdhedkeeccofgaaW.PrintWords Go.Proofs.YtdhedkeeccofgaaW.PrintLast
set_option linter.unusedVariables false
set_option linter.unusedSimpArgs false
theorem w64 {x : Int} (h0 : -9223372036854775808 ≤ x) (h1 : x ≤ 9223372036854775807) : wrap64 x = x := by unfold wrap64; omega
theorem it_and {c : Prop} [Decidable c] {a : Option Bool} (hc : c) (ha : a = some true) : (if c then a else some false) = some true := by rw [if_pos hc]; exact ha
theorem wf_i64 {x : Int} (h : (Lit.int .i64 x).wf = true) : -9223372036854775808 ≤ x ∧ x ≤ 9223372036854775807 := by
  simp only [Lit.wf, Bool.and_eq_true, decide_eq_true_eq] at h
  exact h
theorem frac_in_eq (a b c : Int) : frac_in.f a b c = some (decide (b ≤ a ∧ a ≤ c)) := by
  unfold frac_in.f
  by_cases h : a ≥ b
  · rw [if_pos h]; simp; omega
  · rw [if_neg h]; simp; omega
/-- May two numbers be a quotient's? -/
def okq (a b : Int) : Prop := 0 ≤ a ∧ a ≤ 4611686018427387904 ∧ 1 ≤ b ∧ b ≤ 4611686018427387904
theorem floor_ok {a b : Int} (h : okq a b) : frac_Floor.f a b = some (a / b, true) := by unfold frac_Floor.f; exact if_pos h
theorem floor_no {a b : Int} (h : ¬ okq a b) : frac_Floor.f a b = some (0, false) := by unfold frac_Floor.f; exact if_neg h
theorem ceil_ok {a b : Int} (h : okq a b) : frac_Ceil.f a b = some (a / b + min (a % b) 1, true) := by unfold frac_Ceil.f; exact if_pos h
theorem ceil_no {a b : Int} (h : ¬ okq a b) : frac_Ceil.f a b = some (0, false) := by unfold frac_Ceil.f; exact if_neg h
theorem cmp_ok {a b c d : Int} (h : okq a b) (h' : okq c d) : frac_Cmp.f a b c d = some (if a * d < c * b then -1 else if c * b < a * d then 1 else 0, true) := by unfold frac_Cmp.f; exact if_pos ⟨h, h'⟩
theorem cmp_no {a b c d : Int} (h : ¬ (okq a b ∧ okq c d)) : frac_Cmp.f a b c d = some (0, false) := by unfold frac_Cmp.f; exact if_neg h
theorem sq_le {x m : Int} (h0 : 0 ≤ x) (h1 : x ≤ m) : x * x ≤ m * m := Int.mul_le_mul h1 h1 h0 (by omega)
theorem root_l0 (n : Int) (hn : n ≤ 4611686018427387904) : ∀ (k : Nat) (lo hi : Int), 0 ≤ lo → lo ≤ hi → hi ≤ 2147483648 → lo * lo ≤ n → n < (hi + 1) * (hi + 1) → hi - lo < 2 ^ k →
    ∃ r, frac_Root.l0 (k + 1) n lo hi = some (r, true) ∧ 0 ≤ r ∧ r ≤ 2147483648 ∧ r * r ≤ n ∧ n < (r + 1) * (r + 1) := by
  intro k
  induction k with
  | zero =>
    intro lo hi h0 h1 h2 h3 h4 h5
    have : lo = hi := by simp at h5; omega
    subst this
    exact ⟨lo, by rw [frac_Root.l0, if_neg (by omega)], h0, h2, h3, h4⟩
  | succ k ih =>
    intro lo hi h0 h1 h2 h3 h4 h5
    by_cases hlt : lo < hi
    · have e1 : wrap64 (lo + hi) = lo + hi := w64 (by omega) (by omega)
      have e2 : wrap64 (lo + hi + 1) = lo + hi + 1 := w64 (by omega) (by omega)
      have e3 : Int.tdiv (lo + hi + 1) 2 = (lo + hi + 1) / 2 := Int.tdiv_eq_ediv_of_nonneg (by omega)
      have e4 : wrap64 ((lo + hi + 1) / 2) = (lo + hi + 1) / 2 := w64 (by omega) (by omega)
      have hm0 : lo < (lo + hi + 1) / 2 := by omega
      have hm1 : (lo + hi + 1) / 2 ≤ hi := by omega
      have hp : (2 : Int) ^ (k + 1) = 2 * 2 ^ k := by rw [Int.pow_succ]; omega
      rw [hp] at h5
      have hd1 : hi - (lo + hi + 1) / 2 < 2 ^ k := by omega
      have hd2 : (lo + hi + 1) / 2 - 1 - lo < 2 ^ k := by omega
      rw [frac_Root.l0, if_pos hlt, e1, e2, e3, e4]
      generalize (lo + hi + 1) / 2 = m at *
      have hb : m * m ≤ 2147483648 * 2147483648 := sq_le (by omega) (by omega)
      have hb0 : 0 ≤ m * m := Int.mul_nonneg (by omega) (by omega)
      have e5 : wrap64 (m * m) = m * m := w64 (by omega) (by omega)
      rw [e5]
      by_cases hc : m * m ≤ n
      · rw [if_pos hc]
        exact ih m hi (by omega) hm1 h2 hc h4 hd1
      · rw [if_neg hc, w64 (by omega) (by omega)]
        exact ih lo (m - 1) h0 (by omega) (by omega) h3 (by rw [Int.sub_add_cancel]; omega) hd2
    · have : lo = hi := by omega
      subst this
      exact ⟨lo, by rw [frac_Root.l0, if_neg (by omega)], h0, h2, h3, h4⟩
/-- The root. -/
theorem root_ok {n : Int} (h0 : 0 ≤ n) (h1 : n ≤ 4611686018427387904) : ∃ r, (∀ k, 33 ≤ k → frac_Root.f k n = some (r, true)) ∧ 0 ≤ r ∧ r ≤ 2147483648 ∧ r * r ≤ n ∧ n < (r + 1) * (r + 1) := by
  obtain ⟨r, hr, h⟩ := root_l0 n h1 32 0 2147483648 (by omega) (by omega) (by omega) (by omega) (by omega) (by omega)
  have hf : frac_Root.f 33 n = some (r, true) := by
    unfold frac_Root.f
    rw [frac_in_eq, decide_eq_true (by omega)]
    exact hr
  exact ⟨r, fun k hk => at_rounds (frac_Root.mono n) hk hf, h⟩
theorem root_no {n : Int} (h : ¬ (0 ≤ n ∧ n ≤ 4611686018427387904)) (k : Nat) : frac_Root.f k n = some (0, false) := by
  unfold frac_Root.f
  rw [frac_in_eq, decide_eq_false (by omega)]
  rfl
theorem sq_mono {x y : Int} (h0 : 0 ≤ x) (h1 : 0 ≤ y) (h : x * x < (y + 1) * (y + 1)) : x ≤ y := by
  refine Int.not_lt.1 fun hc => ?_
  have := sq_le (x := y + 1) (m := x) (by omega) (by omega)
  omega
def okb (v s k : Int) : Prop := (0 ≤ v ∧ v ≤ 1048576) ∧ (0 ≤ s ∧ s ≤ 1048576) ∧ (0 ≤ k ∧ k ≤ 1048576) ∧ s < v
instance (v s k : Int) : Decidable (okb v s k) := by unfold okb; infer_instance
theorem beats_eq (v s k : Int) : frac_Beats.f v s k = some (decide (okb v s k ∧ (v - s) * (v - s) > k * s * s)) := by
  unfold frac_Beats.f
  rw [frac_in_eq, frac_in_eq, frac_in_eq]
  simp only [Option.bind_some]
  by_cases h1 : 0 ≤ v ∧ v ≤ 1048576
  · rw [decide_eq_true h1, if_pos rfl]
    by_cases h2 : 0 ≤ s ∧ s ≤ 1048576
    · rw [decide_eq_true h2, if_pos rfl]
      by_cases h3 : 0 ≤ k ∧ k ≤ 1048576
      · rw [decide_eq_true h3, if_pos rfl]
        by_cases h4 : v ≤ s
        · rw [if_pos h4, decide_eq_false (fun h => by have := h.1.2.2.2; omega)]
        · rw [if_neg h4]
          have e1 : wrap64 (v - s) = v - s := w64 (by omega) (by omega)
          have b1 : (v - s) * (v - s) ≤ 1048576 * 1048576 := sq_le (by omega) (by omega)
          have b0 : 0 ≤ (v - s) * (v - s) := Int.mul_nonneg (by omega) (by omega)
          have c1 : k * s ≤ 1048576 * 1048576 := Int.mul_le_mul h3.2 h2.2 h2.1 (by omega)
          have c0 : 0 ≤ k * s := Int.mul_nonneg h3.1 h2.1
          have d1 : k * s * s ≤ 1099511627776 * 1048576 := Int.mul_le_mul (by omega) h2.2 h2.1 (by omega)
          have d0 : 0 ≤ k * s * s := Int.mul_nonneg c0 h2.1
          rw [e1, w64 (by omega) (by omega), w64 (x := k * s) (by omega) (by omega), w64 (by omega) (by omega)]
          congr 1
          have hb : okb v s k := ⟨h1, h2, h3, by omega⟩
          simp [hb]
      · rw [decide_eq_false h3, if_neg (by decide), decide_eq_false (fun h => h3 h.1.2.2.1)]
    · rw [decide_eq_false h2, if_neg (by decide), decide_eq_false (fun h => h2 h.1.2.1)]
  · rw [decide_eq_false h1, if_neg (by decide), decide_eq_false (fun h => h1 h.1.1)]
end Go.Proofs.Ytdhedkeeccofgaa.Pure
