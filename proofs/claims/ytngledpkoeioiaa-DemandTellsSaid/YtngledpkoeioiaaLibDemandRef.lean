/- The document's answer of layer 9 is the program's. No condition but each lemma's own. -/
import Derived.Test.YtngledpkoeioiaaPx10
import Derived.Test.YtngledpkoeioiaaPx11
import Derived.Test.YtngledpkoeioiaaPx12
import Derived.Test.YtngledpkoeioiaaPx13
import Derived.Test.YtngledpkoeioiaaLibDemandFirst
import Derived.Test.YtngledpkoeioiaaLibRAt
namespace Go.Proofs.Ytngledpkoeioiaa.Pure
open Go.RowKit Go.Proofs.Ytngledpkoeioiaa.P Go.Proofs.YtngledpkoeioiaaW.PrintWords Go.Proofs.YtngledpkoeioiaaW.PrintLast Go.Proofs.YtngledpkoeioiaaW.PrintMore
set_option linter.unusedVariables false
set_option linter.unusedSimpArgs false
theorem rmost_ok {m k q : Int} (f : Nat) (h1 : 1 ≤ m) (h2 : m ≤ k) (h3 : k ≤ 6) (h4 : 0 ≤ q) (h5 : q ≤ 1099511627776) : fuseeref02_Most.f (f + 1) m k q = some (up (q * m) k) := by
  have hq := mulb (a := q) (b := m) (A := 1099511627776) (B := 6) h4 h5 (by omega) (by omega)
  unfold fuseeref02_Most.f fuseeref02_May.f fuseeref02_in.f
  rw [if_pos h1, if_pos h2, decide_eq_true h3]
  simp only [Option.bind_some, if_true]
  rw [if_pos h4, decide_eq_true h5]
  simp only [Option.bind_some, Bool.not_true]
  rw [fuseeref02_Most.j0, if_neg (by decide), if_neg (by omega), w64 (x := q * m) (by omega) (by omega), Int.tdiv_eq_ediv_of_nonneg (by omega)]
  unfold up
  generalize q * m = x at *
  have e := Int.mul_ediv_add_emod x k
  have m0 := Int.emod_nonneg x (show k ≠ 0 by omega)
  have m1' := Int.emod_lt_of_pos x (show 0 < k by omega)
  have q0 : 0 ≤ x / k := Int.ediv_nonneg (by omega) (by omega)
  have q1 : x / k ≤ x := Int.ediv_le_self k (by omega)
  have ep : x / k * k = x - x % k := by rw [Int.mul_comm]; omega
  rw [w64 (x := x / k) (by omega) (by omega), ep, w64 (x := x - x % k) (by omega) (by omega), w64 (x := x / k + 1) (by omega) (by omega)]
  by_cases hr : x % k = 0
  · have : min (x % k) 1 = 0 := by omega
    rw [if_neg (by omega), this, Int.add_zero]
  · have : min (x % k) 1 = 1 := by omega
    rw [if_pos (by omega), this]
theorem rmay_fix (x : Fix) : fuseeref09_may.f x.f0.f0 x.f0.f1 x.f0.f2 x.f0.f3 x.f0.f4 x.f0.f5 x.f1 = some (decide (okF x)) := by
  unfold fuseeref09_may.f
  by_cases h0 : okS x.f0.f0 x.f0.f1 x.f0.f2 x.f0.f3 x.f0.f4 x.f0.f5
  · rw [rmay05_ok h0, Option.bind_some, if_pos rfl]
    by_cases h1 : x.f1 ≥ x.f0.f1
    · rw [if_pos h1]
      congr 1
      rw [decide_eq_decide]
      exact ⟨fun h => ⟨h0, h1, h⟩, fun h => h.2.2⟩
    · rw [if_neg h1, decide_eq_false (fun h => h1 h.2.1)]
  · rw [rmay05_no h0, Option.bind_some, if_neg (by decide), decide_eq_false (fun h => h0 h.1)]
theorem rof_fix (f : Nat) (x : Fix) (n : Int) : fuseeref09_Of.f (f + 1) x.f0.f0 x.f0.f1 x.f0.f2 x.f0.f3 x.f0.f4 x.f0.f5 x.f1 n = some (ofF x n) := by
  unfold fuseeref09_Of.f
  rw [rmay_fix, Option.bind_some]
  by_cases h : okF x
  · obtain ⟨a1, a2, a3, a4, a5, a6, a7⟩ := okF_nums h
    rw [decide_eq_true h, if_pos rfl]
    by_cases c1 : n < 0
    · rw [if_pos c1, ofF, if_neg (by omega)]
    rw [if_neg c1]
    by_cases c2 : n > 1099511627776
    · rw [if_pos c2, ofF, if_neg (by omega)]
    have b := dem_bound h (n := n) (by omega)
    rw [if_neg c2, if_neg (by omega), Int.tdiv_eq_ediv_of_nonneg (by omega), w64 (x := n / x.f1) (by omega) (by omega), rmost_ok f a5 a6 a7 b.2.2.1 (by omega), Option.bind_some, ofF, if_pos ⟨h, by omega, by omega⟩]
    congr 1
    exact w64 (by have := b.1; unfold dem at this; omega) (by have := b.2.1; unfold dem at this; omega)
  · rw [decide_eq_false h, if_neg (by decide), ofF, if_neg (fun q => h q.1)]
theorem rall_eq (l : List Fix) (n : Int) {k : Nat} (hk : l.length < k) : fuseeref09_All.f k l n = some (allF l n) := by
  unfold fuseeref09_All.f allF
  by_cases c : l.length ≤ 1000
  · rw [if_pos c]
    have loop : ∀ (d i k : Nat) (s : Int), i + d = l.length → d < k → 0 ≤ s → s ≤ i * 6597069766656 → fuseeref09_All.l0 k l n s (i : Int) = some (s + sumF (l.drop i) n) := by
      intro d
      induction d with
      | zero =>
        intro i k s hi hk h0 h1
        obtain ⟨k, rfl⟩ : ∃ x, k = x + 1 := ⟨k - 1, by omega⟩
        rw [fuseeref09_All.l0, if_neg (by omega), List.drop_of_length_le (by omega), sumF_nil, Int.add_zero]
      | succ d ih =>
        intro i k s hi hk h0 h1
        obtain ⟨k, rfl⟩ : ∃ x, k = x + 2 := ⟨k - 2, by omega⟩
        have hlt : i < l.length := by omega
        have b := ofF_bound l[i] n
        rw [fuseeref09_All.l0, if_pos (by omega), if_pos (by omega), if_pos (by omega), rd_fix hlt, rof_fix, Option.bind_some, w64 (x := s + ofF l[i] n) (by omega) (by omega), w64 (x := (i : Int) + 1) (by omega) (by omega),
          show ((i : Int) + 1) = ((i + 1 : Nat) : Int) by omega, ih (i + 1) (k + 1) _ (by omega) (by omega) (by omega) (by omega), List.drop_eq_getElem_cons hlt, sumF_cons, Int.add_assoc]
    have := loop l.length 0 k 0 (by omega) hk (by omega) (by omega)
    rw [List.drop_zero, Int.zero_add] at this
    exact this
  · rw [if_neg c]
    obtain ⟨k, rfl⟩ : ∃ x, k = x + 1 := ⟨k - 1, by omega⟩
    rw [fuseeref09_All.l0, if_pos (by omega), if_neg (by omega)]
theorem rmay_list (l : List Fix) (hl : l.length ≤ 1100) {k : Nat} (hk : l.length < k) : fuseeref09_May.f k l = some (decide (mayF l)) := by
  unfold fuseeref09_May.f
  have loop : ∀ (d i k : Nat) (s : Int), i + d = l.length → d < k → (∀ x ∈ l.take i, okF x) → 0 ≤ s → s ≤ i * 1048576 → s + ((l.drop i).map uF).sum = (l.map uF).sum → fuseeref09_May.l0 k l s (i : Int) = some (decide (mayF l)) := by
    intro d
    induction d with
    | zero =>
      intro i k s hi hk hall h0 h1 h2
      obtain ⟨k, rfl⟩ : ∃ x, k = x + 1 := ⟨k - 1, by omega⟩
      rw [List.take_of_length_le (by omega)] at hall
      rw [List.drop_of_length_le (by omega)] at h2
      simp only [List.map_nil, List.sum_nil, Int.add_zero] at h2
      rw [fuseeref09_May.l0, if_neg (by omega)]
      by_cases c : l.length ≤ 4
      · rw [if_pos (by omega)]
        congr 1
        rw [decide_eq_decide, h2]
        exact ⟨fun h => ⟨hall, c, h⟩, fun h => h.2.2⟩
      · rw [if_neg (by omega), decide_eq_false (fun q => c q.2.1)]
    | succ d ih =>
      intro i k s hi hk hall h0 h1 h2
      obtain ⟨k, rfl⟩ : ∃ x, k = x + 2 := ⟨k - 2, by omega⟩
      have hlt : i < l.length := by omega
      rw [fuseeref09_May.l0, if_pos (by omega), if_pos (by omega), rd_fix hlt, rmay_fix, Option.bind_some]
      by_cases o : okF l[i]
      · have u := unitsOf_spec o.1 o.2.1 o.2.2
        have ur : fuseeref06_At.f (k + 1) l[i].f0.f0 l[i].f0.f1 l[i].f0.f2 l[i].f0.f3 l[i].f0.f4 l[i].f0.f5 l[i].f1 = some (uF l[i]) := rat_ok k o.1 o.2.1 o.2.2
        have ub : 1 ≤ uF l[i] ∧ uF l[i] ≤ 1048576 := ⟨u.1, u.2.1⟩
        rw [List.drop_eq_getElem_cons hlt, List.map_cons, List.sum_cons] at h2
        rw [decide_eq_true o, if_pos rfl, ur, Option.bind_some, w64 (x := s + uF l[i]) (by omega) (by omega), w64 (x := (i : Int) + 1) (by omega) (by omega), show ((i : Int) + 1) = ((i + 1 : Nat) : Int) by omega]
        refine ih (i + 1) (k + 1) _ (by omega) (by omega) (fun x hx => ?_) (by omega) (by omega) (by omega)
        rw [List.take_succ_eq_append_getElem hlt] at hx
        rcases List.mem_append.1 hx with h | h
        · exact hall x h
        · rw [List.mem_singleton.1 h]; exact o
      · rw [decide_eq_false o, if_neg (by decide), decide_eq_false (fun q => o (q.1 _ (List.getElem_mem hlt)))]
  exact loop l.length 0 k 0 (by omega) hk (by simp) (by omega) (by omega) (by simp)
theorem rhor_eq (l : List Fix) (hl : l.length ≤ 1100) {k : Nat} (hk : l.length < k) : fuseeref09_Horizon.f k l = some (horF l) := by
  unfold fuseeref09_Horizon.f horF
  rw [rmay_list l hl hk, Option.bind_some]
  by_cases h : mayF l
  · rw [decide_eq_true h, if_pos rfl, if_pos h]
    have sb := sumC_bound h.1
    have h4 := h.2.1
    have loop : ∀ (d i k : Nat) (s : Int), i + d = l.length → d < k → 0 ≤ s → s + sumC (l.drop i) = sumC l → fuseeref09_Horizon.l0 k l s (i : Int) = some (16 * sumC l) := by
      intro d
      induction d with
      | zero =>
        intro i k s hi hk h0 h1
        obtain ⟨k, rfl⟩ : ∃ x, k = x + 1 := ⟨k - 1, by omega⟩
        rw [List.drop_of_length_le (by omega)] at h1
        have e : s = sumC l := by rw [← h1]; simp [sumC]
        rw [fuseeref09_Horizon.l0, if_neg (by omega), e, w64 (x := sumC l * 1048576) (by omega) (by omega), w64 (x := sumC l * 1048576 + 65535) (by omega) (by omega), Int.tdiv_eq_ediv_of_nonneg (by omega), w64 (by omega) (by omega)]
        congr 1
        omega
      | succ d ih =>
        intro i k s hi hk h0 h1
        obtain ⟨k, rfl⟩ : ∃ x, k = x + 1 := ⟨k - 1, by omega⟩
        have hlt : i < l.length := by omega
        rw [List.drop_eq_getElem_cons hlt, sumC_cons] at h1
        have n := okF_nums (h.1 _ (List.getElem_mem hlt))
        have sd := sumC_bound (l := l.drop (i + 1)) (fun y hy => h.1 y (List.mem_of_mem_drop hy))
        rw [fuseeref09_Horizon.l0, if_pos (by omega), if_pos (by omega), rd_fix hlt, w64 (x := s + l[i].f0.f0) (by omega) (by omega), w64 (x := (i : Int) + 1) (by omega) (by omega), show ((i : Int) + 1) = ((i + 1 : Nat) : Int) by omega]
        exact ih (i + 1) k _ (by omega) (by omega) (by omega) (by omega)
    exact loop l.length 0 k 0 (by omega) hk (by omega) (by rw [List.drop_zero, Int.zero_add])
  · rw [decide_eq_false h, if_neg (by decide), if_neg h]
theorem rfirst_eq (l : List Fix) (hl : l.length ≤ 1100) {k : Nat} (hk : l.length + 400 ≤ k) : ∃ r, fuseeref09_First.f k l = some r ∧ fstF l r := by
  unfold fuseeref09_First.f
  rw [rhor_eq l hl (by omega), Option.bind_some]
  have hb := horF_bound l
  have loop : ∀ (d k : Nat) (i : Int), (i + d = horF l ∨ d = 0 ∧ i = horF l + 1) → 1 ≤ i → l.length + d < k → (∀ n, 0 ≤ n → n < i → n < horF l → sumF l n ≤ n) → ∃ r, fuseeref09_First.l0 k l (horF l) i = some r ∧ fstF l r := by
    intro d
    induction d with
    | zero =>
      intro k i hi h0 hk hs
      obtain ⟨k, rfl⟩ : ∃ x, k = x + 1 := ⟨k - 1, by omega⟩
      exact ⟨0, by rw [fuseeref09_First.l0, if_neg (by omega)], .inl ⟨rfl, fun n n0 n1 => hs n n0 (by omega) n1⟩⟩
    | succ d ih =>
      intro k i hi h0 hk hs
      obtain ⟨k, rfl⟩ : ∃ x, k = x + 1 := ⟨k - 1, by omega⟩
      have hm := horF_may (l := l) (by omega)
      rw [fuseeref09_First.l0, if_pos (by omega), rall_eq l i (by omega), Option.bind_some, allF_may hm]
      by_cases c : sumF l i > i
      · exact ⟨i, by rw [if_pos c], .inr ⟨by omega, by omega, by omega, fun n n0 n1 => hs n n0 n1 (by omega)⟩⟩
      · rw [if_neg c, w64 (by omega) (by omega)]
        refine ih k (i + 1) (by omega) (by omega) (by omega) fun n n0 n1 n2 => ?_
        by_cases q : n = i
        · subst q; omega
        · exact hs n n0 (by omega) n2
  have z : ∀ n, 0 ≤ n → n < 1 → n < horF l → sumF l n ≤ n := fun n n0 n1 _ => by
    have e : n = 0 := by omega
    rw [e, sumF_zero]; omega
  by_cases q : horF l = 0
  · exact loop 0 k 1 (.inr ⟨rfl, by omega⟩) (by omega) (by omega) z
  · exact loop (horF l - 1).toNat k 1 (.inl (by omega)) (by omega) (by omega) z
theorem rtest_eq (l : List Fix) (hl : l.length ≤ 1100) {k : Nat} (hk : l.length + 400 ≤ k) : fuseeref09_Test.f k l = some (testB l) := by
  unfold fuseeref09_Test.f
  rw [rmay_list l hl (by omega), Option.bind_some]
  by_cases h : mayF l
  · obtain ⟨r, hr, hf⟩ := rfirst_eq l hl hk
    rw [decide_eq_true h, if_pos rfl, hr, Option.bind_some, test_first h hf]
  · rw [decide_eq_false h, if_neg (by decide)]
    congr 1
    symm
    rw [Bool.eq_false_iff]
    exact fun q => h (testB_iff.1 q).1
end Go.Proofs.Ytngledpkoeioiaa.Pure
