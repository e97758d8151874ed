/- The document's answer of layer 8, period by period and time by time, is the program's. No condition but each lemma's own. -/
import Derived.Test.YtcgplkcjanakcaaPx5
import Derived.Test.YtcgplkcjanakcaaPx6
import Derived.Test.YtcgplkcjanakcaaPx7
import Derived.Test.YtcgplkcjanakcaaLibPeriod
namespace Go.Proofs.Ytcgplkcjanakcaa.Pure
open Go.RowKit Go.Proofs.Ytcgplkcjanakcaa.P Go.Proofs.YtcgplkcjanakcaaW.PrintWords Go.Proofs.YtcgplkcjanakcaaW.PrintLast Go.Proofs.YtcgplkcjanakcaaW.PrintMore
set_option linter.unusedVariables false
set_option linter.unusedSimpArgs false
theorem rmay05_ok {C T X M K E : Int} (h : okS C T X M K E) : fuseeref05_May.f C T X M K E = some true := by
  obtain ⟨a1, a2, a3, a4, a5, ⟨b1, b2, b3⟩, c1, c2, c3⟩ := h
  unfold fuseeref05_May.f fuseeref02_May.f
  rw [if_pos b1, if_pos b2, decide_eq_true b3]
  simp only [Option.bind_some, if_true]
  rw [if_pos a1, if_pos a2, if_pos a3, if_pos a4, if_pos a5, if_pos c1, if_pos c2]
  by_cases d : E = 0
  · rw [if_pos d]
    have : T = X := by omega
    simp [this]
  · rw [if_neg d]
theorem rmay05_no {C T X M K E : Int} (h : ¬ okS C T X M K E) : fuseeref05_May.f C T X M K E = some false := by
  unfold fuseeref05_May.f
  have hm : fuseeref02_May.f M K = some (decide (1 ≤ M ∧ M ≤ K ∧ K ≤ 6)) := by
    unfold fuseeref02_May.f
    by_cases h1 : M ≥ 1
    · rw [if_pos h1]
      by_cases h2 : K ≥ M
      · rw [if_pos h2]; congr 1; simp [h1, h2]
      · rw [if_neg h2]; congr 1; exact (decide_eq_false (by omega)).symm
    · rw [if_neg h1]; congr 1; exact (decide_eq_false (by omega)).symm
  rw [hm]
  simp only [Option.bind_some]
  by_cases a1 : C ≥ 1
  · rw [if_pos a1]
    by_cases a2 : C ≤ 6
    · rw [if_pos a2]
      by_cases a3 : T ≥ C
      · rw [if_pos a3]
        by_cases a4 : X ≥ T
        · rw [if_pos a4]
          by_cases a5 : X ≤ 48
          · rw [if_pos a5]
            by_cases b : 1 ≤ M ∧ M ≤ K ∧ K ≤ 6
            · rw [decide_eq_true b, if_pos rfl]
              by_cases c1 : E ≥ 0
              · rw [if_pos c1]
                by_cases c2 : E ≤ 8
                · rw [if_pos c2]
                  by_cases c3 : E = 0
                  · rw [if_pos c3]
                    by_cases c4 : T = X
                    · exact absurd ⟨a1, a2, a3, a4, a5, b, c1, c2, Or.inr c4⟩ h
                    · simp [c4]
                  · exact absurd ⟨a1, a2, a3, a4, a5, b, c1, c2, Or.inl (by omega)⟩ h
                · rw [if_neg c2]
              · rw [if_neg c1]
            · rw [decide_eq_false b, if_neg (by decide)]
          · rw [if_neg a5]
        · rw [if_neg a4]
      · rw [if_neg a3]
    · rw [if_neg a2]
  · rw [if_neg a1]
theorem rof_loop {C T X M K E u : Int} (h : okS C T X M K E) (hu : 1 ≤ u) (hu2 : u ≤ 1048576) : ∀ (d f : Nat) (p : Int), p + d = 50 → d < f → T ≤ p → p ≤ max (leastP C M K u) T →
    fuseeref08_Of.l0 f u p C T X M K E = if leastP C M K u ≤ X then some (max (leastP C M K u) T, true) else some (0, false)
  | 0, f, p, hd, hf, h1, h2 => by
    have := h.2.2.2.2.1
    have := h.2.2.2.1
    obtain ⟨f, rfl⟩ : ∃ x, f = x + 1 := ⟨f - 1, by omega⟩
    rw [fuseeref08_Of.l0, if_neg (by omega), if_neg (by omega)]
  | d + 1, f, p, hd, hf, h1, h2 => by
    have ⟨a1, a2, a3, a4, a5, b, _⟩ := h
    obtain ⟨f, rfl⟩ : ∃ x, f = x + 1 := ⟨f - 1, by omega⟩
    obtain ⟨k1, k2, m1, m2, l1, l2⟩ := leastP_num h hu hu2
    have hm := mulb (a := u * K) (b := p) (A := 6291456) (B := 50) (by omega) k2 (by omega) (by omega)
    rw [fuseeref08_Of.l0]
    by_cases c : p ≤ X
    · have hle := at_le h h1 c hu
      have s := up_spec (x := C * M * 1048576) k1
      rw [if_pos c, w64 (x := C * M) (by omega) (by omega), w64 (x := C * M * 1048576) (by omega) (by omega), w64 (x := u * K) (by omega) (by omega), w64 (x := u * K * p) (by omega) (by omega)]
      by_cases c2 : C * M * 1048576 ≤ u * K * p
      · have hp : leastP C M K u ≤ p := up_le k1 (by rw [Int.mul_comm p]; exact c2)
        rw [if_pos c2, if_pos (by omega), show max (leastP C M K u) T = p by omega]
      · have hp : p < leastP C M K u := by
          refine Int.not_le.1 fun q => c2 ?_
          have := Int.mul_le_mul_of_nonneg_right q (show 0 ≤ u * K by omega)
          rw [Int.mul_comm p] at this
          exact Int.le_trans s.2 this
        rw [if_neg c2, w64 (by omega) (by omega)]
        exact rof_loop h hu hu2 d f (p + 1) (by omega) (by omega) (by omega) (by omega)
    · rw [if_neg c, if_neg (by omega)]
theorem rof_eq (C T X M K E u : Int) (f : Nat) : fuseeref08_Of.f (f + 100) C T X M K E u = period_Of.f (f + 100) C T X M K E u := by
  unfold fuseeref08_Of.f
  by_cases h : okS C T X M K E
  · rw [rmay05_ok h]
    simp only [Option.bind_some, if_true]
    by_cases c1 : u < 1
    · rw [if_pos c1, pof_bad (fun q => by omega) (f + 99), show f + 100 = f + 99 + 1 by omega, fuseeref08_Of.j0, if_pos rfl]
    · rw [if_neg c1]
      by_cases c2 : u > 1048576
      · rw [decide_eq_true c2, pof_bad (fun q => by omega) (f + 99), show f + 100 = f + 99 + 1 by omega, fuseeref08_Of.j0, if_pos rfl]
      · have ⟨a1, a2, a3, a4, a5, b, _⟩ := h
        rw [decide_eq_false c2, pof_eq h (by omega) (by omega) (f + 99), show f + 100 = f + 99 + 1 by omega, fuseeref08_Of.j0, if_neg (by decide)]
        exact rof_loop h (by omega) (by omega) (50 - T).toNat (f + 99) T (by omega) (by omega) (Int.le_refl _) (by omega)
  · rw [rmay05_no h, pof_bad (fun q => h q.1) (f + 99)]
    simp only [Option.bind_some]
    rw [if_neg (by decide), show f + 100 = f + 99 + 1 by omega, fuseeref08_Of.j0, if_pos rfl]
theorem rall_loop {C T X M K E : Int} (h : okS C T X M K E) : ∀ (d k f : Nat), k + d = (X - T + 1).toNat → d < f →
    fuseeref08_All.l0 f (period_list.nums T 1 k) true (T + k) C T X M K E = some (period_list.nums T 1 (X - T + 1).toNat)
  | 0, k, f, hd, hf => by
    have ⟨a1, a2, a3, a4, a5, b, _⟩ := h
    obtain ⟨f, rfl⟩ : ∃ x, f = x + 1 := ⟨f - 1, by omega⟩
    rw [fuseeref08_All.l0, if_neg (by omega), ← hd, Nat.add_zero]
  | d + 1, k, f, hd, hf => by
    have ⟨a1, a2, a3, a4, a5, b, _⟩ := h
    obtain ⟨f, rfl⟩ : ∃ x, f = x + 1 := ⟨f - 1, by omega⟩
    rw [fuseeref08_All.l0, if_pos (by omega), if_pos rfl, if_pos (by rw [nums_length]; omega), w64 (by omega) (by omega),
      show period_list.nums T 1 k ++ [T + (k : Int)] = period_list.nums T 1 (k + 1) by rw [period_list.nums_succ, Int.mul_one], show T + (k : Int) + 1 = T + ((k + 1 : Nat) : Int) by omega]
    exact rall_loop h d (k + 1) f (by omega) (by omega)
theorem rall_eq (C T X M K E : Int) (f : Nat) : fuseeref08_All.f (f + 100) C T X M K E = period_All.f C T X M K E := by
  unfold fuseeref08_All.f
  by_cases h : okS C T X M K E
  · have ⟨a1, a2, a3, a4, a5, b, _⟩ := h
    rw [rmay05_ok h, all_ok h]
    simp only [Option.bind_some]
    have := rall_loop h (X - T + 1).toNat 0 (f + 100) (by omega) (by omega)
    rw [show T + ((0 : Nat) : Int) = T by omega] at this
    exact this
  · rw [rmay05_no h, all_no h]
    simp only [Option.bind_some]
    rw [show f + 100 = f + 99 + 1 by omega, fuseeref08_All.l0]
    by_cases c : T ≤ X
    · rw [if_pos c, if_neg (by decide)]
    · rw [if_neg c]
theorem rends_loop {p fr tt : Int} (hp : 1 ≤ p) (hp2 : p ≤ 48) (h0 : 0 ≤ fr) (h1 : fr ≤ tt) (h2 : tt ≤ 1099511627776) (h3 : tt - fr ≤ 5000) : ∀ (d f : Nat) (n : Int), n + d = tt + 1 → fr < n → d < f →
    fuseeref08_Ends.l0 f p fr tt (period_list.nums (fr + p) p ((n - 1 - fr) / p).toNat) n = some (period_list.nums (fr + p) p ((tt - fr) / p).toNat)
  | 0, f, n, hd, hn, hf => by
    obtain ⟨f, rfl⟩ : ∃ x, f = x + 1 := ⟨f - 1, by omega⟩
    rw [fuseeref08_Ends.l0, if_neg (by omega), show n - 1 - fr = tt - fr by omega]
  | d + 1, f, n, hd, hn, hf => by
    obtain ⟨f, rfl⟩ : ∃ x, f = x + 1 := ⟨f - 1, by omega⟩
    have hq : (n - 1 - fr) / p ≤ n - 1 - fr := Int.ediv_le_self _ (by omega)
    have hq0 : 0 ≤ (n - 1 - fr) / p := Int.ediv_nonneg (by omega) (by omega)
    have ih := rends_loop hp hp2 h0 h1 h2 h3 d f (n + 1) (by omega) (by omega) (by omega)
    rw [show n + 1 - 1 - fr = n - fr by omega] at ih
    have e1 := Int.mul_ediv_add_emod (n - fr) p
    have e2 := Int.emod_nonneg (n - fr) (show p ≠ 0 by omega)
    have e3 := Int.emod_lt_of_pos (n - fr) (show 0 < p by omega)
    rw [fuseeref08_Ends.l0, if_pos (by omega), if_neg (by omega), w64 (x := n - fr) (by omega) (by omega), Int.tmod_eq_emod_of_nonneg (by omega), w64 (x := n + 1) (by omega) (by omega)]
    by_cases c : (n - fr) % p = 0
    · have hk : (n - 1 - fr) / p = (n - fr) / p - 1 := by
        have : n - 1 - fr = (p - 1) + ((n - fr) / p - 1) * p := by
          rw [Int.sub_mul, Int.mul_comm ((n - fr) / p)]; omega
        rw [this, Int.add_mul_ediv_right _ _ (by omega), Int.ediv_eq_zero_of_lt (by omega) (by omega)]
        omega
      have hx : n = fr + p + ((((n - 1 - fr) / p).toNat : Nat) : Int) * p := by
        rw [Int.toNat_of_nonneg hq0, hk, Int.sub_mul, Int.mul_comm ((n - fr) / p)]; omega
      have hs := period_list.nums_succ (fr + p) p ((n - 1 - fr) / p).toNat
      rw [← hx] at hs
      rw [if_pos c, if_pos (by rw [nums_length]; omega), ← hs, show ((n - 1 - fr) / p).toNat + 1 = ((n - fr) / p).toNat by omega]
      exact ih
    · have hk : (n - 1 - fr) / p = (n - fr) / p := by
        have : n - 1 - fr = ((n - fr) % p - 1) + (n - fr) / p * p := by
          rw [Int.mul_comm ((n - fr) / p)]; omega
        rw [this, Int.add_mul_ediv_right _ _ (by omega), Int.ediv_eq_zero_of_lt (by omega) (by omega)]
        omega
      rw [if_neg c, hk]
      exact ih
theorem rends_eq (C T X M K E p fr tt : Int) (wf : -9223372036854775808 ≤ fr ∧ fr ≤ 9223372036854775807) (f : Nat) : fuseeref08_Ends.f (f + 6000) C T X M K E p fr tt = period_Ends.f C T X M K E p fr tt := by
  have hno : ¬ okE C T X M K E p fr tt → ∀ g : Nat, fuseeref08_Ends.j0 (g + 1) p fr tt [] true = period_Ends.f C T X M K E p fr tt := fun q g => by
    rw [ends_no q, fuseeref08_Ends.j0, if_pos rfl]
  unfold fuseeref08_Ends.f
  by_cases h : okS C T X M K E
  · have ⟨a1, a2, a3, a4, a5, b, _⟩ := h
    rw [rmay05_ok h]
    simp only [Option.bind_some, if_true]
    by_cases c1 : p < T
    · rw [if_pos c1]; exact hno (fun q => by have := q.2.1; omega) (f + 5999)
    rw [if_neg c1]
    by_cases c2 : p > X
    · rw [if_pos c2]; exact hno (fun q => by have := q.2.2.1; omega) (f + 5999)
    rw [if_neg c2]
    by_cases c3 : fr < 0
    · rw [if_pos c3]; exact hno (fun q => by have := q.2.2.2.1; omega) (f + 5999)
    rw [if_neg c3]
    by_cases c4 : fr > tt
    · rw [if_pos c4]; exact hno (fun q => by have := q.2.2.2.2.1; omega) (f + 5999)
    rw [if_neg c4]
    by_cases c5 : tt > 1099511627776
    · rw [if_pos c5]; exact hno (fun q => by have := q.2.2.2.2.2.1; omega) (f + 5999)
    rw [if_neg c5, w64 (x := tt - fr) (by omega) (by omega)]
    by_cases c6 : tt - fr > 5000
    · rw [decide_eq_true c6]; exact hno (fun q => by have := q.2.2.2.2.2.2; omega) (f + 5999)
    rw [decide_eq_false c6, ends_ok ⟨h, by omega, by omega, by omega, by omega, by omega, by omega⟩, show f + 6000 = f + 5999 + 1 by omega, fuseeref08_Ends.j0, if_neg (by decide), w64 (x := fr + 1) (by omega) (by omega)]
    have := rends_loop (p := p) (fr := fr) (tt := tt) (by omega) (by omega) (by omega) (by omega) (by omega) (by omega) (tt - fr).toNat (f + 5999) (fr + 1) (by omega) (by omega) (by omega)
    rw [show fr + 1 - 1 - fr = 0 by omega, Int.zero_ediv] at this
    exact this
  · rw [rmay05_no h]
    simp only [Option.bind_some]
    rw [if_neg (by decide)]
    exact hno (fun q => h q.1) (f + 5999)
end Go.Proofs.Ytcgplkcjanakcaa.Pure
