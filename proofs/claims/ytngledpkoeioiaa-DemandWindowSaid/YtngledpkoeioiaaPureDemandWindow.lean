/- In any stretch of time, of a task's jobs that begin in it, and end in it, the mandatory ones take no more than Of tells. No condition. -/
import Derived.Test.YtngledpkoeioiaaQDemandWindow
import Derived.Test.YtngledpkoeioiaaLibDemandTest
import Derived.Test.YtngledpkoeioiaaLibA09
namespace Go.Proofs.Ytngledpkoeioiaa.Pure
open Go.RowKit Go.Proofs.Ytngledpkoeioiaa.P Go.Proofs.YtngledpkoeioiaaW.PrintWords Go.Proofs.YtngledpkoeioiaaW.PrintLast
set_option linter.unusedVariables false
set_option linter.unusedSimpArgs false
theorem up_shift {a b k : Int} (hk : 1 ≤ k) : up (a + k * b) k = up a k + b := by
  unfold up
  rw [Int.add_mul_ediv_left _ _ (by omega), Int.add_mul_emod_self_left]
  omega
theorem up_step {a m k : Int} (hk : 1 ≤ k) (h1 : 0 ≤ m) (h2 : m ≤ k) : up a k ≤ up (a + m) k ∧ up (a + m) k ≤ up a k + 1 := by
  have s := up_spec (x := a) hk
  refine ⟨up_mono hk (by omega), up_le hk ?_⟩
  rw [Int.add_mul]
  omega
theorem up_add {a b k : Int} (hk : 1 ≤ k) : up (a + b) k ≤ up a k + up b k := by
  have s := up_spec (x := a) hk
  have t := up_spec (x := b) hk
  refine up_le hk ?_
  rw [Int.add_mul]
  omega
theorem on_ok {m k j : Int} (h1 : 1 ≤ m) (h2 : m ≤ k) (h3 : k ≤ 6) (h4 : 0 ≤ j) (h5 : j ≤ 1099511627776) : pat_On.f m k j = some (decide (up (j * m) k < up ((j + 1) * m) k)) := by
  unfold pat_On.f
  rw [if_pos ⟨h1, h2, h3, h4, h5⟩]
  congr 1
  show decide (up (j % k * m) k < up ((j % k + 1) * m) k) = _
  have e := Int.mul_ediv_add_emod j k
  have e' : j % k + k * (j / k) = j := by omega
  have f0 : j * m = j % k * m + k * (j / k * m) := by rw [← Int.mul_assoc, ← Int.add_mul, e']
  have f1 : (j + 1) * m = (j % k + 1) * m + k * (j / k * m) := by rw [Int.add_mul, Int.add_mul (j % k), f0]; omega
  rw [f0, f1, up_shift (by omega), up_shift (by omega), decide_eq_decide]
  omega
theorem win_loop {x : Fix} (o : okF x) {fr late n : Int} (h0 : 0 ≤ fr) (h1 : fr ≤ 1000000) (h2 : 0 ≤ late) (h3 : late ≤ 1000) (h4 : 0 ≤ n) (h5 : n ≤ 1000) :
    ∀ (d k i : Nat), i + d = 1002 → d < k → (i = 0 ∨ late + i * x.f1 ≤ n) →
    fuseelaw09_DemandWindow.l0 k n (x.f0.f0 * (up ((fr + i) * x.f0.f3) x.f0.f4 - up (fr * x.f0.f3) x.f0.f4)) (fr + i) (late + (i + 1) * x.f1) x.f0.f0 x.f0.f1 x.f0.f2 x.f0.f3 x.f0.f4 x.f0.f5 x.f1 = some true := by
  obtain ⟨a1, a2, a3, a4, a5, a6, a7⟩ := okF_nums o
  have fin : ∀ (k i : Nat), (i = 0 ∨ late + i * x.f1 ≤ n) → ¬ late + (i + 1) * x.f1 ≤ n → fuseelaw09_DemandWindow.l0 (k + 1) n (x.f0.f0 * (up ((fr + i) * x.f0.f3) x.f0.f4 - up (fr * x.f0.f3) x.f0.f4)) (fr + i) (late + (i + 1) * x.f1) x.f0.f0 x.f0.f1 x.f0.f2 x.f0.f3 x.f0.f4 x.f0.f5 x.f1 = some true := by
    intro k i hi hc
    rw [fuseelaw09_DemandWindow.l0, if_neg hc, of_fix, Option.bind_some, ofF_ok o h4 (by omega)]
    congr 1
    refine decide_eq_true ?_
    unfold dem
    refine Int.mul_le_mul_of_nonneg_left ?_ (by omega)
    have q : (i : Int) ≤ n / x.f1 := by
      refine Int.le_ediv_of_mul_le (by omega) ?_
      rcases hi with h | h
      · subst h; simp; omega
      · omega
    have u := up_add (a := fr * x.f0.f3) (b := i * x.f0.f3) (k := x.f0.f4) (by omega)
    have e : (fr + (i : Int)) * x.f0.f3 = fr * x.f0.f3 + i * x.f0.f3 := Int.add_mul ..
    have u2 : up ((i : Int) * x.f0.f3) x.f0.f4 ≤ up (n / x.f1 * x.f0.f3) x.f0.f4 := up_mono (by omega) (Int.mul_le_mul_of_nonneg_right q (by omega))
    rw [e]
    omega
  intro d
  induction d with
  | zero =>
    intro k i hi hk hs
    obtain ⟨k, rfl⟩ : ∃ x, k = x + 1 := ⟨k - 1, by omega⟩
    refine fin k i hs fun q => ?_
    have := Int.mul_le_mul_of_nonneg_left a3 (show 0 ≤ (i : Int) + 1 by omega)
    omega
  | succ d ih =>
    intro k i hi hk hs
    obtain ⟨k, rfl⟩ : ∃ x, k = x + 1 := ⟨k - 1, by omega⟩
    by_cases c : late + ((i : Int) + 1) * x.f1 ≤ n
    · have b1 : up ((fr + i) * x.f0.f3) x.f0.f4 - up (fr * x.f0.f3) x.f0.f4 ≤ 1002 ∧ 0 ≤ up ((fr + i) * x.f0.f3) x.f0.f4 - up (fr * x.f0.f3) x.f0.f4 := by
        have u := up_add (a := fr * x.f0.f3) (b := i * x.f0.f3) (k := x.f0.f4) (by omega)
        have e : (fr + (i : Int)) * x.f0.f3 = fr * x.f0.f3 + i * x.f0.f3 := Int.add_mul ..
        have u2 : up ((i : Int) * x.f0.f3) x.f0.f4 ≤ i := up_le (by omega) (Int.mul_le_mul_of_nonneg_left a6 (by omega))
        have u3 : up (fr * x.f0.f3) x.f0.f4 ≤ up ((fr + i) * x.f0.f3) x.f0.f4 := up_mono (by omega) (Int.mul_le_mul_of_nonneg_right (by omega) (by omega))
        rw [e] at u3 ⊢
        omega
      have b2 := mulb (a := x.f0.f0) (b := up ((fr + i) * x.f0.f3) x.f0.f4 - up (fr * x.f0.f3) x.f0.f4) (A := 6) (B := 1002) (by omega) a2 b1.2 b1.1
      have hj : 0 ≤ ((i : Int) + 1) * x.f1 := Int.mul_nonneg (by omega) (by omega)
      have e1 : late + ((i : Int) + 1) * x.f1 + x.f1 = late + (((i + 1 : Nat) : Int) + 1) * x.f1 := by
        rw [show (((i + 1 : Nat) : Int) + 1) = ((i : Int) + 1) + 1 by omega, Int.add_mul ((i : Int) + 1), Int.one_mul, Int.add_assoc]
      have e2 : fr + (i : Int) + 1 = fr + ((i + 1 : Nat) : Int) := by omega
      have st := up_step (a := (fr + (i : Int)) * x.f0.f3) (m := x.f0.f3) (k := x.f0.f4) (by omega) (by omega) a6
      have e3 : (fr + (i : Int)) * x.f0.f3 + x.f0.f3 = (fr + ((i + 1 : Nat) : Int)) * x.f0.f3 := by rw [← e2, Int.add_mul (fr + (i : Int)), Int.one_mul]
      rw [e3] at st
      have hs' : (i + 1 = 0 ∨ late + ((i + 1 : Nat) : Int) * x.f1 ≤ n) := .inr (by rw [show ((i + 1 : Nat) : Int) = (i : Int) + 1 by omega]; exact c)
      have r := ih k (i + 1) (by omega) (by omega) hs'
      rw [fuseelaw09_DemandWindow.l0, if_pos c, on_ok a5 a6 a7 (by omega) (by omega), Option.bind_some, w64 (x := fr + (i : Int) + 1) (by omega) (by omega), w64 (x := late + ((i : Int) + 1) * x.f1 + x.f1) (by omega) (by omega), w64 (by omega) (by omega), e1, e2]
      by_cases q : up ((fr + (i : Int)) * x.f0.f3) x.f0.f4 < up ((fr + ((i + 1 : Nat) : Int)) * x.f0.f3) x.f0.f4
      · rw [decide_eq_true q, if_pos rfl]
        have e4 : x.f0.f0 * (up ((fr + (i : Int)) * x.f0.f3) x.f0.f4 - up (fr * x.f0.f3) x.f0.f4) + x.f0.f0 = x.f0.f0 * (up ((fr + ((i + 1 : Nat) : Int)) * x.f0.f3) x.f0.f4 - up (fr * x.f0.f3) x.f0.f4) := by
          rw [show up ((fr + ((i + 1 : Nat) : Int)) * x.f0.f3) x.f0.f4 - up (fr * x.f0.f3) x.f0.f4 = (up ((fr + (i : Int)) * x.f0.f3) x.f0.f4 - up (fr * x.f0.f3) x.f0.f4) + 1 by omega, Int.mul_add, Int.mul_one]
        rw [e4]
        exact r
      · rw [decide_eq_false q, if_neg (by decide)]
        rw [show up ((fr + (i : Int)) * x.f0.f3) x.f0.f4 = up ((fr + ((i + 1 : Nat) : Int)) * x.f0.f3) x.f0.f4 by omega]
        exact r
    · exact fin k i hs c
theorem DemandWindow : fuseelaw09_DemandWindow.Pure := by
  intro C T X M K E p fr late n _ _ _ _ _ _ _ _ _ _
  refine ⟨2000, ?_⟩
  unfold fuseelaw09_DemandWindow.f
  rw [awake09 (by omega), Option.bind_some, if_pos rfl, may_list [_] (by simp) (by simp), Option.bind_some]
  by_cases h : mayF [⟨⟨C, T, X, M, K, E⟩, p⟩]
  · have o := h.1 ⟨⟨C, T, X, M, K, E⟩, p⟩ (by simp)
    obtain ⟨a1, a2, a3, a4, a5, a6, a7⟩ := okF_nums o
    rw [decide_eq_true h, if_pos rfl]
    by_cases c1 : fr < 0
    · rw [if_pos c1]
    rw [if_neg c1]
    by_cases c2 : fr > 1000000
    · rw [if_pos c2]
    rw [if_neg c2]
    by_cases c3 : late < 0
    · rw [if_pos c3]
    rw [if_neg c3]
    by_cases c4 : late > 1000
    · rw [if_pos c4]
    rw [if_neg c4]
    by_cases c5 : n < 0
    · rw [if_pos c5]
    rw [if_neg c5]
    by_cases c6 : n > 1000
    · rw [if_pos c6]
    have w := win_loop o (fr := fr) (late := late) (n := n) (by omega) (by omega) (by omega) (by omega) (by omega) (by omega) 1002 2000 0 (by omega) (by omega) (.inl rfl)
    simp only [Int.natCast_zero, Int.add_zero, Int.sub_self, Int.mul_zero, Int.zero_add, Int.one_mul] at w
    have a3' : 1 ≤ p := a3
    have a4' : p ≤ 48 := a4
    rw [if_neg c6, w64 (x := late + p) (by omega) (by omega)]
    exact w
  · rw [decide_eq_false h, if_neg (by decide)]
end Go.Proofs.Ytngledpkoeioiaa.Pure
