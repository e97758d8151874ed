/- The document's answer of layer 6 is the program's: units of any spec at any period. No condition but each lemma's own. -/
import Derived.Test.YtngledpkoeioiaaPx10
import Derived.Test.YtngledpkoeioiaaLibUnitAt
namespace Go.Proofs.Ytngledpkoeioiaa.Pure
open Go.RowKit Go.Proofs.Ytngledpkoeioiaa.P Go.Proofs.YtngledpkoeioiaaW.PrintWords Go.Proofs.YtngledpkoeioiaaW.PrintLast
set_option linter.unusedVariables false
set_option linter.unusedSimpArgs false
theorem rmay05_ok {C T X M K E : Int} (h : okS C T X M K E) : fuseeref05_May.f C T X M K E = some true := by
  obtain ⟨a1, a2, a3, a4, a5, ⟨b1, b2, b3⟩, c1, c2, c3⟩ := h
  unfold fuseeref05_May.f fuseeref02_May.f
  rw [if_pos b1, if_pos b2, decide_eq_true b3]
  simp only [Option.bind_some, if_true]
  rw [if_pos a1, if_pos a2, if_pos a3, if_pos a4, if_pos a5, if_pos c1, if_pos c2]
  by_cases d : E = 0
  · rw [if_pos d]
    have : T = X := by omega
    simp [this]
  · rw [if_neg d]
theorem rmay05_no {C T X M K E : Int} (h : ¬ okS C T X M K E) : fuseeref05_May.f C T X M K E = some false := by
  unfold fuseeref05_May.f
  have hm : fuseeref02_May.f M K = some (decide (1 ≤ M ∧ M ≤ K ∧ K ≤ 6)) := by
    unfold fuseeref02_May.f
    by_cases h1 : M ≥ 1
    · rw [if_pos h1]
      by_cases h2 : K ≥ M
      · rw [if_pos h2]; congr 1; simp [h1, h2]
      · rw [if_neg h2]; congr 1; exact (decide_eq_false (by omega)).symm
    · rw [if_neg h1]; congr 1; exact (decide_eq_false (by omega)).symm
  rw [hm]
  simp only [Option.bind_some]
  by_cases a1 : C ≥ 1
  · rw [if_pos a1]
    by_cases a2 : C ≤ 6
    · rw [if_pos a2]
      by_cases a3 : T ≥ C
      · rw [if_pos a3]
        by_cases a4 : X ≥ T
        · rw [if_pos a4]
          by_cases a5 : X ≤ 48
          · rw [if_pos a5]
            by_cases b : 1 ≤ M ∧ M ≤ K ∧ K ≤ 6
            · rw [decide_eq_true b, if_pos rfl]
              by_cases c1 : E ≥ 0
              · rw [if_pos c1]
                by_cases c2 : E ≤ 8
                · rw [if_pos c2]
                  by_cases c3 : E = 0
                  · rw [if_pos c3]
                    by_cases c4 : T = X
                    · exact absurd ⟨a1, a2, a3, a4, a5, b, c1, c2, Or.inr c4⟩ h
                    · simp [c4]
                  · exact absurd ⟨a1, a2, a3, a4, a5, b, c1, c2, Or.inl (by omega)⟩ h
                · rw [if_neg c2]
              · rw [if_neg c1]
            · rw [decide_eq_false b, if_neg (by decide)]
          · rw [if_neg a5]
        · rw [if_neg a4]
      · rw [if_neg a3]
    · rw [if_neg a2]
  · rw [if_neg a1]
theorem rat_ok {C T X M K E p : Int} (f : Nat) (h : okS C T X M K E) (h1 : T ≤ p) (h2 : p ≤ X) : fuseeref06_At.f (f + 1) C T X M K E p = some (unitsOf C M K p) := by
  obtain ⟨m1, m2, m3, m4, _⟩ := units_nums h h1 h2
  have hk := h.2.2.2.2.2.1
  have hp : p ≤ 48 := by have := h.2.2.2.2.1; omega
  have hp0 : 1 ≤ p := by have := h.1; have := h.2.2.1; omega
  unfold fuseeref06_At.f
  rw [rmay05_ok h]
  simp only [Option.bind_some, if_true]
  rw [if_neg (by omega), decide_eq_false (show ¬ p > X by omega), fuseeref06_At.j0, if_neg (by decide), w64 (x := K * p) (by omega) (by omega), if_neg (by omega), w64 (x := C * M) (by omega) (by omega), w64 (x := C * M * 1048576) (by omega) (by omega),
    Int.tdiv_eq_ediv_of_nonneg (by omega)]
  unfold unitsOf up
  generalize hx : C * M * 1048576 = x at *
  generalize hkp : K * p = k at *
  have e := Int.mul_ediv_add_emod x k
  have m0 := Int.emod_nonneg x (show k ≠ 0 by omega)
  have m1' := Int.emod_lt_of_pos x (show 0 < k by omega)
  have q0 : 0 ≤ x / k := Int.ediv_nonneg (by omega) (by omega)
  have q1 : x / k ≤ x := Int.ediv_le_self k (by omega)
  have ep : x / k * K * p = x - x % k := by rw [Int.mul_assoc, hkp, Int.mul_comm]; omega
  have n1 := mulb (a := x / k) (b := K) (A := 37748736) (B := 6) q0 (by omega) (by omega) hk.2.2
  rw [w64 (x := x / k) (by omega) (by omega), w64 (x := x / k * K) (by omega) (by omega), ep, w64 (x := x - x % k) (by omega) (by omega), w64 (x := x / k + 1) (by omega) (by omega)]
  by_cases hr : x % k = 0
  · have : min (x % k) 1 = 0 := by omega
    rw [if_neg (by omega), this, Int.add_zero]
  · have : min (x % k) 1 = 1 := by omega
    rw [if_pos (by omega), this]
theorem rat_no {C T X M K E p : Int} (f : Nat) (h : ¬ (okS C T X M K E ∧ T ≤ p ∧ p ≤ X)) : fuseeref06_At.f (f + 1) C T X M K E p = some 0 := by
  unfold fuseeref06_At.f
  by_cases h0 : okS C T X M K E
  · rw [rmay05_ok h0]
    simp only [Option.bind_some, if_true]
    by_cases h1 : p < T
    · rw [if_pos h1, fuseeref06_At.j0, if_pos rfl]
    · rw [if_neg h1, decide_eq_true (show p > X by refine Int.not_le.1 fun h2 => h ⟨h0, by omega, h2⟩), fuseeref06_At.j0, if_pos rfl]
  · rw [rmay05_no h0]
    simp only [Option.bind_some]
    rw [if_neg (by decide), fuseeref06_At.j0, if_pos rfl]
theorem rat_eq (f : Nat) (C T X M K E p : Int) : fuseeref06_At.f (f + 1) C T X M K E p = units_At.f C T X M K E p := by
  by_cases h : okS C T X M K E ∧ T ≤ p ∧ p ≤ X
  · rw [rat_ok f h.1 h.2.1 h.2.2, at_ok h.1 h.2.1 h.2.2]
  · rw [rat_no f h, at_no h]
end Go.Proofs.Ytngledpkoeioiaa.Pure
