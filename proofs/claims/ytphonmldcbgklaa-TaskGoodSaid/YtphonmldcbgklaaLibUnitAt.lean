/- Plain laws of units: which spec may be, the units of a task. No condition but each lemma's own. -/
import Derived.Test.YtphonmldcbgklaaPx7
import Derived.Test.YtphonmldcbgklaaPx9
import Derived.Test.YtphonmldcbgklaaLibNum
namespace Go.Proofs.Ytphonmldcbgklaa.Pure
open Go.RowKit Go.Proofs.Ytphonmldcbgklaa.P Go.Proofs.YtphonmldcbgklaaW.PrintWords Go.Proofs.YtphonmldcbgklaaW.PrintLast
set_option linter.unusedVariables false
set_option linter.unusedSimpArgs false
/-- A spec that may be. -/
def okS (C T X M K E : Int) : Prop := 1 ≤ C ∧ C ≤ 6 ∧ C ≤ T ∧ T ≤ X ∧ X ≤ 48 ∧ (1 ≤ M ∧ M ≤ K ∧ K ≤ 6) ∧ 0 ≤ E ∧ E ≤ 8 ∧ (0 < E ∨ T = X)
theorem may_ok {C T X M K E : Int} (h : okS C T X M K E) : spec_May.f C T X M K E = some true := by
  unfold spec_May.f spec_May.ok
  exact congrArg some (decide_eq_true h)
theorem may_no {C T X M K E : Int} (h : ¬ okS C T X M K E) : spec_May.f C T X M K E = some false := by
  unfold spec_May.f spec_May.ok
  exact congrArg some (decide_eq_false h)
/-- How many units a task has at a period. -/
def unitsOf (C M K p : Int) : Int := up (C * M * 1048576) (K * p)
theorem units_nums {C T X M K E p : Int} (h : okS C T X M K E) (h1 : T ≤ p) (h2 : p ≤ X) :
    1 ≤ C * M ∧ C * M ≤ 36 ∧ 1 ≤ K * p ∧ K * p ≤ 288 ∧ C * M ≤ K * p := by
  obtain ⟨a1, a2, a3, a4, a5, ⟨b1, b2, b3⟩, _⟩ := h
  have m1 := mulb (a := C) (b := M) (A := 6) (B := 6) (by omega) a2 (by omega) (by omega)
  have m2 := mulb (a := K) (b := p) (A := 6) (B := 48) (by omega) b3 (by omega) (by omega)
  have m3 : 1 * 1 ≤ C * M := Int.mul_le_mul a1 b1 (by omega) (by omega)
  have m4 : 1 * 1 ≤ K * p := Int.mul_le_mul (by omega) (by omega) (by omega) (by omega)
  have m5 : C * M ≤ p * K := Int.mul_le_mul (by omega) b2 (by omega) (by omega)
  rw [Int.mul_comm p K] at m5
  omega
theorem at_ok {C T X M K E p : Int} (h : okS C T X M K E) (h1 : T ≤ p) (h2 : p ≤ X) : units_At.f C T X M K E p = some (unitsOf C M K p) := by
  obtain ⟨m1, m2, m3, m4, _⟩ := units_nums h h1 h2
  unfold units_At.f
  rw [may_ok h]
  simp only [Option.bind_some, if_true]
  rw [if_neg (by omega), if_neg (by omega), w64 (x := C * M) (by omega) (by omega), w64 (by omega) (by omega), w64 (by omega) (by omega), ceil_up (by omega) (by omega) m3 (by omega)]
  rfl
theorem at_no {C T X M K E p : Int} (h : ¬ (okS C T X M K E ∧ T ≤ p ∧ p ≤ X)) : units_At.f C T X M K E p = some 0 := by
  unfold units_At.f
  by_cases h0 : okS C T X M K E
  · rw [may_ok h0]
    simp only [Option.bind_some, if_true]
    by_cases h1 : p < T
    · rw [if_pos h1]
    · rw [if_neg h1, if_pos (by refine Int.not_le.1 fun h2 => h ⟨h0, by omega, h2⟩)]
  · rw [may_no h0]
    rfl
/-- From 1 to 2^20, no less than what it takes, nor more by one. -/
theorem unitsOf_spec {C T X M K E p : Int} (h : okS C T X M K E) (h1 : T ≤ p) (h2 : p ≤ X) :
    1 ≤ unitsOf C M K p ∧ unitsOf C M K p ≤ 1048576 ∧ (unitsOf C M K p - 1) * (K * p) < C * M * 1048576 ∧ C * M * 1048576 ≤ unitsOf C M K p * (K * p) := by
  obtain ⟨m1, m2, m3, m4, m5⟩ := units_nums h h1 h2
  have s := up_spec (x := C * M * 1048576) m3
  exact ⟨le_up m3 (by omega), up_le m3 (by omega), s.1, s.2⟩
theorem unitsOf_anti {C T X M K E p q : Int} (h : okS C T X M K E) (h1 : T ≤ p) (h2 : p ≤ q) (h3 : q ≤ X) : unitsOf C M K q ≤ unitsOf C M K p := by
  obtain ⟨u1, u2, u3, u4⟩ := unitsOf_spec h h1 (Int.le_trans h2 h3)
  obtain ⟨m1, m2, m3, m4, m5⟩ := units_nums h (Int.le_trans h1 h2) h3
  refine up_le m3 (Int.le_trans u4 ?_)
  refine Int.mul_le_mul_of_nonneg_left (Int.mul_le_mul_of_nonneg_left h2 ?_) (by omega)
  have := h.2.2.2.2.2.1
  omega
end Go.Proofs.Ytphonmldcbgklaa.Pure
