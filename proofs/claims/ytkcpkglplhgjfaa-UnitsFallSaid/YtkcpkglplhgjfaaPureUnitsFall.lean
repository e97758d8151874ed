/- A longer period has no more units; those of a task are from 1 to 2^20, and never less than what it takes, nor more by one. No condition. -/
import Derived.Test.YtkcpkglplhgjfaaQUnitsFall
import Derived.Test.YtkcpkglplhgjfaaLibUnits
import Derived.Test.YtkcpkglplhgjfaaLibA06
namespace Go.Proofs.Ytkcpkglplhgjfaa.Pure
open Go.RowKit Go.Proofs.Ytkcpkglplhgjfaa.P Go.Proofs.YtkcpkglplhgjfaaW.PrintWords Go.Proofs.YtkcpkglplhgjfaaW.PrintLast
set_option linter.unusedVariables false
set_option linter.unusedSimpArgs false
theorem UnitsFall : fuseelaw06_UnitsFall.Pure := by
  intro C T X M K E p q _ _ _ _ _ _ _ _
  refine ⟨1, ?_⟩
  unfold fuseelaw06_UnitsFall.f
  rw [awake06]
  simp only [Option.bind_some, if_true]
  have out : fuseelaw06_UnitsFall.j0 1 p q true true C T X M K E = some true := by rw [fuseelaw06_UnitsFall.j0, if_pos rfl]
  by_cases h : okS C T X M K E
  · rw [may_ok h]
    simp only [Option.bind_some, if_true]
    by_cases c1 : p < T
    · rw [if_pos c1]; exact out
    rw [if_neg c1]
    by_cases c2 : q < p
    · rw [if_pos c2]; exact out
    rw [if_neg c2]
    by_cases c3 : q > X
    · rw [decide_eq_true c3]; exact out
    rw [decide_eq_false c3, fuseelaw06_UnitsFall.j0, if_neg (by decide), at_ok h (by omega) (by omega), at_ok h (by omega) (by omega), top_ok h, least_ok h]
    simp only [Option.bind_some]
    have a1 := unitsOf_anti h (show T ≤ p by omega) (show p ≤ q by omega) (by omega)
    have a2 := unitsOf_anti h (Int.le_refl T) (show T ≤ p by omega) (by omega)
    have a3 := unitsOf_anti h (show T ≤ q by omega) (show q ≤ X by omega) (Int.le_refl X)
    obtain ⟨u1, u2, u3, u4⟩ := unitsOf_spec h (show T ≤ p by omega) (by omega)
    obtain ⟨v1, v2, v3, v4⟩ := unitsOf_spec h (show T ≤ q by omega) (by omega)
    obtain ⟨m1, m2, m3, m4, m5⟩ := units_nums h (show T ≤ p by omega) (by omega)
    obtain ⟨b1, b2, b3, b4, b5, ⟨b6, b7, b8⟩, _⟩ := h
    generalize unitsOf C M K p = a at *
    generalize unitsOf C M K q = b at *
    generalize unitsOf C M K T = t at *
    generalize unitsOf C M K X = x at *
    have n1 := mulb (a := a) (b := K) (A := 1048576) (B := 6) (by omega) u2 (by omega) b8
    have n2 := mulb (a := a - 1) (b := K) (A := 1048576) (B := 6) (by omega) (by omega) (by omega) b8
    have n3 := mulb (a := a * K) (b := p) (A := 6291456) (B := 48) n1.1 (by omega) (by omega) (by omega)
    have n4 := mulb (a := (a - 1) * K) (b := p) (A := 6291456) (B := 48) n2.1 (by omega) (by omega) (by omega)
    have e1 : a * K * p = a * (K * p) := Int.mul_assoc _ _ _
    have e2 : (a - 1) * K * p = (a - 1) * (K * p) := Int.mul_assoc _ _ _
    rw [if_pos (by omega), if_pos v1, if_pos u2, w64 (x := a * K) (by omega) (by omega), w64 (x := a * K * p) (by omega) (by omega), w64 (x := C * M) (by omega) (by omega), w64 (x := C * M * 1048576) (by omega) (by omega),
      w64 (x := a - 1) (by omega) (by omega), w64 (x := (a - 1) * K) (by omega) (by omega), w64 (x := (a - 1) * K * p) (by omega) (by omega), e1, e2, if_pos u4, if_pos u3, if_pos (by omega), decide_eq_true a3]
  · rw [may_no h]
    simp only [Option.bind_some, Bool.false_eq_true, if_false]
    exact out
end Go.Proofs.Ytkcpkglplhgjfaa.Pure
