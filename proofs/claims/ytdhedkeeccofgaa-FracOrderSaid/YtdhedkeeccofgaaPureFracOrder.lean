/- Held the other way round it is the other way round; what is less than what is less is less; a whole number through 1 stands as it is. No condition. -/
import Derived.Test.YtdhedkeeccofgaaPx7
import Derived.Test.YtdhedkeeccofgaaLibFrac
import Derived.Test.YtdhedkeeccofgaaLibA01
namespace Go.Proofs.Ytdhedkeeccofgaa.Pure
open Go.RowKit Go.Proofs.Ytdhedkeeccofgaa.P Go.Proofs.YtdhedkeeccofgaaW.PrintWords Go.Proofs.YtdhedkeeccofgaaW.PrintLast
set_option linter.unusedVariables false
set_option linter.unusedSimpArgs false
/-- What stands to what. -/
def sgn (x y : Int) : Int := if x < y then -1 else if y < x then 1 else 0
theorem sgn_neg (x y : Int) : wrap64 (-sgn x y) = sgn y x := by
  unfold sgn wrap64
  repeat' split
  all_goals omega
theorem sgn_lt {x y : Int} : sgn x y < 0 ↔ x < y := by
  unfold sgn
  repeat' split
  all_goals omega
theorem sgn_eq {x y : Int} : sgn x y = 0 ↔ x = y := by
  unfold sgn
  repeat' split
  all_goals omega
theorem cmp_tell (a b c d : Int) : ∃ x o, frac_Cmp.f a b c d = some (x, o) ∧ (o = true ↔ okq a b ∧ okq c d) ∧ (o = true → x = sgn (a * d) (c * b)) ∧ (o = false → x = 0) := by
  by_cases h : okq a b ∧ okq c d
  · exact ⟨_, _, cmp_ok h.1 h.2, ⟨fun _ => h, fun _ => rfl⟩, fun _ => rfl, (fun h => by cases h)⟩
  · exact ⟨_, _, cmp_no h, ⟨(fun h => by cases h), fun q => absurd q h⟩, (fun h => by cases h), fun _ => rfl⟩
theorem FracOrder : fuseelaw01_FracOrder.Pure := by
  intro a b c d e f _ _ _ _ _ _
  refine ⟨1, ?_⟩
  unfold fuseelaw01_FracOrder.f
  rw [awake01]
  obtain ⟨x, o1, h1, t1, v1, n1⟩ := cmp_tell a b c d
  obtain ⟨y, o2, h2, t2, v2, n2⟩ := cmp_tell c d a b
  obtain ⟨z, o3, h3, t3, v3, n3⟩ := cmp_tell c d e f
  obtain ⟨w, o4, h4, t4, v4, n4⟩ := cmp_tell a b e f
  rw [h1, h2, h3, h4]
  simp only [Option.bind_some, if_true]
  have e12 : o2 = o1 := by
    rw [Bool.eq_iff_iff, t1, t2]
    exact And.comm
  subst e12
  rw [if_neg (by cases o2 <;> decide)]
  have exy : (x != wrap64 (-y)) = false := by
    rw [bne_eq_false_iff_eq]
    cases o2 with
    | true => rw [v1 rfl, v2 rfl, sgn_neg]
    | false => rw [n1 rfl, n2 rfl]; unfold wrap64; omega
  rw [exy, fuseelaw01_FracOrder.j0, if_neg (by decide)]
  have fin : ((frac_Cmp.f a 1 c 1).bind fun bt => if bt.2 = true then (if ((decide (bt.1 < 0)) == (decide (a < c))) = true then some ((bt.1 == 0) == (a == c)) else some false) else some true) = some true := by
    obtain ⟨v, o, h, t, val, n⟩ := cmp_tell a 1 c 1
    rw [h]
    simp only [Option.bind_some]
    cases o with
    | false => rfl
    | true =>
      rw [if_pos rfl]
      have hv := val rfl
      rw [Int.mul_one, Int.mul_one] at hv
      subst hv
      have e1 : decide (sgn a c < 0) = decide (a < c) := by rw [Bool.eq_iff_iff]; simp [sgn_lt]
      have e2 : (sgn a c == 0) = (a == c) := by rw [Bool.eq_iff_iff]; simp [sgn_eq]
      rw [e1, e2]
      simp
  rw [fin]
  have trans : o2 = true → o3 = true → x < 0 → z < 0 → ¬ w ≥ 0 := by
    intro g2 g3 gx gz
    obtain ⟨p1, p2⟩ := t1.1 g2
    obtain ⟨q1, q2⟩ := t3.1 g3
    have g4 : o4 = true := t4.2 ⟨p1, q2⟩
    rw [v1 g2, sgn_lt] at gx
    rw [v3 g3, sgn_lt] at gz
    have : w < 0 := by
      rw [v4 g4, sgn_lt]
      obtain ⟨_, _, b0, _⟩ := p1
      obtain ⟨_, _, d0, _⟩ := q1
      obtain ⟨_, _, f0, _⟩ := q2
      have k1 : a * d * f < c * b * f := Int.mul_lt_mul_of_pos_right gx (by omega)
      have k2 : c * f * b < e * d * b := Int.mul_lt_mul_of_pos_right gz (by omega)
      have k3 : (a * f) * d < (e * b) * d := by
        have z1 : a * f * d = a * d * f := by grind
        have z2 : e * b * d = e * d * b := by grind
        have z3 : c * b * f = c * f * b := by grind
        omega
      exact Int.lt_of_mul_lt_mul_right k3 (by omega)
    omega
  repeat' split
  all_goals first | rfl | exact absurd ‹w ≥ 0› (trans ‹_› ‹_› ‹_› ‹_›)
end Go.Proofs.Ytdhedkeeccofgaa.Pure
