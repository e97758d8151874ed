/- Any task, at any period, has the units, and any are together, and fit, or not, as the document says. No condition. -/
import Derived.Test.YtkcpkglplhgjfaaQUnitsTell
import Derived.Test.YtkcpkglplhgjfaaLibR06
import Derived.Test.YtkcpkglplhgjfaaLibSum
import Derived.Test.YtkcpkglplhgjfaaLibA06
namespace Go.Proofs.Ytkcpkglplhgjfaa.Pure
open Go.RowKit Go.Proofs.Ytkcpkglplhgjfaa.P Go.Proofs.YtkcpkglplhgjfaaW.PrintWords Go.Proofs.YtkcpkglplhgjfaaW.PrintLast
set_option linter.unusedVariables false
set_option linter.unusedSimpArgs false
theorem rsum_l0 (l : List Int) (hl : (l.length : Int) ≤ 1100) : ∀ (d i : Nat) (s : Int), i + d = l.length → (l.length ≤ 1000 → 0 ≤ s ∧ s ≤ i * 1099511627776) →
    fuseeref06_Sum.l0 (d + 1) l s i = if d = 0 ∨ l.length ≤ 1000 ∧ (l.drop i).any units_Sum.bad = false then some (s + (l.drop i).sum, true) else some (0, false) := by
  intro d
  induction d with
  | zero =>
    intro i s hi hs
    rw [fuseeref06_Sum.l0, if_neg (by omega), if_pos (.inl rfl), List.drop_of_length_le (by omega)]
    simp
  | succ d ih =>
    intro i s hi hs
    have hlt : i < l.length := by omega
    have hd : l.drop i = l[i] :: l.drop (i + 1) := List.drop_eq_getElem_cons hlt
    have hr : rd l (i : Int) = l[i] := by simp [rd, List.getD_eq_getElem?_getD, List.getElem?_eq_getElem hlt]
    rw [fuseeref06_Sum.l0, if_pos (by omega), if_pos (by omega), hr, hd]
    generalize l[i] = x at *
    rw [List.any_cons, List.sum_cons]
    by_cases c1 : x < 0
    · rw [if_pos c1, if_neg]
      rintro (h | h)
      · omega
      · have := h.2
        rw [Bool.or_eq_false_iff] at this
        have := (bad_iff x).1 this.1
        omega
    · rw [if_neg c1]
      by_cases c2 : x > 1099511627776
      · rw [if_pos c2, if_neg]
        rintro (h | h)
        · omega
        · have := h.2
          rw [Bool.or_eq_false_iff] at this
          have := (bad_iff x).1 this.1
          omega
      · rw [if_neg c2]
        have hb : units_Sum.bad x = false := (bad_iff x).2 (by omega)
        by_cases c3 : (l.length : Int) > 1000
        · rw [if_pos c3, if_neg]
          rintro (h | h)
          · omega
          · omega
        · rw [if_neg c3]
          have hs' := hs (by omega)
          have e1 : wrap64 ((i : Int) + 1) = ((i + 1 : Nat) : Int) := by rw [w64 (by omega) (by omega)]; omega
          rw [w64 (x := s + x) (by omega) (by omega), e1, ih (i + 1) (s + x) (by omega) (fun _ => by omega), hb, Bool.false_or]
          by_cases c4 : d = 0
          · subst c4
            have : l.drop (i + 1) = [] := List.drop_of_length_le (by omega)
            rw [this, if_pos (.inl rfl), if_pos (.inr ⟨by omega, rfl⟩)]
            simp
          · by_cases c5 : (l.drop (i + 1)).any units_Sum.bad = false
            · rw [if_pos (.inr ⟨by omega, c5⟩), if_pos (.inr ⟨by omega, c5⟩), Int.add_assoc]
            · rw [if_neg (by rintro (h | h); exact c4 h; exact c5 h.2), if_neg (by rintro (h | h); omega; exact c5 h.2)]
theorem rsum_eq (l : List Int) (hl : (l.length : Int) ≤ 1100) : fuseeref06_Sum.f (l.length + 1) l = units_Sum.f l := by
  unfold fuseeref06_Sum.f
  have := rsum_l0 l hl l.length 0 0 (by omega) (fun _ => by omega)
  rw [show ((0 : Nat) : Int) = 0 from rfl] at this
  rw [this, List.drop_zero, Int.zero_add]
  by_cases h : okL l
  · rw [sum_ok h, if_pos (.inr h)]
  · rw [sum_no h, if_neg]
    rintro (q | q)
    · have : l = [] := List.eq_nil_of_length_eq_zero q
      subst this
      exact h okL_nil
    · exact h q
theorem UnitsTell : fuseelaw06_UnitsTell.Pure := by
  intro C T X M K E p l _ _ _ _ _ _ _ _ _ _
  refine ⟨l.length + 3, ?_⟩
  unfold fuseelaw06_UnitsTell.f
  rw [awake06]
  simp only [Option.bind_some, if_true]
  by_cases c : (l.length : Int) > 1100
  · rw [decide_eq_true c, fuseelaw06_UnitsTell.j0, if_pos rfl]
  rw [decide_eq_false c, fuseelaw06_UnitsTell.j0, if_neg (by decide)]
  obtain ⟨p1, q1⟩ : ∃ x, units_Sum.f l = some x := by
    by_cases h : okL l
    · exact ⟨_, sum_ok h⟩
    · exact ⟨_, sum_no h⟩
  have up1 : ∀ x y z u v w q r, fuseeref06_At.f 1 x y z u v w q = some r → fuseeref06_At.f (l.length + 2) x y z u v w q = some r := fun x y z u v w q r h => at_rounds (fuseeref06_At.mono x y z u v w q) (by omega) h
  obtain ⟨u1, v1⟩ : ∃ x, units_At.f C T X M K E p = some x := by
    by_cases h : okS C T X M K E ∧ T ≤ p ∧ p ≤ X
    · exact ⟨_, at_ok h.1 h.2.1 h.2.2⟩
    · exact ⟨_, at_no h⟩
  obtain ⟨u2, v2⟩ : ∃ x, units_Top.f C T X M K E = some x := by
    by_cases h : okS C T X M K E
    · exact ⟨_, top_ok h⟩
    · exact ⟨_, top_no h⟩
  obtain ⟨u3, v3⟩ : ∃ x, units_Least.f C T X M K E = some x := by
    by_cases h : okS C T X M K E
    · exact ⟨_, least_ok h⟩
    · exact ⟨_, least_no h⟩
  have z1 := at_rounds (fuseeref06_At.mono C T X M K E p) (show 1 ≤ l.length + 2 by omega) ((rat_eq C T X M K E p).trans v1)
  have z2 := at_rounds (fuseeref06_Top.mono C T X M K E) (show 1 ≤ l.length + 2 by omega) ((rtop_eq C T X M K E).trans v2)
  have z3 := at_rounds (fuseeref06_Least.mono C T X M K E) (show 1 ≤ l.length + 2 by omega) ((rleast_eq C T X M K E).trans v3)
  have z4 := at_rounds (fuseeref06_Sum.mono l) (show l.length + 1 ≤ l.length + 2 by omega) ((rsum_eq l (by omega)).trans q1)
  have z5 : fuseeref06_Fits.f (l.length + 2) l = units_Fits.f l := by
    unfold fuseeref06_Fits.f units_Fits.f
    rw [z4, q1]
  rw [q1, z4, v1, z1, v2, z2, v3, z3, z5]
  obtain ⟨u4, v4⟩ : ∃ x, units_Fits.f l = some x := by
    by_cases h : okL l
    · exact ⟨_, fits_ok h⟩
    · exact ⟨_, fits_no h⟩
  rw [v4]
  simp
end Go.Proofs.Ytkcpkglplhgjfaa.Pure
