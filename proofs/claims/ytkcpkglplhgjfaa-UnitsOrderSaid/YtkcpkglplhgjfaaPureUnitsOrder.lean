/- In another order units are as many together; one more is one more. No condition. -/
import Derived.Test.YtkcpkglplhgjfaaPx10
import Derived.Test.YtkcpkglplhgjfaaLibSum
import Derived.Test.YtkcpkglplhgjfaaLibA06
namespace Go.Proofs.Ytkcpkglplhgjfaa.Pure
open Go.RowKit Go.Proofs.Ytkcpkglplhgjfaa.P Go.Proofs.YtkcpkglplhgjfaaW.PrintWords Go.Proofs.YtkcpkglplhgjfaaW.PrintLast
set_option linter.unusedVariables false
set_option linter.unusedSimpArgs false
theorem okL_reverse (l : List Int) : okL l.reverse ↔ okL l := by
  unfold okL
  rw [List.length_reverse, List.any_reverse]
theorem okL_snoc (l : List Int) (x : Int) (hl : l.length ≤ 500) : okL (l ++ [x]) ↔ okL l ∧ 0 ≤ x ∧ x ≤ 1099511627776 := by
  unfold okL
  rw [List.any_append, List.length_append, Bool.or_eq_false_iff, List.any_cons, List.any_nil, Bool.or_false, bad_iff]
  simp only [List.length_singleton]
  constructor
  · rintro ⟨a, b, c⟩; exact ⟨⟨by omega, b⟩, c⟩
  · rintro ⟨⟨a, b⟩, c⟩; exact ⟨by omega, b, c⟩
theorem sum_any (l : List Int) : ∃ S b, units_Sum.f l = some (S, b) ∧ (okL l → S = l.sum ∧ b = true) ∧ (¬ okL l → S = 0 ∧ b = false) := by
  by_cases h : okL l
  · exact ⟨_, _, sum_ok h, fun _ => ⟨rfl, rfl⟩, fun q => absurd h q⟩
  · exact ⟨_, _, sum_no h, fun q => absurd q h, fun _ => ⟨rfl, rfl⟩⟩
theorem fits_any (l : List Int) : ∃ b, units_Fits.f l = some b := by
  by_cases h : okL l
  · exact ⟨_, fits_ok h⟩
  · exact ⟨_, fits_no h⟩
theorem fits_reverse (l : List Int) : units_Fits.f l.reverse = units_Fits.f l := by
  by_cases h : okL l
  · rw [fits_ok h, fits_ok ((okL_reverse l).2 h), sum_reverse]
  · rw [fits_no h, fits_no (fun q => h ((okL_reverse l).1 q))]
theorem unitsOrder_end (l : List Int) (x : Int) (hl : l.length ≤ 500) (f : Nat) : fuseelaw06_UnitsOrder.l0 (f + 1) l x l.reverse 0 = some true := by
  rw [fuseelaw06_UnitsOrder.l0, if_neg (by omega)]
  obtain ⟨b, hb⟩ := fits_any l
  rw [fits_reverse, hb]
  simp only [Option.bind_some, BEq.rfl]
  by_cases h : okL l
  · have hB := sum_bounds l h.2
    have hrs := sum_ok ((okL_reverse l).2 h)
    rw [sum_reverse] at hrs
    rw [sum_ok h, hrs]
    simp only [Option.bind_some, if_true, BEq.rfl]
    rw [if_pos (by rw [List.length_reverse]; omega)]
    by_cases c : 0 ≤ x ∧ x ≤ 1099511627776
    · have ho : okL (l.reverse ++ [x]) := (okL_snoc _ _ (by rw [List.length_reverse]; exact hl)).2 ⟨(okL_reverse l).2 h, c⟩
      rw [sum_ok ho, sum_append, sum_reverse]
      simp only [Option.bind_some, if_true, List.sum_cons, List.sum_nil, Int.add_zero]
      rw [if_pos c.1, decide_eq_true c.2, w64 (by omega) (by omega)]
      simp
    · have ho : ¬ okL (l.reverse ++ [x]) := fun q => c ((okL_snoc _ _ (by rw [List.length_reverse]; exact hl)).1 q).2
      rw [sum_no ho]
      simp only [Option.bind_some]
      by_cases c1 : x ≥ 0
      · rw [if_pos c1, decide_eq_false (fun q => c ⟨c1, q⟩)]
        simp
      · rw [if_neg c1]
        simp
  · have ho : ¬ okL (l.reverse ++ [x]) := fun q => h ((okL_reverse l).1 ((okL_snoc _ _ (by rw [List.length_reverse]; exact hl)).1 q).1)
    rw [sum_no h, sum_no (fun q => h ((okL_reverse l).1 q))]
    simp only [Option.bind_some]
    rw [if_pos (by rw [List.length_reverse]; omega), sum_no ho]
    simp
theorem unitsOrder_loop (l : List Int) (x : Int) (hl : l.length ≤ 500) : ∀ (i f : Nat), i ≤ l.length → i < f → fuseelaw06_UnitsOrder.l0 f l x (l.drop i).reverse (i : Int) = some true
  | 0, f, hi, hf => by
    obtain ⟨f, rfl⟩ : ∃ x, f = x + 1 := ⟨f - 1, by omega⟩
    rw [List.drop_zero]
    exact unitsOrder_end l x hl f
  | i + 1, f, hi, hf => by
    obtain ⟨f, rfl⟩ : ∃ x, f = x + 1 := ⟨f - 1, by omega⟩
    have hlt : i < l.length := by omega
    have ih := unitsOrder_loop l x hl i f (by omega) (by omega)
    rw [List.drop_eq_getElem_cons hlt, List.reverse_cons] at ih
    have hr : rd l (i : Int) = l[i] := by simp [rd, List.getD_eq_getElem?_getD, List.getElem?_eq_getElem hlt]
    rw [fuseelaw06_UnitsOrder.l0, if_pos (by omega), w64 (by omega) (by omega), show (((i + 1 : Nat) : Int) - 1) = (i : Int) by omega, if_pos (by omega), if_pos (by omega), if_pos (by rw [List.length_reverse, List.length_drop]; omega), hr]
    exact ih
theorem UnitsOrder : fuseelaw06_UnitsOrder.Pure := by
  intro l x _ _ _ _
  refine ⟨600, ?_⟩
  unfold fuseelaw06_UnitsOrder.f
  rw [awake06]
  simp only [Option.bind_some, if_true]
  by_cases c : (l.length : Int) > 500
  · rw [if_pos c]
  · rw [if_neg c]
    have := unitsOrder_loop l x (by omega) l.length 600 (Nat.le_refl _) (by omega)
    rw [List.drop_length] at this
    exact this
end Go.Proofs.Ytkcpkglplhgjfaa.Pure
