/- What is told is of the same tasks, in order, each at a period that it may have; it may be, and passes the test; where all have room each has its least period. No condition. -/
import Derived.Test.YtaejikbfnlihmaaQPlanFits
import Derived.Test.YtaejikbfnlihmaaLibAll10
namespace Go.Proofs.Ytaejikbfnlihmaa.Pure
open Go.RowKit Go.Proofs.Ytaejikbfnlihmaa.P Go.Proofs.YtaejikbfnlihmaaW.PrintWords Go.Proofs.YtaejikbfnlihmaaW.PrintLast
set_option linter.unusedVariables false
set_option linter.unusedSimpArgs false
theorem tops_cons (s : Spec) (l : List Spec) : tops (s :: l) = topS s + tops l := by unfold tops; rw [List.map_cons, List.sum_cons]
theorem fits_one {l : List Spec} (h : mayT l) {a b : Int} (hi : isForce (l.map sprOf) 983040 a b) : ∀ (d i k : Nat), i + d = l.length → d < k → fuseelaw10_PlanFits.l1 k l (l.map (fixOf a b)) (tops l) (i : Int) = some true := by
  intro d
  induction d with
  | zero =>
    intro i k hi' hk
    obtain ⟨k, rfl⟩ : ∃ y, k = y + 1 := ⟨k - 1, by omega⟩
    rw [fuseelaw10_PlanFits.l1, if_neg (by omega)]
  | succ d ih =>
    intro i k hi' hk
    obtain ⟨k, rfl⟩ : ∃ y, k = y + 1 := ⟨k - 1, by omega⟩
    have hlt : i < l.length := by omega
    have h4 := h.2
    rw [fuseelaw10_PlanFits.l1, if_pos (by omega)]
    by_cases c : tops l ≤ 983040
    · rw [if_pos c, if_pos (by omega), if_pos (by rw [List.length_map]; omega), rd_fixes _ hlt, rd_spec hlt, if_pos (show (fixOf a b l[i]).f1 = l[i].f1 from per_full h hi c (h.1 _ (List.getElem_mem hlt))), w64 (by omega) (by omega), show ((i : Int) + 1) = ((i + 1 : Nat) : Int) by omega]
      exact ih (i + 1) k (by omega) (by omega)
    · rw [if_neg c]
theorem fits_all {l : List Spec} (h : mayT l) {a b : Int} (hi : isForce (l.map sprOf) 983040 a b) : ∀ (d i k : Nat) (x : Int), i + d = l.length → d + l.length + 1 < k → 0 ≤ x → x ≤ i * 1048576 → x + tops (l.drop i) = tops l → fuseelaw10_PlanFits.l0 k l (l.map (fixOf a b)) x (i : Int) = some true := by
  intro d
  induction d with
  | zero =>
    intro i k x hi' hk x0 x1 e
    obtain ⟨k, rfl⟩ : ∃ y, k = y + 1 := ⟨k - 1, by omega⟩
    rw [List.drop_of_length_le (by omega)] at e
    simp only [tops, List.map_nil, List.sum_nil, Int.add_zero] at e
    have e' : x = tops l := e
    rw [fuseelaw10_PlanFits.l0, if_neg (by omega), e']
    exact fits_one h hi l.length 0 k (by omega) (by omega)
  | succ d ih =>
    intro i k x hi' hk x0 x1 e
    obtain ⟨k, rfl⟩ : ∃ y, k = y + 1 := ⟨k - 1, by omega⟩
    have hlt : i < l.length := by omega
    have h4 := h.2
    have o := h.1 _ (List.getElem_mem hlt)
    have o' : okS l[i].f0 l[i].f1 l[i].f2 l[i].f3 l[i].f4 l[i].f5 := o
    have p := perS_spec hi.1 hi.2.2.1 o
    have u := unitsOf_spec o' (Int.le_refl _) o'.2.2.2.1
    have ut : unitsOf l[i].f0 l[i].f3 l[i].f4 l[i].f1 = topS l[i] := rfl
    rw [List.drop_eq_getElem_cons hlt, tops_cons] at e
    rw [fuseelaw10_PlanFits.l0, if_pos (by omega), if_pos (by omega), rd_spec hlt, top_ok o', Option.bind_some, if_pos (by rw [List.length_map]; omega), rd_fixes _ hlt, if_neg (by simp [fixOf]), if_neg (by show ¬ perS a b l[i] < l[i].f1; omega), if_neg (by show ¬ perS a b l[i] > l[i].f2; omega), ut, w64 (x := x + topS l[i]) (by omega) (by omega), w64 (by omega) (by omega), show ((i : Int) + 1) = ((i + 1 : Nat) : Int) by omega]
    exact ih (i + 1) k _ (by omega) (by omega) (by omega) (by omega) (by omega)
theorem PlanFits : fuseelaw10_PlanFits.Pure := by
  intro l hl1 hl2 _
  refine ⟨1000, ?_⟩
  unfold fuseelaw10_PlanFits.f
  rw [awake10 (by omega), Option.bind_some, if_pos rfl]
  by_cases c1 : (l.length : Int) > 10
  · rw [if_pos c1]
  · rw [if_neg c1]
    by_cases c2 : 4 < l.length
    · rw [target_full c2, Option.bind_some, if_neg (by decide), if_pos (by rfl), decide_eq_true (show (l.length : Int) > 4 by omega)]
      rfl
    · obtain ⟨f, e, ht, hc⟩ := target_cases l (by omega) (k := 1000) (by omega)
      rw [ht, Option.bind_some]
      dsimp only
      rcases hc with ⟨_, rfl, rfl⟩ | ⟨_, _, rfl, rfl⟩ | ⟨ha, hr, a, b, hi, hc⟩
      · rw [if_neg (by decide), if_pos (by rfl), decide_eq_false (show ¬ (l.length : Int) > 4 by omega)]
        rfl
      · rw [if_neg (by decide), if_pos (by rfl), decide_eq_false (show ¬ (l.length : Int) > 4 by omega)]
        rfl
      · rcases hc with ⟨htb, rfl, rfl⟩ | ⟨_, rfl, rfl⟩
        · have hm : mayT l := ⟨ha, by omega⟩
          have hf := fixes_may hm hi
          rw [if_pos rfl, if_pos (by rw [List.length_map]), may_list _ (by rw [List.length_map]; omega) (by rw [List.length_map]; omega), Option.bind_some, decide_eq_true hf, if_pos rfl, test_eq _ (by rw [List.length_map]; omega) (by rw [List.length_map]; omega), Option.bind_some, htb, if_pos rfl]
          exact fits_all hm hi l.length 0 1000 0 (by omega) (by omega) (by omega) (by omega) (by simp)
        · rw [if_neg (by decide), if_pos (by rfl), decide_eq_false (show ¬ (l.length : Int) > 4 by omega)]
          rfl
end Go.Proofs.Ytaejikbfnlihmaa.Pure
