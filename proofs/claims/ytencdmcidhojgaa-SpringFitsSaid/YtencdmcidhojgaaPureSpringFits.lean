/- What is pressed has no more than the load, each from its least to its U; where all fit nothing is pressed; else just as much is left of the load as roundings take, or all are at their least. No condition. -/
import Derived.Test.YtencdmcidhojgaaQSpringFits
import Derived.Test.YtencdmcidhojgaaLibSpringPress
import Derived.Test.YtencdmcidhojgaaLibA07
namespace Go.Proofs.Ytencdmcidhojgaa.Pure
open Go.RowKit Go.Proofs.Ytencdmcidhojgaa.P Go.Proofs.YtencdmcidhojgaaW.PrintWords Go.Proofs.YtencdmcidhojgaaW.PrintLast
set_option linter.unusedVariables false
set_option linter.unusedSimpArgs false
theorem fits_loop {l : List Spr} (ho : ∀ s ∈ l, okP s) (h4 : l.length ≤ 4) {a b load : Int} (h0 : 0 ≤ a) (hb : 1 ≤ b) (hfull : sumU l ≤ load → sumPr a b l = sumU l) (hle : ¬ sumU l ≤ load → sumPr a b l ≤ load ∧ load < sumPr a b l + l.length) :
    ∀ (d i k : Nat) (bare : Bool) (s f : Int), i + d = l.length → d < k → 0 ≤ s → s ≤ i * 1048576 → 0 ≤ f → f ≤ i * 1048576 → s + sumPr a b (l.drop i) = sumPr a b l → f + sumU (l.drop i) = sumU l →
    fuseelaw07_SpringFits.l0 k l load (l.map (prs a b)) s f bare (i : Int) = some true := by
  intro d
  induction d with
  | zero =>
    intro i k bare s f hi hk s0 s1 f0 f1 e1 e2
    obtain ⟨k, rfl⟩ : ∃ x, k = x + 1 := ⟨k - 1, by omega⟩
    rw [List.drop_of_length_le (by omega)] at e1 e2
    simp only [sumPr, sumU, List.map_nil, List.sum_nil, Int.add_zero] at e1 e2
    have q1 : s = sumPr a b l := e1
    have q2 : f = sumU l := e2
    rw [fuseelaw07_SpringFits.l0, if_neg (by omega)]
    by_cases c : f ≤ load
    · rw [if_pos c]
      have := hfull (by omega)
      congr 1
      rw [beq_iff_eq]
      omega
    · have := hle (by omega)
      rw [if_neg c, if_pos (by omega), w64 (by omega) (by omega), if_pos (by omega)]
  | succ d ih =>
    intro i k bare s f hi hk s0 s1 f0 f1 e1 e2
    obtain ⟨k, rfl⟩ : ∃ x, k = x + 1 := ⟨k - 1, by omega⟩
    have hlt : i < l.length := by omega
    have o := ho _ (List.getElem_mem hlt)
    have p := prs_spec h0 hb o
    have bb := lst_bound o
    have ou := o.2.2.1
    rw [List.drop_eq_getElem_cons hlt, sumPr_cons] at e1
    rw [List.drop_eq_getElem_cons hlt, sumU_cons] at e2
    have next : ∀ bare, fuseelaw07_SpringFits.l0 k l load (l.map (prs a b)) (s + prs a b l[i]) (f + l[i].f0) bare ((i + 1 : Nat) : Int) = some true := fun bare => ih (i + 1) k bare _ _ (by omega) (by omega) (by omega) (by omega) (by omega) (by omega) (by omega) (by omega)
    rw [fuseelaw07_SpringFits.l0, if_pos (by omega), if_pos (by omega), if_pos (by rw [List.length_map]; omega), rd_spr hlt, rd_map _ hlt, rleast_eq, Option.bind_some, w64 (x := (i : Int) + 1) (by omega) (by omega), show ((i : Int) + 1) = ((i + 1 : Nat) : Int) by omega,
      w64 (x := s + prs a b l[i]) (by omega) (by omega), w64 (x := f + l[i].f0) (by omega) (by omega)]
    have body : ∀ bare, (if prs a b l[i] < lst l[i] then none else if prs a b l[i] > l[i].f0 then none else if l[i].f2 = 0 then if prs a b l[i] = l[i].f0 then fuseelaw07_SpringFits.l0 k l load (l.map (prs a b)) (s + prs a b l[i]) (f + l[i].f0) bare ((i + 1 : Nat) : Int) else none else fuseelaw07_SpringFits.l0 k l load (l.map (prs a b)) (s + prs a b l[i]) (f + l[i].f0) bare ((i + 1 : Nat) : Int)) = some true := by
      intro bare
      rw [if_neg (by omega), if_neg (by omega)]
      by_cases c : l[i].f2 = 0
      · rw [if_pos c, if_pos (p.2.2.2.2 c)]; exact next bare
      · rw [if_neg c]; exact next bare
    cases bare with
    | true => rw [if_pos rfl]; exact body _
    | false => rw [if_neg (by decide)]; exact body _
theorem SpringFits : fuseelaw07_SpringFits.Pure := by
  intro l load _ hl _ _
  refine ⟨l.length + 2000, ?_⟩
  unfold fuseelaw07_SpringFits.f
  rw [awake07 (by omega), Option.bind_some]
  by_cases h : roomP l load
  · obtain ⟨a, b, hi, hf, hp⟩ := press_ok h (k := l.length + 2000) (by omega)
    have ⟨p0, p1, p2, p3, p4, p5⟩ := hi
    have ho := h.1.1
    have h4 := h.1.2
    rw [hp, Option.bind_some, if_pos rfl, roomP_eq l load (by omega), Option.bind_some, decide_eq_true h, if_neg (by simp), if_pos rfl, if_pos (by simp)]
    have sp := sumPr_spec p0 p2 ho
    have sb := sumL_bound ho
    have g := isForce_le ho hi
    refine fits_loop ho h4 p0 p2 (fun hu => ?_) (fun hu => ?_) l.length 0 (l.length + 2000) true 0 0 (by omega) (by omega) (by omega) (by omega) (by omega) (by omega) (by simp) (by simp)
    · obtain ⟨rfl, rfl⟩ := isForce_full ho hi hu
      exact sumPr_zero ho
    · rcases p5 with ⟨_, q⟩ | ⟨c0, c1, c2⟩
      · exact absurd q hu
      · obtain ⟨y, hy, _⟩ := c2
        have ne : l ≠ [] := fun z => by rw [z] at hy; simp at hy
        have s3 := sp.2.2.1 ne
        have m1 : b * sumPr a b l ≤ b * load := by omega
        have m2 : b * load < b * (sumPr a b l + l.length) := by rw [Int.mul_add]; omega
        exact ⟨Int.le_of_mul_le_mul_left m1 (by omega), Int.lt_of_mul_lt_mul_left m2 (by omega)⟩
  · rw [press_no h (by omega), Option.bind_some, if_pos rfl, roomP_eq l load (by omega), Option.bind_some, decide_eq_false h]
    rfl
end Go.Proofs.Ytencdmcidhojgaa.Pure
