/- With more load no spring is pressed more; the least load for which there is room presses all to their least. No condition. -/
import Derived.Test.YtencdmcidhojgaaQSpringMore
import Derived.Test.YtencdmcidhojgaaLibSpringPress
import Derived.Test.YtencdmcidhojgaaLibA07
namespace Go.Proofs.Ytencdmcidhojgaa.Pure
open Go.RowKit Go.Proofs.Ytencdmcidhojgaa.P Go.Proofs.YtencdmcidhojgaaW.PrintWords Go.Proofs.YtencdmcidhojgaaW.PrintLast
set_option linter.unusedVariables false
set_option linter.unusedSimpArgs false
theorem more_sum {v : List Int} (h : v.length ≤ 4) (hv : ∀ x ∈ v, 0 ≤ x ∧ x ≤ 1048576) {low : Int} (hs : v.sum = low) : ∀ (d i k : Nat) (s : Int), i + d = v.length → d < k → 0 ≤ s → s ≤ i * 1048576 → s + (v.drop i).sum = low → fuseelaw07_SpringMore.l1 k low v true s (i : Int) = some true := by
  intro d
  induction d with
  | zero =>
    intro i k s hi hk s0 s1 e
    obtain ⟨k, rfl⟩ : ∃ x, k = x + 1 := ⟨k - 1, by omega⟩
    rw [List.drop_of_length_le (by omega), List.sum_nil] at e
    rw [fuseelaw07_SpringMore.l1, if_neg (by omega), if_pos rfl]
    congr 1
    rw [beq_iff_eq]
    omega
  | succ d ih =>
    intro i k s hi hk s0 s1 e
    obtain ⟨k, rfl⟩ : ∃ x, k = x + 1 := ⟨k - 1, by omega⟩
    have hlt : i < v.length := by omega
    have b := hv _ (List.getElem_mem hlt)
    have hr : rd v (i : Int) = v[i] := by unfold rd; rw [Int.toNat_natCast]; simp [List.getD_eq_getElem?_getD, List.getElem?_eq_getElem hlt]
    rw [List.drop_eq_getElem_cons hlt, List.sum_cons] at e
    rw [fuseelaw07_SpringMore.l1, if_pos (by omega), if_pos (by omega), hr, w64 (by omega) (by omega), w64 (by omega) (by omega), show ((i : Int) + 1) = ((i + 1 : Nat) : Int) by omega]
    exact ih (i + 1) k _ (by omega) (by omega) (by omega) (by omega) (by omega)
theorem more_loop {l : List Spr} (ho : ∀ s ∈ l, okP s) (h4 : l.length ≤ 4) {a b a' b' : Int} (h0 : 0 ≤ a) (h0' : 0 ≤ a') (hb : 1 ≤ b) (hb' : 1 ≤ b') (h : a' * b ≤ a * b') :
    ∀ (d i k : Nat) (s : Int), i + d = l.length → d + 100 ≤ k → 0 ≤ s → s ≤ i * 1048576 → s + sumL (l.drop i) = sumL l → fuseelaw07_SpringMore.l0 k l (l.map (prs a b)) (l.map (prs a' b')) s (i : Int) = some true := by
  intro d
  induction d with
  | zero =>
    intro i k s hi hk s0 s1 e
    obtain ⟨k, rfl⟩ : ∃ x, k = x + 1 := ⟨k - 1, by omega⟩
    rw [List.drop_of_length_le (by omega)] at e
    simp only [sumL, List.map_nil, List.sum_nil, Int.add_zero] at e
    have es : s = sumL l := e
    have sb := sumL_bound ho
    obtain ⟨c, q, hi2, hf, hp⟩ := press_ok (l := l) (load := sumL l) ⟨⟨ho, h4⟩, by omega, by omega, Int.le_refl _⟩ (k := k) (by omega)
    have ⟨p0, p1, p2, p3, p4, p5⟩ := hi2
    have sp := sumPr_spec p0 p2 ho
    have g := isForce_le ho hi2
    have hs : sumPr c q l = sumL l := by
      have m1 : q * sumPr c q l ≤ q * sumL l := by omega
      have := Int.le_of_mul_le_mul_left m1 (by omega)
      omega
    rw [fuseelaw07_SpringMore.l0, if_neg (by omega), es, hp, Option.bind_some]
    refine more_sum (v := l.map (prs c q)) (by rw [List.length_map]; exact h4) (fun x hx => ?_) hs l.length 0 k 0 (by rw [List.length_map]; omega) (by omega) (by omega) (by omega) (by rw [List.drop_zero, Int.zero_add]; exact hs)
    obtain ⟨y, hy, rfl⟩ := List.mem_map.1 hx
    have p := prs_spec p0 p2 (ho y hy)
    have bb := lst_bound (ho y hy)
    have := (ho y hy).2.2.1
    omega
  | succ d ih =>
    intro i k s hi hk s0 s1 e
    obtain ⟨k, rfl⟩ : ∃ x, k = x + 1 := ⟨k - 1, by omega⟩
    have hlt : i < l.length := by omega
    have o := ho _ (List.getElem_mem hlt)
    have bb := lst_bound o
    have ou := o.2.2.1
    have m := prs_mono h0 h0' hb hb' h o
    rw [List.drop_eq_getElem_cons hlt, sumL_cons] at e
    rw [fuseelaw07_SpringMore.l0, if_pos (by omega), if_pos (by omega), if_pos (by rw [List.length_map]; omega), if_pos (by rw [List.length_map]; omega), rd_map _ hlt, rd_map _ hlt, if_neg (by omega), rd_spr hlt, rleast_eq, Option.bind_some, w64 (by omega) (by omega), w64 (by omega) (by omega), show ((i : Int) + 1) = ((i + 1 : Nat) : Int) by omega]
    exact ih (i + 1) k _ (by omega) (by omega) (by omega) (by omega) (by omega)
theorem SpringMore : fuseelaw07_SpringMore.Pure := by
  intro l load more _ hl _ _ _
  refine ⟨l.length + 2000, ?_⟩
  unfold fuseelaw07_SpringMore.f
  rw [awake07 (by omega), Option.bind_some]
  by_cases h : roomP l load
  · obtain ⟨a, b, hi, _, hp⟩ := press_ok h (k := l.length + 2000) (by omega)
    rw [hp, Option.bind_some]
    by_cases h' : roomP l more
    · obtain ⟨a', b', hi', _, hp'⟩ := press_ok h' (k := l.length + 2000) (by omega)
      have h4 := h.1.2
      rw [hp', Option.bind_some, if_pos rfl, if_pos rfl, if_pos rfl]
      by_cases c : more < load
      · rw [if_pos c, decide_eq_true c]
      · have an := isForce_anti h.1.1 (by omega) hi hi'
        rw [if_neg c, if_pos (by simp), if_pos (by simp)]
        exact more_loop h.1.1 h.1.2 hi.1 hi'.1 hi.2.2.1 hi'.2.2.1 an l.length 0 _ 0 (by omega) (by omega) (by omega) (by omega) (by rw [List.drop_zero, Int.zero_add])
    · rw [press_no h' (by omega), Option.bind_some, if_pos rfl, if_pos rfl]
      rfl
  · rw [press_no h (by omega), Option.bind_some]
    by_cases h' : roomP l more
    · obtain ⟨a', b', hi', _, hp'⟩ := press_ok h' (k := l.length + 2000) (by omega)
      rw [hp']
      rfl
    · rw [press_no h' (by omega)]
      rfl
end Go.Proofs.Ytencdmcidhojgaa.Pure
