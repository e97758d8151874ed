/- The bound grows by 16 with each time that must still be run, and by 32 with each that a task more takes. No condition. -/
import Derived.Test.YtaejikbfnlihmaaQPlanBound
import Derived.Test.YtaejikbfnlihmaaLibAll10
namespace Go.Proofs.Ytaejikbfnlihmaa.Pure
open Go.RowKit Go.Proofs.Ytaejikbfnlihmaa.P Go.Proofs.YtaejikbfnlihmaaW.PrintWords Go.Proofs.YtaejikbfnlihmaaW.PrintLast
set_option linter.unusedVariables false
set_option linter.unusedSimpArgs false
theorem bound_loop {l : List Fix} (h : mayF l) {r : Int} (h0 : 0 ≤ r) (h1 : r < 1048576) : ∀ (d i k : Nat) (c : Int), i + d = l.length → d + l.length + 3 ≤ k → 0 ≤ c → c ≤ i * 6 → c + sumC (l.drop i) = sumC l → fuseelaw10_PlanBound.l0 k l r (16 * (r + 2 * sumC l) + 1) c (i : Int) = some true := by
  have h4 := h.2.1
  intro d
  induction d with
  | zero =>
    intro i k c hi hk c0 c1 e
    obtain ⟨k, rfl⟩ : ∃ y, k = y + 1 := ⟨k - 1, by omega⟩
    rw [List.drop_of_length_le (by omega)] at e
    simp only [sumC, List.map_nil, List.sum_nil, Int.add_zero] at e
    have e' : c = sumC l := e
    rw [fuseelaw10_PlanBound.l0, if_neg (by omega), w64 (x := 16 * r) (by omega) (by omega), w64 (x := 32 * c) (by omega) (by omega), w64 (x := 16 * r + 32 * c) (by omega) (by omega), w64 (x := 16 * r + 32 * c + 1) (by omega) (by omega), if_pos (by omega), w64 (x := r + 1) (by omega) (by omega), bound_ok h (by omega) (by omega) (by omega), Option.bind_some, w64 (by omega) (by omega)]
    congr 1
    rw [beq_iff_eq]
    omega
  | succ d ih =>
    intro i k c hi hk c0 c1 e
    obtain ⟨k, rfl⟩ : ∃ y, k = y + 1 := ⟨k - 1, by omega⟩
    have hlt : i < l.length := by omega
    have o := okF_nums (h.1 _ (List.getElem_mem hlt))
    rw [List.drop_eq_getElem_cons hlt, sumC_cons] at e
    rw [fuseelaw10_PlanBound.l0, if_pos (by omega), if_pos (by omega), rd_fix hlt, w64 (x := c + l[i].f0.f0) (by omega) (by omega), w64 (by omega) (by omega), show ((i : Int) + 1) = ((i + 1 : Nat) : Int) by omega]
    exact ih (i + 1) k _ (by omega) (by omega) (by omega) (by omega) (by omega)
theorem PlanBound : fuseelaw10_PlanBound.Pure := by
  intro l r hl1 hl2 _ _
  have hl : l.length < 17592186044416 := by omega
  refine ⟨l.length + l.length + 1000, ?_⟩
  unfold fuseelaw10_PlanBound.f
  rw [awake10 (by omega), Option.bind_some, if_pos rfl, may_list l hl (by omega), Option.bind_some]
  by_cases m : mayF l
  · rw [decide_eq_true m, if_pos rfl]
    by_cases c1 : r < 0
    · rw [if_pos c1]
    · rw [if_neg c1]
      by_cases c2 : r ≥ 1048576
      · rw [if_pos c2]
      · rw [if_neg c2, bound_ok m (by omega) (by omega) (by omega), Option.bind_some]
        exact bound_loop m (by omega) (by omega) l.length 0 _ 0 (by omega) (by omega) (by omega) (by omega) (by simp)
  · rw [decide_eq_false m, if_neg (by decide)]
end Go.Proofs.Ytaejikbfnlihmaa.Pure
