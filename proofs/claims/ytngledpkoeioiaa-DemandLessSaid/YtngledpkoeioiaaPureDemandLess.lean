/- What passes passes with one task less, and with a longer period of one. No condition. -/
import Derived.Test.YtngledpkoeioiaaQDemandLess
import Derived.Test.YtngledpkoeioiaaLibDemandTest
import Derived.Test.YtngledpkoeioiaaLibA09
namespace Go.Proofs.Ytngledpkoeioiaa.Pure
open Go.RowKit Go.Proofs.Ytngledpkoeioiaa.P Go.Proofs.YtngledpkoeioiaaW.PrintWords Go.Proofs.YtngledpkoeioiaaW.PrintLast
set_option linter.unusedVariables false
set_option linter.unusedSimpArgs false
theorem sum_uF_append (a b : List Fix) : ((a ++ b).map uF).sum = (a.map uF).sum + (b.map uF).sum := by rw [List.map_append, sum_append]
theorem test_less {a b : List Fix} {x : Fix} (h : testB (a ++ x :: b) = true) : testB (a ++ b) = true := by
  obtain ⟨⟨h1, h2, h3⟩, g⟩ := testB_iff.1 h
  have o := h1 x (by simp)
  have u := unitsOf_spec o.1 o.2.1 o.2.2
  refine testB_iff.2 ⟨⟨fun y hy => h1 y ?_, ?_, ?_⟩, fun n n0 n1 => ?_⟩
  · rcases List.mem_append.1 hy with q | q
    · exact List.mem_append.2 (.inl q)
    · exact List.mem_append.2 (.inr (List.mem_cons_of_mem _ q))
  · rw [List.length_append] at h2 ⊢
    rw [List.length_cons] at h2
    omega
  · rw [sum_uF_append] at h3 ⊢
    rw [List.map_cons, List.sum_cons] at h3
    unfold uF at *
    omega
  · have := g n n0 n1
    have b := ofF_bound x n
    rw [sumF_append] at this ⊢
    rw [sumF_cons] at this
    omega
theorem test_long {a b : List Fix} {x y : Fix} (h : testB (a ++ x :: b) = true) (oy : okF y) (hs : y.f0 = x.f0) (hp : x.f1 ≤ y.f1) : testB (a ++ y :: b) = true := by
  obtain ⟨⟨h1, h2, h3⟩, g⟩ := testB_iff.1 h
  have o := h1 x (by simp)
  have hu : uF y ≤ uF x := by
    unfold uF
    rw [hs]
    exact unitsOf_anti o.1 o.2.1 hp (by rw [← hs]; exact oy.2.2)
  refine testB_iff.2 ⟨⟨fun z hz => ?_, ?_, ?_⟩, fun n n0 n1 => ?_⟩
  · rcases List.mem_append.1 hz with q | q
    · exact h1 z (List.mem_append.2 (.inl q))
    · rcases List.mem_cons.1 q with rfl | q
      · exact oy
      · exact h1 z (List.mem_append.2 (.inr (List.mem_cons_of_mem _ q)))
  · rw [List.length_append, List.length_cons] at h2 ⊢
    exact h2
  · rw [sum_uF_append, List.map_cons, List.sum_cons] at h3 ⊢
    omega
  · have := g n n0 n1
    have hd : dem y n ≤ dem x n := by
      obtain ⟨a1, a2, a3, a4, a5, a6, a7⟩ := okF_nums o
      unfold dem
      rw [hs]
      refine Int.mul_le_mul_of_nonneg_left (up_mono (by omega) (Int.mul_le_mul_of_nonneg_right ?_ (by omega))) (by omega)
      refine Int.le_ediv_of_mul_le (by omega) ?_
      have q := Int.ediv_mul_le n (show y.f1 ≠ 0 by omega)
      have r : n / y.f1 * x.f1 ≤ n / y.f1 * y.f1 := Int.mul_le_mul_of_nonneg_left hp (Int.ediv_nonneg n0 (by omega))
      omega
    rw [sumF_append, sumF_cons, ofF_ok oy n0 n1]
    rw [sumF_append, sumF_cons, ofF_ok o n0 n1] at this
    omega
theorem DemandLess : fuseelaw09_DemandLess.Pure := by
  intro l i more _ hl hw _ _
  refine ⟨l.length + 2000, ?_⟩
  unfold fuseelaw09_DemandLess.f
  rw [awake09 (by omega), Option.bind_some, if_pos rfl]
  by_cases c1 : i < 0
  · rw [if_pos c1]
  rw [if_neg c1]
  by_cases c2 : i ≥ (l.length : Int)
  · rw [if_pos c2]
  rw [if_neg c2]
  by_cases c3 : more < 0
  · rw [if_pos c3]
  rw [if_neg c3]
  by_cases c4 : more > 48
  · rw [if_pos c4]
  rw [if_neg c4, test_eq l (by omega) (by omega), Option.bind_some]
  by_cases t : testB l = true
  · have h4 := (testB_iff.1 t).1.2.1
    have ho := (testB_iff.1 t).1.1
    obtain ⟨q, rfl⟩ : ∃ q : Nat, i = (q : Int) := ⟨i.toNat, by omega⟩
    have hq : q < l.length := by omega
    have sp : l.take q ++ l[q] :: l.drop (q + 1) = l := by rw [← List.drop_eq_getElem_cons hq, List.take_append_drop]
    have o := ho _ (List.getElem_mem hq)
    obtain ⟨a1, a2, a3, a4, a5, a6, a7⟩ := okF_nums o
    rw [if_pos t, if_pos (by omega), if_pos (by omega), Option.bind_some, if_pos (by simp; omega), Option.bind_some, w64 (x := (q : Int) + 1) (by omega) (by omega), if_pos (by omega), if_pos (by omega), Option.bind_some, if_pos (by simp; omega), if_pos (by simp; omega), Option.bind_some, if_pos (by omega), if_pos (by simp; omega), Option.bind_some]
    simp only [List.nil_append, Int.toNat_natCast]
    rw [show ((q : Int) + 1).toNat = q + 1 by omega, rd_fix hq, test_eq _ (by simp; omega) (by simp; omega), Option.bind_some, if_pos (test_less (by rw [sp]; exact t)), w64 (x := l[q].f1 + more) (by omega) (by omega)]
    generalize hy : (⟨⟨l[q].f0.f0, l[q].f0.f1, l[q].f0.f2, l[q].f0.f3, l[q].f0.f4, l[q].f0.f5⟩, l[q].f1 + more⟩ : Fix) = y
    have y0 : y.f0 = l[q].f0 := by rw [← hy]
    have y1 : y.f1 = l[q].f1 + more := by rw [← hy]
    have hr : rd_T26 (l.set q y) (q : Int) = y := by rw [rd_fix (by simpa using hq)]; simp
    rw [hr, y1]
    by_cases c5 : l[q].f1 + more > l[q].f0.f2
    · rw [if_pos c5]
    · have oy : okF y := by
        have h0 := o.1
        have h1 := o.2.1
        unfold okF
        rw [y0, y1]
        exact ⟨h0, by omega, by omega⟩
      have es : l.set q y = l.take q ++ y :: l.drop (q + 1) := by rw [List.set_eq_take_append_cons_drop, if_pos hq]
      rw [if_neg c5, test_eq _ (by simp; omega) (by simp), Option.bind_some, es, test_long (x := l[q]) (by rw [sp]; exact t) oy y0 (by omega)]
  · rw [if_neg t]
end Go.Proofs.Ytngledpkoeioiaa.Pure
