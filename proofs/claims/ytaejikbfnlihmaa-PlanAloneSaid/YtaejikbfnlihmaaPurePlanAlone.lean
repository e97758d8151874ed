/- One task alone has the least period at which its units are no more than there are, if it has one. No condition. -/
import Derived.Test.YtaejikbfnlihmaaQPlanAlone
import Derived.Test.YtaejikbfnlihmaaLibAll10
namespace Go.Proofs.Ytaejikbfnlihmaa.Pure
open Go.RowKit Go.Proofs.Ytaejikbfnlihmaa.P Go.Proofs.YtaejikbfnlihmaaW.PrintWords Go.Proofs.YtaejikbfnlihmaaW.PrintLast
set_option linter.unusedVariables false
set_option linter.unusedSimpArgs false
theorem alone_good {x : Fix} (h : okF x) (hu : uF x ≤ 983040) : testB [x] = true := by
  refine testB_iff.2 ⟨⟨fun y hy => by rw [List.mem_singleton.1 hy]; exact h, by simp, by simpa using hu⟩, fun n h0 h1 => ?_⟩
  obtain ⟨c0, c1, p0, p1, m0, m1, k1⟩ := okF_nums h
  have hT : x.f0.f0 ≤ x.f0.f1 := h.1.2.2.1
  have hp : x.f0.f1 ≤ x.f1 := h.2.1
  rw [sumF_cons, sumF_nil, ofF_ok h h0 h1]
  unfold dem
  have q0 : 0 ≤ n / x.f1 := Int.ediv_nonneg h0 (by omega)
  have u1 : up (n / x.f1 * x.f0.f3) x.f0.f4 ≤ n / x.f1 := up_le (by omega) (Int.mul_le_mul_of_nonneg_left (by omega) q0)
  have u2 : x.f0.f0 * up (n / x.f1 * x.f0.f3) x.f0.f4 ≤ x.f0.f0 * (n / x.f1) := Int.mul_le_mul_of_nonneg_left u1 (by omega)
  have u3 : x.f0.f0 * (n / x.f1) ≤ x.f1 * (n / x.f1) := Int.mul_le_mul_of_nonneg_right (by omega) q0
  have u4 := Int.mul_ediv_self_le (x := n) (k := x.f1) (by omega)
  omega
theorem alone_press {s : Spec} (h : okT s) {a b : Int} (hi : isForce ([s].map sprOf) 983040 a b) : prs a b (sprOf s) = min (topS s) 983040 := by
  have o := sprOf_ok h
  have ho : ∀ x ∈ [s].map sprOf, okP x := fun x hx => by rw [List.mem_singleton.1 hx]; exact o
  have p := prs_spec hi.1 hi.2.2.1 o
  have hb := hi.2.2.1
  have e0 : (sprOf s).f0 = topS s := rfl
  by_cases hu : topS s ≤ 983040
  · obtain ⟨rfl, rfl⟩ := isForce_full ho hi (by simpa [sumU] using (show (sprOf s).f0 ≤ 983040 by omega))
    have := prs_zero o
    omega
  · rcases hi.2.2.2.2.2 with ⟨_, q⟩ | ⟨_, q, _⟩
    · have : sumU ([s].map sprOf) = (sprOf s).f0 := by simp [sumU]
      omega
    · have g : gOf a b ([s].map sprOf) = xOf a b (sprOf s) := by simp [gOf]
      rw [g] at q
      have p1 : b * prs a b (sprOf s) ≤ b * 983040 := by omega
      have p2 : b * 983040 < b * (prs a b (sprOf s) + 1) := by rw [Int.mul_add]; omega
      have q1 := Int.le_of_mul_le_mul_left p1 (by omega)
      have q2 := Int.lt_of_mul_lt_mul_left p2 (by omega)
      omega
theorem PlanAlone : fuseelaw10_PlanAlone.Pure := by
  intro C T X M K E _ _ _ _ _ _
  refine ⟨1000, ?_⟩
  unfold fuseelaw10_PlanAlone.f
  rw [awake10 (by omega), Option.bind_some]
  generalize hs : (⟨C, T, X, M, K, E⟩ : Spec) = s
  have e0 : C = s.f0 := by rw [← hs]
  have e1 : T = s.f1 := by rw [← hs]
  have e2 : X = s.f2 := by rw [← hs]
  have e3 : M = s.f3 := by rw [← hs]
  have e4 : K = s.f4 := by rw [← hs]
  have e5 : E = s.f5 := by rw [← hs]
  subst e0 e1 e2 e3 e4 e5
  clear hs
  obtain ⟨f, e, ht, hc⟩ := target_cases [s] (by simp) (k := 1000) (by omega)
  rw [ht, Option.bind_some, if_pos rfl, spec_may, Option.bind_some]
  dsimp only
  by_cases o : okT s
  · have o' : okS s.f0 s.f1 s.f2 s.f3 s.f4 s.f5 := o
    have le : leasts [s] = leastS s := by simp [leasts]
    rw [decide_eq_true o, if_pos rfl, least_ok o', Option.bind_some, show unitsOf s.f0 s.f3 s.f4 s.f2 = leastS s from rfl]
    rcases hc with ⟨ha, _⟩ | ⟨ha, hr, rfl, rfl⟩ | ⟨ha, hr, a, b, hi, hc⟩
    · exact absurd (fun x hx => by rw [List.mem_singleton.1 hx]; exact o) ha
    · rw [if_pos (by omega)]
      rfl
    · have hp := alone_press o hi
      have ps := perS_spec hi.1 hi.2.2.1 o
      have pb := prs_bounds hi.1 hi.2.2.1 o
      have good : testB ([s].map (fixOf a b)) = true := alone_good (fixOf_ok hi.1 hi.2.2.1 o) (by show unitsOf s.f0 s.f3 s.f4 (perS a b s) ≤ 983040; omega)
      rcases hc with ⟨_, rfl, rfl⟩ | ⟨bad, _⟩
      · have hrd : (rd_T42 ([s].map (fixOf a b)) 0).f1 = perS a b s := rfl
        rw [if_neg (by omega), if_pos rfl, if_pos (by rfl), if_pos (by simp), hrd, at_ok o' ps.1 ps.2.1, Option.bind_some, if_pos (by omega)]
        by_cases c : perS a b s = s.f1
        · rw [if_pos c]
        · have hp1 : perS a b s = leastP s.f0 s.f3 s.f4 (prs a b (sprOf s)) := by unfold perS at c ⊢; omega
          have x48 := o'.2.2.2.2.1
          have c1 := o'.1
          have c2 := o'.2.2.1
          rw [if_neg c, w64 (x := perS a b s - 1) (by omega) (by omega), at_ok o' (by omega) (by omega), Option.bind_some, decide_eq_true]
          refine Int.not_le.1 fun q => ?_
          by_cases hu : topS s ≤ 983040
          · have t := (at_le o' (Int.le_refl _) o'.2.2.2.1 pb.1).1 (by show topS s ≤ _; omega)
            omega
          · have t := (at_le o' (q := perS a b s - 1) (by omega) (by omega) pb.1).1 (by omega)
            omega
      · rw [good] at bad
        exact absurd bad (by decide)
  · rw [decide_eq_false o, if_neg (by decide)]
    rcases hc with ⟨ha, rfl, rfl⟩ | ⟨ha, _⟩ | ⟨ha, _⟩
    · rfl
    · exact absurd (ha s (List.mem_cons_self ..)) o
    · exact absurd (ha s (List.mem_cons_self ..)) o
end Go.Proofs.Ytaejikbfnlihmaa.Pure
