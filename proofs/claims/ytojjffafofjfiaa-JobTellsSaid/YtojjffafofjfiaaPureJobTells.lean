/- Any job of any spec may be, or not, is new, runs as long still, runs, and ends, as the document says. No condition. -/
import Derived.Test.YtojjffafofjfiaaQJobTells
import Derived.Test.YtojjffafofjfiaaLibJobRef
namespace Go.Proofs.Ytojjffafofjfiaa.Pure
open Go.RowKit Go.Proofs.Ytojjffafofjfiaa.P Go.Proofs.YtojjffafofjfiaaW.PrintWords Go.Proofs.YtojjffafofjfiaaW.PrintLast
set_option linter.unusedVariables false
set_option linter.unusedSimpArgs false
theorem awake11 : fuseelaw11_awake.f = some true := by decide +kernel
theorem near_yes {J R D c d r : Int} {o Md : Bool} (h : fuseelaw11_near.f o J R D Md c d r = some true) : c ≤ 1000 ∧ -1000 ≤ c ∧ d ≤ 1000 ∧ -1000 ≤ d ∧ r ≤ 1000 ∧ -1000 ≤ r := by
  unfold fuseelaw11_near.f at h
  by_cases c1 : c ≤ 1000
  · rw [if_pos c1] at h
    by_cases c2 : c ≥ -1000
    · rw [if_pos c2] at h
      by_cases c3 : d ≤ 1000
      · rw [if_pos c3] at h
        by_cases c4 : d ≥ -1000
        · rw [if_pos c4] at h
          by_cases c5 : r ≤ 1000
          · rw [if_pos c5] at h
            have := of_decide_eq_true (Option.some.inj h)
            omega
          · rw [if_neg c5] at h; simp at h
        · rw [if_neg c4] at h; simp at h
      · rw [if_neg c3] at h; simp at h
    · rw [if_neg c2] at h; simp at h
  · rw [if_neg c1] at h; simp at h
theorem near_some (J R D c d r : Int) (o Md : Bool) : ∃ b, fuseelaw11_near.f o J R D Md c d r = some b := by
  unfold fuseelaw11_near.f
  split
  · split
    · split
      · split
        · split <;> exact ⟨_, rfl⟩
        · exact ⟨_, rfl⟩
      · exact ⟨_, rfl⟩
    · exact ⟨_, rfl⟩
  · exact ⟨_, rfl⟩
theorem jstep_some (J R D c d r : Int) (o Md : Bool) : ∃ b, job_Step.f o J R D Md c d r = some b := by
  unfold job_Step.f
  split
  · split
    · exact ⟨_, rfl⟩
    · split <;> exact ⟨_, rfl⟩
  · exact ⟨_, rfl⟩
theorem jat_some (J R D c d r now : Int) (o Md : Bool) : ∃ b, job_At.f o J R D Md c d r now = some b := by
  unfold job_At.f
  split
  · split <;> exact ⟨_, rfl⟩
  · exact ⟨_, rfl⟩
theorem jnew_some (C T X M K E n rel due d : Int) : ∃ b, job_New.f C T X M K E n rel due d = some b := by
  unfold job_New.f
  obtain ⟨b, hb⟩ := on_some M K n
  rw [hb]
  simp only [Option.bind_some]
  obtain ⟨e, he⟩ := jmay_some C T X M K E n rel due C d 0 true b
  rw [he]
  simp only [Option.bind_some]
  split <;> exact ⟨_, rfl⟩
theorem JobTells : fuseelaw11_JobTells.Pure := by
  intro C T X M K E o J R D Md c d r n rel due d2 now _ _ _ _ _ _ _ _ _ _ _ _ _ _ _ _ _
  refine ⟨2, ?_⟩
  unfold fuseelaw11_JobTells.f
  rw [awake11]
  simp only [Option.bind_some, if_true]
  obtain ⟨b, hb⟩ := near_some J R D c d r o Md
  rw [hb]
  simp only [Option.bind_some]
  cases b with
  | false => rfl
  | true =>
    obtain ⟨a1, a2, a3, a4, a5, a6⟩ := near_yes hb
    rw [if_pos rfl]
    obtain ⟨v1, h1⟩ := jnew_some C T X M K E n rel due d2
    obtain ⟨v2, h2⟩ := jstep_some J R D c d r o Md
    obtain ⟨v3, h3⟩ := jat_some J R D c d r now o Md
    obtain ⟨v4, h4⟩ := jmay_some C T X M K E J R D c d r o Md
    have h5 : ∃ v, job_Worst.f o J R D Md c d r = some v := by unfold job_Worst.f; split <;> exact ⟨_, rfl⟩
    have h6 : ∃ v, job_Left.f o J R D Md c d r = some v := by unfold job_Left.f; split <;> exact ⟨_, rfl⟩
    obtain ⟨v5, h5⟩ := h5
    obtain ⟨v6, h6⟩ := h6
    rw [rnew11_eq, rstep11_eq, rat11_eq, rmay11_eq, rworst11_eq (by omega) (by omega) (by omega) (by omega), rleft11_eq (by omega) (by omega) (by omega) (by omega) (by omega) (by omega) 1, h1, h2, h3, h4, h5, h6]
    simp only [Option.bind_some, BEq.rfl, Bool.and_self, if_true]
end Go.Proofs.Ytojjffafofjfiaa.Pure
