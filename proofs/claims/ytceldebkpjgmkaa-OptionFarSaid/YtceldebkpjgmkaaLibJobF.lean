/- What a job that may be is like, and what is left of it. No condition but each lemma's own. -/
import Derived.Test.YtceldebkpjgmkaaPx3
import Derived.Test.YtceldebkpjgmkaaPx9
import Derived.Test.YtceldebkpjgmkaaPx10
import Derived.Test.YtceldebkpjgmkaaPx11
namespace Go.Proofs.Ytceldebkpjgmkaa.Pure
open Go.RowKit Go.Proofs.Ytceldebkpjgmkaa.P Go.Proofs.YtceldebkpjgmkaaW.PrintWords Go.Proofs.YtceldebkpjgmkaaW.PrintLast Go.Proofs.YtceldebkpjgmkaaW.PrintMore
set_option linter.unusedVariables false
set_option linter.unusedSimpArgs false
theorem spec_w64 {x : Int} (h0 : -9223372036854775808 ≤ x) (h1 : x ≤ 9223372036854775807) : wrap64 x = x := by unfold wrap64; omega
theorem spec_ok {C T X M K E : Int} (h : spec_May.ok C T X M K E = true) : 1 ≤ C ∧ C ≤ 6 ∧ C ≤ T ∧ T ≤ X ∧ X ≤ 48 ∧ (1 ≤ M ∧ M ≤ K ∧ K ≤ 6) ∧ 0 ≤ E ∧ E ≤ 8 ∧ (0 < E ∨ T = X) := of_decide_eq_true h
theorem on_some (m k j : Int) : ∃ b, pat_On.f m k j = some b := by unfold pat_On.f; split <;> exact ⟨_, rfl⟩
theorem mn_lt {x a b : Int} : x < mn a b ↔ x < a ∧ x < b := by unfold mn; split <;> omega
/-- What a job that is there must be like. -/
def JobOk (C M K : Int) (J R D : Int) (Md : Bool) (c d r : Int) : Prop :=
  0 ≤ J ∧ J ≤ 1099511627776 ∧ 0 ≤ R ∧ R < D ∧ D ≤ 1099511627776 ∧ c = C ∧ 1 ≤ d ∧ d ≤ 20 ∧ 0 ≤ r ∧ r < c ∧ r < d ∧ pat_On.f M K J = some Md
theorem jmay_on {C T X M K E J R D c d r : Int} {Md : Bool} (hs : spec_May.ok C T X M K E = true) : (job_May.f C T X M K E true J R D Md c d r = some true ↔ JobOk C M K J R D Md c d r) ∧ (job_May.f C T X M K E true J R D Md c d r = some true ∨ job_May.f C T X M K E true J R D Md c d r = some false) := by
  unfold job_May.f spec_May.f JobOk
  rw [hs]
  simp only [Option.bind_some, if_true]
  obtain ⟨b, hb⟩ := on_some M K J
  rw [hb]
  by_cases c1 : J < 0
  · rw [if_pos c1]; exact ⟨⟨fun q => (by simp at q), fun q => absurd q.1 (by omega)⟩, .inr rfl⟩
  rw [if_neg c1]
  by_cases c2 : J > 1099511627776
  · rw [if_pos c2]; exact ⟨⟨fun q => (by simp at q), fun q => absurd q.2.1 (by omega)⟩, .inr rfl⟩
  rw [if_neg c2]
  by_cases c3 : R < 0
  · rw [if_pos c3]; exact ⟨⟨fun q => (by simp at q), fun q => absurd q.2.2.1 (by omega)⟩, .inr rfl⟩
  rw [if_neg c3]
  by_cases c4 : R ≥ D
  · rw [if_pos c4]; exact ⟨⟨fun q => (by simp at q), fun q => absurd q.2.2.2.1 (by omega)⟩, .inr rfl⟩
  rw [if_neg c4]
  by_cases c5 : D > 1099511627776
  · rw [if_pos c5]; exact ⟨⟨fun q => (by simp at q), fun q => absurd q.2.2.2.2.1 (by omega)⟩, .inr rfl⟩
  rw [if_neg c5]
  by_cases c6 : c = C
  · rw [if_pos c6]
    by_cases c7 : d ≥ 1
    · rw [if_pos c7]
      by_cases c8 : d ≤ 20
      · rw [if_pos c8]
        by_cases c9 : r ≥ 0
        · rw [if_pos c9]
          by_cases c10 : r < mn c d
          · rw [if_pos c10]
            have c11 := mn_lt.1 c10
            simp only [Option.bind_some, Option.some.injEq]
            refine ⟨⟨fun q => ⟨by omega, by omega, by omega, by omega, by omega, c6, c7, c8, c9, c11.1, c11.2, (beq_iff_eq.1 q).symm⟩, fun q => beq_iff_eq.2 q.2.2.2.2.2.2.2.2.2.2.2.symm⟩, ?_⟩
            cases (Md == b) <;> simp
          · rw [if_neg c10]; exact ⟨⟨fun q => (by simp at q), fun q => absurd (mn_lt.2 ⟨q.2.2.2.2.2.2.2.2.2.1, q.2.2.2.2.2.2.2.2.2.2.1⟩) c10⟩, .inr rfl⟩
        · rw [if_neg c9]; exact ⟨⟨fun q => (by simp at q), fun q => absurd q.2.2.2.2.2.2.2.2.1 c9⟩, .inr rfl⟩
      · rw [if_neg c8]; exact ⟨⟨fun q => (by simp at q), fun q => absurd q.2.2.2.2.2.2.2.1 c8⟩, .inr rfl⟩
    · rw [if_neg c7]; exact ⟨⟨fun q => (by simp at q), fun q => absurd q.2.2.2.2.2.2.1 c7⟩, .inr rfl⟩
  · rw [if_neg c6]; exact ⟨⟨fun q => (by simp at q), fun q => absurd q.2.2.2.2.2.1 c6⟩, .inr rfl⟩
theorem jmay_off {C T X M K E J R D c d r : Int} {Md : Bool} (hs : spec_May.ok C T X M K E = true) : job_May.f C T X M K E false J R D Md c d r = some (J == 0 && (R == 0 && (D == 0 && (!Md && (c == 0 && (d == 0 && (r == 0))))))) := by
  unfold job_May.f spec_May.f
  rw [hs]; rfl
theorem jmay_no {C T X M K E J R D c d r : Int} {o Md : Bool} (hs : spec_May.ok C T X M K E = false) : job_May.f C T X M K E o J R D Md c d r = some false := by
  unfold job_May.f spec_May.f
  rw [hs]; rfl
theorem jmay_some (C T X M K E J R D c d r : Int) (o Md : Bool) : ∃ b, job_May.f C T X M K E o J R D Md c d r = some b := by
  cases hs : spec_May.ok C T X M K E with
  | false => exact ⟨_, jmay_no hs⟩
  | true =>
    cases o with
    | false => exact ⟨_, jmay_off hs⟩
    | true => rcases (jmay_on (J := J) (R := R) (D := D) (c := c) (d := d) (r := r) (Md := Md) hs).2 with q | q <;> exact ⟨_, q⟩
theorem jmay_spec {C T X M K E J R D c d r : Int} {o Md : Bool} (h : job_May.f C T X M K E o J R D Md c d r = some true) : spec_May.ok C T X M K E = true := by
  cases hs : spec_May.ok C T X M K E with
  | false => rw [jmay_no hs] at h; simp at h
  | true => rfl
/-- What is left of a job, and for how long it may run, where its numbers are small. -/
theorem jleft_on {J R D c d r : Int} {Md : Bool} (h0 : -4611686018427387904 ≤ c) (h1 : c ≤ 4611686018427387904) (h2 : -4611686018427387904 ≤ d) (h3 : d ≤ 4611686018427387904) (h4 : -4611686018427387903 ≤ r) (h5 : r ≤ 4611686018427387904) :
    job_Left.f true J R D Md c d r = some (max (min (c - r) (d - r)) 0) := by
  unfold job_Left.f
  rw [if_pos rfl, spec_w64 (by omega) (by omega), spec_w64 (by omega) (by omega)]
  congr 1
  unfold mx mn
  split <;> split <;> omega
end Go.Proofs.Ytceldebkpjgmkaa.Pure
