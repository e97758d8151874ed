/- What a task that may be is like; a task with other periods may be, too. No condition but each lemma's own. -/
import Derived.Test.YtphonmldcbgklaaPx8
import Derived.Test.YtphonmldcbgklaaPx9
import Derived.Test.YtphonmldcbgklaaPx10
import Derived.Test.YtphonmldcbgklaaLibTask
namespace Go.Proofs.Ytphonmldcbgklaa.Pure
open Go.RowKit Go.Proofs.Ytphonmldcbgklaa.P Go.Proofs.YtphonmldcbgklaaW.PrintWords Go.Proofs.YtphonmldcbgklaaW.PrintLast Go.Proofs.YtphonmldcbgklaaW.PrintMore
set_option linter.unusedVariables false
set_option linter.unusedSimpArgs false
theorem spec_of {C T X M K E J R D c d r : Int} {o Md : Bool} (h : job_May.f C T X M K E o J R D Md c d r = some true) : okS C T X M K E := by
  by_cases hk : okS C T X M K E
  · exact hk
  · unfold job_May.f at h
    rw [may_no hk] at h
    exact absurd h (by simp)
theorem job_cong {C T X M K E T' X' E' J R D c d r : Int} {o Md : Bool} (hk : okS C T' X' M K E') (h : job_May.f C T X M K E o J R D Md c d r = some true) : job_May.f C T' X' M K E' o J R D Md c d r = some true := by
  have hs := may_ok (spec_of h)
  unfold job_May.f at h ⊢
  rw [hs] at h
  rw [may_ok hk]
  exact h
theorem live_cong {C T X M K E T' X' E' J R D c d r P P' A N w u : Int} {o Md : Bool} (hk : okS C T' X' M K E') (hu : units_At.f C T' X' M K E' P' = some u) (h0 : u ≠ 0) (h : live_may.f C T X M K E o J R D Md c d r P A N w = some true) :
    live_may.f C T' X' M K E' o J R D Md c d r P' A N w = some true := by
  unfold live_may.f at h ⊢
  obtain ⟨s1, h1⟩ := t_spec C T X M K E
  obtain ⟨s2, h2⟩ := t_unit C T X M K E P
  obtain ⟨s3, h3⟩ := t_in A w (wrap64 (w + 48))
  obtain ⟨s4, h4⟩ := t_in N 0 549755813888
  obtain ⟨s5, h5⟩ := t_job C T X M K E J R D c d r o Md
  rw [h1, h2, h3, h4, h5] at h
  simp only [Option.bind_some] at h
  cases s1 with
  | false => exact absurd h (by simp)
  | true =>
    rw [if_pos rfl] at h
    by_cases q : s2 = 0
    · rw [if_pos q] at h; exact absurd h (by simp)
    rw [if_neg q] at h
    cases s3 with
    | false => exact absurd h (by simp)
    | true =>
      rw [if_pos rfl] at h
      cases s4 with
      | false => exact absurd h (by simp)
      | true =>
        rw [if_pos rfl] at h
        cases s5 with
        | false => exact absurd h (by simp)
        | true =>
          rw [if_pos rfl] at h
          rw [may_ok hk, hu, h3, h4, job_cong hk h5]
          simp only [Option.bind_some, if_true]
          rw [if_neg h0]
          exact h
theorem live_unit {C T X M K E J R D c d r P A N w : Int} {o Md : Bool} (h : live_may.f C T X M K E o J R D Md c d r P A N w = some true) : ∃ u, units_At.f C T X M K E P = some u ∧ u ≠ 0 := by
  unfold live_may.f at h
  obtain ⟨s1, h1⟩ := t_spec C T X M K E
  obtain ⟨s2, h2⟩ := t_unit C T X M K E P
  rw [h1, h2] at h
  simp only [Option.bind_some] at h
  cases s1 with
  | false => exact absurd h (by simp)
  | true =>
    rw [if_pos rfl] at h
    by_cases q : s2 = 0
    · rw [if_pos q] at h; exact absurd h (by simp)
    · exact ⟨s2, h2, q⟩
/-- All that a task that may be has. -/
def MayBe (a b c d e f g h i j l : Int) (on : Bool) (m n o : Int) (md : Bool) (p q r s t w : Int) : Prop :=
  (0 ≤ a ∧ a ≤ 549755813888 ∧ 1 ≤ h ∧ h ≤ 48 ∧ 0 ≤ w ∧ w ≤ 549755813888) ∧ ring_May.f s t = some true ∧ live_may.f b c d e f g on m n o md p (if on = true then b else q) r i j l w = some true ∧
    job_May.f b c d e f g on m n o md p q r = some true ∧ (s == mn (if on = true then wrap64 (l - 1) else l) 60) = true
theorem t_LiveOf (a b c d e f g h i j l : Int) (on : Bool) (m n o : Int) (md : Bool) (p q r s t : Int) (kp : Bool) :
    task_Live.f a b c d e f g h i j l on m n o md p q r s t kp = some (b, c, d, e, f, g, on, m, n, o, md, p, (if on = true then b else q), r, i, j, l) := by
  unfold task_Live.f
  cases on <;> rfl
theorem t_overOf (a b c d e f g h i j l : Int) (on : Bool) (m n o : Int) (md : Bool) (p q r s t : Int) (kp : Bool) :
    task_work_over.f a b c d e f g h i j l on m n o md p q r s t kp = some (if on = true then wrap64 (l - 1) else l) := by
  unfold task_work_over.f
  cases on <;> rfl
theorem live_MayOf (x : S38) (n : Int) : live_May.f [x] n = if 0 ≤ n ∧ n ≤ 549755813888 then live_May.one x n else some false := rfl
theorem t_j0_iff (k : Nat) (w : Int) (a b c d e f g h i j l : Int) (on : Bool) (m n o : Int) (md : Bool) (p q r s t : Int) (kp : Bool) :
    task_May.j0 (k + 1) w false a b c d e f g h i j l on m n o md p q r s t kp = some true ↔ ((0 ≤ w ∧ w ≤ 549755813888) ∧ live_may.f b c d e f g on m n o md p (if on = true then b else q) r i j l w = some true ∧
    job_May.f b c d e f g on m n o md p q r = some true ∧ (s == mn (if on = true then wrap64 (l - 1) else l) 60) = true) := by
  simp only [task_May.j0]
  rw [t_LiveOf, t_overOf]
  obtain ⟨z3, h3⟩ := t_job b c d e f g m n o p q r on md
  rw [h3]
  simp only [Option.bind_some]
  rw [live_MayOf]
  show (if false = true then some false else (((if 0 ≤ w ∧ w ≤ 549755813888 then live_may.f b c d e f g on m n o md p (if on = true then b else q) r i j l w else some false).bind fun t143 => if t143 = true then (if z3 = true then some (s == mn (if on = true then wrap64 (l - 1) else l) 60) else some false) else some false))) = some true ↔ _
  rw [if_neg (by decide)]
  obtain ⟨z2, h2⟩ := t_may b c d e f g on m n o md p (if on = true then b else q) r i j l w
  rw [h2]
  by_cases cw : 0 ≤ w ∧ w ≤ 549755813888
  · rw [if_pos cw]
    simp only [Option.bind_some]
    cases z2 <;> cases z3 <;> simp [cw]
  · rw [if_neg cw]
    simp only [Option.bind_some]
    constructor
    · intro hh; exact absurd hh (by simp)
    · intro hh; exact absurd hh.1 cw
theorem t_j0_true (k : Nat) (w : Int) (a b c d e f g h i j l : Int) (on : Bool) (m n o : Int) (md : Bool) (p q r s t : Int) (kp : Bool) :
    task_May.j0 (k + 1) w true a b c d e f g h i j l on m n o md p q r s t kp = some false := by
  simp only [task_May.j0, if_true]
theorem t_May_iff (k : Nat) (a b c d e f g h i j l : Int) (on : Bool) (m n o : Int) (md : Bool) (p q r s t : Int) (kp : Bool) (w : Int) :
    task_May.f (k + 1) a b c d e f g h i j l on m n o md p q r s t kp w = some true ↔ MayBe a b c d e f g h i j l on m n o md p q r s t w := by
  unfold task_May.f MayBe
  rw [t_j0_true]
  by_cases c1 : a < 0
  · rw [if_pos c1]; exact ⟨fun hh => absurd hh (by simp), fun hh => absurd hh.1.1 (by omega)⟩
  rw [if_neg c1]
  by_cases c2 : a > 549755813888
  · rw [if_pos c2]; exact ⟨fun hh => absurd hh (by simp), fun hh => absurd hh.1.2.1 (by omega)⟩
  rw [if_neg c2]
  by_cases c3 : h < 1
  · rw [if_pos c3]; exact ⟨fun hh => absurd hh (by simp), fun hh => absurd hh.1.2.2.1 (by omega)⟩
  rw [if_neg c3]
  by_cases c4 : h > 48
  · rw [if_pos c4]; exact ⟨fun hh => absurd hh (by simp), fun hh => absurd hh.1.2.2.2.1 (by omega)⟩
  rw [if_neg c4]
  obtain ⟨z, hz⟩ := t_ring s t
  rw [hz]
  simp only [Option.bind_some]
  cases z with
  | false =>
    show task_May.j0 (k + 1) w true a b c d e f g h i j l on m n o md p q r s t kp = some true ↔ _
    rw [t_j0_true]
    exact ⟨fun hh => absurd hh (by simp), fun hh => absurd hh.2.1 (by simp)⟩
  | true =>
    show task_May.j0 (k + 1) w false a b c d e f g h i j l on m n o md p q r s t kp = some true ↔ _
    rw [t_j0_iff]
    constructor
    · rintro ⟨⟨x1, x2⟩, x3, x4, x5⟩
      exact ⟨⟨by omega, by omega, by omega, by omega, x1, x2⟩, rfl, x3, x4, x5⟩
    · rintro ⟨⟨_, _, _, _, x1, x2⟩, _, x3, x4, x5⟩
      exact ⟨⟨x1, x2⟩, x3, x4, x5⟩
end Go.Proofs.Ytphonmldcbgklaa.Pure
