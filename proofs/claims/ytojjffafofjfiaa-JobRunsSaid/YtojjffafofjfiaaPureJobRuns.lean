/- A job that may be runs just as often as is left of it, each time with one less, and stays one that may be till it is over: done, where it would run no longer than it may, else cut. No condition. -/
import Derived.Test.YtojjffafofjfiaaQJobRuns
import Derived.Test.YtojjffafofjfiaaLibJob
namespace Go.Proofs.Ytojjffafofjfiaa.Pure
open Go.RowKit Go.Proofs.Ytojjffafofjfiaa.P Go.Proofs.YtojjffafofjfiaaW.PrintWords Go.Proofs.YtojjffafofjfiaaW.PrintLast
set_option linter.unusedVariables false
set_option linter.unusedSimpArgs false
theorem awake11 : fuseelaw11_awake.f = some true := by decide +kernel
theorem jobRuns_over (f : Nat) (left i : Int) (b : Bool) (C T X M K E : Int) (o : Bool) (J R D : Int) (Md : Bool) (c d r : Int) (h : left < i) :
    fuseelaw11_JobRuns.l0 (f + 1) left b i C T X M K E o J R D Md c d r = some true := by
  rw [fuseelaw11_JobRuns.l0, if_neg (by omega)]
theorem jobRuns_loop {C T X M K E J R D c d : Int} {Md : Bool} (hs : spec_May.ok C T X M K E = true) (left : Int) (hl : left ≤ 20) : ∀ (q f : Nat) (i r : Int), q < f → i + q = left → 1 ≤ i → JobOk C M K J R D Md c d r → min c d - r = q + 1 →
    fuseelaw11_JobRuns.l0 (2 * f + 2) left (decide (d ≤ c)) i C T X M K E true J R D Md c d r = some true := by
  intro q
  induction q with
  | zero =>
    intro f i r hf hi h1 hj hm
    have s := spec_ok hs
    obtain ⟨j1, j2, j3, j4, j5, j6, j7, j8, j9, j10, j11, j12⟩ := hj
    obtain ⟨f, rfl⟩ : ∃ x, f = x + 1 := ⟨f - 1, by omega⟩
    rw [show 2 * (f + 1) + 2 = 2 * f + 3 + 1 by omega, fuseelaw11_JobRuns.l0, if_pos (by omega)]
    by_cases cd : d ≤ c
    · have hst : job_Step.f true J R D Md c d r = some (false, 0, 0, 0, false, 0, 0, 0, 1) := by
        unfold job_Step.f
        rw [if_pos rfl, spec_w64 (by omega) (by omega), if_pos (by omega)]
      rw [hst]
      simp only [Option.bind_some]
      rw [if_neg (by omega), show 2 * f + 3 = 2 * f + 2 + 1 by omega, fuseelaw11_JobRuns.j3, if_neg (by decide), if_pos (by omega), if_neg (by decide), decide_eq_true cd, if_pos rfl, if_pos rfl, spec_w64 (by omega) (by omega)]
      exact jobRuns_over _ _ _ _ _ _ _ _ _ _ _ _ _ _ _ _ _ _ (by omega)
    · have hst : job_Step.f true J R D Md c d r = some (false, 0, 0, 0, false, 0, 0, 0, 2) := by
        unfold job_Step.f
        rw [if_pos rfl, spec_w64 (by omega) (by omega), if_neg (by omega), if_pos (by omega)]
      rw [hst]
      simp only [Option.bind_some]
      rw [if_neg (by omega), show 2 * f + 3 = 2 * f + 2 + 1 by omega, fuseelaw11_JobRuns.j3, if_neg (by decide), if_pos (by omega), if_neg (by decide), decide_eq_false cd, if_neg (by decide), if_pos rfl, spec_w64 (by omega) (by omega)]
      exact jobRuns_over _ _ _ _ _ _ _ _ _ _ _ _ _ _ _ _ _ _ (by omega)
  | succ q ih =>
    intro f i r hf hi h1 hj hm
    have s := spec_ok hs
    have hj' := hj
    obtain ⟨j1, j2, j3, j4, j5, j6, j7, j8, j9, j10, j11, j12⟩ := hj'
    have hj2 : JobOk C M K J R D Md c d (r + 1) := ⟨j1, j2, j3, j4, j5, j6, j7, j8, by omega, by omega, by omega, j12⟩
    obtain ⟨f, rfl⟩ : ∃ x, f = x + 1 := ⟨f - 1, by omega⟩
    have ih' := ih f (i + 1) (r + 1) (by omega) (by omega) (by omega) hj2 (by omega)
    have hst : job_Step.f true J R D Md c d r = some (true, J, R, D, Md, c, d, r + 1, 0) := by
      unfold job_Step.f
      rw [if_pos rfl, spec_w64 (by omega) (by omega), if_neg (by omega), if_neg (by omega)]
    rw [show 2 * (f + 1) + 2 = 2 * f + 3 + 1 by omega, fuseelaw11_JobRuns.l0, if_pos (by omega), hst]
    simp only [Option.bind_some]
    rw [if_pos (by omega), if_pos trivial, jleft_on (by omega) (by omega) (by omega) (by omega) (by omega) (by omega)]
    simp only [Option.bind_some]
    rw [spec_w64 (x := left - i) (by omega) (by omega), if_pos (by omega), (jmay_on hs).1.2 hj2]
    simp only [Option.bind_some]
    rw [show 2 * f + 3 = 2 * f + 2 + 1 by omega, fuseelaw11_JobRuns.j3, if_neg (by decide), if_neg (by omega), spec_w64 (by omega) (by omega)]
    exact ih'
theorem JobRuns : fuseelaw11_JobRuns.Pure := by
  intro C T X M K E o J R D Md c d r _ _ _ _ _ _ _ _ _ _ _ _
  refine ⟨2 * 30 + 4, ?_⟩
  unfold fuseelaw11_JobRuns.f
  rw [awake11]
  simp only [Option.bind_some, if_true]
  cases o with
  | false => rw [if_neg (by decide)]; first | rfl | (rw [fuseelaw11_JobRuns.j0, if_pos rfl])
  | true =>
    rw [if_pos rfl]
    obtain ⟨b, hb⟩ := jmay_some C T X M K E J R D c d r true Md
    rw [hb]
    simp only [Option.bind_some]
    cases b with
    | false => rw [fuseelaw11_JobRuns.j0, if_pos (by decide)]
    | true =>
      have hs := jmay_spec hb
      have s := spec_ok hs
      have hj := (jmay_on hs).1.1 hb
      have hj' := hj
      obtain ⟨j1, j2, j3, j4, j5, j6, j7, j8, j9, j10, j11, j12⟩ := hj'
      rw [fuseelaw11_JobRuns.j0, if_neg (by decide), jleft_on (by omega) (by omega) (by omega) (by omega) (by omega) (by omega)]
      simp only [Option.bind_some]
      rw [if_neg (by omega), jworst_on (by omega) (by omega) (by omega) (by omega)]
      simp only [Option.bind_some]
      rw [decide_eq_false (by omega), fuseelaw11_JobRuns.j1, if_neg (by decide)]
      exact jobRuns_loop hs _ (by omega) (min c d - r - 1).toNat 30 1 r (by omega) (by omega) (by omega) hj (by omega)
end Go.Proofs.Ytojjffafofjfiaa.Pure
