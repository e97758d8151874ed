/- A job of a spec is one of another one with the same C, M and K; of a spec that may not be none is. No condition. -/
import Derived.Test.YtojjffafofjfiaaQJobSpec
import Derived.Test.YtojjffafofjfiaaLibJob
namespace Go.Proofs.Ytojjffafofjfiaa.Pure
open Go.RowKit Go.Proofs.Ytojjffafofjfiaa.P Go.Proofs.YtojjffafofjfiaaW.PrintWords Go.Proofs.YtojjffafofjfiaaW.PrintLast
set_option linter.unusedVariables false
set_option linter.unusedSimpArgs false
theorem awake11 : fuseelaw11_awake.f = some true := by decide +kernel
theorem JobSpec : fuseelaw11_JobSpec.Pure := by
  intro C T X M K E C2 T2 X2 M2 K2 E2 o J R D Md c d r _ _ _ _ _ _ _ _ _ _ _ _ _ _ _ _ _ _
  refine ⟨2, ?_⟩
  unfold fuseelaw11_JobSpec.f
  rw [awake11]
  simp only [Option.bind_some, if_true]
  obtain ⟨a, ha⟩ := jmay_some C T X M K E J R D c d r o Md
  obtain ⟨b, hb⟩ := jmay_some C2 T2 X2 M2 K2 E2 J R D c d r o Md
  have hj : fuseelaw11_JobSpec.j0 2 a b false C T X M K E C2 T2 X2 M2 K2 E2 = some true := by
    rw [fuseelaw11_JobSpec.j0, if_neg (by decide)]
    unfold spec_May.f
    simp only [Option.bind_some]
    by_cases c1 : C = C2
    · rw [if_pos c1]
      by_cases c2 : M = M2
      · rw [if_pos c2]
        by_cases c3 : K = K2
        · rw [if_pos c3]
          cases hs : spec_May.ok C T X M K E with
          | false => rw [if_neg (by decide)]
          | true =>
            rw [if_pos rfl]
            cases hs2 : spec_May.ok C2 T2 X2 M2 K2 E2 with
            | false => rw [if_neg (by decide)]
            | true =>
              rw [if_pos rfl]
              have : a = b := by
                subst c1 c2 c3
                cases o with
                | false =>
                  rw [jmay_off hs] at ha; rw [jmay_off hs2] at hb
                  exact Option.some.inj (ha.symm.trans hb)
                | true =>
                  have k1 := (jmay_on (J := J) (R := R) (D := D) (c := c) (d := d) (r := r) (Md := Md) hs).1
                  have k2 := (jmay_on (J := J) (R := R) (D := D) (c := c) (d := d) (r := r) (Md := Md) hs2).1
                  rw [ha] at k1; rw [hb] at k2
                  have k3 := k1.trans k2.symm
                  simp only [Option.some.injEq] at k3
                  exact Bool.eq_iff_iff.2 k3
              rw [this]; simp
        · rw [if_neg c3]
      · rw [if_neg c2]
    · rw [if_neg c1]
  rw [ha, hb]
  simp only [Option.bind_some]
  have sa : a = true → spec_May.f C T X M K E = some true := fun q => by rw [q] at ha; unfold spec_May.f; rw [jmay_spec ha]
  have sb : b = true → spec_May.f C2 T2 X2 M2 K2 E2 = some true := fun q => by rw [q] at hb; unfold spec_May.f; rw [jmay_spec hb]
  cases a with
  | false =>
    rw [if_neg (by decide)]
    cases b with
    | false => rw [if_neg (by decide)]; exact hj
    | true => rw [if_pos rfl, sb rfl]; exact hj
  | true =>
    rw [if_pos rfl, sa rfl]
    simp only [Option.bind_some, if_true]
    cases b with
    | false => rw [if_neg (by decide)]; exact hj
    | true => rw [if_pos rfl, sb rfl]; exact hj
end Go.Proofs.Ytojjffafofjfiaa.Pure
