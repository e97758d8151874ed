/- The document's answer of layer 11 is the program's. No condition but each lemma's own. -/
import Derived.Test.YtojjffafofjfiaaPx13
import Derived.Test.YtojjffafofjfiaaPx14
import Derived.Test.YtojjffafofjfiaaLibJob
namespace Go.Proofs.Ytojjffafofjfiaa.Pure
open Go.RowKit Go.Proofs.Ytojjffafofjfiaa.P Go.Proofs.YtojjffafofjfiaaW.PrintWords Go.Proofs.YtojjffafofjfiaaW.PrintLast Go.Proofs.YtojjffafofjfiaaW.PrintMore
set_option linter.unusedVariables false
set_option linter.unusedSimpArgs false
theorem rmay11_eq (C T X M K E J R D c d r : Int) (o Md : Bool) : fuseeref11_May.f C T X M K E o J R D Md c d r = job_May.f C T X M K E o J R D Md c d r := by
  unfold fuseeref11_May.f job_May.f
  rw [rmay05_eq, ron_eq]
  obtain ⟨b, hb⟩ := on_some M K J
  rw [hb]
  unfold spec_May.f
  simp only [Option.bind_some]
  cases spec_May.ok C T X M K E with
  | false => rfl
  | true =>
    rw [if_pos rfl, if_pos rfl]
    cases o with
    | false => rfl
    | true =>
      rw [if_pos rfl, if_pos rfl]
      by_cases c1 : J < 0
      · rw [if_pos c1, if_pos c1]
      rw [if_neg c1, if_neg c1]
      by_cases c2 : J > 1099511627776
      · rw [if_pos c2, if_pos c2]
      rw [if_neg c2, if_neg c2]
      by_cases c3 : R < 0
      · rw [if_pos c3, if_pos c3]
      rw [if_neg c3, if_neg c3]
      by_cases c4 : R ≥ D
      · rw [if_pos c4, if_pos (show D ≤ R from c4)]
      rw [if_neg c4, if_neg (show ¬ D ≤ R from c4)]
      by_cases c5 : D > 1099511627776
      · rw [if_pos c5, if_pos c5]
      rw [if_neg c5, if_neg c5]
      have hcut : (r < mn c d) ↔ (r < c ∧ r < d) := mn_lt
      by_cases c11 : Md = b
      · rw [if_neg (by rw [c11]; simp)]
        rw [beq_iff_eq.2 c11]
        split
        · split
          · split
            · split
              · by_cases q1 : r < c
                · rw [if_pos q1]
                  by_cases q2 : r < d
                  · rw [decide_eq_true q2, if_pos (hcut.2 ⟨q1, q2⟩)]
                  · rw [decide_eq_false q2, if_neg (fun q => q2 (hcut.1 q).2)]
                · rw [if_neg q1, if_neg (fun q => q1 (hcut.1 q).1)]
              · rfl
            · rfl
          · rfl
        · rfl
      · rw [if_pos (by simpa using c11)]
        have : (Md == b) = false := beq_eq_false_iff_ne.2 c11
        rw [this]
        split
        · split
          · split
            · split
              · split <;> rfl
              · rfl
            · rfl
          · rfl
        · rfl
theorem rnew11_eq (C T X M K E n rel due d : Int) : fuseeref11_New.f C T X M K E n rel due d = job_New.f C T X M K E n rel due d := by
  unfold fuseeref11_New.f job_New.f
  rw [ron_eq]
  simp only [rmay11_eq]
theorem rstep11_eq (J R D c d r : Int) (o Md : Bool) : fuseeref11_Step.f o J R D Md c d r = job_Step.f o J R D Md c d r := by
  cases o <;> rfl
theorem rat11_eq (J R D c d r now : Int) (o Md : Bool) : fuseeref11_At.f o J R D Md c d r now = job_At.f o J R D Md c d r now := by
  unfold fuseeref11_At.f job_At.f
  cases o with
  | false => rfl
  | true =>
    rw [if_pos rfl, if_pos rfl]
    by_cases c1 : now < D
    · rw [if_pos c1, if_neg (by omega)]
    · rw [if_neg c1, if_pos (by omega)]
theorem rworst11_eq {J R D c d r : Int} {o Md : Bool} (h0 : -4611686018427387904 ≤ c) (h1 : c ≤ 4611686018427387904) (h4 : -4611686018427387903 ≤ r) (h5 : r ≤ 4611686018427387904) :
    fuseeref11_Worst.f o J R D Md c d r = job_Worst.f o J R D Md c d r := by
  cases o with
  | false => rfl
  | true =>
    rw [jworst_on h0 h1 h4 h5]
    unfold fuseeref11_Worst.f
    rw [if_pos rfl, spec_w64 (by omega) (by omega)]
    by_cases q : c ≤ r
    · rw [if_pos q]; congr 1; omega
    · rw [if_neg q]; congr 1; omega
theorem rleft11_eq {J R D c d r : Int} {o Md : Bool} (h0 : -4611686018427387904 ≤ c) (h1 : c ≤ 4611686018427387904) (h2 : -4611686018427387904 ≤ d) (h3 : d ≤ 4611686018427387904) (h4 : -4611686018427387903 ≤ r) (h5 : r ≤ 4611686018427387904) (f : Nat) :
    fuseeref11_Left.f (f + 1) o J R D Md c d r = job_Left.f o J R D Md c d r := by
  cases o with
  | false => rfl
  | true =>
    rw [jleft_on h0 h1 h2 h3 h4 h5]
    unfold fuseeref11_Left.f
    rw [if_pos rfl]
    by_cases q : c ≤ r
    · rw [if_pos q, fuseeref11_Left.j0, if_pos rfl]; congr 1; omega
    · rw [if_neg q]
      by_cases q2 : d ≤ r
      · rw [decide_eq_true q2, fuseeref11_Left.j0, if_pos rfl]; congr 1; omega
      · rw [decide_eq_false q2, fuseeref11_Left.j0, if_neg (by decide), spec_w64 (by omega) (by omega), spec_w64 (by omega) (by omega)]
        by_cases q3 : d < c
        · rw [if_pos q3]; congr 1; omega
        · rw [if_neg q3]; congr 1; omega
end Go.Proofs.Ytojjffafofjfiaa.Pure
