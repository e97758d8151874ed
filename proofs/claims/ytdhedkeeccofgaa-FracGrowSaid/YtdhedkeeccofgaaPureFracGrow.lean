/- Of a greater number root and quotients are no less, through a greater one quotients are no more. No condition. -/
import Derived.Test.YtdhedkeeccofgaaPx4
import Derived.Test.YtdhedkeeccofgaaLibFrac
import Derived.Test.YtdhedkeeccofgaaLibA01
namespace Go.Proofs.Ytdhedkeeccofgaa.Pure
open Go.RowKit Go.Proofs.Ytdhedkeeccofgaa.P Go.Proofs.YtdhedkeeccofgaaW.PrintWords Go.Proofs.YtdhedkeeccofgaaW.PrintLast
set_option linter.unusedVariables false
set_option linter.unusedSimpArgs false
theorem FracGrow : fuseelaw01_FracGrow.Pure := by
  intro a b c d _ _ _ _
  refine ⟨33, ?_⟩
  unfold fuseelaw01_FracGrow.f
  rw [awake01]
  obtain ⟨r, e, hr, hrs⟩ : ∃ r e, frac_Root.f 33 a = some (r, e) ∧ (0 ≤ a → a ≤ 4611686018427387904 → 0 ≤ r ∧ r * r ≤ a) := by
    by_cases h : 0 ≤ a ∧ a ≤ 4611686018427387904
    · obtain ⟨r, hr, h0, h1, h2, h3⟩ := root_ok h.1 h.2
      exact ⟨r, true, hr 33 (by omega), fun _ _ => ⟨h0, h2⟩⟩
    · exact ⟨0, false, root_no h 33, fun h1 h2 => absurd ⟨h1, h2⟩ h⟩
  obtain ⟨s, g, hs, hss⟩ : ∃ s g, frac_Root.f 33 c = some (s, g) ∧ (g = true → c ≤ 4611686018427387904 ∧ 0 ≤ s ∧ c < (s + 1) * (s + 1)) := by
    by_cases h : 0 ≤ c ∧ c ≤ 4611686018427387904
    · obtain ⟨r, hr, h0, h1, h2, h3⟩ := root_ok h.1 h.2
      exact ⟨r, true, hr 33 (by omega), fun _ => ⟨h.2, h0, h3⟩⟩
    · exact ⟨0, false, root_no h 33, fun h1 => by cases h1⟩
  rw [hr, hs]
  have fin : (if a < 0 then some true else if a > c then some true else if g = true then some (decide (r ≤ s)) else some true) = some true := by
    by_cases c1 : a < 0
    · rw [if_pos c1]
    rw [if_neg c1]
    by_cases c2 : a > c
    · rw [if_pos c2]
    rw [if_neg c2]
    cases g with
    | false => rfl
    | true =>
      obtain ⟨q1, q2, q3⟩ := hss rfl
      obtain ⟨p1, p2⟩ := hrs (by omega) (by omega)
      rw [if_pos rfl, decide_eq_true (sq_mono p1 q2 (by omega))]
  have hf : ∀ x y, ∃ q o, frac_Floor.f x y = some (q, o) ∧ (o = true → okq x y ∧ q = x / y) := fun x y => by
    by_cases h : okq x y
    · exact ⟨_, _, floor_ok h, fun _ => ⟨h, rfl⟩⟩
    · exact ⟨_, _, floor_no h, fun h => by cases h⟩
  obtain ⟨x, o1, h1, p1⟩ := hf a b
  obtain ⟨y, o2, h2, p2⟩ := hf c b
  obtain ⟨z, o3, h3, p3⟩ := hf a d
  rw [h1, h2, h3]
  simp only [Option.bind_some, if_true, fin]
  have k1 : o1 = true → o2 = true → a ≤ c → ¬ x > y := fun e1 e2 hle => by
    obtain ⟨⟨_, _, hb, _⟩, rfl⟩ := p1 e1
    obtain ⟨_, rfl⟩ := p2 e2
    have := Int.ediv_le_ediv (show 0 < b by omega) hle
    omega
  have k2 : o1 = true → o3 = true → b ≤ d → ¬ z > x := fun e1 e3 hle => by
    obtain ⟨⟨ha, _, hb, _⟩, rfl⟩ := p1 e1
    obtain ⟨_, rfl⟩ := p3 e3
    have q : a / d * d ≤ a := Int.ediv_mul_le a (by omega)
    have q0 : 0 ≤ a / d := Int.ediv_nonneg ha (by omega)
    have : a / d ≤ a / b := Int.le_ediv_of_mul_le (by omega) (Int.le_trans (Int.mul_le_mul_of_nonneg_left hle q0) q)
    omega
  cases o1 <;> cases o2 <;> cases o3 <;> simp only [if_true, Bool.false_eq_true, if_false]
  all_goals
    repeat' split
    all_goals first | rfl | (exfalso; first | exact k1 rfl rfl ‹_› ‹_› | exact k2 rfl rfl ‹_› ‹_›)
end Go.Proofs.Ytdhedkeeccofgaa.Pure
