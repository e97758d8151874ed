/- The first stretch of time in which more must be done than it is long. No condition but each lemma's own. -/
import Derived.Test.YtngledpkoeioiaaPx13
import Derived.Test.YtngledpkoeioiaaLibDemandTest
namespace Go.Proofs.Ytngledpkoeioiaa.Pure
open Go.RowKit Go.Proofs.Ytngledpkoeioiaa.P Go.Proofs.YtngledpkoeioiaaW.PrintWords Go.Proofs.YtngledpkoeioiaaW.PrintLast Go.Proofs.YtngledpkoeioiaaW.PrintMore
set_option linter.unusedVariables false
set_option linter.unusedSimpArgs false
/-- r is the first one, or 0, and there is none. -/
def fstF (l : List Fix) (r : Int) : Prop := (r = 0 ∧ ∀ n, 0 ≤ n → n < horF l → sumF l n ≤ n) ∨ (0 < r ∧ r < horF l ∧ r < sumF l r ∧ ∀ n, 0 ≤ n → n < r → sumF l n ≤ n)
theorem fstF_one {l : List Fix} {r s : Int} (h1 : fstF l r) (h2 : fstF l s) : r = s := by
  rcases h1 with ⟨a, b⟩ | ⟨a, b, c, d⟩
  · rcases h2 with ⟨a', b'⟩ | ⟨a', b', c', d'⟩
    · omega
    · have := b s (by omega) (by omega); omega
  · rcases h2 with ⟨a', b'⟩ | ⟨a', b', c', d'⟩
    · have := b' r (by omega) (by omega); omega
    · by_cases q : r < s
      · have := d' r (by omega) q; omega
      · by_cases q2 : s < r
        · have := d s (by omega) q2; omega
        · omega
theorem sumF_zero : ∀ (l : List Fix), sumF l 0 = 0
  | [] => rfl
  | x :: t => by
    rw [sumF_cons, sumF_zero t]
    by_cases o : okF x
    · have b := dem_bound o (n := 0) (by omega)
      rw [ofF_ok o (by omega) (by omega)]
      omega
    · rw [ofF_no o]; omega
theorem horF_may {l : List Fix} (h : 0 < horF l) : mayF l := by
  refine Classical.byContradiction fun q => ?_
  unfold horF at h
  rw [if_neg q] at h
  omega
theorem first_eq (l : List Fix) (hl : l.length < 17592186044416) {k : Nat} (hk : l.length + 400 ≤ k) : ∃ r, demand_First.f k l = some r ∧ fstF l r := by
  unfold demand_First.f
  rw [hor_eq l hl (by omega), Option.bind_some]
  have hb := horF_bound l
  have loop : ∀ (d k : Nat) (i : Int), i + d = horF l → 0 ≤ i → l.length + d < k → (∀ n, 0 ≤ n → n < i → sumF l n ≤ n) → ∃ r, demand_First.l0 k l (horF l) i = some r ∧ fstF l r := by
    intro d
    induction d with
    | zero =>
      intro k i hi h0 hk hs
      obtain ⟨k, rfl⟩ : ∃ x, k = x + 1 := ⟨k - 1, by omega⟩
      exact ⟨0, by rw [demand_First.l0, if_neg (by omega)], .inl ⟨rfl, fun n n0 n1 => hs n n0 (by omega)⟩⟩
    | succ d ih =>
      intro k i hi h0 hk hs
      obtain ⟨k, rfl⟩ : ∃ x, k = x + 1 := ⟨k - 1, by omega⟩
      have hm := horF_may (l := l) (by omega)
      rw [demand_First.l0, if_pos (by omega), all_eq l i (by omega), Option.bind_some, allF_may hm]
      by_cases c : sumF l i > i
      · refine ⟨i, by rw [if_pos c], .inr ⟨?_, by omega, by omega, hs⟩⟩
        refine Int.not_le.1 fun q => ?_
        have e : i = 0 := by omega
        rw [e, sumF_zero] at c
        omega
      · rw [if_neg c, w64 (by omega) (by omega)]
        refine ih k (i + 1) (by omega) (by omega) (by omega) fun n n0 n1 => ?_
        by_cases q : n = i
        · subst q; omega
        · exact hs n n0 (by omega)
  exact loop (horF l).toNat k 0 (by omega) (by omega) (by omega) (fun n n0 n1 => by omega)
/-- A test that passes: there is no first one. -/
theorem test_first {l : List Fix} (h : mayF l) {r : Int} (hr : fstF l r) : testB l = (r == 0) := by
  rw [Bool.eq_iff_iff, testB_iff, beq_iff_eq]
  constructor
  · rintro ⟨_, g⟩
    rcases hr with a | ⟨a, b, c, d⟩
    · exact a.1
    · have := horF_bound l
      have := g r (by omega) (by omega)
      omega
  · intro e
    refine ⟨h, fun n n0 n1 => ?_⟩
    rcases hr with ⟨_, b⟩ | ⟨a, _⟩
    · by_cases q : n < horF l
      · exact b n n0 q
      · exact beyond h (by omega) n1
    · omega
end Go.Proofs.Ytngledpkoeioiaa.Pure
