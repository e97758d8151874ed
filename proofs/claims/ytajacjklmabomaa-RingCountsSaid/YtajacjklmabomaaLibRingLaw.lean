/- What an outcome more does to how far a ring is from too few; the chapter's example. No condition but each lemma's own. -/
import Derived.Test.YtajacjklmabomaaPx4
import Derived.Test.YtajacjklmabomaaLibRing
namespace Go.Proofs.Ytajacjklmabomaa.Pure
open Go.RowKit Go.Proofs.Ytajacjklmabomaa.P Go.Proofs.YtajacjklmabomaaW.PrintWords Go.Proofs.YtajacjklmabomaaW.PrintLast Go.Proofs.YtajacjklmabomaaW.PrintMore
set_option linter.unusedVariables false
set_option linter.unusedSimpArgs false
theorem awake03 : fuseelaw03_awake.f 100 = some true := by decide +kernel
theorem cnt_zero (s : List Bool) : cnt s 0 = 0 := rfl
theorem cnt_succ (s : List Bool) (j : Nat) : cnt s (j + 1) = cnt s j + (s[j]?.toList).count true := by
  unfold cnt; rw [List.take_add_one, List.count_append]
theorem cnt_step (s : List Bool) (j : Nat) : cnt s j ≤ cnt s (j + 1) ∧ cnt s (j + 1) ≤ cnt s j + 1 := by
  rw [cnt_succ]
  have : (s[j]?.toList).count true ≤ 1 := by
    cases s[j]? with
    | none => simp
    | some b => cases b <;> simp
  omega
theorem cnt_mono (s : List Bool) : ∀ (d j : Nat), cnt s j ≤ cnt s (j + d)
  | 0, j => Nat.le_refl _
  | d + 1, j => by have := cnt_mono s d j; have := (cnt_step s (j + d)).1; rw [show j + (d + 1) = j + d + 1 by omega]; omega
theorem cnt_le (s : List Bool) : ∀ j : Nat, cnt s j ≤ j
  | 0 => Nat.le_refl _
  | j + 1 => by have := cnt_le s j; have := (cnt_step s j).2; omega
theorem ahd_take (L : List Bool) (k j : Nat) (h : j ≤ 60) : (ahd (L.take 60) k).take j = (ahd L k).take j := by
  unfold ahd
  rw [List.take_append, List.take_append, List.take_take, List.length_take, Nat.min_eq_left h, List.take_replicate, List.take_replicate]
  by_cases c : L.length ≤ 60
  · rw [Nat.min_eq_right c]
  · congr 2; omega
theorem ahd_cnt (L : List Bool) (k j : Nat) (h : j ≤ 60) : cnt (ahd (L.take 60) k) j = cnt (ahd L k) j := by
  unfold cnt; rw [ahd_take L k j h]
theorem ahd_cons (b : Bool) (t : List Bool) (k j : Nat) : cnt (ahd (b :: t) k) (j + 1) = b.toNat + cnt (ahd t k) j := by
  unfold cnt ahd
  rw [List.cons_append, List.take_succ_cons, List.count_cons]
  cases b <;> simp [Nat.add_comm]
theorem far_bad {t : List Bool} {m k n : Nat} (h1 : 1 ≤ m) (hm : m ≤ k) (hk : k ≤ 6) (h : FarIs t m k n) : FarIs ((false :: t).take 60) m k (n - 1) := by
  obtain ⟨a, b, c⟩ := h
  refine ⟨by omega, ?_, fun i hi => ?_⟩
  · rw [ahd_cnt _ _ _ (by omega)]
    by_cases q : n = 0
    · subst q
      obtain ⟨j, hj⟩ : ∃ j, k = j + 1 := ⟨k - 1, by omega⟩
      have e1 : k - (0 - 1) = j + 1 := by omega
      rw [e1, ahd_cons]
      have := (cnt_step (ahd t k) j).1
      have e2 : k - 0 = j + 1 := by omega
      rw [e2] at b
      simp; omega
    · rw [show k - (n - 1) = (k - n) + 1 by omega, ahd_cons]; simpa using b
  · rw [ahd_cnt _ _ _ (by omega), show k - i = (k - (i + 1)) + 1 by omega, ahd_cons]
    have := c (i + 1) (by omega)
    omega
theorem far_good {t : List Bool} {m k n n' : Nat} (h1 : 1 ≤ m) (hm : m ≤ k) (hk : k ≤ 6) (h : FarIs t m k n) (h' : FarIs ((true :: t).take 60) m k n') : n ≤ n' := by
  refine Nat.not_lt.1 fun q => ?_
  have b := h'.2.1
  have := h.1
  rw [ahd_cnt _ _ _ (by omega), show k - n' = (k - n' - 1) + 1 by omega, ahd_cons] at b
  have c := h.2.2 n' q
  have d := (cnt_step (ahd t k) (k - n' - 1)).2
  rw [show k - n' - 1 + 1 = k - n' by omega] at d
  simp at b
  omega
theorem far_zero {t : List Bool} {m k n : Nat} (h : FarIs t m k n) (hl : k ≤ t.length) : (n = 0 ↔ cnt t k < m) := by
  have e : cnt (ahd t k) k = cnt t k := by
    unfold cnt ahd; rw [List.take_append_of_le_length hl]
  constructor
  · intro q; subst q; rw [← e]; exact h.2.1
  · intro q
    refine Nat.eq_zero_of_not_pos fun p => ?_
    have := h.2.2 0 p
    rw [Nat.sub_zero, e] at this
    omega
end Go.Proofs.Ytajacjklmabomaa.Pure
