/- The first one of what is in order. No condition but each lemma's own. -/
import Derived.Test.YtceldebkpjgmkaaLibOptRef
namespace Go.Proofs.Ytceldebkpjgmkaa.Pure
open Go.RowKit Go.Proofs.Ytceldebkpjgmkaa.P Go.Proofs.YtceldebkpjgmkaaW.PrintWords Go.Proofs.YtceldebkpjgmkaaW.PrintLast Go.Proofs.YtceldebkpjgmkaaW.PrintMore
set_option linter.unusedVariables false
set_option linter.unusedSimpArgs false
theorem mem_gz {l : List SO} {x : SO} (h : x ∈ l) : ∃ j, j < l.length ∧ x = gz l j := by
  obtain ⟨j, hj, rfl⟩ := List.mem_iff_getElem.1 h
  exact ⟨j, hj, (gz_lt hj).symm⟩
theorem srt_head {l : List SO} (h : 0 < l.length) : gz (option_Sort.srt l) 0 ∈ l ∧ ∀ y ∈ l, ltS y (gz (option_Sort.srt l) 0) = false := by
  refine ⟨srt_mem.1 (gz_mem (by rw [srt_len]; exact h)), fun y hy => ?_⟩
  obtain ⟨j, hj, rfl⟩ := mem_gz (srt_mem.2 hy)
  exact gz_le (option_Sort.srt_sorted l) (Nat.zero_le _) hj
theorem eqS (x y : SO) : (x.f0 == y.f0 && (x.f1 == y.f1 && (x.f2 == y.f2))) = decide (x = y) := by
  cases x; cases y
  rw [Bool.eq_iff_iff]
  simp
theorem neS (x y : SO) : (!(x.f0 == y.f0) || (!(x.f1 == y.f1) || (!(x.f2 == y.f2)))) = !decide (x = y) := by
  rw [← eqS]
  cases x.f0 == y.f0 <;> cases x.f1 == y.f1 <;> cases x.f2 == y.f2 <;> rfl
theorem first_srt {l : List SO} (h : 0 < l.length) {r : Int} (hr : FirstOf (option_Sort.srt l) r) : r = 0 := by
  rcases hr with ⟨e, _⟩ | ⟨n, rfl, h1, h2, h3⟩
  · have := srt_len l
    rw [e] at this
    simp at this
    omega
  · rcases Nat.eq_zero_or_pos n with e | e
    · subst e; rfl
    · have h4 := h3 0 e
      rw [gz_le (option_Sort.srt_sorted l) (Nat.zero_le n) h1] at h4
      cases h4
theorem head_first {l : List SO} {n : Nat} (h1 : n < l.length) (h2 : ∀ j < l.length, ltS (gz l j) (gz l n) = false) : gz (option_Sort.srt l) 0 = gz l n := by
  obtain ⟨h3, h4⟩ := srt_head (l := l) (by omega)
  obtain ⟨j, hj, e⟩ := mem_gz h3
  refine ltS_eq ?_ (h4 _ (gz_mem h1))
  rw [e]
  exact h2 j hj
theorem srt_wf {l : List SO} (h : ∀ x ∈ l, option_Sort.wf x = true) : ∀ x ∈ option_Sort.srt l, option_Sort.wf x = true := fun x hx => h x (srt_mem.1 hx)
end Go.Proofs.Ytceldebkpjgmkaa.Pure
