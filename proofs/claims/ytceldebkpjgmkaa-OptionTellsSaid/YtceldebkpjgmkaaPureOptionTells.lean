/- Any two stand to one another, any are in order, have a first one, and any job is one, or not, as the document says. No condition. -/
import Derived.Test.YtceldebkpjgmkaaQOptionTells
import Derived.Test.YtceldebkpjgmkaaLibOpt
import Derived.Test.YtceldebkpjgmkaaLibOptRef
import Derived.Test.YtceldebkpjgmkaaLibOptOf
import Derived.Test.YtceldebkpjgmkaaLibLess
namespace Go.Proofs.Ytceldebkpjgmkaa.Pure
open Go.RowKit Go.Proofs.Ytceldebkpjgmkaa.P Go.Proofs.YtceldebkpjgmkaaW.PrintWords Go.Proofs.YtceldebkpjgmkaaW.PrintLast
set_option linter.unusedVariables false
set_option linter.unusedSimpArgs false
theorem OptionTells : fuseelaw14_OptionTells.Pure := by
  intro l a0 a1 a2 b0 b1 b2 id C T X M K E o J R D Md c d r N B
  intros
  refine ⟨20000, ?_⟩
  rename_i hlm _ hwl _ _ _ _ _ _ _ _ _ _ _ _ _ _ _ _ _ _ _ _ hB
  unfold fuseelaw14_OptionTells.f
  rw [awake14 (by omega), Option.bind_some, if_pos rfl]
  by_cases c1 : (l.length : Int) > 100
  · rw [if_pos c1]
  rw [if_neg c1]
  by_cases c2 : c > 1099511627776
  · rw [if_pos c2]
  rw [if_neg c2]
  by_cases c3 : c < -1099511627776
  · rw [if_pos c3]
  rw [if_neg c3]
  by_cases c4 : d > 1099511627776
  · rw [if_pos c4]
  rw [if_neg c4]
  by_cases c5 : d < -1099511627776
  · rw [if_pos c5]
  rw [if_neg c5]
  by_cases c6 : r > 1099511627776
  · rw [if_pos c6]
  rw [if_neg c6]
  by_cases c7 : r < -1099511627776
  · rw [if_pos c7]
  rw [if_neg c7]
  by_cases c8 : K > 1000
  · rw [if_pos c8]
  rw [if_neg c8]
  have hw : ∀ x ∈ l, option_Sort.wf x = true := fun x hx => (option_Sort.wf_iff x).2 (hwl x hx)
  obtain ⟨v, h1, h2⟩ := opt_of (f := 20000) (id := id) (C := C) (T := T) (X := X) (M := M) (K := K) (E := E) (o := o) (J := J) (R := R) (D := D) (Md := Md) (c := c) (d := d) (r := r) (N := N) (B := B) (by omega) (wf_u64 hB).1 (by omega) (by omega) (by omega) (by omega) (by omega) (by omega)
  rw [h1, h2, Option.bind_some, Option.bind_some]
  have l1 := less_f ⟨a0, a1, a2⟩ ⟨b0, b1, b2⟩
  have l2 := rless_f ⟨a0, a1, a2⟩ ⟨b0, b1, b2⟩
  simp only at l1 l2
  rw [l1, l2, Option.bind_some, Option.bind_some, if_pos (by simp), sort_f (by omega) hw, Option.bind_some, rsort_f (by omega) (by omega), Option.bind_some, same_f (by rw [srt_len]; omega) (by rw [srt_len]; omega), Option.bind_some, if_pos rfl]
  obtain ⟨i, h3, h4⟩ := first_f (l := l) (f := 20000) (by omega) (by omega)
  rw [h3, Option.bind_some, rfirst_f (by omega) h4 (by omega), Option.bind_some, if_pos rfl, if_pos (by simp)]
  simp
end Go.Proofs.Ytceldebkpjgmkaa.Pure
