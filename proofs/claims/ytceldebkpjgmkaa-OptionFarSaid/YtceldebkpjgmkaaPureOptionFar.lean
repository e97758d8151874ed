/- A good outcome makes a job that need not run no more urgent; a mandatory one is none. No condition. -/
import Derived.Test.YtceldebkpjgmkaaQOptionFar
import Derived.Test.YtceldebkpjgmkaaLibLess
import Derived.Test.YtceldebkpjgmkaaLibJobF
import Derived.Test.YtceldebkpjgmkaaLibRingF
namespace Go.Proofs.Ytceldebkpjgmkaa.Pure
open Go.RowKit Go.Proofs.Ytceldebkpjgmkaa.P Go.Proofs.YtceldebkpjgmkaaW.PrintWords Go.Proofs.YtceldebkpjgmkaaW.PrintLast
set_option linter.unusedVariables false
set_option linter.unusedSimpArgs false
theorem opt_none {id C T X M K E J R D c d r N B : Int} {o Md : Bool} (k : Nat) (h : o = false ∨ Md = true) : option_Of.f k id C T X M K E o J R D Md c d r N B = some (0, 0, 0, false) := by
  unfold option_Of.f
  cases o with
  | false => rfl
  | true =>
    rcases h with h | h
    · cases h
    · subst h; rfl
theorem OptionFar : fuseelaw14_OptionFar.Pure := by
  intro id C T X M K E o J R D Md c d r N B _ _ _ _ _ _ _ _ _ _ _ _ _ _ hB
  refine ⟨100, ?_⟩
  unfold fuseelaw14_OptionFar.f
  rw [awake14 (by omega), Option.bind_some, if_pos rfl]
  obtain ⟨b, hb⟩ := jmay_some C T X M K E J R D c d r o Md
  rw [hb, Option.bind_some]
  cases b with
  | false => rw [if_neg (by decide)]
  | true =>
    rw [if_pos rfl]
    have hB' := wf_u64 hB
    rcases may_or (N := N) (B := B) hB'.1 with ⟨t, ht, rfl, rfl⟩ | hm
    · have hv := view_of ht
      rw [may_yes ht, Option.bind_some, if_pos rfl]
      obtain ⟨p, hp, hv1, _⟩ := put_view hv true
      have hs := jmay_spec hb
      have sok := spec_ok hs
      by_cases g : o = false ∨ Md = true
      · rw [opt_none 100 g, Option.bind_some, hp, Option.bind_some, opt_none 100 g, Option.bind_some, if_neg (by decide)]
        cases o with
        | false => rfl
        | true =>
          rcases g with g | g
          · cases g
          · subst g; rfl
      · have ho : o = true := by cases o with | true => rfl | false => exact absurd (.inl rfl) g
        have hMd : Md = false := by cases Md with | false => rfl | true => exact absurd (.inr rfl) g
        subst ho hMd
        have jo := (jmay_on hs).1.1 hb
        obtain ⟨j1, j2, j3, j4, j5, j6, j7, j8, j9, j10, j11, j12⟩ := jo
        obtain ⟨m, rfl⟩ : ∃ m : Nat, M = (m : Int) := ⟨M.toNat, by omega⟩
        obtain ⟨q, rfl⟩ : ∃ q : Nat, K = (q : Int) := ⟨K.toNat, by omega⟩
        obtain ⟨n, hn, hF⟩ := far_eq hv (m := m) (k := q) (by omega) (by omega) (by omega) (f := 100) (by omega)
        obtain ⟨n', hn', hF'⟩ := far_eq hv1 (m := m) (k := q) (by omega) (by omega) (by omega) (f := 100) (by omega)
        have hle := far_good (by omega) (by omega) (by omega) hF hF'
        have hk := hF.1
        have of1 : ∀ (N B : Int) (x : Nat), ring_Far.f 100 N B (m : Int) (q : Int) = some (x : Int) → option_Of.f 100 id C T X m q E true J R D false c d r N B = some ((x : Int), D, id, true) := by
          intro N B x hx
          unfold option_Of.f
          rw [if_pos rfl, if_neg (by decide), jleft_on (by omega) (by omega) (by omega) (by omega) (by omega) (by omega), Option.bind_some, if_neg (by omega), hx]
          rfl
        rw [of1 _ _ n hn, Option.bind_some, hp, Option.bind_some, of1 _ _ n' hn', Option.bind_some]
        have e1 : (n : Int) ≤ n' := by omega
        have e2 : (n : Int) ≤ q := by omega
        simp [e1, e2]
    · rw [hm]
      rfl
end Go.Proofs.Ytceldebkpjgmkaa.Pure
