/- Any ring may be, or not, has an outcome put, has the list, and is told of, as the document says. No condition. -/
import Derived.Test.YtajacjklmabomaaQRingTells
import Derived.Test.YtajacjklmabomaaLibRingRef
import Derived.Test.YtajacjklmabomaaLibRingList
namespace Go.Proofs.Ytajacjklmabomaa.Pure
open Go.RowKit Go.Proofs.Ytajacjklmabomaa.P Go.Proofs.YtajacjklmabomaaW.PrintWords Go.Proofs.YtajacjklmabomaaW.PrintLast
set_option linter.unusedVariables false
set_option linter.unusedSimpArgs false
theorem awake400 : fuseelaw03_awake.f 400 = some true := by decide +kernel
theorem RingTells : fuseelaw03_RingTells.Pure := by
  intro N B good l n m k hN hB _ _ hn hm hk
  refine ⟨400, ?_⟩
  obtain ⟨b0, b1⟩ := wf_u64 hB
  unfold fuseelaw03_RingTells.f
  rw [awake400]
  simp only [Option.bind_some, if_true]
  by_cases c1 : (l.length : Int) > 200
  · rw [if_pos c1, fuseelaw03_RingTells.j0, if_pos rfl]
  · rw [if_neg c1]
    by_cases c2 : k > 1000
    · rw [decide_eq_true c2, fuseelaw03_RingTells.j0, if_pos rfl]
    · rw [decide_eq_false c2, fuseelaw03_RingTells.j0, if_neg (by decide)]
      obtain ⟨t, hv⟩ := view_any (N := N) b0
      have hl := hv.2
      rw [rmay_eq b0 (by omega), put_eq hv, rput_eq hv b0 good (by omega), of_eq, rof_eq (by omega) (by omega), list_eq hv (by omega), rlist_eq hv b0 (by omega)]
      obtain ⟨b, hb⟩ : ∃ b, ring_May.f N B = some b := by
        rcases may_or (N := N) b0 with ⟨s, hs, rfl, rfl⟩ | h
        · exact ⟨_, may_yes hs⟩
        · exact ⟨_, h⟩
      rw [hb]
      simp only [Option.bind_some, BEq.rfl, Bool.and_self, if_true]
      rw [rbools_eq _ (by simp; omega) (by simp; omega)]
      simp only [Option.bind_some]
      rw [fuseelaw03_RingTells.j1, if_pos rfl, rgood_eq hv b0 n (by omega), good_eq hv]
      simp only [Option.bind_some, if_true]
      obtain ⟨x, hx, hx'⟩ := rfine_eq hv b0 m k (f := 398) (by omega)
      obtain ⟨y, hy, hy'⟩ := rfar_eq hv b0 m k (f := 398) (by omega)
      rw [hx, hx', hy, hy']
      simp only [Option.bind_some, BEq.rfl, if_true]
end Go.Proofs.Ytajacjklmabomaa.Pure
