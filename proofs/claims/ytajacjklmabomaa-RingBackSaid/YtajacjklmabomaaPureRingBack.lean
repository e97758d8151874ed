/- Outcomes that are put are there, in order, the last sixty; one more is the last one. No condition. -/
import Derived.Test.YtajacjklmabomaaQRingBack
import Derived.Test.YtajacjklmabomaaLibRingRef
import Derived.Test.YtajacjklmabomaaLibRingList
-- pruned
namespace Go.Proofs.Ytajacjklmabomaa.Pure
open Go.RowKit Go.Proofs.Ytajacjklmabomaa.P Go.Proofs.YtajacjklmabomaaW.PrintWords Go.Proofs.YtajacjklmabomaaW.PrintLast
set_option linter.unusedVariables false
set_option linter.unusedSimpArgs false
theorem awake300 : fuseelaw03_awake.f 300 = some true := by decide +kernel
theorem RingBack : fuseelaw03_RingBack.Pure := by
  intro l good _ _
  refine ⟨300, ?_⟩
  unfold fuseelaw03_RingBack.f
  rw [awake300]
  simp only [Option.bind_some, if_true]
  by_cases c : (l.length : Int) > 200
  · rw [if_pos c]
  · rw [if_neg c, of_eq]
    simp only [Option.bind_some]
    have hw : (l.reverse.take 60).reverse = if (l.length : Int) > 60 then l.drop (l.length - 60) else l := by
      by_cases c2 : (l.length : Int) > 60
      · rw [if_pos c2, List.take_reverse, List.reverse_reverse]
      · rw [if_neg c2, List.take_of_length_le (by rw [List.length_reverse]; omega), List.reverse_reverse]
    have ht : (l.reverse.take 60).length ≤ 60 := by rw [List.length_take]; omega
    generalize l.reverse.take 60 = t at *
    have hv := view_of ht
    have hp : ((good :: t).take 60).length ≤ 60 := by rw [List.length_take]; omega
    have hvp := view_of hp
    have hlast : ((good :: t).take 60).reverse = ((t.take 59).reverse ++ [good]) := by
      rw [show 60 = 59 + 1 from rfl, List.take_succ_cons, List.reverse_cons]
    have hg : cnt ((good :: t).take 60) 1 = good.toNat := by
      unfold cnt
      rw [show 60 = 59 + 1 from rfl, List.take_succ_cons, List.take_succ_cons, List.take_zero]
      cases good <;> rfl
    have tail : ((ring_Good.f (((good :: t).take 60).length : Int) ((V ((good :: t).take 60) : Nat) : Int) 1).bind fun t277 => (some ((t277 == 1) == good))) = some true := by
      rw [good_eq hvp]
      simp only [Option.bind_some]
      rw [show (1 : Int).toNat = 1 from rfl, hg]
      cases good <;> rfl
    have key : ∀ want : List Bool, want = t.reverse → ((ring_Put.f (t.length : Int) ((V t : Nat) : Int) good).bind fun bt264 => ((ring_List.f 300 bt264.1 bt264.2).bind fun t267 => ((ring_May.f (t.length : Int) ((V t : Nat) : Int)).bind fun t270 => (if t270 = true then ((ring_May.f bt264.1 bt264.2).bind fun t271 => (if t271 = true then ((ring_List.f 300 (t.length : Int) ((V t : Nat) : Int)).bind fun t272 => ((fuseeref02_Bools.f 300 t272 want).bind fun t275 => (if t275 = true then (if (t267.length : Int) > 0 then (if 0 ≤ (wrap64 ((t267.length : Int) - 1)) then (if (wrap64 ((t267.length : Int) - 1)) < (t267.length : Int) then (if ((rdOf false t267 (wrap64 ((t267.length : Int) - 1))) == good) = true then (if (t267.length : Int) ≤ 60 then ((ring_Good.f bt264.1 bt264.2 1).bind fun t277 => (some ((t277 == 1) == good))) else (none)) else (none)) else (none)) else (none)) else (none)) else (none)))) else (none))) else (none))))) = some true := by
      intro want hwant
      subst hwant
      rw [put_eq hv]
      simp only [Option.bind_some]
      rw [list_eq hvp (by omega), may_yes ht, may_yes hp, list_eq hv (by omega)]
      simp only [Option.bind_some, if_true]
      rw [rbools_eq _ (by simp; omega) (by simp; omega)]
      simp only [Option.bind_some, if_true]
      rw [tail]
      have hlen : ((good :: t).take 60).reverse.length = (t.take 59).length + 1 := by rw [hlast]; simp
      have hlen2 : (t.take 59).length ≤ 59 := by rw [List.length_take]; omega
      rw [if_pos (by omega), w64 (by omega) (by omega), if_pos (by omega), if_pos (by omega), if_pos (c := _ ≤ (60 : Int)) (by omega), if_pos]
      rw [hlen]
      unfold rdOf
      rw [show ((((t.take 59).length + 1 : Nat) : Int) - 1).toNat = (t.take 59).reverse.length by rw [List.length_reverse]; omega, hlast]
      simp
    by_cases c2 : (l.length : Int) > 60
    · rw [if_pos c2] at hw
      rw [if_pos c2, w64 (by omega) (by omega), if_pos (by omega), if_pos (by omega), show ((l.length : Int) - 60).toNat = l.length - 60 by omega]
      exact key _ hw.symm
    · rw [if_neg c2] at hw
      rw [if_neg c2]
      exact key _ hw.symm
end Go.Proofs.Ytajacjklmabomaa.Pure
