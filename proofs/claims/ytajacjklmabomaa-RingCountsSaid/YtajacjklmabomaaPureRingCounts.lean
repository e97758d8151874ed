/- Of more last ones no fewer are good, by as many more as there are more, at most; of all as many as the list tells. No condition. -/
import Derived.Test.YtajacjklmabomaaQRingCounts
import Derived.Test.YtajacjklmabomaaLibRingLaw
import Derived.Test.YtajacjklmabomaaLibRingList
namespace Go.Proofs.Ytajacjklmabomaa.Pure
open Go.RowKit Go.Proofs.Ytajacjklmabomaa.P Go.Proofs.YtajacjklmabomaaW.PrintWords Go.Proofs.YtajacjklmabomaaW.PrintLast
set_option linter.unusedVariables false
set_option linter.unusedSimpArgs false
theorem ringCounts_loop (l : List Bool) (hl : l.length ≤ 60) (n a b N B : Int) : ∀ (d i f : Nat), i + d = l.length → d < f →
    fuseelaw03_RingCounts.l0 f n a b l ((l.take i).count true : Nat) (i : Int) N B = fuseelaw03_RingCounts.l0 (f - d) n a b l (l.count true : Nat) (l.length : Nat) N B
  | 0, i, f, hd, hf => by
    have : i = l.length := by omega
    subst this
    rw [List.take_length, Nat.sub_zero]
  | d + 1, i, f, hd, hf => by
    obtain ⟨f, rfl⟩ : ∃ x, f = x + 1 := ⟨f - 1, by omega⟩
    have hlt : i < l.length := by omega
    have hr : rdOf false l (i : Int) = l[i] := by simp [rdOf, List.getD_eq_getElem?_getD, List.getElem?_eq_getElem hlt]
    have hc : (l.take (i + 1)).count true = (l.take i).count true + l[i].toNat := by
      rw [List.take_succ_eq_append_getElem hlt, List.count_append]
      cases l[i] <;> simp
    have hb : (l.take i).count true ≤ i := Nat.le_trans List.count_le_length (by rw [List.length_take]; omega)
    have ih := ringCounts_loop l hl n a b N B d (i + 1) f (by omega) (by omega)
    rw [hc] at ih
    rw [fuseelaw03_RingCounts.l0, if_pos (by omega), if_pos (by omega), hr, show f + 1 - (d + 1) = f - d by omega, ← ih, w64 (x := (i : Int) + 1) (by omega) (by omega), w64 (by omega) (by omega)]
    cases l[i] with
    | false => rw [if_neg (by decide)]; simp
    | true => rw [if_pos rfl]; simp
theorem RingCounts : fuseelaw03_RingCounts.Pure := by
  intro N B n hN hB hn
  refine ⟨100, ?_⟩
  obtain ⟨b0, b1⟩ := wf_u64 hB
  unfold fuseelaw03_RingCounts.f
  rw [awake03]
  simp only [Option.bind_some, if_true]
  rcases may_or (N := N) b0 with ⟨t, ht, rfl, rfl⟩ | hm
  · rw [may_yes ht]
    simp only [Option.bind_some, if_true]
    by_cases c1 : n < 0
    · rw [if_pos c1, fuseelaw03_RingCounts.j0, if_pos rfl]
    · rw [if_neg c1]
      by_cases c2 : n > 100
      · rw [decide_eq_true c2, fuseelaw03_RingCounts.j0, if_pos rfl]
      · rw [decide_eq_false c2, fuseelaw03_RingCounts.j0, if_neg (by decide)]
        have hv := view_of ht
        obtain ⟨m, rfl⟩ := Int.eq_ofNat_of_zero_le (show 0 ≤ n by omega)
        rw [good_eq hv, good_eq hv, list_eq hv (by omega)]
        simp only [Option.bind_some]
        have hl : t.reverse.length ≤ 60 := by rw [List.length_reverse]; exact ht
        have := ringCounts_loop t.reverse hl (m : Int) ((cnt t (m : Int).toNat : Nat) : Int) ((cnt t (wrap64 ((m : Int) + 1)).toNat : Nat) : Int) (t.length : Int) ((V t : Nat) : Int) t.reverse.length 0 99 (by omega) (by omega)
        rw [List.take_zero, List.count_nil] at this
        rw [show ((0 : Nat) : Int) = 0 from rfl] at this
        rw [this]
        obtain ⟨f, hf⟩ : ∃ f, 99 - t.reverse.length = f + 1 := ⟨98 - t.reverse.length, by omega⟩
        have s1 := cnt_step t m
        have s2 := cnt_le t m
        have e60 : cnt t 60 = t.reverse.count true := by
          unfold cnt; rw [List.take_of_length_le ht, List.count_reverse]
        have ho := of_eq t.reverse
        rw [List.reverse_reverse, List.take_of_length_le ht] at ho
        rw [hf, fuseelaw03_RingCounts.l0, if_neg (by omega), w64 (x := (m : Int) + 1) (by omega) (by omega), show ((m : Int) + 1).toNat = m + 1 by omega, Int.toNat_natCast,
          if_pos (by omega), w64 (by omega) (by omega), if_pos (by omega), if_pos (by omega), good_eq hv]
        simp only [Option.bind_some]
        rw [show (60 : Int).toNat = 60 from rfl, e60, if_pos rfl, List.length_reverse, if_pos rfl, ho]
        simp
  · rw [hm]
    simp only [Option.bind_some]
    rw [if_neg (by decide), fuseelaw03_RingCounts.j0, if_pos rfl]
end Go.Proofs.Ytajacjklmabomaa.Pure
