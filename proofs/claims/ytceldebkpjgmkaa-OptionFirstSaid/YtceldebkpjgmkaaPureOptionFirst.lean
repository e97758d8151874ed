/- The first one is the first one when they are sorted, as often as it is there; sorted again they are the same. No condition. -/
import Derived.Test.YtceldebkpjgmkaaQOptionFirst
import Derived.Test.YtceldebkpjgmkaaLibOptHead
import Derived.Test.YtceldebkpjgmkaaLibLess
namespace Go.Proofs.Ytceldebkpjgmkaa.Pure
open Go.RowKit Go.Proofs.Ytceldebkpjgmkaa.P Go.Proofs.YtceldebkpjgmkaaW.PrintWords Go.Proofs.YtceldebkpjgmkaaW.PrintLast
set_option linter.unusedVariables false
set_option linter.unusedSimpArgs false
theorem cnt_take (l : List SO) (q : SO) {k : Nat} (h : k < l.length) : ((l.take (k + 1)).count q : Int) = ((l.take k).count q : Int) + (if gz l k = q then 1 else 0) := by
  rw [List.take_succ_eq_append_getElem h, ← gz_lt h, List.count_append, List.count_singleton]
  by_cases e : gz l k = q
  · simp [e]
  · simp [e]
theorem first_run (l : List SO) (hl : l.length ≤ 1000) (hw : ∀ x ∈ l, option_Sort.wf x = true) {n : Nat} (hn : n < l.length) : ∀ (d k f : Nat), k + d = l.length → 2 * d + 1010 ≤ f →
    fuseelaw14_OptionFirst.l0 f l (option_Sort.srt l) (n : Int) ((l.take k).count (gz l n) : Int) (((option_Sort.srt l).take k).count (gz l n) : Int) (k : Int) = some true
  | 0, k, f, hd, hf => by
    obtain ⟨f, rfl⟩ : ∃ x, f = x + 1 := ⟨f - 1, by omega⟩
    rw [fuseelaw14_OptionFirst.l0, if_neg (by omega), List.take_of_length_le (by omega), List.take_of_length_le (by rw [srt_len]; omega), (option_Sort.srt_perm l).count_eq, if_pos rfl, sort_f (by rw [srt_len]; omega) (srt_wf hw), Option.bind_some, srt_self (option_Sort.srt_sorted l), same_f (by rw [srt_len]; omega) (by rw [srt_len]; omega)]
    rfl
  | d + 1, k, f, hd, hf => by
    obtain ⟨f, rfl⟩ : ∃ x, f = x + 1 + 1 := ⟨f - 2, by omega⟩
    have hk : k < l.length := by omega
    have ih := first_run l hl hw hn d (k + 1) f (by omega) (by omega)
    have c1 := List.count_le_length (a := gz l n) (l := l.take k)
    have c2 := List.count_le_length (a := gz l n) (l := (option_Sort.srt l).take k)
    rw [List.length_take] at c1 c2
    rw [cnt_take l _ hk, cnt_take _ _ (by rw [srt_len]; exact hk)] at ih
    have step : ∀ a : Int, a = ((l.take k).count (gz l n) : Int) + (if gz l k = gz l n then 1 else 0) → fuseelaw14_OptionFirst.j3 (f + 1) l (option_Sort.srt l) (n : Int) a (((option_Sort.srt l).take k).count (gz l n) : Int) (k : Int) = some true := by
      intro a ha
      have less : k ≠ 0 → ltS (gz (option_Sort.srt l) k) (gz (option_Sort.srt l) (k - 1)) = false := fun _ => gz_le (option_Sort.srt_sorted l) (by omega) (by rw [srt_len]; exact hk)
      rw [fuseelaw14_OptionFirst.j3, if_pos (by omega), if_pos (by rw [srt_len]; omega), if_pos (by omega), if_pos (by omega), rd_n, rd_n, eqS, opt_w (x := (k : Int) + 1) (by omega) (by omega), show (k : Int) + 1 = ((k + 1 : Nat) : Int) from rfl]
      by_cases e : gz (option_Sort.srt l) k = gz l n
      · rw [if_pos (decide_eq_true e)]
        have hw2 := opt_w (x := (((option_Sort.srt l).take k).count (gz l n) : Int) + 1) (by omega) (by omega)
        rw [hw2]
        rw [if_pos e] at ih
        rw [ha]
        by_cases z : k = 0
        · rw [if_neg (by omega)]
          exact ih
        · rw [if_pos (by omega), opt_w (by omega) (by omega), show (k : Int) - 1 = ((k - 1 : Nat) : Int) by omega, if_pos (by omega), if_pos (by rw [srt_len]; omega), rd_n, less_f, Option.bind_some, less z, if_neg (by decide)]
          exact ih
      · rw [if_neg (by rw [decide_eq_false e]; decide)]
        rw [if_neg e, Int.add_zero] at ih
        rw [ha]
        by_cases z : k = 0
        · rw [if_neg (by omega)]
          exact ih
        · rw [if_pos (by omega), opt_w (by omega) (by omega), show (k : Int) - 1 = ((k - 1 : Nat) : Int) by omega, if_pos (by omega), if_pos (by rw [srt_len]; omega), rd_n, less_f, Option.bind_some, less z, if_neg (by decide)]
          exact ih
    rw [fuseelaw14_OptionFirst.l0, if_pos (by omega), if_pos (by omega), if_pos (by omega), if_pos (by omega), rd_n, rd_n, eqS]
    by_cases e : gz l k = gz l n
    · rw [if_pos (decide_eq_true e), opt_w (by omega) (by omega)]
      exact step _ (by rw [if_pos e])
    · rw [if_neg (by rw [decide_eq_false e]; decide)]
      exact step _ (by rw [if_neg e, Int.add_zero])
theorem OptionFirst : fuseelaw14_OptionFirst.Pure := by
  intro l
  intros
  rename_i _ _ hwl
  refine ⟨5000, ?_⟩
  have hw : ∀ x ∈ l, option_Sort.wf x = true := fun x hx => (option_Sort.wf_iff x).2 (hwl x hx)
  unfold fuseelaw14_OptionFirst.f
  rw [awake14 (by omega), Option.bind_some, if_pos rfl]
  by_cases c1 : (l.length : Int) > 100
  · rw [decide_eq_true c1, fuseelaw14_OptionFirst.j0, if_pos rfl]
  rw [decide_eq_false c1, fuseelaw14_OptionFirst.j0, if_neg (by decide), sort_f (by omega) hw, Option.bind_some]
  obtain ⟨i, h3, h4⟩ := first_f (l := l) (f := 4999) (by omega) (by omega)
  rw [h3, Option.bind_some]
  rcases h4 with ⟨rfl, rfl⟩ | ⟨n, rfl, g1, g2, g3⟩
  · rw [if_pos (by decide), if_pos rfl]
    have := srt_len ([] : List SO)
    rw [this]
    rfl
  · rw [if_neg (by omega), if_pos (by rw [srt_len]), if_neg (by omega), if_neg (by omega), if_pos (by rw [srt_len]; omega), if_pos (by omega), if_pos (by omega)]
    have hd := head_first g1 g2
    have r0 : rd_T23 (option_Sort.srt l) 0 = gz (option_Sort.srt l) 0 := rfl
    rw [r0, rd_n, hd, neS, decide_eq_true rfl, if_neg (by decide)]
    obtain ⟨t, h5, h6⟩ := first_f (l := option_Sort.srt l) (f := 4999) (by rw [srt_len]; omega) (by rw [srt_len]; omega)
    rw [h5, Option.bind_some, first_srt (by omega) h6, show ((0 : Int) != 0) = false from rfl, fuseelaw14_OptionFirst.j1, if_neg (by decide)]
    have := first_run l (by omega) hw g1 l.length 0 4998 (by omega) (by omega)
    simpa using this
end Go.Proofs.Ytceldebkpjgmkaa.Pure
