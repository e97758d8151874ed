/- Of two lists together the first one is the first one of either; one that is taken from the front leaves the others in order. No condition. -/
import Derived.Test.YtceldebkpjgmkaaQOptionBoth
import Derived.Test.YtceldebkpjgmkaaLibOptHead
import Derived.Test.YtceldebkpjgmkaaLibLess
namespace Go.Proofs.Ytceldebkpjgmkaa.Pure
open Go.RowKit Go.Proofs.Ytceldebkpjgmkaa.P Go.Proofs.YtceldebkpjgmkaaW.PrintWords Go.Proofs.YtceldebkpjgmkaaW.PrintLast
set_option linter.unusedVariables false
set_option linter.unusedSimpArgs false
theorem OptionBoth : fuseelaw14_OptionBoth.Pure := by
  intro a b
  intros
  rename_i _ _ hwa _ _ hwb
  refine ⟨5000, ?_⟩
  have wa : ∀ x ∈ a, option_Sort.wf x = true := fun x hx => (option_Sort.wf_iff x).2 (hwa x hx)
  have wb : ∀ x ∈ b, option_Sort.wf x = true := fun x hx => (option_Sort.wf_iff x).2 (hwb x hx)
  unfold fuseelaw14_OptionBoth.f
  rw [awake14 (by omega), Option.bind_some, if_pos rfl]
  by_cases c1 : (a.length : Int) > 60
  · rw [if_pos c1]
  rw [if_neg c1]
  by_cases c2 : (b.length : Int) > 60
  · rw [if_pos c2]
  rw [if_neg c2]
  by_cases c3 : (a.length : Int) = 0
  · rw [if_pos c3]
  rw [if_neg c3, if_pos (by simp; omega), Option.bind_some, List.nil_append, if_pos (by omega), Option.bind_some]
  obtain ⟨l, hl⟩ : ∃ l, a ++ b = l := ⟨_, rfl⟩
  rw [hl]
  have ll : l.length = a.length + b.length := by rw [← hl, List.length_append]
  have wl : ∀ x ∈ l, option_Sort.wf x = true := fun x hx => by
    rw [← hl] at hx
    rcases List.mem_append.1 hx with h | h
    · exact wa x h
    · exact wb x h
  rw [sort_f (by omega) wl, Option.bind_some]
  obtain ⟨i, h3, h4⟩ := first_f (l := l) (f := 5000) (by omega) (by omega)
  rw [h3, Option.bind_some, sort_f (by omega) wa, Option.bind_some, sort_f (by omega) wb, Option.bind_some]
  rcases h4 with ⟨e, _⟩ | ⟨n, rfl, g1, g2, g3⟩
  · rw [e] at ll
    simp at ll
    omega
  rw [if_pos (by rw [srt_len]), if_neg (by omega), if_neg (by omega), if_pos (by rw [srt_len]), if_pos (by rw [srt_len]), if_pos (by omega), if_pos (by omega), if_pos (by rw [srt_len]; omega)]
  have ra : rd_T23 (option_Sort.srt a) 0 = gz (option_Sort.srt a) 0 := rfl
  have rb : rd_T23 (option_Sort.srt b) 0 = gz (option_Sort.srt b) 0 := rfl
  have least : ∀ x ∈ l, ltS x (gz l n) = false := fun x hx => by
    obtain ⟨j, hj, rfl⟩ := mem_gz hx
    exact g2 j hj
  obtain ⟨ha1, ha2⟩ := srt_head (l := a) (by omega)
  have hal : gz (option_Sort.srt a) 0 ∈ l := by rw [← hl]; exact List.mem_append_left _ ha1
  have tail : ((option_Less.f (gz (option_Sort.srt a) 0).f0 (gz (option_Sort.srt a) 0).f1 (gz (option_Sort.srt a) 0).f2 (gz l n).f0 (gz l n).f1 (gz l n).f2).bind fun t => if t = true then none else if 1 ≤ ((option_Sort.srt l).length : Int) then (option_Sort.f ((option_Sort.srt l).drop 1)).bind fun t2 => (fuseeref14_Same.f 5000 t2 ((option_Sort.srt l).drop 1)).bind fun t3 => some t3 else none) = some true := by
    rw [less_f, Option.bind_some, least _ hal, if_neg (by decide), if_pos (by rw [srt_len]; omega)]
    have hd : ((option_Sort.srt l).drop 1).length ≤ 1000 := by rw [List.length_drop, srt_len]; omega
    rw [sort_f (by omega) (fun x hx => srt_wf wl x (List.mem_of_mem_drop hx)), Option.bind_some, srt_self ((option_Sort.srt_sorted l).sublist (List.drop_sublist _ _)), same_f (by omega) (by omega)]
    rfl
  rw [ra, rd_n, eqS]
  by_cases e : gz l n = gz (option_Sort.srt a) 0
  · rw [if_pos (decide_eq_true e)]
    exact tail
  · rw [if_neg (by rw [decide_eq_false e]; decide)]
    have hm : gz l n ∈ b := by
      have h : gz l n ∈ a ++ b := by rw [hl]; exact gz_mem g1
      rcases List.mem_append.1 h with h | h
      · exact absurd (ltS_eq (ha2 _ h) (least _ hal)) e
      · exact h
    have hb0 : 0 < b.length := List.length_pos_of_mem hm
    obtain ⟨hb1, hb2⟩ := srt_head (l := b) hb0
    have hbl : gz (option_Sort.srt b) 0 ∈ l := by rw [← hl]; exact List.mem_append_right _ hb1
    rw [if_pos (by rw [srt_len]; omega), if_pos (by rw [srt_len]; omega), rb, eqS, if_pos (decide_eq_true (ltS_eq (hb2 _ hm) (least _ hbl)))]
    exact tail
end Go.Proofs.Ytceldebkpjgmkaa.Pure
