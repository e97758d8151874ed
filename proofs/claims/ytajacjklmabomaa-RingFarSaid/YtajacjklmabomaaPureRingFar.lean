/- A good outcome makes a ring no nearer to too few, a bad one by one nearer; by as many bad ones as it tells too few are good. No condition. -/
import Derived.Test.YtajacjklmabomaaQRingFar
import Derived.Test.YtajacjklmabomaaLibRingLaw
namespace Go.Proofs.Ytajacjklmabomaa.Pure
open Go.RowKit Go.Proofs.Ytajacjklmabomaa.P Go.Proofs.YtajacjklmabomaaW.PrintWords Go.Proofs.YtajacjklmabomaaW.PrintLast
set_option linter.unusedVariables false
set_option linter.unusedSimpArgs false
theorem ringFar_loop {m k : Nat} (h1 : 1 ≤ m) (hm : m ≤ k) (hk : k ≤ 6) (n : Nat) (hn : n ≤ k) : ∀ (d i f : Nat) (N B : Int) (t : List Bool), i + d = n → d + 7 < f → View N B t → FarIs t m k d →
    fuseelaw03_RingFar.l0 f (m : Int) (k : Int) (n : Int) (i : Int) N B = some true
  | 0, i, f, N, B, t, hd, hf, ht, hF => by
    obtain ⟨f, rfl⟩ : ∃ x, f = x + 1 := ⟨f - 1, by omega⟩
    obtain ⟨r, hr, hFr⟩ := far_eq ht h1 hm hk (f := f) (by omega)
    rw [fuseelaw03_RingFar.l0, if_neg (by omega), hr, hF.unique hFr |>.symm]
    rfl
  | d + 1, i, f, N, B, t, hd, hf, ht, hF => by
    obtain ⟨f, rfl⟩ : ∃ x, f = x + 1 := ⟨f - 1, by omega⟩
    obtain ⟨p, hp, hv, _⟩ := put_view ht false
    rw [fuseelaw03_RingFar.l0, if_pos (by omega), hp]
    simp only [Option.bind_some]
    rw [w64 (by omega) (by omega), show ((i : Int) + 1) = ((i + 1 : Nat) : Int) by omega]
    exact ringFar_loop h1 hm hk n hn d (i + 1) f p.1 p.2 _ (by omega) (by omega) hv (far_bad h1 hm hk hF)
theorem RingFar : fuseelaw03_RingFar.Pure := by
  intro l m' k' _ _ _ _
  refine ⟨100, ?_⟩
  unfold fuseelaw03_RingFar.f
  rw [awake03]
  simp only [Option.bind_some, if_true]
  rcases pmay_or m' k' with ⟨m, k, rfl, rfl, h1, hm, hk, hp⟩ | hp
  · rw [hp]
    simp only [Option.bind_some, if_true]
    by_cases c : (l.length : Int) > 60
    · rw [decide_eq_true c, fuseelaw03_RingFar.j0, if_pos rfl]
    · rw [decide_eq_false c, fuseelaw03_RingFar.j0, if_neg (by decide), of_eq]
      have hlen : l.reverse.length ≤ 60 := by rw [List.length_reverse]; omega
      rw [List.take_of_length_le hlen]
      have hv := view_of hlen
      generalize ht : l.reverse = t at *
      have htl : t.length = l.length := by rw [← ht, List.length_reverse]
      simp only [Option.bind_some]
      obtain ⟨n, hn, hF⟩ := far_eq hv h1 hm hk (f := 99) (by omega)
      obtain ⟨p, hp1, hv1, _⟩ := put_view hv false
      obtain ⟨q, hq1, hv2, _⟩ := put_view hv true
      obtain ⟨b, hb, hFb⟩ := far_eq hv1 h1 hm hk (f := 99) (by omega)
      obtain ⟨g, hg, hFg⟩ := far_eq hv2 h1 hm hk (f := 99) (by omega)
      have eb : b = n - 1 := hFb.unique (far_bad h1 hm hk hF)
      have eg : n ≤ g := far_good h1 hm hk hF hFg
      have hnk := hF.1
      rw [hn]
      simp only [Option.bind_some]
      rw [hp1]
      simp only [Option.bind_some]
      rw [hb]
      simp only [Option.bind_some]
      rw [if_neg (by omega), if_neg (by omega), hq1]
      simp only [Option.bind_some]
      rw [hg]
      simp only [Option.bind_some]
      rw [if_neg (by omega)]
      have hj2 : fuseelaw03_RingFar.j2 98 (m : Int) (k : Int) (n : Int) false (t.length : Int) ((V t : Nat) : Int) = some true := by
        rw [fuseelaw03_RingFar.j2, if_neg (by decide)]
        exact ringFar_loop h1 hm hk n hnk n 0 97 _ _ t (by omega) (by omega) hv hF
      have hj1 : fuseelaw03_RingFar.j1 99 l (m : Int) (k : Int) (n : Int) false (t.length : Int) ((V t : Nat) : Int) = some true := by
        rw [fuseelaw03_RingFar.j1, if_neg (by decide)]
        by_cases c2 : k ≤ l.length
        · rw [if_pos (by omega), good_eq hv]
          simp only [Option.bind_some]
          rw [Int.toNat_natCast]
          have z := far_zero hF (by omega)
          have : (((n : Int) == 0) != decide (((cnt t k : Nat) : Int) < (m : Int))) = false := by
            by_cases q : n = 0
            · have := z.1 q
              rw [decide_eq_true (by omega), q]; rfl
            · have : ¬ cnt t k < m := fun x => q (z.2 x)
              rw [decide_eq_false (by omega)]
              have : ((n : Int) == 0) = false := by rw [beq_eq_false_iff_ne]; omega
              rw [this]; rfl
          rw [this]
          exact hj2
        · rw [if_neg (by omega)]
          exact hj2
      by_cases q : n = 0
      · subst q
        have e0 : (((b : Nat) : Int) != 0) = false := by
          have : b = 0 := by omega
          subst this; rfl
        rw [if_neg (by decide), if_pos (show ((0 : Nat) : Int) = 0 from rfl), e0]
        exact hj1
      · rw [if_pos (by omega), w64 (by omega) (by omega), if_pos (by omega), if_neg (by omega)]
        exact hj1
  · rw [hp]
    simp only [Option.bind_some]
    rw [if_neg (by decide), fuseelaw03_RingFar.j0, if_pos rfl]
end Go.Proofs.Ytajacjklmabomaa.Pure
