/- The document's answer of layer 3, by lists, is what the program tells by bits. No condition but each lemma's own. -/
import Derived.Test.YtceldebkpjgmkaaPx14
import Derived.Test.YtceldebkpjgmkaaPx15
import Derived.Test.YtceldebkpjgmkaaLibRingF
namespace Go.Proofs.Ytceldebkpjgmkaa.Pure
open Go.RowKit Go.Proofs.Ytceldebkpjgmkaa.P Go.Proofs.YtceldebkpjgmkaaW.PrintWords Go.Proofs.YtceldebkpjgmkaaW.PrintLast Go.Proofs.YtceldebkpjgmkaaW.PrintMore
set_option linter.unusedVariables false
set_option linter.unusedSimpArgs false
theorem view_cases {N B : Int} {t : List Bool} (h : View N B t) (h0 : 0 ≤ B) : (N = t.length ∧ B = ((V t : Nat) : Int) ∧ t.length ≤ 60 ∧ ring_May.f N B = some true) ∨ (t = [] ∧ ring_May.f N B = some false) := by
  obtain ⟨h, hl⟩ := h
  unfold ring_of.f at h
  rcases may_or (N := N) h0 with ⟨s, hs, rfl, rfl⟩ | hm
  · rw [may_yes hs] at h
    simp only [Option.bind_some, if_true, Option.some.injEq, Prod.mk.injEq] at h
    exact .inl ⟨h.1, h.2, hl, may_yes hs⟩
  · rw [hm] at h
    simp only [Option.bind_some, Bool.false_eq_true, if_false, Option.some.injEq, Prod.mk.injEq] at h
    exact .inr ⟨List.eq_nil_of_length_eq_zero (by omega), hm⟩
theorem rmay_loop {n : Nat} (hn : n ≤ 60) (B : Int) : ∀ (d i f : Nat), i + d = n → d < f → fuseeref03_May.l0 f ((2 ^ i : Nat) : Int) (i : Int) (n : Int) B = some (decide (B < ((2 ^ n : Nat) : Int)))
  | 0, i, f, hd, hf => by
    obtain ⟨f, rfl⟩ : ∃ x, f = x + 1 := ⟨f - 1, by omega⟩
    have : i = n := by omega
    subst this
    rw [fuseeref03_May.l0, if_neg (by omega)]
  | d + 1, i, f, hd, hf => by
    obtain ⟨f, rfl⟩ : ∃ x, f = x + 1 := ⟨f - 1, by omega⟩
    have hp : 2 ^ i ≤ 2 ^ 60 := Nat.pow_le_pow_right (by decide) (by omega)
    have ih := rmay_loop hn B d (i + 1) f (by omega) (by omega)
    rw [Nat.pow_succ] at ih
    generalize 2 ^ i = P at *
    rw [fuseeref03_May.l0, if_pos (by omega), w64 (by omega) (by omega), u64w (by omega) (by omega), show ((i : Int) + 1) = ((i + 1 : Nat) : Int) by omega,
      show ((P : Int) * 2) = ((P * 2 : Nat) : Int) by omega]
    exact ih
theorem rmay_eq {N B : Int} (h : 0 ≤ B) {f : Nat} (hf : 62 < f) : fuseeref03_May.f f N B = ring_May.f N B := by
  obtain ⟨f, rfl⟩ : ∃ x, f = x + 1 := ⟨f - 1, by omega⟩
  unfold fuseeref03_May.f ring_May.f
  by_cases c1 : N < 0
  · rw [if_pos c1, if_neg (by omega), fuseeref03_May.j0, if_pos rfl]
  · rw [if_neg c1, if_pos (by omega)]
    by_cases c2 : N > 60
    · rw [decide_eq_true c2, if_neg (by omega), fuseeref03_May.j0, if_pos rfl]
    · rw [decide_eq_false c2, if_pos (by omega), if_pos (by omega), fuseeref03_May.j0, if_neg (by decide)]
      obtain ⟨n, rfl⟩ := Int.eq_ofNat_of_zero_le (show 0 ≤ N by omega)
      obtain ⟨b, rfl⟩ := Int.eq_ofNat_of_zero_le h
      have := rmay_loop (n := n) (by omega) (b : Int) n 0 f (by omega) (by omega)
      rw [Nat.pow_zero] at this
      rw [show ((1 : Nat) : Int) = 1 from rfl, show ((0 : Nat) : Int) = 0 from rfl] at this
      rw [this, shr_nat _ _ (by omega)]
      congr 1
      by_cases c3 : b < 2 ^ n
      · rw [decide_eq_true (by omega), Nat.div_eq_of_lt c3]; rfl
      · rw [decide_eq_false (by omega)]
        have : 0 < b / 2 ^ n := Nat.div_pos (by omega) (Nat.two_pow_pos n)
        symm; rw [beq_eq_false_iff_ne]; omega
theorem rlist_loop {t : List Bool} (h : t.length ≤ 60) (B : Int) : ∀ (d i f : Nat), i + d = t.length → d < f →
    fuseeref03_List.l0 f (t.take i).reverse ((V (t.drop i) : Nat) : Int) (i : Int) (t.length : Int) B = some t.reverse
  | 0, i, f, hd, hf => by
    obtain ⟨f, rfl⟩ : ∃ x, f = x + 1 := ⟨f - 1, by omega⟩
    rw [fuseeref03_List.l0, if_neg (by omega), List.take_of_length_le (by omega)]
  | d + 1, i, f, hd, hf => by
    obtain ⟨f, rfl⟩ : ∃ x, f = x + 1 := ⟨f - 1, by omega⟩
    have hlt : i < t.length := by omega
    have ih := rlist_loop h B d (i + 1) f (by omega) (by omega)
    have hv : V (t.drop (i + 1)) < 1152921504606846976 := V_lt60 (by rw [List.length_drop]; omega)
    rw [fuseeref03_List.l0, if_pos (by omega), List.drop_eq_getElem_cons hlt, V]
    simp only [Option.bind_some]
    have hb := toNat_le t[i]
    rw [if_pos (by simp; omega), w64 (by omega) (by omega), show ((i : Int) + 1) = ((i + 1 : Nat) : Int) by omega, Int.tdiv_eq_ediv_of_nonneg (by omega), Int.tmod_eq_emod_of_nonneg (by omega),
      show ((t[i].toNat + 2 * V (t.drop (i + 1)) : Nat) : Int) / 2 = ((V (t.drop (i + 1)) : Nat) : Int) by omega, u64w (by omega) (by omega),
      show ((t[i].toNat + 2 * V (t.drop (i + 1)) : Nat) : Int) % 2 = ((t[i].toNat : Nat) : Int) by omega]
    have e : (((t[i].toNat : Nat) : Int) == 1) = t[i] := by cases t[i] <;> rfl
    rw [e]
    have e2 : [t[i]] ++ (t.take i).reverse = (t.take (i + 1)).reverse := by
      rw [List.take_succ_eq_append_getElem hlt, List.reverse_append]; rfl
    rw [e2]
    exact ih
theorem rlist_eq {N B : Int} {t : List Bool} (h : View N B t) (h0 : 0 ≤ B) {f : Nat} (hf : 62 < f) : fuseeref03_List.f f N B = some t.reverse := by
  unfold fuseeref03_List.f
  rw [rmay_eq h0 hf]
  rcases view_cases h h0 with ⟨rfl, rfl, hl, hm⟩ | ⟨rfl, hm⟩
  · rw [hm]
    simp only [Option.bind_some, if_true]
    exact rlist_loop hl ((V t : Nat) : Int) t.length 0 f (by omega) (by omega)
  · rw [hm]; rfl
theorem rcount_loop (l : List Bool) (hl : l.length ≤ 1000) (n : Nat) (hn : n ≤ 1000) : ∀ (d i f c : Nat), i + d = l.length → d < f → c ≤ i →
    fuseeref03_count.l0 f l (n : Int) (c : Int) (i : Int) = some (((c + ((l.drop i).drop (l.length - n - i)).count true : Nat)) : Int)
  | 0, i, f, c, hd, hf, hc => by
    obtain ⟨f, rfl⟩ : ∃ x, f = x + 1 := ⟨f - 1, by omega⟩
    rw [fuseeref03_count.l0, if_neg (by omega), List.drop_of_length_le (by omega : l.length ≤ i)]; simp
  | d + 1, i, f, c, hd, hf, hc => by
    obtain ⟨f, rfl⟩ : ∃ x, f = x + 1 := ⟨f - 1, by omega⟩
    have hlt : i < l.length := by omega
    have hr : rdOf false l (i : Int) = l[i] := by simp [rdOf, List.getD_eq_getElem?_getD, List.getElem?_eq_getElem hlt]
    have ih0 := rcount_loop l hl n hn d (i + 1) f c (by omega) (by omega) (by omega)
    have ih1 := rcount_loop l hl n hn d (i + 1) f (c + 1) (by omega) (by omega) (by omega)
    rw [fuseeref03_count.l0, if_pos (by omega), if_pos (by omega), hr, w64 (x := (i : Int) + 1) (by omega) (by omega), w64 (x := (c : Int) + 1) (by omega) (by omega), w64 (by omega) (by omega),
      show ((i : Int) + 1) = ((i + 1 : Nat) : Int) by omega, show ((c : Int) + 1) = ((c + 1 : Nat) : Int) by omega, List.drop_eq_getElem_cons hlt]
    by_cases c1 : l.length - n ≤ i
    · rw [show l.length - n - i = 0 by omega, List.drop_zero]
      rw [show l.length - n - (i + 1) = 0 by omega, List.drop_zero] at ih0 ih1
      cases l[i] with
      | false => rw [if_neg (by decide), ih0]; simp
      | true => rw [if_pos rfl, if_pos (by omega), ih1]; simp; omega
    · obtain ⟨s, hs⟩ : ∃ s, l.length - n - i = s + 1 := ⟨l.length - n - i - 1, by omega⟩
      rw [show l.length - n - (i + 1) = s by omega] at ih0
      rw [hs, List.drop_succ_cons, ih0.symm]
      cases l[i] with
      | false => rw [if_neg (by decide)]
      | true => rw [if_pos rfl, if_neg (by omega)]
theorem rcount_eq (l : List Bool) (hl : l.length ≤ 1000) (n : Nat) (hn : n ≤ 1000) {f : Nat} (hf : l.length < f) : fuseeref03_count.f f l (n : Int) = some ((cnt l.reverse n : Nat) : Int) := by
  unfold fuseeref03_count.f cnt
  have := rcount_loop l hl n hn l.length 0 f 0 (by omega) hf (Nat.le_refl _)
  rw [List.drop_zero, Nat.zero_add, Nat.sub_zero] at this
  rw [List.take_reverse, List.count_reverse, ← this]
  rfl
theorem rpmay_eq (m k : Int) : fuseeref02_May.f m k = pat_May.f m k := rfl
theorem rfar_cnt {t : List Bool} {k j n : Nat} (hj : k ≤ t.length + j) (hn : n ≤ k) : cnt (((List.replicate j true ++ t.reverse) ++ List.replicate n false).reverse) k = cnt (ahd t k) (k - n) := by
  rw [List.reverse_append, List.reverse_append, List.reverse_reverse, List.reverse_replicate, List.reverse_replicate]
  unfold cnt ahd
  rw [List.take_append, List.take_replicate, List.length_replicate, List.count_append, List.count_replicate]
  have : (t ++ List.replicate j true).take (k - n) = (t ++ List.replicate k true).take (k - n) := by
    rw [List.take_append, List.take_append, List.take_replicate, List.take_replicate]
    congr 2; omega
  rw [this]
  simp
theorem rfar_loop {t : List Bool} (ht : t.length ≤ 60) {m k j : Nat} (hk : k ≤ 6) (h1 : 1 ≤ m) (hm : m ≤ k) (hj : k ≤ t.length + j) (hj2 : j ≤ 6) : ∀ (d n f : Nat), n + d = k → d + 100 < f → (∀ i < n, m ≤ cnt (ahd t k) (k - i)) →
    ∃ r : Nat, fuseeref03_Far.l1 f (m : Int) (k : Int) ((List.replicate j true ++ t.reverse) ++ List.replicate n false) (n : Int) = some (r : Int) ∧ FarIs t m k r
  | 0, n, f, hd, hf, hn => by
    obtain ⟨f, rfl⟩ : ∃ x, f = x + 1 := ⟨f - 1, by omega⟩
    refine ⟨k, ?_, Nat.le_refl _, by rw [Nat.sub_self]; show 0 < m; omega, fun i hi => hn i (by omega)⟩
    rw [fuseeref03_Far.l1, if_neg (by omega)]
  | d + 1, n, f, hd, hf, hn => by
    obtain ⟨f, rfl⟩ : ∃ x, f = x + 1 := ⟨f - 1, by omega⟩
    rw [fuseeref03_Far.l1, if_pos (by omega), rcount_eq _ (by simp; omega) k (by omega) (by simp; omega), rfar_cnt hj (by omega)]
    simp only [Option.bind_some]
    by_cases c : cnt (ahd t k) (k - n) < m
    · exact ⟨n, by rw [if_pos (by omega)], by omega, c, hn⟩
    · rw [if_neg (by omega), if_pos (by simp; omega), w64 (by omega) (by omega), show ((n : Int) + 1) = ((n + 1 : Nat) : Int) by omega, List.append_assoc _ _ [false], ← List.replicate_succ']
      refine rfar_loop ht hk h1 hm hj hj2 d (n + 1) f (by omega) (by omega) fun i hi => ?_
      rcases Nat.lt_succ_iff_lt_or_eq.1 hi with q | q
      · exact hn i q
      · subst q; omega
theorem rfar_fill {t : List Bool} (ht : t.length ≤ 60) {m k : Nat} (hk : k ≤ 6) (h1 : 1 ≤ m) (hm : m ≤ k) : ∀ (d j f : Nat), j + d = 6 → d + 150 < f →
    ∃ r : Nat, fuseeref03_Far.l0 f (m : Int) (k : Int) (List.replicate j true ++ t.reverse) = some (r : Int) ∧ FarIs t m k r
  | 0, j, f, hd, hf => by
    obtain ⟨f, rfl⟩ : ∃ x, f = x + 1 := ⟨f - 1, by omega⟩
    rw [fuseeref03_Far.l0, if_neg (by simp; omega)]
    have := rfar_loop ht hk h1 hm (j := j) (by omega) (by omega) k 0 f (by omega) (by omega) (fun i hi => by omega)
    rw [List.replicate_zero, List.append_nil] at this
    exact this
  | d + 1, j, f, hd, hf => by
    obtain ⟨f, rfl⟩ : ∃ x, f = x + 1 := ⟨f - 1, by omega⟩
    rw [fuseeref03_Far.l0]
    by_cases c : k ≤ t.length + j
    · rw [if_neg (by simp; omega)]
      have := rfar_loop ht hk h1 hm (j := j) c (by omega) k 0 f (by omega) (by omega) (fun i hi => by omega)
      rw [List.replicate_zero, List.append_nil] at this
      exact this
    · rw [if_pos (by simp; omega)]
      simp only [Option.bind_some]
      rw [if_pos (by simp; omega), ← List.append_assoc, show [true] ++ List.replicate j true = List.replicate (j + 1) true from rfl]
      exact rfar_fill ht hk h1 hm d (j + 1) f (by omega) (by omega)
theorem rfar_eq {N B : Int} {t : List Bool} (h : View N B t) (h0 : 0 ≤ B) (m k : Int) {f : Nat} (hf : 250 < f) : ∃ r : Int, fuseeref03_Far.f f N B m k = some r ∧ ring_Far.f f N B m k = some r := by
  unfold fuseeref03_Far.f
  rw [rlist_eq h h0 (by omega), rpmay_eq]
  rcases pmay_or m k with ⟨a, b, rfl, rfl, h1, hm, hk, hp⟩ | hp
  · rw [hp]
    simp only [Option.bind_some, if_true]
    obtain ⟨x, hx, hxF⟩ := rfar_fill (m := a) h.2 hk h1 hm 6 0 f (by omega) (by omega)
    obtain ⟨y, hy, hyF⟩ := far_eq h h1 hm hk (f := f) (by omega)
    have := hxF.unique hyF
    subst this
    exact ⟨_, hx, hy⟩
  · refine ⟨k, by rw [hp]; rfl, ?_⟩
    unfold ring_Far.f
    rw [h.1, hp]; rfl
end Go.Proofs.Ytceldebkpjgmkaa.Pure
