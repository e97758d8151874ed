/- The document's First and Sort of a list. No condition but each lemma's own. -/
import Derived.Test.YtceldebkpjgmkaaPx19
import Derived.Test.YtceldebkpjgmkaaPx20
import Derived.Test.YtceldebkpjgmkaaLibOpt
namespace Go.Proofs.Ytceldebkpjgmkaa.Pure
open Go.RowKit Go.Proofs.Ytceldebkpjgmkaa.P Go.Proofs.YtceldebkpjgmkaaW.PrintWords Go.Proofs.YtceldebkpjgmkaaW.PrintLast Go.Proofs.YtceldebkpjgmkaaW.PrintMore
set_option linter.unusedVariables false
set_option linter.unusedSimpArgs false
theorem rfirst_in (l : List SO) (h : l.length ≤ 1000) (i : Nat) (hi : i < l.length) (k : Nat) : ∀ (d j : Nat) (fl : Bool), j + d = l.length →
    fuseeref14_First.l1 (k + d + 1) l (i : Int) fl (j : Int) = if (fl && (l.drop j).all fun x => !ltS x (gz l i)) = true then some (i : Int) else fuseeref14_First.l0 k l ((i + 1 : Nat) : Int)
  | 0, j, fl, hd => by
    rw [fuseeref14_First.l1, if_neg (by omega), opt_w (by omega) (by omega), List.drop_eq_nil_of_le (by omega)]
    cases fl <;> rfl
  | d + 1, j, fl, hd => by
    have hj : j < l.length := by omega
    rw [fuseeref14_First.l1, if_pos (by omega), if_pos (by omega), if_pos (by omega), if_pos (by omega), rd_n, rd_n, rless_f, Option.bind_some, opt_w (by omega) (by omega), show (j : Int) + 1 = ((j + 1 : Nat) : Int) from rfl, show k + (d + 1) = k + d + 1 by omega]
    rw [rfirst_in l h i hi k d (j + 1) _ (by omega), rfirst_in l h i hi k d (j + 1) _ (by omega), List.drop_eq_getElem_cons hj, List.all_cons, ← gz_lt hj]
    cases ltS (gz l j) (gz l i) <;> cases fl <;> simp
theorem rfirst_loop (l : List SO) (h : l.length ≤ 1000) {n : Nat} (hn : n < l.length) (h1 : ∀ j < l.length, ltS (gz l j) (gz l n) = false) (h2 : ∀ j < n, ltS (gz l n) (gz l j) = true) : ∀ (d i f : Nat), i + d = n → (d + 1) * (l.length + 2) ≤ f → fuseeref14_First.l0 f l (i : Int) = some (n : Int)
  | 0, i, f, hd, hf => by
    have : i = n := by omega
    subst this
    obtain ⟨k, rfl⟩ : ∃ k, f = k + l.length + 1 + 1 := ⟨f - l.length - 2, by omega⟩
    rw [fuseeref14_First.l0, if_pos (by omega), show (0 : Int) = ((0 : Nat) : Int) from rfl, rfirst_in l h i hn k l.length 0 true (by omega), if_pos]
    rw [List.drop_zero, Bool.true_and, List.all_eq_true]
    intro x hx
    obtain ⟨j, hj, rfl⟩ := List.mem_iff_getElem.1 hx
    rw [← gz_lt hj, h1 j hj]
    rfl
  | d + 1, i, f, hd, hf => by
    have hm : (d + 1 + 1) * (l.length + 2) = (d + 1) * (l.length + 2) + (l.length + 2) := by rw [Nat.add_mul (d + 1) 1, Nat.one_mul]
    obtain ⟨k, rfl⟩ : ∃ k, f = k + l.length + 1 + 1 := ⟨f - l.length - 2, by omega⟩
    rw [fuseeref14_First.l0, if_pos (by omega), show (0 : Int) = ((0 : Nat) : Int) from rfl, rfirst_in l h i (by omega) k l.length 0 true (by omega), if_neg]
    · exact rfirst_loop l h hn h1 h2 d (i + 1) k (by omega) (by omega)
    · rw [List.drop_zero, Bool.true_and, List.all_eq_true]
      intro q
      have := q (gz l n) (gz_mem hn)
      rw [h2 i (by omega)] at this
      cases this
theorem rfirst_f {l : List SO} (h : l.length ≤ 100) {r : Int} (hr : FirstOf l r) {f : Nat} (hf : 15000 ≤ f) : fuseeref14_First.f f l = some r := by
  unfold fuseeref14_First.f
  rcases hr with ⟨rfl, rfl⟩ | ⟨n, rfl, h1, h2, h3⟩
  · obtain ⟨f, rfl⟩ : ∃ x, f = x + 1 := ⟨f - 1, by omega⟩
    rw [fuseeref14_First.l0, if_neg (by decide)]
  · refine rfirst_loop l (by omega) h1 h2 h3 n 0 f (by omega) ?_
    have : (n + 1) * (l.length + 2) ≤ 101 * 102 := Nat.mul_le_mul (by omega) (by omega)
    omega
/-- Where one is put into what is in order. -/
theorem rsort_in (l out : List SO) (hl : l.length ≤ 1000) (ho : out.length ≤ 1000) (i : Nat) (hi : i < l.length) : ∀ (at_ f : Nat), at_ ≤ out.length → (∀ j, at_ ≤ j → j < out.length → ltS (gz l i) (gz out j) = true) → at_ < f →
    ∃ p k, p ≤ at_ ∧ (p = 0 ∨ ltS (gz l i) (gz out (p - 1)) = false) ∧ (∀ j, p ≤ j → j < out.length → ltS (gz l i) (gz out j) = true) ∧ f ≤ k + at_ + 1 ∧ fuseeref14_Sort.l1 f l out (i : Int) (at_ : Int) = fuseeref14_Sort.l0 k l (out.take p ++ [gz l i] ++ out.drop p) ((i + 1 : Nat) : Int)
  | 0, f, h1, h2, hf => by
    obtain ⟨f, rfl⟩ : ∃ x, f = x + 1 := ⟨f - 1, by omega⟩
    refine ⟨0, f, Nat.le_refl _, .inl rfl, h2, by omega, ?_⟩
    rw [fuseeref14_Sort.l1, if_neg (by omega), if_pos (by omega), if_pos (by omega)]
    simp only [Option.bind_some]
    rw [if_pos (by simp; omega), if_pos (by omega), if_pos (by omega), if_pos (by first | (simp; omega) | simp), if_pos (by first | (simp; omega) | simp), opt_w (by omega) (by omega), show (i : Int) + 1 = ((i + 1 : Nat) : Int) from rfl, rd_n]
    simp
  | at_ + 1, f, h1, h2, hf => by
    obtain ⟨f, rfl⟩ : ∃ x, f = x + 1 := ⟨f - 1, by omega⟩
    rw [fuseeref14_Sort.l1, if_pos (by omega), if_pos (by omega), if_pos (by omega), opt_w (by omega) (by omega), show ((at_ + 1 : Nat) : Int) - 1 = (at_ : Int) by omega, if_pos (by omega), if_pos (by omega), rd_n, rd_n, rless_f, Option.bind_some]
    cases c : ltS (gz l i) (gz out at_) with
    | true =>
      rw [if_pos rfl]
      obtain ⟨p, k, q1, q2, q3, q4, q5⟩ := rsort_in l out hl ho i hi at_ f (by omega) (fun j hj hj' => by
        rcases Nat.lt_or_ge at_ j with q | q
        · exact h2 j (by omega) hj'
        · have : j = at_ := by omega
          subst this
          exact c) (by omega)
      exact ⟨p, k, by omega, q2, q3, by omega, q5⟩
    | false =>
      refine ⟨at_ + 1, f, Nat.le_refl _, .inr c, h2, by omega, ?_⟩
      rw [if_neg (by decide), if_pos (by omega), if_pos (by omega)]
      simp only [Option.bind_some]
      rw [if_pos (by simp; omega), if_pos (by simp; omega), if_pos (by simp; omega), opt_w (by omega) (by omega), show (i : Int) + 1 = ((i + 1 : Nat) : Int) from rfl]
      simp
theorem gz_le {out : List SO} (hs : out.Pairwise (fun x y => option_Sort.le x y = true)) {a b : Nat} (hab : a ≤ b) (hb : b < out.length) : ltS (gz out b) (gz out a) = false := by
  rcases Nat.lt_or_ge a b with h | h
  · rw [gz_lt hb, gz_lt (by omega : a < out.length)]
    exact le_iff.1 (List.pairwise_iff_getElem.1 hs a b (by omega) hb h)
  · have : a = b := by omega
    subst this
    exact ltS_irrefl _
theorem put_sorted {out : List SO} {x : SO} {p : Nat} (hp : p ≤ out.length) (hs : out.Pairwise (fun x y => option_Sort.le x y = true)) (h1 : p = 0 ∨ ltS x (gz out (p - 1)) = false) (h2 : ∀ j, p ≤ j → j < out.length → ltS x (gz out j) = true) :
    (out.take p ++ [x] ++ out.drop p).Pairwise (fun x y => option_Sort.le x y = true) := by
  have ht : ∀ y ∈ out.take p, option_Sort.le y x = true := fun y hy => by
    obtain ⟨j, hj, rfl⟩ := List.mem_iff_getElem.1 hy
    have hj' : j < p ∧ j < out.length := by rw [List.length_take] at hj; omega
    rw [List.getElem_take, le_iff, ← gz_lt hj'.2]
    rcases h1 with h1 | h1
    · omega
    · have h3 := gz_le hs (a := j) (b := p - 1) (by omega) (by omega)
      rw [ltS_no] at *
      omega
  have hd : ∀ y ∈ out.drop p, option_Sort.le x y = true := fun y hy => by
    obtain ⟨j, hj, rfl⟩ := List.mem_iff_getElem.1 hy
    have hj' : p + j < out.length := by simp at hj; omega
    rw [List.getElem_drop, le_iff, ← gz_lt hj']
    exact ltS_asymm (h2 _ (by omega) hj')
  refine List.pairwise_append.2 ⟨List.pairwise_append.2 ⟨hs.sublist (List.take_sublist _ _), List.pairwise_singleton _ _, fun a ha b hb => ?_⟩, hs.sublist (List.drop_sublist _ _), fun a ha b hb => ?_⟩
  · rw [List.mem_singleton] at hb
    subst hb
    exact ht a ha
  · rcases List.mem_append.1 ha with ha | ha
    · exact option_Sort.le_trans _ _ _ (ht a ha) (hd b hb)
    · rw [List.mem_singleton] at ha
      subst ha
      exact hd b hb
theorem put_perm {out l : List SO} {x : SO} {p : Nat} (h : out.Perm l) : (out.take p ++ [x] ++ out.drop p).Perm (l ++ [x]) := by
  have h1 : (out.take p ++ [x] ++ out.drop p).Perm (out.take p ++ (out.drop p ++ [x])) := by
    rw [List.append_assoc]
    exact List.Perm.append_left _ List.perm_append_comm
  rw [← List.append_assoc, List.take_append_drop] at h1
  exact h1.trans (h.append_right _)
theorem rsort_loop (l : List SO) (hl : l.length ≤ 1000) : ∀ (d i f : Nat), i + d = l.length → d * (l.length + 2) < f → fuseeref14_Sort.l0 f l (option_Sort.srt (l.take i)) (i : Int) = some (option_Sort.srt l)
  | 0, i, f, hd, hf => by
    obtain ⟨f, rfl⟩ : ∃ x, f = x + 1 := ⟨f - 1, by omega⟩
    rw [fuseeref14_Sort.l0, if_neg (by omega), List.take_of_length_le (by omega)]
  | d + 1, i, f, hd, hf => by
    have hm : (d + 1) * (l.length + 2) = d * (l.length + 2) + (l.length + 2) := by rw [Nat.add_mul d 1, Nat.one_mul]
    obtain ⟨f, rfl⟩ : ∃ x, f = x + 1 := ⟨f - 1, by omega⟩
    have hlen : (option_Sort.srt (l.take i)).length = i := by rw [srt_len, List.length_take]; omega
    rw [fuseeref14_Sort.l0, if_pos (by omega)]
    obtain ⟨p, k, q1, q2, q3, q4, q5⟩ := rsort_in l (option_Sort.srt (l.take i)) hl (by omega) i (by omega) (option_Sort.srt (l.take i)).length f (Nat.le_refl _) (fun j h1 h2 => by omega) (by omega)
    rw [q5]
    have e : (option_Sort.srt (l.take i)).take p ++ [gz l i] ++ (option_Sort.srt (l.take i)).drop p = option_Sort.srt (l.take (i + 1)) := by
      refine option_Sort.uniq ?_ (put_sorted q1 (option_Sort.srt_sorted _) q2 q3)
      rw [List.take_succ_eq_append_getElem (by omega), ← gz_lt (by omega : i < l.length)]
      exact put_perm (option_Sort.srt_perm _)
    rw [e]
    exact rsort_loop l hl d (i + 1) k (by omega) (by omega)
theorem rsort_f {l : List SO} (h : l.length ≤ 100) {f : Nat} (hf : 15000 ≤ f) : fuseeref14_Sort.f f l = some (option_Sort.srt l) := by
  unfold fuseeref14_Sort.f
  have h0 := rsort_loop l (by omega) l.length 0 f (by omega) (by
    have : l.length * (l.length + 2) ≤ 100 * 102 := Nat.mul_le_mul (by omega) (by omega)
    omega)
  rw [List.take_zero, show option_Sort.srt ([] : List SO) = [] from List.eq_nil_of_length_eq_zero (srt_len _)] at h0
  exact h0
end Go.Proofs.Ytceldebkpjgmkaa.Pure
