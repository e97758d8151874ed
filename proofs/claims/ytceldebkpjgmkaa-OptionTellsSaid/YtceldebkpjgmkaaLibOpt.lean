/- What is first, and what is sorted: the program's First and Sort, and the document's, told of lists. No condition but each lemma's own. -/
import Derived.Test.YtceldebkpjgmkaaPx3
import Derived.Test.YtceldebkpjgmkaaPx5
import Derived.Test.YtceldebkpjgmkaaPx16
import Derived.Test.YtceldebkpjgmkaaPx18
namespace Go.Proofs.Ytceldebkpjgmkaa.Pure
open Go.RowKit Go.Proofs.Ytceldebkpjgmkaa.P Go.Proofs.YtceldebkpjgmkaaW.PrintWords Go.Proofs.YtceldebkpjgmkaaW.PrintLast Go.Proofs.YtceldebkpjgmkaaW.PrintMore
set_option linter.unusedVariables false
set_option linter.unusedSimpArgs false
abbrev SO := S23
theorem opt_w {x : Int} (h0 : -9223372036854775808 ≤ x) (h1 : x ≤ 9223372036854775807) : wrap64 x = x := by unfold wrap64; omega
def ltS (x y : SO) : Bool := option_Less.lt x.f0 x.f1 x.f2 y.f0 y.f1 y.f2
theorem ltS_iff {x y : SO} : ltS x y = true ↔ (x.f0 < y.f0 ∨ x.f0 = y.f0 ∧ (x.f1 < y.f1 ∨ x.f1 = y.f1 ∧ x.f2 < y.f2)) := decide_eq_true_iff
theorem ltS_no {x y : SO} : ltS x y = false ↔ ¬ (x.f0 < y.f0 ∨ x.f0 = y.f0 ∧ (x.f1 < y.f1 ∨ x.f1 = y.f1 ∧ x.f2 < y.f2)) := decide_eq_false_iff_not
theorem ltS_le (x y : SO) : option_Sort.le x y = !ltS y x := by
  unfold option_Sort.le
  rw [option_Sort.ltOf_eq]
  rfl
theorem le_iff {x y : SO} : option_Sort.le x y = true ↔ ltS y x = false := by rw [ltS_le, Bool.not_eq_true']
theorem ltS_irrefl (x : SO) : ltS x x = false := ltS_no.2 (by omega)
theorem ltS_trans {x y z : SO} (h1 : ltS x y = true) (h2 : ltS y z = true) : ltS x z = true := by rw [ltS_iff] at *; omega
theorem ltS_of_le {x y z : SO} (h1 : ltS y x = false) (h2 : ltS y z = true) : ltS x z = true := by rw [ltS_iff] at *; rw [ltS_no] at h1; omega
theorem ltS_asymm {x y : SO} (h1 : ltS x y = true) : ltS y x = false := by rw [ltS_iff] at h1; rw [ltS_no]; omega
theorem ltS_eq {x y : SO} (h1 : ltS x y = false) (h2 : ltS y x = false) : x = y := option_Sort.le_anti _ _ (le_iff.2 h2) (le_iff.2 h1)
theorem less_f (x y : SO) : option_Less.f x.f0 x.f1 x.f2 y.f0 y.f1 y.f2 = some (ltS x y) := rfl
theorem rless_f (x y : SO) : fuseeref14_Less.f x.f0 x.f1 x.f2 y.f0 y.f1 y.f2 = some (ltS x y) := by
  unfold fuseeref14_Less.f
  by_cases c1 : x.f0 = y.f0
  · rw [if_pos c1]
    by_cases c2 : x.f1 = y.f1
    · rw [if_pos c2]
      congr 1
      rw [Bool.eq_iff_iff, ltS_iff, decide_eq_true_eq]
      omega
    · rw [if_neg c2]
      congr 1
      rw [Bool.eq_iff_iff, ltS_iff, decide_eq_true_eq]
      omega
  · rw [if_neg c1]
    congr 1
    rw [Bool.eq_iff_iff, ltS_iff, decide_eq_true_eq]
    omega
def gz (l : List SO) (n : Nat) : SO := l.getD n z23
theorem rd_n (l : List SO) (n : Nat) : rd_T23 l (n : Int) = gz l n := rfl
theorem gz_lt {l : List SO} {n : Nat} (h : n < l.length) : gz l n = l[n] := by unfold gz; simp [List.getD_eq_getElem?_getD, List.getElem?_eq_getElem h]
theorem gz_mem {l : List SO} {n : Nat} (h : n < l.length) : gz l n ∈ l := by rw [gz_lt h]; exact List.getElem_mem h
theorem sort_f {l : List SO} (h1 : l.length ≤ 1000000) (h2 : ∀ x ∈ l, option_Sort.wf x = true) : option_Sort.f l = some (option_Sort.srt l) := by
  unfold option_Sort.f
  rw [if_pos ⟨h1, h2⟩]
theorem srt_len (l : List SO) : (option_Sort.srt l).length = l.length := List.length_mergeSort _
theorem srt_mem {l : List SO} {x : SO} : x ∈ option_Sort.srt l ↔ x ∈ l := (option_Sort.srt_perm l).mem_iff
theorem srt_self {l : List SO} (h : l.Pairwise (fun x y => option_Sort.le x y = true)) : option_Sort.srt l = l := (option_Sort.uniq (List.Perm.refl l) h).symm
theorem same_loop (l : List SO) (h : l.length ≤ 1000000) : ∀ (d i f : Nat), i + d = l.length → d < f → fuseeref14_Same.l0 f l l (i : Int) = some true
  | 0, i, f, hd, hf => by
    obtain ⟨f, rfl⟩ : ∃ x, f = x + 1 := ⟨f - 1, by omega⟩
    rw [fuseeref14_Same.l0, if_neg (by omega)]
  | d + 1, i, f, hd, hf => by
    obtain ⟨f, rfl⟩ : ∃ x, f = x + 1 := ⟨f - 1, by omega⟩
    have ih := same_loop l h d (i + 1) f (by omega) (by omega)
    rw [fuseeref14_Same.l0, if_pos (by omega), if_pos (by omega), if_pos (by omega), if_neg (by simp), opt_w (by omega) (by omega), show (i : Int) + 1 = ((i + 1 : Nat) : Int) from rfl]
    exact ih
theorem same_f {l : List SO} (h : l.length ≤ 1000000) {f : Nat} (hf : l.length < f) : fuseeref14_Same.f f l l = some true := by
  unfold fuseeref14_Same.f
  rw [if_pos rfl]
  exact same_loop l h l.length 0 f (by omega) hf
/-- i is where the first one of l stands, the first time; -1 where there is none. -/
def FirstOf (l : List SO) (i : Int) : Prop := (l = [] ∧ i = -1) ∨ ∃ n : Nat, i = n ∧ n < l.length ∧ (∀ j < l.length, ltS (gz l j) (gz l n) = false) ∧ ∀ j < n, ltS (gz l n) (gz l j) = true
theorem first_loop (l : List SO) (h : l.length ≤ 1000000) : ∀ (d i f : Nat) (at_ : Int), i + d = l.length → d < f → ((i = 0 ∧ at_ = -1) ∨ ∃ n : Nat, at_ = n ∧ n < i ∧ (∀ j < i, ltS (gz l j) (gz l n) = false) ∧ ∀ j < n, ltS (gz l n) (gz l j) = true) →
    ∃ r, option_First.l0 f l at_ l (l.length : Int) (i : Int) = some r ∧ FirstOf l r
  | 0, i, f, at_, hd, hf, hi => by
    obtain ⟨f, rfl⟩ : ∃ x, f = x + 1 := ⟨f - 1, by omega⟩
    rw [option_First.l0, if_neg (by omega)]
    refine ⟨at_, rfl, ?_⟩
    rcases hi with ⟨h1, h2⟩ | ⟨n, h1, h2, h3, h4⟩
    · exact .inl ⟨List.eq_nil_of_length_eq_zero (by omega), h2⟩
    · exact .inr ⟨n, h1, by omega, fun j hj => h3 j (by omega), h4⟩
  | d + 1, i, f, at_, hd, hf, hi => by
    obtain ⟨f, rfl⟩ : ∃ x, f = x + 1 := ⟨f - 1, by omega⟩
    rw [option_First.l0, if_pos (by omega), if_pos (by omega), if_pos (by omega), opt_w (by omega) (by omega), show (i : Int) + 1 = ((i + 1 : Nat) : Int) from rfl]
    rcases hi with ⟨h1, h2⟩ | ⟨n, h1, h2, h3, h4⟩
    · rw [if_pos h2]
      refine first_loop l h d (i + 1) f _ (by omega) (by omega) (.inr ⟨i, rfl, by omega, fun j hj => ?_, fun j hj => by omega⟩)
      have : j = i := by omega
      subst this
      exact ltS_irrefl _
    · subst h1
      rw [if_neg (by omega), if_pos (by omega), if_pos (by omega), rd_n, rd_n, less_f, Option.bind_some]
      cases c : ltS (gz l i) (gz l n) with
      | true =>
        rw [if_pos rfl]
        refine first_loop l h d (i + 1) f _ (by omega) (by omega) (.inr ⟨i, rfl, by omega, fun j hj => ?_, fun j hj => ?_⟩)
        · rcases Nat.lt_or_ge j i with hj' | hj'
          · exact ltS_asymm (by rcases Nat.lt_or_ge j n with q | q
                                · exact ltS_trans c (h4 j q)
                                · cases e : ltS (gz l i) (gz l j) with
                                  | true => rfl
                                  | false =>
                                    have h5 := h3 j hj'
                                    rw [ltS_iff] at c
                                    rw [ltS_no] at e h5
                                    omega)
          · have : j = i := by omega
            subst this
            exact ltS_irrefl _
        · have h5 := h3 j hj
          rw [ltS_iff] at c ⊢
          rw [ltS_no] at h5
          omega
      | false =>
        rw [if_neg (by decide)]
        refine first_loop l h d (i + 1) f _ (by omega) (by omega) (.inr ⟨n, rfl, by omega, fun j hj => ?_, h4⟩)
        rcases Nat.lt_or_ge j i with hj' | hj'
        · exact h3 j hj'
        · have : j = i := by omega
          subst this
          exact c
theorem first_f {l : List SO} (h : l.length ≤ 1000000) {f : Nat} (hf : l.length < f) : ∃ r, option_First.f f l = some r ∧ FirstOf l r := by
  unfold option_First.f
  exact first_loop l h l.length 0 f (-1) (by omega) hf (.inl ⟨rfl, rfl⟩)
end Go.Proofs.Ytceldebkpjgmkaa.Pure
