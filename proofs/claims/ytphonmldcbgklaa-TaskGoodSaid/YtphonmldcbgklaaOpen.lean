/- What an argument of plain kinds reads as: a struct's cells (structs in structs laid flat) are whole numbers and bools, each in its kind's bounds; a slice of such elements is a list of them. No condition. -/
import Derived.ChangeSlices
import Derived.ChangeArms
import Derived.WideShapes
import Derived.Deep.Slices
import Derived.SizedLaws
import Derived.RowKit
import Derived.Test.YtphonmldcbgklaaWWords
namespace Go.Proofs.YtphonmldcbgklaaO
open Go.ChangeShapes Go.WideShapes Go.Deep Go.Proofs.YtphonmldcbgklaaW.PrintWords
set_option linter.unusedVariables false
set_option linter.unusedSimpArgs false

/-- A cell's kind: a whole number's, or (none) a bool's. -/
def leafFits : Option IntKind → Value → Prop
  | some k, v => ∃ n, v = .int k n ∧ (Lit.int k n).wf = true
  | none, v => ∃ b, v = .bool b
def fitsAll : List (Option IntKind) → List Value → Prop
  | [], [] => True
  | k :: ks, v :: vs => leafFits k v ∧ fitsAll ks vs
  | _, _ => False
theorem fits_cons {k : Option IntKind} {ks : List (Option IntKind)} {vs : List Value} (h : fitsAll (k :: ks) vs) : ∃ v r, vs = v :: r ∧ leafFits k v ∧ fitsAll ks r := by
  cases vs with
  | nil => exact h.elim
  | cons v r => exact ⟨v, r, rfl, h.1, h.2⟩
theorem fits_nil {vs : List Value} (h : fitsAll [] vs) : vs = [] := by
  cases vs with
  | nil => rfl
  | cons v r => exact h.elim
theorem fits_append : ∀ (l m : List (Option IntKind)) (vs : List Value), fitsAll l (vs.take l.length) → fitsAll m (vs.drop l.length) → fitsAll (l ++ m) vs
  | [], m, vs, _, h => by simpa using h
  | k :: ks, m, [], h, _ => by simp [fitsAll] at h
  | k :: ks, m, v :: vs, h, h2 => by
    simp only [List.length_cons, List.take_succ_cons, List.drop_succ_cons] at h h2
    exact ⟨h.1, fits_append ks m vs h.2 h2⟩
theorem fits_length : ∀ (l : List (Option IntKind)) (vs : List Value), fitsAll l vs → vs.length = l.length
  | [], vs, h => by rw [fits_nil h]; rfl
  | k :: ks, [], h => h.elim
  | k :: ks, v :: vs, h => by simp [fits_length ks vs h.2]
theorem list_of {α : Type} (n : Nat) (R : Nat → α → Prop) (h : ∀ i, i < n → ∃ p, R i p) : ∃ l : List α, l.length = n ∧ ∀ i p, l[i]? = some p → R i p := by
  induction n with
  | zero => exact ⟨[], rfl, fun i p h => by simp at h⟩
  | succ q ih =>
    obtain ⟨l, h1, h2⟩ := ih (fun i hi => h i (by omega))
    obtain ⟨p, hp⟩ := h q (by omega)
    refine ⟨l ++ [p], by simp [h1], fun i p' hi => ?_⟩
    rcases Nat.lt_or_ge i l.length with hlt | hge
    · rw [List.getElem?_append_left hlt] at hi
      exact h2 i p' hi
    · have hiq : i = l.length := by
        have := (List.getElem?_eq_some_iff.1 hi).1
        rw [List.length_append, List.length_singleton] at this
        omega
      subst hiq
      have : p = p' := by simpa using hi
      subst this
      rw [h1]
      exact hp
def leavesFs (g : TypeId → Option (List (Option IntKind))) (P : Program) : List Field → Nat → Option (List (Option IntKind))
  | [], _ => some []
  | f :: r, off => if f.offset = off then (g f.type).bind fun l => if P.cellsOf f.type = l.length then (leavesFs g P r (off + l.length)).map (l ++ ·) else none else none
def leavesOf (P : Program) : Nat → TypeId → Option (List (Option IntKind))
  | 0, _ => none
  | n + 1, t => match P.underlying t with
    | some (.int k) => some [some k]
    | some .bool => some [none]
    | some (.struct fs) => (leavesFs (leavesOf P n) P fs.toList 0).bind fun l => if P.cellsOf t = l.length then some l else none
    | _ => none
section
variable {H : Type} {enc : TypeId × Value → H} {P : Program} {w : World} {base : Nat} {spare : Nat → Bool} {held : Bool}
theorem leavesFs_fits {g : TypeId → Option (List (Option IntKind))} {n : Nat} {cs : List Value}
    (hg : ∀ (t : TypeId) (l : List (Option IntKind)) (ds : List Value) (x : DataW H × List MemPlace), g t = some l → DataW.trod enc P w base spare held n t ds = some x → fitsAll l ds) :
    ∀ (fs : List Field) (off : Nat) (L : List (Option IntKind)), leavesFs g P fs off = some L → cs.length = off + L.length →
      (∀ f ∈ fs, ∃ x, DataW.trod enc P w base spare held n f.type ((cs.drop f.offset).take (P.cellsOf f.type)) = some x) → fitsAll L (cs.drop off)
  | [], off, L, h, hl, _ => by
    simp only [leavesFs, Option.some.injEq] at h
    subst h
    rw [List.drop_of_length_le (by simp at hl; omega)]
    trivial
  | f :: r, off, L, h, hl, ht => by
    simp only [leavesFs] at h
    split at h
    case isFalse => cases h
    rename_i ho
    obtain ⟨l, h1, h2⟩ := Option.bind_eq_some_iff.1 h
    split at h2
    case isFalse => cases h2
    rename_i hc
    obtain ⟨m, h3, rfl⟩ := Option.map_eq_some_iff.1 h2
    obtain ⟨x, hx⟩ := ht f (by simp)
    rw [ho, hc] at hx
    have a := hg _ _ _ _ h1 hx
    have b := leavesFs_fits hg r (off + l.length) m h3 (by rw [hl, List.length_append]; omega) (fun q hq => ht q (by simp [hq]))
    refine fits_append l m _ a ?_
    rw [List.drop_drop]
    exact b
theorem leaves_fit : ∀ (m : Nat) (t : TypeId) (L : List (Option IntKind)) (n : Nat) (cs : List Value) (x : DataW H × List MemPlace), leavesOf P m t = some L → DataW.trod enc P w base spare held n t cs = some x → fitsAll L cs
  | 0, _, _, _, _, _, h, _ => by simp [leavesOf] at h
  | m + 1, t, L, n, cs, x, h, ht => by
    simp only [leavesOf] at h
    split at h
    · rename_i k hu
      simp only [Option.some.injEq] at h
      subst h
      obtain ⟨z, rfl, _, hw⟩ := DataW.trod_int hu ht
      exact ⟨⟨z, rfl, hw⟩, trivial⟩
    · rename_i hu
      simp only [Option.some.injEq] at h
      subst h
      obtain ⟨b, rfl, _⟩ := DataW.trod_bool hu ht
      exact ⟨⟨b, rfl⟩, trivial⟩
    · rename_i fs hu
      obtain ⟨l, h1, h2⟩ := Option.bind_eq_some_iff.1 h
      split at h2
      case isFalse => cases h2
      rename_i hc
      simp only [Option.some.injEq] at h2
      subst h2
      obtain ⟨xs, n', rfl, _, hlen, hxl, hf⟩ := DataW.trod_struct hu ht
      have := leavesFs_fits (enc := enc) (P := P) (w := w) (base := base) (spare := spare) (held := held) (g := leavesOf P m) (n := n') (cs := cs) (fun t' l' ds x' a b => leaves_fit m t' l' n' ds x' a b) fs.toList 0 l h1 (by rw [hlen, hc]; omega) (fun f hq => by
        obtain ⟨i, hi, he⟩ := List.getElem_of_mem hq
        have hi' : i < fs.size := by simpa using hi
        have h5 := hf i f (by rw [← he]; simp [hi'])
        rw [List.getElem?_eq_getElem (by omega)] at h5
        exact ⟨_, h5⟩)
      simpa using this
    · cases h
/-- A struct by value: its cells. -/
theorem open_flat {r : Reach} {b0 : Nat} {t : TypeId} {v : Value} {d : DataW H} {ps : List MemPlace} {m : Nat} {L : List (Option IntKind)} {fs : Array Field} (hL : leavesOf P m t = some L) (hs : P.underlying t = some (.struct fs))
    (hval : Value.okWide P w r b0 t v) (hd : DataW.Trod enc P w base spare held t v d ps) : ∃ cs : List Value, v = .agg cs.toArray ∧ fitsAll L cs := by
  obtain ⟨cs, rfl, _⟩ := okWide_struct hs hval
  obtain ⟨fuel, hf⟩ := hd
  exact ⟨cs.toList, by simp, by simpa [Value.cells] using leaves_fit m t L fuel _ _ hL hf⟩
/-- A slice of such elements: a list of them (K: how an element is read; 'dec': each fitting row of cells is an element's). -/
theorem open_list {α : Type} (d : Kd α) {good : α → Prop} {m : Nat} {L : List (Option IntKind)} {t e : TypeId} {a : Option Addr} {len cap : Nat} {x : DataW H} {ps : List MemPlace} (hL : leavesOf P m e = some L) (ht : P.underlying t = some (.slice e)) (hc : P.cellsOf e = d.sz)
    (dec : ∀ cs, fitsAll L cs → ∃ p : α, good p ∧ d.K w p cs) (h : DataW.Trod enc P w base spare held t (.slice a len cap) x ps) :
    ∃ l : List α, len = l.length ∧ d.C w a l.length l ∧ l.length ≤ cap ∧ l.length ≤ maxLen ∧ ∀ p ∈ l, good p := by
  obtain ⟨fuel, hf⟩ := h
  rcases open_slice ht hf with ⟨hcs, _⟩ | ⟨ad, len', cap', m', n, D, Pl, hcs, _, hl, hm, hmm, _, hi⟩
  · simp [Value.cells] at hcs
    obtain ⟨rfl, rfl, rfl⟩ := hcs
    exact ⟨[], rfl, Kd.C_nil _ _, Nat.le_refl _, Nat.zero_le _, fun p hp => by cases hp⟩
  · simp [Value.cells] at hcs
    obtain ⟨rfl, rfl, rfl⟩ := hcs
    have hle : len ≤ m' := by rw [hmm]; split <;> omega
    have key : ∀ i, i < len → ∃ p : α, ∃ cs, good p ∧ d.K w p cs ∧ ∀ j u, cs[j]? = some u → w.cell? (ad.add (i * d.sz + j)) = some u := by
      intro i hil
      obtain ⟨cs', hcell, htr⟩ := hi i (by omega)
      obtain ⟨p, hp, hk⟩ := dec cs' (leaves_fit m e L n cs' _ hL htr)
      obtain ⟨_, hlen', hat⟩ := World.cells?_some hcell
      refine ⟨p, cs', hp, hk, fun j u hu => ?_⟩
      have hj := (List.getElem?_eq_some_iff.1 hu).1
      rw [← hc, ← Go.Deep.add_add, hat j (by omega), hu]
    have : ∃ l : List α, l.length = len ∧ ∀ i p, l[i]? = some p → good p ∧ ∃ cs, d.K w p cs ∧ ∀ j u, cs[j]? = some u → w.cell? (ad.add (i * d.sz + j)) = some u := by
      obtain ⟨l, h1, h2⟩ := list_of len (fun i p => good p ∧ ∃ cs, d.K w p cs ∧ ∀ j u, cs[j]? = some u → w.cell? (ad.add (i * d.sz + j)) = some u) (fun i hi => by
        obtain ⟨p, cs, a, b, c⟩ := key i hi
        exact ⟨p, a, cs, b, c⟩)
      exact ⟨l, h1, h2⟩
    obtain ⟨l, h1, h2⟩ := this
    refine ⟨l, h1.symm, ⟨rfl, ?_, fun _ => ⟨ad, rfl, fun j p hj => ?_⟩⟩, by omega, by omega, fun p hp => ?_⟩
    · have : maxLen = 9223372036854775807 := rfl
      omega
    · obtain ⟨_, cs, hk, hcl⟩ := h2 j p hj
      exact ⟨cs, d.K_len hk, hk, hcl⟩
    · obtain ⟨i, hi, he⟩ := List.getElem_of_mem hp
      exact (h2 i p (by rw [← he]; exact List.getElem?_eq_getElem hi)).1
/-- What its size is at most. -/
theorem sized_list {t e : TypeId} {a : Option Addr} {len cap : Nat} {x : DataW H} {ps : List MemPlace} {ts : List TypeId} {ds : List (DataW H)} {j : Nat} (hsz : (DataW.weightsEach P ts ds).all (· ≤ reachBytes) = true) (ht : ts[j]? = some t) (hd : ds[j]? = some x)
    (hu : P.underlying t = some (.slice e)) {B : Nat} (hB : P.bytesOf e = B) (h : DataW.Trod enc P w base spare held t (.slice a len cap) x ps) : len * B ≤ 140737488351232 := by
  obtain ⟨fuel, hf⟩ := h
  rcases open_slice hu hf with ⟨hcs, _⟩ | ⟨ad, len', cap', m', n, D, Pl, hcs, _, hl, hm, hmm, hx, hi⟩
  · simp [Value.cells] at hcs
    obtain ⟨rfl, rfl, rfl⟩ := hcs
    simp
  · simp [Value.cells] at hcs
    obtain ⟨rfl, rfl, rfl⟩ := hcs
    obtain ⟨hx, _⟩ := Prod.mk.inj hx
    subst hx
    have z := sized_slice hsz ht hd hu
    rw [hB] at z
    refine Nat.le_trans (Nat.mul_le_mul_right _ ?_) z
    simp
end
end Go.Proofs.YtphonmldcbgklaaO
