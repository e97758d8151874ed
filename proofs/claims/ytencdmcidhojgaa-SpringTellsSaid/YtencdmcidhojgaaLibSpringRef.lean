/- The document's answer of springs is the program's. No condition but each lemma's own. -/
import Derived.Test.YtencdmcidhojgaaPx10
import Derived.Test.YtencdmcidhojgaaPx7
import Derived.Test.YtencdmcidhojgaaPx8
import Derived.Test.YtencdmcidhojgaaPx9
import Derived.Test.YtencdmcidhojgaaLibRLeast
namespace Go.Proofs.Ytencdmcidhojgaa.Pure
open Go.RowKit Go.Proofs.Ytencdmcidhojgaa.P Go.Proofs.YtencdmcidhojgaaW.PrintWords Go.Proofs.YtencdmcidhojgaaW.PrintLast Go.Proofs.YtencdmcidhojgaaW.PrintMore
set_option linter.unusedVariables false
set_option linter.unusedSimpArgs false
theorem rmayP_eq (l : List Spr) (hl : l.length ≤ 1000) {k : Nat} (hk : l.length < k) : fuseeref07_May.f k l = some (decide (mayP l)) := by
  unfold fuseeref07_May.f
  have loop : ∀ (d i k : Nat), i + d = l.length → d < k → (∀ s ∈ l.take i, okP s) → fuseeref07_May.l0 k l (i : Int) = some (decide (mayP l)) := by
    intro d
    induction d with
    | zero =>
      intro i k hi hk hall
      obtain ⟨k, rfl⟩ : ∃ x, k = x + 1 := ⟨k - 1, by omega⟩
      rw [List.take_of_length_le (by omega)] at hall
      rw [fuseeref07_May.l0, if_neg (by omega)]
      congr 1
      rw [decide_eq_decide]
      exact ⟨fun q => ⟨hall, by omega⟩, fun q => by have := q.2; omega⟩
    | succ d ih =>
      intro i k hi hk hall
      obtain ⟨k, rfl⟩ : ∃ x, k = x + 1 := ⟨k - 1, by omega⟩
      have hlt : i < l.length := by omega
      have hm := List.getElem_mem hlt
      rw [fuseeref07_May.l0, if_pos (by omega), if_pos (by omega), rd_spr hlt]
      by_cases o : okP l[i]
      · have ⟨o1, o2, o3, o4, o5⟩ := o
        rw [if_neg (by omega), if_neg (by omega), if_neg (by omega), if_neg (by omega), if_neg (by omega), w64 (by omega) (by omega), show ((i : Int) + 1) = ((i + 1 : Nat) : Int) by omega]
        refine ih (i + 1) k (by omega) (by omega) fun s hs => ?_
        rw [List.take_succ_eq_append_getElem hlt] at hs
        rcases List.mem_append.1 hs with h | h
        · exact hall s h
        · rw [List.mem_singleton.1 h]; exact o
      · rw [decide_eq_false (fun q : mayP l => o (q.1 _ hm))]
        by_cases c1 : l[i].f1 < 1
        · rw [if_pos c1]
        · rw [if_neg c1]
          by_cases c2 : l[i].f0 < l[i].f1
          · rw [if_pos c2]
          · rw [if_neg c2]
            by_cases c3 : l[i].f0 > 1048576
            · rw [if_pos c3]
            · rw [if_neg c3]
              by_cases c4 : l[i].f2 < 0
              · rw [if_pos c4]
              · rw [if_neg c4, if_pos (by refine Int.not_le.1 fun c5 => o ⟨by omega, by omega, by omega, by omega, c5⟩)]
  exact loop l.length 0 k (by omega) hk (by simp)
theorem rroomP_eq (l : List Spr) (load : Int) (hl : l.length ≤ 1000) {k : Nat} (hk : l.length < k) : fuseeref07_Room.f k l load = some (decide (roomP l load)) := by
  unfold fuseeref07_Room.f
  rw [rmayP_eq l hl hk, Option.bind_some]
  by_cases m : mayP l
  · rw [decide_eq_true m]
    have h4 := m.2
    have loop : ∀ (d i k : Nat) (x : Int), i + d = l.length → d < k → 0 ≤ x → x ≤ i * 1048576 → x + sumL (l.drop i) = sumL l → fuseeref07_Room.l0 k l load true x (i : Int) = some (decide (roomP l load)) := by
      intro d
      induction d with
      | zero =>
        intro i k x hi hk x0 x1 e
        obtain ⟨k, rfl⟩ : ∃ y, k = y + 1 := ⟨k - 1, by omega⟩
        rw [List.drop_of_length_le (by omega)] at e
        simp only [sumL, List.map_nil, List.sum_nil, Int.add_zero] at e
        have e' : x = sumL l := e
        rw [fuseeref07_Room.l0, if_neg (by omega), if_pos rfl, e']
        by_cases c1 : load ≥ 0
        · rw [if_pos c1]
          by_cases c2 : load ≤ 1099511627776
          · rw [if_pos c2]
            congr 1
            rw [decide_eq_decide]
            exact ⟨fun q => ⟨m, c1, c2, q⟩, fun q => q.2.2.2⟩
          · rw [if_neg c2, decide_eq_false (fun q => c2 q.2.2.1)]
        · rw [if_neg c1, decide_eq_false (fun q => c1 q.2.1)]
      | succ d ih =>
        intro i k x hi hk x0 x1 e
        obtain ⟨k, rfl⟩ : ∃ y, k = y + 1 := ⟨k - 1, by omega⟩
        have hlt : i < l.length := by omega
        have b := lst_bound (m.1 _ (List.getElem_mem hlt))
        have u := (m.1 _ (List.getElem_mem hlt)).2.2.1
        rw [List.drop_eq_getElem_cons hlt, sumL_cons] at e
        rw [fuseeref07_Room.l0, if_pos (by omega), if_pos (by omega), rd_spr hlt, rleast_eq, Option.bind_some, w64 (x := x + lst l[i]) (by omega) (by omega), w64 (by omega) (by omega), show ((i : Int) + 1) = ((i + 1 : Nat) : Int) by omega]
        exact ih (i + 1) k _ (by omega) (by omega) (by omega) (by omega) (by omega)
    exact loop l.length 0 k 0 (by omega) hk (by omega) (by omega) (by simp)
  · rw [decide_eq_false m, decide_eq_false (fun q => m q.1)]
    have loop : ∀ (d i k : Nat) (x : Int), i + d = l.length → d < k → fuseeref07_Room.l0 k l load false x (i : Int) = some false := by
      intro d
      induction d with
      | zero =>
        intro i k x hi hk
        obtain ⟨k, rfl⟩ : ∃ y, k = y + 1 := ⟨k - 1, by omega⟩
        rw [fuseeref07_Room.l0, if_neg (by omega), if_neg (by decide)]
      | succ d ih =>
        intro i k x hi hk
        obtain ⟨k, rfl⟩ : ∃ y, k = y + 1 := ⟨k - 1, by omega⟩
        have hlt : i < l.length := by omega
        rw [fuseeref07_Room.l0, if_pos (by omega), if_pos (by omega), rd_spr hlt, rleast_eq, Option.bind_some, w64 (x := (i : Int) + 1) (by omega) (by omega), show ((i : Int) + 1) = ((i + 1 : Nat) : Int) by omega]
        exact ih (i + 1) k _ (by omega) (by omega)
    exact loop l.length 0 k 0 (by omega) hk
theorem xOf_bound {a b : Int} (a0 : 0 ≤ a) (a1 : a ≤ 4194304) (b0 : 0 ≤ b) (b1 : b ≤ 32) {s : Spr} (o : okP s) : 0 ≤ xOf a b s ∧ xOf a b s ≤ 33554432 ∧ 0 ≤ a * s.f2 ∧ a * s.f2 ≤ 33554432 ∧ 0 ≤ b * s.f0 ∧ b * s.f0 ≤ 33554432 ∧ 0 ≤ b * lst s ∧ b * lst s ≤ 33554432 := by
  have b := lst_bound o
  obtain ⟨o1, o2, o3, o4, o5⟩ := o
  have m1 := mulb a0 a1 o4 o5
  have m2 := mulb b0 b1 (show 0 ≤ s.f0 by omega) o3
  have m3 := mulb b0 b1 (show 0 ≤ lst s by omega) (show lst s ≤ 1048576 by omega)
  unfold xOf
  omega
theorem total_eq {l : List Spr} (ho : ∀ s ∈ l, okP s) (h4 : l.length ≤ 4) {a b : Int} (a0 : 0 ≤ a) (a1 : a ≤ 4194304) (b0 : 0 ≤ b) (b1 : b ≤ 32) {k : Nat} (hk : l.length < k) : fuseeref07_total.f k l a b = some (gOf a b l) := by
  unfold fuseeref07_total.f
  have loop : ∀ (d i k : Nat) (x : Int), i + d = l.length → d < k → 0 ≤ x → x ≤ i * 33554432 → x + gOf a b (l.drop i) = gOf a b l → fuseeref07_total.l0 k l a b x (i : Int) = some (gOf a b l) := by
    intro d
    induction d with
    | zero =>
      intro i k x hi hk x0 x1 e
      obtain ⟨k, rfl⟩ : ∃ y, k = y + 1 := ⟨k - 1, by omega⟩
      rw [List.drop_of_length_le (by omega)] at e
      simp only [gOf, List.map_nil, List.sum_nil, Int.add_zero] at e
      rw [fuseeref07_total.l0, if_neg (by omega)]
      exact congrArg some e
    | succ d ih =>
      intro i k x hi hk x0 x1 e
      obtain ⟨k, rfl⟩ : ∃ y, k = y + 1 := ⟨k - 1, by omega⟩
      have hlt : i < l.length := by omega
      have ⟨q0, q1, q2, q3, q4, q5, q6, q7⟩ := xOf_bound a0 a1 b0 b1 (ho _ (List.getElem_mem hlt))
      rw [List.drop_eq_getElem_cons hlt, gOf_cons] at e
      have next := ih (i + 1) k (x + xOf a b l[i]) (by omega) (by omega) (by omega) (by omega) (by omega)
      rw [fuseeref07_total.l0, if_pos (by omega), if_pos (by omega), rd_spr hlt, rleast_eq, Option.bind_some, w64 (x := b * l[i].f0) (by omega) (by omega), w64 (x := a * l[i].f2) (by omega) (by omega), w64 (x := b * l[i].f0 - a * l[i].f2) (by omega) (by omega), w64 (x := b * lst l[i]) (by omega) (by omega), w64 (x := (i : Int) + 1) (by omega) (by omega), show ((i : Int) + 1) = ((i + 1 : Nat) : Int) by omega]
      by_cases c : b * l[i].f0 - a * l[i].f2 < b * lst l[i]
      · have ex : xOf a b l[i] = b * lst l[i] := by unfold xOf; omega
        rw [if_pos c, w64 (by omega) (by omega), ← ex]
        exact next
      · have ex : xOf a b l[i] = b * l[i].f0 - a * l[i].f2 := by unfold xOf; omega
        rw [if_neg c, w64 (by omega) (by omega), ← ex]
        exact next
  exact loop l.length 0 k 0 (by omega) hk (by omega) (by omega) (by simp)
/-- What those of a set, and the others, have together, and the E of those of the set. -/
def sA : Nat → List Spr → Int
  | _, [] => 0
  | n, s :: t => (if n % 2 = 1 then s.f0 else lst s) + sA (n / 2) t
def sE : Nat → List Spr → Int
  | _, [] => 0
  | n, s :: t => (if n % 2 = 1 then s.f2 else 0) + sE (n / 2) t
theorem set_bound : ∀ {l : List Spr} (n : Nat), (∀ s ∈ l, okP s) → 0 ≤ sA n l ∧ sA n l ≤ l.length * 1048576 ∧ 0 ≤ sE n l ∧ sE n l ≤ l.length * 8
  | [], _, _ => by simp [sA, sE]
  | s :: t, n, ho => by
    have o := ho s (List.mem_cons_self ..)
    have b := lst_bound o
    have r := set_bound (l := t) (n / 2) (fun y hy => ho y (List.mem_cons_of_mem _ hy))
    obtain ⟨o1, o2, o3, o4, o5⟩ := o
    simp only [sA, sE, List.length_cons]
    split <;> omega
theorem sE_zero : ∀ (l : List Spr), sE 0 l = 0
  | [] => rfl
  | s :: t => by simp only [sE]; rw [if_neg (by decide), show 0 / 2 = 0 from rfl, sE_zero t]; rfl
theorem set_loop {l : List Spr} (ho : ∀ s ∈ l, okP s) (h4 : l.length ≤ 4) {load X Y n : Int} : ∀ (d i k m : Nat) (A B : Int), i + d = l.length → d < k → m ≤ 1000 → -1099511627776 ≤ A → A ≤ i * 1048576 → 0 ≤ B → B ≤ i * 8 →
    ∃ m', fuseeref07_Force.l1 k l load X Y n A B (m : Int) (i : Int) = fuseeref07_Force.l1 (k - d) l load X Y n (A + sA m (l.drop i)) (B + sE m (l.drop i)) m' (l.length : Int) := by
  intro d
  induction d with
  | zero =>
    intro i k m A B hi hk _ _ _ _ _
    have ei : i = l.length := by omega
    subst ei
    rw [List.drop_of_length_le (by omega)]
    simp only [sA, sE, Int.add_zero, Nat.sub_zero]
    exact ⟨_, rfl⟩
  | succ d ih =>
    intro i k m A B hi hk hm A0 A1 B0 B1
    obtain ⟨k, rfl⟩ : ∃ y, k = y + 1 := ⟨k - 1, by omega⟩
    have hlt : i < l.length := by omega
    have o := ho _ (List.getElem_mem hlt)
    have b := lst_bound o
    obtain ⟨o1, o2, o3, o4, o5⟩ := o
    rw [List.drop_eq_getElem_cons hlt, fuseeref07_Force.l1, if_pos (by omega), show Int.tmod (m : Int) 2 = ((m % 2 : Nat) : Int) from rfl, show Int.tdiv (m : Int) 2 = ((m / 2 : Nat) : Int) from rfl, rd_spr hlt, rleast_eq, Option.bind_some, if_pos (show 0 ≤ (i : Int) by omega), if_pos (show 0 ≤ (i : Int) by omega), w64 (x := ((m / 2 : Nat) : Int)) (by omega) (by omega), w64 (x := (i : Int) + 1) (by omega) (by omega), show ((i : Int) + 1) = ((i + 1 : Nat) : Int) by omega]
    simp only [sA, sE]
    by_cases c : m % 2 = 1
    · rw [if_pos (by omega), if_pos c, if_pos c, w64 (x := A + l[i].f0) (by omega) (by omega), w64 (x := B + l[i].f2) (by omega) (by omega)]
      obtain ⟨m', e⟩ := ih (i + 1) k (m / 2) (A + l[i].f0) (B + l[i].f2) (by omega) (by omega) (by omega) (by omega) (by omega) (by omega) (by omega)
      refine ⟨m', e.trans ?_⟩
      rw [show k + 1 - (d + 1) = k - d by omega, Int.add_assoc, Int.add_assoc]
    · rw [if_neg (by omega), if_neg c, if_neg c, w64 (x := A + lst l[i]) (by omega) (by omega)]
      obtain ⟨m', e⟩ := ih (i + 1) k (m / 2) (A + lst l[i]) B (by omega) (by omega) (by omega) (by omega) (by omega) (by omega) (by omega)
      refine ⟨m', e.trans ?_⟩
      rw [show k + 1 - (d + 1) = k - d by omega, Int.add_assoc, Int.zero_add]
end Go.Proofs.Ytencdmcidhojgaa.Pure
