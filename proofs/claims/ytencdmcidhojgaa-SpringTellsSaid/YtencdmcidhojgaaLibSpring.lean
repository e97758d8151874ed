/- Springs: what may be, what has room, and the force: what the program's functions come to. No condition but each lemma's own. -/
import Derived.Test.YtencdmcidhojgaaPx1
import Derived.Test.YtencdmcidhojgaaPx2
import Derived.Test.YtencdmcidhojgaaPx3
import Derived.Test.YtencdmcidhojgaaPx4
import Derived.Test.YtencdmcidhojgaaPx5
import Derived.Test.YtencdmcidhojgaaLibSumS
namespace Go.Proofs.Ytencdmcidhojgaa.Pure
open Go.RowKit Go.Proofs.Ytencdmcidhojgaa.P Go.Proofs.YtencdmcidhojgaaW.PrintWords Go.Proofs.YtencdmcidhojgaaW.PrintLast Go.Proofs.YtencdmcidhojgaaW.PrintMore
set_option linter.unusedVariables false
set_option linter.unusedSimpArgs false
abbrev Spr := S33
theorem rd_spr {l : List Spr} {i : Nat} (h : i < l.length) : rd_T33 l (i : Int) = l[i] := by
  unfold rd_T33
  simp [List.getD_eq_getElem?_getD, List.getElem?_eq_getElem h]
/-- A spring that may be. -/
def okP (s : Spr) : Prop := 1 ≤ s.f1 ∧ s.f1 ≤ s.f0 ∧ s.f0 ≤ 1048576 ∧ 0 ≤ s.f2 ∧ s.f2 ≤ 8
instance (s : Spr) : Decidable (okP s) := by unfold okP; infer_instance
/-- Its least. -/
def lst (s : Spr) : Int := if s.f2 = 0 then s.f0 else s.f1
theorem lst_bound {s : Spr} (h : okP s) : 1 ≤ lst s ∧ lst s ≤ s.f0 ∧ s.f1 ≤ lst s := by
  obtain ⟨a, b, c, d, e⟩ := h
  unfold lst
  split <;> omega
theorem least_eq (s : Spr) : spring_least.f s.f0 s.f1 s.f2 = some (lst s) := by
  unfold spring_least.f lst
  split <;> rfl
theorem spr_may (s : Spr) : spring_may.f s.f0 s.f1 s.f2 = some (decide (okP s)) := by
  unfold spring_may.f
  by_cases o : okP s
  · rw [decide_eq_true o, if_pos o.1, if_pos o.2.1, if_pos o.2.2.1, if_pos o.2.2.2.1, decide_eq_true o.2.2.2.2]
  · rw [decide_eq_false o]
    by_cases c1 : s.f1 ≥ 1
    · rw [if_pos c1]
      by_cases c2 : s.f1 ≤ s.f0
      · rw [if_pos c2]
        by_cases c3 : s.f0 ≤ 1048576
        · rw [if_pos c3]
          by_cases c4 : s.f2 ≥ 0
          · rw [if_pos c4, decide_eq_false (fun q => o ⟨c1, c2, c3, c4, q⟩)]
          · rw [if_neg c4]
        · rw [if_neg c3]
      · rw [if_neg c2]
    · rw [if_neg c1]
def mayP (l : List Spr) : Prop := (∀ s ∈ l, okP s) ∧ l.length ≤ 4
instance (l : List Spr) : Decidable (mayP l) := by unfold mayP; infer_instance
theorem mayP_eq (l : List Spr) {k : Nat} (hk : l.length < k) : spring_May.f k l = some (decide (mayP l)) := by
  unfold spring_May.f
  by_cases c : (l.length : Int) ≤ 4
  · rw [if_pos c]
    unfold api_Spr_26.f api_Spr_34.f
    have loop : ∀ (d i k : Nat), i + d = l.length → d < k → (∀ s ∈ l.take i, okP s) → ∃ r, api_Spr_34.l0 k l (l.length : Int) (i : Int) = some r ∧ (0 ≤ r ↔ ¬ ∀ s ∈ l, okP s) := by
      intro d
      induction d with
      | zero =>
        intro i k hi hk hall
        obtain ⟨k, rfl⟩ : ∃ x, k = x + 1 := ⟨k - 1, by omega⟩
        rw [List.take_of_length_le (by omega)] at hall
        exact ⟨-1, by rw [api_Spr_34.l0, if_neg (by omega)], ⟨fun h => by omega, fun h => absurd hall h⟩⟩
      | succ d ih =>
        intro i k hi hk hall
        obtain ⟨k, rfl⟩ : ∃ x, k = x + 1 := ⟨k - 1, by omega⟩
        have hlt : i < l.length := by omega
        rw [api_Spr_34.l0, if_pos (by omega), if_pos (by omega), if_pos (by omega), rd_spr hlt]
        unfold spring_May_1.f
        rw [spr_may, Option.bind_some, Option.bind_some]
        by_cases o : okP l[i]
        · rw [decide_eq_true o, if_neg (by decide), w64 (by omega) (by omega), show ((i : Int) + 1) = ((i + 1 : Nat) : Int) by omega]
          refine ih (i + 1) k (by omega) (by omega) fun s hs => ?_
          rw [List.take_succ_eq_append_getElem hlt] at hs
          rcases List.mem_append.1 hs with h | h
          · exact hall s h
          · rw [List.mem_singleton.1 h]; exact o
        · rw [decide_eq_false o, if_pos (by decide)]
          exact ⟨(i : Int), rfl, ⟨fun _ h => o (h _ (List.getElem_mem hlt)), fun _ => by omega⟩⟩
    obtain ⟨r, hr, hi⟩ := loop l.length 0 k (by omega) hk (by simp)
    rw [show ((0 : Nat) : Int) = 0 from rfl] at hr
    rw [hr, Option.bind_some, Option.bind_some]
    congr 1
    by_cases h : ∀ s ∈ l, okP s
    · rw [decide_eq_true (show mayP l from ⟨h, by omega⟩), decide_eq_false (fun q => hi.1 q h)]; rfl
    · rw [decide_eq_false (fun q : mayP l => h q.1), decide_eq_true (hi.2 h)]; rfl
  · rw [if_neg c, decide_eq_false (fun q => c (by have := q.2; omega))]
def sumL (l : List Spr) : Int := (l.map lst).sum
def sumU (l : List Spr) : Int := (l.map (·.f0)).sum
theorem sumL_cons (s : Spr) (l : List Spr) : sumL (s :: l) = lst s + sumL l := by unfold sumL; rw [List.map_cons, List.sum_cons]
theorem sumU_cons (s : Spr) (l : List Spr) : sumU (s :: l) = s.f0 + sumU l := by unfold sumU; rw [List.map_cons, List.sum_cons]
theorem sumL_bound : ∀ {l : List Spr}, (∀ s ∈ l, okP s) → 0 ≤ sumL l ∧ sumL l ≤ sumU l ∧ sumU l ≤ l.length * 1048576
  | [], _ => by simp [sumL, sumU]
  | s :: t, h => by
    have o := h s (List.mem_cons_self ..)
    have b := lst_bound o
    have r := sumL_bound (l := t) (fun y hy => h y (List.mem_cons_of_mem _ hy))
    have u := o.2.2.1
    rw [sumL_cons, sumU_cons, List.length_cons]
    omega
theorem each_eq (l : List Spr) (hl : l.length ≤ 1000) {k : Nat} (hk : l.length < k) : spring_each.f k l = some (l.map lst) := by
  unfold spring_each.f
  have loop : ∀ (d i k : Nat), i + d = l.length → d < k → spring_each.l0 k ((l.take i).map lst) l (l.length : Int) (i : Int) = some (l.map lst) := by
    intro d
    induction d with
    | zero =>
      intro i k hi hk
      obtain ⟨k, rfl⟩ : ∃ x, k = x + 1 := ⟨k - 1, by omega⟩
      rw [spring_each.l0, if_neg (by omega), List.take_of_length_le (by omega)]
    | succ d ih =>
      intro i k hi hk
      obtain ⟨k, rfl⟩ : ∃ x, k = x + 1 := ⟨k - 1, by omega⟩
      have hlt : i < l.length := by omega
      rw [spring_each.l0, if_pos (by omega), if_pos (by omega), if_pos (by omega), rd_spr hlt, least_eq, Option.bind_some, if_pos (by simp; omega), w64 (by omega) (by omega), show ((i : Int) + 1) = ((i + 1 : Nat) : Int) by omega]
      have e : (l.take i).map lst ++ [lst l[i]] = (l.take (i + 1)).map lst := by rw [List.take_succ_eq_append_getElem hlt, List.map_append]; rfl
      rw [e]
      exact ih (i + 1) k (by omega) (by omega)
  exact loop l.length 0 k (by omega) hk
def roomP (l : List Spr) (load : Int) : Prop := mayP l ∧ 0 ≤ load ∧ load ≤ 1099511627776 ∧ sumL l ≤ load
instance (l : List Spr) (load : Int) : Decidable (roomP l load) := by unfold roomP; infer_instance
theorem roomP_eq (l : List Spr) (load : Int) {k : Nat} (hk : l.length + 2 ≤ k) : spring_Room.f k l load = some (decide (roomP l load)) := by
  unfold spring_Room.f
  obtain ⟨k, rfl⟩ : ∃ x, k = x + 1 := ⟨k - 1, by omega⟩
  rw [mayP_eq l (by omega), Option.bind_some]
  by_cases h : mayP l
  · rw [decide_eq_true h, if_pos rfl]
    by_cases c1 : load < 0
    · rw [if_pos c1, spring_Room.j0, if_pos rfl, decide_eq_false (fun q => by have := q.2.1; omega)]
    · rw [if_neg c1]
      by_cases c2 : load > 1099511627776
      · rw [decide_eq_true c2, spring_Room.j0, if_pos rfl, decide_eq_false (fun q => by have := q.2.2.1; omega)]
      · have h4 := h.2
        rw [decide_eq_false c2, spring_Room.j0, if_neg (by decide), each_eq l (by omega) (by omega), Option.bind_some, sum_ok ⟨by rw [List.length_map]; omega, ?_⟩, Option.bind_some, if_pos rfl]
        · congr 1
          rw [decide_eq_decide]
          exact ⟨fun q => ⟨h, by omega, by omega, q⟩, fun q => q.2.2.2⟩
        · rw [List.any_eq_false]
          intro u hu
          obtain ⟨x, hx, rfl⟩ := List.mem_map.1 hu
          have o := h.1 x hx
          have b := lst_bound o
          have u := o.2.2.1
          rw [(bad_iff _).2 (by omega)]
          decide
  · rw [decide_eq_false h, if_neg (by decide), spring_Room.j0, if_pos rfl, decide_eq_false (fun q => h q.1)]
/-- The greatest number that divides two: as many rounds as the second one, and one. -/
theorem common_eq : ∀ (b a k : Nat), b < k → spring_common.f k (a : Int) (b : Int) = some ((Nat.gcd a b : Nat) : Int) := by
  intro b
  induction b using Nat.strongRecOn with
  | ind b ih =>
    intro a k hk
    obtain ⟨k, rfl⟩ : ∃ x, k = x + 1 := ⟨k - 1, by omega⟩
    unfold spring_common.f
    rw [spring_common.l0]
    by_cases c : b = 0
    · subst c
      rw [if_neg (by omega), Nat.gcd_zero_right]
    · rw [if_pos (by omega), if_neg (by omega)]
      have e : Int.tmod (a : Int) (b : Int) = ((a % b : Nat) : Int) := by rw [Int.tmod_eq_emod_of_nonneg (by omega)]; rfl
      have hlt := Nat.mod_lt a (show 0 < b by omega)
      have := ih (a % b) hlt b k (by omega)
      unfold spring_common.f at this
      rw [e, this, Nat.gcd_comm a b, Nat.gcd_rec b a, Nat.gcd_comm]
end Go.Proofs.Ytencdmcidhojgaa.Pure
