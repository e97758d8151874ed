/- In another order springs are pressed alike; one that has no give has just its units. No condition. -/
import Derived.Test.YtencdmcidhojgaaQSpringTurned
import Derived.Test.YtencdmcidhojgaaLibSpringPress
import Derived.Test.YtencdmcidhojgaaLibA07
namespace Go.Proofs.Ytencdmcidhojgaa.Pure
open Go.RowKit Go.Proofs.Ytencdmcidhojgaa.P Go.Proofs.YtencdmcidhojgaaW.PrintWords Go.Proofs.YtencdmcidhojgaaW.PrintLast
set_option linter.unusedVariables false
set_option linter.unusedSimpArgs false
theorem sum_map_reverse (f : Spr → Int) (l : List Spr) : (l.reverse.map f).sum = (l.map f).sum := by rw [List.map_reverse, sum_reverse]
theorem room_reverse {l : List Spr} {load : Int} : roomP l.reverse load ↔ roomP l load := by
  unfold roomP mayP sumL
  rw [sum_map_reverse, List.length_reverse]
  simp only [List.mem_reverse]
theorem force_reverse {l : List Spr} {load a b : Int} (h : isForce l load a b) : isForce l.reverse load a b := by
  unfold isForce gOf sumU at *
  rw [sum_map_reverse, sum_map_reverse]
  simp only [List.mem_reverse]
  exact h
theorem turned_fin {l : List Spr} (ho : ∀ s ∈ l, okP s) (h4 : l.length ≤ 4) {a b : Int} (h0 : 0 ≤ a) (hb : 1 ≤ b) : ∀ (d i k : Nat), i + d = l.length → d < k → fuseelaw07_SpringTurned.l1 k l (l.map (prs a b)) (l.reverse.map (prs a b)) (i : Int) = some true := by
  intro d
  induction d with
  | zero =>
    intro i k hi hk
    obtain ⟨k, rfl⟩ : ∃ x, k = x + 1 := ⟨k - 1, by omega⟩
    rw [fuseelaw07_SpringTurned.l1, if_neg (by rw [List.length_map]; omega)]
  | succ d ih =>
    intro i k hi hk
    obtain ⟨k, rfl⟩ : ∃ x, k = x + 1 := ⟨k - 1, by omega⟩
    have hlt : i < l.length := by omega
    have o := ho _ (List.getElem_mem hlt)
    have p := prs_spec h0 hb o
    have hlr : (l.reverse.map (prs a b)).length = l.length := by simp
    have e : (l.length : Int) - 1 - i = ((l.length - 1 - i : Nat) : Int) := by omega
    have hr : rd (l.reverse.map (prs a b)) ((l.length - 1 - i : Nat) : Int) = prs a b l[i] := by
      rw [rd_map _ (by simp; omega)]
      congr 1
      rw [List.getElem_reverse]
      congr 1
      omega
    rw [fuseelaw07_SpringTurned.l1, if_pos (by rw [List.length_map]; omega), if_pos (by omega), hlr, w64 (x := (l.length : Int) - 1) (by omega) (by omega), w64 (x := (l.length : Int) - 1 - i) (by omega) (by omega), e, if_pos (by omega), if_pos (by omega), rd_map _ hlt, hr, if_pos rfl, if_pos (by omega), rd_spr hlt, w64 (by omega) (by omega), show ((i : Int) + 1) = ((i + 1 : Nat) : Int) by omega]
    by_cases c : l[i].f2 = 0
    · rw [if_pos c, if_pos (p.2.2.2.2 c)]; exact ih (i + 1) k (by omega) (by omega)
    · rw [if_neg c]; exact ih (i + 1) k (by omega) (by omega)
theorem turned_back {l : List Spr} (hl : l.length < 5864062014805) {load : Int} {u : List Int} {is : Bool} {k0 : Nat}
    (fin : ∀ k, k0 ≤ k → fuseelaw07_SpringTurned.l0 (k + 1) l load true u is l.reverse 0 = some true) : ∀ (i k : Nat), i ≤ l.length → k0 + i ≤ k → fuseelaw07_SpringTurned.l0 (k + 1) l load true u is (l.reverse.take (l.length - i)) (i : Int) = some true := by
  intro i
  induction i with
  | zero =>
    intro k _ hk
    rw [List.take_of_length_le (by simp)]
    exact fin k (by omega)
  | succ i ih =>
    intro k hi hk
    obtain ⟨k, rfl⟩ : ∃ x, k = x + 1 := ⟨k - 1, by omega⟩
    have hlt : i < l.length := by omega
    have e : (((i + 1 : Nat) : Int) - 1) = (i : Int) := by omega
    have hj : l.length - (i + 1) < l.reverse.length := by simp; omega
    have step : l.reverse.take (l.length - (i + 1)) ++ [(⟨l[i].f0, l[i].f1, l[i].f2⟩ : Spr)] = l.reverse.take (l.length - i) := by
      rw [show l.length - i = l.length - (i + 1) + 1 by omega, List.take_succ_eq_append_getElem hj]
      have hg : l.reverse[l.length - (i + 1)] = l[i] := by
        rw [List.getElem_reverse]
        congr 1
        omega
      rw [hg]
    rw [fuseelaw07_SpringTurned.l0, if_pos (by omega), w64 (x := ((i + 1 : Nat) : Int) - 1) (by omega) (by omega), e, if_pos (by omega), if_pos (by omega), if_pos (by simp; omega), rd_spr hlt, step]
    exact ih k (by omega) (by omega)
theorem SpringTurned : fuseelaw07_SpringTurned.Pure := by
  intro l load _ hl _ _
  refine ⟨l.length + l.length + 4000, ?_⟩
  unfold fuseelaw07_SpringTurned.f
  rw [awake07 (by omega), Option.bind_some]
  have go : ∀ (u : List Int) (is : Bool), spring_Press.f (l.length + l.length + 4000) l load = some (u, is) → (∀ k, 2000 + l.length ≤ k → fuseelaw07_SpringTurned.l0 (k + 1) l load true u is l.reverse 0 = some true) → ((spring_Press.f (l.length + l.length + 4000) l load).bind fun bt286 => fuseelaw07_SpringTurned.l0 (l.length + l.length + 4000) l load true bt286.1 bt286.2 [] (l.length : Int)) = some true := by
    intro u is hp fin
    rw [hp, Option.bind_some]
    have := turned_back (l := l) (by omega) (u := u) (is := is) (k0 := 2000 + l.length) fin l.length (l.length + l.length + 3999) (by omega) (by omega)
    simpa using this
  by_cases h : roomP l load
  · obtain ⟨a, b, hi, hf, hp⟩ := press_ok h (k := l.length + l.length + 4000) (by omega)
    refine go _ _ hp fun k hk => ?_
    have h4 := h.1.2
    obtain ⟨a1, b1, hi1, hf1, hp1⟩ := press_ok (room_reverse.2 h) (k := k) (by omega)
    obtain ⟨a2, b2, hi2, hf2, hp2⟩ := press_ok h (k := k) (by omega)
    obtain ⟨rfl, rfl⟩ := isForce_one (fun s hs => h.1.1 s (List.mem_reverse.1 hs)) hi1 (force_reverse hi)
    obtain ⟨rfl, rfl⟩ := isForce_one h.1.1 hi2 hi
    rw [fuseelaw07_SpringTurned.l0, if_neg (by omega), if_neg (by omega), hp1, Option.bind_some, hf2, Option.bind_some, hf1, Option.bind_some, if_pos rfl, if_neg (by simp), if_pos rfl, if_pos rfl, if_pos (by simp)]
    exact turned_fin h.1.1 h.1.2 hi.1 hi.2.2.1 l.length 0 k (by omega) (by omega)
  · have hp := press_no h (k := l.length + l.length + 4000) (by omega)
    refine go _ _ hp fun k hk => ?_
    obtain ⟨k, rfl⟩ : ∃ x, k = x + 1 := ⟨k - 1, by omega⟩
    rw [fuseelaw07_SpringTurned.l0, if_neg (by omega)]
    by_cases c : (l.length : Int) > 10
    · rw [if_pos c]
    · rw [if_neg c, press_no (fun q => h (room_reverse.1 q)) (by simp; omega), Option.bind_some, force_no h (by omega), Option.bind_some, force_no (fun q => h (room_reverse.1 q)) (by simp; omega), Option.bind_some, if_pos rfl, if_neg (by simp), if_pos rfl, if_pos rfl, if_pos rfl]
      rw [fuseelaw07_SpringTurned.l1, if_neg (by simp)]
end Go.Proofs.Ytencdmcidhojgaa.Pure
