/- How many units springs have when they are pressed. No condition but each lemma's own. -/
import Derived.Test.YtencdmcidhojgaaPx6
import Derived.Test.YtencdmcidhojgaaLibSpringOne
namespace Go.Proofs.Ytencdmcidhojgaa.Pure
open Go.RowKit Go.Proofs.Ytencdmcidhojgaa.P Go.Proofs.YtencdmcidhojgaaW.PrintWords Go.Proofs.YtencdmcidhojgaaW.PrintLast Go.Proofs.YtencdmcidhojgaaW.PrintMore
set_option linter.unusedVariables false
set_option linter.unusedSimpArgs false
/-- How many units one has by a force of a through b. -/
def prs (a b : Int) (s : Spr) : Int := max (lst s) (s.f0 - up (a * s.f2) b)
theorem prs_spec {a b : Int} (h0 : 0 ≤ a) (hb : 1 ≤ b) {s : Spr} (o : okP s) : b * prs a b s ≤ xOf a b s ∧ xOf a b s < b * prs a b s + b ∧ lst s ≤ prs a b s ∧ prs a b s ≤ s.f0 ∧ (s.f2 = 0 → prs a b s = s.f0) := by
  have bb := lst_bound o
  obtain ⟨o1, o2, o3, o4, o5⟩ := o
  have an : 0 ≤ a * s.f2 := Int.mul_nonneg h0 o4
  obtain ⟨u1, u2⟩ := up_spec (x := a * s.f2) hb
  have u0 : 0 ≤ up (a * s.f2) b := le_up hb (by omega)
  have e1 : b * (s.f0 - up (a * s.f2) b) = b * s.f0 - up (a * s.f2) b * b := by rw [Int.mul_sub]; congr 1; exact Int.mul_comm _ _
  have e2 : (up (a * s.f2) b - 1) * b = up (a * s.f2) b * b - b := by rw [Int.sub_mul, Int.one_mul]
  unfold prs xOf
  refine ⟨?_, ?_, Int.le_max_left .., by omega, fun z => ?_⟩
  · rcases Int.le_total (lst s) (s.f0 - up (a * s.f2) b) with c | c
    · rw [Int.max_eq_right c]; omega
    · rw [Int.max_eq_left c]; omega
  · have m1 : b * lst s ≤ b * max (lst s) (s.f0 - up (a * s.f2) b) := Int.mul_le_mul_of_nonneg_left (Int.le_max_left ..) (by omega)
    have m2 : b * (s.f0 - up (a * s.f2) b) ≤ b * max (lst s) (s.f0 - up (a * s.f2) b) := Int.mul_le_mul_of_nonneg_left (Int.le_max_right ..) (by omega)
    omega
  · have hu : up (a * s.f2) b = 0 := up_eq hb (by rw [z, Int.mul_zero]; omega) (by rw [z, Int.mul_zero]; omega)
    rw [hu]; omega
def sumPr (a b : Int) (l : List Spr) : Int := (l.map (prs a b)).sum
theorem sumPr_cons (a b : Int) (s : Spr) (l : List Spr) : sumPr a b (s :: l) = prs a b s + sumPr a b l := by unfold sumPr; rw [List.map_cons, List.sum_cons]
theorem sumPr_spec {a b : Int} (h0 : 0 ≤ a) (hb : 1 ≤ b) : ∀ {l : List Spr}, (∀ s ∈ l, okP s) → b * sumPr a b l ≤ gOf a b l ∧ gOf a b l ≤ b * sumPr a b l + b * l.length ∧ (l ≠ [] → gOf a b l < b * sumPr a b l + b * l.length) ∧ sumL l ≤ sumPr a b l ∧ sumPr a b l ≤ sumU l
  | [], _ => by simp [sumPr, gOf, sumL, sumU]
  | s :: t, ho => by
    have r := sumPr_spec h0 hb (l := t) (fun y hy => ho y (List.mem_cons_of_mem _ hy))
    have p := prs_spec h0 hb (ho s (List.mem_cons_self ..))
    have e : b * ((t.length + 1 : Nat) : Int) = b * t.length + b := by rw [Int.natCast_add, Int.mul_add]; omega
    rw [sumPr_cons, gOf_cons, sumL_cons, sumU_cons, List.length_cons, Int.mul_add, e]
    refine ⟨by omega, by omega, fun _ => by omega, by omega, by omega⟩
theorem has_eq {a b : Int} (h0 : 0 ≤ a) (h1 : a ≤ 4194304) (hb : 1 ≤ b) (hb2 : b ≤ 32) {s : Spr} (o : okP s) : spring_Press_1.f a b s.f0 s.f1 s.f2 = some (prs a b s) := by
  obtain ⟨o1, o2, o3, o4, o5⟩ := o
  have m := mulb (a := a) (b := s.f2) (A := 4194304) (B := 8) h0 h1 o4 o5
  have u0 : 0 ≤ up (a * s.f2) b := le_up hb (by omega)
  have u1 : up (a * s.f2) b ≤ a * s.f2 := up_le hb (by have := Int.mul_le_mul_of_nonneg_left hb m.1; omega)
  unfold spring_Press_1.f prs
  rw [w64 (x := a * s.f2) (by omega) (by omega), ceil_up m.1 (by omega) hb (by omega), Option.bind_some, least_eq, Option.bind_some, w64 (by omega) (by omega)]
  congr 1
  unfold mx
  split <;> omega
theorem press_each {l : List Spr} (ho : ∀ s ∈ l, okP s) (hl : l.length ≤ 1000) {a b : Int} (h0 : 0 ≤ a) (h1 : a ≤ 4194304) (hb : 1 ≤ b) (hb2 : b ≤ 32) {k : Nat} (hk : l.length < k) : spring_Press.each k a b [] l 0 = some (l.map (prs a b)) := by
  have loop : ∀ (d i k : Nat), i + d = l.length → d < k → spring_Press.each k a b ((l.take i).map (prs a b)) l (i : Int) = some (l.map (prs a b)) := by
    intro d
    induction d with
    | zero =>
      intro i k hi hk
      obtain ⟨k, rfl⟩ : ∃ x, k = x + 1 := ⟨k - 1, by omega⟩
      rw [spring_Press.each, if_neg (by omega), List.take_of_length_le (by omega)]
    | succ d ih =>
      intro i k hi hk
      obtain ⟨k, rfl⟩ : ∃ x, k = x + 1 := ⟨k - 1, by omega⟩
      have hlt : i < l.length := by omega
      rw [spring_Press.each, if_pos (by omega), if_pos (by omega), rd_spr hlt, has_eq h0 h1 hb hb2 (ho _ (List.getElem_mem hlt)), Option.bind_some, if_pos (by simp; omega), w64 (by omega) (by omega), show ((i : Int) + 1) = ((i + 1 : Nat) : Int) by omega]
      have e : (l.take i).map (prs a b) ++ [prs a b l[i]] = (l.take (i + 1)).map (prs a b) := by rw [List.take_succ_eq_append_getElem hlt, List.map_append]; rfl
      rw [e]
      exact ih (i + 1) k (by omega) (by omega)
  exact loop l.length 0 k (by omega) hk
theorem press_ok {l : List Spr} {load : Int} (h : roomP l load) {k : Nat} (hk : 70 ≤ k) : ∃ a b, isForce l load a b ∧ spring_Force.f k l load = some (a, b, true) ∧ spring_Press.f k l load = some (l.map (prs a b), true) := by
  obtain ⟨a, b, hf, hi⟩ := force_ok h hk
  refine ⟨a, b, hi, hf, ?_⟩
  have ⟨p0, p1, p2, p3, p4, p5⟩ := hi
  have h4 := h.1.2
  unfold spring_Press.f
  rw [hf, Option.bind_some, if_pos rfl, press_each h.1.1 (by omega) p0 p1 p2 p3 (by omega), Option.bind_some]
theorem press_no {l : List Spr} {load : Int} (h : ¬ roomP l load) {k : Nat} (hk : l.length + 2 ≤ k) : spring_Press.f k l load = some ([], false) := by
  unfold spring_Press.f
  rw [force_no h hk]
  rfl
theorem isForce_full {l : List Spr} (ho : ∀ s ∈ l, okP s) {load a b : Int} (h : isForce l load a b) (hu : sumU l ≤ load) : a = 0 ∧ b = 1 := by
  refine isForce_one ho h ⟨by omega, by omega, by omega, by omega, by decide, .inl ⟨rfl, hu⟩⟩
theorem prs_zero {s : Spr} (o : okP s) : prs 0 1 s = s.f0 := by
  have p := prs_spec (a := 0) (b := 1) (by omega) (by omega) o
  have b := lst_bound o
  unfold xOf at p
  rw [Int.one_mul, Int.one_mul, Int.one_mul, Int.zero_mul, Int.sub_zero, Int.max_eq_left (by omega)] at p
  omega
theorem sumPr_zero : ∀ {l : List Spr}, (∀ s ∈ l, okP s) → sumPr 0 1 l = sumU l
  | [], _ => rfl
  | s :: t, ho => by rw [sumPr_cons, sumU_cons, prs_zero (ho s (List.mem_cons_self ..)), sumPr_zero (fun y hy => ho y (List.mem_cons_of_mem _ hy))]
theorem prs_mono {a b a' b' : Int} (h0 : 0 ≤ a) (h0' : 0 ≤ a') (hb : 1 ≤ b) (hb' : 1 ≤ b') (h : a' * b ≤ a * b') {s : Spr} (o : okP s) : prs a b s ≤ prs a' b' s := by
  have p := prs_spec h0 hb o
  have p' := prs_spec h0' hb' o
  have x := xOf_anti hb' hb h o
  -- b' * xOf a b ≤ b * xOf a' b'
  have m1 : b' * (b * prs a b s) ≤ b' * xOf a b s := Int.mul_le_mul_of_nonneg_left p.1 (by omega)
  have m2 : b * xOf a' b' s < b * (b' * prs a' b' s + b') := Int.mul_lt_mul_of_pos_left p'.2.1 (by omega)
  have e1 : b' * (b * prs a b s) = b * b' * prs a b s := by ac_rfl
  have e2 : b * (b' * prs a' b' s + b') = b * b' * (prs a' b' s + 1) := by rw [Int.mul_add, Int.mul_add, Int.mul_one, Int.mul_assoc]
  have m3 : b * b' * prs a b s < b * b' * (prs a' b' s + 1) := by omega
  have := Int.lt_of_mul_lt_mul_left m3 (Int.mul_nonneg (by omega) (by omega))
  omega
theorem rd_map {l : List Spr} (f : Spr → Int) {i : Nat} (h : i < l.length) : rd (l.map f) (i : Int) = f l[i] := by
  unfold rd
  rw [Int.toNat_natCast]
  simp [List.getD_eq_getElem?_getD, List.getElem?_eq_getElem h]
end Go.Proofs.Ytencdmcidhojgaa.Pure
