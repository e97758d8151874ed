/- The force by which springs are pressed: that which the program finds is the one at which they have just the load. No condition but each lemma's own. -/
import Derived.Test.YtencdmcidhojgaaPx5
import Derived.Test.YtencdmcidhojgaaLibSpring
namespace Go.Proofs.Ytencdmcidhojgaa.Pure
open Go.RowKit Go.Proofs.Ytencdmcidhojgaa.P Go.Proofs.YtencdmcidhojgaaW.PrintWords Go.Proofs.YtencdmcidhojgaaW.PrintLast Go.Proofs.YtencdmcidhojgaaW.PrintMore
set_option linter.unusedVariables false
set_option linter.unusedSimpArgs false
/-- What those that are left have, and the others at their least. -/
def ovr : List Spr → List Bool → Int
  | s :: l, b :: L => (if b = true then s.f0 else lst s) + ovr l L
  | _, _ => 0
/-- How elastic those that are left are. -/
def els : List Spr → List Bool → Int
  | s :: l, b :: L => (if b = true then s.f2 else 0) + els l L
  | _, _ => 0
theorem ovr_bound : ∀ {l : List Spr} (L : List Bool), (∀ s ∈ l, okP s) → 0 ≤ ovr l L ∧ ovr l L ≤ l.length * 1048576 ∧ 0 ≤ els l L ∧ els l L ≤ l.length * 8
  | [], L, _ => by cases L <;> simp [ovr, els]
  | s :: t, [], _ => by simp [ovr, els]; omega
  | s :: t, b :: L, h => by
    have o := h s (List.mem_cons_self ..)
    have bb := lst_bound o
    have r := ovr_bound (l := t) L (fun y hy => h y (List.mem_cons_of_mem _ hy))
    obtain ⟨o1, o2, o3, o4, o5⟩ := o
    unfold ovr els
    rw [List.length_cons]
    cases b <;> simp <;> omega
/-- The force of those that are left. -/
def forceOf (ov e : Int) : Int × Int := if ov ≤ 0 then (0, 1) else if e = 0 then (0, 1) else (ov / ((Nat.gcd ov.toNat e.toNat : Nat) : Int), e / ((Nat.gcd ov.toNat e.toNat : Nat) : Int))
theorem of_end {k : Nat} {L : List Bool} {l : List Spr} {ov e i : Int} (hi : ¬ i < (l.length : Int)) (hv : ov ≤ 1099511627776) (he : 0 ≤ e) (he2 : e ≤ 1000) (hk : e.toNat + 1 ≤ k) : spring_of.l0 (k + 1) L l ov e i = some (forceOf ov e) := by
  unfold forceOf
  rw [spring_of.l0, if_neg hi]
  by_cases c1 : ov ≤ 0
  · rw [if_pos c1, if_pos c1]
  · rw [if_neg c1, if_neg c1]
    by_cases c2 : e = 0
    · rw [if_pos c2, if_pos c2]
    · have hc := common_eq e.toNat ov.toNat k (by omega)
      rw [Int.toNat_of_nonneg (by omega), Int.toNat_of_nonneg (by omega)] at hc
      have g0 : 0 < Nat.gcd ov.toNat e.toNat := Nat.gcd_pos_of_pos_right _ (by omega)
      generalize Nat.gcd ov.toNat e.toNat = c at *
      have d1 : ov / (c : Int) ≤ ov := Int.ediv_le_self _ (by omega)
      have d2 : e / (c : Int) ≤ e := Int.ediv_le_self _ (by omega)
      have d3 : 0 ≤ ov / (c : Int) := Int.ediv_nonneg (by omega) (by omega)
      have d4 : 0 ≤ e / (c : Int) := Int.ediv_nonneg (by omega) (by omega)
      rw [if_neg c2, if_neg c2, hc, Option.bind_some, if_neg (by omega), Int.tdiv_eq_ediv_of_nonneg (by omega), Int.tdiv_eq_ediv_of_nonneg he, w64 (by omega) (by omega), w64 (by omega) (by omega)]
theorem of_eq' {l : List Spr} {L : List Bool} (h : ∀ s ∈ l, okP s) (hL : L.length = l.length) (h4 : l.length ≤ 4) {load : Int} (h0 : 0 ≤ load) (h1 : load ≤ 1099511627776) {k : Nat} (hk : l.length + 40 ≤ k) :
    spring_of.f k L l load = some (forceOf (ovr l L - load) (els l L)) := by
  unfold spring_of.f
  rw [w64 (x := -load) (by omega) (by omega)]
  have loop : ∀ (d i k : Nat) (ov e : Int), i + d = l.length → d + 36 ≤ k → -1099511627776 ≤ ov → ov ≤ i * 1048576 → 0 ≤ e → e ≤ i * 8 → spring_of.l0 k L l ov e (i : Int) = some (forceOf (ov + ovr (l.drop i) (L.drop i)) (e + els (l.drop i) (L.drop i))) := by
    intro d
    induction d with
    | zero =>
      intro i k ov e hi hk v0 v1 e0 e1
      obtain ⟨k, rfl⟩ : ∃ x, k = x + 1 := ⟨k - 1, by omega⟩
      rw [List.drop_of_length_le (show l.length ≤ i by omega), of_end (by omega) (by omega) e0 (by omega) (by omega)]
      simp [ovr, els]
    | succ d ih =>
      intro i k ov e hi hk v0 v1 e0 e1
      obtain ⟨k, rfl⟩ : ∃ x, k = x + 1 := ⟨k - 1, by omega⟩
      have hlt : i < l.length := by omega
      have hlt2 : i < L.length := by omega
      have o := h _ (List.getElem_mem hlt)
      have bb := lst_bound o
      obtain ⟨o1, o2, o3, o4, o5⟩ := o
      have hg : L.getD i false = L[i] := by simp [List.getD_eq_getElem?_getD, List.getElem?_eq_getElem hlt2]
      rw [List.drop_eq_getElem_cons hlt, List.drop_eq_getElem_cons hlt2, spring_of.l0, if_pos (by omega), if_pos (by omega), Int.toNat_natCast, hg, rd_spr hlt, w64 (x := (i : Int) + 1) (by omega) (by omega), show ((i : Int) + 1) = ((i + 1 : Nat) : Int) by omega]
      unfold ovr els
      cases hb : L[i] with
      | true =>
        rw [if_pos rfl, if_pos rfl, if_pos rfl, w64 (by omega) (by omega), w64 (by omega) (by omega), ih (i + 1) k _ _ (by omega) (by omega) (by omega) (by omega) (by omega) (by omega), Int.add_assoc, Int.add_assoc]
      | false =>
        rw [if_neg (by decide), if_neg (by decide), if_neg (by decide), least_eq, Option.bind_some, w64 (by omega) (by omega), ih (i + 1) k _ _ (by omega) (by omega) (by omega) (by omega) (by omega) (by omega), Int.add_assoc, Int.zero_add]
  have := loop l.length 0 k (-load) 0 (by omega) (by omega) (by omega) (by omega) (by omega) (by omega)
  rw [List.drop_zero, List.drop_zero, Int.zero_add, show -load + ovr l L = ovr l L - load by omega] at this
  exact this
/-- Has a spring less than its least by a force? -/
def blw (a b : Int) (s : Spr) : Bool := decide ((s.f0 - s.f1) * b < a * s.f2)
theorem blw_eq {a b : Int} {s : Spr} (o : okP s) (a0 : 0 ≤ a) (a1 : a ≤ 1099511627776) (b0 : 1 ≤ b) (b1 : b ≤ 32) : spring_force_below.f a b s.f0 s.f1 s.f2 = some (blw a b s) := by
  obtain ⟨o1, o2, o3, o4, o5⟩ := o
  have m := mulb (a := a) (b := s.f2) (A := 1099511627776) (B := 8) a0 a1 o4 o5
  unfold spring_force_below.f frac_Cmp.f blw
  rw [w64 (x := a * s.f2) (by omega) (by omega), w64 (x := s.f0 - s.f1) (by omega) (by omega), if_pos ⟨⟨by omega, by omega, by omega, by omega⟩, by omega, by omega, by omega, by omega⟩, Option.bind_some, Int.mul_one]
  congr 1
  by_cases c : (s.f0 - s.f1) * b < a * s.f2
  · rw [if_neg (by omega), if_pos c, decide_eq_true c]; rfl
  · rw [decide_eq_false c]
    by_cases c2 : a * s.f2 < (s.f0 - s.f1) * b
    · rw [if_pos c2]; rfl
    · rw [if_neg c2, if_neg c]; rfl
/-- Those that are left when they are gone that have less than their least. -/
def remL (a b : Int) : List Spr → List Bool → List Bool
  | s :: l, t :: L => (t && !blw a b s) :: remL a b l L
  | _, _ => []
theorem remL_length (a b : Int) : ∀ (l : List Spr) (L : List Bool), L.length = l.length → (remL a b l L).length = l.length
  | [], L, h => by cases L <;> simp [remL]
  | s :: l, [], h => by simp at h
  | s :: l, t :: L, h => by simp only [remL, List.length_cons] at h ⊢; rw [remL_length a b l L (by omega)]
theorem remL_get (a b : Int) : ∀ (l : List Spr) (L : List Bool) (i : Nat) (h1 : i < l.length) (h2 : i < L.length) (h3 : i < (remL a b l L).length), (remL a b l L)[i] = (L[i] && !blw a b l[i])
  | [], L, i, h1, h2, h3 => by simp at h1
  | s :: l, [], i, h1, h2, h3 => by simp at h2
  | s :: l, t :: L, 0, h1, h2, h3 => by simp [remL]
  | s :: l, t :: L, i + 1, h1, h2, h3 => by
    simp only [remL, List.getElem_cons_succ]
    exact remL_get a b l L i _ _ _
theorem rem_eq {l : List Spr} {L : List Bool} (h : ∀ s ∈ l, okP s) (hL : L.length = l.length) (h4 : l.length ≤ 4) {a b : Int} (a0 : 0 ≤ a) (a1 : a ≤ 1099511627776) (b0 : 1 ≤ b) (b1 : b ≤ 32) {k : Nat} (hk : l.length + 1 ≤ k) :
    spring_find.rem k L l a b 0 = some (remL a b l L) := by
  have hr := remL_length a b l L hL
  have loop : ∀ (d i k : Nat), i + d = l.length → d + 1 ≤ k → spring_find.rem k ((remL a b l L).take i ++ L.drop i) l a b (i : Int) = some (remL a b l L) := by
    intro d
    induction d with
    | zero =>
      intro i k hi hk
      obtain ⟨k, rfl⟩ : ∃ x, k = x + 1 := ⟨k - 1, by omega⟩
      rw [List.take_of_length_le (by omega), List.drop_of_length_le (by omega), List.append_nil, spring_find.rem, if_neg (by omega)]
    | succ d ih =>
      intro i k hi hk
      obtain ⟨k, rfl⟩ : ∃ x, k = x + 1 := ⟨k - 1, by omega⟩
      have hlt : i < l.length := by omega
      have hlt2 : i < L.length := by omega
      have hlt3 : i < (remL a b l L).length := by omega
      have o := h _ (List.getElem_mem hlt)
      have hlen : ((remL a b l L).take i).length = i := by rw [List.length_take]; omega
      have hg : ((remL a b l L).take i ++ L.drop i).getD i false = L[i] := by
        rw [List.getD_eq_getElem?_getD, List.getElem?_append_right (by omega), hlen, Nat.sub_self, List.getElem?_drop, Nat.add_zero, List.getElem?_eq_getElem hlt2]
        rfl
      have hset : ∀ v, v = (remL a b l L)[i] → ((remL a b l L).take i ++ L.drop i).set i v = (remL a b l L).take (i + 1) ++ L.drop (i + 1) := by
        intro v hv
        rw [List.set_append_right _ _ (by omega), hlen, Nat.sub_self, List.drop_eq_getElem_cons hlt2, List.set_cons_zero, List.take_succ_eq_append_getElem hlt3, List.append_assoc, hv]
        rfl
      have hkeep : L[i] = (remL a b l L)[i] → (remL a b l L).take i ++ L.drop i = (remL a b l L).take (i + 1) ++ L.drop (i + 1) := by
        intro hv
        rw [List.drop_eq_getElem_cons hlt2, List.take_succ_eq_append_getElem hlt3, List.append_assoc, hv]
        rfl
      have hget := remL_get a b l L i hlt hlt2 hlt3
      rw [spring_find.rem, if_pos (by omega), if_pos (by omega), Int.toNat_natCast, hg, rd_spr hlt, w64 (x := (i : Int) + 1) (by omega) (by omega), show ((i : Int) + 1) = ((i + 1 : Nat) : Int) by omega]
      cases hb : L[i] with
      | true =>
        rw [if_pos rfl, blw_eq o a0 a1 b0 b1, Option.bind_some]
        cases hw : blw a b l[i] with
        | true => rw [if_pos rfl, hset false (by rw [hget, hb, hw]; rfl)]; exact ih (i + 1) k (by omega) (by omega)
        | false => rw [if_neg (by decide), hkeep (by rw [hget, hb, hw]; rfl)]; exact ih (i + 1) k (by omega) (by omega)
      | false => rw [if_neg (by decide), hkeep (by rw [hget, hb]; rfl)]; exact ih (i + 1) k (by omega) (by omega)
  have := loop l.length 0 k (by omega) (by omega)
  simpa using this
/-- How many units, times b, a spring has by a force of a through b. -/
def xOf (a b : Int) (s : Spr) : Int := max (b * s.f0 - a * s.f2) (b * lst s)
def gOf (a b : Int) (l : List Spr) : Int := (l.map (xOf a b)).sum
theorem gOf_cons (a b : Int) (s : Spr) (l : List Spr) : gOf a b (s :: l) = xOf a b s + gOf a b l := by unfold gOf; rw [List.map_cons, List.sum_cons]
/-- a through b is the force by which springs have just the load, in lowest terms. -/
def isForce (l : List Spr) (load a b : Int) : Prop :=
  0 ≤ a ∧ a ≤ 4194304 ∧ 1 ≤ b ∧ b ≤ 32 ∧ Nat.gcd a.toNat b.toNat = 1 ∧
  ((a = 0 ∧ sumU l ≤ load) ∨ (0 < a ∧ gOf a b l = b * load ∧ ∃ s ∈ l, 0 < s.f2 ∧ a * s.f2 ≤ b * (s.f0 - s.f1)))
/-- What holds of those that are left, and of the others, behind a force of p through q. -/
def left (p q : Int) : List Spr → List Bool → Prop
  | s :: l, t :: L => ((t = true → 0 < s.f2) ∧ (t = false → 0 < s.f2 → (s.f0 - s.f1) * q < p * s.f2)) ∧ left p q l L
  | [], [] => True
  | _, _ => False
theorem left_len {p q : Int} : ∀ {l : List Spr} {L : List Bool}, left p q l L → L.length = l.length
  | [], [], _ => rfl
  | [], _ :: _, h => h.elim
  | _ :: _, [], h => h.elim
  | s :: l, t :: L, h => by rw [List.length_cons, List.length_cons, left_len h.2]
theorem left_start : ∀ (l : List Spr), (∀ s ∈ l, okP s) → left 0 1 l (l.map spring_find.pos)
  | [], _ => trivial
  | s :: l, h => by
    refine ⟨⟨fun e => of_decide_eq_true e, fun e e2 => absurd e2 (of_decide_eq_false e)⟩, left_start l (fun y hy => h y (List.mem_cons_of_mem _ hy))⟩
theorem left_next {p q a b : Int} (hq : 1 ≤ q) (hb : 1 ≤ b) (hpq : p * b ≤ a * q) : ∀ {l : List Spr} {L : List Bool}, (∀ s ∈ l, okP s) → left p q l L → left a b l (remL a b l L)
  | [], [], _, _ => trivial
  | [], _ :: _, _, h => h.elim
  | _ :: _, [], _, h => h.elim
  | s :: l, t :: L, ho, h => by
    refine ⟨⟨fun e => ?_, fun e e2 => ?_⟩, left_next hq hb hpq (fun y hy => ho y (List.mem_cons_of_mem _ hy)) h.2⟩
    · rw [Bool.and_eq_true] at e
      exact h.1.1 e.1
    · have o := ho s (List.mem_cons_self ..)
      cases t with
      | true =>
        rw [Bool.true_and, Bool.not_eq_false'] at e
        exact of_decide_eq_true e
      | false =>
        have h1 := h.1.2 rfl e2
        -- (U - M) q < p E, p b ≤ a q
        have m1 : (s.f0 - s.f1) * q * b < p * s.f2 * b := Int.mul_lt_mul_of_pos_right h1 (by omega)
        have m2 : p * b * s.f2 ≤ a * q * s.f2 := Int.mul_le_mul_of_nonneg_right hpq (by omega)
        have e1 : p * s.f2 * b = p * b * s.f2 := by ac_rfl
        have e3 : (s.f0 - s.f1) * q * b = (s.f0 - s.f1) * b * q := by ac_rfl
        have e4 : a * q * s.f2 = a * s.f2 * q := by ac_rfl
        have m3 : (s.f0 - s.f1) * b * q < a * s.f2 * q := by rw [← e3, ← e4]; omega
        exact Int.lt_of_mul_lt_mul_right m3 (by omega)
theorem count_cons' (t : Bool) (L : List Bool) : (t :: L).count true = L.count true + (if t = true then 1 else 0) := by
  cases t <;> simp
/-- Each one that goes leaves more over. -/
theorem rem_gain {a b : Int} (hb : 1 ≤ b) {p q : Int} : ∀ {l : List Spr} {L : List Bool}, (∀ s ∈ l, okP s) → left p q l L →
    (remL a b l L).count true ≤ L.count true ∧ ((L.count true : Nat) : Int) - (((remL a b l L).count true : Nat) : Int) ≤ (b * ovr l (remL a b l L) - a * els l (remL a b l L)) - (b * ovr l L - a * els l L)
  | [], [], _, _ => by simp [remL, ovr, els]
  | [], _ :: _, _, h => h.elim
  | _ :: _, [], _, h => h.elim
  | s :: l, t :: L, ho, h => by
    have r := rem_gain (a := a) hb (fun y hy => ho y (List.mem_cons_of_mem _ hy)) h.2
    have o := ho s (List.mem_cons_self ..)
    simp only [remL, ovr, els]
    rw [count_cons', count_cons']
    cases t with
    | false =>
      simp only [Bool.false_and, Bool.false_eq_true, if_false, Int.mul_add, Int.mul_zero]
      omega
    | true =>
      have he := h.1.1 rfl
      have hl : lst s = s.f1 := by unfold lst; rw [if_neg (by omega)]
      cases hw : blw a b s with
      | false =>
        simp only [Bool.true_and, Bool.not_false, if_true, Int.mul_add]
        omega
      | true =>
        have hw' : (s.f0 - s.f1) * b < a * s.f2 := of_decide_eq_true hw
        have e1 : (s.f0 - s.f1) * b = b * s.f0 - b * s.f1 := by rw [Int.mul_comm, Int.mul_sub]
        simp only [Bool.true_and, Bool.not_true, Bool.false_eq_true, if_false, if_true, Int.mul_add, Int.mul_zero, hl]
        omega
/-- Where none goes, each has what it has. -/
theorem stay_sum {a b : Int} (hb : 1 ≤ b) {p q : Int} (hq : 1 ≤ q) (hpq : p * b ≤ a * q) : ∀ {l : List Spr} {L : List Bool}, (∀ s ∈ l, okP s) → left p q l L → (remL a b l L).count true = L.count true → gOf a b l = b * ovr l L - a * els l L ∧ (0 < els l L → ∃ s ∈ l, 0 < s.f2 ∧ a * s.f2 ≤ b * (s.f0 - s.f1))
  | [], [], _, _, _ => by simp [gOf, ovr, els]
  | [], _ :: _, _, h, _ => h.elim
  | _ :: _, [], _, h, _ => h.elim
  | s :: l, t :: L, ho, h, hc => by
    have hol := fun y hy => ho y (List.mem_cons_of_mem s hy)
    have o := ho s (List.mem_cons_self ..)
    have g := rem_gain (a := a) hb hol h.2
    have bb := lst_bound o
    simp only [remL] at hc
    rw [count_cons', count_cons'] at hc
    have hc2 : (remL a b l L).count true = L.count true := by
      cases t <;> cases hw : blw a b s <;> simp [hw] at hc <;> omega
    have r := stay_sum hb hq hpq hol h.2 hc2
    simp only [ovr, els]
    rw [gOf_cons]
    cases t with
    | true =>
      have he := h.1.1 rfl
      have hl : lst s = s.f1 := by unfold lst; rw [if_neg (by omega)]
      have hw : blw a b s = false := by cases hw : blw a b s with | false => rfl | true => simp [hw, hc2] at hc
      have hw' : ¬ (s.f0 - s.f1) * b < a * s.f2 := of_decide_eq_false hw
      have e1 : (s.f0 - s.f1) * b = b * (s.f0 - s.f1) := Int.mul_comm _ _
      have e2 : b * (s.f0 - s.f1) = b * s.f0 - b * s.f1 := Int.mul_sub ..
      refine ⟨?_, fun _ => ⟨s, List.mem_cons_self .., he, by omega⟩⟩
      unfold xOf
      rw [hl, if_pos rfl, if_pos rfl, Int.mul_add, Int.mul_add]
      omega
    | false =>
      refine ⟨?_, fun q => ?_⟩
      · unfold xOf
        rw [if_neg (by decide), if_neg (by decide), Int.mul_add, Int.mul_add, Int.mul_zero]
        by_cases c : s.f2 = 0
        · have hl : lst s = s.f0 := by unfold lst; rw [if_pos c]
          rw [hl, c, Int.mul_zero]
          omega
        · obtain ⟨o1, o2, o3, o4, o5⟩ := o
          have hl : lst s = s.f1 := by unfold lst; rw [if_neg c]
          have h1 := h.1.2 rfl (by omega)
          have m1 : (s.f0 - s.f1) * q * b < p * s.f2 * b := Int.mul_lt_mul_of_pos_right h1 (by omega)
          have m2 : p * b * s.f2 ≤ a * q * s.f2 := Int.mul_le_mul_of_nonneg_right hpq (by omega)
          have e1 : p * s.f2 * b = p * b * s.f2 := by ac_rfl
          have e3 : (s.f0 - s.f1) * q * b = (s.f0 - s.f1) * b * q := by ac_rfl
          have e4 : a * q * s.f2 = a * s.f2 * q := by ac_rfl
          have m3 : (s.f0 - s.f1) * b * q < a * s.f2 * q := by rw [← e3, ← e4]; omega
          have m4 : (s.f0 - s.f1) * b < a * s.f2 := Int.lt_of_mul_lt_mul_right m3 (by omega)
          have e5 : (s.f0 - s.f1) * b = b * s.f0 - b * s.f1 := by rw [Int.mul_comm, Int.mul_sub]
          rw [hl]
          omega
      · rw [if_neg (by decide), Int.zero_add] at q
        obtain ⟨y, hy, r2⟩ := r.2 q
        exact ⟨y, List.mem_cons_of_mem _ hy, r2⟩
end Go.Proofs.Ytencdmcidhojgaa.Pure
