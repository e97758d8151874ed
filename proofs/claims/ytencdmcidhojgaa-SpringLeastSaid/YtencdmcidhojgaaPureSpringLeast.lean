/- No others that are from each one's least to its U, and no more than the load together, have lesser squares of what each is pressed, through its E, together, than the units by that force. No condition. -/
import Derived.Test.YtencdmcidhojgaaQSpringLeast
import Derived.Test.YtencdmcidhojgaaLibSpringPress
import Derived.Test.YtencdmcidhojgaaLibA07
namespace Go.Proofs.Ytencdmcidhojgaa.Pure
open Go.RowKit Go.Proofs.Ytencdmcidhojgaa.P Go.Proofs.YtencdmcidhojgaaW.PrintWords Go.Proofs.YtencdmcidhojgaaW.PrintLast
set_option linter.unusedVariables false
set_option linter.unusedSimpArgs false
/-- The square of what one is pressed, through its E, times 840. -/
def wgt (s : Spr) (y : Int) : Int := if 0 < s.f2 then 840 / s.f2 * (y * y) else 0
theorem wgt_bound {s : Spr} (o : okP s) {y : Int} (h0 : 0 ≤ y) (h1 : y ≤ 131072) : 0 ≤ wgt s y ∧ wgt s y ≤ 14431090114560 := by
  obtain ⟨o1, o2, o3, o4, o5⟩ := o
  unfold wgt
  split
  · have q0 : 0 ≤ 840 / s.f2 := Int.ediv_nonneg (by omega) (by omega)
    have q1 : 840 / s.f2 ≤ 840 := Int.ediv_le_self _ (by omega)
    have m := mulb (a := y) (b := y) (A := 131072) (B := 131072) h0 h1 h0 h1
    have m2 := mulb (a := 840 / s.f2) (b := y * y) (A := 840) (B := 17179869184) q0 q1 m.1 (by omega)
    exact ⟨m2.1, by omega⟩
  · omega
theorem div840 {e : Int} (h1 : 1 ≤ e) (h2 : e ≤ 8) : 840 / e * e = 840 := by
  have : e = 1 ∨ e = 2 ∨ e = 3 ∨ e = 4 ∨ e = 5 ∨ e = 6 ∨ e = 7 ∨ e = 8 := by omega
  rcases this with rfl | rfl | rfl | rfl | rfl | rfl | rfl | rfl <;> rfl
theorem sq_div {e y : Int} (h1 : 1 ≤ e) (h2 : e ≤ 8) : 840 * y * (840 * y) / e = 840 * (840 / e * (y * y)) := by
  have d := div840 h1 h2
  generalize 840 / e = q at *
  have : 840 * y * (840 * y) = 840 * (q * (y * y)) * e := by
    have : 840 * y * (840 * y) = 840 * (y * y) * 840 := by ac_rfl
    rw [this, ← d]
    ac_rfl
  rw [this, Int.mul_ediv_cancel _ (by omega)]
/-- One spring: no other number of units does better. -/
theorem better {a b : Int} (h0 : 0 ≤ a) (hb : 1 ≤ b) {s : Spr} (o : okP s) {x : Int} (hx : lst s ≤ x) (hx2 : x ≤ s.f0) :
    1680 * a * (b * (s.f0 - x) - (b * s.f0 - xOf a b s)) ≤ wgt s (b * (s.f0 - x)) - wgt s (b * s.f0 - xOf a b s) := by
  have bb := lst_bound o
  obtain ⟨o1, o2, o3, o4, o5⟩ := o
  unfold wgt
  by_cases c : 0 < s.f2
  · rw [if_pos c, if_pos c]
    have d := div840 (e := s.f2) (by omega) o5
    generalize 840 / s.f2 = q at *
    have hl : b * (s.f0 - x) ≤ b * (s.f0 - lst s) := Int.mul_le_mul_of_nonneg_left (by omega) (by omega)
    have e0 : b * (s.f0 - lst s) = b * s.f0 - b * lst s := Int.mul_sub ..
    have aE : 0 ≤ a * s.f2 := Int.mul_nonneg h0 o4
    have q0 : 0 ≤ q := by
      refine Classical.byContradiction fun z => ?_
      have : q * s.f2 ≤ 0 * s.f2 := Int.mul_le_mul_of_nonneg_right (by omega) o4
      omega
    generalize hz : b * (s.f0 - x) = z at *
    generalize hy : b * s.f0 - xOf a b s = y at *
    -- q (z² - y²) = q (z - y)² + 2 q y (z - y)
    have e1 : q * (z * z) - q * (y * y) = q * ((z - y) * (z - y)) + 2 * (q * y * (z - y)) := by
      simp only [Int.mul_sub, Int.sub_mul]
      have : q * (z * y) = q * (y * z) := by ac_rfl
      have : q * y * z = q * (y * z) := by ac_rfl
      have : q * y * y = q * (y * y) := by ac_rfl
      omega
    have sq : 0 ≤ q * ((z - y) * (z - y)) := Int.mul_nonneg q0 (by
      rcases Int.le_total 0 (z - y) with h | h
      · exact Int.mul_nonneg h h
      · exact Int.mul_nonneg_of_nonpos_of_nonpos h h)
    have key : 840 * a * (z - y) ≤ q * y * (z - y) := by
      unfold xOf at hy
      rcases Int.le_total (b * lst s) (b * s.f0 - a * s.f2) with h | h
      · rw [Int.max_eq_left h] at hy
        have ey : y = a * s.f2 := by omega
        have : q * y = 840 * a := by rw [ey, ← d]; ac_rfl
        rw [this]; exact Int.le_refl _
      · rw [Int.max_eq_right h] at hy
        have hzy : z - y ≤ 0 := by omega
        have hq : q * y ≤ 840 * a := by
          have m : q * y ≤ q * (a * s.f2) := Int.mul_le_mul_of_nonneg_left (by omega) q0
          have : q * (a * s.f2) = 840 * a := by rw [← d]; ac_rfl
          omega
        exact Int.mul_le_mul_of_nonpos_right hq hzy
    have e2 : 1680 * a * (z - y) = 2 * (840 * a * (z - y)) := by
      rw [← Int.mul_assoc, ← Int.mul_assoc]; rfl
    rw [e1, e2]
    omega
  · have e : s.f2 = 0 := by omega
    have hl : lst s = s.f0 := by unfold lst; rw [if_pos e]
    have hx3 : x = s.f0 := by omega
    have hx4 : xOf a b s = b * s.f0 := by unfold xOf; rw [hl, e, Int.mul_zero, Int.sub_zero, Int.max_self]
    rw [if_neg c, if_neg c, hx3, hx4]
    simp
def sumZ (a b : Int) : List Spr → List Int → Int
  | s :: l, x :: xs => (b * (s.f0 - x) - (b * s.f0 - xOf a b s)) + sumZ a b l xs
  | _, _ => 0
def wgtO (b : Int) : List Spr → List Int → Int
  | s :: l, x :: xs => wgt s (b * (s.f0 - x)) + wgtO b l xs
  | _, _ => 0
def wgtA (a b : Int) (l : List Spr) : Int := (l.map fun s => wgt s (b * s.f0 - xOf a b s)).sum
def fitO : List Spr → List Int → Prop
  | s :: l, x :: xs => (lst s ≤ x ∧ x ≤ s.f0) ∧ fitO l xs
  | [], [] => True
  | _, _ => False
theorem better_all {a b : Int} (h0 : 0 ≤ a) (hb : 1 ≤ b) : ∀ {l : List Spr} {xs : List Int}, (∀ s ∈ l, okP s) → fitO l xs → 1680 * a * sumZ a b l xs ≤ wgtO b l xs - wgtA a b l ∧ sumZ a b l xs = gOf a b l - b * xs.sum
  | [], [], _, _ => by simp [sumZ, wgtO, wgtA, gOf]
  | [], _ :: _, _, h => h.elim
  | _ :: _, [], _, h => h.elim
  | s :: l, x :: xs, ho, h => by
    have r := better_all h0 hb (fun y hy => ho y (List.mem_cons_of_mem _ hy)) h.2
    have q := better h0 hb (ho s (List.mem_cons_self ..)) h.1.1 h.1.2
    have e : wgtA a b (s :: l) = wgt s (b * s.f0 - xOf a b s) + wgtA a b l := by unfold wgtA; rw [List.map_cons, List.sum_cons]
    have e2 : b * (s.f0 - x) = b * s.f0 - b * x := Int.mul_sub ..
    simp only [sumZ, wgtO]
    rw [e, gOf_cons, List.sum_cons, Int.mul_add, Int.mul_add]
    rw [e2] at q ⊢
    omega
/-- The cost, as the statement's helper reckons it. -/
def costR (den : Int) : List Spr → List Int → Int → Int
  | s :: l, n :: ns, out => if s.f0 * den - n < 0 ∨ n < lst s * den then -1 else costR den l ns (if 0 < s.f2 then out + (s.f0 * den - n) * (s.f0 * den - n) / s.f2 else out)
  | _, _, out => out
theorem cost_eq {l : List Spr} (ho : ∀ s ∈ l, okP s ∧ s.f0 ≤ 4096) (h4 : l.length ≤ 4) {ns : List Int} (hn : ns.length = l.length) (hb : ∀ n ∈ ns, 0 ≤ n ∧ n ≤ 200000000) {den : Int} (d0 : 0 ≤ den) (d1 : den ≤ 26880) {k : Nat} (hk : 20 ≤ k) :
    fuseelaw07_cost.f k l ns den = some (costR den l ns 0) := by
  unfold fuseelaw07_cost.f
  have loop : ∀ (d i k : Nat) (out : Int), i + d = l.length → d * 2 + 2 ≤ k → 0 ≤ out → out ≤ i * 14000000000000000 → fuseelaw07_cost.l0 k l ns den out (i : Int) = some (costR den (l.drop i) (ns.drop i) out) := by
    intro d
    induction d with
    | zero =>
      intro i k out hi hk o0 o1
      obtain ⟨k, rfl⟩ : ∃ x, k = x + 1 := ⟨k - 1, by omega⟩
      rw [fuseelaw07_cost.l0, if_neg (by omega), List.drop_of_length_le (show l.length ≤ i by omega)]
      rfl
    | succ d ih =>
      intro i k out hi hk o0 o1
      obtain ⟨k, rfl⟩ : ∃ x, k = x + 2 := ⟨k - 2, by omega⟩
      have hlt : i < l.length := by omega
      have hlt2 : i < ns.length := by omega
      obtain ⟨o, ou⟩ := ho _ (List.getElem_mem hlt)
      have bb := lst_bound o
      obtain ⟨p1, p2, p3, p4, p5⟩ := o
      have nb := hb _ (List.getElem_mem hlt2)
      have hr : rd ns (i : Int) = ns[i] := by unfold rd; rw [Int.toNat_natCast]; simp [List.getD_eq_getElem?_getD, List.getElem?_eq_getElem hlt2]
      have m1 := mulb (a := l[i].f0) (b := den) (A := 4096) (B := 26880) (by omega) ou d0 d1
      have m2 := mulb (a := lst l[i]) (b := den) (A := 4096) (B := 26880) (by omega) (by omega) d0 d1
      rw [List.drop_eq_getElem_cons hlt, List.drop_eq_getElem_cons hlt2, fuseelaw07_cost.l0, if_pos (by omega), if_pos (by omega), if_pos (by omega), rd_spr hlt, hr, w64 (x := l[i].f0 * den) (by omega) (by omega), w64 (x := l[i].f0 * den - ns[i]) (by omega) (by omega)]
      simp only [costR]
      by_cases c1 : l[i].f0 * den - ns[i] < 0
      · rw [if_pos c1, if_pos (.inl c1), fuseelaw07_cost.j1, if_pos rfl]
      · rw [if_neg c1, rleast_eq, Option.bind_some, w64 (x := lst l[i] * den) (by omega) (by omega)]
        by_cases c2 : ns[i] < lst l[i] * den
        · rw [decide_eq_true c2, if_pos (.inr c2), fuseelaw07_cost.j1, if_pos rfl]
        · rw [decide_eq_false c2, if_neg (fun q => q.elim c1 c2), fuseelaw07_cost.j1, if_neg (by decide), if_pos (by omega), if_pos (by omega), rd_spr hlt, w64 (x := (i : Int) + 1) (by omega) (by omega), show ((i : Int) + 1) = ((i + 1 : Nat) : Int) by omega]
          have yb : l[i].f0 * den - ns[i] ≤ 110100480 := by omega
          generalize l[i].f0 * den - ns[i] = y at *
          have m3 := mulb (a := y) (b := y) (A := 110100480) (B := 110100480) (by omega) (by omega) (by omega) (by omega)
          by_cases c3 : 0 < l[i].f2
          · have q0 : 0 ≤ y * y / l[i].f2 := Int.ediv_nonneg m3.1 p4
            have q1 : y * y / l[i].f2 ≤ y * y := Int.ediv_le_self _ m3.1
            rw [if_pos c3, if_neg (by omega), if_pos c3, w64 (x := y * y) (by omega) (by omega), Int.tdiv_eq_ediv_of_nonneg m3.1, w64 (x := y * y / l[i].f2) (by omega) (by omega), w64 (by omega) (by omega)]
            exact ih (i + 1) (k + 0) _ (by omega) (by omega) (by omega) (by omega)
          · rw [if_neg c3, if_neg c3]
            exact ih (i + 1) (k + 0) _ (by omega) (by omega) (by omega) (by omega)
  exact loop l.length 0 k 0 (by omega) (by omega) (by omega) (by omega)
theorem own_cost {a b : Int} (h0 : 0 ≤ a) (hb : 1 ≤ b) : ∀ {l : List Spr} (out : Int), (∀ s ∈ l, okP s) → costR (840 * b) l (l.map fun s => 840 * xOf a b s) out = out + 840 * wgtA a b l
  | [], out, _ => by simp [costR, wgtA]
  | s :: l, out, ho => by
    have o := ho s (List.mem_cons_self ..)
    have bb := lst_bound o
    obtain ⟨o1, o2, o3, o4, o5⟩ := o
    have an : 0 ≤ a * s.f2 := Int.mul_nonneg h0 o4
    have m : b * lst s ≤ b * s.f0 := Int.mul_le_mul_of_nonneg_left bb.2.1 (by omega)
    have e1 : s.f0 * (840 * b) = 840 * (b * s.f0) := by ac_rfl
    have e2 : lst s * (840 * b) = 840 * (b * lst s) := by ac_rfl
    have x1 : b * lst s ≤ xOf a b s := Int.le_max_right ..
    have x2 : xOf a b s ≤ b * s.f0 := by unfold xOf; exact Int.max_le.2 ⟨by omega, m⟩
    have ey : 840 * (b * s.f0) - 840 * xOf a b s = 840 * (b * s.f0 - xOf a b s) := (Int.mul_sub ..).symm
    have ew : wgtA a b (s :: l) = wgt s (b * s.f0 - xOf a b s) + wgtA a b l := by unfold wgtA; rw [List.map_cons, List.sum_cons]
    rw [List.map_cons]
    simp only [costR]
    rw [e1, e2, if_neg (by omega), own_cost h0 hb _ (fun y hy => ho y (List.mem_cons_of_mem _ hy)), ew, ey, Int.mul_add]
    unfold wgt
    by_cases c : 0 < s.f2
    · rw [if_pos c, if_pos c, sq_div (by omega) o5]; omega
    · rw [if_neg c, if_neg c]; omega
theorem rival_cost {b : Int} (hb : 1 ≤ b) : ∀ {l : List Spr} {xs : List Int} (out : Int), (∀ s ∈ l, okP s) → xs.length = l.length → costR (840 * b) l (xs.map fun x => 840 * b * x) out = -1 ∨ fitO l xs ∧ costR (840 * b) l (xs.map fun x => 840 * b * x) out = out + 840 * wgtO b l xs
  | [], [], out, _, _ => .inr ⟨trivial, by simp [costR, wgtO]⟩
  | [], _ :: _, _, _, h => by simp at h
  | _ :: _, [], _, _, h => by simp at h
  | s :: l, x :: xs, out, ho, h => by
    have o := ho s (List.mem_cons_self ..)
    obtain ⟨o1, o2, o3, o4, o5⟩ := o
    have e1 : s.f0 * (840 * b) = 840 * b * s.f0 := by ac_rfl
    have e2 : lst s * (840 * b) = 840 * b * lst s := by ac_rfl
    rw [List.map_cons]
    simp only [costR]
    rw [e1, e2]
    by_cases c : 840 * b * s.f0 - 840 * b * x < 0 ∨ 840 * b * x < 840 * b * lst s
    · exact .inl (by rw [if_pos c])
    · have c1 : x ≤ s.f0 := Int.le_of_mul_le_mul_left (a := 840 * b) (by omega) (by omega)
      have c2 : lst s ≤ x := Int.le_of_mul_le_mul_left (a := 840 * b) (by omega) (by omega)
      rw [if_neg c]
      rcases rival_cost hb (l := l) (xs := xs) (if 0 < s.f2 then out + (840 * b * s.f0 - 840 * b * x) * (840 * b * s.f0 - 840 * b * x) / s.f2 else out) (fun y hy => ho y (List.mem_cons_of_mem _ hy)) (by simpa using h) with r | ⟨r1, r2⟩
      · exact .inl r
      · refine .inr ⟨⟨⟨c2, c1⟩, r1⟩, ?_⟩
        rw [r2]
        simp only [wgtO]
        have ey : 840 * b * s.f0 - 840 * b * x = 840 * (b * (s.f0 - x)) := by rw [← Int.mul_sub, Int.mul_assoc]
        rw [ey, Int.mul_add]
        unfold wgt
        by_cases c : 0 < s.f2
        · rw [if_pos c, if_pos c, sq_div (by omega) o5]; omega
        · rw [if_neg c, if_neg c]; omega
theorem wgtA_nonneg {a b : Int} : ∀ {l : List Spr}, (∀ s ∈ l, okP s) → 0 ≤ wgtA a b l
  | [], _ => by simp [wgtA]
  | s :: l, ho => by
    have r := wgtA_nonneg (a := a) (b := b) (l := l) (fun y hy => ho y (List.mem_cons_of_mem _ hy))
    have o := ho s (List.mem_cons_self ..)
    have e : wgtA a b (s :: l) = wgt s (b * s.f0 - xOf a b s) + wgtA a b l := by unfold wgtA; rw [List.map_cons, List.sum_cons]
    have : 0 ≤ wgt s (b * s.f0 - xOf a b s) := by
      unfold wgt
      split
      · refine Int.mul_nonneg (Int.ediv_nonneg (by omega) o.2.2.2.1) ?_
        rcases Int.le_total 0 (b * s.f0 - xOf a b s) with h | h
        · exact Int.mul_nonneg h h
        · exact Int.mul_nonneg_of_nonpos_of_nonpos h h
      · omega
    omega
theorem least_fin {l : List Spr} {load a b : Int} (hi : isForce l load a b) (ho : ∀ s ∈ l, okP s ∧ s.f0 ≤ 4096) (h4 : l.length ≤ 4) {xs : List Int} (hx : xs.length = l.length) (hxs : ∀ x ∈ xs, 0 ≤ x ∧ x ≤ 4096) {i : Int} (hi2 : ¬ i < (l.length : Int)) {k : Nat} (hk : 30 ≤ k) :
    fuseelaw07_SpringLeast.l0 (k + 1) l load xs a b xs.sum (l.map fun s => 840 * xOf a b s) (xs.map fun x => 840 * b * x) i = some true := by
  have ⟨p0, p1, p2, p3, p4, p5⟩ := hi
  have hok : ∀ s ∈ l, okP s := fun s hs => (ho s hs).1
  have own_b : ∀ n ∈ (l.map fun s => 840 * xOf a b s), 0 ≤ n ∧ n ≤ 200000000 := by
    intro n hn
    obtain ⟨s, hs, rfl⟩ := List.mem_map.1 hn
    obtain ⟨o, ou⟩ := ho s hs
    have bb := lst_bound o
    have an : 0 ≤ a * s.f2 := Int.mul_nonneg p0 o.2.2.2.1
    have m := mulb (a := b) (b := s.f0) (A := 32) (B := 4096) (by omega) p3 (by omega) ou
    have m2 : b * lst s ≤ b * s.f0 := Int.mul_le_mul_of_nonneg_left bb.2.1 (by omega)
    have m3 : 0 ≤ b * lst s := Int.mul_nonneg (by omega) (by omega)
    have x1 : b * lst s ≤ xOf a b s := Int.le_max_right ..
    have x2 : xOf a b s ≤ b * s.f0 := by unfold xOf; exact Int.max_le.2 ⟨by omega, m2⟩
    omega
  have riv_b : ∀ n ∈ (xs.map fun x => 840 * b * x), 0 ≤ n ∧ n ≤ 200000000 := by
    intro n hn
    obtain ⟨x, hx, rfl⟩ := List.mem_map.1 hn
    have q := hxs x hx
    have m := mulb (a := 840 * b) (b := x) (A := 26880) (B := 4096) (by omega) (by omega) q.1 q.2
    omega
  rw [fuseelaw07_SpringLeast.l0, if_neg hi2, w64 (x := 840 * b) (by omega) (by omega), cost_eq ho h4 (by simp) own_b (by omega) (by omega) (by omega), Option.bind_some, cost_eq ho h4 (by simpa using hx) riv_b (by omega) (by omega) (by omega), Option.bind_some, own_cost p0 p2 0 hok, Int.zero_add]
  by_cases c1 : xs.sum > load
  · rw [if_pos c1]
  rw [if_neg c1]
  rcases rival_cost p2 (l := l) (xs := xs) 0 hok hx with r | ⟨r1, r2⟩
  · rw [r, if_pos (by omega)]
  · rw [r2, Int.zero_add]
    obtain ⟨q1, q2⟩ := better_all p0 p2 hok r1
    have w0 := wgtA_nonneg (a := a) (b := b) hok
    have key : 0 ≤ 1680 * a * sumZ a b l xs := by
      rcases p5 with ⟨z, _⟩ | ⟨c0, g, _⟩
      · rw [z, Int.mul_zero, Int.zero_mul]; omega
      · refine Int.mul_nonneg (by omega) ?_
        rw [q2, g]
        have : b * xs.sum ≤ b * load := Int.mul_le_mul_of_nonneg_left (by omega) (by omega)
        omega
    rw [if_neg (by omega), if_pos (by omega)]
    congr 1
    exact decide_eq_true (by omega)
theorem least_loop {l : List Spr} {load a b : Int} (hi : isForce l load a b) (ho : ∀ s ∈ l, okP s) (h4 : l.length ≤ 4) {xs : List Int} (hx : xs.length = l.length) :
    ∀ (d i k : Nat), i + d = l.length → d + 40 ≤ k → (∀ s ∈ l.take i, s.f0 ≤ 4096) → (∀ x ∈ xs.take i, 0 ≤ x ∧ x ≤ 4096) → 0 ≤ (xs.take i).sum → (xs.take i).sum ≤ i * 4096 →
    fuseelaw07_SpringLeast.l0 k l load xs a b (xs.take i).sum ((l.take i).map fun s => 840 * xOf a b s) ((xs.take i).map fun x => 840 * b * x) (i : Int) = some true := by
  have ⟨p0, p1, p2, p3, p4, p5⟩ := hi
  intro d
  induction d with
  | zero =>
    intro i k hd hk hU hX s0 s1
    obtain ⟨k, rfl⟩ : ∃ x, k = x + 1 := ⟨k - 1, by omega⟩
    rw [List.take_of_length_le (show l.length ≤ i by omega)] at hU ⊢
    rw [List.take_of_length_le (show xs.length ≤ i by omega)] at hX ⊢
    exact least_fin hi (fun s hs => ⟨ho s hs, hU s hs⟩) h4 hx hX (by omega) (by omega)
  | succ d ih =>
    intro i k hd hk hU hX s0 s1
    obtain ⟨k, rfl⟩ : ∃ x, k = x + 1 := ⟨k - 1, by omega⟩
    have hlt : i < l.length := by omega
    have hlt2 : i < xs.length := by omega
    have o := ho _ (List.getElem_mem hlt)
    have bb := lst_bound o
    have hr : rd xs (i : Int) = xs[i] := by unfold rd; rw [Int.toNat_natCast]; simp [List.getD_eq_getElem?_getD, List.getElem?_eq_getElem hlt2]
    rw [fuseelaw07_SpringLeast.l0, if_pos (by omega), if_pos (by omega), rd_spr hlt, hr]
    by_cases c1 : l[i].f0 > 4096
    · rw [if_pos c1]
    rw [if_neg c1, if_pos (by omega)]
    by_cases c2 : xs[i] < 0
    · rw [if_pos c2]
    rw [if_neg c2]
    by_cases c3 : xs[i] > 4096
    · rw [if_pos c3]
    obtain ⟨o1, o2, o3, o4, o5⟩ := o
    have m1 := mulb (a := b) (b := l[i].f0) (A := 32) (B := 4096) (by omega) p3 (by omega) (by omega)
    have m2 := mulb (a := a) (b := l[i].f2) (A := 4194304) (B := 8) p0 p1 o4 o5
    have m3 := mulb (a := b) (b := lst l[i]) (A := 32) (B := 4096) (by omega) p3 (by omega) (by omega)
    have m4 := mulb (a := 840 * b) (b := xs[i]) (A := 26880) (B := 4096) (by omega) (by omega) (by omega) (by omega)
    have hU' : ∀ s ∈ l.take (i + 1), s.f0 ≤ 4096 := by
      intro s hs
      rw [List.take_succ_eq_append_getElem hlt] at hs
      rcases List.mem_append.1 hs with h | h
      · exact hU s h
      · rw [List.mem_singleton.1 h]; omega
    have hX' : ∀ x ∈ xs.take (i + 1), 0 ≤ x ∧ x ≤ 4096 := by
      intro s hs
      rw [List.take_succ_eq_append_getElem hlt2] at hs
      rcases List.mem_append.1 hs with h | h
      · exact hX s h
      · rw [List.mem_singleton.1 h]; omega
    have es : (xs.take i).sum + xs[i] = (xs.take (i + 1)).sum := by rw [List.take_succ_eq_append_getElem hlt2, sum_append]; simp
    have eo : ((l.take i).map fun s => 840 * xOf a b s) ++ [840 * xOf a b l[i]] = (l.take (i + 1)).map fun s => 840 * xOf a b s := by rw [List.take_succ_eq_append_getElem hlt, List.map_append]; rfl
    have er : ((xs.take i).map fun x => 840 * b * x) ++ [840 * b * xs[i]] = (xs.take (i + 1)).map fun x => 840 * b * x := by rw [List.take_succ_eq_append_getElem hlt2, List.map_append]; rfl
    have next := ih (i + 1) k (by omega) (by omega) hU' hX' (by omega) (by omega)
    rw [if_neg c3, rleast_eq, Option.bind_some, w64 (x := b * l[i].f0) (by omega) (by omega), w64 (x := a * l[i].f2) (by omega) (by omega), w64 (x := b * l[i].f0 - a * l[i].f2) (by omega) (by omega), w64 (x := b * lst l[i]) (by omega) (by omega), w64 (x := 840 * b) (by omega) (by omega), w64 (x := 840 * b * xs[i]) (by omega) (by omega), w64 (x := (xs.take i).sum + xs[i]) (by omega) (by omega), w64 (x := (i : Int) + 1) (by omega) (by omega), show ((i : Int) + 1) = ((i + 1 : Nat) : Int) by omega, es]
    by_cases c4 : b * l[i].f0 - a * l[i].f2 < b * lst l[i]
    · have ex : b * lst l[i] = xOf a b l[i] := by unfold xOf; rw [Int.max_eq_right (by omega)]
      rw [if_pos c4, if_pos (by simp; omega), if_pos (by simp; omega), w64 (x := 840 * (b * lst l[i])) (by omega) (by omega), ex, eo, er]
      exact next
    · have ex : b * l[i].f0 - a * l[i].f2 = xOf a b l[i] := by unfold xOf; rw [Int.max_eq_left (by omega)]
      rw [if_neg c4, if_pos (by simp; omega), if_pos (by simp; omega), w64 (x := 840 * (b * l[i].f0 - a * l[i].f2)) (by omega) (by omega), ex, eo, er]
      exact next
theorem SpringLeast : fuseelaw07_SpringLeast.Pure := by
  intro l load xs _ hl _ _ _ _ _
  refine ⟨l.length + 3000, ?_⟩
  unfold fuseelaw07_SpringLeast.f
  rw [awake07 (by omega), Option.bind_some]
  by_cases h : roomP l load
  · obtain ⟨a, b, hf, hi⟩ := force_ok h (k := l.length + 3000) (by omega)
    have ⟨p0, p1, p2, p3, p4, p5⟩ := hi
    have h4 := h.1.2
    rw [hf, Option.bind_some, if_pos rfl, if_pos rfl]
    by_cases c : (xs.length : Int) = (l.length : Int)
    · rw [if_pos c, if_neg (show ¬ b < 1 by omega), if_neg (show ¬ b > 32 by omega), if_neg (show ¬ a < 0 by omega)]
      have := least_loop hi h.1.1 h.1.2 (xs := xs) (by omega) l.length 0 (l.length + 3000) (by omega) (by omega) (by simp) (by simp) (by simp) (by simp)
      simpa using this
    · rw [if_neg c, if_pos (show b ≥ 1 by omega), if_pos (show b ≤ 32 by omega), if_pos (show a ≥ 0 by omega)]
  · rw [force_no h (by omega), Option.bind_some, if_pos rfl]
    rfl
end Go.Proofs.Ytencdmcidhojgaa.Pure
