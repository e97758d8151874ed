/- The document's force, and what it presses, are the program's. No condition but each lemma's own. -/
import Derived.Test.YtencdmcidhojgaaLibSpringRef2
namespace Go.Proofs.Ytencdmcidhojgaa.Pure
open Go.RowKit Go.Proofs.Ytencdmcidhojgaa.P Go.Proofs.YtencdmcidhojgaaW.PrintWords Go.Proofs.YtencdmcidhojgaaW.PrintLast Go.Proofs.YtencdmcidhojgaaW.PrintMore
set_option linter.unusedVariables false
set_option linter.unusedSimpArgs false
theorem set_even (m : Nat) (s : Spr) (t : List Spr) : sA (2 * m) (s :: t) = lst s + sA m t ∧ sE (2 * m) (s :: t) = sE m t := by
  simp only [sA, sE]
  rw [if_neg (by omega), if_neg (by omega), show 2 * m / 2 = m by omega, Int.zero_add]
  exact ⟨rfl, rfl⟩
theorem set_odd (m : Nat) (s : Spr) (t : List Spr) : sA (2 * m + 1) (s :: t) = s.f0 + sA m t ∧ sE (2 * m + 1) (s :: t) = s.f2 + sE m t := by
  simp only [sA, sE]
  rw [if_pos (by omega), if_pos (by omega), show (2 * m + 1) / 2 = m by omega]
  exact ⟨rfl, rfl⟩
/-- Those that are not at their least by the force are such a set. -/
theorem true_set {a b : Int} (a0 : 0 ≤ a) (hb : 1 ≤ b) : ∀ {l : List Spr}, (∀ s ∈ l, okP s) → ∃ m, m < 2 ^ l.length ∧ gOf a b l = b * sA m l - a * sE m l ∧ ((∃ s ∈ l, 0 < s.f2 ∧ a * s.f2 ≤ b * (s.f0 - s.f1)) → 1 ≤ sE m l)
  | [], _ => ⟨0, by simp, by simp [gOf, sA, sE], fun h => by obtain ⟨s, hs, _⟩ := h; simp at hs⟩
  | s :: t, ho => by
    have o := ho s (List.mem_cons_self ..)
    have hot := fun y hy => ho y (List.mem_cons_of_mem s hy)
    obtain ⟨m, h1, h2, h3⟩ := true_set a0 hb (l := t) hot
    have sb := set_bound (l := t) m hot
    have ⟨o1, o2, o3, o4, o5⟩ := o
    have pw : 2 ^ (s :: t).length = 2 * 2 ^ t.length := by rw [List.length_cons, Nat.pow_succ]; omega
    by_cases c : 0 < s.f2 ∧ a * s.f2 ≤ b * (s.f0 - s.f1)
    · have e := set_odd m s t
      have hl : lst s = s.f1 := by unfold lst; rw [if_neg (by omega)]
      have e3 : b * (s.f0 - s.f1) = b * s.f0 - b * s.f1 := Int.mul_sub ..
      have ex : xOf a b s = b * s.f0 - a * s.f2 := by unfold xOf; rw [hl]; exact Int.max_eq_left (by omega)
      refine ⟨2 * m + 1, by omega, ?_, fun _ => by omega⟩
      rw [gOf_cons, ex, h2, e.1, e.2, Int.mul_add, Int.mul_add]
      omega
    · have e := set_even m s t
      have ex : xOf a b s = b * lst s := by
        unfold xOf
        refine Int.max_eq_right ?_
        by_cases c0 : s.f2 = 0
        · unfold lst
          rw [if_pos c0, c0]
          omega
        · have c2 : ¬ a * s.f2 ≤ b * (s.f0 - s.f1) := fun q => c ⟨by omega, q⟩
          have e3 : b * (s.f0 - s.f1) = b * s.f0 - b * s.f1 := Int.mul_sub ..
          unfold lst
          rw [if_neg c0]
          omega
      refine ⟨2 * m, by omega, ?_, fun h => ?_⟩
      · rw [gOf_cons, ex, h2, e.1, e.2, Int.mul_add]
        omega
      · rw [e.2]
        refine h3 ?_
        obtain ⟨y, hy, y1, y2⟩ := h
        rcases List.mem_cons.1 hy with rfl | hy
        · exact absurd ⟨y1, y2⟩ c
        · exact ⟨y, hy, y1, y2⟩
theorem gcd_one {A B : Int} (h0 : 0 ≤ A) (h1 : 1 ≤ B) (h2 : B ≤ 32) (h : ∀ m, 2 ≤ m → m ≤ 32 → ¬ (m ∣ A ∧ m ∣ B)) : Nat.gcd A.toNat B.toNat = 1 := by
  obtain ⟨p, rfl⟩ : ∃ p : Nat, A = p := ⟨A.toNat, by omega⟩
  obtain ⟨q, rfl⟩ : ∃ p : Nat, B = p := ⟨B.toNat, by omega⟩
  rw [Int.toNat_natCast, Int.toNat_natCast]
  have d1 := Nat.gcd_dvd_left p q
  have d2 := Nat.gcd_dvd_right p q
  have g1 : 0 < Nat.gcd p q := Nat.gcd_pos_of_pos_right _ (by omega)
  have g2 : Nat.gcd p q ≤ q := Nat.le_of_dvd (by omega) d2
  by_cases c : Nat.gcd p q = 1
  · exact c
  · exact absurd ⟨Int.natCast_dvd_natCast.2 d1, Int.natCast_dvd_natCast.2 d2⟩ (h ((Nat.gcd p q : Nat) : Int) (by omega) (by omega))
theorem rforce_eq (l : List Spr) (load : Int) (hl : l.length ≤ 1000) {k : Nat} (hk : l.length + 1500 ≤ k) : fuseeref07_Force.f k l load = spring_Force.f k l load := by
  unfold fuseeref07_Force.f
  rw [rroomP_eq l load hl (by omega), Option.bind_some]
  by_cases h : roomP l load
  · obtain ⟨a, b, hf, hi⟩ := force_ok h (k := k) (by omega)
    have ho := h.1.1
    have h4 := h.1.2
    have h0 := h.2.1
    have h1 := h.2.2.1
    have gz := gOf_zero ho
    rw [decide_eq_true h, if_pos rfl, hf, total_eq ho h4 (by omega) (by omega) (by omega) (by omega) (by omega), Option.bind_some, gz]
    by_cases hu : sumU l ≤ load
    · obtain ⟨rfl, rfl⟩ := isForce_full ho hi hu
      rw [if_pos hu]
    · rw [if_neg hu]
      obtain ⟨a0, a1, b0, b1, g, hh⟩ := hi
      rcases hh with ⟨_, q⟩ | ⟨ap, gl, un⟩
      · exact absurd q hu
      · obtain ⟨X, Y, e, inv⟩ := all_sets ho h4 h0 h1 15 1 (k - 1 - 15 * (l.length + 3)) 0 0 (by omega) (by omega) (by omega) (Or.inl ⟨rfl, rfl, fun m _ _ => by omega⟩)
        rw [show k - 1 - 15 * (l.length + 3) + 1 + 15 * (l.length + 3) = k by omega] at e
        rw [show (1 : Int) = ((1 : Nat) : Int) from rfl, e]
        obtain ⟨m, m1, m2, m3⟩ := true_set a0 b0 ho
        have sb := set_bound (l := l) m ho
        have se := m3 un
        have m16 : m < 16 := Nat.lt_of_lt_of_le m1 (Nat.pow_le_pow_right (by omega) h4)
        have mz : 1 ≤ m := by
          rcases Nat.eq_zero_or_pos m with z | z
          · rw [z, sE_zero] at se; omega
          · exact z
        have eqn : b * (sA m l - load) = a * sE m l := by rw [Int.mul_sub]; omega
        have ase : 1 * 1 ≤ a * sE m l := Int.mul_le_mul (by omega) se (by omega) (by omega)
        have apos : 0 < sA m l - load := Int.lt_of_mul_lt_mul_left (show b * 0 < b * (sA m l - load) by omega) (by omega)
        have eqn2 : (sA m l - load) * b = a * sE m l := by rw [Int.mul_comm]; exact eqn
        have cm : cand l load m := by
          refine ⟨se, by omega, ?_⟩
          have ga := gOf_anti (a := a) (b := b) (a' := sA m l - load) (b' := sE m l) b0 se (by omega) ho
          rw [gl] at ga
          have ga2 : b * gOf (sA m l - load) (sE m l) l ≤ b * (sE m l * load) := by
            have : sE m l * (b * load) = b * (sE m l * load) := Int.mul_left_comm ..
            omega
          exact Int.le_of_mul_le_mul_left ga2 (by omega)
        rcases inv with ⟨_, _, no⟩ | ⟨y1, y2, x1, x2, gx, all⟩
        · exact absurd cm (no m mz m16)
        · have r := all m mz m16 cm
          have le1 : X * b ≤ a * Y := by
            have r1 : X * sE m l * b ≤ (sA m l - load) * Y * b := Int.mul_le_mul_of_nonneg_right r (by omega)
            have r2 : (sA m l - load) * Y * b = a * sE m l * Y := by rw [← eqn2]; ac_rfl
            have r3 : X * b * sE m l ≤ a * Y * sE m l := by
              have w1 : X * b * sE m l = X * sE m l * b := by ac_rfl
              have w2 : a * Y * sE m l = a * sE m l * Y := by ac_rfl
              omega
            exact Int.le_of_mul_le_mul_right r3 (by omega)
          have le2 : a * Y ≤ X * b := by
            refine Int.not_lt.1 fun hlt => ?_
            have t1 := gOf_less (a := X) (b := Y) (a' := a) (b' := b) y1 b0 hlt ho un
            rw [gl] at t1
            have t2 : b * gOf X Y l ≤ b * (Y * load) := Int.mul_le_mul_of_nonneg_left gx (by omega)
            have t3 : Y * (b * load) = b * (Y * load) := Int.mul_left_comm ..
            omega
          obtain ⟨j, ej⟩ : ∃ j, k - 1 - 15 * (l.length + 3) = j + 1 := ⟨k - 1 - 15 * (l.length + 3) - 1, by omega⟩
          rw [ej, fuseeref07_Force.l2, if_pos (by omega)]
          obtain ⟨A', B', c, e1, e2, e3, e4, e5, e6, e7, e8⟩ := lower j X Y 2 (by omega) (by omega) x1 x2 y1 y2 (by omega) (fun m h1 h2 => by omega)
          have cr : A' * b = a * B' := by
            have q : A' * b * c = a * B' * c := by
              have w1 : X * b = A' * b * c := by rw [e2]; ac_rfl
              have w2 : a * Y = a * B' * c := by rw [e3]; ac_rfl
              omega
            exact Int.eq_of_mul_eq_mul_right (by omega) q
          obtain ⟨rfl, rfl⟩ := lowest e5 a0 e6 b0 (gcd_one e5 e6 e7 e8) g cr
          exact e1
  · rw [decide_eq_false h, if_neg (by decide), force_no h (by omega)]
theorem rpress_eq (l : List Spr) (load : Int) (hl : l.length ≤ 1000) {k : Nat} (hk : l.length + 1500 ≤ k) : fuseeref07_Press.f k l load = spring_Press.f k l load := by
  unfold fuseeref07_Press.f
  rw [rforce_eq l load hl hk]
  by_cases h : roomP l load
  · obtain ⟨a, b, hi, hf, hp⟩ := press_ok h (k := k) (by omega)
    have ho := h.1.1
    have h4 := h.1.2
    have ⟨a0, a1, b0, b1, _⟩ := hi
    rw [hf, hp, Option.bind_some, if_pos rfl]
    have loop : ∀ (d i k : Nat), i + d = l.length → d < k → fuseeref07_Press.l0 k l a b ((l.take i).map (prs a b)) (i : Int) = some (l.map (prs a b), true) := by
      intro d
      induction d with
      | zero =>
        intro i k hi' hk
        obtain ⟨k, rfl⟩ : ∃ y, k = y + 1 := ⟨k - 1, by omega⟩
        rw [fuseeref07_Press.l0, if_neg (by omega), List.take_of_length_le (by omega)]
      | succ d ih =>
        intro i k hi' hk
        obtain ⟨k, rfl⟩ : ∃ y, k = y + 1 := ⟨k - 1, by omega⟩
        have hlt : i < l.length := by omega
        have o := ho _ (List.getElem_mem hlt)
        have ⟨q0, q1, q2, q3, q4, q5, q6, q7⟩ := xOf_bound a0 a1 (by omega) b1 o
        have p := prs_spec a0 b0 o
        have pl := lst_bound o
        have ou := o.2.2.1
        have next := ih (i + 1) k (by omega) (by omega)
        have step : (l.take i).map (prs a b) ++ [prs a b l[i]] = (l.take (i + 1)).map (prs a b) := by rw [List.take_succ_eq_append_getElem hlt, List.map_append]; rfl
        have quo : Int.tdiv (xOf a b l[i]) b = prs a b l[i] := by
          rw [Int.tdiv_eq_ediv_of_nonneg q0]
          have g1 : prs a b l[i] ≤ xOf a b l[i] / b := (Int.le_ediv_iff_mul_le (by omega)).2 (by rw [Int.mul_comm]; exact p.1)
          have g2 : xOf a b l[i] / b < prs a b l[i] + 1 := (Int.ediv_lt_iff_lt_mul (by omega)).2 (by rw [Int.add_mul, Int.mul_comm (prs a b l[i]) b]; omega)
          omega
        rw [fuseeref07_Press.l0, if_pos (by omega), if_pos (by omega), rd_spr hlt, rleast_eq, Option.bind_some, w64 (x := b * l[i].f0) (by omega) (by omega), w64 (x := a * l[i].f2) (by omega) (by omega), w64 (x := b * l[i].f0 - a * l[i].f2) (by omega) (by omega), w64 (x := b * lst l[i]) (by omega) (by omega), w64 (x := (i : Int) + 1) (by omega) (by omega), show ((i : Int) + 1) = ((i + 1 : Nat) : Int) by omega]
        by_cases c : b * l[i].f0 - a * l[i].f2 < b * lst l[i]
        · have ex : b * lst l[i] = xOf a b l[i] := by unfold xOf; omega
          rw [if_pos c, if_neg (by omega), if_pos (by simp; omega), ex, quo, w64 (by omega) (by omega), step]
          exact next
        · have ex : b * l[i].f0 - a * l[i].f2 = xOf a b l[i] := by unfold xOf; omega
          rw [if_neg c, if_neg (by omega), if_pos (by simp; omega), ex, quo, w64 (by omega) (by omega), step]
          exact next
    exact loop l.length 0 k (by omega) (by omega)
  · rw [press_no h (by omega), force_no h (by omega)]
    rfl
end Go.Proofs.Ytencdmcidhojgaa.Pure
