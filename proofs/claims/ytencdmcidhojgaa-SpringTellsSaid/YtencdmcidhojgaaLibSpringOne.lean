/- There is one force by which springs have just the load: that which the program finds. No condition but each lemma's own. -/
import Derived.Test.YtencdmcidhojgaaLibSpringForce
namespace Go.Proofs.Ytencdmcidhojgaa.Pure
open Go.RowKit Go.Proofs.Ytencdmcidhojgaa.P Go.Proofs.YtencdmcidhojgaaW.PrintWords Go.Proofs.YtencdmcidhojgaaW.PrintLast Go.Proofs.YtencdmcidhojgaaW.PrintMore
set_option linter.unusedVariables false
set_option linter.unusedSimpArgs false
/-- With a greater force a spring has no more. -/
theorem xOf_anti {a b a' b' : Int} (hb : 1 ≤ b) (hb' : 1 ≤ b') (h : a * b' ≤ a' * b) {s : Spr} (o : okP s) : b * xOf a' b' s ≤ b' * xOf a b s := by
  obtain ⟨o1, o2, o3, o4, o5⟩ := o
  have m : a * b' * s.f2 ≤ a' * b * s.f2 := Int.mul_le_mul_of_nonneg_right h o4
  have e1 : b * (b' * s.f0 - a' * s.f2) = b * b' * s.f0 - a' * b * s.f2 := by rw [Int.mul_sub]; congr 1 <;> ac_rfl
  have e2 : b' * (b * s.f0 - a * s.f2) = b * b' * s.f0 - a * b' * s.f2 := by rw [Int.mul_sub]; congr 1 <;> ac_rfl
  have e3 : b' * (b * lst s) = b * (b' * lst s) := by ac_rfl
  have q1 : b' * (b * s.f0 - a * s.f2) ≤ b' * xOf a b s := Int.mul_le_mul_of_nonneg_left (Int.le_max_left ..) (by omega)
  have q2 : b' * (b * lst s) ≤ b' * xOf a b s := Int.mul_le_mul_of_nonneg_left (Int.le_max_right ..) (by omega)
  unfold xOf at *
  rcases Int.le_total (b' * s.f0 - a' * s.f2) (b' * lst s) with c | c
  · rw [Int.max_eq_right c]; omega
  · rw [Int.max_eq_left c]; omega
theorem gOf_anti {a b a' b' : Int} (hb : 1 ≤ b) (hb' : 1 ≤ b') (h : a * b' ≤ a' * b) : ∀ {l : List Spr}, (∀ s ∈ l, okP s) → b * gOf a' b' l ≤ b' * gOf a b l
  | [], _ => by simp [gOf]
  | s :: t, ho => by
    have r := gOf_anti hb hb' h (l := t) (fun y hy => ho y (List.mem_cons_of_mem _ hy))
    have x := xOf_anti hb hb' h (ho s (List.mem_cons_self ..))
    rw [gOf_cons, gOf_cons, Int.mul_add, Int.mul_add]
    omega
/-- .. and less, where one was above its least. -/
theorem gOf_less {a b a' b' : Int} (hb : 1 ≤ b) (hb' : 1 ≤ b') (h : a * b' < a' * b) : ∀ {l : List Spr}, (∀ s ∈ l, okP s) → (∃ s ∈ l, 0 < s.f2 ∧ a' * s.f2 ≤ b' * (s.f0 - s.f1)) → b * gOf a' b' l < b' * gOf a b l
  | [], _, hs => by obtain ⟨s, h, _⟩ := hs; simp at h
  | s :: t, ho, hs => by
    have hot := fun y hy => ho y (List.mem_cons_of_mem s hy)
    have o := ho s (List.mem_cons_self ..)
    have x := xOf_anti hb hb' (Int.le_of_lt h) o
    have g := gOf_anti hb hb' (Int.le_of_lt h) hot
    rw [gOf_cons, gOf_cons, Int.mul_add, Int.mul_add]
    obtain ⟨y, hy, y1, y2⟩ := hs
    rcases List.mem_cons.1 hy with rfl | hy
    · obtain ⟨o1, o2, o3, o4, o5⟩ := o
      have hl : lst y = y.f1 := by unfold lst; rw [if_neg (by omega)]
      have m : a * b' * y.f2 < a' * b * y.f2 := Int.mul_lt_mul_of_pos_right h y1
      have e1 : b * (b' * y.f0 - a' * y.f2) = b * b' * y.f0 - a' * b * y.f2 := by rw [Int.mul_sub]; congr 1 <;> ac_rfl
      have e2 : b' * (b * y.f0 - a * y.f2) = b * b' * y.f0 - a * b' * y.f2 := by rw [Int.mul_sub]; congr 1 <;> ac_rfl
      have e3 : b' * (y.f0 - y.f1) = b' * y.f0 - b' * y.f1 := Int.mul_sub ..
      have q1 : b' * (b * y.f0 - a * y.f2) ≤ b' * xOf a b y := Int.mul_le_mul_of_nonneg_left (Int.le_max_left ..) (by omega)
      have e4 : xOf a' b' y = b' * y.f0 - a' * y.f2 := by unfold xOf; rw [hl]; exact Int.max_eq_left (by omega)
      rw [e4]
      omega
    · have := gOf_less hb hb' h hot ⟨y, hy, y1, y2⟩
      omega
theorem gOf_zero : ∀ {l : List Spr}, (∀ s ∈ l, okP s) → gOf 0 1 l = sumU l
  | [], _ => by simp [gOf, sumU]
  | s :: t, ho => by
    have b := lst_bound (ho s (List.mem_cons_self ..))
    rw [gOf_cons, sumU_cons, gOf_zero (fun y hy => ho y (List.mem_cons_of_mem _ hy))]
    unfold xOf
    rw [Int.one_mul, Int.zero_mul, Int.one_mul, Int.sub_zero, Int.max_eq_left (by omega)]
theorem isForce_le {l : List Spr} (ho : ∀ s ∈ l, okP s) {load a b : Int} (h : isForce l load a b) : gOf a b l ≤ b * load := by
  obtain ⟨h0, h1, h2, h3, h4, h5⟩ := h
  rcases h5 with ⟨rfl, hu⟩ | ⟨_, hg, _⟩
  · have e : b = 1 := by
      rw [show ((0 : Int).toNat) = 0 from rfl, Nat.gcd_zero_left] at h4
      omega
    subst e
    rw [gOf_zero ho]; omega
  · omega
theorem isForce_anti {l : List Spr} (ho : ∀ s ∈ l, okP s) {load more a b a' b' : Int} (hm : load ≤ more) (h : isForce l load a b) (h' : isForce l more a' b') : a' * b ≤ a * b' := by
  refine Int.not_lt.1 fun hlt => ?_
  have g := isForce_le ho h
  have ⟨p0, p1, p2, p3, p4, p5⟩ := h
  have ⟨q0, q1, q2, q3, q4, q5⟩ := h'
  rcases q5 with ⟨rfl, _⟩ | ⟨c0, c1, c2⟩
  · have := Int.mul_nonneg p0 (show 0 ≤ b' by omega)
    omega
  · have s := gOf_less p2 q2 hlt ho c2
    have m : b' * gOf a b l ≤ b' * (b * load) := Int.mul_le_mul_of_nonneg_left g (by omega)
    have e : b * gOf a' b' l = b * b' * more := by rw [c1]; ac_rfl
    have m2 : b * b' * load ≤ b * b' * more := Int.mul_le_mul_of_nonneg_left hm (Int.mul_nonneg (by omega) (by omega))
    have e2 : b' * (b * load) = b * b' * load := by ac_rfl
    omega
/-- Two quotients in lowest terms that are the same have the same numbers. -/
theorem lowest {a b a' b' : Int} (h0 : 0 ≤ a) (h0' : 0 ≤ a') (hb : 1 ≤ b) (hb' : 1 ≤ b') (g : Nat.gcd a.toNat b.toNat = 1) (g' : Nat.gcd a'.toNat b'.toNat = 1) (h : a * b' = a' * b) : a = a' ∧ b = b' := by
  obtain ⟨p, rfl⟩ : ∃ p : Nat, a = p := ⟨a.toNat, by omega⟩
  obtain ⟨q, rfl⟩ : ∃ p : Nat, b = p := ⟨b.toNat, by omega⟩
  obtain ⟨p', rfl⟩ : ∃ p : Nat, a' = p := ⟨a'.toNat, by omega⟩
  obtain ⟨q', rfl⟩ : ∃ p : Nat, b' = p := ⟨b'.toNat, by omega⟩
  rw [Int.toNat_natCast, Int.toNat_natCast] at g g'
  have e : p * q' = p' * q := by exact_mod_cast h
  have d1 : q ∣ q' := by
    have c : Nat.Coprime q p := by unfold Nat.Coprime; rw [Nat.gcd_comm]; exact g
    exact c.dvd_of_dvd_mul_left ⟨p', by rw [e, Nat.mul_comm]⟩
  have d2 : q' ∣ q := by
    have c : Nat.Coprime q' p' := by unfold Nat.Coprime; rw [Nat.gcd_comm]; exact g'
    exact c.dvd_of_dvd_mul_left ⟨p, by rw [← e, Nat.mul_comm]⟩
  have eq : q = q' := Nat.dvd_antisymm d1 d2
  subst eq
  have : p = p' := Nat.eq_of_mul_eq_mul_right (by omega) e
  subst this
  exact ⟨rfl, rfl⟩
theorem isForce_one {l : List Spr} (ho : ∀ s ∈ l, okP s) {load a b a' b' : Int} (h : isForce l load a b) (h' : isForce l load a' b') : a = a' ∧ b = b' := by
  have l1 := isForce_anti ho (Int.le_refl _) h h'
  have l2 := isForce_anti ho (Int.le_refl _) h' h
  obtain ⟨p0, p1, p2, p3, p4, p5⟩ := h
  obtain ⟨q0, q1, q2, q3, q4, q5⟩ := h'
  exact lowest p0 q0 p2 q2 p4 q4 (by omega)
theorem els_zero : ∀ {l : List Spr} {L : List Bool} {p q : Int}, (∀ s ∈ l, okP s) → left p q l L → els l L = 0 → L.count true = 0 ∧ ovr l L = sumL l
  | [], [], _, _, _, _, _ => by simp [ovr, sumL]
  | [], _ :: _, _, _, _, h, _ => h.elim
  | _ :: _, [], _, _, _, h, _ => h.elim
  | s :: l, t :: L, p, q, ho, h, he => by
    have hot := fun y hy => ho y (List.mem_cons_of_mem s hy)
    have b := ovr_bound L hot
    have o := (ho s (List.mem_cons_self ..)).2.2.2.1
    unfold els at he
    cases t with
    | true =>
      have := h.1.1 rfl
      rw [if_pos rfl] at he
      omega
    | false =>
      rw [if_neg (by decide), Int.zero_add] at he
      have r := els_zero hot h.2 he
      unfold ovr
      rw [if_neg (by decide), r.2, sumL_cons, count_cons', r.1]
      exact ⟨rfl, rfl⟩
theorem remL_none : ∀ (l : List Spr) (L : List Bool), (∀ s ∈ l, okP s) → L.length = l.length → remL 0 1 l L = L
  | [], [], _, _ => rfl
  | [], _ :: _, _, h => by simp at h
  | _ :: _, [], _, h => by simp at h
  | s :: l, t :: L, ho, h => by
    have o := ho s (List.mem_cons_self ..)
    have e : blw 0 1 s = false := decide_eq_false (by have := o.2.1; omega)
    simp only [remL, e, Bool.not_false, Bool.and_true]
    rw [remL_none l L (fun y hy => ho y (List.mem_cons_of_mem _ hy)) (by simpa using h)]
theorem force_pos {ov e : Int} (h1 : 0 < ov) (h2 : 0 < e) : ∃ a b c : Int, forceOf ov e = (a, b) ∧ 1 ≤ c ∧ ov = a * c ∧ e = b * c ∧ 1 ≤ a ∧ 1 ≤ b ∧ Nat.gcd a.toNat b.toNat = 1 := by
  obtain ⟨m, rfl⟩ : ∃ p : Nat, ov = p := ⟨ov.toNat, by omega⟩
  obtain ⟨n, rfl⟩ : ∃ p : Nat, e = p := ⟨e.toNat, by omega⟩
  unfold forceOf
  rw [if_neg (by omega), if_neg (by omega), Int.toNat_natCast, Int.toNat_natCast]
  have g0 : 0 < Nat.gcd m n := Nat.gcd_pos_of_pos_right _ (by omega)
  have d1 : m / Nat.gcd m n * Nat.gcd m n = m := Nat.div_mul_cancel (Nat.gcd_dvd_left m n)
  have d2 : n / Nat.gcd m n * Nat.gcd m n = n := Nat.div_mul_cancel (Nat.gcd_dvd_right m n)
  have cp := Nat.coprime_div_gcd_div_gcd g0
  have p1 : 0 < m / Nat.gcd m n := Nat.pos_of_ne_zero fun z => by rw [z, Nat.zero_mul] at d1; omega
  have p2 : 0 < n / Nat.gcd m n := Nat.pos_of_ne_zero fun z => by rw [z, Nat.zero_mul] at d2; omega
  refine ⟨((m / Nat.gcd m n : Nat) : Int), ((n / Nat.gcd m n : Nat) : Int), ((Nat.gcd m n : Nat) : Int), ?_, by omega, by exact_mod_cast d1.symm, by exact_mod_cast d2.symm, by omega, by omega, ?_⟩
  · rw [Int.natCast_ediv, Int.natCast_ediv]
  · rw [Int.toNat_natCast, Int.toNat_natCast]; exact cp
theorem find_loop {l : List Spr} (ho : ∀ s ∈ l, okP s) (h4 : l.length ≤ 4) {load : Int} (h0 : 0 ≤ load) (h1 : load ≤ 1099511627776) (hr : sumL l ≤ load) : ∀ (c k : Nat) (L : List Bool) (p q : Int), L.count true ≤ c → c + 60 ≤ k →
    0 ≤ p → 1 ≤ q → left p q l L → p * els l L ≤ (ovr l L - load) * q → 0 < ovr l L - load → 0 < els l L → ∃ a b, spring_find.l1 k L l load = some (a, b) ∧ isForce l load a b := by
  intro c
  induction c with
  | zero =>
    intro k L p q hc hk hp hq hL hpq hov he
    exfalso
    have : ∀ {l : List Spr} {L : List Bool}, L.count true = 0 → els l L = 0 := by
      intro l
      induction l with
      | nil => intro L _; cases L <;> rfl
      | cons s t ih =>
        intro L hL
        cases L with
        | nil => rfl
        | cons b L =>
          rw [count_cons'] at hL
          cases b with
          | true => simp at hL
          | false =>
            unfold els
            rw [if_neg (by decide), Int.zero_add]
            exact ih (by simpa using hL)
    have := this (l := l) (L := L) (by omega)
    omega
  | succ c ih =>
    intro k L p q hc hk hp hq hL hpq hov he
    obtain ⟨k, rfl⟩ : ∃ x, k = x + 1 := ⟨k - 1, by omega⟩
    have hlen := left_len hL
    have bb := ovr_bound L ho
    obtain ⟨a, b, d, hf, hd, e1, e2, a1, b1, hg⟩ := force_pos hov he
    have ab : a ≤ ovr l L - load := by have := Int.mul_le_mul_of_nonneg_left hd (show 0 ≤ a by omega); omega
    have bb2 : b ≤ els l L := by have := Int.mul_le_mul_of_nonneg_left hd (show 0 ≤ b by omega); omega
    have ratio : a * els l L = b * (ovr l L - load) := by rw [e1, e2]; ac_rfl
    -- p / q ≤ a / b
    have hpab : p * b ≤ a * q := by
      rw [e1, e2] at hpq
      have : p * b * d ≤ a * q * d := by
        have e3 : p * (b * d) = p * b * d := by ac_rfl
        have e4 : a * d * q = a * q * d := by ac_rfl
        omega
      exact Int.le_of_mul_le_mul_right this (by omega)
    rw [spring_find.l1, of_eq' ho hlen h4 h0 h1 (by omega), hf, Option.bind_some, rem_eq ho hlen h4 (by omega) (by omega) b1 (by omega) (by omega), Option.bind_some]
    have gain := rem_gain (a := a) b1 ho hL
    by_cases hcnt : (remL a b l L).count true = L.count true
    · rw [if_pos hcnt]
      obtain ⟨g, w⟩ := stay_sum b1 hq hpab ho hL hcnt
      refine ⟨a, b, rfl, by omega, by omega, b1, by omega, hg, .inr ⟨by omega, ?_, w he⟩⟩
      rw [g, ratio, Int.mul_sub]
      omega
    · rw [if_neg hcnt]
      have hL' := left_next hq b1 hpab ho hL
      -- what goes leaves more over
      have more : 0 < b * (ovr l (remL a b l L) - load) - a * els l (remL a b l L) := by
        rw [Int.mul_sub]
        rw [Int.mul_sub] at ratio
        omega
      have bb' := ovr_bound (remL a b l L) ho
      have he' : 0 < els l (remL a b l L) := by
        refine Classical.byContradiction fun z => ?_
        have z0 : els l (remL a b l L) = 0 := by omega
        have z1 := (els_zero ho hL' z0).2
        rw [z0, z1, Int.mul_zero] at more
        have : b * (sumL l - load) ≤ b * 0 := Int.mul_le_mul_of_nonneg_left (by omega) (by omega)
        omega
      have hov' : 0 < ovr l (remL a b l L) - load := by
        refine Classical.byContradiction fun z => ?_
        have m1 : b * (ovr l (remL a b l L) - load) ≤ b * 0 := Int.mul_le_mul_of_nonneg_left (by omega) (by omega)
        have m2 : 0 ≤ a * els l (remL a b l L) := Int.mul_nonneg (by omega) (by omega)
        omega
      have hc' : ((ovr l (remL a b l L)) - load) * b = b * (ovr l (remL a b l L) - load) := Int.mul_comm _ _
      exact ih k (remL a b l L) a b (by omega) (by omega) (by omega) b1 hL' (by omega) hov' he'
theorem find_eq {l : List Spr} {load : Int} (h : roomP l load) {k : Nat} (hk : 70 ≤ k) : ∃ a b, spring_find.f k l load = some (a, b) ∧ isForce l load a b := by
  obtain ⟨⟨ho, h4⟩, h0, h1, hr⟩ := h
  unfold spring_find.f
  have hL := left_start l ho
  have hlen := left_len hL
  have hcl : (l.map spring_find.pos).count true ≤ l.length := by have := List.count_le_length (a := true) (l := l.map spring_find.pos); simpa using this
  have bb := ovr_bound (l.map spring_find.pos) ho
  have easy : (ovr l (l.map spring_find.pos) - load ≤ 0 ∨ els l (l.map spring_find.pos) = 0) → ovr l (l.map spring_find.pos) ≤ load → ∃ a b, spring_find.l1 k (l.map spring_find.pos) l load = some (a, b) ∧ isForce l load a b := by
    intro hz hle
    obtain ⟨k, rfl⟩ : ∃ x, k = x + 1 := ⟨k - 1, by omega⟩
    have hf : forceOf (ovr l (l.map spring_find.pos) - load) (els l (l.map spring_find.pos)) = (0, 1) := by
      unfold forceOf
      by_cases c : ovr l (l.map spring_find.pos) - load ≤ 0
      · rw [if_pos c]
      · omega
    refine ⟨0, 1, ?_, by omega, by omega, by omega, by omega, by decide, .inl ⟨rfl, ?_⟩⟩
    · rw [spring_find.l1, of_eq' ho hlen h4 h0 h1 (by omega), hf, Option.bind_some, rem_eq ho hlen h4 (by omega) (by omega) (by omega) (by omega) (by omega), Option.bind_some, remL_none l _ ho hlen, if_pos rfl]
    · have : ∀ {l : List Spr}, (∀ s ∈ l, okP s) → sumU l = ovr l (l.map spring_find.pos) := by
        intro l
        induction l with
        | nil => intro _; rfl
        | cons s t ih =>
          intro ho
          have o := (ho s (List.mem_cons_self ..)).2.2.2.1
          rw [List.map_cons]
          unfold ovr
          rw [sumU_cons, ih (fun y hy => ho y (List.mem_cons_of_mem _ hy))]
          by_cases c : 0 < s.f2
          · rw [if_pos (show spring_find.pos s = true from decide_eq_true c)]
          · rw [if_neg (show ¬ spring_find.pos s = true from fun z => c (of_decide_eq_true z))]
            have : lst s = s.f0 := by unfold lst; rw [if_pos (by omega)]
            rw [this]
      rw [this ho]; exact hle
  by_cases c1 : ovr l (l.map spring_find.pos) - load ≤ 0
  · exact easy (.inl c1) (by omega)
  · by_cases c2 : els l (l.map spring_find.pos) = 0
    · have := (els_zero ho hL c2).2
      omega
    · exact find_loop ho h4 h0 h1 hr 4 k (l.map spring_find.pos) 0 1 (by omega) (by omega) (by omega) (by omega) hL (by omega) (by omega) (by omega)
/-- The force. -/
theorem force_ok {l : List Spr} {load : Int} (h : roomP l load) {k : Nat} (hk : 70 ≤ k) : ∃ a b, spring_Force.f k l load = some (a, b, true) ∧ isForce l load a b := by
  obtain ⟨a, b, hf, hi⟩ := find_eq h hk
  refine ⟨a, b, ?_, hi⟩
  unfold spring_Force.f
  have h4 := h.1.2
  rw [roomP_eq l load (by omega), Option.bind_some, if_pos (decide_eq_true h), hf, Option.bind_some]
theorem force_no {l : List Spr} {load : Int} (h : ¬ roomP l load) {k : Nat} (hk : l.length + 2 ≤ k) : spring_Force.f k l load = some (0, 0, false) := by
  unfold spring_Force.f
  rw [roomP_eq l load hk, Option.bind_some, if_neg (fun q => h (of_decide_eq_true q))]
end Go.Proofs.Ytencdmcidhojgaa.Pure
