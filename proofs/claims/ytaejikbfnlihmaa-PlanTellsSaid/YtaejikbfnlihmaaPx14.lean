-- Written by a program of this session (hprint.py), out of the translation; functions that the print does not take are given by hand.
import Derived.Test.YtaejikbfnlihmaaPx0
import Derived.Test.YtaejikbfnlihmaaPx6
import Derived.Test.YtaejikbfnlihmaaPx13
namespace Go.Proofs.Ytaejikbfnlihmaa.P
open Go.RowKit Go.Proofs.YtaejikbfnlihmaaM Go.Proofs.YtaejikbfnlihmaaW.PrintWords Go.Proofs.YtaejikbfnlihmaaW.PrintLast Go.Proofs.YtaejikbfnlihmaaW.PrintMore
attribute [local go_sem] max2_int min2_int max_two min_two max_three min_three max_four min_four   -- for this text's walks alone
set_option linter.unusedVariables false
set_option linter.unusedSimpArgs false

/-! ### slices_Compare_uint64_uint64: function 104 -/
def slices_Compare_uint64_uint64.l0 : Nat → List Int → List Int → List Int → Int → Int → Option (Int)
  | 0, _, _, _, _, _ => none
  | k + 1, x0, x1, x9, x10, x11 => if x11 < x10 then (if 0 ≤ x11 then (if x11 < (x9.length : Int) then (if x11 ≥ (x1.length : Int) then (some 1) else (if x11 < (x1.length : Int) then ((cmp_Compare_uint64.f (rd x9 x11) (rd x1 x11)).bind fun t196 => (if t196 = 0 then (slices_Compare_uint64_uint64.l0 k x0 x1 x9 x10 (wrap64 (x11 + 1))) else (some t196))) else (none))) else (none)) else (none)) else (if (x0.length : Int) < (x1.length : Int) then (some (-1)) else (some 0))
def slices_Compare_uint64_uint64.f (k : Nat) (l0 : List Int) (l1 : List Int) : Option (Int) := slices_Compare_uint64_uint64.l0 k l0 l1 l0 (l0.length : Int) 0
theorem slices_Compare_uint64_uint64.mono_l : ∀ k, (∀ y0 y1 y2 y3 y4, LeO (slices_Compare_uint64_uint64.l0 k y0 y1 y2 y3 y4) (slices_Compare_uint64_uint64.l0 (k + 1) y0 y1 y2 y3 y4))
  | 0 => fun _ _ _ _ _ r h => by simp [slices_Compare_uint64_uint64.l0] at h
  | k + 1 => by
    have ih0 := slices_Compare_uint64_uint64.mono_l k
    · intro y0 y1 y2 y3 y4
      unfold slices_Compare_uint64_uint64.l0
      repeat' first
      | (with_reducible exact ih0 _ _ _ _ _)
      | (with_reducible exact LeO.refl _)
      | (with_reducible exact LeO.none _)
      | (with_reducible refine LeO.ite ?_ ?_)
      | (with_reducible refine LeO.bind ?_ (fun _ => ?_))
      | exact ih0 _ _ _ _ _
      | exact LeO.none _
      | refine LeO.ite ?_ ?_
      | refine LeO.bind ?_ (fun _ => ?_)
theorem slices_Compare_uint64_uint64.mono : ∀ a0 a1 k, LeO (slices_Compare_uint64_uint64.f k a0 a1) (slices_Compare_uint64_uint64.f (k + 1) a0 a1) := by
  intro a0 a1 k
  have ih0 := slices_Compare_uint64_uint64.mono_l k
  unfold slices_Compare_uint64_uint64.f
  repeat' first
      | (with_reducible exact ih0 _ _ _ _ _)
      | (with_reducible exact LeO.refl _)
      | (with_reducible exact LeO.none _)
      | (with_reducible refine LeO.ite ?_ ?_)
      | (with_reducible refine LeO.bind ?_ (fun _ => ?_))
      | exact ih0 _ _ _ _ _
      | exact LeO.none _
      | refine LeO.ite ?_ ?_
      | refine LeO.bind ?_ (fun _ => ?_)
set_option maxHeartbeats 8000000 in
set_option maxRecDepth 100000 in
theorem slices_Compare_uint64_uint64.calls (k : Nat) (A0 : Option Addr) (c0 : Nat) (l0 : List Int) (A1 : Option Addr) (c1 : Nat) (l1 : List Int) (r : Int) (w : World) (hr0 : Kd.C (Kd.int .u64) w A0 l0.length l0) (hc0 : l0.length ≤ c0) (hr1 : Kd.C (Kd.int .u64) w A1 l1.length l1) (hc1 : l1.length ≤ c1) (h : slices_Compare_uint64_uint64.f k l0 l1 = some r) :
    Calls Try.prog 104 #[.slice A0 l0.length c0, .slice A1 l1.length c1] w fun e w' => e = .returned (.int .i64 r) ∧ Drawn0 w w' := by
  have HR0 := Aside0.mk hr0
  have HC0 := Aside0.mk hc0
  clear hr0 hc0
  have HR1 := Aside0.mk hr1
  have HC1 := Aside0.mk hc1
  clear hr1 hc1
  have H : (slices_Compare_uint64_uint64.l0 k l0 l1 l0 (l0.length : Int) 0) = some r := h
  clear h
  have H' := Aside0.mk H
  clear H
  go_enter Try.func104, Try.ntmps104
  go_wp2
  go_loopg [11] k (fun kq v11 w' => ∃ (x11_1 : Int), v11 = .int .i64 x11_1 ∧ Aside0 (slices_Compare_uint64_uint64.l0 kq l0 l1 l0 (l0.length : Int) x11_1 = some r) ∧ Aside0 (kq ≤ k) ∧ Drawn0 w w')
  case atStart => exact ⟨(0), (by first | rfl | (simp; done) | (simp [*]; done)), H', ⟨Nat.le_refl _⟩, by repeat (first | exact Drawn0.refl _ | apply Drawn0.step)⟩
  case round =>
    clear H'
    try clear c1
    try clear p2
    obtain ⟨x11_1, rfl, HA, HK1, ⟨m1, rfl⟩⟩ := hrel
    cases gk with
    | zero => exact absurd HA.out (by simp [slices_Compare_uint64_uint64.l0])
    | succ k1 =>
      have H := HA.out
      clear HA
      simp only [slices_Compare_uint64_uint64.l0] at H
      by_cases c3 : x11_1 < (l0.length : Int)
      · rw [if_pos c3] at H
        have c3b0 : decide (x11_1 < (l0.length : Int)) = true := decide_eq_true c3
        clear c3
        by_cases c4 : 0 ≤ x11_1
        · rw [if_pos c4] at H
          have c4b0 : decide (0 ≤ x11_1) = true := decide_eq_true c4
          clear c4
          by_cases c5 : x11_1 < (l0.length : Int)
          · rw [if_pos c5] at H
            have c5b0 : decide (x11_1 < (l0.length : Int)) = true := decide_eq_true c5
            clear c5
            by_cases c6 : x11_1 ≥ (l1.length : Int)
            · rw [if_pos c6] at H
              have c6b0 : decide ((l1.length : Int) ≤ x11_1) = true := decide_eq_true c6
              clear c6
              obtain rfl := Option.some.inj H
              have p194 : 0 ≤ (x11_1 : Int) := of_decide_eq_true (by first | (with_reducible assumption) | assumption)
              have q194 : x11_1 < (l0.length : Int) := of_decide_eq_true (by first | (with_reducible assumption) | assumption)
              obtain ⟨ad194, e194, hx194_0⟩ := Kd.at_int HR0.out x11_1 p194 q194
              cases e194
              replace p194 := eq_true p194
              replace q194 := eq_true q194
              go_wp2
              go_ret
              exact ⟨by first | rfl | (simp; done) | (simp [*]; done) | (exfalso; contradiction), by repeat (first | exact Drawn0.refl _ | apply Drawn0.step)⟩
            · rw [if_neg c6] at H
              have c6b0 : decide ((l1.length : Int) ≤ x11_1) = false := decide_eq_false c6
              clear c6
              by_cases c7 : x11_1 < (l1.length : Int)
              · rw [if_pos c7] at H
                have c7b0 : decide (x11_1 < (l1.length : Int)) = true := decide_eq_true c7
                clear c7
                replace H := Option.bind_eq_some_iff.mp H
                obtain ⟨t196, A80, H⟩ := H
                try dsimp only at H
                have A8 := Aside0.mk A80
                clear A80
                by_cases c9 : t196 = 0
                · rw [if_pos c9] at H
                  have c9b0 : (t196 == 0) = true := beq_iff_eq.mpr c9
                  have c9b1 : (t196 != 0) = false := bne_eq_false_iff_eq.mpr c9
                  clear c9
                  have H' := Aside0.mk H
                  clear H
                  have p194 : 0 ≤ (x11_1 : Int) := of_decide_eq_true (by first | (with_reducible assumption) | assumption)
                  have q194 : x11_1 < (l0.length : Int) := of_decide_eq_true (by first | (with_reducible assumption) | assumption)
                  obtain ⟨ad194, e194, hx194_0⟩ := Kd.at_int HR0.out x11_1 p194 q194
                  cases e194
                  replace p194 := eq_true p194
                  replace q194 := eq_true q194
                  have p195 : 0 ≤ (x11_1 : Int) := of_decide_eq_true (by first | (with_reducible assumption) | assumption)
                  have q195 : x11_1 < (l1.length : Int) := of_decide_eq_true (by first | (with_reducible assumption) | assumption)
                  obtain ⟨ad195, e195, hx195_0⟩ := Kd.at_int HR1.out x11_1 p195 q195
                  cases e195
                  replace p195 := eq_true p195
                  replace q195 := eq_true q195
                  go_wp2_with (first | ((with_reducible refine gate_callee (f := 107) rfl ?_); refine goesL_ (some 26) rfl rfl Try.func107 (by kernel_rfl) rfl #[.int .u64 (rd l0 x11_1), .int .u64 (rd l1 x11_1)] rfl (by (try simp only [List.map_toArray, List.map_cons, List.map_nil]); first | done | rfl | (simp only [List.length_drop, List.length_take]; rfl)) ?_; (with_reducible refine (cmp_Compare_uint64.calls (rd l0 x11_1) (rd l1 x11_1) t196 _ A8.out).mono ?_); rintro e w' ⟨rfl, ⟨nd, rfl⟩⟩; refine ⟨_, rfl, ?_⟩))
                  go_roundg k1
                  case measure => have := HK1.out; omega
                  case rel => exact ⟨(wrap64 (x11_1 + 1)), (by first | rfl | (simp; done) | (simp [*]; done)), H', ⟨by have := HK1.out; omega⟩, by repeat (first | exact Drawn0.refl _ | apply Drawn0.step)⟩
                · rw [if_neg c9] at H
                  have c9b0 : (t196 == 0) = false := beq_eq_false_iff_ne.mpr c9
                  have c9b1 : (t196 != 0) = true := bne_iff_ne.mpr c9
                  obtain rfl := Option.some.inj H
                  have p194 : 0 ≤ (x11_1 : Int) := of_decide_eq_true (by first | (with_reducible assumption) | assumption)
                  have q194 : x11_1 < (l0.length : Int) := of_decide_eq_true (by first | (with_reducible assumption) | assumption)
                  obtain ⟨ad194, e194, hx194_0⟩ := Kd.at_int HR0.out x11_1 p194 q194
                  cases e194
                  replace p194 := eq_true p194
                  replace q194 := eq_true q194
                  have p195 : 0 ≤ (x11_1 : Int) := of_decide_eq_true (by first | (with_reducible assumption) | assumption)
                  have q195 : x11_1 < (l1.length : Int) := of_decide_eq_true (by first | (with_reducible assumption) | assumption)
                  obtain ⟨ad195, e195, hx195_0⟩ := Kd.at_int HR1.out x11_1 p195 q195
                  cases e195
                  replace p195 := eq_true p195
                  replace q195 := eq_true q195
                  go_wp2_with (first | ((with_reducible refine gate_callee (f := 107) rfl ?_); refine goesL_ (some 26) rfl rfl Try.func107 (by kernel_rfl) rfl #[.int .u64 (rd l0 x11_1), .int .u64 (rd l1 x11_1)] rfl (by (try simp only [List.map_toArray, List.map_cons, List.map_nil]); first | done | rfl | (simp only [List.length_drop, List.length_take]; rfl)) ?_; (with_reducible refine (cmp_Compare_uint64.calls (rd l0 x11_1) (rd l1 x11_1) t196 _ A8.out).mono ?_); rintro e w' ⟨rfl, ⟨nd, rfl⟩⟩; refine ⟨_, rfl, ?_⟩))
                  go_ret
                  exact ⟨by first | rfl | (simp; done) | (simp [*]; done) | (exfalso; contradiction), by repeat (first | exact Drawn0.refl _ | apply Drawn0.step)⟩
              · rw [if_neg c7] at H
                exact absurd H (by simp)
          · rw [if_neg c5] at H
            exact absurd H (by simp)
        · rw [if_neg c4] at H
          exact absurd H (by simp)
      · rw [if_neg c3] at H
        have c3b0 : decide (x11_1 < (l0.length : Int)) = false := decide_eq_false c3
        clear c3
        by_cases c10 : (l0.length : Int) < (l1.length : Int)
        · rw [if_pos c10] at H
          have c10b0 : decide ((l0.length : Int) < (l1.length : Int)) = true := decide_eq_true c10
          have c10b1 : decide (l0.length < l1.length) = true := decide_eq_true (Int.ofNat_lt.mp c10)
          clear c10
          obtain rfl := Option.some.inj H
          go_wp2
          go_ret
          exact ⟨by first | rfl | (simp; done) | (simp [*]; done) | (exfalso; contradiction), by repeat (first | exact Drawn0.refl _ | apply Drawn0.step)⟩
        · rw [if_neg c10] at H
          have c10b0 : decide ((l0.length : Int) < (l1.length : Int)) = false := decide_eq_false c10
          have c10b1 : decide (l0.length < l1.length) = false := decide_eq_false (fun h => c10 (Int.ofNat_lt.mpr h))
          clear c10
          obtain rfl := Option.some.inj H
          go_wp2
          go_ret
          exact ⟨by first | rfl | (simp; done) | (simp [*]; done) | (exfalso; contradiction), by repeat (first | exact Drawn0.refl _ | apply Drawn0.step)⟩

/-! ### frac_Cmp: function 100 -/
theorem frac_Cmp.cmp (l0 l1 : List Int) (a b c d : Int) (h0 : l0 = [a, b]) (h1 : l1 = [c, d]) : slices_Compare_uint64_uint64.f 4 l0 l1 = some (if a < c then -1 else if c < a then 1 else if b < d then -1 else if d < b then 1 else 0) := by
  subst h0 h1
  have e1 : wrap64 (0 + 1) = 1 := by unfold wrap64; omega
  have e2 : wrap64 (1 + 1) = 2 := by unfold wrap64; omega
  have r0 : rd [a, b] 0 = a := rfl
  have r1 : rd [a, b] 1 = b := rfl
  have r2 : rd [c, d] 0 = c := rfl
  have r3 : rd [c, d] 1 = d := rfl
  have hc : ∀ x y : Int, cmp_Compare_uint64.f x y = some (if x < y then -1 else if y < x then 1 else 0) := by
    intro x y
    unfold cmp_Compare_uint64.f cmp_isNaN_uint64.f
    simp
    split
    · rfl
    · split <;> rfl
  have fin : ∀ x y : Int, ∀ q : Option Int, ((some (if x < y then (-1 : Int) else if y < x then 1 else 0)).bind fun t => if t = 0 then q else some t) = if x < y then some (-1) else if y < x then some 1 else q := by
    intro x y q
    simp only [Option.bind_some]
    by_cases h1 : x < y
    · rw [if_pos h1, if_pos h1]; rfl
    · rw [if_neg h1, if_neg h1]
      by_cases h2 : y < x
      · rw [if_pos h2, if_pos h2]; rfl
      · rw [if_neg h2, if_neg h2]; rfl
  have s0 : slices_Compare_uint64_uint64.l0 4 [a, b] [c, d] [a, b] 2 0 = if a < c then some (-1) else if c < a then some 1 else slices_Compare_uint64_uint64.l0 3 [a, b] [c, d] [a, b] 2 1 := by
    rw [slices_Compare_uint64_uint64.l0, if_pos (by decide), if_pos (by decide), if_pos (by simp), if_neg (by simp), if_pos (by simp), r0, r2, hc, e1]
    exact fin a c _
  have s1 : slices_Compare_uint64_uint64.l0 3 [a, b] [c, d] [a, b] 2 1 = if b < d then some (-1) else if d < b then some 1 else slices_Compare_uint64_uint64.l0 2 [a, b] [c, d] [a, b] 2 2 := by
    rw [slices_Compare_uint64_uint64.l0, if_pos (by decide), if_pos (by decide), if_pos (by simp), if_neg (by simp), if_pos (by simp), r1, r3, hc, e2]
    exact fin b d _
  have s2 : slices_Compare_uint64_uint64.l0 2 [a, b] [c, d] [a, b] 2 2 = some 0 := by
    rw [slices_Compare_uint64_uint64.l0, if_neg (by decide), if_neg (by simp)]
  unfold slices_Compare_uint64_uint64.f
  show slices_Compare_uint64_uint64.l0 4 [a, b] [c, d] [a, b] 2 0 = _
  rw [s0, s1, s2]
  repeat' split
  all_goals rfl
def frac_Cmp.f (a0 : Int) (a1 : Int) (a2 : Int) (a3 : Int) : Option (Int × Bool) := if (0 ≤ a0 ∧ a0 ≤ 4611686018427387904 ∧ 1 ≤ a1 ∧ a1 ≤ 4611686018427387904) ∧ (0 ≤ a2 ∧ a2 ≤ 4611686018427387904 ∧ 1 ≤ a3 ∧ a3 ≤ 4611686018427387904) then some (if a0 * a3 < a2 * a1 then -1 else if a2 * a1 < a0 * a3 then 1 else 0, true) else some (0, false)
def frac_Cmp.ok (a b : Int) : Bool := decide (0 ≤ a ∧ a ≤ 4611686018427387904 ∧ 1 ≤ b ∧ b ≤ 4611686018427387904)
theorem frac_Cmp.may (a b : Int) : frac_ratio_may.f a b = some (frac_Cmp.ok a b) := by
  unfold frac_ratio_may.f frac_in.f frac_Cmp.ok
  by_cases h0 : 0 ≤ a <;> by_cases h1 : a ≤ 4611686018427387904 <;> by_cases h2 : 1 ≤ b <;> by_cases h3 : b ≤ 4611686018427387904 <;> simp [h0, h1, h2, h3]
set_option maxHeartbeats 8000000 in
set_option maxRecDepth 100000 in
theorem frac_Cmp.calls (a0 : Int) (a1 : Int) (a2 : Int) (a3 : Int) (r1 : Int) (r2 : Bool) (w : World) (h : frac_Cmp.f a0 a1 a2 a3 = some (r1, r2)) :
    Calls Try.prog 100 #[.int .i64 a0, .int .i64 a1, .int .i64 a2, .int .i64 a3] w fun e w' => e = .returned (.tuple #[.int .i64 r1, .bool r2]) ∧ Below w.heap.size w w' := by
  have hu := Try.underlying82
  have f1 := frac_Cmp.may a0 a1
  have f2 := frac_Cmp.may a2 a3
  cases hm1 : frac_Cmp.ok a0 a1 with
  | false =>
    have n1 : ¬ (0 ≤ a0 ∧ a0 ≤ 4611686018427387904 ∧ 1 ≤ a1 ∧ a1 ≤ 4611686018427387904) := of_decide_eq_false hm1
    have H : frac_Cmp.f a0 a1 a2 a3 = some (0, false) := by unfold frac_Cmp.f; rw [if_neg (fun h => n1 h.1)]
    rw [H] at h
    simp only [Option.some.injEq, Prod.mk.injEq] at h
    obtain ⟨rfl, rfl⟩ := h
    rw [hm1] at f1
    have A1 := Aside0.mk f1
    clear f1 f2 H n1 hm1
    go_enter Try.func100, Try.ntmps100
    go_wp2_with (go_at_call 87; (with_reducible refine (frac_ratio_may.calls a0 a1 false _ A1.out).mono ?_); rintro e w1 ⟨rfl, hb1⟩)
    go_ret2
    exact ⟨rfl, hb1⟩
  | true =>
    have y1 : 0 ≤ a0 ∧ a0 ≤ 4611686018427387904 ∧ 1 ≤ a1 ∧ a1 ≤ 4611686018427387904 := of_decide_eq_true hm1
    rw [hm1] at f1
    have A1 := Aside0.mk f1
    clear f1 hm1
    cases hm2 : frac_Cmp.ok a2 a3 with
    | false =>
      have n2 : ¬ (0 ≤ a2 ∧ a2 ≤ 4611686018427387904 ∧ 1 ≤ a3 ∧ a3 ≤ 4611686018427387904) := of_decide_eq_false hm2
      have H : frac_Cmp.f a0 a1 a2 a3 = some (0, false) := by unfold frac_Cmp.f; rw [if_neg (fun h => n2 h.2)]
      rw [H] at h
      simp only [Option.some.injEq, Prod.mk.injEq] at h
      obtain ⟨rfl, rfl⟩ := h
      rw [hm2] at f2
      have A2 := Aside0.mk f2
      clear f2 H n2 hm2 y1
      go_enter Try.func100, Try.ntmps100
      go_wp2_with fail
      refine (frac_ratio_may.calls a0 a1 true _ A1.out).mono ?_
      rintro e w1 ⟨rfl, hb1⟩
      have B1 := Aside0.mk hb1
      clear hb1
      go_wp2_with fail
      refine (frac_ratio_may.calls a2 a3 false _ A2.out).mono ?_
      rintro e w2 ⟨rfl, hb2⟩
      have B2 := Aside0.mk hb2
      clear hb2
      go_wp2
      go_ret2
      exact ⟨rfl, below_then B1.out B1.out.size B2.out⟩
    | true =>
      have y2 : 0 ≤ a2 ∧ a2 ≤ 4611686018427387904 ∧ 1 ≤ a3 ∧ a3 ≤ 4611686018427387904 := of_decide_eq_true hm2
      rw [hm2] at f2
      have A2 := Aside0.mk f2
      clear f2 hm2
      have H : frac_Cmp.f a0 a1 a2 a3 = some (if a0 * a3 < a2 * a1 then -1 else if a2 * a1 < a0 * a3 then 1 else 0, true) := by unfold frac_Cmp.f; rw [if_pos ⟨y1, y2⟩]
      rw [H] at h
      clear H
      simp only [Option.some.injEq, Prod.mk.injEq] at h
      obtain ⟨h, rfl⟩ := h
      have HR := Aside0.mk h
      clear h
      obtain ⟨p0, p1, p2, p3⟩ := y1
      obtain ⟨q0, q1, q2, q3⟩ := y2
      go_enter Try.func100, Try.ntmps100
      go_wp2_with fail
      refine (frac_ratio_may.calls a0 a1 true _ A1.out).mono ?_
      rintro e w1 ⟨rfl, hb1⟩
      have B1 := Aside0.mk hb1
      clear hb1
      go_wp2_with fail
      refine (frac_ratio_may.calls a2 a3 true _ A2.out).mono ?_
      rintro e w2 ⟨rfl, hb2⟩
      have B2 := Aside0.mk (below_then B1.out B1.out.size hb2)
      clear hb2 B1
      go_wp2_with fail
      refine (frac_times.calls a0 a3 _ p0 p1 (by omega) q3).mono ?_
      rintro e w3 ⟨rfl, hb3⟩
      have B3 := Aside0.mk (below_then B2.out B2.out.size hb3)
      clear hb3 B2
      go_wp2_with fail
      refine (frac_times.calls a2 a1 _ q0 q1 (by omega) p3).mono ?_
      rintro e w4 ⟨rfl, hb4⟩
      have B4 := Aside0.mk (below_then B3.out B3.out.size hb4)
      clear hb4 B3
      generalize a0 * a3 = x at *
      generalize a2 * a1 = y at *
      have heq : ∀ (a b c d : Int) (w : World), (Op.equalIn 10000 115 (.agg #[.int .u64 a, .int .u64 b]) (.agg #[.int .u64 c, .int .u64 d])).run Try.prog w = .ok (a == c && b == d) w := fun a b c d w => run_equalIn_arr2 9998 115 113 .u64 _ Try.underlying115 Try.underlying113 rfl (by kernel_rfl) a b c d w
      have HC := Aside0.mk (show slices_Compare_uint64_uint64.f 4 [x / 18446744073709551616, x % 18446744073709551616] [y / 18446744073709551616, y % 18446744073709551616] = some r1 by
        rw [frac_Cmp.cmp _ _ _ _ _ _ rfl rfl, ← HR.out]
        congr 1
        by_cases g1 : x < y
        · rw [if_pos g1]
          by_cases g2 : x / 18446744073709551616 < y / 18446744073709551616
          · rw [if_pos g2]
          · rw [if_neg g2, if_neg (by omega), if_pos (by omega)]
        · rw [if_neg g1]
          by_cases g3 : y < x
          · rw [if_pos g3]
            by_cases g2 : y / 18446744073709551616 < x / 18446744073709551616
            · rw [if_neg (by omega), if_pos g2]
            · rw [if_neg (by omega), if_neg g2, if_neg (by omega), if_pos (by omega)]
          · rw [if_neg g3, if_neg (by omega), if_neg (by omega), if_neg (by omega), if_neg (by omega)])
      have HE := Aside0.mk (show x / 18446744073709551616 = y / 18446744073709551616 → x % 18446744073709551616 = y % 18446744073709551616 → r1 = 0 from fun g1 g2 => by rw [← HR.out, if_neg (by omega), if_neg (by omega)])
      clear HR
      generalize x / 18446744073709551616 = hx at *
      generalize x % 18446744073709551616 = lx at *
      generalize y / 18446744073709551616 = hy at *
      generalize y % 18446744073709551616 = ly at *
      by_cases e : hx = hy ∧ lx = ly
      · obtain ⟨rfl, rfl⟩ := e
        obtain rfl := HE.out rfl rfl
        go_wp2
        go_ret2
        exact ⟨rfl, by repeat (first | exact B4.out | apply below_alloc | apply pw_below_drewN | apply below_drew1)⟩
      · have d1 : (hx == hy && lx == ly) = false := by simp; exact fun h1 h2 => e ⟨h1, h2⟩
        clear e HE
        have cx := Aside0.mk (block_reads (W := (w4.alloc (.cells #[.int .u64 hx, .int .u64 lx] 115)).alloc (.cells #[.int .u64 hy, .int .u64 ly] 115)) (g := w4.heap.size) (t := 115) (k := .u64) (xs := [hx, lx]) (two_old _ _ _) (by simp))
        have cy := Aside0.mk (block_reads (W := (w4.alloc (.cells #[.int .u64 hx, .int .u64 lx] 115)).alloc (.cells #[.int .u64 hy, .int .u64 ly] 115)) (g := w4.heap.size + 1) (t := 115) (k := .u64) (xs := [hy, ly]) (two_new _ _ _) (by simp))
        go_wp2
        go_quiet ((go_at_call 104; exact quiet_drawn (slices_Compare_uint64_uint64.calls 4 _ 2 [hx, lx] _ 2 [hy, ly] r1 _ (Kd.C_drewN cx.out _) (by simp) (Kd.C_drewN cy.out _) (by simp) HC.out)))
        go_wp2
        go_ret2
        exact ⟨rfl, by repeat (first | exact B4.out | apply below_alloc | apply pw_below_drewN | apply below_drew1)⟩

/-! ### spring_force_below: function 93 -/
def spring_force_below.f (a0_0 : Int) (a0_1 : Int) (a1_0 : Int) (a1_1 : Int) (a1_2 : Int) : Option (Bool) := (frac_Cmp.f (wrap64 (a0_0 * a1_2)) a0_1 (wrap64 (a1_0 - a1_1)) 1).bind fun bt199 => (some (decide (bt199.1 > 0)))
set_option maxHeartbeats 8000000 in
set_option maxRecDepth 100000 in
theorem spring_force_below.calls (a0_0 : Int) (a0_1 : Int) (a1_0 : Int) (a1_1 : Int) (a1_2 : Int) (r : Bool) (w : World) (h : spring_force_below.f a0_0 a0_1 a1_0 a1_1 a1_2 = some r) :
    Calls Try.prog 93 #[.agg #[.int .i64 a0_0, .int .i64 a0_1], .agg #[.int .i64 a1_0, .int .i64 a1_1, .int .i64 a1_2]] w fun e w' => e = .returned (.bool r) ∧ Below w.heap.size w w' := by
  have hu94 := Try.underlying94
  have hu53 := Try.underlying53
  have HB := Aside0.mk (Below.refl w.heap.size w)
  have H : ((frac_Cmp.f (wrap64 (a0_0 * a1_2)) a0_1 (wrap64 (a1_0 - a1_1)) 1).bind fun bt199 => (some (decide (bt199.1 > 0)))) = some r := h
  clear h
  replace H := Option.bind_eq_some_iff.mp H
  obtain ⟨⟨t199, t200⟩, A30, H⟩ := H
  try dsimp only at H
  have A3 := Aside0.mk A30
  clear A30
  obtain rfl := Option.some.inj H
  go_enter Try.func93, Try.ntmps93
  go_wp2_with (first | ((with_reducible refine gate_dst (N := 2) rfl ?_); refine box_event ?hg (N := 2) ?hd (cs := #[.int .i64 a0_0, .int .i64 a0_1]) (t := 94) ?hr ?_; (case hd => rfl); (case hg => rfl); (case hr => first | (go_simp; done) | (go_simp; rfl)); intro gb197 hg w4 hbox hb; have n0_ := bs HB hb; have n1_ := Aside0.mk (hbox); have n2_ := bz HB hg; have n3_ := bz HB hg; clear HB; have HB := n0_; have BK197 := n1_; have GW197 := n2_; have GE197 := n3_; clear n0_ n1_ n2_ n3_; clear hb hbox hg) | ((with_reducible refine gate_dst (N := 3) rfl ?_); refine box_event ?hg (N := 3) ?hd (cs := #[.int .i64 a1_0, .int .i64 a1_1, .int .i64 a1_2]) (t := 53) ?hr ?_; (case hd => rfl); (case hg => rfl); (case hr => first | (go_simp; done) | (go_simp; rfl)); intro gb198 hg w5 hbox hb; have n0_ := bb BK197 hb; have n1_ := bs HB hb; have n2_ := Aside0.mk (hbox); have n3_ := bz HB hg; have n4_ := bz HB hg; have n5_ := bl BK197 hg; have n6_ := bg BK197 hg; clear BK197; clear HB; have BK197 := n0_; have HB := n1_; have BK198 := n2_; have GW198 := n3_; have GE198 := n4_; have NB197_198 := n5_; have NB198_197 := n6_; clear n0_ n1_ n2_ n3_ n4_ n5_ n6_; clear hb hbox hg; have hnb6 := NB197_198.out; have hnc6 := NB198_197.out; obtain ⟨hcz7_0, hcz7_1⟩ := cc2 BK197; obtain ⟨hfz7_0, hfz7_1⟩ := cf2 BK197; obtain ⟨hcz8_0, hcz8_1, hcz8_2⟩ := cc3 BK198; obtain ⟨hfz8_0, hfz8_1, hfz8_2⟩ := cf3 BK198) | ((with_reducible refine gate_callee (f := 100) rfl ?_); refine goesL_ (some 20) rfl rfl Try.func100 (by kernel_rfl) rfl #[.int .i64 (wrap64 (a0_0 * a1_2)), .int .i64 a0_1, .int .i64 (wrap64 (a1_0 - a1_1)), .int .i64 1] rfl (by (try simp only [List.map_toArray, List.map_cons, List.map_nil]); first | done | rfl | (simp only [List.length_drop, List.length_take]; rfl)) ?_; (with_reducible refine (frac_Cmp.calls (wrap64 (a0_0 * a1_2)) a0_1 (wrap64 (a1_0 - a1_1)) 1 t199 t200 _ A3.out).mono ?_); rintro e w9 ⟨rfl, hb⟩; refine ⟨_, rfl, ?_⟩; have n0_ := bb BK197 hb; have n1_ := bb BK198 hb; have n2_ := bs HB hb; clear BK197; clear BK198; clear HB; have BK197 := n0_; have BK198 := n1_; have HB := n2_; clear n0_ n1_ n2_; (try clear hb); (try clear hb2); (try clear hk); (try clear hi)))
  go_ret
  exact ⟨by first | rfl | (simp [errW_none, errW_some] <;> rfl) | (simp [*, errW_none, errW_some] <;> rfl) | (exfalso; contradiction), by repeat (first | (with_reducible first | exact HB.out | apply below_alloc | apply pw_below_drewN | apply below_drew1 | refine below_set ?_ GE197.out | refine below_set ?_ GE198.out) | exact HB.out)⟩

end Go.Proofs.Ytaejikbfnlihmaa.P
