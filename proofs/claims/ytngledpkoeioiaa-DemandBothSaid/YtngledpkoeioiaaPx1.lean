-- Written by a program of this session (hprint.py), out of the translation; functions that the print does not take are given by hand.
import Derived.Test.YtngledpkoeioiaaPx0
namespace Go.Proofs.Ytngledpkoeioiaa.P
open Go.RowKit Go.Proofs.YtngledpkoeioiaaM Go.Proofs.YtngledpkoeioiaaW.PrintWords Go.Proofs.YtngledpkoeioiaaW.PrintLast Go.Proofs.YtngledpkoeioiaaW.PrintMore
attribute [local go_sem] max2_int min2_int max_two min_two max_three min_three max_four min_four   -- for this text's walks alone
set_option linter.unusedVariables false
set_option linter.unusedSimpArgs false

/-! ### frac_in: function 59 -/
def frac_in.f (a0 : Int) (a1 : Int) (a2 : Int) : Option (Bool) := if a0 ≥ a1 then (some (decide (a0 ≤ a2))) else (some false)
set_option maxHeartbeats 8000000 in
set_option maxRecDepth 100000 in
theorem frac_in.calls (a0 : Int) (a1 : Int) (a2 : Int) (r : Bool) (w : World) (h : frac_in.f a0 a1 a2 = some r) :
    Calls Try.prog 59 #[.int .i64 a0, .int .i64 a1, .int .i64 a2] w fun e w' => e = .returned (.bool r) ∧ Drawn0 w w' := by
  have H : (if a0 ≥ a1 then (some (decide (a0 ≤ a2))) else (some false)) = some r := h
  clear h
  by_cases c4 : a0 ≥ a1
  · rw [if_pos c4] at H
    have c4b0 : decide (a1 ≤ a0) = true := decide_eq_true c4
    clear c4
    obtain rfl := Option.some.inj H
    go_enter Try.func59, Try.ntmps59
    go_wp2
    go_ret
    exact ⟨by first | rfl | (simp; done) | (simp [*]; done) | (exfalso; contradiction), by repeat (first | exact Drawn0.refl _ | apply Drawn0.step)⟩
  · rw [if_neg c4] at H
    have c4b0 : decide (a1 ≤ a0) = false := decide_eq_false c4
    clear c4
    obtain rfl := Option.some.inj H
    go_enter Try.func59, Try.ntmps59
    go_wp2
    go_ret
    exact ⟨by first | rfl | (simp; done) | (simp [*]; done) | (exfalso; contradiction), by repeat (first | exact Drawn0.refl _ | apply Drawn0.step)⟩

/-! ### frac_ratio_may: function 47 -/
def frac_ratio_may.f (a0_0 : Int) (a0_1 : Int) : Option (Bool) := (frac_in.f a0_0 0 4611686018427387904).bind fun t102 => (if t102 = true then ((frac_in.f a0_1 1 4611686018427387904).bind fun t103 => (some t103)) else (some false))
set_option maxHeartbeats 8000000 in
set_option maxRecDepth 100000 in
theorem frac_ratio_may.calls (a0_0 : Int) (a0_1 : Int) (r : Bool) (w : World) (h : frac_ratio_may.f a0_0 a0_1 = some r) :
    Calls Try.prog 47 #[.agg #[.int .i64 a0_0, .int .i64 a0_1]] w fun e w' => e = .returned (.bool r) ∧ Below w.heap.size w w' := by
  have hu56 := Try.underlying56
  have HB := Aside0.mk (Below.refl w.heap.size w)
  have H : ((frac_in.f a0_0 0 4611686018427387904).bind fun t102 => (if t102 = true then ((frac_in.f a0_1 1 4611686018427387904).bind fun t103 => (some t103)) else (some false))) = some r := h
  clear h
  replace H := Option.bind_eq_some_iff.mp H
  obtain ⟨t102, A20, H⟩ := H
  try dsimp only at H
  have A2 := Aside0.mk A20
  clear A20
  by_cases c3 : t102 = true
  · subst c3
    rw [if_pos rfl] at H
    replace H := Option.bind_eq_some_iff.mp H
    obtain ⟨t103, A40, H⟩ := H
    try dsimp only at H
    have A4 := Aside0.mk A40
    clear A40
    obtain rfl := Option.some.inj H
    go_enter Try.func47, Try.ntmps47
    go_wp2_with (first | ((with_reducible refine gate_dst (N := 1) rfl ?_); refine box_event ?hg (N := 1) ?hd (cs := #[.int .i64 a0_0, .int .i64 a0_1]) (t := 56) ?hr ?_; (case hd => rfl); (case hg => rfl); (case hr => first | (go_simp; done) | (go_simp; rfl)); intro gb101 hg w5 hbox hb; have n0_ := bs HB hb; have n1_ := Aside0.mk (hbox); have n2_ := bz HB hg; have n3_ := bz HB hg; clear HB; have HB := n0_; have BK101 := n1_; have GW101 := n2_; have GE101 := n3_; clear n0_ n1_ n2_ n3_; clear hb hbox hg; obtain ⟨hcz6_0, hcz6_1⟩ := cc2 BK101; obtain ⟨hfz6_0, hfz6_1⟩ := cf2 BK101) | ((with_reducible refine gate_callee (f := 59) rfl ?_); refine goesL_ (some 5) rfl rfl Try.func59 (by kernel_rfl) rfl #[.int .i64 a0_0, .int .i64 0, .int .i64 4611686018427387904] rfl (by (try simp only [List.map_toArray, List.map_cons, List.map_nil]); first | done | rfl | (simp only [List.length_drop, List.length_take]; rfl)) ?_; (with_reducible refine (frac_in.calls a0_0 0 4611686018427387904 true _ A2.out).mono ?_); rintro e w' ⟨rfl, ⟨nd, rfl⟩⟩; refine ⟨_, rfl, ?_⟩) | (go_at_call 59; (with_reducible refine (frac_in.calls a0_1 1 4611686018427387904 t103 _ A4.out).mono ?_); rintro e w' ⟨rfl, ⟨nd, rfl⟩⟩))
    go_ret
    exact ⟨by first | rfl | (simp [errW_none, errW_some] <;> rfl) | (simp [*, errW_none, errW_some] <;> rfl) | (exfalso; contradiction), by repeat (first | (with_reducible first | exact HB.out | apply below_alloc | apply pw_below_drewN | apply below_drew1 | refine below_set ?_ GE101.out) | exact HB.out)⟩
  · replace c3 := Bool.eq_false_iff.mpr c3
    subst c3
    rw [if_neg (show ¬ (false = true) by decide)] at H
    obtain rfl := Option.some.inj H
    go_enter Try.func47, Try.ntmps47
    go_wp2_with (first | ((with_reducible refine gate_dst (N := 1) rfl ?_); refine box_event ?hg (N := 1) ?hd (cs := #[.int .i64 a0_0, .int .i64 a0_1]) (t := 56) ?hr ?_; (case hd => rfl); (case hg => rfl); (case hr => first | (go_simp; done) | (go_simp; rfl)); intro gb101 hg w7 hbox hb; have n0_ := bs HB hb; have n1_ := Aside0.mk (hbox); have n2_ := bz HB hg; have n3_ := bz HB hg; clear HB; have HB := n0_; have BK101 := n1_; have GW101 := n2_; have GE101 := n3_; clear n0_ n1_ n2_ n3_; clear hb hbox hg; obtain ⟨hcz8_0, hcz8_1⟩ := cc2 BK101; obtain ⟨hfz8_0, hfz8_1⟩ := cf2 BK101) | ((with_reducible refine gate_callee (f := 59) rfl ?_); refine goesL_ (some 5) rfl rfl Try.func59 (by kernel_rfl) rfl #[.int .i64 a0_0, .int .i64 0, .int .i64 4611686018427387904] rfl (by (try simp only [List.map_toArray, List.map_cons, List.map_nil]); first | done | rfl | (simp only [List.length_drop, List.length_take]; rfl)) ?_; (with_reducible refine (frac_in.calls a0_0 0 4611686018427387904 false _ A2.out).mono ?_); rintro e w' ⟨rfl, ⟨nd, rfl⟩⟩; refine ⟨_, rfl, ?_⟩))
    go_ret
    exact ⟨by first | rfl | (simp [errW_none, errW_some] <;> rfl) | (simp [*, errW_none, errW_some] <;> rfl) | (exfalso; contradiction), by repeat (first | (with_reducible first | exact HB.out | apply below_alloc | apply pw_below_drewN | apply below_drew1 | refine below_set ?_ GE101.out) | exact HB.out)⟩

-- NOT PRINTED: function 39 (frac_told)

/-! ### frac_Ceil: function 29 -/
def frac_Ceil.f (a0 : Int) (a1 : Int) : Option (Int × Bool) := if 0 ≤ a0 ∧ a0 ≤ 4611686018427387904 ∧ 1 ≤ a1 ∧ a1 ≤ 4611686018427387904 then some (a0 / a1 + min (a0 % a1) 1, true) else some (0, false)
set_option maxHeartbeats 8000000 in
set_option maxRecDepth 100000 in
theorem frac_Ceil.calls (a0 : Int) (a1 : Int) (r1 : Int) (r2 : Bool) (w : World) (h : frac_Ceil.f a0 a1 = some (r1, r2)) :
    Calls Try.prog 29 #[.int .i64 a0, .int .i64 a1] w fun e w' => e = .returned (.tuple #[.int .i64 r1, .bool r2]) ∧ Below w.heap.size w w' := by
  have hmf : ∀ (fn : Fn) (first cap : Array Value) (w : World), (Instr.makeFunc fn first cap).run Try.prog w = .ok (.func fn first cap) w := fun _ _ _ _ => rfl
  have hu := Try.underlying56
  by_cases c0 : 0 ≤ a0
  · by_cases c1 : a0 ≤ 4611686018427387904
    · by_cases c2 : 1 ≤ a1
      · by_cases c3 : a1 ≤ 4611686018427387904
        · have H : frac_Ceil.f a0 a1 = some (a0 / a1 + min (a0 % a1) 1, true) := by unfold frac_Ceil.f; rw [if_pos ⟨c0, c1, c2, c3⟩]
          rw [H] at h
          simp only [Option.some.injEq, Prod.mk.injEq] at h
          obtain ⟨rfl, rfl⟩ := h
          clear H
          have d0 : decide (0 ≤ a0) = true := decide_eq_true c0
          have d1 : decide (a0 ≤ 4611686018427387904) = true := decide_eq_true c1
          have d2 : decide (1 ≤ a1) = true := decide_eq_true c2
          have d3 : decide (a1 ≤ 4611686018427387904) = true := decide_eq_true c3
          have d4 : ¬ a1 = 0 := by omega
          have hm := Int.emod_nonneg a0 d4
          have hq0 : 0 ≤ a0 / a1 := Int.ediv_nonneg c0 (by omega)
          have hq1 : a0 / a1 ≤ a0 := Int.ediv_le_self _ c0
          by_cases e : 1 < a0 % a1
          · have H : min (a0 % a1) 1 = 1 := by omega
            rw [H]
            clear H
            go_enter Try.func29, Try.ntmps29
            go_wp2
            go_quiet (fail)
            go_wp2
            go_ret2
            exact ⟨rfl, by repeat (first | exact Below.refl _ _ | apply below_alloc | apply pw_below_drewN | apply below_drew1)⟩
          · have H : min (a0 % a1) 1 = a0 % a1 := by omega
            rw [H]
            clear H
            go_enter Try.func29, Try.ntmps29
            go_wp2
            go_quiet (fail)
            go_wp2
            go_ret2
            exact ⟨rfl, by repeat (first | exact Below.refl _ _ | apply below_alloc | apply pw_below_drewN | apply below_drew1)⟩
        · have H : frac_Ceil.f a0 a1 = some (0, false) := by unfold frac_Ceil.f; rw [if_neg (fun h => c3 h.2.2.2)]
          rw [H] at h
          simp only [Option.some.injEq, Prod.mk.injEq] at h
          obtain ⟨rfl, rfl⟩ := h
          clear H
          have d0 : decide (0 ≤ a0) = true := decide_eq_true c0
          have d1 : decide (a0 ≤ 4611686018427387904) = true := decide_eq_true c1
          have d2 : decide (1 ≤ a1) = true := decide_eq_true c2
          have d3 : decide (a1 ≤ 4611686018427387904) = false := decide_eq_false c3
          go_enter Try.func29, Try.ntmps29
          go_wp2
          go_ret2
          exact ⟨rfl, by repeat (first | exact Below.refl _ _ | apply below_alloc | apply pw_below_drewN | apply below_drew1)⟩
      · have H : frac_Ceil.f a0 a1 = some (0, false) := by unfold frac_Ceil.f; rw [if_neg (fun h => c2 h.2.2.1)]
        rw [H] at h
        simp only [Option.some.injEq, Prod.mk.injEq] at h
        obtain ⟨rfl, rfl⟩ := h
        clear H
        have d0 : decide (0 ≤ a0) = true := decide_eq_true c0
        have d1 : decide (a0 ≤ 4611686018427387904) = true := decide_eq_true c1
        have d2 : decide (1 ≤ a1) = false := decide_eq_false c2
        go_enter Try.func29, Try.ntmps29
        go_wp2
        go_ret2
        exact ⟨rfl, by repeat (first | exact Below.refl _ _ | apply below_alloc | apply pw_below_drewN | apply below_drew1)⟩
    · have H : frac_Ceil.f a0 a1 = some (0, false) := by unfold frac_Ceil.f; rw [if_neg (fun h => c1 h.2.1)]
      rw [H] at h
      simp only [Option.some.injEq, Prod.mk.injEq] at h
      obtain ⟨rfl, rfl⟩ := h
      clear H
      have d0 : decide (0 ≤ a0) = true := decide_eq_true c0
      have d1 : decide (a0 ≤ 4611686018427387904) = false := decide_eq_false c1
      go_enter Try.func29, Try.ntmps29
      go_wp2
      go_ret2
      exact ⟨rfl, by repeat (first | exact Below.refl _ _ | apply below_alloc | apply pw_below_drewN | apply below_drew1)⟩
  · have H : frac_Ceil.f a0 a1 = some (0, false) := by unfold frac_Ceil.f; rw [if_neg (fun h => c0 h.1)]
    rw [H] at h
    simp only [Option.some.injEq, Prod.mk.injEq] at h
    obtain ⟨rfl, rfl⟩ := h
    clear H
    have d0 : decide (0 ≤ a0) = false := decide_eq_false c0
    go_enter Try.func29, Try.ntmps29
    go_wp2
    go_ret2
    exact ⟨rfl, by repeat (first | exact Below.refl _ _ | apply below_alloc | apply pw_below_drewN | apply below_drew1)⟩

/-! ### pat_May: function 34 -/
def pat_May.f (a0 : Int) (a1 : Int) : Option (Bool) := if a0 ≥ 1 then (if a0 ≤ a1 then (some (decide (a1 ≤ 6))) else (some false)) else (some false)
set_option maxHeartbeats 8000000 in
set_option maxRecDepth 100000 in
theorem pat_May.calls (a0 : Int) (a1 : Int) (r : Bool) (w : World) (h : pat_May.f a0 a1 = some r) :
    Calls Try.prog 34 #[.int .i64 a0, .int .i64 a1] w fun e w' => e = .returned (.bool r) ∧ Drawn0 w w' := by
  have H : (if a0 ≥ 1 then (if a0 ≤ a1 then (some (decide (a1 ≤ 6))) else (some false)) else (some false)) = some r := h
  clear h
  by_cases c3 : a0 ≥ 1
  · rw [if_pos c3] at H
    have c3b0 : decide (1 ≤ a0) = true := decide_eq_true c3
    clear c3
    by_cases c4 : a0 ≤ a1
    · rw [if_pos c4] at H
      have c4b0 : decide (a0 ≤ a1) = true := decide_eq_true c4
      clear c4
      obtain rfl := Option.some.inj H
      go_enter Try.func34, Try.ntmps34
      go_wp2
      go_ret
      exact ⟨by first | rfl | (simp; done) | (simp [*]; done) | (exfalso; contradiction), by repeat (first | exact Drawn0.refl _ | apply Drawn0.step)⟩
    · rw [if_neg c4] at H
      have c4b0 : decide (a0 ≤ a1) = false := decide_eq_false c4
      clear c4
      obtain rfl := Option.some.inj H
      go_enter Try.func34, Try.ntmps34
      go_wp2
      go_ret
      exact ⟨by first | rfl | (simp; done) | (simp [*]; done) | (exfalso; contradiction), by repeat (first | exact Drawn0.refl _ | apply Drawn0.step)⟩
  · rw [if_neg c3] at H
    have c3b0 : decide (1 ≤ a0) = false := decide_eq_false c3
    clear c3
    obtain rfl := Option.some.inj H
    go_enter Try.func34, Try.ntmps34
    go_wp2
    go_ret
    exact ⟨by first | rfl | (simp; done) | (simp [*]; done) | (exfalso; contradiction), by repeat (first | exact Drawn0.refl _ | apply Drawn0.step)⟩

-- NOT PRINTED: function 50 (spec_to)

/-! ### spec_parts: function 45 -/
set_option maxHeartbeats 8000000 in
set_option maxRecDepth 100000 in
theorem spec_to.calls (n : Int) (w : World) :
    Calls Try.prog 50 #[.int .i64 n] w fun e w' => ∃ b : Nat, e = .returned (.func (.func 61) #[] #[.pointer (some ⟨b, 0, none⟩)]) ∧ Below w.heap.size w w' ∧ w.heap.size ≤ b ∧ w'.heap[b]? = some (.cells #[.int .i64 n] 3 (0, 0)) := by
  have hmf : ∀ (fn : Fn) (first cap : Array Value) (w : World), (Instr.makeFunc fn first cap).run Try.prog w = .ok (.func fn first cap) w := fun _ _ _ _ => rfl
  go_enter Try.func50, Try.ntmps50
  go_wp2
  go_ret
  exact ⟨w.heap.size, rfl, below_alloc (Below.refl _ _) _, Nat.le_refl _, blk_new _ _⟩
set_option maxHeartbeats 8000000 in
set_option maxRecDepth 100000 in
theorem spec_parts.calls (w : World) :
    Calls Try.prog 45 #[] w fun e w' => ∃ (AV : Value) (b1 b2 b3 b4 b5 b6 b7 b8 b9 : Nat), e = .returned AV ∧ ((∀ W, (Instr.index 64 AV (.int .i64 0)).run Try.prog W = .ok (.agg #[.func (.func 49) #[] #[], .func (.func 61) #[] #[.pointer (some ⟨b1, 0, none⟩)], .func (.func 61) #[] #[.pointer (some ⟨b2, 0, none⟩)]]) W) ∧ (∀ W, (Instr.index 64 AV (.int .i64 1)).run Try.prog W = .ok (.agg #[.func (.func 51) #[] #[], .func (.func 52) #[] #[], .func (.func 53) #[] #[]]) W) ∧ (∀ W, (Instr.index 64 AV (.int .i64 2)).run Try.prog W = .ok (.agg #[.func (.func 54) #[] #[], .func (.func 61) #[] #[.pointer (some ⟨b3, 0, none⟩)], .func (.func 61) #[] #[.pointer (some ⟨b4, 0, none⟩)]]) W) ∧ (∀ W, (Instr.index 64 AV (.int .i64 3)).run Try.prog W = .ok (.agg #[.func (.func 55) #[] #[], .func (.func 61) #[] #[.pointer (some ⟨b5, 0, none⟩)], .func (.func 56) #[] #[]]) W) ∧ (∀ W, (Instr.index 64 AV (.int .i64 4)).run Try.prog W = .ok (.agg #[.func (.func 57) #[] #[], .func (.func 61) #[] #[.pointer (some ⟨b6, 0, none⟩)], .func (.func 61) #[] #[.pointer (some ⟨b7, 0, none⟩)]]) W) ∧ (∀ W, (Instr.index 64 AV (.int .i64 5)).run Try.prog W = .ok (.agg #[.func (.func 58) #[] #[], .func (.func 61) #[] #[.pointer (some ⟨b8, 0, none⟩)], .func (.func 61) #[] #[.pointer (some ⟨b9, 0, none⟩)]]) W)) ∧ Below w.heap.size w w' ∧ w'.heap[b1]? = some (.cells #[.int .i64 1] 3 (0, 0)) ∧ w'.heap[b2]? = some (.cells #[.int .i64 6] 3 (0, 0)) ∧ w'.heap[b3]? = some (.cells #[.int .i64 1] 3 (0, 0)) ∧ w'.heap[b4]? = some (.cells #[.int .i64 48] 3 (0, 0)) ∧ w'.heap[b5]? = some (.cells #[.int .i64 1] 3 (0, 0)) ∧ w'.heap[b6]? = some (.cells #[.int .i64 1] 3 (0, 0)) ∧ w'.heap[b7]? = some (.cells #[.int .i64 6] 3 (0, 0)) ∧ w'.heap[b8]? = some (.cells #[.int .i64 0] 3 (0, 0)) ∧ w'.heap[b9]? = some (.cells #[.int .i64 8] 3 (0, 0)) := by
  have hu := Try.underlying63
  go_enter Try.func45, Try.ntmps45
  have B0 := Aside0.mk (below_alloc (Below.refl w.heap.size w) (.cells (#[.nilFunc, .nilFunc, .nilFunc, .nilFunc, .nilFunc, .nilFunc, .nilFunc, .nilFunc, .nilFunc, .nilFunc, .nilFunc, .nilFunc, .nilFunc, .nilFunc, .nilFunc, .nilFunc, .nilFunc, .nilFunc] : Array Value) 64))
  have C0 := Aside0.mk (blk_new w (.cells (#[.nilFunc, .nilFunc, .nilFunc, .nilFunc, .nilFunc, .nilFunc, .nilFunc, .nilFunc, .nilFunc, .nilFunc, .nilFunc, .nilFunc, .nilFunc, .nilFunc, .nilFunc, .nilFunc, .nilFunc, .nilFunc] : Array Value) 64))
  have S0 := Aside0.mk (show w.heap.size < (w.alloc (.cells (#[.nilFunc, .nilFunc, .nilFunc, .nilFunc, .nilFunc, .nilFunc, .nilFunc, .nilFunc, .nilFunc, .nilFunc, .nilFunc, .nilFunc, .nilFunc, .nilFunc, .nilFunc, .nilFunc, .nilFunc, .nilFunc] : Array Value) 64)).heap.size by rw [World.size_alloc]; omega)
  go_wp2_with fail
  refine (spec_to.calls 1 _).mono ?_
  rintro e w1 ⟨b1, rfl, hb, hge, hc⟩
  have D1 := Aside0.mk hc
  have G1 := Aside0.mk (Nat.lt_of_lt_of_le S0.out hge)
  have B1 := Aside0.mk (below_trans B0.out hb)
  have C1 := Aside0.mk (blk_below C0.out hb)
  have S1 := Aside0.mk (Nat.lt_of_lt_of_le S0.out hb.size)
  clear hb hge hc B0 C0 S0
  go_wp2_with fail
  refine (spec_to.calls 6 _).mono ?_
  rintro e w2 ⟨b2, rfl, hb, hge, hc⟩
  have D2 := Aside0.mk hc
  have G2 := Aside0.mk (Nat.lt_of_lt_of_le S1.out hge)
  have B2 := Aside0.mk (below_trans B1.out hb)
  have C2 := Aside0.mk (blk_below C1.out hb)
  have S2 := Aside0.mk (Nat.lt_of_lt_of_le S1.out hb.size)
  replace D1 := Aside0.mk (blk_below D1.out hb)
  clear hb hge hc B1 C1 S1
  go_wp2_with fail
  refine (spec_to.calls 1 _).mono ?_
  rintro e w3 ⟨b3, rfl, hb, hge, hc⟩
  have D3 := Aside0.mk hc
  have G3 := Aside0.mk (Nat.lt_of_lt_of_le S2.out hge)
  have B3 := Aside0.mk (below_trans B2.out hb)
  have C3 := Aside0.mk (blk_below C2.out hb)
  have S3 := Aside0.mk (Nat.lt_of_lt_of_le S2.out hb.size)
  replace D1 := Aside0.mk (blk_below D1.out hb)
  replace D2 := Aside0.mk (blk_below D2.out hb)
  clear hb hge hc B2 C2 S2
  go_wp2_with fail
  refine (spec_to.calls 48 _).mono ?_
  rintro e w4 ⟨b4, rfl, hb, hge, hc⟩
  have D4 := Aside0.mk hc
  have G4 := Aside0.mk (Nat.lt_of_lt_of_le S3.out hge)
  have B4 := Aside0.mk (below_trans B3.out hb)
  have C4 := Aside0.mk (blk_below C3.out hb)
  have S4 := Aside0.mk (Nat.lt_of_lt_of_le S3.out hb.size)
  replace D1 := Aside0.mk (blk_below D1.out hb)
  replace D2 := Aside0.mk (blk_below D2.out hb)
  replace D3 := Aside0.mk (blk_below D3.out hb)
  clear hb hge hc B3 C3 S3
  go_wp2_with fail
  refine (spec_to.calls 1 _).mono ?_
  rintro e w5 ⟨b5, rfl, hb, hge, hc⟩
  have D5 := Aside0.mk hc
  have G5 := Aside0.mk (Nat.lt_of_lt_of_le S4.out hge)
  have B5 := Aside0.mk (below_trans B4.out hb)
  have C5 := Aside0.mk (blk_below C4.out hb)
  have S5 := Aside0.mk (Nat.lt_of_lt_of_le S4.out hb.size)
  replace D1 := Aside0.mk (blk_below D1.out hb)
  replace D2 := Aside0.mk (blk_below D2.out hb)
  replace D3 := Aside0.mk (blk_below D3.out hb)
  replace D4 := Aside0.mk (blk_below D4.out hb)
  clear hb hge hc B4 C4 S4
  go_wp2_with fail
  refine (spec_to.calls 1 _).mono ?_
  rintro e w6 ⟨b6, rfl, hb, hge, hc⟩
  have D6 := Aside0.mk hc
  have G6 := Aside0.mk (Nat.lt_of_lt_of_le S5.out hge)
  have B6 := Aside0.mk (below_trans B5.out hb)
  have C6 := Aside0.mk (blk_below C5.out hb)
  have S6 := Aside0.mk (Nat.lt_of_lt_of_le S5.out hb.size)
  replace D1 := Aside0.mk (blk_below D1.out hb)
  replace D2 := Aside0.mk (blk_below D2.out hb)
  replace D3 := Aside0.mk (blk_below D3.out hb)
  replace D4 := Aside0.mk (blk_below D4.out hb)
  replace D5 := Aside0.mk (blk_below D5.out hb)
  clear hb hge hc B5 C5 S5
  go_wp2_with fail
  refine (spec_to.calls 6 _).mono ?_
  rintro e w7 ⟨b7, rfl, hb, hge, hc⟩
  have D7 := Aside0.mk hc
  have G7 := Aside0.mk (Nat.lt_of_lt_of_le S6.out hge)
  have B7 := Aside0.mk (below_trans B6.out hb)
  have C7 := Aside0.mk (blk_below C6.out hb)
  have S7 := Aside0.mk (Nat.lt_of_lt_of_le S6.out hb.size)
  replace D1 := Aside0.mk (blk_below D1.out hb)
  replace D2 := Aside0.mk (blk_below D2.out hb)
  replace D3 := Aside0.mk (blk_below D3.out hb)
  replace D4 := Aside0.mk (blk_below D4.out hb)
  replace D5 := Aside0.mk (blk_below D5.out hb)
  replace D6 := Aside0.mk (blk_below D6.out hb)
  clear hb hge hc B6 C6 S6
  go_wp2_with fail
  refine (spec_to.calls 0 _).mono ?_
  rintro e w8 ⟨b8, rfl, hb, hge, hc⟩
  have D8 := Aside0.mk hc
  have G8 := Aside0.mk (Nat.lt_of_lt_of_le S7.out hge)
  have B8 := Aside0.mk (below_trans B7.out hb)
  have C8 := Aside0.mk (blk_below C7.out hb)
  have S8 := Aside0.mk (Nat.lt_of_lt_of_le S7.out hb.size)
  replace D1 := Aside0.mk (blk_below D1.out hb)
  replace D2 := Aside0.mk (blk_below D2.out hb)
  replace D3 := Aside0.mk (blk_below D3.out hb)
  replace D4 := Aside0.mk (blk_below D4.out hb)
  replace D5 := Aside0.mk (blk_below D5.out hb)
  replace D6 := Aside0.mk (blk_below D6.out hb)
  replace D7 := Aside0.mk (blk_below D7.out hb)
  clear hb hge hc B7 C7 S7
  go_wp2_with fail
  refine (spec_to.calls 8 _).mono ?_
  rintro e w9 ⟨b9, rfl, hb, hge, hc⟩
  have D9 := Aside0.mk hc
  have G9 := Aside0.mk (Nat.lt_of_lt_of_le S8.out hge)
  have B9 := Aside0.mk (below_trans B8.out hb)
  have C9 := Aside0.mk (blk_below C8.out hb)
  have S9 := Aside0.mk (Nat.lt_of_lt_of_le S8.out hb.size)
  replace D1 := Aside0.mk (blk_below D1.out hb)
  replace D2 := Aside0.mk (blk_below D2.out hb)
  replace D3 := Aside0.mk (blk_below D3.out hb)
  replace D4 := Aside0.mk (blk_below D4.out hb)
  replace D5 := Aside0.mk (blk_below D5.out hb)
  replace D6 := Aside0.mk (blk_below D6.out hb)
  replace D7 := Aside0.mk (blk_below D7.out hb)
  replace D8 := Aside0.mk (blk_below D8.out hb)
  clear hb hge hc B8 C8 S8
  have H1 : (#[.func (.func 49) #[] #[], .func (.func 61) #[] #[.pointer (some ⟨b1, 0, none⟩)], .func (.func 61) #[] #[.pointer (some ⟨b2, 0, none⟩)], .func (.func 51) #[] #[], .func (.func 52) #[] #[], .func (.func 53) #[] #[], .func (.func 54) #[] #[], .func (.func 61) #[] #[.pointer (some ⟨b3, 0, none⟩)], .func (.func 61) #[] #[.pointer (some ⟨b4, 0, none⟩)], .func (.func 55) #[] #[], .func (.func 61) #[] #[.pointer (some ⟨b5, 0, none⟩)], .func (.func 56) #[] #[], .func (.func 57) #[] #[], .func (.func 61) #[] #[.pointer (some ⟨b6, 0, none⟩)], .func (.func 61) #[] #[.pointer (some ⟨b7, 0, none⟩)], .func (.func 58) #[] #[], .func (.func 61) #[] #[.pointer (some ⟨b8, 0, none⟩)], .func (.func 61) #[] #[.pointer (some ⟨b9, 0, none⟩)]] : Array Value).all (·.oneCell') = true := by simp [Value.oneCell']
  go_wp2_with (refine wpList_store_row rfl 64 _ _ rfl w.heap.size #[.func (.func 49) #[] #[], .func (.func 61) #[] #[.pointer (some ⟨b1, 0, none⟩)], .func (.func 61) #[] #[.pointer (some ⟨b2, 0, none⟩)], .func (.func 51) #[] #[], .func (.func 52) #[] #[], .func (.func 53) #[] #[], .func (.func 54) #[] #[], .func (.func 61) #[] #[.pointer (some ⟨b3, 0, none⟩)], .func (.func 61) #[] #[.pointer (some ⟨b4, 0, none⟩)], .func (.func 55) #[] #[], .func (.func 61) #[] #[.pointer (some ⟨b5, 0, none⟩)], .func (.func 56) #[] #[], .func (.func 57) #[] #[], .func (.func 61) #[] #[.pointer (some ⟨b6, 0, none⟩)], .func (.func 61) #[] #[.pointer (some ⟨b7, 0, none⟩)], .func (.func 58) #[] #[], .func (.func 61) #[] #[.pointer (some ⟨b8, 0, none⟩)], .func (.func 61) #[] #[.pointer (some ⟨b9, 0, none⟩)]] rfl rfl 64 _ C9.out (by kernel_rfl) rfl H1 ?_)
  refine bodyPost_ret (results_cell_row rfl _ _ w.heap.size 64 #[.func (.func 49) #[] #[], .func (.func 61) #[] #[.pointer (some ⟨b1, 0, none⟩)], .func (.func 61) #[] #[.pointer (some ⟨b2, 0, none⟩)], .func (.func 51) #[] #[], .func (.func 52) #[] #[], .func (.func 53) #[] #[], .func (.func 54) #[] #[], .func (.func 61) #[] #[.pointer (some ⟨b3, 0, none⟩)], .func (.func 61) #[] #[.pointer (some ⟨b4, 0, none⟩)], .func (.func 55) #[] #[], .func (.func 61) #[] #[.pointer (some ⟨b5, 0, none⟩)], .func (.func 56) #[] #[], .func (.func 57) #[] #[], .func (.func 61) #[] #[.pointer (some ⟨b6, 0, none⟩)], .func (.func 61) #[] #[.pointer (some ⟨b7, 0, none⟩)], .func (.func 58) #[] #[], .func (.func 61) #[] #[.pointer (some ⟨b8, 0, none⟩)], .func (.func 61) #[] #[.pointer (some ⟨b9, 0, none⟩)]] (0, 0) _ rfl (setRow_heap _ _ _ _ _ _ C9.out) Try.underlying64 rfl (by kernel_rfl)) rfl ⟨_, b1, b2, b3, b4, b5, b6, b7, b8, b9, rfl, ⟨fun _ => by kernel_rfl, fun _ => by kernel_rfl, fun _ => by kernel_rfl, fun _ => by kernel_rfl, fun _ => by kernel_rfl, fun _ => by kernel_rfl⟩, below_setRow B9.out (Nat.le_refl _) _, blk_setRow D1.out (Nat.ne_of_gt G1.out) _, blk_setRow D2.out (Nat.ne_of_gt G2.out) _, blk_setRow D3.out (Nat.ne_of_gt G3.out) _, blk_setRow D4.out (Nat.ne_of_gt G4.out) _, blk_setRow D5.out (Nat.ne_of_gt G5.out) _, blk_setRow D6.out (Nat.ne_of_gt G6.out) _, blk_setRow D7.out (Nat.ne_of_gt G7.out) _, blk_setRow D8.out (Nat.ne_of_gt G8.out) _, blk_setRow D9.out (Nat.ne_of_gt G9.out) _⟩

end Go.Proofs.Ytngledpkoeioiaa.P
