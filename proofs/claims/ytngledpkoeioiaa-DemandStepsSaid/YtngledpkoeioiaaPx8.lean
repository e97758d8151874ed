-- Written by a program of this session (hprint.py), out of the translation; functions that the print does not take are given by hand.
import Derived.Test.YtngledpkoeioiaaPx0
import Derived.Test.YtngledpkoeioiaaPx3
import Derived.Test.YtngledpkoeioiaaPx4
import Derived.Test.YtngledpkoeioiaaPx6
namespace Go.Proofs.Ytngledpkoeioiaa.P
open Go.RowKit Go.Proofs.YtngledpkoeioiaaM Go.Proofs.YtngledpkoeioiaaW.PrintWords Go.Proofs.YtngledpkoeioiaaW.PrintLast Go.Proofs.YtngledpkoeioiaaW.PrintMore
attribute [local go_sem] max2_int min2_int max_two min_two max_three min_three max_four min_four   -- for this text's walks alone
set_option linter.unusedVariables false
set_option linter.unusedSimpArgs false

/-! ### fuseelaw09_DemandSteps: function 4 -/
def fuseelaw09_DemandSteps.f (k : Nat) (a0_0 : Int) (a0_1 : Int) (a0_2 : Int) (a0_3 : Int) (a0_4 : Int) (a0_5 : Int) (a0_6 : Int) (a1 : Int) : Option (Bool) := (fuseelaw09_awake.f k).bind fun t190 => (if t190 = true then (if a1 < 0 then (some t190) else (if a1 > 1000000 then (some t190) else ((demand_May.f k (([(⟨(⟨a0_0, a0_1, a0_2, a0_3, a0_4, a0_5⟩ : S24), a0_6⟩ : S26)] : List (S26)))).bind fun t194 => (if t194 = true then ((demand_Of.f a0_0 a0_1 a0_2 a0_3 a0_4 a0_5 a0_6 a1).bind fun t195 => ((demand_Of.f a0_0 a0_1 a0_2 a0_3 a0_4 a0_5 a0_6 (wrap64 (a1 + 1))).bind fun t196 => (if a1 < a0_6 then (if t195 = 0 then (if t196 = t195 then (if (wrap64 (t196 - t195)) > a0_0 then (none) else (if t196 < t195 then (none) else (if a0_0 = 0 then (none) else (if (Int.tmod t195 a0_0) = 0 then (if a0_6 = 0 then (none) else (if t195 ≤ (wrap64 ((wrap64 (Int.tdiv a1 a0_6)) * a0_0)) then ((demand_Horizon.f k (([(⟨(⟨a0_0, a0_1, a0_2, a0_3, a0_4, a0_5⟩ : S24), a0_6⟩ : S26)] : List (S26)))).bind fun t200 => (some (t200 == (wrap64 (16 * a0_0))))) else (none))) else (none))))) else (if a0_6 = 0 then (none) else (if (Int.tmod (wrap64 (a1 + 1)) a0_6) = 0 then (if (wrap64 (t196 - t195)) > a0_0 then (none) else (if t196 < t195 then (none) else (if a0_0 = 0 then (none) else (if (Int.tmod t195 a0_0) = 0 then (if t195 ≤ (wrap64 ((wrap64 (Int.tdiv a1 a0_6)) * a0_0)) then ((demand_Horizon.f k (([(⟨(⟨a0_0, a0_1, a0_2, a0_3, a0_4, a0_5⟩ : S24), a0_6⟩ : S26)] : List (S26)))).bind fun t204 => (some (t204 == (wrap64 (16 * a0_0))))) else (none)) else (none))))) else (none)))) else (none)) else (if t196 = t195 then (if (wrap64 (t196 - t195)) > a0_0 then (none) else (if t196 < t195 then (none) else (if a0_0 = 0 then (none) else (if (Int.tmod t195 a0_0) = 0 then (if a0_6 = 0 then (none) else (if t195 ≤ (wrap64 ((wrap64 (Int.tdiv a1 a0_6)) * a0_0)) then ((demand_Horizon.f k (([(⟨(⟨a0_0, a0_1, a0_2, a0_3, a0_4, a0_5⟩ : S24), a0_6⟩ : S26)] : List (S26)))).bind fun t208 => (some (t208 == (wrap64 (16 * a0_0))))) else (none))) else (none))))) else (if a0_6 = 0 then (none) else (if (Int.tmod (wrap64 (a1 + 1)) a0_6) = 0 then (if (wrap64 (t196 - t195)) > a0_0 then (none) else (if t196 < t195 then (none) else (if a0_0 = 0 then (none) else (if (Int.tmod t195 a0_0) = 0 then (if t195 ≤ (wrap64 ((wrap64 (Int.tdiv a1 a0_6)) * a0_0)) then ((demand_Horizon.f k (([(⟨(⟨a0_0, a0_1, a0_2, a0_3, a0_4, a0_5⟩ : S24), a0_6⟩ : S26)] : List (S26)))).bind fun t212 => (some (t212 == (wrap64 (16 * a0_0))))) else (none)) else (none))))) else (none))))))) else (some t190))))) else (some t190))
theorem fuseelaw09_DemandSteps.mono : ∀ a0 a1 a2 a3 a4 a5 a6 a7 k, LeO (fuseelaw09_DemandSteps.f k a0 a1 a2 a3 a4 a5 a6 a7) (fuseelaw09_DemandSteps.f (k + 1) a0 a1 a2 a3 a4 a5 a6 a7) := by
  intro a0 a1 a2 a3 a4 a5 a6 a7 k
  unfold fuseelaw09_DemandSteps.f
  repeat' first
      | (with_reducible exact demand_Horizon.mono _ _)
      | (with_reducible exact demand_May.mono _ _)
      | (with_reducible exact fuseelaw09_awake.mono _)
      | (with_reducible exact LeO.refl _)
      | (with_reducible exact LeO.none _)
      | (with_reducible refine LeO.ite ?_ ?_)
      | (with_reducible refine LeO.bind ?_ (fun _ => ?_))
      | exact demand_Horizon.mono _ _
      | exact demand_May.mono _ _
      | exact fuseelaw09_awake.mono _
      | exact LeO.none _
      | refine LeO.ite ?_ ?_
      | refine LeO.bind ?_ (fun _ => ?_)
def fuseelaw09_DemandSteps.T8 : Bool × List (List Nat × List Nat) := (true, [([], []), ([], []), ([1], [1]), ([2], [2]), ([0, 3], [0, 3]), ([4], [4]), ([5], [5]), ([6], [6]), ([6], [6]), ([6], [6]), ([9, 6], [6, 9]), ([8, 10, 6], [6, 8, 10]), ([6], [6]), ([12, 6], [6, 12]), ([13, 6], [6, 13]), ([11, 14, 6], [6, 11, 14]), ([7, 15, 6], [6, 7, 15]), ([6, 16], [6, 16]), ([17, 6], [17]), ([18], [18]), ([19, 18], [18, 19]), ([20, 18, 18], [18, 20]), ([18], [18]), ([22, 18], [18, 22]), ([23, 18], [18, 23]), ([24, 18], [18, 24]), ([21, 25, 18], [18, 21, 25]), ([18, 26], [18, 26]), ([27, 21, 0, 1, 2, 3, 4, 5, 6, 7, 8, 9, 10, 11, 12, 13, 14, 15, 16, 17, 18, 19, 20, 21, 22, 23, 24, 25, 26, 27], [27])])
def fuseelaw09_DemandSteps.B8 : List Nat := [0, 0, 2, 6, 15, 31, 63, 127, 127, 127, 639, 1919, 127, 4223, 12415, 32639, 65535, 131071, 262143, 524287, 1048575, 2097151, 524287, 4718591, 13107199, 29884415, 67108863, 134217727, 268435455]
theorem fuseelaw09_DemandSteps.tab8 : rtab .any (opsOf Try.f4 8) = fuseelaw09_DemandSteps.T8 := by kernel_rfl
theorem fuseelaw09_DemandSteps.bits8 : waitsOk fuseelaw09_DemandSteps.T8.2 fuseelaw09_DemandSteps.B8 = true := by kernel_rfl
set_option maxHeartbeats 64000000 in
set_option maxRecDepth 100000 in
theorem fuseelaw09_DemandSteps.calls (k : Nat) (a0_0 : Int) (a0_1 : Int) (a0_2 : Int) (a0_3 : Int) (a0_4 : Int) (a0_5 : Int) (a0_6 : Int) (a1 : Int) (r : Bool) (w : World) (h : fuseelaw09_DemandSteps.f k a0_0 a0_1 a0_2 a0_3 a0_4 a0_5 a0_6 a1 = some r) :
    Calls Try.prog 4 #[.agg #[.int .i64 a0_0, .int .i64 a0_1, .int .i64 a0_2, .int .i64 a0_3, .int .i64 a0_4, .int .i64 a0_5, .int .i64 a0_6], .int .i64 a1] w fun e w' => e = .returned (.bool r) ∧ Below w.heap.size w w' := by
  have hu26 := Try.underlying26
  have HB := Aside0.mk (Below.refl w.heap.size w)
  have H : ((fuseelaw09_awake.f k).bind fun t190 => (if t190 = true then (if a1 < 0 then (some t190) else (if a1 > 1000000 then (some t190) else ((demand_May.f k (([(⟨(⟨a0_0, a0_1, a0_2, a0_3, a0_4, a0_5⟩ : S24), a0_6⟩ : S26)] : List (S26)))).bind fun t194 => (if t194 = true then ((demand_Of.f a0_0 a0_1 a0_2 a0_3 a0_4 a0_5 a0_6 a1).bind fun t195 => ((demand_Of.f a0_0 a0_1 a0_2 a0_3 a0_4 a0_5 a0_6 (wrap64 (a1 + 1))).bind fun t196 => (if a1 < a0_6 then (if t195 = 0 then (if t196 = t195 then (if (wrap64 (t196 - t195)) > a0_0 then (none) else (if t196 < t195 then (none) else (if a0_0 = 0 then (none) else (if (Int.tmod t195 a0_0) = 0 then (if a0_6 = 0 then (none) else (if t195 ≤ (wrap64 ((wrap64 (Int.tdiv a1 a0_6)) * a0_0)) then ((demand_Horizon.f k (([(⟨(⟨a0_0, a0_1, a0_2, a0_3, a0_4, a0_5⟩ : S24), a0_6⟩ : S26)] : List (S26)))).bind fun t200 => (some (t200 == (wrap64 (16 * a0_0))))) else (none))) else (none))))) else (if a0_6 = 0 then (none) else (if (Int.tmod (wrap64 (a1 + 1)) a0_6) = 0 then (if (wrap64 (t196 - t195)) > a0_0 then (none) else (if t196 < t195 then (none) else (if a0_0 = 0 then (none) else (if (Int.tmod t195 a0_0) = 0 then (if t195 ≤ (wrap64 ((wrap64 (Int.tdiv a1 a0_6)) * a0_0)) then ((demand_Horizon.f k (([(⟨(⟨a0_0, a0_1, a0_2, a0_3, a0_4, a0_5⟩ : S24), a0_6⟩ : S26)] : List (S26)))).bind fun t204 => (some (t204 == (wrap64 (16 * a0_0))))) else (none)) else (none))))) else (none)))) else (none)) else (if t196 = t195 then (if (wrap64 (t196 - t195)) > a0_0 then (none) else (if t196 < t195 then (none) else (if a0_0 = 0 then (none) else (if (Int.tmod t195 a0_0) = 0 then (if a0_6 = 0 then (none) else (if t195 ≤ (wrap64 ((wrap64 (Int.tdiv a1 a0_6)) * a0_0)) then ((demand_Horizon.f k (([(⟨(⟨a0_0, a0_1, a0_2, a0_3, a0_4, a0_5⟩ : S24), a0_6⟩ : S26)] : List (S26)))).bind fun t208 => (some (t208 == (wrap64 (16 * a0_0))))) else (none))) else (none))))) else (if a0_6 = 0 then (none) else (if (Int.tmod (wrap64 (a1 + 1)) a0_6) = 0 then (if (wrap64 (t196 - t195)) > a0_0 then (none) else (if t196 < t195 then (none) else (if a0_0 = 0 then (none) else (if (Int.tmod t195 a0_0) = 0 then (if t195 ≤ (wrap64 ((wrap64 (Int.tdiv a1 a0_6)) * a0_0)) then ((demand_Horizon.f k (([(⟨(⟨a0_0, a0_1, a0_2, a0_3, a0_4, a0_5⟩ : S24), a0_6⟩ : S26)] : List (S26)))).bind fun t212 => (some (t212 == (wrap64 (16 * a0_0))))) else (none)) else (none))))) else (none))))))) else (some t190))))) else (some t190))) = some r := h
  clear h
  replace H := Option.bind_eq_some_iff.mp H
  obtain ⟨t190, A30, H⟩ := H
  try dsimp only at H
  have A3 := Aside0.mk A30
  clear A30
  by_cases c4 : t190 = true
  · subst c4
    rw [if_pos rfl] at H
    by_cases c5 : a1 < 0
    · rw [if_pos c5] at H
      have c5b0 : decide (a1 < 0) = true := decide_eq_true c5
      clear c5
      obtain rfl := Option.some.inj H
      go_enter Try.func4, Try.ntmps4
      go_wp2_with (first | ((with_reducible refine gate_dst (N := 2) rfl ?_); (try (refine gate_guard (by rfl) ?_; dsimp only)); refine box_event ?hg (N := 2) ?hd (cs := #[.int .i64 a0_0, .int .i64 a0_1, .int .i64 a0_2, .int .i64 a0_3, .int .i64 a0_4, .int .i64 a0_5, .int .i64 a0_6]) (t := 26) ?hr ?_; (case hd => rfl); (case hg => rfl); (case hr => first | (go_simp; done) | (go_simp; rfl)); intro gb189 hg w6 hbox hb; have n0_ := bs HB hb; have n1_ := Aside0.mk (hbox); have n2_ := bz HB hg; have n3_ := bz HB hg; clear HB; have HB := n0_; have BK189 := n1_; have GW189 := n2_; have GE189 := n3_; clear n0_ n1_ n2_ n3_; clear hb hbox hg) | ((with_reducible refine gate_callee (f := 10) rfl ?_); refine goesL_ (some 8) rfl rfl Try.func10 (by kernel_rfl) rfl #[] rfl (by (try simp only [List.map_toArray, List.map_cons, List.map_nil]); first | done | rfl | (simp only [List.length_drop, List.length_take]; rfl)) ?_; (with_reducible refine (fuseelaw09_awake.calls k  true _ A3.out).mono ?_); rintro e w7 ⟨rfl, hb⟩; refine ⟨_, rfl, ?_⟩; have n0_ := bb BK189 hb; have n1_ := bs HB hb; clear BK189; clear HB; have BK189 := n0_; have HB := n1_; clear n0_ n1_; (try clear hb); (try clear hb2); (try clear hk); (try clear hi)))
      go_ret
      exact ⟨by first | rfl | (simp [errW_none, errW_some] <;> rfl) | (simp [*, errW_none, errW_some] <;> rfl) | (exfalso; contradiction), by repeat (first | (with_reducible first | exact HB.out | apply below_alloc | apply pw_below_drewN | apply below_drew1 | refine below_set ?_ GE189.out) | exact HB.out)⟩
    · rw [if_neg c5] at H
      have c5b0 : decide (a1 < 0) = false := decide_eq_false c5
      clear c5
      by_cases c8 : a1 > 1000000
      · rw [if_pos c8] at H
        have c8b0 : decide (1000000 < a1) = true := decide_eq_true c8
        clear c8
        obtain rfl := Option.some.inj H
        go_enter Try.func4, Try.ntmps4
        go_wp2_with (first | ((with_reducible refine gate_dst (N := 2) rfl ?_); (try (refine gate_guard (by rfl) ?_; dsimp only)); refine box_event ?hg (N := 2) ?hd (cs := #[.int .i64 a0_0, .int .i64 a0_1, .int .i64 a0_2, .int .i64 a0_3, .int .i64 a0_4, .int .i64 a0_5, .int .i64 a0_6]) (t := 26) ?hr ?_; (case hd => rfl); (case hg => rfl); (case hr => first | (go_simp; done) | (go_simp; rfl)); intro gb189 hg w9 hbox hb; have n0_ := bs HB hb; have n1_ := Aside0.mk (hbox); have n2_ := bz HB hg; have n3_ := bz HB hg; clear HB; have HB := n0_; have BK189 := n1_; have GW189 := n2_; have GE189 := n3_; clear n0_ n1_ n2_ n3_; clear hb hbox hg) | ((with_reducible refine gate_callee (f := 10) rfl ?_); refine goesL_ (some 8) rfl rfl Try.func10 (by kernel_rfl) rfl #[] rfl (by (try simp only [List.map_toArray, List.map_cons, List.map_nil]); first | done | rfl | (simp only [List.length_drop, List.length_take]; rfl)) ?_; (with_reducible refine (fuseelaw09_awake.calls k  true _ A3.out).mono ?_); rintro e w10 ⟨rfl, hb⟩; refine ⟨_, rfl, ?_⟩; have n0_ := bb BK189 hb; have n1_ := bs HB hb; clear BK189; clear HB; have BK189 := n0_; have HB := n1_; clear n0_ n1_; (try clear hb); (try clear hb2); (try clear hk); (try clear hi)))
        go_ret
        exact ⟨by first | rfl | (simp [errW_none, errW_some] <;> rfl) | (simp [*, errW_none, errW_some] <;> rfl) | (exfalso; contradiction), by repeat (first | (with_reducible first | exact HB.out | apply below_alloc | apply pw_below_drewN | apply below_drew1 | refine below_set ?_ GE189.out) | exact HB.out)⟩
      · rw [if_neg c8] at H
        have c8b0 : decide (1000000 < a1) = false := decide_eq_false c8
        clear c8
        obtain ⟨y191, hy191⟩ : ∃ y_ : List (S26), y_ = (([(⟨(⟨a0_0, a0_1, a0_2, a0_3, a0_4, a0_5⟩ : S24), a0_6⟩ : S26)] : List (S26))) := ⟨_, rfl⟩
        replace H : ((demand_May.f k y191).bind fun t194 => (if t194 = true then ((demand_Of.f a0_0 a0_1 a0_2 a0_3 a0_4 a0_5 a0_6 a1).bind fun t195 => ((demand_Of.f a0_0 a0_1 a0_2 a0_3 a0_4 a0_5 a0_6 (wrap64 (a1 + 1))).bind fun t196 => (if a1 < a0_6 then (if t195 = 0 then (if t196 = t195 then (if (wrap64 (t196 - t195)) > a0_0 then (none) else (if t196 < t195 then (none) else (if a0_0 = 0 then (none) else (if (Int.tmod t195 a0_0) = 0 then (if a0_6 = 0 then (none) else (if t195 ≤ (wrap64 ((wrap64 (Int.tdiv a1 a0_6)) * a0_0)) then ((demand_Horizon.f k (([(⟨(⟨a0_0, a0_1, a0_2, a0_3, a0_4, a0_5⟩ : S24), a0_6⟩ : S26)] : List (S26)))).bind fun t200 => (some (t200 == (wrap64 (16 * a0_0))))) else (none))) else (none))))) else (if a0_6 = 0 then (none) else (if (Int.tmod (wrap64 (a1 + 1)) a0_6) = 0 then (if (wrap64 (t196 - t195)) > a0_0 then (none) else (if t196 < t195 then (none) else (if a0_0 = 0 then (none) else (if (Int.tmod t195 a0_0) = 0 then (if t195 ≤ (wrap64 ((wrap64 (Int.tdiv a1 a0_6)) * a0_0)) then ((demand_Horizon.f k (([(⟨(⟨a0_0, a0_1, a0_2, a0_3, a0_4, a0_5⟩ : S24), a0_6⟩ : S26)] : List (S26)))).bind fun t204 => (some (t204 == (wrap64 (16 * a0_0))))) else (none)) else (none))))) else (none)))) else (none)) else (if t196 = t195 then (if (wrap64 (t196 - t195)) > a0_0 then (none) else (if t196 < t195 then (none) else (if a0_0 = 0 then (none) else (if (Int.tmod t195 a0_0) = 0 then (if a0_6 = 0 then (none) else (if t195 ≤ (wrap64 ((wrap64 (Int.tdiv a1 a0_6)) * a0_0)) then ((demand_Horizon.f k (([(⟨(⟨a0_0, a0_1, a0_2, a0_3, a0_4, a0_5⟩ : S24), a0_6⟩ : S26)] : List (S26)))).bind fun t208 => (some (t208 == (wrap64 (16 * a0_0))))) else (none))) else (none))))) else (if a0_6 = 0 then (none) else (if (Int.tmod (wrap64 (a1 + 1)) a0_6) = 0 then (if (wrap64 (t196 - t195)) > a0_0 then (none) else (if t196 < t195 then (none) else (if a0_0 = 0 then (none) else (if (Int.tmod t195 a0_0) = 0 then (if t195 ≤ (wrap64 ((wrap64 (Int.tdiv a1 a0_6)) * a0_0)) then ((demand_Horizon.f k (([(⟨(⟨a0_0, a0_1, a0_2, a0_3, a0_4, a0_5⟩ : S24), a0_6⟩ : S26)] : List (S26)))).bind fun t212 => (some (t212 == (wrap64 (16 * a0_0))))) else (none)) else (none))))) else (none))))))) else (some true))) = some r := by first | (rw [hy191]; with_reducible exact H) | (have H2_ := (Option.bind_some _ _).symm.trans H; rw [hy191]; with_reducible exact H2_) | (have H2_ := (Option.bind_some _ _).symm.trans H; with_reducible exact H2_) | with_reducible exact H | (rw [hy191]; exact H) | exact H
        have Ny191 := Aside0.mk hy191
        clear hy191
        replace H := Option.bind_eq_some_iff.mp H
        obtain ⟨t194, A110, H⟩ := H
        try dsimp only at H
        have A11 := Aside0.mk A110
        clear A110
        by_cases c12 : t194 = true
        · subst c12
          rw [if_pos rfl] at H
          replace H := Option.bind_eq_some_iff.mp H
          obtain ⟨t195, A130, H⟩ := H
          try dsimp only at H
          have A13 := Aside0.mk A130
          clear A130
          replace H := Option.bind_eq_some_iff.mp H
          obtain ⟨t196, A140, H⟩ := H
          try dsimp only at H
          have A14 := Aside0.mk A140
          clear A140
          by_cases c15 : a1 < a0_6
          · rw [if_pos c15] at H
            have c15b0 : decide (a1 < a0_6) = true := decide_eq_true c15
            clear c15
            by_cases c16 : t195 = 0
            · rw [if_pos c16] at H
              have c16b0 : (t195 == 0) = true := beq_iff_eq.mpr c16
              have c16b1 : (t195 != 0) = false := bne_eq_false_iff_eq.mpr c16
              clear c16
              by_cases c17 : t196 = t195
              · rw [if_pos c17] at H
                have c17b0 : (t196 == t195) = true := beq_iff_eq.mpr c17
                have c17b1 : (t196 != t195) = false := bne_eq_false_iff_eq.mpr c17
                clear c17
                by_cases c18 : (wrap64 (t196 - t195)) > a0_0
                · rw [if_pos c18] at H
                  exact absurd H (by simp)
                · rw [if_neg c18] at H
                  have c18b0 : decide (a0_0 < (wrap64 (t196 - t195))) = false := decide_eq_false c18
                  clear c18
                  by_cases c19 : t196 < t195
                  · rw [if_pos c19] at H
                    exact absurd H (by simp)
                  · rw [if_neg c19] at H
                    have c19b0 : decide (t196 < t195) = false := decide_eq_false c19
                    clear c19
                    by_cases c20 : a0_0 = 0
                    · rw [if_pos c20] at H
                      exact absurd H (by simp)
                    · rw [if_neg c20] at H
                      have c20b0 : (a0_0 == 0) = false := beq_eq_false_iff_ne.mpr c20
                      have c20b1 : (a0_0 != 0) = true := bne_iff_ne.mpr c20
                      by_cases c21 : (Int.tmod t195 a0_0) = 0
                      · rw [if_pos c21] at H
                        have c21b0 : ((Int.tmod t195 a0_0) == 0) = true := beq_iff_eq.mpr c21
                        have c21b1 : ((Int.tmod t195 a0_0) != 0) = false := bne_eq_false_iff_eq.mpr c21
                        clear c21
                        by_cases c22 : a0_6 = 0
                        · rw [if_pos c22] at H
                          exact absurd H (by simp)
                        · rw [if_neg c22] at H
                          have c22b0 : (a0_6 == 0) = false := beq_eq_false_iff_ne.mpr c22
                          have c22b1 : (a0_6 != 0) = true := bne_iff_ne.mpr c22
                          by_cases c23 : t195 ≤ (wrap64 ((wrap64 (Int.tdiv a1 a0_6)) * a0_0))
                          · rw [if_pos c23] at H
                            have c23b0 : decide (t195 ≤ (wrap64 ((wrap64 (Int.tdiv a1 a0_6)) * a0_0))) = true := decide_eq_true c23
                            clear c23
                            obtain ⟨y197, hy197⟩ : ∃ y_ : List (S26), y_ = (([(⟨(⟨a0_0, a0_1, a0_2, a0_3, a0_4, a0_5⟩ : S24), a0_6⟩ : S26)] : List (S26))) := ⟨_, rfl⟩
                            replace H : ((demand_Horizon.f k y197).bind fun t200 => (some (t200 == (wrap64 (16 * a0_0))))) = some r := by first | (rw [hy197]; with_reducible exact H) | (have H2_ := (Option.bind_some _ _).symm.trans H; rw [hy197]; with_reducible exact H2_) | (have H2_ := (Option.bind_some _ _).symm.trans H; with_reducible exact H2_) | with_reducible exact H | (rw [hy197]; exact H) | exact H
                            have Ny197 := Aside0.mk hy197
                            clear hy197
                            replace H := Option.bind_eq_some_iff.mp H
                            obtain ⟨t200, A240, H⟩ := H
                            try dsimp only at H
                            have A24 := Aside0.mk A240
                            clear A240
                            obtain rfl := Option.some.inj H
                            go_enter Try.func4, Try.ntmps4
                            try go_wp2_with (first | ((with_reducible refine gate_dst (N := 2) rfl ?_); (try (refine gate_guard (by rfl) ?_; dsimp only)); refine box_event ?hg (N := 2) ?hd (cs := #[.int .i64 a0_0, .int .i64 a0_1, .int .i64 a0_2, .int .i64 a0_3, .int .i64 a0_4, .int .i64 a0_5, .int .i64 a0_6]) (t := 26) ?hr ?_; (case hd => rfl); (case hg => rfl); (case hr => first | (go_simp; done) | (go_simp; rfl)); intro gb189 hg w25 hbox hb; have n0_ := bs HB hb; have n1_ := Aside0.mk (hbox); have n2_ := bz HB hg; have n3_ := bz HB hg; clear HB; have HB := n0_; have BK189 := n1_; have GW189 := n2_; have GE189 := n3_; clear n0_ n1_ n2_ n3_; clear hb hbox hg) | ((with_reducible refine gate_callee (f := 10) rfl ?_); refine goesL_ (some 8) rfl rfl Try.func10 (by kernel_rfl) rfl #[] rfl (by (try simp only [List.map_toArray, List.map_cons, List.map_nil]); first | done | rfl | (simp only [List.length_drop, List.length_take]; rfl)) ?_; (with_reducible refine (fuseelaw09_awake.calls k  true _ A3.out).mono ?_); rintro e w26 ⟨rfl, hb⟩; refine ⟨_, rfl, ?_⟩; have n0_ := bb BK189 hb; have n1_ := bs HB hb; clear BK189; clear HB; have BK189 := n0_; have HB := n1_; clear n0_ n1_; (try clear hb); (try clear hb2); (try clear hk); (try clear hi); obtain ⟨hcz27_0, hcz27_1, hcz27_2, hcz27_3, hcz27_4, hcz27_5, hcz27_6⟩ := cc7 BK189; obtain ⟨hfz27_0, hfz27_1, hfz27_2, hfz27_3, hfz27_4, hfz27_5, hfz27_6⟩ := cf7 BK189) | ((with_reducible refine gate_dst (N := 21) rfl ?_); (try (refine gate_guard (by rfl) ?_; dsimp only)); refine Kd.R_lit k26 _ 26 ?hg (N := 21) ?hd (xs := ([(⟨(⟨a0_0, a0_1, a0_2, a0_3, a0_4, a0_5⟩ : S24), a0_6⟩ : S26)] : List (S26))) (inner := [.int .i64 a0_0, .int .i64 a0_1, .int .i64 a0_2, .int .i64 a0_3, .int .i64 a0_4, .int .i64 a0_5, .int .i64 a0_6]) (ok := fun _ => True) (okp := fun _ => True) ?hr ?hp (fun _ hk => hk) trivial (Below.refl _ _) (Nat.le_refl _) (by simp) ?_; (case hd => rfl); (case hg => rfl); (case hr => first | (go_simp; done) | (go_simp; rfl)); (case hp => exact (Reps.c7 (show Kd.M k26 _ _ _ (⟨(⟨a0_0, a0_1, a0_2, a0_3, a0_4, a0_5⟩ : S24), a0_6⟩ : S26) [.int .i64 a0_0, .int .i64 a0_1, .int .i64 a0_2, .int .i64 a0_3, .int .i64 a0_4, .int .i64 a0_5, .int .i64 a0_6] from (k26_mkM _ _ _ (⟨(⟨a0_0, a0_1, a0_2, a0_3, a0_4, a0_5⟩ : S24), a0_6⟩ : S26) )) (Reps.none _ _))); intro v192 w28 ho29 hb hg_ hnew_; clear hg_ hnew_; (first | rw [← Ny191.out] at ho29 | (simp only [Int.reduceToNat] at ho29; rw [← Ny191.out] at ho29)); have n0_ := Aside0.mk (Kd.R_lower (Kd.R_newB ho29 (g := gb189) (o := .cells #[.int .i64 a0_0, .int .i64 a0_1, .int .i64 a0_2, .int .i64 a0_3, .int .i64 a0_4, .int .i64 a0_5, .int .i64 a0_6] 26 (0, 0)) (by (with_reducible repeat (first | refine bN ?_ _ | refine bD ?_ | refine bA ?_ _)); exact BK189.out)) (below_size (by repeat (first | (with_reducible first | exact HB.out | apply below_alloc | apply pw_below_drewN | apply below_drew1 | refine below_set ?_ GE189.out) | exact HB.out)))); have n1_ := bb BK189 hb; have n2_ := bs HB hb; clear BK189; clear HB; have HO193 := n0_; have BK189 := n1_; have HB := n2_; clear n0_ n1_ n2_; clear hb ho29; obtain ⟨Ao30, co30, eo30⟩ := Kd.R_slice HO193.out; subst eo30) | (go_at_call 13; (with_reducible refine (demand_May.calls k _ _ y191 true _ ?side1 ?side2 A11.out).mono ?_); (case side1 => repeat (first | exact (Kd.R_reads' HO193.out).2.2 | (with_reducible refine Kd.C_alloc ?_ _) | (with_reducible refine Kd.C_drewN ?_ _) | (with_reducible refine Kd.C_drew ?_))); (case side2 => exact (Kd.R_reads' HO193.out).2.1); rintro e w31 ⟨rfl, hb⟩; have n0_ := Aside0.mk (Kd.R_below (by (with_reducible repeat (first | apply Kd.R_alloc | apply Kd.R_drewN | apply Kd.R_drew)); exact HO193.out) hb); have n1_ := bb BK189 hb; have n2_ := bs HB hb; clear HO193; clear BK189; clear HB; have HO193 := n0_; have BK189 := n1_; have HB := n2_; clear n0_ n1_ n2_; (try clear hb); (try clear hb2); (try clear hk); (try clear hi); (try clear hcz27_0 hcz27_1 hcz27_2 hcz27_3 hcz27_4 hcz27_5 hcz27_6 hfz27_0 hfz27_1 hfz27_2 hfz27_3 hfz27_4 hfz27_5 hfz27_6); obtain ⟨hcz32_0, hcz32_1, hcz32_2, hcz32_3, hcz32_4, hcz32_5, hcz32_6⟩ := cc7 BK189; obtain ⟨hfz32_0, hfz32_1, hfz32_2, hfz32_3, hfz32_4, hfz32_5, hfz32_6⟩ := cf7 BK189) | ((with_reducible refine gate_callee (f := 11) rfl ?_); refine goesL_ (some 28) rfl rfl Try.func11 (by kernel_rfl) rfl #[.agg #[.int .i64 a0_0, .int .i64 a0_1, .int .i64 a0_2, .int .i64 a0_3, .int .i64 a0_4, .int .i64 a0_5, .int .i64 a0_6], .int .i64 a1] rfl (by (try simp only [List.map_toArray, List.map_cons, List.map_nil]); first | done | rfl | (simp only [List.length_drop, List.length_take]; rfl)) ?_; (with_reducible refine (demand_Of.calls a0_0 a0_1 a0_2 a0_3 a0_4 a0_5 a0_6 a1 t195 _ A13.out).mono ?_); rintro e w33 ⟨rfl, hb⟩; refine ⟨_, rfl, ?_⟩; have n0_ := Aside0.mk (Kd.R_below (by (with_reducible repeat (first | apply Kd.R_alloc | apply Kd.R_drewN | apply Kd.R_drew)); exact HO193.out) hb); have n1_ := bb BK189 hb; have n2_ := bs HB hb; clear HO193; clear BK189; clear HB; have HO193 := n0_; have BK189 := n1_; have HB := n2_; clear n0_ n1_ n2_; (try clear hb); (try clear hb2); (try clear hk); (try clear hi); (try clear hcz27_0 hcz27_1 hcz27_2 hcz27_3 hcz27_4 hcz27_5 hcz27_6 hfz27_0 hfz27_1 hfz27_2 hfz27_3 hfz27_4 hfz27_5 hfz27_6); (try clear hcz32_0 hcz32_1 hcz32_2 hcz32_3 hcz32_4 hcz32_5 hcz32_6 hfz32_0 hfz32_1 hfz32_2 hfz32_3 hfz32_4 hfz32_5 hfz32_6); obtain ⟨hcz34_0, hcz34_1, hcz34_2, hcz34_3, hcz34_4, hcz34_5, hcz34_6⟩ := cc7 BK189; obtain ⟨hfz34_0, hfz34_1, hfz34_2, hfz34_3, hfz34_4, hfz34_5, hfz34_6⟩ := cf7 BK189) | ((with_reducible refine gate_callee (f := 11) rfl ?_); refine goesL_ (some 32) rfl rfl Try.func11 (by kernel_rfl) rfl #[.agg #[.int .i64 a0_0, .int .i64 a0_1, .int .i64 a0_2, .int .i64 a0_3, .int .i64 a0_4, .int .i64 a0_5, .int .i64 a0_6], .int .i64 (wrap64 (a1 + 1))] rfl (by (try simp only [List.map_toArray, List.map_cons, List.map_nil]); first | done | rfl | (simp only [List.length_drop, List.length_take]; rfl)) ?_; (with_reducible refine (demand_Of.calls a0_0 a0_1 a0_2 a0_3 a0_4 a0_5 a0_6 (wrap64 (a1 + 1)) t196 _ A14.out).mono ?_); rintro e w35 ⟨rfl, hb⟩; refine ⟨_, rfl, ?_⟩; have n0_ := Aside0.mk (Kd.R_below (by (with_reducible repeat (first | apply Kd.R_alloc | apply Kd.R_drewN | apply Kd.R_drew)); exact HO193.out) hb); have n1_ := bb BK189 hb; have n2_ := bs HB hb; clear HO193; clear BK189; clear HB; have HO193 := n0_; have BK189 := n1_; have HB := n2_; clear n0_ n1_ n2_; (try clear hb); (try clear hb2); (try clear hk); (try clear hi); (try clear hcz27_0 hcz27_1 hcz27_2 hcz27_3 hcz27_4 hcz27_5 hcz27_6 hfz27_0 hfz27_1 hfz27_2 hfz27_3 hfz27_4 hfz27_5 hfz27_6); (try clear hcz32_0 hcz32_1 hcz32_2 hcz32_3 hcz32_4 hcz32_5 hcz32_6 hfz32_0 hfz32_1 hfz32_2 hfz32_3 hfz32_4 hfz32_5 hfz32_6); (try clear hcz34_0 hcz34_1 hcz34_2 hcz34_3 hcz34_4 hcz34_5 hcz34_6 hfz34_0 hfz34_1 hfz34_2 hfz34_3 hfz34_4 hfz34_5 hfz34_6); obtain ⟨hcz36_0, hcz36_1, hcz36_2, hcz36_3, hcz36_4, hcz36_5, hcz36_6⟩ := cc7 BK189; obtain ⟨hfz36_0, hfz36_1, hfz36_2, hfz36_3, hfz36_4, hfz36_5, hfz36_6⟩ := cf7 BK189))
                            have n0_ := Aside0.mk (Kd.R_drew HO193.out)
                            have n1_ := Aside0.mk (blk_drew BK189.out)
                            have n2_ := Aside0.mk (below_drew1 HB.out)
                            clear HO193
                            clear BK189
                            clear HB
                            have HO193 := n0_
                            have BK189 := n1_
                            have HB := n2_
                            clear n0_ n1_ n2_
                            refine start_ (n := 29) (S := fun w' => w'.cell? ⟨gb189, 0, none⟩ = some (.int .i64 a0_0) ∧ w'.cell? ⟨gb189, 1, none⟩ = some (.int .i64 a0_1) ∧ w'.cell? ⟨gb189, 2, none⟩ = some (.int .i64 a0_2) ∧ w'.cell? ⟨gb189, 3, none⟩ = some (.int .i64 a0_3) ∧ w'.cell? ⟨gb189, 4, none⟩ = some (.int .i64 a0_4) ∧ w'.cell? ⟨gb189, 5, none⟩ = some (.int .i64 a0_5) ∧ w'.cell? ⟨gb189, 6, none⟩ = some (.int .i64 a0_6)) (ds := []) #[false, false, false, false, false, false, false, false, false, false, false, false, false, false, false, false, false, false, false, false, false, false, false, false, false, false, false, false, false] (by kernel_rfl) rfl rfl ⟨(blk_cell BK189.out 0).trans rfl, (blk_cell BK189.out 1).trans rfl, (blk_cell BK189.out 2).trans rfl, (blk_cell BK189.out 3).trans rfl, (blk_cell BK189.out 4).trans rfl, (blk_cell BK189.out 5).trans rfl, (blk_cell BK189.out 6).trans rfl⟩ (fun hHeld => ?_); refine with_tabW fuseelaw09_DemandSteps.tab8 fuseelaw09_DemandSteps.bits8 (fun HT_ HW_ => ?_)
                            generalize w35.drew = w37 at HO193 BK189 HB hHeld ⊢
                            refine pure_ (i := 0) (N := some 68) (v := ?_) (a' := ?_) #[true, false, false, false, false, false, false, false, false, false, false, false, false, false, false, false, false, false, false, false, false, false, false, false, false, false, false, false, false] rfl rfl (any_of HT_.out (by kernel_rfl)) (fun _ _ _ h => h) (Or.inl ⟨by rfl, ?_⟩) ?_ ?_
                            rotate_left; focus (intro w'; go_simp; with_reducible rfl)
                            rotate_left; focus (simp only [Act.put, List.setIfInBounds_toArray, List.set_cons_zero, List.set_cons_succ, i64_w, i32_w]; rfl)
                            refine pure_ (i := 1) (N := some 69) (v := ?_) (a' := ?_) #[true, true, false, false, false, false, false, false, false, false, false, false, false, false, false, false, false, false, false, false, false, false, false, false, false, false, false, false, false] rfl rfl (any_of HT_.out (by kernel_rfl)) (fun _ _ _ h => h) (Or.inl ⟨by rfl, ?_⟩) ?_ ?_
                            rotate_left; focus (intro w'; go_simp; with_reducible rfl)
                            rotate_left; focus (simp only [Act.put, List.setIfInBounds_toArray, List.set_cons_zero, List.set_cons_succ, i64_w, i32_w]; rfl)
                            refine pure_ (i := 2) (N := some 70) (v := ?_) (a' := ?_) #[true, true, true, false, false, false, false, false, false, false, false, false, false, false, false, false, false, false, false, false, false, false, false, false, false, false, false, false, false] rfl rfl (any_of HT_.out (by kernel_rfl)) (fun _ _ _ h => h) (Or.inl ⟨by rfl, ?_⟩) ?_ ?_
                            rotate_left; focus (intro w'; go_simp; with_reducible rfl)
                            rotate_left; focus (simp only [Act.put, List.setIfInBounds_toArray, List.set_cons_zero, List.set_cons_succ, i64_w, i32_w]; rfl)
                            refine take_ (i := 3) (N := some 71) (v := ?_) (a' := ?_) #[true, true, true, true, false, false, false, false, false, false, false, false, false, false, false, false, false, false, false, false, false, false, false, false, false, false, false, false, false] rfl rfl (take_ofW HT_.out HW_.out (by kernel_rfl)) (fun _ _ _ h => h) (Or.inl ⟨by rfl, ?_⟩) hHeld ?_ ?_
                            rotate_left
                            · rintro w' ⟨s0, s1, s2, s3, s4, s5, s6⟩
                              go_simp
                              with_reducible rfl
                            rotate_left; focus (simp only [Act.put, List.setIfInBounds_toArray, List.set_cons_zero, List.set_cons_succ, i64_w, i32_w]; rfl)
                            refine pure_ (i := 4) (N := some 72) (v := ?_) (a' := ?_) #[true, true, true, true, true, false, false, false, false, false, false, false, false, false, false, false, false, false, false, false, false, false, false, false, false, false, false, false, false] rfl rfl (any_of HT_.out (by kernel_rfl)) (fun _ _ _ h => h) (Or.inl ⟨by rfl, ?_⟩) ?_ ?_
                            rotate_left; focus (intro w'; go_simp; with_reducible rfl)
                            rotate_left; focus (simp only [Act.put, List.setIfInBounds_toArray, List.set_cons_zero, List.set_cons_succ, i64_w, i32_w]; rfl)
                            refine pure_ (i := 5) (N := some 73) (v := ?_) (a' := ?_) #[true, true, true, true, true, true, false, false, false, false, false, false, false, false, false, false, false, false, false, false, false, false, false, false, false, false, false, false, false] rfl rfl (any_of HT_.out (by kernel_rfl)) (fun _ _ _ h => h) (Or.inl ⟨by rfl, ?_⟩) ?_ ?_
                            rotate_left; focus (intro w'; go_simp; with_reducible rfl)
                            rotate_left; focus (simp only [Act.put, List.setIfInBounds_toArray, List.set_cons_zero, List.set_cons_succ, i64_w, i32_w]; rfl)
                            refine pure_ (i := 6) (N := some 74) (v := ?_) (a' := ?_) #[true, true, true, true, true, true, true, false, false, false, false, false, false, false, false, false, false, false, false, false, false, false, false, false, false, false, false, false, false] rfl rfl (any_of HT_.out (by kernel_rfl)) (fun _ _ _ h => h) (Or.inl ⟨by rfl, ?_⟩) ?_ ?_
                            rotate_left; focus (intro w'; go_simp; with_reducible rfl)
                            rotate_left; focus (simp only [Act.put, List.setIfInBounds_toArray, List.set_cons_zero, List.set_cons_succ, i64_w, i32_w]; rfl)
                            refine pure_ (i := 7) (N := some 75) (v := ?_) (a' := ?_) #[true, true, true, true, true, true, true, true, false, false, false, false, false, false, false, false, false, false, false, false, false, false, false, false, false, false, false, false, false] rfl rfl (any_of HT_.out (by kernel_rfl)) (fun _ _ _ h => h) (Or.inl ⟨by rfl, ?_⟩) ?_ ?_
                            rotate_left; focus (intro w'; go_simp; with_reducible rfl)
                            rotate_left; focus (simp only [Act.put, List.setIfInBounds_toArray, List.set_cons_zero, List.set_cons_succ, i64_w, i32_w]; rfl)
                            refine pure_ (i := 8) (N := some 76) (v := ?_) (a' := ?_) #[true, true, true, true, true, true, true, true, true, false, false, false, false, false, false, false, false, false, false, false, false, false, false, false, false, false, false, false, false] rfl rfl (any_of HT_.out (by kernel_rfl)) (fun _ _ _ h => h) (Or.inl ⟨by rfl, ?_⟩) ?_ ?_
                            rotate_left; focus (intro w'; go_simp; with_reducible rfl)
                            rotate_left; focus (simp only [Act.put, List.setIfInBounds_toArray, List.set_cons_zero, List.set_cons_succ, i64_w, i32_w]; rfl)
                            refine pure_ (i := 9) (N := some 77) (v := ?_) (a' := ?_) #[true, true, true, true, true, true, true, true, true, true, false, false, false, false, false, false, false, false, false, false, false, false, false, false, false, false, false, false, false] rfl rfl (any_of HT_.out (by kernel_rfl)) (fun _ _ _ h => h) (Or.inl ⟨by rfl, ?_⟩) ?_ ?_
                            rotate_left; focus (intro w'; go_simp; with_reducible rfl)
                            rotate_left; focus (simp only [Act.put, List.setIfInBounds_toArray, List.set_cons_zero, List.set_cons_succ, i64_w, i32_w]; rfl)
                            refine pure_ (i := 12) (N := some 80) (v := ?_) (a' := ?_) #[true, true, true, true, true, true, true, true, true, true, false, false, true, false, false, false, false, false, false, false, false, false, false, false, false, false, false, false, false] rfl rfl (any_of HT_.out (by kernel_rfl)) (fun _ _ _ h => h) (Or.inl ⟨by rfl, ?_⟩) ?_ ?_
                            rotate_left; focus (intro w'; go_simp; with_reducible rfl)
                            rotate_left; focus (simp only [Act.put, List.setIfInBounds_toArray, List.set_cons_zero, List.set_cons_succ, i64_w, i32_w]; rfl)
                            refine pure_ (i := 13) (N := some 81) (v := ?_) (a' := ?_) #[true, true, true, true, true, true, true, true, true, true, false, false, true, true, false, false, false, false, false, false, false, false, false, false, false, false, false, false, false] rfl rfl (any_of HT_.out (by kernel_rfl)) (fun _ _ _ h => h) (Or.inl ⟨by rfl, ?_⟩) ?_ ?_
                            rotate_left; focus (intro w'; go_simp; with_reducible rfl)
                            rotate_left; focus (simp only [Act.put, List.setIfInBounds_toArray, List.set_cons_zero, List.set_cons_succ, i64_w, i32_w]; rfl)
                            refine take_ (i := 10) (N := some 78) (v := ?_) (a' := ?_) #[true, true, true, true, true, true, true, true, true, true, true, false, true, true, false, false, false, false, false, false, false, false, false, false, false, false, false, false, false] rfl rfl (take_ofW HT_.out HW_.out (by kernel_rfl)) (fun _ _ _ h => h) (Or.inl ⟨by rfl, ?_⟩) hHeld ?_ ?_
                            rotate_left
                            · rintro w' ⟨s0, s1, s2, s3, s4, s5, s6⟩
                              go_simp
                              with_reducible rfl
                            rotate_left; focus (simp only [Act.put, List.setIfInBounds_toArray, List.set_cons_zero, List.set_cons_succ, i64_w, i32_w]; rfl)
                            refine pure_ (i := 11) (N := some 79) (v := ?_) (a' := ?_) #[true, true, true, true, true, true, true, true, true, true, true, true, true, true, false, false, false, false, false, false, false, false, false, false, false, false, false, false, false] rfl rfl (any_of HT_.out (by kernel_rfl)) (fun _ _ _ h => h) (Or.inl ⟨by rfl, ?_⟩) ?_ ?_
                            rotate_left; focus (intro w'; go_simp; with_reducible rfl)
                            rotate_left; focus (simp only [Act.put, List.setIfInBounds_toArray, List.set_cons_zero, List.set_cons_succ, i64_w, i32_w]; rfl)
                            refine take_ (i := 14) (N := some 82) (v := ?_) (a' := ?_) #[true, true, true, true, true, true, true, true, true, true, true, true, true, true, true, false, false, false, false, false, false, false, false, false, false, false, false, false, false] rfl rfl (take_ofW HT_.out HW_.out (by kernel_rfl)) (fun _ _ _ h => h) (Or.inl ⟨by rfl, ?_⟩) hHeld ?_ ?_
                            rotate_left
                            · rintro w' ⟨s0, s1, s2, s3, s4, s5, s6⟩
                              go_simp
                              with_reducible rfl
                            rotate_left; focus (simp only [Act.put, List.setIfInBounds_toArray, List.set_cons_zero, List.set_cons_succ, i64_w, i32_w]; rfl)
                            refine pure_ (i := 15) (N := some 83) (v := ?_) (a' := ?_) #[true, true, true, true, true, true, true, true, true, true, true, true, true, true, true, true, false, false, false, false, false, false, false, false, false, false, false, false, false] rfl rfl (any_of HT_.out (by kernel_rfl)) (fun _ _ _ h => h) (Or.inl ⟨by rfl, ?_⟩) ?_ ?_
                            rotate_left; focus (intro w'; go_simp; with_reducible rfl)
                            rotate_left; focus (simp only [Act.put, List.setIfInBounds_toArray, List.set_cons_zero, List.set_cons_succ, i64_w, i32_w]; rfl)
                            refine pure_ (i := 16) (N := some 84) (v := ?_) (a' := ?_) #[true, true, true, true, true, true, true, true, true, true, true, true, true, true, true, true, true, false, false, false, false, false, false, false, false, false, false, false, false] rfl rfl (any_of HT_.out (by kernel_rfl)) (fun _ _ _ h => h) (Or.inl ⟨by rfl, ?_⟩) ?_ ?_
                            rotate_left; focus (intro w'; go_simp; with_reducible rfl)
                            rotate_left; focus (simp only [Act.put, List.setIfInBounds_toArray, List.set_cons_zero, List.set_cons_succ, i64_w, i32_w]; rfl)
                            refine pure_ (i := 17) (N := some 85) (v := ?_) (a' := ?_) #[true, true, true, true, true, true, true, true, true, true, true, true, true, true, true, true, true, true, false, false, false, false, false, false, false, false, false, false, false] rfl rfl (any_of HT_.out (by kernel_rfl)) (fun _ _ _ h => h) (Or.inl ⟨by rfl, ?_⟩) ?_ ?_
                            rotate_left; focus (intro w'; go_simp; with_reducible rfl)
                            rotate_left; focus (simp only [Act.put, List.setIfInBounds_toArray, List.set_cons_zero, List.set_cons_succ, i64_w, i32_w]; rfl)
                            refine pure_ (i := 18) (N := some 86) (v := ?_) (a' := ?_) #[true, true, true, true, true, true, true, true, true, true, true, true, true, true, true, true, true, true, true, false, false, false, false, false, false, false, false, false, false] rfl rfl (any_of HT_.out (by kernel_rfl)) (fun _ _ _ h => h) (Or.inl ⟨by rfl, ?_⟩) ?_ ?_
                            rotate_left; focus (intro w'; go_simp; with_reducible rfl)
                            rotate_left; focus (simp only [Act.put, List.setIfInBounds_toArray, List.set_cons_zero, List.set_cons_succ, i64_w, i32_w]; rfl)
                            refine pure_ (i := 22) (N := some 90) (v := ?_) (a' := ?_) #[true, true, true, true, true, true, true, true, true, true, true, true, true, true, true, true, true, true, true, false, false, false, true, false, false, false, false, false, false] rfl rfl (any_of HT_.out (by kernel_rfl)) (fun _ _ _ h => h) (Or.inl ⟨by rfl, ?_⟩) ?_ ?_
                            rotate_left; focus (intro w'; go_simp; with_reducible rfl)
                            rotate_left; focus (simp only [Act.put, List.setIfInBounds_toArray, List.set_cons_zero, List.set_cons_succ, i64_w, i32_w]; rfl)
                            refine pure_ (i := 23) (N := some 91) (v := ?_) (a' := ?_) #[true, true, true, true, true, true, true, true, true, true, true, true, true, true, true, true, true, true, true, false, false, false, true, true, false, false, false, false, false] rfl rfl (any_of HT_.out (by kernel_rfl)) (fun _ _ _ h => h) (Or.inl ⟨by rfl, ?_⟩) ?_ ?_
                            rotate_left; focus (intro w'; go_simp; with_reducible rfl)
                            rotate_left; focus (simp only [Act.put, List.setIfInBounds_toArray, List.set_cons_zero, List.set_cons_succ, i64_w, i32_w]; rfl)
                            refine take_ (i := 19) (N := some 87) (v := ?_) (a' := ?_) #[true, true, true, true, true, true, true, true, true, true, true, true, true, true, true, true, true, true, true, true, false, false, true, true, false, false, false, false, false] rfl rfl (take_ofW HT_.out HW_.out (by kernel_rfl)) (fun _ _ _ h => h) (Or.inl ⟨by rfl, ?_⟩) hHeld ?_ ?_
                            rotate_left
                            · rintro w' ⟨s0, s1, s2, s3, s4, s5, s6⟩
                              go_simp
                              with_reducible rfl
                            rotate_left; focus (simp only [Act.put, List.setIfInBounds_toArray, List.set_cons_zero, List.set_cons_succ, i64_w, i32_w]; rfl)
                            refine take_ (i := 24) (N := some 92) (v := ?_) (a' := ?_) #[true, true, true, true, true, true, true, true, true, true, true, true, true, true, true, true, true, true, true, true, false, false, true, true, true, false, false, false, false] rfl rfl (take_ofW HT_.out HW_.out (by kernel_rfl)) (fun _ _ _ h => h) (Or.inl ⟨by rfl, ?_⟩) hHeld ?_ ?_
                            rotate_left
                            · rintro w' ⟨s0, s1, s2, s3, s4, s5, s6⟩
                              go_simp
                              with_reducible rfl
                            rotate_left; focus (simp only [Act.put, List.setIfInBounds_toArray, List.set_cons_zero, List.set_cons_succ, i64_w, i32_w]; rfl)
                            refine pure_ (i := 25) (N := some 93) (v := ?_) (a' := ?_) #[true, true, true, true, true, true, true, true, true, true, true, true, true, true, true, true, true, true, true, true, false, false, true, true, true, true, false, false, false] rfl rfl (any_of HT_.out (by kernel_rfl)) (fun _ _ _ h => h) (Or.inl ⟨by rfl, ?_⟩) ?_ ?_
                            rotate_left; focus (intro w'; go_simp; with_reducible rfl)
                            rotate_left; focus (simp only [Act.put, List.setIfInBounds_toArray, List.set_cons_zero, List.set_cons_succ, i64_w, i32_w]; rfl)
                            refine one_ (i := 20) (N := some 88) #[true, true, true, true, true, true, true, true, true, true, true, true, true, true, true, true, true, true, true, true, true, false, true, true, true, true, false, false, false] rfl rfl (one_of HT_.out (by kernel_rfl)) (by decide) (fun K hK => ?_)
                            refine Kd.R_lit_step k26 _ 26 ?hg (N := 88) ?hd (xs := ([(⟨(⟨a0_0, a0_1, a0_2, a0_3, a0_4, a0_5⟩ : S24), a0_6⟩ : S26)] : List (S26))) (inner := [.int .i64 a0_0, .int .i64 a0_1, .int .i64 a0_2, .int .i64 a0_3, .int .i64 a0_4, .int .i64 a0_5, .int .i64 a0_6]) (ok := fun _ => True) (okp := fun _ => True) ?hr ?hp (fun _ hk => hk) trivial (Below.refl _ _) (Nat.le_refl _) (by simp) ?_; (case hd => rfl); (case hg => rfl); (case hr => first | (go_simp; done) | (go_simp; rfl)); (case hp => exact (Reps.c7 (show Kd.M k26 _ _ _ (⟨(⟨a0_0, a0_1, a0_2, a0_3, a0_4, a0_5⟩ : S24), a0_6⟩ : S26) [.int .i64 a0_0, .int .i64 a0_1, .int .i64 a0_2, .int .i64 a0_3, .int .i64 a0_4, .int .i64 a0_5, .int .i64 a0_6] from (k26_mkM _ _ _ (⟨(⟨a0_0, a0_1, a0_2, a0_3, a0_4, a0_5⟩ : S24), a0_6⟩ : S26) )) (Reps.none _ _)))
                            intro v198 w38 ho39 hb hg_ hnew_
                            clear hg_ hnew_
                            (first | rw [← Ny197.out] at ho39 | (simp only [Int.reduceToNat] at ho39; rw [← Ny197.out] at ho39))
                            have n0_ := Aside0.mk (Kd.R_elder' (by (with_reducible repeat (first | apply Kd.R_alloc | apply Kd.R_drewN | apply Kd.R_drew)); exact HO193.out) (Kd.R_base ho39) hb)
                            have n1_ := Aside0.mk (Kd.R_lower (Kd.R_newB (Kd.R_new' ho39 (Kd.R_lt (by (with_reducible repeat (first | apply Kd.R_alloc | apply Kd.R_drewN | apply Kd.R_drew)); exact HO193.out))) (g := gb189) (o := .cells #[.int .i64 a0_0, .int .i64 a0_1, .int .i64 a0_2, .int .i64 a0_3, .int .i64 a0_4, .int .i64 a0_5, .int .i64 a0_6] 26 (0, 0)) (by (with_reducible repeat (first | refine bN ?_ _ | refine bD ?_ | refine bA ?_ _)); exact BK189.out)) (below_size (by repeat (first | (with_reducible first | exact HB.out | apply below_alloc | apply pw_below_drewN | apply below_drew1 | refine below_set ?_ GE189.out) | exact HB.out))))
                            have n2_ := bb BK189 hb
                            have n3_ := bs HB hb
                            clear HO193
                            clear BK189
                            clear HB
                            have HO193 := n0_
                            have HO199 := n1_
                            have BK189 := n2_
                            have HB := n3_
                            clear n0_ n1_ n2_ n3_
                            clear hb ho39
                            obtain ⟨Ao40, co40, eo40⟩ := Kd.R_slice HO199.out
                            (first | subst eo40 | (injection eo40 with f1_ f2_ f3_; have f4_ := f1_.symm; have f5_ := f3_.symm; clear f1_ f2_ f3_; subst f4_; subst f5_))
                            refine hK.out _ _ ⟨(blk_cell BK189.out 0).trans rfl, (blk_cell BK189.out 1).trans rfl, (blk_cell BK189.out 2).trans rfl, (blk_cell BK189.out 3).trans rfl, (blk_cell BK189.out 4).trans rfl, (blk_cell BK189.out 5).trans rfl, (blk_cell BK189.out 6).trans rfl⟩ (fun hHeld => ?_)
                            clear hK K
                            refine norm_ (a' := ?_) ?_ ?_
                            rotate_left
                            · show Act.put _ (some 88) _ = _
                              simp only [Act.put, List.setIfInBounds_toArray, List.set_cons_zero, List.set_cons_succ, i64_w, i32_w]
                              rfl
                            refine one_ (i := 21) (N := some 89) #[true, true, true, true, true, true, true, true, true, true, true, true, true, true, true, true, true, true, true, true, true, true, true, true, true, true, false, false, false] rfl rfl (one_of HT_.out (by kernel_rfl)) (by decide) (fun K hK => ?_)
                            refine goes_ Try.func14 (by kernel_rfl) rfl #[.slice Ao40 y197.length co40] (by rfl) rfl rfl (by (try simp only [List.map_toArray, List.map_cons, List.map_nil]); first | done | rfl | (simp only [List.length_drop, List.length_take]; rfl)) ?_
                            with_reducible refine (demand_Horizon.calls k _ _ y197 t200 _ ?side1 ?side2 A24.out).mono ?_
                            (case side1 => repeat (first | exact (Kd.R_reads' HO199.out).2.2 | (with_reducible refine Kd.C_alloc ?_ _) | (with_reducible refine Kd.C_drewN ?_ _) | (with_reducible refine Kd.C_drew ?_)))
                            (case side2 => exact (Kd.R_reads' HO199.out).2.1)
                            rintro e w41 ⟨rfl, hb⟩
                            refine ⟨_, rfl, ?_⟩
                            have n0_ := Aside0.mk (Kd.R_below (by (with_reducible repeat (first | apply Kd.R_alloc | apply Kd.R_drewN | apply Kd.R_drew)); exact HO193.out) hb)
                            have n1_ := Aside0.mk (Kd.R_below (by (with_reducible repeat (first | apply Kd.R_alloc | apply Kd.R_drewN | apply Kd.R_drew)); exact HO199.out) hb)
                            have n2_ := bb BK189 hb
                            have n3_ := bs HB hb
                            clear HO193
                            clear HO199
                            clear BK189
                            clear HB
                            have HO193 := n0_
                            have HO199 := n1_
                            have BK189 := n2_
                            have HB := n3_
                            clear n0_ n1_ n2_ n3_
                            (try clear hb)
                            (try clear hb2)
                            (try clear hk)
                            (try clear hi)
                            refine hK.out _ _ ⟨(blk_cell BK189.out 0).trans rfl, (blk_cell BK189.out 1).trans rfl, (blk_cell BK189.out 2).trans rfl, (blk_cell BK189.out 3).trans rfl, (blk_cell BK189.out 4).trans rfl, (blk_cell BK189.out 5).trans rfl, (blk_cell BK189.out 6).trans rfl⟩ (fun hHeld => ?_)
                            clear hK K
                            refine norm_ (a' := ?_) ?_ ?_
                            rotate_left
                            · show Act.put _ (some 89) _ = _
                              simp only [Act.put, List.setIfInBounds_toArray, List.set_cons_zero, List.set_cons_succ, i64_w, i32_w]
                              rfl
                            refine pure_ (i := 26) (N := some 94) (v := ?_) (a' := ?_) #[true, true, true, true, true, true, true, true, true, true, true, true, true, true, true, true, true, true, true, true, true, true, true, true, true, true, true, false, false] rfl rfl (any_of HT_.out (by kernel_rfl)) (fun _ _ _ h => h) (Or.inl ⟨by rfl, ?_⟩) ?_ ?_
                            rotate_left; focus (intro w'; go_simp; with_reducible rfl)
                            rotate_left; focus (simp only [Act.put, List.setIfInBounds_toArray, List.set_cons_zero, List.set_cons_succ, i64_w, i32_w]; rfl)
                            refine pure_ (i := 27) (N := some 95) (v := ?_) (a' := ?_) #[true, true, true, true, true, true, true, true, true, true, true, true, true, true, true, true, true, true, true, true, true, true, true, true, true, true, true, true, false] rfl rfl (any_of HT_.out (by kernel_rfl)) (fun _ _ _ h => h) (Or.inl ⟨by rfl, ?_⟩) ?_ ?_
                            rotate_left; focus (intro w'; go_simp; with_reducible rfl)
                            rotate_left; focus (simp only [Act.put, List.setIfInBounds_toArray, List.set_cons_zero, List.set_cons_succ, i64_w, i32_w]; rfl)
                            refine pure_ (i := 28) (N := some 4) (v := ?_) (a' := ?_) #[true, true, true, true, true, true, true, true, true, true, true, true, true, true, true, true, true, true, true, true, true, true, true, true, true, true, true, true, true] rfl rfl (any_of HT_.out (by kernel_rfl)) (fun _ _ _ h => h) (Or.inl ⟨by rfl, ?_⟩) ?_ ?_
                            rotate_left; focus (intro w'; go_simp; with_reducible rfl)
                            rotate_left; focus (simp only [Act.put, List.setIfInBounds_toArray, List.set_cons_zero, List.set_cons_succ, i64_w, i32_w]; rfl)
                            refine done_ (done_of HT_.out (by kernel_rfl)) ?_
                            try go_wp2
                            go_ret
                            exact ⟨by first | rfl | (simp [errW_none, errW_some] <;> rfl) | (simp [*, errW_none, errW_some] <;> rfl) | (exfalso; contradiction), by repeat (first | (with_reducible first | exact HB.out | apply below_alloc | apply pw_below_drewN | apply below_drew1 | refine below_set ?_ GE189.out) | exact HB.out)⟩
                          · rw [if_neg c23] at H
                            have c23b0 : decide (t195 ≤ (wrap64 ((wrap64 (Int.tdiv a1 a0_6)) * a0_0))) = false := decide_eq_false c23
                            clear c23
                            exact absurd H (by simp)
                      · rw [if_neg c21] at H
                        have c21b0 : ((Int.tmod t195 a0_0) == 0) = false := beq_eq_false_iff_ne.mpr c21
                        have c21b1 : ((Int.tmod t195 a0_0) != 0) = true := bne_iff_ne.mpr c21
                        exact absurd H (by simp)
              · rw [if_neg c17] at H
                have c17b0 : (t196 == t195) = false := beq_eq_false_iff_ne.mpr c17
                have c17b1 : (t196 != t195) = true := bne_iff_ne.mpr c17
                by_cases c42 : a0_6 = 0
                · rw [if_pos c42] at H
                  exact absurd H (by simp)
                · rw [if_neg c42] at H
                  have c42b0 : (a0_6 == 0) = false := beq_eq_false_iff_ne.mpr c42
                  have c42b1 : (a0_6 != 0) = true := bne_iff_ne.mpr c42
                  by_cases c43 : (Int.tmod (wrap64 (a1 + 1)) a0_6) = 0
                  · rw [if_pos c43] at H
                    have c43b0 : ((Int.tmod (wrap64 (a1 + 1)) a0_6) == 0) = true := beq_iff_eq.mpr c43
                    have c43b1 : ((Int.tmod (wrap64 (a1 + 1)) a0_6) != 0) = false := bne_eq_false_iff_eq.mpr c43
                    clear c43
                    by_cases c44 : (wrap64 (t196 - t195)) > a0_0
                    · rw [if_pos c44] at H
                      exact absurd H (by simp)
                    · rw [if_neg c44] at H
                      have c44b0 : decide (a0_0 < (wrap64 (t196 - t195))) = false := decide_eq_false c44
                      clear c44
                      by_cases c45 : t196 < t195
                      · rw [if_pos c45] at H
                        exact absurd H (by simp)
                      · rw [if_neg c45] at H
                        have c45b0 : decide (t196 < t195) = false := decide_eq_false c45
                        clear c45
                        by_cases c46 : a0_0 = 0
                        · rw [if_pos c46] at H
                          exact absurd H (by simp)
                        · rw [if_neg c46] at H
                          have c46b0 : (a0_0 == 0) = false := beq_eq_false_iff_ne.mpr c46
                          have c46b1 : (a0_0 != 0) = true := bne_iff_ne.mpr c46
                          by_cases c47 : (Int.tmod t195 a0_0) = 0
                          · rw [if_pos c47] at H
                            have c47b0 : ((Int.tmod t195 a0_0) == 0) = true := beq_iff_eq.mpr c47
                            have c47b1 : ((Int.tmod t195 a0_0) != 0) = false := bne_eq_false_iff_eq.mpr c47
                            clear c47
                            by_cases c48 : t195 ≤ (wrap64 ((wrap64 (Int.tdiv a1 a0_6)) * a0_0))
                            · rw [if_pos c48] at H
                              have c48b0 : decide (t195 ≤ (wrap64 ((wrap64 (Int.tdiv a1 a0_6)) * a0_0))) = true := decide_eq_true c48
                              clear c48
                              obtain ⟨y201, hy201⟩ : ∃ y_ : List (S26), y_ = (([(⟨(⟨a0_0, a0_1, a0_2, a0_3, a0_4, a0_5⟩ : S24), a0_6⟩ : S26)] : List (S26))) := ⟨_, rfl⟩
                              replace H : ((demand_Horizon.f k y201).bind fun t204 => (some (t204 == (wrap64 (16 * a0_0))))) = some r := by first | (rw [hy201]; with_reducible exact H) | (have H2_ := (Option.bind_some _ _).symm.trans H; rw [hy201]; with_reducible exact H2_) | (have H2_ := (Option.bind_some _ _).symm.trans H; with_reducible exact H2_) | with_reducible exact H | (rw [hy201]; exact H) | exact H
                              have Ny201 := Aside0.mk hy201
                              clear hy201
                              replace H := Option.bind_eq_some_iff.mp H
                              obtain ⟨t204, A490, H⟩ := H
                              try dsimp only at H
                              have A49 := Aside0.mk A490
                              clear A490
                              obtain rfl := Option.some.inj H
                              go_enter Try.func4, Try.ntmps4
                              try go_wp2_with (first | ((with_reducible refine gate_dst (N := 2) rfl ?_); (try (refine gate_guard (by rfl) ?_; dsimp only)); refine box_event ?hg (N := 2) ?hd (cs := #[.int .i64 a0_0, .int .i64 a0_1, .int .i64 a0_2, .int .i64 a0_3, .int .i64 a0_4, .int .i64 a0_5, .int .i64 a0_6]) (t := 26) ?hr ?_; (case hd => rfl); (case hg => rfl); (case hr => first | (go_simp; done) | (go_simp; rfl)); intro gb189 hg w50 hbox hb; have n0_ := bs HB hb; have n1_ := Aside0.mk (hbox); have n2_ := bz HB hg; have n3_ := bz HB hg; clear HB; have HB := n0_; have BK189 := n1_; have GW189 := n2_; have GE189 := n3_; clear n0_ n1_ n2_ n3_; clear hb hbox hg) | ((with_reducible refine gate_callee (f := 10) rfl ?_); refine goesL_ (some 8) rfl rfl Try.func10 (by kernel_rfl) rfl #[] rfl (by (try simp only [List.map_toArray, List.map_cons, List.map_nil]); first | done | rfl | (simp only [List.length_drop, List.length_take]; rfl)) ?_; (with_reducible refine (fuseelaw09_awake.calls k  true _ A3.out).mono ?_); rintro e w51 ⟨rfl, hb⟩; refine ⟨_, rfl, ?_⟩; have n0_ := bb BK189 hb; have n1_ := bs HB hb; clear BK189; clear HB; have BK189 := n0_; have HB := n1_; clear n0_ n1_; (try clear hb); (try clear hb2); (try clear hk); (try clear hi); obtain ⟨hcz52_0, hcz52_1, hcz52_2, hcz52_3, hcz52_4, hcz52_5, hcz52_6⟩ := cc7 BK189; obtain ⟨hfz52_0, hfz52_1, hfz52_2, hfz52_3, hfz52_4, hfz52_5, hfz52_6⟩ := cf7 BK189) | ((with_reducible refine gate_dst (N := 21) rfl ?_); (try (refine gate_guard (by rfl) ?_; dsimp only)); refine Kd.R_lit k26 _ 26 ?hg (N := 21) ?hd (xs := ([(⟨(⟨a0_0, a0_1, a0_2, a0_3, a0_4, a0_5⟩ : S24), a0_6⟩ : S26)] : List (S26))) (inner := [.int .i64 a0_0, .int .i64 a0_1, .int .i64 a0_2, .int .i64 a0_3, .int .i64 a0_4, .int .i64 a0_5, .int .i64 a0_6]) (ok := fun _ => True) (okp := fun _ => True) ?hr ?hp (fun _ hk => hk) trivial (Below.refl _ _) (Nat.le_refl _) (by simp) ?_; (case hd => rfl); (case hg => rfl); (case hr => first | (go_simp; done) | (go_simp; rfl)); (case hp => exact (Reps.c7 (show Kd.M k26 _ _ _ (⟨(⟨a0_0, a0_1, a0_2, a0_3, a0_4, a0_5⟩ : S24), a0_6⟩ : S26) [.int .i64 a0_0, .int .i64 a0_1, .int .i64 a0_2, .int .i64 a0_3, .int .i64 a0_4, .int .i64 a0_5, .int .i64 a0_6] from (k26_mkM _ _ _ (⟨(⟨a0_0, a0_1, a0_2, a0_3, a0_4, a0_5⟩ : S24), a0_6⟩ : S26) )) (Reps.none _ _))); intro v192 w53 ho54 hb hg_ hnew_; clear hg_ hnew_; (first | rw [← Ny191.out] at ho54 | (simp only [Int.reduceToNat] at ho54; rw [← Ny191.out] at ho54)); have n0_ := Aside0.mk (Kd.R_lower (Kd.R_newB ho54 (g := gb189) (o := .cells #[.int .i64 a0_0, .int .i64 a0_1, .int .i64 a0_2, .int .i64 a0_3, .int .i64 a0_4, .int .i64 a0_5, .int .i64 a0_6] 26 (0, 0)) (by (with_reducible repeat (first | refine bN ?_ _ | refine bD ?_ | refine bA ?_ _)); exact BK189.out)) (below_size (by repeat (first | (with_reducible first | exact HB.out | apply below_alloc | apply pw_below_drewN | apply below_drew1 | refine below_set ?_ GE189.out) | exact HB.out)))); have n1_ := bb BK189 hb; have n2_ := bs HB hb; clear BK189; clear HB; have HO193 := n0_; have BK189 := n1_; have HB := n2_; clear n0_ n1_ n2_; clear hb ho54; obtain ⟨Ao55, co55, eo55⟩ := Kd.R_slice HO193.out; subst eo55) | (go_at_call 13; (with_reducible refine (demand_May.calls k _ _ y191 true _ ?side1 ?side2 A11.out).mono ?_); (case side1 => repeat (first | exact (Kd.R_reads' HO193.out).2.2 | (with_reducible refine Kd.C_alloc ?_ _) | (with_reducible refine Kd.C_drewN ?_ _) | (with_reducible refine Kd.C_drew ?_))); (case side2 => exact (Kd.R_reads' HO193.out).2.1); rintro e w56 ⟨rfl, hb⟩; have n0_ := Aside0.mk (Kd.R_below (by (with_reducible repeat (first | apply Kd.R_alloc | apply Kd.R_drewN | apply Kd.R_drew)); exact HO193.out) hb); have n1_ := bb BK189 hb; have n2_ := bs HB hb; clear HO193; clear BK189; clear HB; have HO193 := n0_; have BK189 := n1_; have HB := n2_; clear n0_ n1_ n2_; (try clear hb); (try clear hb2); (try clear hk); (try clear hi); (try clear hcz52_0 hcz52_1 hcz52_2 hcz52_3 hcz52_4 hcz52_5 hcz52_6 hfz52_0 hfz52_1 hfz52_2 hfz52_3 hfz52_4 hfz52_5 hfz52_6); obtain ⟨hcz57_0, hcz57_1, hcz57_2, hcz57_3, hcz57_4, hcz57_5, hcz57_6⟩ := cc7 BK189; obtain ⟨hfz57_0, hfz57_1, hfz57_2, hfz57_3, hfz57_4, hfz57_5, hfz57_6⟩ := cf7 BK189) | ((with_reducible refine gate_callee (f := 11) rfl ?_); refine goesL_ (some 28) rfl rfl Try.func11 (by kernel_rfl) rfl #[.agg #[.int .i64 a0_0, .int .i64 a0_1, .int .i64 a0_2, .int .i64 a0_3, .int .i64 a0_4, .int .i64 a0_5, .int .i64 a0_6], .int .i64 a1] rfl (by (try simp only [List.map_toArray, List.map_cons, List.map_nil]); first | done | rfl | (simp only [List.length_drop, List.length_take]; rfl)) ?_; (with_reducible refine (demand_Of.calls a0_0 a0_1 a0_2 a0_3 a0_4 a0_5 a0_6 a1 t195 _ A13.out).mono ?_); rintro e w58 ⟨rfl, hb⟩; refine ⟨_, rfl, ?_⟩; have n0_ := Aside0.mk (Kd.R_below (by (with_reducible repeat (first | apply Kd.R_alloc | apply Kd.R_drewN | apply Kd.R_drew)); exact HO193.out) hb); have n1_ := bb BK189 hb; have n2_ := bs HB hb; clear HO193; clear BK189; clear HB; have HO193 := n0_; have BK189 := n1_; have HB := n2_; clear n0_ n1_ n2_; (try clear hb); (try clear hb2); (try clear hk); (try clear hi); (try clear hcz52_0 hcz52_1 hcz52_2 hcz52_3 hcz52_4 hcz52_5 hcz52_6 hfz52_0 hfz52_1 hfz52_2 hfz52_3 hfz52_4 hfz52_5 hfz52_6); (try clear hcz57_0 hcz57_1 hcz57_2 hcz57_3 hcz57_4 hcz57_5 hcz57_6 hfz57_0 hfz57_1 hfz57_2 hfz57_3 hfz57_4 hfz57_5 hfz57_6); obtain ⟨hcz59_0, hcz59_1, hcz59_2, hcz59_3, hcz59_4, hcz59_5, hcz59_6⟩ := cc7 BK189; obtain ⟨hfz59_0, hfz59_1, hfz59_2, hfz59_3, hfz59_4, hfz59_5, hfz59_6⟩ := cf7 BK189) | ((with_reducible refine gate_callee (f := 11) rfl ?_); refine goesL_ (some 32) rfl rfl Try.func11 (by kernel_rfl) rfl #[.agg #[.int .i64 a0_0, .int .i64 a0_1, .int .i64 a0_2, .int .i64 a0_3, .int .i64 a0_4, .int .i64 a0_5, .int .i64 a0_6], .int .i64 (wrap64 (a1 + 1))] rfl (by (try simp only [List.map_toArray, List.map_cons, List.map_nil]); first | done | rfl | (simp only [List.length_drop, List.length_take]; rfl)) ?_; (with_reducible refine (demand_Of.calls a0_0 a0_1 a0_2 a0_3 a0_4 a0_5 a0_6 (wrap64 (a1 + 1)) t196 _ A14.out).mono ?_); rintro e w60 ⟨rfl, hb⟩; refine ⟨_, rfl, ?_⟩; have n0_ := Aside0.mk (Kd.R_below (by (with_reducible repeat (first | apply Kd.R_alloc | apply Kd.R_drewN | apply Kd.R_drew)); exact HO193.out) hb); have n1_ := bb BK189 hb; have n2_ := bs HB hb; clear HO193; clear BK189; clear HB; have HO193 := n0_; have BK189 := n1_; have HB := n2_; clear n0_ n1_ n2_; (try clear hb); (try clear hb2); (try clear hk); (try clear hi); (try clear hcz52_0 hcz52_1 hcz52_2 hcz52_3 hcz52_4 hcz52_5 hcz52_6 hfz52_0 hfz52_1 hfz52_2 hfz52_3 hfz52_4 hfz52_5 hfz52_6); (try clear hcz57_0 hcz57_1 hcz57_2 hcz57_3 hcz57_4 hcz57_5 hcz57_6 hfz57_0 hfz57_1 hfz57_2 hfz57_3 hfz57_4 hfz57_5 hfz57_6); (try clear hcz59_0 hcz59_1 hcz59_2 hcz59_3 hcz59_4 hcz59_5 hcz59_6 hfz59_0 hfz59_1 hfz59_2 hfz59_3 hfz59_4 hfz59_5 hfz59_6); obtain ⟨hcz61_0, hcz61_1, hcz61_2, hcz61_3, hcz61_4, hcz61_5, hcz61_6⟩ := cc7 BK189; obtain ⟨hfz61_0, hfz61_1, hfz61_2, hfz61_3, hfz61_4, hfz61_5, hfz61_6⟩ := cf7 BK189))
                              have n0_ := Aside0.mk (Kd.R_drew HO193.out)
                              have n1_ := Aside0.mk (blk_drew BK189.out)
                              have n2_ := Aside0.mk (below_drew1 HB.out)
                              clear HO193
                              clear BK189
                              clear HB
                              have HO193 := n0_
                              have BK189 := n1_
                              have HB := n2_
                              clear n0_ n1_ n2_
                              refine start_ (n := 29) (S := fun w' => w'.cell? ⟨gb189, 0, none⟩ = some (.int .i64 a0_0) ∧ w'.cell? ⟨gb189, 1, none⟩ = some (.int .i64 a0_1) ∧ w'.cell? ⟨gb189, 2, none⟩ = some (.int .i64 a0_2) ∧ w'.cell? ⟨gb189, 3, none⟩ = some (.int .i64 a0_3) ∧ w'.cell? ⟨gb189, 4, none⟩ = some (.int .i64 a0_4) ∧ w'.cell? ⟨gb189, 5, none⟩ = some (.int .i64 a0_5) ∧ w'.cell? ⟨gb189, 6, none⟩ = some (.int .i64 a0_6)) (ds := []) #[false, false, false, false, false, false, false, false, false, false, false, false, false, false, false, false, false, false, false, false, false, false, false, false, false, false, false, false, false] (by kernel_rfl) rfl rfl ⟨(blk_cell BK189.out 0).trans rfl, (blk_cell BK189.out 1).trans rfl, (blk_cell BK189.out 2).trans rfl, (blk_cell BK189.out 3).trans rfl, (blk_cell BK189.out 4).trans rfl, (blk_cell BK189.out 5).trans rfl, (blk_cell BK189.out 6).trans rfl⟩ (fun hHeld => ?_); refine with_tabW fuseelaw09_DemandSteps.tab8 fuseelaw09_DemandSteps.bits8 (fun HT_ HW_ => ?_)
                              generalize w60.drew = w62 at HO193 BK189 HB hHeld ⊢
                              refine pure_ (i := 0) (N := some 68) (v := ?_) (a' := ?_) #[true, false, false, false, false, false, false, false, false, false, false, false, false, false, false, false, false, false, false, false, false, false, false, false, false, false, false, false, false] rfl rfl (any_of HT_.out (by kernel_rfl)) (fun _ _ _ h => h) (Or.inl ⟨by rfl, ?_⟩) ?_ ?_
                              rotate_left; focus (intro w'; go_simp; with_reducible rfl)
                              rotate_left; focus (simp only [Act.put, List.setIfInBounds_toArray, List.set_cons_zero, List.set_cons_succ, i64_w, i32_w]; rfl)
                              refine pure_ (i := 1) (N := some 69) (v := ?_) (a' := ?_) #[true, true, false, false, false, false, false, false, false, false, false, false, false, false, false, false, false, false, false, false, false, false, false, false, false, false, false, false, false] rfl rfl (any_of HT_.out (by kernel_rfl)) (fun _ _ _ h => h) (Or.inl ⟨by rfl, ?_⟩) ?_ ?_
                              rotate_left; focus (intro w'; go_simp; with_reducible rfl)
                              rotate_left; focus (simp only [Act.put, List.setIfInBounds_toArray, List.set_cons_zero, List.set_cons_succ, i64_w, i32_w]; rfl)
                              refine pure_ (i := 2) (N := some 70) (v := ?_) (a' := ?_) #[true, true, true, false, false, false, false, false, false, false, false, false, false, false, false, false, false, false, false, false, false, false, false, false, false, false, false, false, false] rfl rfl (any_of HT_.out (by kernel_rfl)) (fun _ _ _ h => h) (Or.inl ⟨by rfl, ?_⟩) ?_ ?_
                              rotate_left; focus (intro w'; go_simp; with_reducible rfl)
                              rotate_left; focus (simp only [Act.put, List.setIfInBounds_toArray, List.set_cons_zero, List.set_cons_succ, i64_w, i32_w]; rfl)
                              refine take_ (i := 3) (N := some 71) (v := ?_) (a' := ?_) #[true, true, true, true, false, false, false, false, false, false, false, false, false, false, false, false, false, false, false, false, false, false, false, false, false, false, false, false, false] rfl rfl (take_ofW HT_.out HW_.out (by kernel_rfl)) (fun _ _ _ h => h) (Or.inl ⟨by rfl, ?_⟩) hHeld ?_ ?_
                              rotate_left
                              · rintro w' ⟨s0, s1, s2, s3, s4, s5, s6⟩
                                go_simp
                                with_reducible rfl
                              rotate_left; focus (simp only [Act.put, List.setIfInBounds_toArray, List.set_cons_zero, List.set_cons_succ, i64_w, i32_w]; rfl)
                              refine pure_ (i := 4) (N := some 72) (v := ?_) (a' := ?_) #[true, true, true, true, true, false, false, false, false, false, false, false, false, false, false, false, false, false, false, false, false, false, false, false, false, false, false, false, false] rfl rfl (any_of HT_.out (by kernel_rfl)) (fun _ _ _ h => h) (Or.inl ⟨by rfl, ?_⟩) ?_ ?_
                              rotate_left; focus (intro w'; go_simp; with_reducible rfl)
                              rotate_left; focus (simp only [Act.put, List.setIfInBounds_toArray, List.set_cons_zero, List.set_cons_succ, i64_w, i32_w]; rfl)
                              refine pure_ (i := 5) (N := some 73) (v := ?_) (a' := ?_) #[true, true, true, true, true, true, false, false, false, false, false, false, false, false, false, false, false, false, false, false, false, false, false, false, false, false, false, false, false] rfl rfl (any_of HT_.out (by kernel_rfl)) (fun _ _ _ h => h) (Or.inl ⟨by rfl, ?_⟩) ?_ ?_
                              rotate_left; focus (intro w'; go_simp; with_reducible rfl)
                              rotate_left; focus (simp only [Act.put, List.setIfInBounds_toArray, List.set_cons_zero, List.set_cons_succ, i64_w, i32_w]; rfl)
                              refine pure_ (i := 6) (N := some 74) (v := ?_) (a' := ?_) #[true, true, true, true, true, true, true, false, false, false, false, false, false, false, false, false, false, false, false, false, false, false, false, false, false, false, false, false, false] rfl rfl (any_of HT_.out (by kernel_rfl)) (fun _ _ _ h => h) (Or.inl ⟨by rfl, ?_⟩) ?_ ?_
                              rotate_left; focus (intro w'; go_simp; with_reducible rfl)
                              rotate_left; focus (simp only [Act.put, List.setIfInBounds_toArray, List.set_cons_zero, List.set_cons_succ, i64_w, i32_w]; rfl)
                              refine pure_ (i := 7) (N := some 75) (v := ?_) (a' := ?_) #[true, true, true, true, true, true, true, true, false, false, false, false, false, false, false, false, false, false, false, false, false, false, false, false, false, false, false, false, false] rfl rfl (any_of HT_.out (by kernel_rfl)) (fun _ _ _ h => h) (Or.inl ⟨by rfl, ?_⟩) ?_ ?_
                              rotate_left; focus (intro w'; go_simp; with_reducible rfl)
                              rotate_left; focus (simp only [Act.put, List.setIfInBounds_toArray, List.set_cons_zero, List.set_cons_succ, i64_w, i32_w]; rfl)
                              refine pure_ (i := 8) (N := some 76) (v := ?_) (a' := ?_) #[true, true, true, true, true, true, true, true, true, false, false, false, false, false, false, false, false, false, false, false, false, false, false, false, false, false, false, false, false] rfl rfl (any_of HT_.out (by kernel_rfl)) (fun _ _ _ h => h) (Or.inl ⟨by rfl, ?_⟩) ?_ ?_
                              rotate_left; focus (intro w'; go_simp; with_reducible rfl)
                              rotate_left; focus (simp only [Act.put, List.setIfInBounds_toArray, List.set_cons_zero, List.set_cons_succ, i64_w, i32_w]; rfl)
                              refine pure_ (i := 9) (N := some 77) (v := ?_) (a' := ?_) #[true, true, true, true, true, true, true, true, true, true, false, false, false, false, false, false, false, false, false, false, false, false, false, false, false, false, false, false, false] rfl rfl (any_of HT_.out (by kernel_rfl)) (fun _ _ _ h => h) (Or.inl ⟨by rfl, ?_⟩) ?_ ?_
                              rotate_left; focus (intro w'; go_simp; with_reducible rfl)
                              rotate_left; focus (simp only [Act.put, List.setIfInBounds_toArray, List.set_cons_zero, List.set_cons_succ, i64_w, i32_w]; rfl)
                              refine pure_ (i := 12) (N := some 80) (v := ?_) (a' := ?_) #[true, true, true, true, true, true, true, true, true, true, false, false, true, false, false, false, false, false, false, false, false, false, false, false, false, false, false, false, false] rfl rfl (any_of HT_.out (by kernel_rfl)) (fun _ _ _ h => h) (Or.inl ⟨by rfl, ?_⟩) ?_ ?_
                              rotate_left; focus (intro w'; go_simp; with_reducible rfl)
                              rotate_left; focus (simp only [Act.put, List.setIfInBounds_toArray, List.set_cons_zero, List.set_cons_succ, i64_w, i32_w]; rfl)
                              refine pure_ (i := 13) (N := some 81) (v := ?_) (a' := ?_) #[true, true, true, true, true, true, true, true, true, true, false, false, true, true, false, false, false, false, false, false, false, false, false, false, false, false, false, false, false] rfl rfl (any_of HT_.out (by kernel_rfl)) (fun _ _ _ h => h) (Or.inl ⟨by rfl, ?_⟩) ?_ ?_
                              rotate_left; focus (intro w'; go_simp; with_reducible rfl)
                              rotate_left; focus (simp only [Act.put, List.setIfInBounds_toArray, List.set_cons_zero, List.set_cons_succ, i64_w, i32_w]; rfl)
                              refine take_ (i := 10) (N := some 78) (v := ?_) (a' := ?_) #[true, true, true, true, true, true, true, true, true, true, true, false, true, true, false, false, false, false, false, false, false, false, false, false, false, false, false, false, false] rfl rfl (take_ofW HT_.out HW_.out (by kernel_rfl)) (fun _ _ _ h => h) (Or.inl ⟨by rfl, ?_⟩) hHeld ?_ ?_
                              rotate_left
                              · rintro w' ⟨s0, s1, s2, s3, s4, s5, s6⟩
                                go_simp
                                with_reducible rfl
                              rotate_left; focus (simp only [Act.put, List.setIfInBounds_toArray, List.set_cons_zero, List.set_cons_succ, i64_w, i32_w]; rfl)
                              refine pure_ (i := 11) (N := some 79) (v := ?_) (a' := ?_) #[true, true, true, true, true, true, true, true, true, true, true, true, true, true, false, false, false, false, false, false, false, false, false, false, false, false, false, false, false] rfl rfl (any_of HT_.out (by kernel_rfl)) (fun _ _ _ h => h) (Or.inl ⟨by rfl, ?_⟩) ?_ ?_
                              rotate_left; focus (intro w'; go_simp; with_reducible rfl)
                              rotate_left; focus (simp only [Act.put, List.setIfInBounds_toArray, List.set_cons_zero, List.set_cons_succ, i64_w, i32_w]; rfl)
                              refine take_ (i := 14) (N := some 82) (v := ?_) (a' := ?_) #[true, true, true, true, true, true, true, true, true, true, true, true, true, true, true, false, false, false, false, false, false, false, false, false, false, false, false, false, false] rfl rfl (take_ofW HT_.out HW_.out (by kernel_rfl)) (fun _ _ _ h => h) (Or.inl ⟨by rfl, ?_⟩) hHeld ?_ ?_
                              rotate_left
                              · rintro w' ⟨s0, s1, s2, s3, s4, s5, s6⟩
                                go_simp
                                with_reducible rfl
                              rotate_left; focus (simp only [Act.put, List.setIfInBounds_toArray, List.set_cons_zero, List.set_cons_succ, i64_w, i32_w]; rfl)
                              refine pure_ (i := 15) (N := some 83) (v := ?_) (a' := ?_) #[true, true, true, true, true, true, true, true, true, true, true, true, true, true, true, true, false, false, false, false, false, false, false, false, false, false, false, false, false] rfl rfl (any_of HT_.out (by kernel_rfl)) (fun _ _ _ h => h) (Or.inl ⟨by rfl, ?_⟩) ?_ ?_
                              rotate_left; focus (intro w'; go_simp; with_reducible rfl)
                              rotate_left; focus (simp only [Act.put, List.setIfInBounds_toArray, List.set_cons_zero, List.set_cons_succ, i64_w, i32_w]; rfl)
                              refine pure_ (i := 16) (N := some 84) (v := ?_) (a' := ?_) #[true, true, true, true, true, true, true, true, true, true, true, true, true, true, true, true, true, false, false, false, false, false, false, false, false, false, false, false, false] rfl rfl (any_of HT_.out (by kernel_rfl)) (fun _ _ _ h => h) (Or.inl ⟨by rfl, ?_⟩) ?_ ?_
                              rotate_left; focus (intro w'; go_simp; with_reducible rfl)
                              rotate_left; focus (simp only [Act.put, List.setIfInBounds_toArray, List.set_cons_zero, List.set_cons_succ, i64_w, i32_w]; rfl)
                              refine pure_ (i := 17) (N := some 85) (v := ?_) (a' := ?_) #[true, true, true, true, true, true, true, true, true, true, true, true, true, true, true, true, true, true, false, false, false, false, false, false, false, false, false, false, false] rfl rfl (any_of HT_.out (by kernel_rfl)) (fun _ _ _ h => h) (Or.inl ⟨by rfl, ?_⟩) ?_ ?_
                              rotate_left; focus (intro w'; go_simp; with_reducible rfl)
                              rotate_left; focus (simp only [Act.put, List.setIfInBounds_toArray, List.set_cons_zero, List.set_cons_succ, i64_w, i32_w]; rfl)
                              refine pure_ (i := 18) (N := some 86) (v := ?_) (a' := ?_) #[true, true, true, true, true, true, true, true, true, true, true, true, true, true, true, true, true, true, true, false, false, false, false, false, false, false, false, false, false] rfl rfl (any_of HT_.out (by kernel_rfl)) (fun _ _ _ h => h) (Or.inl ⟨by rfl, ?_⟩) ?_ ?_
                              rotate_left; focus (intro w'; go_simp; with_reducible rfl)
                              rotate_left; focus (simp only [Act.put, List.setIfInBounds_toArray, List.set_cons_zero, List.set_cons_succ, i64_w, i32_w]; rfl)
                              refine pure_ (i := 22) (N := some 90) (v := ?_) (a' := ?_) #[true, true, true, true, true, true, true, true, true, true, true, true, true, true, true, true, true, true, true, false, false, false, true, false, false, false, false, false, false] rfl rfl (any_of HT_.out (by kernel_rfl)) (fun _ _ _ h => h) (Or.inl ⟨by rfl, ?_⟩) ?_ ?_
                              rotate_left; focus (intro w'; go_simp; with_reducible rfl)
                              rotate_left; focus (simp only [Act.put, List.setIfInBounds_toArray, List.set_cons_zero, List.set_cons_succ, i64_w, i32_w]; rfl)
                              refine pure_ (i := 23) (N := some 91) (v := ?_) (a' := ?_) #[true, true, true, true, true, true, true, true, true, true, true, true, true, true, true, true, true, true, true, false, false, false, true, true, false, false, false, false, false] rfl rfl (any_of HT_.out (by kernel_rfl)) (fun _ _ _ h => h) (Or.inl ⟨by rfl, ?_⟩) ?_ ?_
                              rotate_left; focus (intro w'; go_simp; with_reducible rfl)
                              rotate_left; focus (simp only [Act.put, List.setIfInBounds_toArray, List.set_cons_zero, List.set_cons_succ, i64_w, i32_w]; rfl)
                              refine take_ (i := 19) (N := some 87) (v := ?_) (a' := ?_) #[true, true, true, true, true, true, true, true, true, true, true, true, true, true, true, true, true, true, true, true, false, false, true, true, false, false, false, false, false] rfl rfl (take_ofW HT_.out HW_.out (by kernel_rfl)) (fun _ _ _ h => h) (Or.inl ⟨by rfl, ?_⟩) hHeld ?_ ?_
                              rotate_left
                              · rintro w' ⟨s0, s1, s2, s3, s4, s5, s6⟩
                                go_simp
                                with_reducible rfl
                              rotate_left; focus (simp only [Act.put, List.setIfInBounds_toArray, List.set_cons_zero, List.set_cons_succ, i64_w, i32_w]; rfl)
                              refine take_ (i := 24) (N := some 92) (v := ?_) (a' := ?_) #[true, true, true, true, true, true, true, true, true, true, true, true, true, true, true, true, true, true, true, true, false, false, true, true, true, false, false, false, false] rfl rfl (take_ofW HT_.out HW_.out (by kernel_rfl)) (fun _ _ _ h => h) (Or.inl ⟨by rfl, ?_⟩) hHeld ?_ ?_
                              rotate_left
                              · rintro w' ⟨s0, s1, s2, s3, s4, s5, s6⟩
                                go_simp
                                with_reducible rfl
                              rotate_left; focus (simp only [Act.put, List.setIfInBounds_toArray, List.set_cons_zero, List.set_cons_succ, i64_w, i32_w]; rfl)
                              refine pure_ (i := 25) (N := some 93) (v := ?_) (a' := ?_) #[true, true, true, true, true, true, true, true, true, true, true, true, true, true, true, true, true, true, true, true, false, false, true, true, true, true, false, false, false] rfl rfl (any_of HT_.out (by kernel_rfl)) (fun _ _ _ h => h) (Or.inl ⟨by rfl, ?_⟩) ?_ ?_
                              rotate_left; focus (intro w'; go_simp; with_reducible rfl)
                              rotate_left; focus (simp only [Act.put, List.setIfInBounds_toArray, List.set_cons_zero, List.set_cons_succ, i64_w, i32_w]; rfl)
                              refine one_ (i := 20) (N := some 88) #[true, true, true, true, true, true, true, true, true, true, true, true, true, true, true, true, true, true, true, true, true, false, true, true, true, true, false, false, false] rfl rfl (one_of HT_.out (by kernel_rfl)) (by decide) (fun K hK => ?_)
                              refine Kd.R_lit_step k26 _ 26 ?hg (N := 88) ?hd (xs := ([(⟨(⟨a0_0, a0_1, a0_2, a0_3, a0_4, a0_5⟩ : S24), a0_6⟩ : S26)] : List (S26))) (inner := [.int .i64 a0_0, .int .i64 a0_1, .int .i64 a0_2, .int .i64 a0_3, .int .i64 a0_4, .int .i64 a0_5, .int .i64 a0_6]) (ok := fun _ => True) (okp := fun _ => True) ?hr ?hp (fun _ hk => hk) trivial (Below.refl _ _) (Nat.le_refl _) (by simp) ?_; (case hd => rfl); (case hg => rfl); (case hr => first | (go_simp; done) | (go_simp; rfl)); (case hp => exact (Reps.c7 (show Kd.M k26 _ _ _ (⟨(⟨a0_0, a0_1, a0_2, a0_3, a0_4, a0_5⟩ : S24), a0_6⟩ : S26) [.int .i64 a0_0, .int .i64 a0_1, .int .i64 a0_2, .int .i64 a0_3, .int .i64 a0_4, .int .i64 a0_5, .int .i64 a0_6] from (k26_mkM _ _ _ (⟨(⟨a0_0, a0_1, a0_2, a0_3, a0_4, a0_5⟩ : S24), a0_6⟩ : S26) )) (Reps.none _ _)))
                              intro v202 w63 ho64 hb hg_ hnew_
                              clear hg_ hnew_
                              (first | rw [← Ny201.out] at ho64 | (simp only [Int.reduceToNat] at ho64; rw [← Ny201.out] at ho64))
                              have n0_ := Aside0.mk (Kd.R_elder' (by (with_reducible repeat (first | apply Kd.R_alloc | apply Kd.R_drewN | apply Kd.R_drew)); exact HO193.out) (Kd.R_base ho64) hb)
                              have n1_ := Aside0.mk (Kd.R_lower (Kd.R_newB (Kd.R_new' ho64 (Kd.R_lt (by (with_reducible repeat (first | apply Kd.R_alloc | apply Kd.R_drewN | apply Kd.R_drew)); exact HO193.out))) (g := gb189) (o := .cells #[.int .i64 a0_0, .int .i64 a0_1, .int .i64 a0_2, .int .i64 a0_3, .int .i64 a0_4, .int .i64 a0_5, .int .i64 a0_6] 26 (0, 0)) (by (with_reducible repeat (first | refine bN ?_ _ | refine bD ?_ | refine bA ?_ _)); exact BK189.out)) (below_size (by repeat (first | (with_reducible first | exact HB.out | apply below_alloc | apply pw_below_drewN | apply below_drew1 | refine below_set ?_ GE189.out) | exact HB.out))))
                              have n2_ := bb BK189 hb
                              have n3_ := bs HB hb
                              clear HO193
                              clear BK189
                              clear HB
                              have HO193 := n0_
                              have HO203 := n1_
                              have BK189 := n2_
                              have HB := n3_
                              clear n0_ n1_ n2_ n3_
                              clear hb ho64
                              obtain ⟨Ao65, co65, eo65⟩ := Kd.R_slice HO203.out
                              (first | subst eo65 | (injection eo65 with f1_ f2_ f3_; have f4_ := f1_.symm; have f5_ := f3_.symm; clear f1_ f2_ f3_; subst f4_; subst f5_))
                              refine hK.out _ _ ⟨(blk_cell BK189.out 0).trans rfl, (blk_cell BK189.out 1).trans rfl, (blk_cell BK189.out 2).trans rfl, (blk_cell BK189.out 3).trans rfl, (blk_cell BK189.out 4).trans rfl, (blk_cell BK189.out 5).trans rfl, (blk_cell BK189.out 6).trans rfl⟩ (fun hHeld => ?_)
                              clear hK K
                              refine norm_ (a' := ?_) ?_ ?_
                              rotate_left
                              · show Act.put _ (some 88) _ = _
                                simp only [Act.put, List.setIfInBounds_toArray, List.set_cons_zero, List.set_cons_succ, i64_w, i32_w]
                                rfl
                              refine one_ (i := 21) (N := some 89) #[true, true, true, true, true, true, true, true, true, true, true, true, true, true, true, true, true, true, true, true, true, true, true, true, true, true, false, false, false] rfl rfl (one_of HT_.out (by kernel_rfl)) (by decide) (fun K hK => ?_)
                              refine goes_ Try.func14 (by kernel_rfl) rfl #[.slice Ao65 y201.length co65] (by rfl) rfl rfl (by (try simp only [List.map_toArray, List.map_cons, List.map_nil]); first | done | rfl | (simp only [List.length_drop, List.length_take]; rfl)) ?_
                              with_reducible refine (demand_Horizon.calls k _ _ y201 t204 _ ?side1 ?side2 A49.out).mono ?_
                              (case side1 => repeat (first | exact (Kd.R_reads' HO203.out).2.2 | (with_reducible refine Kd.C_alloc ?_ _) | (with_reducible refine Kd.C_drewN ?_ _) | (with_reducible refine Kd.C_drew ?_)))
                              (case side2 => exact (Kd.R_reads' HO203.out).2.1)
                              rintro e w66 ⟨rfl, hb⟩
                              refine ⟨_, rfl, ?_⟩
                              have n0_ := Aside0.mk (Kd.R_below (by (with_reducible repeat (first | apply Kd.R_alloc | apply Kd.R_drewN | apply Kd.R_drew)); exact HO193.out) hb)
                              have n1_ := Aside0.mk (Kd.R_below (by (with_reducible repeat (first | apply Kd.R_alloc | apply Kd.R_drewN | apply Kd.R_drew)); exact HO203.out) hb)
                              have n2_ := bb BK189 hb
                              have n3_ := bs HB hb
                              clear HO193
                              clear HO203
                              clear BK189
                              clear HB
                              have HO193 := n0_
                              have HO203 := n1_
                              have BK189 := n2_
                              have HB := n3_
                              clear n0_ n1_ n2_ n3_
                              (try clear hb)
                              (try clear hb2)
                              (try clear hk)
                              (try clear hi)
                              refine hK.out _ _ ⟨(blk_cell BK189.out 0).trans rfl, (blk_cell BK189.out 1).trans rfl, (blk_cell BK189.out 2).trans rfl, (blk_cell BK189.out 3).trans rfl, (blk_cell BK189.out 4).trans rfl, (blk_cell BK189.out 5).trans rfl, (blk_cell BK189.out 6).trans rfl⟩ (fun hHeld => ?_)
                              clear hK K
                              refine norm_ (a' := ?_) ?_ ?_
                              rotate_left
                              · show Act.put _ (some 89) _ = _
                                simp only [Act.put, List.setIfInBounds_toArray, List.set_cons_zero, List.set_cons_succ, i64_w, i32_w]
                                rfl
                              refine pure_ (i := 26) (N := some 94) (v := ?_) (a' := ?_) #[true, true, true, true, true, true, true, true, true, true, true, true, true, true, true, true, true, true, true, true, true, true, true, true, true, true, true, false, false] rfl rfl (any_of HT_.out (by kernel_rfl)) (fun _ _ _ h => h) (Or.inl ⟨by rfl, ?_⟩) ?_ ?_
                              rotate_left; focus (intro w'; go_simp; with_reducible rfl)
                              rotate_left; focus (simp only [Act.put, List.setIfInBounds_toArray, List.set_cons_zero, List.set_cons_succ, i64_w, i32_w]; rfl)
                              refine pure_ (i := 27) (N := some 95) (v := ?_) (a' := ?_) #[true, true, true, true, true, true, true, true, true, true, true, true, true, true, true, true, true, true, true, true, true, true, true, true, true, true, true, true, false] rfl rfl (any_of HT_.out (by kernel_rfl)) (fun _ _ _ h => h) (Or.inl ⟨by rfl, ?_⟩) ?_ ?_
                              rotate_left; focus (intro w'; go_simp; with_reducible rfl)
                              rotate_left; focus (simp only [Act.put, List.setIfInBounds_toArray, List.set_cons_zero, List.set_cons_succ, i64_w, i32_w]; rfl)
                              refine pure_ (i := 28) (N := some 4) (v := ?_) (a' := ?_) #[true, true, true, true, true, true, true, true, true, true, true, true, true, true, true, true, true, true, true, true, true, true, true, true, true, true, true, true, true] rfl rfl (any_of HT_.out (by kernel_rfl)) (fun _ _ _ h => h) (Or.inl ⟨by rfl, ?_⟩) ?_ ?_
                              rotate_left; focus (intro w'; go_simp; with_reducible rfl)
                              rotate_left; focus (simp only [Act.put, List.setIfInBounds_toArray, List.set_cons_zero, List.set_cons_succ, i64_w, i32_w]; rfl)
                              refine done_ (done_of HT_.out (by kernel_rfl)) ?_
                              try go_wp2
                              go_ret
                              exact ⟨by first | rfl | (simp [errW_none, errW_some] <;> rfl) | (simp [*, errW_none, errW_some] <;> rfl) | (exfalso; contradiction), by repeat (first | (with_reducible first | exact HB.out | apply below_alloc | apply pw_below_drewN | apply below_drew1 | refine below_set ?_ GE189.out) | exact HB.out)⟩
                            · rw [if_neg c48] at H
                              have c48b0 : decide (t195 ≤ (wrap64 ((wrap64 (Int.tdiv a1 a0_6)) * a0_0))) = false := decide_eq_false c48
                              clear c48
                              exact absurd H (by simp)
                          · rw [if_neg c47] at H
                            have c47b0 : ((Int.tmod t195 a0_0) == 0) = false := beq_eq_false_iff_ne.mpr c47
                            have c47b1 : ((Int.tmod t195 a0_0) != 0) = true := bne_iff_ne.mpr c47
                            exact absurd H (by simp)
                  · rw [if_neg c43] at H
                    exact absurd H (by simp)
            · rw [if_neg c16] at H
              exact absurd H (by simp)
          · rw [if_neg c15] at H
            have c15b0 : decide (a1 < a0_6) = false := decide_eq_false c15
            clear c15
            by_cases c67 : t196 = t195
            · rw [if_pos c67] at H
              have c67b0 : (t196 == t195) = true := beq_iff_eq.mpr c67
              have c67b1 : (t196 != t195) = false := bne_eq_false_iff_eq.mpr c67
              clear c67
              by_cases c68 : (wrap64 (t196 - t195)) > a0_0
              · rw [if_pos c68] at H
                exact absurd H (by simp)
              · rw [if_neg c68] at H
                have c68b0 : decide (a0_0 < (wrap64 (t196 - t195))) = false := decide_eq_false c68
                clear c68
                by_cases c69 : t196 < t195
                · rw [if_pos c69] at H
                  exact absurd H (by simp)
                · rw [if_neg c69] at H
                  have c69b0 : decide (t196 < t195) = false := decide_eq_false c69
                  clear c69
                  by_cases c70 : a0_0 = 0
                  · rw [if_pos c70] at H
                    exact absurd H (by simp)
                  · rw [if_neg c70] at H
                    have c70b0 : (a0_0 == 0) = false := beq_eq_false_iff_ne.mpr c70
                    have c70b1 : (a0_0 != 0) = true := bne_iff_ne.mpr c70
                    by_cases c71 : (Int.tmod t195 a0_0) = 0
                    · rw [if_pos c71] at H
                      have c71b0 : ((Int.tmod t195 a0_0) == 0) = true := beq_iff_eq.mpr c71
                      have c71b1 : ((Int.tmod t195 a0_0) != 0) = false := bne_eq_false_iff_eq.mpr c71
                      clear c71
                      by_cases c72 : a0_6 = 0
                      · rw [if_pos c72] at H
                        exact absurd H (by simp)
                      · rw [if_neg c72] at H
                        have c72b0 : (a0_6 == 0) = false := beq_eq_false_iff_ne.mpr c72
                        have c72b1 : (a0_6 != 0) = true := bne_iff_ne.mpr c72
                        by_cases c73 : t195 ≤ (wrap64 ((wrap64 (Int.tdiv a1 a0_6)) * a0_0))
                        · rw [if_pos c73] at H
                          have c73b0 : decide (t195 ≤ (wrap64 ((wrap64 (Int.tdiv a1 a0_6)) * a0_0))) = true := decide_eq_true c73
                          clear c73
                          obtain ⟨y205, hy205⟩ : ∃ y_ : List (S26), y_ = (([(⟨(⟨a0_0, a0_1, a0_2, a0_3, a0_4, a0_5⟩ : S24), a0_6⟩ : S26)] : List (S26))) := ⟨_, rfl⟩
                          replace H : ((demand_Horizon.f k y205).bind fun t208 => (some (t208 == (wrap64 (16 * a0_0))))) = some r := by first | (rw [hy205]; with_reducible exact H) | (have H2_ := (Option.bind_some _ _).symm.trans H; rw [hy205]; with_reducible exact H2_) | (have H2_ := (Option.bind_some _ _).symm.trans H; with_reducible exact H2_) | with_reducible exact H | (rw [hy205]; exact H) | exact H
                          have Ny205 := Aside0.mk hy205
                          clear hy205
                          replace H := Option.bind_eq_some_iff.mp H
                          obtain ⟨t208, A740, H⟩ := H
                          try dsimp only at H
                          have A74 := Aside0.mk A740
                          clear A740
                          obtain rfl := Option.some.inj H
                          go_enter Try.func4, Try.ntmps4
                          try go_wp2_with (first | ((with_reducible refine gate_dst (N := 2) rfl ?_); (try (refine gate_guard (by rfl) ?_; dsimp only)); refine box_event ?hg (N := 2) ?hd (cs := #[.int .i64 a0_0, .int .i64 a0_1, .int .i64 a0_2, .int .i64 a0_3, .int .i64 a0_4, .int .i64 a0_5, .int .i64 a0_6]) (t := 26) ?hr ?_; (case hd => rfl); (case hg => rfl); (case hr => first | (go_simp; done) | (go_simp; rfl)); intro gb189 hg w75 hbox hb; have n0_ := bs HB hb; have n1_ := Aside0.mk (hbox); have n2_ := bz HB hg; have n3_ := bz HB hg; clear HB; have HB := n0_; have BK189 := n1_; have GW189 := n2_; have GE189 := n3_; clear n0_ n1_ n2_ n3_; clear hb hbox hg) | ((with_reducible refine gate_callee (f := 10) rfl ?_); refine goesL_ (some 8) rfl rfl Try.func10 (by kernel_rfl) rfl #[] rfl (by (try simp only [List.map_toArray, List.map_cons, List.map_nil]); first | done | rfl | (simp only [List.length_drop, List.length_take]; rfl)) ?_; (with_reducible refine (fuseelaw09_awake.calls k  true _ A3.out).mono ?_); rintro e w76 ⟨rfl, hb⟩; refine ⟨_, rfl, ?_⟩; have n0_ := bb BK189 hb; have n1_ := bs HB hb; clear BK189; clear HB; have BK189 := n0_; have HB := n1_; clear n0_ n1_; (try clear hb); (try clear hb2); (try clear hk); (try clear hi); obtain ⟨hcz77_0, hcz77_1, hcz77_2, hcz77_3, hcz77_4, hcz77_5, hcz77_6⟩ := cc7 BK189; obtain ⟨hfz77_0, hfz77_1, hfz77_2, hfz77_3, hfz77_4, hfz77_5, hfz77_6⟩ := cf7 BK189) | ((with_reducible refine gate_dst (N := 21) rfl ?_); (try (refine gate_guard (by rfl) ?_; dsimp only)); refine Kd.R_lit k26 _ 26 ?hg (N := 21) ?hd (xs := ([(⟨(⟨a0_0, a0_1, a0_2, a0_3, a0_4, a0_5⟩ : S24), a0_6⟩ : S26)] : List (S26))) (inner := [.int .i64 a0_0, .int .i64 a0_1, .int .i64 a0_2, .int .i64 a0_3, .int .i64 a0_4, .int .i64 a0_5, .int .i64 a0_6]) (ok := fun _ => True) (okp := fun _ => True) ?hr ?hp (fun _ hk => hk) trivial (Below.refl _ _) (Nat.le_refl _) (by simp) ?_; (case hd => rfl); (case hg => rfl); (case hr => first | (go_simp; done) | (go_simp; rfl)); (case hp => exact (Reps.c7 (show Kd.M k26 _ _ _ (⟨(⟨a0_0, a0_1, a0_2, a0_3, a0_4, a0_5⟩ : S24), a0_6⟩ : S26) [.int .i64 a0_0, .int .i64 a0_1, .int .i64 a0_2, .int .i64 a0_3, .int .i64 a0_4, .int .i64 a0_5, .int .i64 a0_6] from (k26_mkM _ _ _ (⟨(⟨a0_0, a0_1, a0_2, a0_3, a0_4, a0_5⟩ : S24), a0_6⟩ : S26) )) (Reps.none _ _))); intro v192 w78 ho79 hb hg_ hnew_; clear hg_ hnew_; (first | rw [← Ny191.out] at ho79 | (simp only [Int.reduceToNat] at ho79; rw [← Ny191.out] at ho79)); have n0_ := Aside0.mk (Kd.R_lower (Kd.R_newB ho79 (g := gb189) (o := .cells #[.int .i64 a0_0, .int .i64 a0_1, .int .i64 a0_2, .int .i64 a0_3, .int .i64 a0_4, .int .i64 a0_5, .int .i64 a0_6] 26 (0, 0)) (by (with_reducible repeat (first | refine bN ?_ _ | refine bD ?_ | refine bA ?_ _)); exact BK189.out)) (below_size (by repeat (first | (with_reducible first | exact HB.out | apply below_alloc | apply pw_below_drewN | apply below_drew1 | refine below_set ?_ GE189.out) | exact HB.out)))); have n1_ := bb BK189 hb; have n2_ := bs HB hb; clear BK189; clear HB; have HO193 := n0_; have BK189 := n1_; have HB := n2_; clear n0_ n1_ n2_; clear hb ho79; obtain ⟨Ao80, co80, eo80⟩ := Kd.R_slice HO193.out; subst eo80) | (go_at_call 13; (with_reducible refine (demand_May.calls k _ _ y191 true _ ?side1 ?side2 A11.out).mono ?_); (case side1 => repeat (first | exact (Kd.R_reads' HO193.out).2.2 | (with_reducible refine Kd.C_alloc ?_ _) | (with_reducible refine Kd.C_drewN ?_ _) | (with_reducible refine Kd.C_drew ?_))); (case side2 => exact (Kd.R_reads' HO193.out).2.1); rintro e w81 ⟨rfl, hb⟩; have n0_ := Aside0.mk (Kd.R_below (by (with_reducible repeat (first | apply Kd.R_alloc | apply Kd.R_drewN | apply Kd.R_drew)); exact HO193.out) hb); have n1_ := bb BK189 hb; have n2_ := bs HB hb; clear HO193; clear BK189; clear HB; have HO193 := n0_; have BK189 := n1_; have HB := n2_; clear n0_ n1_ n2_; (try clear hb); (try clear hb2); (try clear hk); (try clear hi); (try clear hcz77_0 hcz77_1 hcz77_2 hcz77_3 hcz77_4 hcz77_5 hcz77_6 hfz77_0 hfz77_1 hfz77_2 hfz77_3 hfz77_4 hfz77_5 hfz77_6); obtain ⟨hcz82_0, hcz82_1, hcz82_2, hcz82_3, hcz82_4, hcz82_5, hcz82_6⟩ := cc7 BK189; obtain ⟨hfz82_0, hfz82_1, hfz82_2, hfz82_3, hfz82_4, hfz82_5, hfz82_6⟩ := cf7 BK189) | ((with_reducible refine gate_callee (f := 11) rfl ?_); refine goesL_ (some 28) rfl rfl Try.func11 (by kernel_rfl) rfl #[.agg #[.int .i64 a0_0, .int .i64 a0_1, .int .i64 a0_2, .int .i64 a0_3, .int .i64 a0_4, .int .i64 a0_5, .int .i64 a0_6], .int .i64 a1] rfl (by (try simp only [List.map_toArray, List.map_cons, List.map_nil]); first | done | rfl | (simp only [List.length_drop, List.length_take]; rfl)) ?_; (with_reducible refine (demand_Of.calls a0_0 a0_1 a0_2 a0_3 a0_4 a0_5 a0_6 a1 t195 _ A13.out).mono ?_); rintro e w83 ⟨rfl, hb⟩; refine ⟨_, rfl, ?_⟩; have n0_ := Aside0.mk (Kd.R_below (by (with_reducible repeat (first | apply Kd.R_alloc | apply Kd.R_drewN | apply Kd.R_drew)); exact HO193.out) hb); have n1_ := bb BK189 hb; have n2_ := bs HB hb; clear HO193; clear BK189; clear HB; have HO193 := n0_; have BK189 := n1_; have HB := n2_; clear n0_ n1_ n2_; (try clear hb); (try clear hb2); (try clear hk); (try clear hi); (try clear hcz77_0 hcz77_1 hcz77_2 hcz77_3 hcz77_4 hcz77_5 hcz77_6 hfz77_0 hfz77_1 hfz77_2 hfz77_3 hfz77_4 hfz77_5 hfz77_6); (try clear hcz82_0 hcz82_1 hcz82_2 hcz82_3 hcz82_4 hcz82_5 hcz82_6 hfz82_0 hfz82_1 hfz82_2 hfz82_3 hfz82_4 hfz82_5 hfz82_6); obtain ⟨hcz84_0, hcz84_1, hcz84_2, hcz84_3, hcz84_4, hcz84_5, hcz84_6⟩ := cc7 BK189; obtain ⟨hfz84_0, hfz84_1, hfz84_2, hfz84_3, hfz84_4, hfz84_5, hfz84_6⟩ := cf7 BK189) | ((with_reducible refine gate_callee (f := 11) rfl ?_); refine goesL_ (some 32) rfl rfl Try.func11 (by kernel_rfl) rfl #[.agg #[.int .i64 a0_0, .int .i64 a0_1, .int .i64 a0_2, .int .i64 a0_3, .int .i64 a0_4, .int .i64 a0_5, .int .i64 a0_6], .int .i64 (wrap64 (a1 + 1))] rfl (by (try simp only [List.map_toArray, List.map_cons, List.map_nil]); first | done | rfl | (simp only [List.length_drop, List.length_take]; rfl)) ?_; (with_reducible refine (demand_Of.calls a0_0 a0_1 a0_2 a0_3 a0_4 a0_5 a0_6 (wrap64 (a1 + 1)) t196 _ A14.out).mono ?_); rintro e w85 ⟨rfl, hb⟩; refine ⟨_, rfl, ?_⟩; have n0_ := Aside0.mk (Kd.R_below (by (with_reducible repeat (first | apply Kd.R_alloc | apply Kd.R_drewN | apply Kd.R_drew)); exact HO193.out) hb); have n1_ := bb BK189 hb; have n2_ := bs HB hb; clear HO193; clear BK189; clear HB; have HO193 := n0_; have BK189 := n1_; have HB := n2_; clear n0_ n1_ n2_; (try clear hb); (try clear hb2); (try clear hk); (try clear hi); (try clear hcz77_0 hcz77_1 hcz77_2 hcz77_3 hcz77_4 hcz77_5 hcz77_6 hfz77_0 hfz77_1 hfz77_2 hfz77_3 hfz77_4 hfz77_5 hfz77_6); (try clear hcz82_0 hcz82_1 hcz82_2 hcz82_3 hcz82_4 hcz82_5 hcz82_6 hfz82_0 hfz82_1 hfz82_2 hfz82_3 hfz82_4 hfz82_5 hfz82_6); (try clear hcz84_0 hcz84_1 hcz84_2 hcz84_3 hcz84_4 hcz84_5 hcz84_6 hfz84_0 hfz84_1 hfz84_2 hfz84_3 hfz84_4 hfz84_5 hfz84_6); obtain ⟨hcz86_0, hcz86_1, hcz86_2, hcz86_3, hcz86_4, hcz86_5, hcz86_6⟩ := cc7 BK189; obtain ⟨hfz86_0, hfz86_1, hfz86_2, hfz86_3, hfz86_4, hfz86_5, hfz86_6⟩ := cf7 BK189))
                          have n0_ := Aside0.mk (Kd.R_drew HO193.out)
                          have n1_ := Aside0.mk (blk_drew BK189.out)
                          have n2_ := Aside0.mk (below_drew1 HB.out)
                          clear HO193
                          clear BK189
                          clear HB
                          have HO193 := n0_
                          have BK189 := n1_
                          have HB := n2_
                          clear n0_ n1_ n2_
                          refine start_ (n := 29) (S := fun w' => w'.cell? ⟨gb189, 0, none⟩ = some (.int .i64 a0_0) ∧ w'.cell? ⟨gb189, 1, none⟩ = some (.int .i64 a0_1) ∧ w'.cell? ⟨gb189, 2, none⟩ = some (.int .i64 a0_2) ∧ w'.cell? ⟨gb189, 3, none⟩ = some (.int .i64 a0_3) ∧ w'.cell? ⟨gb189, 4, none⟩ = some (.int .i64 a0_4) ∧ w'.cell? ⟨gb189, 5, none⟩ = some (.int .i64 a0_5) ∧ w'.cell? ⟨gb189, 6, none⟩ = some (.int .i64 a0_6)) (ds := []) #[false, false, false, false, false, false, false, false, false, false, false, false, false, false, false, false, false, false, false, false, false, false, false, false, false, false, false, false, false] (by kernel_rfl) rfl rfl ⟨(blk_cell BK189.out 0).trans rfl, (blk_cell BK189.out 1).trans rfl, (blk_cell BK189.out 2).trans rfl, (blk_cell BK189.out 3).trans rfl, (blk_cell BK189.out 4).trans rfl, (blk_cell BK189.out 5).trans rfl, (blk_cell BK189.out 6).trans rfl⟩ (fun hHeld => ?_); refine with_tabW fuseelaw09_DemandSteps.tab8 fuseelaw09_DemandSteps.bits8 (fun HT_ HW_ => ?_)
                          generalize w85.drew = w87 at HO193 BK189 HB hHeld ⊢
                          refine pure_ (i := 0) (N := some 68) (v := ?_) (a' := ?_) #[true, false, false, false, false, false, false, false, false, false, false, false, false, false, false, false, false, false, false, false, false, false, false, false, false, false, false, false, false] rfl rfl (any_of HT_.out (by kernel_rfl)) (fun _ _ _ h => h) (Or.inl ⟨by rfl, ?_⟩) ?_ ?_
                          rotate_left; focus (intro w'; go_simp; with_reducible rfl)
                          rotate_left; focus (simp only [Act.put, List.setIfInBounds_toArray, List.set_cons_zero, List.set_cons_succ, i64_w, i32_w]; rfl)
                          refine pure_ (i := 1) (N := some 69) (v := ?_) (a' := ?_) #[true, true, false, false, false, false, false, false, false, false, false, false, false, false, false, false, false, false, false, false, false, false, false, false, false, false, false, false, false] rfl rfl (any_of HT_.out (by kernel_rfl)) (fun _ _ _ h => h) (Or.inl ⟨by rfl, ?_⟩) ?_ ?_
                          rotate_left; focus (intro w'; go_simp; with_reducible rfl)
                          rotate_left; focus (simp only [Act.put, List.setIfInBounds_toArray, List.set_cons_zero, List.set_cons_succ, i64_w, i32_w]; rfl)
                          refine pure_ (i := 2) (N := some 70) (v := ?_) (a' := ?_) #[true, true, true, false, false, false, false, false, false, false, false, false, false, false, false, false, false, false, false, false, false, false, false, false, false, false, false, false, false] rfl rfl (any_of HT_.out (by kernel_rfl)) (fun _ _ _ h => h) (Or.inl ⟨by rfl, ?_⟩) ?_ ?_
                          rotate_left; focus (intro w'; go_simp; with_reducible rfl)
                          rotate_left; focus (simp only [Act.put, List.setIfInBounds_toArray, List.set_cons_zero, List.set_cons_succ, i64_w, i32_w]; rfl)
                          refine take_ (i := 3) (N := some 71) (v := ?_) (a' := ?_) #[true, true, true, true, false, false, false, false, false, false, false, false, false, false, false, false, false, false, false, false, false, false, false, false, false, false, false, false, false] rfl rfl (take_ofW HT_.out HW_.out (by kernel_rfl)) (fun _ _ _ h => h) (Or.inl ⟨by rfl, ?_⟩) hHeld ?_ ?_
                          rotate_left
                          · rintro w' ⟨s0, s1, s2, s3, s4, s5, s6⟩
                            go_simp
                            with_reducible rfl
                          rotate_left; focus (simp only [Act.put, List.setIfInBounds_toArray, List.set_cons_zero, List.set_cons_succ, i64_w, i32_w]; rfl)
                          refine pure_ (i := 4) (N := some 72) (v := ?_) (a' := ?_) #[true, true, true, true, true, false, false, false, false, false, false, false, false, false, false, false, false, false, false, false, false, false, false, false, false, false, false, false, false] rfl rfl (any_of HT_.out (by kernel_rfl)) (fun _ _ _ h => h) (Or.inl ⟨by rfl, ?_⟩) ?_ ?_
                          rotate_left; focus (intro w'; go_simp; with_reducible rfl)
                          rotate_left; focus (simp only [Act.put, List.setIfInBounds_toArray, List.set_cons_zero, List.set_cons_succ, i64_w, i32_w]; rfl)
                          refine pure_ (i := 5) (N := some 73) (v := ?_) (a' := ?_) #[true, true, true, true, true, true, false, false, false, false, false, false, false, false, false, false, false, false, false, false, false, false, false, false, false, false, false, false, false] rfl rfl (any_of HT_.out (by kernel_rfl)) (fun _ _ _ h => h) (Or.inl ⟨by rfl, ?_⟩) ?_ ?_
                          rotate_left; focus (intro w'; go_simp; with_reducible rfl)
                          rotate_left; focus (simp only [Act.put, List.setIfInBounds_toArray, List.set_cons_zero, List.set_cons_succ, i64_w, i32_w]; rfl)
                          refine pure_ (i := 6) (N := some 74) (v := ?_) (a' := ?_) #[true, true, true, true, true, true, true, false, false, false, false, false, false, false, false, false, false, false, false, false, false, false, false, false, false, false, false, false, false] rfl rfl (any_of HT_.out (by kernel_rfl)) (fun _ _ _ h => h) (Or.inl ⟨by rfl, ?_⟩) ?_ ?_
                          rotate_left; focus (intro w'; go_simp; with_reducible rfl)
                          rotate_left; focus (simp only [Act.put, List.setIfInBounds_toArray, List.set_cons_zero, List.set_cons_succ, i64_w, i32_w]; rfl)
                          refine pure_ (i := 7) (N := some 75) (v := ?_) (a' := ?_) #[true, true, true, true, true, true, true, true, false, false, false, false, false, false, false, false, false, false, false, false, false, false, false, false, false, false, false, false, false] rfl rfl (any_of HT_.out (by kernel_rfl)) (fun _ _ _ h => h) (Or.inl ⟨by rfl, ?_⟩) ?_ ?_
                          rotate_left; focus (intro w'; go_simp; with_reducible rfl)
                          rotate_left; focus (simp only [Act.put, List.setIfInBounds_toArray, List.set_cons_zero, List.set_cons_succ, i64_w, i32_w]; rfl)
                          refine pure_ (i := 8) (N := some 76) (v := ?_) (a' := ?_) #[true, true, true, true, true, true, true, true, true, false, false, false, false, false, false, false, false, false, false, false, false, false, false, false, false, false, false, false, false] rfl rfl (any_of HT_.out (by kernel_rfl)) (fun _ _ _ h => h) (Or.inl ⟨by rfl, ?_⟩) ?_ ?_
                          rotate_left; focus (intro w'; go_simp; with_reducible rfl)
                          rotate_left; focus (simp only [Act.put, List.setIfInBounds_toArray, List.set_cons_zero, List.set_cons_succ, i64_w, i32_w]; rfl)
                          refine pure_ (i := 9) (N := some 77) (v := ?_) (a' := ?_) #[true, true, true, true, true, true, true, true, true, true, false, false, false, false, false, false, false, false, false, false, false, false, false, false, false, false, false, false, false] rfl rfl (any_of HT_.out (by kernel_rfl)) (fun _ _ _ h => h) (Or.inl ⟨by rfl, ?_⟩) ?_ ?_
                          rotate_left; focus (intro w'; go_simp; with_reducible rfl)
                          rotate_left; focus (simp only [Act.put, List.setIfInBounds_toArray, List.set_cons_zero, List.set_cons_succ, i64_w, i32_w]; rfl)
                          refine pure_ (i := 12) (N := some 80) (v := ?_) (a' := ?_) #[true, true, true, true, true, true, true, true, true, true, false, false, true, false, false, false, false, false, false, false, false, false, false, false, false, false, false, false, false] rfl rfl (any_of HT_.out (by kernel_rfl)) (fun _ _ _ h => h) (Or.inl ⟨by rfl, ?_⟩) ?_ ?_
                          rotate_left; focus (intro w'; go_simp; with_reducible rfl)
                          rotate_left; focus (simp only [Act.put, List.setIfInBounds_toArray, List.set_cons_zero, List.set_cons_succ, i64_w, i32_w]; rfl)
                          refine pure_ (i := 13) (N := some 81) (v := ?_) (a' := ?_) #[true, true, true, true, true, true, true, true, true, true, false, false, true, true, false, false, false, false, false, false, false, false, false, false, false, false, false, false, false] rfl rfl (any_of HT_.out (by kernel_rfl)) (fun _ _ _ h => h) (Or.inl ⟨by rfl, ?_⟩) ?_ ?_
                          rotate_left; focus (intro w'; go_simp; with_reducible rfl)
                          rotate_left; focus (simp only [Act.put, List.setIfInBounds_toArray, List.set_cons_zero, List.set_cons_succ, i64_w, i32_w]; rfl)
                          refine take_ (i := 10) (N := some 78) (v := ?_) (a' := ?_) #[true, true, true, true, true, true, true, true, true, true, true, false, true, true, false, false, false, false, false, false, false, false, false, false, false, false, false, false, false] rfl rfl (take_ofW HT_.out HW_.out (by kernel_rfl)) (fun _ _ _ h => h) (Or.inl ⟨by rfl, ?_⟩) hHeld ?_ ?_
                          rotate_left
                          · rintro w' ⟨s0, s1, s2, s3, s4, s5, s6⟩
                            go_simp
                            with_reducible rfl
                          rotate_left; focus (simp only [Act.put, List.setIfInBounds_toArray, List.set_cons_zero, List.set_cons_succ, i64_w, i32_w]; rfl)
                          refine pure_ (i := 11) (N := some 79) (v := ?_) (a' := ?_) #[true, true, true, true, true, true, true, true, true, true, true, true, true, true, false, false, false, false, false, false, false, false, false, false, false, false, false, false, false] rfl rfl (any_of HT_.out (by kernel_rfl)) (fun _ _ _ h => h) (Or.inl ⟨by rfl, ?_⟩) ?_ ?_
                          rotate_left; focus (intro w'; go_simp; with_reducible rfl)
                          rotate_left; focus (simp only [Act.put, List.setIfInBounds_toArray, List.set_cons_zero, List.set_cons_succ, i64_w, i32_w]; rfl)
                          refine take_ (i := 14) (N := some 82) (v := ?_) (a' := ?_) #[true, true, true, true, true, true, true, true, true, true, true, true, true, true, true, false, false, false, false, false, false, false, false, false, false, false, false, false, false] rfl rfl (take_ofW HT_.out HW_.out (by kernel_rfl)) (fun _ _ _ h => h) (Or.inl ⟨by rfl, ?_⟩) hHeld ?_ ?_
                          rotate_left
                          · rintro w' ⟨s0, s1, s2, s3, s4, s5, s6⟩
                            go_simp
                            with_reducible rfl
                          rotate_left; focus (simp only [Act.put, List.setIfInBounds_toArray, List.set_cons_zero, List.set_cons_succ, i64_w, i32_w]; rfl)
                          refine pure_ (i := 15) (N := some 83) (v := ?_) (a' := ?_) #[true, true, true, true, true, true, true, true, true, true, true, true, true, true, true, true, false, false, false, false, false, false, false, false, false, false, false, false, false] rfl rfl (any_of HT_.out (by kernel_rfl)) (fun _ _ _ h => h) (Or.inl ⟨by rfl, ?_⟩) ?_ ?_
                          rotate_left; focus (intro w'; go_simp; with_reducible rfl)
                          rotate_left; focus (simp only [Act.put, List.setIfInBounds_toArray, List.set_cons_zero, List.set_cons_succ, i64_w, i32_w]; rfl)
                          refine pure_ (i := 16) (N := some 84) (v := ?_) (a' := ?_) #[true, true, true, true, true, true, true, true, true, true, true, true, true, true, true, true, true, false, false, false, false, false, false, false, false, false, false, false, false] rfl rfl (any_of HT_.out (by kernel_rfl)) (fun _ _ _ h => h) (Or.inl ⟨by rfl, ?_⟩) ?_ ?_
                          rotate_left; focus (intro w'; go_simp; with_reducible rfl)
                          rotate_left; focus (simp only [Act.put, List.setIfInBounds_toArray, List.set_cons_zero, List.set_cons_succ, i64_w, i32_w]; rfl)
                          refine pure_ (i := 17) (N := some 85) (v := ?_) (a' := ?_) #[true, true, true, true, true, true, true, true, true, true, true, true, true, true, true, true, true, true, false, false, false, false, false, false, false, false, false, false, false] rfl rfl (any_of HT_.out (by kernel_rfl)) (fun _ _ _ h => h) (Or.inl ⟨by rfl, ?_⟩) ?_ ?_
                          rotate_left; focus (intro w'; go_simp; with_reducible rfl)
                          rotate_left; focus (simp only [Act.put, List.setIfInBounds_toArray, List.set_cons_zero, List.set_cons_succ, i64_w, i32_w]; rfl)
                          refine pure_ (i := 18) (N := some 86) (v := ?_) (a' := ?_) #[true, true, true, true, true, true, true, true, true, true, true, true, true, true, true, true, true, true, true, false, false, false, false, false, false, false, false, false, false] rfl rfl (any_of HT_.out (by kernel_rfl)) (fun _ _ _ h => h) (Or.inl ⟨by rfl, ?_⟩) ?_ ?_
                          rotate_left; focus (intro w'; go_simp; with_reducible rfl)
                          rotate_left; focus (simp only [Act.put, List.setIfInBounds_toArray, List.set_cons_zero, List.set_cons_succ, i64_w, i32_w]; rfl)
                          refine pure_ (i := 22) (N := some 90) (v := ?_) (a' := ?_) #[true, true, true, true, true, true, true, true, true, true, true, true, true, true, true, true, true, true, true, false, false, false, true, false, false, false, false, false, false] rfl rfl (any_of HT_.out (by kernel_rfl)) (fun _ _ _ h => h) (Or.inl ⟨by rfl, ?_⟩) ?_ ?_
                          rotate_left; focus (intro w'; go_simp; with_reducible rfl)
                          rotate_left; focus (simp only [Act.put, List.setIfInBounds_toArray, List.set_cons_zero, List.set_cons_succ, i64_w, i32_w]; rfl)
                          refine pure_ (i := 23) (N := some 91) (v := ?_) (a' := ?_) #[true, true, true, true, true, true, true, true, true, true, true, true, true, true, true, true, true, true, true, false, false, false, true, true, false, false, false, false, false] rfl rfl (any_of HT_.out (by kernel_rfl)) (fun _ _ _ h => h) (Or.inl ⟨by rfl, ?_⟩) ?_ ?_
                          rotate_left; focus (intro w'; go_simp; with_reducible rfl)
                          rotate_left; focus (simp only [Act.put, List.setIfInBounds_toArray, List.set_cons_zero, List.set_cons_succ, i64_w, i32_w]; rfl)
                          refine take_ (i := 19) (N := some 87) (v := ?_) (a' := ?_) #[true, true, true, true, true, true, true, true, true, true, true, true, true, true, true, true, true, true, true, true, false, false, true, true, false, false, false, false, false] rfl rfl (take_ofW HT_.out HW_.out (by kernel_rfl)) (fun _ _ _ h => h) (Or.inl ⟨by rfl, ?_⟩) hHeld ?_ ?_
                          rotate_left
                          · rintro w' ⟨s0, s1, s2, s3, s4, s5, s6⟩
                            go_simp
                            with_reducible rfl
                          rotate_left; focus (simp only [Act.put, List.setIfInBounds_toArray, List.set_cons_zero, List.set_cons_succ, i64_w, i32_w]; rfl)
                          refine take_ (i := 24) (N := some 92) (v := ?_) (a' := ?_) #[true, true, true, true, true, true, true, true, true, true, true, true, true, true, true, true, true, true, true, true, false, false, true, true, true, false, false, false, false] rfl rfl (take_ofW HT_.out HW_.out (by kernel_rfl)) (fun _ _ _ h => h) (Or.inl ⟨by rfl, ?_⟩) hHeld ?_ ?_
                          rotate_left
                          · rintro w' ⟨s0, s1, s2, s3, s4, s5, s6⟩
                            go_simp
                            with_reducible rfl
                          rotate_left; focus (simp only [Act.put, List.setIfInBounds_toArray, List.set_cons_zero, List.set_cons_succ, i64_w, i32_w]; rfl)
                          refine pure_ (i := 25) (N := some 93) (v := ?_) (a' := ?_) #[true, true, true, true, true, true, true, true, true, true, true, true, true, true, true, true, true, true, true, true, false, false, true, true, true, true, false, false, false] rfl rfl (any_of HT_.out (by kernel_rfl)) (fun _ _ _ h => h) (Or.inl ⟨by rfl, ?_⟩) ?_ ?_
                          rotate_left; focus (intro w'; go_simp; with_reducible rfl)
                          rotate_left; focus (simp only [Act.put, List.setIfInBounds_toArray, List.set_cons_zero, List.set_cons_succ, i64_w, i32_w]; rfl)
                          refine one_ (i := 20) (N := some 88) #[true, true, true, true, true, true, true, true, true, true, true, true, true, true, true, true, true, true, true, true, true, false, true, true, true, true, false, false, false] rfl rfl (one_of HT_.out (by kernel_rfl)) (by decide) (fun K hK => ?_)
                          refine Kd.R_lit_step k26 _ 26 ?hg (N := 88) ?hd (xs := ([(⟨(⟨a0_0, a0_1, a0_2, a0_3, a0_4, a0_5⟩ : S24), a0_6⟩ : S26)] : List (S26))) (inner := [.int .i64 a0_0, .int .i64 a0_1, .int .i64 a0_2, .int .i64 a0_3, .int .i64 a0_4, .int .i64 a0_5, .int .i64 a0_6]) (ok := fun _ => True) (okp := fun _ => True) ?hr ?hp (fun _ hk => hk) trivial (Below.refl _ _) (Nat.le_refl _) (by simp) ?_; (case hd => rfl); (case hg => rfl); (case hr => first | (go_simp; done) | (go_simp; rfl)); (case hp => exact (Reps.c7 (show Kd.M k26 _ _ _ (⟨(⟨a0_0, a0_1, a0_2, a0_3, a0_4, a0_5⟩ : S24), a0_6⟩ : S26) [.int .i64 a0_0, .int .i64 a0_1, .int .i64 a0_2, .int .i64 a0_3, .int .i64 a0_4, .int .i64 a0_5, .int .i64 a0_6] from (k26_mkM _ _ _ (⟨(⟨a0_0, a0_1, a0_2, a0_3, a0_4, a0_5⟩ : S24), a0_6⟩ : S26) )) (Reps.none _ _)))
                          intro v206 w88 ho89 hb hg_ hnew_
                          clear hg_ hnew_
                          (first | rw [← Ny205.out] at ho89 | (simp only [Int.reduceToNat] at ho89; rw [← Ny205.out] at ho89))
                          have n0_ := Aside0.mk (Kd.R_elder' (by (with_reducible repeat (first | apply Kd.R_alloc | apply Kd.R_drewN | apply Kd.R_drew)); exact HO193.out) (Kd.R_base ho89) hb)
                          have n1_ := Aside0.mk (Kd.R_lower (Kd.R_newB (Kd.R_new' ho89 (Kd.R_lt (by (with_reducible repeat (first | apply Kd.R_alloc | apply Kd.R_drewN | apply Kd.R_drew)); exact HO193.out))) (g := gb189) (o := .cells #[.int .i64 a0_0, .int .i64 a0_1, .int .i64 a0_2, .int .i64 a0_3, .int .i64 a0_4, .int .i64 a0_5, .int .i64 a0_6] 26 (0, 0)) (by (with_reducible repeat (first | refine bN ?_ _ | refine bD ?_ | refine bA ?_ _)); exact BK189.out)) (below_size (by repeat (first | (with_reducible first | exact HB.out | apply below_alloc | apply pw_below_drewN | apply below_drew1 | refine below_set ?_ GE189.out) | exact HB.out))))
                          have n2_ := bb BK189 hb
                          have n3_ := bs HB hb
                          clear HO193
                          clear BK189
                          clear HB
                          have HO193 := n0_
                          have HO207 := n1_
                          have BK189 := n2_
                          have HB := n3_
                          clear n0_ n1_ n2_ n3_
                          clear hb ho89
                          obtain ⟨Ao90, co90, eo90⟩ := Kd.R_slice HO207.out
                          (first | subst eo90 | (injection eo90 with f1_ f2_ f3_; have f4_ := f1_.symm; have f5_ := f3_.symm; clear f1_ f2_ f3_; subst f4_; subst f5_))
                          refine hK.out _ _ ⟨(blk_cell BK189.out 0).trans rfl, (blk_cell BK189.out 1).trans rfl, (blk_cell BK189.out 2).trans rfl, (blk_cell BK189.out 3).trans rfl, (blk_cell BK189.out 4).trans rfl, (blk_cell BK189.out 5).trans rfl, (blk_cell BK189.out 6).trans rfl⟩ (fun hHeld => ?_)
                          clear hK K
                          refine norm_ (a' := ?_) ?_ ?_
                          rotate_left
                          · show Act.put _ (some 88) _ = _
                            simp only [Act.put, List.setIfInBounds_toArray, List.set_cons_zero, List.set_cons_succ, i64_w, i32_w]
                            rfl
                          refine one_ (i := 21) (N := some 89) #[true, true, true, true, true, true, true, true, true, true, true, true, true, true, true, true, true, true, true, true, true, true, true, true, true, true, false, false, false] rfl rfl (one_of HT_.out (by kernel_rfl)) (by decide) (fun K hK => ?_)
                          refine goes_ Try.func14 (by kernel_rfl) rfl #[.slice Ao90 y205.length co90] (by rfl) rfl rfl (by (try simp only [List.map_toArray, List.map_cons, List.map_nil]); first | done | rfl | (simp only [List.length_drop, List.length_take]; rfl)) ?_
                          with_reducible refine (demand_Horizon.calls k _ _ y205 t208 _ ?side1 ?side2 A74.out).mono ?_
                          (case side1 => repeat (first | exact (Kd.R_reads' HO207.out).2.2 | (with_reducible refine Kd.C_alloc ?_ _) | (with_reducible refine Kd.C_drewN ?_ _) | (with_reducible refine Kd.C_drew ?_)))
                          (case side2 => exact (Kd.R_reads' HO207.out).2.1)
                          rintro e w91 ⟨rfl, hb⟩
                          refine ⟨_, rfl, ?_⟩
                          have n0_ := Aside0.mk (Kd.R_below (by (with_reducible repeat (first | apply Kd.R_alloc | apply Kd.R_drewN | apply Kd.R_drew)); exact HO193.out) hb)
                          have n1_ := Aside0.mk (Kd.R_below (by (with_reducible repeat (first | apply Kd.R_alloc | apply Kd.R_drewN | apply Kd.R_drew)); exact HO207.out) hb)
                          have n2_ := bb BK189 hb
                          have n3_ := bs HB hb
                          clear HO193
                          clear HO207
                          clear BK189
                          clear HB
                          have HO193 := n0_
                          have HO207 := n1_
                          have BK189 := n2_
                          have HB := n3_
                          clear n0_ n1_ n2_ n3_
                          (try clear hb)
                          (try clear hb2)
                          (try clear hk)
                          (try clear hi)
                          refine hK.out _ _ ⟨(blk_cell BK189.out 0).trans rfl, (blk_cell BK189.out 1).trans rfl, (blk_cell BK189.out 2).trans rfl, (blk_cell BK189.out 3).trans rfl, (blk_cell BK189.out 4).trans rfl, (blk_cell BK189.out 5).trans rfl, (blk_cell BK189.out 6).trans rfl⟩ (fun hHeld => ?_)
                          clear hK K
                          refine norm_ (a' := ?_) ?_ ?_
                          rotate_left
                          · show Act.put _ (some 89) _ = _
                            simp only [Act.put, List.setIfInBounds_toArray, List.set_cons_zero, List.set_cons_succ, i64_w, i32_w]
                            rfl
                          refine pure_ (i := 26) (N := some 94) (v := ?_) (a' := ?_) #[true, true, true, true, true, true, true, true, true, true, true, true, true, true, true, true, true, true, true, true, true, true, true, true, true, true, true, false, false] rfl rfl (any_of HT_.out (by kernel_rfl)) (fun _ _ _ h => h) (Or.inl ⟨by rfl, ?_⟩) ?_ ?_
                          rotate_left; focus (intro w'; go_simp; with_reducible rfl)
                          rotate_left; focus (simp only [Act.put, List.setIfInBounds_toArray, List.set_cons_zero, List.set_cons_succ, i64_w, i32_w]; rfl)
                          refine pure_ (i := 27) (N := some 95) (v := ?_) (a' := ?_) #[true, true, true, true, true, true, true, true, true, true, true, true, true, true, true, true, true, true, true, true, true, true, true, true, true, true, true, true, false] rfl rfl (any_of HT_.out (by kernel_rfl)) (fun _ _ _ h => h) (Or.inl ⟨by rfl, ?_⟩) ?_ ?_
                          rotate_left; focus (intro w'; go_simp; with_reducible rfl)
                          rotate_left; focus (simp only [Act.put, List.setIfInBounds_toArray, List.set_cons_zero, List.set_cons_succ, i64_w, i32_w]; rfl)
                          refine pure_ (i := 28) (N := some 4) (v := ?_) (a' := ?_) #[true, true, true, true, true, true, true, true, true, true, true, true, true, true, true, true, true, true, true, true, true, true, true, true, true, true, true, true, true] rfl rfl (any_of HT_.out (by kernel_rfl)) (fun _ _ _ h => h) (Or.inl ⟨by rfl, ?_⟩) ?_ ?_
                          rotate_left; focus (intro w'; go_simp; with_reducible rfl)
                          rotate_left; focus (simp only [Act.put, List.setIfInBounds_toArray, List.set_cons_zero, List.set_cons_succ, i64_w, i32_w]; rfl)
                          refine done_ (done_of HT_.out (by kernel_rfl)) ?_
                          try go_wp2
                          go_ret
                          exact ⟨by first | rfl | (simp [errW_none, errW_some] <;> rfl) | (simp [*, errW_none, errW_some] <;> rfl) | (exfalso; contradiction), by repeat (first | (with_reducible first | exact HB.out | apply below_alloc | apply pw_below_drewN | apply below_drew1 | refine below_set ?_ GE189.out) | exact HB.out)⟩
                        · rw [if_neg c73] at H
                          have c73b0 : decide (t195 ≤ (wrap64 ((wrap64 (Int.tdiv a1 a0_6)) * a0_0))) = false := decide_eq_false c73
                          clear c73
                          exact absurd H (by simp)
                    · rw [if_neg c71] at H
                      have c71b0 : ((Int.tmod t195 a0_0) == 0) = false := beq_eq_false_iff_ne.mpr c71
                      have c71b1 : ((Int.tmod t195 a0_0) != 0) = true := bne_iff_ne.mpr c71
                      exact absurd H (by simp)
            · rw [if_neg c67] at H
              have c67b0 : (t196 == t195) = false := beq_eq_false_iff_ne.mpr c67
              have c67b1 : (t196 != t195) = true := bne_iff_ne.mpr c67
              by_cases c92 : a0_6 = 0
              · rw [if_pos c92] at H
                exact absurd H (by simp)
              · rw [if_neg c92] at H
                have c92b0 : (a0_6 == 0) = false := beq_eq_false_iff_ne.mpr c92
                have c92b1 : (a0_6 != 0) = true := bne_iff_ne.mpr c92
                by_cases c93 : (Int.tmod (wrap64 (a1 + 1)) a0_6) = 0
                · rw [if_pos c93] at H
                  have c93b0 : ((Int.tmod (wrap64 (a1 + 1)) a0_6) == 0) = true := beq_iff_eq.mpr c93
                  have c93b1 : ((Int.tmod (wrap64 (a1 + 1)) a0_6) != 0) = false := bne_eq_false_iff_eq.mpr c93
                  clear c93
                  by_cases c94 : (wrap64 (t196 - t195)) > a0_0
                  · rw [if_pos c94] at H
                    exact absurd H (by simp)
                  · rw [if_neg c94] at H
                    have c94b0 : decide (a0_0 < (wrap64 (t196 - t195))) = false := decide_eq_false c94
                    clear c94
                    by_cases c95 : t196 < t195
                    · rw [if_pos c95] at H
                      exact absurd H (by simp)
                    · rw [if_neg c95] at H
                      have c95b0 : decide (t196 < t195) = false := decide_eq_false c95
                      clear c95
                      by_cases c96 : a0_0 = 0
                      · rw [if_pos c96] at H
                        exact absurd H (by simp)
                      · rw [if_neg c96] at H
                        have c96b0 : (a0_0 == 0) = false := beq_eq_false_iff_ne.mpr c96
                        have c96b1 : (a0_0 != 0) = true := bne_iff_ne.mpr c96
                        by_cases c97 : (Int.tmod t195 a0_0) = 0
                        · rw [if_pos c97] at H
                          have c97b0 : ((Int.tmod t195 a0_0) == 0) = true := beq_iff_eq.mpr c97
                          have c97b1 : ((Int.tmod t195 a0_0) != 0) = false := bne_eq_false_iff_eq.mpr c97
                          clear c97
                          by_cases c98 : t195 ≤ (wrap64 ((wrap64 (Int.tdiv a1 a0_6)) * a0_0))
                          · rw [if_pos c98] at H
                            have c98b0 : decide (t195 ≤ (wrap64 ((wrap64 (Int.tdiv a1 a0_6)) * a0_0))) = true := decide_eq_true c98
                            clear c98
                            obtain ⟨y209, hy209⟩ : ∃ y_ : List (S26), y_ = (([(⟨(⟨a0_0, a0_1, a0_2, a0_3, a0_4, a0_5⟩ : S24), a0_6⟩ : S26)] : List (S26))) := ⟨_, rfl⟩
                            replace H : ((demand_Horizon.f k y209).bind fun t212 => (some (t212 == (wrap64 (16 * a0_0))))) = some r := by first | (rw [hy209]; with_reducible exact H) | (have H2_ := (Option.bind_some _ _).symm.trans H; rw [hy209]; with_reducible exact H2_) | (have H2_ := (Option.bind_some _ _).symm.trans H; with_reducible exact H2_) | with_reducible exact H | (rw [hy209]; exact H) | exact H
                            have Ny209 := Aside0.mk hy209
                            clear hy209
                            replace H := Option.bind_eq_some_iff.mp H
                            obtain ⟨t212, A990, H⟩ := H
                            try dsimp only at H
                            have A99 := Aside0.mk A990
                            clear A990
                            obtain rfl := Option.some.inj H
                            go_enter Try.func4, Try.ntmps4
                            try go_wp2_with (first | ((with_reducible refine gate_dst (N := 2) rfl ?_); (try (refine gate_guard (by rfl) ?_; dsimp only)); refine box_event ?hg (N := 2) ?hd (cs := #[.int .i64 a0_0, .int .i64 a0_1, .int .i64 a0_2, .int .i64 a0_3, .int .i64 a0_4, .int .i64 a0_5, .int .i64 a0_6]) (t := 26) ?hr ?_; (case hd => rfl); (case hg => rfl); (case hr => first | (go_simp; done) | (go_simp; rfl)); intro gb189 hg w100 hbox hb; have n0_ := bs HB hb; have n1_ := Aside0.mk (hbox); have n2_ := bz HB hg; have n3_ := bz HB hg; clear HB; have HB := n0_; have BK189 := n1_; have GW189 := n2_; have GE189 := n3_; clear n0_ n1_ n2_ n3_; clear hb hbox hg) | ((with_reducible refine gate_callee (f := 10) rfl ?_); refine goesL_ (some 8) rfl rfl Try.func10 (by kernel_rfl) rfl #[] rfl (by (try simp only [List.map_toArray, List.map_cons, List.map_nil]); first | done | rfl | (simp only [List.length_drop, List.length_take]; rfl)) ?_; (with_reducible refine (fuseelaw09_awake.calls k  true _ A3.out).mono ?_); rintro e w101 ⟨rfl, hb⟩; refine ⟨_, rfl, ?_⟩; have n0_ := bb BK189 hb; have n1_ := bs HB hb; clear BK189; clear HB; have BK189 := n0_; have HB := n1_; clear n0_ n1_; (try clear hb); (try clear hb2); (try clear hk); (try clear hi); obtain ⟨hcz102_0, hcz102_1, hcz102_2, hcz102_3, hcz102_4, hcz102_5, hcz102_6⟩ := cc7 BK189; obtain ⟨hfz102_0, hfz102_1, hfz102_2, hfz102_3, hfz102_4, hfz102_5, hfz102_6⟩ := cf7 BK189) | ((with_reducible refine gate_dst (N := 21) rfl ?_); (try (refine gate_guard (by rfl) ?_; dsimp only)); refine Kd.R_lit k26 _ 26 ?hg (N := 21) ?hd (xs := ([(⟨(⟨a0_0, a0_1, a0_2, a0_3, a0_4, a0_5⟩ : S24), a0_6⟩ : S26)] : List (S26))) (inner := [.int .i64 a0_0, .int .i64 a0_1, .int .i64 a0_2, .int .i64 a0_3, .int .i64 a0_4, .int .i64 a0_5, .int .i64 a0_6]) (ok := fun _ => True) (okp := fun _ => True) ?hr ?hp (fun _ hk => hk) trivial (Below.refl _ _) (Nat.le_refl _) (by simp) ?_; (case hd => rfl); (case hg => rfl); (case hr => first | (go_simp; done) | (go_simp; rfl)); (case hp => exact (Reps.c7 (show Kd.M k26 _ _ _ (⟨(⟨a0_0, a0_1, a0_2, a0_3, a0_4, a0_5⟩ : S24), a0_6⟩ : S26) [.int .i64 a0_0, .int .i64 a0_1, .int .i64 a0_2, .int .i64 a0_3, .int .i64 a0_4, .int .i64 a0_5, .int .i64 a0_6] from (k26_mkM _ _ _ (⟨(⟨a0_0, a0_1, a0_2, a0_3, a0_4, a0_5⟩ : S24), a0_6⟩ : S26) )) (Reps.none _ _))); intro v192 w103 ho104 hb hg_ hnew_; clear hg_ hnew_; (first | rw [← Ny191.out] at ho104 | (simp only [Int.reduceToNat] at ho104; rw [← Ny191.out] at ho104)); have n0_ := Aside0.mk (Kd.R_lower (Kd.R_newB ho104 (g := gb189) (o := .cells #[.int .i64 a0_0, .int .i64 a0_1, .int .i64 a0_2, .int .i64 a0_3, .int .i64 a0_4, .int .i64 a0_5, .int .i64 a0_6] 26 (0, 0)) (by (with_reducible repeat (first | refine bN ?_ _ | refine bD ?_ | refine bA ?_ _)); exact BK189.out)) (below_size (by repeat (first | (with_reducible first | exact HB.out | apply below_alloc | apply pw_below_drewN | apply below_drew1 | refine below_set ?_ GE189.out) | exact HB.out)))); have n1_ := bb BK189 hb; have n2_ := bs HB hb; clear BK189; clear HB; have HO193 := n0_; have BK189 := n1_; have HB := n2_; clear n0_ n1_ n2_; clear hb ho104; obtain ⟨Ao105, co105, eo105⟩ := Kd.R_slice HO193.out; subst eo105) | (go_at_call 13; (with_reducible refine (demand_May.calls k _ _ y191 true _ ?side1 ?side2 A11.out).mono ?_); (case side1 => repeat (first | exact (Kd.R_reads' HO193.out).2.2 | (with_reducible refine Kd.C_alloc ?_ _) | (with_reducible refine Kd.C_drewN ?_ _) | (with_reducible refine Kd.C_drew ?_))); (case side2 => exact (Kd.R_reads' HO193.out).2.1); rintro e w106 ⟨rfl, hb⟩; have n0_ := Aside0.mk (Kd.R_below (by (with_reducible repeat (first | apply Kd.R_alloc | apply Kd.R_drewN | apply Kd.R_drew)); exact HO193.out) hb); have n1_ := bb BK189 hb; have n2_ := bs HB hb; clear HO193; clear BK189; clear HB; have HO193 := n0_; have BK189 := n1_; have HB := n2_; clear n0_ n1_ n2_; (try clear hb); (try clear hb2); (try clear hk); (try clear hi); (try clear hcz102_0 hcz102_1 hcz102_2 hcz102_3 hcz102_4 hcz102_5 hcz102_6 hfz102_0 hfz102_1 hfz102_2 hfz102_3 hfz102_4 hfz102_5 hfz102_6); obtain ⟨hcz107_0, hcz107_1, hcz107_2, hcz107_3, hcz107_4, hcz107_5, hcz107_6⟩ := cc7 BK189; obtain ⟨hfz107_0, hfz107_1, hfz107_2, hfz107_3, hfz107_4, hfz107_5, hfz107_6⟩ := cf7 BK189) | ((with_reducible refine gate_callee (f := 11) rfl ?_); refine goesL_ (some 28) rfl rfl Try.func11 (by kernel_rfl) rfl #[.agg #[.int .i64 a0_0, .int .i64 a0_1, .int .i64 a0_2, .int .i64 a0_3, .int .i64 a0_4, .int .i64 a0_5, .int .i64 a0_6], .int .i64 a1] rfl (by (try simp only [List.map_toArray, List.map_cons, List.map_nil]); first | done | rfl | (simp only [List.length_drop, List.length_take]; rfl)) ?_; (with_reducible refine (demand_Of.calls a0_0 a0_1 a0_2 a0_3 a0_4 a0_5 a0_6 a1 t195 _ A13.out).mono ?_); rintro e w108 ⟨rfl, hb⟩; refine ⟨_, rfl, ?_⟩; have n0_ := Aside0.mk (Kd.R_below (by (with_reducible repeat (first | apply Kd.R_alloc | apply Kd.R_drewN | apply Kd.R_drew)); exact HO193.out) hb); have n1_ := bb BK189 hb; have n2_ := bs HB hb; clear HO193; clear BK189; clear HB; have HO193 := n0_; have BK189 := n1_; have HB := n2_; clear n0_ n1_ n2_; (try clear hb); (try clear hb2); (try clear hk); (try clear hi); (try clear hcz102_0 hcz102_1 hcz102_2 hcz102_3 hcz102_4 hcz102_5 hcz102_6 hfz102_0 hfz102_1 hfz102_2 hfz102_3 hfz102_4 hfz102_5 hfz102_6); (try clear hcz107_0 hcz107_1 hcz107_2 hcz107_3 hcz107_4 hcz107_5 hcz107_6 hfz107_0 hfz107_1 hfz107_2 hfz107_3 hfz107_4 hfz107_5 hfz107_6); obtain ⟨hcz109_0, hcz109_1, hcz109_2, hcz109_3, hcz109_4, hcz109_5, hcz109_6⟩ := cc7 BK189; obtain ⟨hfz109_0, hfz109_1, hfz109_2, hfz109_3, hfz109_4, hfz109_5, hfz109_6⟩ := cf7 BK189) | ((with_reducible refine gate_callee (f := 11) rfl ?_); refine goesL_ (some 32) rfl rfl Try.func11 (by kernel_rfl) rfl #[.agg #[.int .i64 a0_0, .int .i64 a0_1, .int .i64 a0_2, .int .i64 a0_3, .int .i64 a0_4, .int .i64 a0_5, .int .i64 a0_6], .int .i64 (wrap64 (a1 + 1))] rfl (by (try simp only [List.map_toArray, List.map_cons, List.map_nil]); first | done | rfl | (simp only [List.length_drop, List.length_take]; rfl)) ?_; (with_reducible refine (demand_Of.calls a0_0 a0_1 a0_2 a0_3 a0_4 a0_5 a0_6 (wrap64 (a1 + 1)) t196 _ A14.out).mono ?_); rintro e w110 ⟨rfl, hb⟩; refine ⟨_, rfl, ?_⟩; have n0_ := Aside0.mk (Kd.R_below (by (with_reducible repeat (first | apply Kd.R_alloc | apply Kd.R_drewN | apply Kd.R_drew)); exact HO193.out) hb); have n1_ := bb BK189 hb; have n2_ := bs HB hb; clear HO193; clear BK189; clear HB; have HO193 := n0_; have BK189 := n1_; have HB := n2_; clear n0_ n1_ n2_; (try clear hb); (try clear hb2); (try clear hk); (try clear hi); (try clear hcz102_0 hcz102_1 hcz102_2 hcz102_3 hcz102_4 hcz102_5 hcz102_6 hfz102_0 hfz102_1 hfz102_2 hfz102_3 hfz102_4 hfz102_5 hfz102_6); (try clear hcz107_0 hcz107_1 hcz107_2 hcz107_3 hcz107_4 hcz107_5 hcz107_6 hfz107_0 hfz107_1 hfz107_2 hfz107_3 hfz107_4 hfz107_5 hfz107_6); (try clear hcz109_0 hcz109_1 hcz109_2 hcz109_3 hcz109_4 hcz109_5 hcz109_6 hfz109_0 hfz109_1 hfz109_2 hfz109_3 hfz109_4 hfz109_5 hfz109_6); obtain ⟨hcz111_0, hcz111_1, hcz111_2, hcz111_3, hcz111_4, hcz111_5, hcz111_6⟩ := cc7 BK189; obtain ⟨hfz111_0, hfz111_1, hfz111_2, hfz111_3, hfz111_4, hfz111_5, hfz111_6⟩ := cf7 BK189))
                            have n0_ := Aside0.mk (Kd.R_drew HO193.out)
                            have n1_ := Aside0.mk (blk_drew BK189.out)
                            have n2_ := Aside0.mk (below_drew1 HB.out)
                            clear HO193
                            clear BK189
                            clear HB
                            have HO193 := n0_
                            have BK189 := n1_
                            have HB := n2_
                            clear n0_ n1_ n2_
                            refine start_ (n := 29) (S := fun w' => w'.cell? ⟨gb189, 0, none⟩ = some (.int .i64 a0_0) ∧ w'.cell? ⟨gb189, 1, none⟩ = some (.int .i64 a0_1) ∧ w'.cell? ⟨gb189, 2, none⟩ = some (.int .i64 a0_2) ∧ w'.cell? ⟨gb189, 3, none⟩ = some (.int .i64 a0_3) ∧ w'.cell? ⟨gb189, 4, none⟩ = some (.int .i64 a0_4) ∧ w'.cell? ⟨gb189, 5, none⟩ = some (.int .i64 a0_5) ∧ w'.cell? ⟨gb189, 6, none⟩ = some (.int .i64 a0_6)) (ds := []) #[false, false, false, false, false, false, false, false, false, false, false, false, false, false, false, false, false, false, false, false, false, false, false, false, false, false, false, false, false] (by kernel_rfl) rfl rfl ⟨(blk_cell BK189.out 0).trans rfl, (blk_cell BK189.out 1).trans rfl, (blk_cell BK189.out 2).trans rfl, (blk_cell BK189.out 3).trans rfl, (blk_cell BK189.out 4).trans rfl, (blk_cell BK189.out 5).trans rfl, (blk_cell BK189.out 6).trans rfl⟩ (fun hHeld => ?_); refine with_tabW fuseelaw09_DemandSteps.tab8 fuseelaw09_DemandSteps.bits8 (fun HT_ HW_ => ?_)
                            generalize w110.drew = w112 at HO193 BK189 HB hHeld ⊢
                            refine pure_ (i := 0) (N := some 68) (v := ?_) (a' := ?_) #[true, false, false, false, false, false, false, false, false, false, false, false, false, false, false, false, false, false, false, false, false, false, false, false, false, false, false, false, false] rfl rfl (any_of HT_.out (by kernel_rfl)) (fun _ _ _ h => h) (Or.inl ⟨by rfl, ?_⟩) ?_ ?_
                            rotate_left; focus (intro w'; go_simp; with_reducible rfl)
                            rotate_left; focus (simp only [Act.put, List.setIfInBounds_toArray, List.set_cons_zero, List.set_cons_succ, i64_w, i32_w]; rfl)
                            refine pure_ (i := 1) (N := some 69) (v := ?_) (a' := ?_) #[true, true, false, false, false, false, false, false, false, false, false, false, false, false, false, false, false, false, false, false, false, false, false, false, false, false, false, false, false] rfl rfl (any_of HT_.out (by kernel_rfl)) (fun _ _ _ h => h) (Or.inl ⟨by rfl, ?_⟩) ?_ ?_
                            rotate_left; focus (intro w'; go_simp; with_reducible rfl)
                            rotate_left; focus (simp only [Act.put, List.setIfInBounds_toArray, List.set_cons_zero, List.set_cons_succ, i64_w, i32_w]; rfl)
                            refine pure_ (i := 2) (N := some 70) (v := ?_) (a' := ?_) #[true, true, true, false, false, false, false, false, false, false, false, false, false, false, false, false, false, false, false, false, false, false, false, false, false, false, false, false, false] rfl rfl (any_of HT_.out (by kernel_rfl)) (fun _ _ _ h => h) (Or.inl ⟨by rfl, ?_⟩) ?_ ?_
                            rotate_left; focus (intro w'; go_simp; with_reducible rfl)
                            rotate_left; focus (simp only [Act.put, List.setIfInBounds_toArray, List.set_cons_zero, List.set_cons_succ, i64_w, i32_w]; rfl)
                            refine take_ (i := 3) (N := some 71) (v := ?_) (a' := ?_) #[true, true, true, true, false, false, false, false, false, false, false, false, false, false, false, false, false, false, false, false, false, false, false, false, false, false, false, false, false] rfl rfl (take_ofW HT_.out HW_.out (by kernel_rfl)) (fun _ _ _ h => h) (Or.inl ⟨by rfl, ?_⟩) hHeld ?_ ?_
                            rotate_left
                            · rintro w' ⟨s0, s1, s2, s3, s4, s5, s6⟩
                              go_simp
                              with_reducible rfl
                            rotate_left; focus (simp only [Act.put, List.setIfInBounds_toArray, List.set_cons_zero, List.set_cons_succ, i64_w, i32_w]; rfl)
                            refine pure_ (i := 4) (N := some 72) (v := ?_) (a' := ?_) #[true, true, true, true, true, false, false, false, false, false, false, false, false, false, false, false, false, false, false, false, false, false, false, false, false, false, false, false, false] rfl rfl (any_of HT_.out (by kernel_rfl)) (fun _ _ _ h => h) (Or.inl ⟨by rfl, ?_⟩) ?_ ?_
                            rotate_left; focus (intro w'; go_simp; with_reducible rfl)
                            rotate_left; focus (simp only [Act.put, List.setIfInBounds_toArray, List.set_cons_zero, List.set_cons_succ, i64_w, i32_w]; rfl)
                            refine pure_ (i := 5) (N := some 73) (v := ?_) (a' := ?_) #[true, true, true, true, true, true, false, false, false, false, false, false, false, false, false, false, false, false, false, false, false, false, false, false, false, false, false, false, false] rfl rfl (any_of HT_.out (by kernel_rfl)) (fun _ _ _ h => h) (Or.inl ⟨by rfl, ?_⟩) ?_ ?_
                            rotate_left; focus (intro w'; go_simp; with_reducible rfl)
                            rotate_left; focus (simp only [Act.put, List.setIfInBounds_toArray, List.set_cons_zero, List.set_cons_succ, i64_w, i32_w]; rfl)
                            refine pure_ (i := 6) (N := some 74) (v := ?_) (a' := ?_) #[true, true, true, true, true, true, true, false, false, false, false, false, false, false, false, false, false, false, false, false, false, false, false, false, false, false, false, false, false] rfl rfl (any_of HT_.out (by kernel_rfl)) (fun _ _ _ h => h) (Or.inl ⟨by rfl, ?_⟩) ?_ ?_
                            rotate_left; focus (intro w'; go_simp; with_reducible rfl)
                            rotate_left; focus (simp only [Act.put, List.setIfInBounds_toArray, List.set_cons_zero, List.set_cons_succ, i64_w, i32_w]; rfl)
                            refine pure_ (i := 7) (N := some 75) (v := ?_) (a' := ?_) #[true, true, true, true, true, true, true, true, false, false, false, false, false, false, false, false, false, false, false, false, false, false, false, false, false, false, false, false, false] rfl rfl (any_of HT_.out (by kernel_rfl)) (fun _ _ _ h => h) (Or.inl ⟨by rfl, ?_⟩) ?_ ?_
                            rotate_left; focus (intro w'; go_simp; with_reducible rfl)
                            rotate_left; focus (simp only [Act.put, List.setIfInBounds_toArray, List.set_cons_zero, List.set_cons_succ, i64_w, i32_w]; rfl)
                            refine pure_ (i := 8) (N := some 76) (v := ?_) (a' := ?_) #[true, true, true, true, true, true, true, true, true, false, false, false, false, false, false, false, false, false, false, false, false, false, false, false, false, false, false, false, false] rfl rfl (any_of HT_.out (by kernel_rfl)) (fun _ _ _ h => h) (Or.inl ⟨by rfl, ?_⟩) ?_ ?_
                            rotate_left; focus (intro w'; go_simp; with_reducible rfl)
                            rotate_left; focus (simp only [Act.put, List.setIfInBounds_toArray, List.set_cons_zero, List.set_cons_succ, i64_w, i32_w]; rfl)
                            refine pure_ (i := 9) (N := some 77) (v := ?_) (a' := ?_) #[true, true, true, true, true, true, true, true, true, true, false, false, false, false, false, false, false, false, false, false, false, false, false, false, false, false, false, false, false] rfl rfl (any_of HT_.out (by kernel_rfl)) (fun _ _ _ h => h) (Or.inl ⟨by rfl, ?_⟩) ?_ ?_
                            rotate_left; focus (intro w'; go_simp; with_reducible rfl)
                            rotate_left; focus (simp only [Act.put, List.setIfInBounds_toArray, List.set_cons_zero, List.set_cons_succ, i64_w, i32_w]; rfl)
                            refine pure_ (i := 12) (N := some 80) (v := ?_) (a' := ?_) #[true, true, true, true, true, true, true, true, true, true, false, false, true, false, false, false, false, false, false, false, false, false, false, false, false, false, false, false, false] rfl rfl (any_of HT_.out (by kernel_rfl)) (fun _ _ _ h => h) (Or.inl ⟨by rfl, ?_⟩) ?_ ?_
                            rotate_left; focus (intro w'; go_simp; with_reducible rfl)
                            rotate_left; focus (simp only [Act.put, List.setIfInBounds_toArray, List.set_cons_zero, List.set_cons_succ, i64_w, i32_w]; rfl)
                            refine pure_ (i := 13) (N := some 81) (v := ?_) (a' := ?_) #[true, true, true, true, true, true, true, true, true, true, false, false, true, true, false, false, false, false, false, false, false, false, false, false, false, false, false, false, false] rfl rfl (any_of HT_.out (by kernel_rfl)) (fun _ _ _ h => h) (Or.inl ⟨by rfl, ?_⟩) ?_ ?_
                            rotate_left; focus (intro w'; go_simp; with_reducible rfl)
                            rotate_left; focus (simp only [Act.put, List.setIfInBounds_toArray, List.set_cons_zero, List.set_cons_succ, i64_w, i32_w]; rfl)
                            refine take_ (i := 10) (N := some 78) (v := ?_) (a' := ?_) #[true, true, true, true, true, true, true, true, true, true, true, false, true, true, false, false, false, false, false, false, false, false, false, false, false, false, false, false, false] rfl rfl (take_ofW HT_.out HW_.out (by kernel_rfl)) (fun _ _ _ h => h) (Or.inl ⟨by rfl, ?_⟩) hHeld ?_ ?_
                            rotate_left
                            · rintro w' ⟨s0, s1, s2, s3, s4, s5, s6⟩
                              go_simp
                              with_reducible rfl
                            rotate_left; focus (simp only [Act.put, List.setIfInBounds_toArray, List.set_cons_zero, List.set_cons_succ, i64_w, i32_w]; rfl)
                            refine pure_ (i := 11) (N := some 79) (v := ?_) (a' := ?_) #[true, true, true, true, true, true, true, true, true, true, true, true, true, true, false, false, false, false, false, false, false, false, false, false, false, false, false, false, false] rfl rfl (any_of HT_.out (by kernel_rfl)) (fun _ _ _ h => h) (Or.inl ⟨by rfl, ?_⟩) ?_ ?_
                            rotate_left; focus (intro w'; go_simp; with_reducible rfl)
                            rotate_left; focus (simp only [Act.put, List.setIfInBounds_toArray, List.set_cons_zero, List.set_cons_succ, i64_w, i32_w]; rfl)
                            refine take_ (i := 14) (N := some 82) (v := ?_) (a' := ?_) #[true, true, true, true, true, true, true, true, true, true, true, true, true, true, true, false, false, false, false, false, false, false, false, false, false, false, false, false, false] rfl rfl (take_ofW HT_.out HW_.out (by kernel_rfl)) (fun _ _ _ h => h) (Or.inl ⟨by rfl, ?_⟩) hHeld ?_ ?_
                            rotate_left
                            · rintro w' ⟨s0, s1, s2, s3, s4, s5, s6⟩
                              go_simp
                              with_reducible rfl
                            rotate_left; focus (simp only [Act.put, List.setIfInBounds_toArray, List.set_cons_zero, List.set_cons_succ, i64_w, i32_w]; rfl)
                            refine pure_ (i := 15) (N := some 83) (v := ?_) (a' := ?_) #[true, true, true, true, true, true, true, true, true, true, true, true, true, true, true, true, false, false, false, false, false, false, false, false, false, false, false, false, false] rfl rfl (any_of HT_.out (by kernel_rfl)) (fun _ _ _ h => h) (Or.inl ⟨by rfl, ?_⟩) ?_ ?_
                            rotate_left; focus (intro w'; go_simp; with_reducible rfl)
                            rotate_left; focus (simp only [Act.put, List.setIfInBounds_toArray, List.set_cons_zero, List.set_cons_succ, i64_w, i32_w]; rfl)
                            refine pure_ (i := 16) (N := some 84) (v := ?_) (a' := ?_) #[true, true, true, true, true, true, true, true, true, true, true, true, true, true, true, true, true, false, false, false, false, false, false, false, false, false, false, false, false] rfl rfl (any_of HT_.out (by kernel_rfl)) (fun _ _ _ h => h) (Or.inl ⟨by rfl, ?_⟩) ?_ ?_
                            rotate_left; focus (intro w'; go_simp; with_reducible rfl)
                            rotate_left; focus (simp only [Act.put, List.setIfInBounds_toArray, List.set_cons_zero, List.set_cons_succ, i64_w, i32_w]; rfl)
                            refine pure_ (i := 17) (N := some 85) (v := ?_) (a' := ?_) #[true, true, true, true, true, true, true, true, true, true, true, true, true, true, true, true, true, true, false, false, false, false, false, false, false, false, false, false, false] rfl rfl (any_of HT_.out (by kernel_rfl)) (fun _ _ _ h => h) (Or.inl ⟨by rfl, ?_⟩) ?_ ?_
                            rotate_left; focus (intro w'; go_simp; with_reducible rfl)
                            rotate_left; focus (simp only [Act.put, List.setIfInBounds_toArray, List.set_cons_zero, List.set_cons_succ, i64_w, i32_w]; rfl)
                            refine pure_ (i := 18) (N := some 86) (v := ?_) (a' := ?_) #[true, true, true, true, true, true, true, true, true, true, true, true, true, true, true, true, true, true, true, false, false, false, false, false, false, false, false, false, false] rfl rfl (any_of HT_.out (by kernel_rfl)) (fun _ _ _ h => h) (Or.inl ⟨by rfl, ?_⟩) ?_ ?_
                            rotate_left; focus (intro w'; go_simp; with_reducible rfl)
                            rotate_left; focus (simp only [Act.put, List.setIfInBounds_toArray, List.set_cons_zero, List.set_cons_succ, i64_w, i32_w]; rfl)
                            refine pure_ (i := 22) (N := some 90) (v := ?_) (a' := ?_) #[true, true, true, true, true, true, true, true, true, true, true, true, true, true, true, true, true, true, true, false, false, false, true, false, false, false, false, false, false] rfl rfl (any_of HT_.out (by kernel_rfl)) (fun _ _ _ h => h) (Or.inl ⟨by rfl, ?_⟩) ?_ ?_
                            rotate_left; focus (intro w'; go_simp; with_reducible rfl)
                            rotate_left; focus (simp only [Act.put, List.setIfInBounds_toArray, List.set_cons_zero, List.set_cons_succ, i64_w, i32_w]; rfl)
                            refine pure_ (i := 23) (N := some 91) (v := ?_) (a' := ?_) #[true, true, true, true, true, true, true, true, true, true, true, true, true, true, true, true, true, true, true, false, false, false, true, true, false, false, false, false, false] rfl rfl (any_of HT_.out (by kernel_rfl)) (fun _ _ _ h => h) (Or.inl ⟨by rfl, ?_⟩) ?_ ?_
                            rotate_left; focus (intro w'; go_simp; with_reducible rfl)
                            rotate_left; focus (simp only [Act.put, List.setIfInBounds_toArray, List.set_cons_zero, List.set_cons_succ, i64_w, i32_w]; rfl)
                            refine take_ (i := 19) (N := some 87) (v := ?_) (a' := ?_) #[true, true, true, true, true, true, true, true, true, true, true, true, true, true, true, true, true, true, true, true, false, false, true, true, false, false, false, false, false] rfl rfl (take_ofW HT_.out HW_.out (by kernel_rfl)) (fun _ _ _ h => h) (Or.inl ⟨by rfl, ?_⟩) hHeld ?_ ?_
                            rotate_left
                            · rintro w' ⟨s0, s1, s2, s3, s4, s5, s6⟩
                              go_simp
                              with_reducible rfl
                            rotate_left; focus (simp only [Act.put, List.setIfInBounds_toArray, List.set_cons_zero, List.set_cons_succ, i64_w, i32_w]; rfl)
                            refine take_ (i := 24) (N := some 92) (v := ?_) (a' := ?_) #[true, true, true, true, true, true, true, true, true, true, true, true, true, true, true, true, true, true, true, true, false, false, true, true, true, false, false, false, false] rfl rfl (take_ofW HT_.out HW_.out (by kernel_rfl)) (fun _ _ _ h => h) (Or.inl ⟨by rfl, ?_⟩) hHeld ?_ ?_
                            rotate_left
                            · rintro w' ⟨s0, s1, s2, s3, s4, s5, s6⟩
                              go_simp
                              with_reducible rfl
                            rotate_left; focus (simp only [Act.put, List.setIfInBounds_toArray, List.set_cons_zero, List.set_cons_succ, i64_w, i32_w]; rfl)
                            refine pure_ (i := 25) (N := some 93) (v := ?_) (a' := ?_) #[true, true, true, true, true, true, true, true, true, true, true, true, true, true, true, true, true, true, true, true, false, false, true, true, true, true, false, false, false] rfl rfl (any_of HT_.out (by kernel_rfl)) (fun _ _ _ h => h) (Or.inl ⟨by rfl, ?_⟩) ?_ ?_
                            rotate_left; focus (intro w'; go_simp; with_reducible rfl)
                            rotate_left; focus (simp only [Act.put, List.setIfInBounds_toArray, List.set_cons_zero, List.set_cons_succ, i64_w, i32_w]; rfl)
                            refine one_ (i := 20) (N := some 88) #[true, true, true, true, true, true, true, true, true, true, true, true, true, true, true, true, true, true, true, true, true, false, true, true, true, true, false, false, false] rfl rfl (one_of HT_.out (by kernel_rfl)) (by decide) (fun K hK => ?_)
                            refine Kd.R_lit_step k26 _ 26 ?hg (N := 88) ?hd (xs := ([(⟨(⟨a0_0, a0_1, a0_2, a0_3, a0_4, a0_5⟩ : S24), a0_6⟩ : S26)] : List (S26))) (inner := [.int .i64 a0_0, .int .i64 a0_1, .int .i64 a0_2, .int .i64 a0_3, .int .i64 a0_4, .int .i64 a0_5, .int .i64 a0_6]) (ok := fun _ => True) (okp := fun _ => True) ?hr ?hp (fun _ hk => hk) trivial (Below.refl _ _) (Nat.le_refl _) (by simp) ?_; (case hd => rfl); (case hg => rfl); (case hr => first | (go_simp; done) | (go_simp; rfl)); (case hp => exact (Reps.c7 (show Kd.M k26 _ _ _ (⟨(⟨a0_0, a0_1, a0_2, a0_3, a0_4, a0_5⟩ : S24), a0_6⟩ : S26) [.int .i64 a0_0, .int .i64 a0_1, .int .i64 a0_2, .int .i64 a0_3, .int .i64 a0_4, .int .i64 a0_5, .int .i64 a0_6] from (k26_mkM _ _ _ (⟨(⟨a0_0, a0_1, a0_2, a0_3, a0_4, a0_5⟩ : S24), a0_6⟩ : S26) )) (Reps.none _ _)))
                            intro v210 w113 ho114 hb hg_ hnew_
                            clear hg_ hnew_
                            (first | rw [← Ny209.out] at ho114 | (simp only [Int.reduceToNat] at ho114; rw [← Ny209.out] at ho114))
                            have n0_ := Aside0.mk (Kd.R_elder' (by (with_reducible repeat (first | apply Kd.R_alloc | apply Kd.R_drewN | apply Kd.R_drew)); exact HO193.out) (Kd.R_base ho114) hb)
                            have n1_ := Aside0.mk (Kd.R_lower (Kd.R_newB (Kd.R_new' ho114 (Kd.R_lt (by (with_reducible repeat (first | apply Kd.R_alloc | apply Kd.R_drewN | apply Kd.R_drew)); exact HO193.out))) (g := gb189) (o := .cells #[.int .i64 a0_0, .int .i64 a0_1, .int .i64 a0_2, .int .i64 a0_3, .int .i64 a0_4, .int .i64 a0_5, .int .i64 a0_6] 26 (0, 0)) (by (with_reducible repeat (first | refine bN ?_ _ | refine bD ?_ | refine bA ?_ _)); exact BK189.out)) (below_size (by repeat (first | (with_reducible first | exact HB.out | apply below_alloc | apply pw_below_drewN | apply below_drew1 | refine below_set ?_ GE189.out) | exact HB.out))))
                            have n2_ := bb BK189 hb
                            have n3_ := bs HB hb
                            clear HO193
                            clear BK189
                            clear HB
                            have HO193 := n0_
                            have HO211 := n1_
                            have BK189 := n2_
                            have HB := n3_
                            clear n0_ n1_ n2_ n3_
                            clear hb ho114
                            obtain ⟨Ao115, co115, eo115⟩ := Kd.R_slice HO211.out
                            (first | subst eo115 | (injection eo115 with f1_ f2_ f3_; have f4_ := f1_.symm; have f5_ := f3_.symm; clear f1_ f2_ f3_; subst f4_; subst f5_))
                            refine hK.out _ _ ⟨(blk_cell BK189.out 0).trans rfl, (blk_cell BK189.out 1).trans rfl, (blk_cell BK189.out 2).trans rfl, (blk_cell BK189.out 3).trans rfl, (blk_cell BK189.out 4).trans rfl, (blk_cell BK189.out 5).trans rfl, (blk_cell BK189.out 6).trans rfl⟩ (fun hHeld => ?_)
                            clear hK K
                            refine norm_ (a' := ?_) ?_ ?_
                            rotate_left
                            · show Act.put _ (some 88) _ = _
                              simp only [Act.put, List.setIfInBounds_toArray, List.set_cons_zero, List.set_cons_succ, i64_w, i32_w]
                              rfl
                            refine one_ (i := 21) (N := some 89) #[true, true, true, true, true, true, true, true, true, true, true, true, true, true, true, true, true, true, true, true, true, true, true, true, true, true, false, false, false] rfl rfl (one_of HT_.out (by kernel_rfl)) (by decide) (fun K hK => ?_)
                            refine goes_ Try.func14 (by kernel_rfl) rfl #[.slice Ao115 y209.length co115] (by rfl) rfl rfl (by (try simp only [List.map_toArray, List.map_cons, List.map_nil]); first | done | rfl | (simp only [List.length_drop, List.length_take]; rfl)) ?_
                            with_reducible refine (demand_Horizon.calls k _ _ y209 t212 _ ?side1 ?side2 A99.out).mono ?_
                            (case side1 => repeat (first | exact (Kd.R_reads' HO211.out).2.2 | (with_reducible refine Kd.C_alloc ?_ _) | (with_reducible refine Kd.C_drewN ?_ _) | (with_reducible refine Kd.C_drew ?_)))
                            (case side2 => exact (Kd.R_reads' HO211.out).2.1)
                            rintro e w116 ⟨rfl, hb⟩
                            refine ⟨_, rfl, ?_⟩
                            have n0_ := Aside0.mk (Kd.R_below (by (with_reducible repeat (first | apply Kd.R_alloc | apply Kd.R_drewN | apply Kd.R_drew)); exact HO193.out) hb)
                            have n1_ := Aside0.mk (Kd.R_below (by (with_reducible repeat (first | apply Kd.R_alloc | apply Kd.R_drewN | apply Kd.R_drew)); exact HO211.out) hb)
                            have n2_ := bb BK189 hb
                            have n3_ := bs HB hb
                            clear HO193
                            clear HO211
                            clear BK189
                            clear HB
                            have HO193 := n0_
                            have HO211 := n1_
                            have BK189 := n2_
                            have HB := n3_
                            clear n0_ n1_ n2_ n3_
                            (try clear hb)
                            (try clear hb2)
                            (try clear hk)
                            (try clear hi)
                            refine hK.out _ _ ⟨(blk_cell BK189.out 0).trans rfl, (blk_cell BK189.out 1).trans rfl, (blk_cell BK189.out 2).trans rfl, (blk_cell BK189.out 3).trans rfl, (blk_cell BK189.out 4).trans rfl, (blk_cell BK189.out 5).trans rfl, (blk_cell BK189.out 6).trans rfl⟩ (fun hHeld => ?_)
                            clear hK K
                            refine norm_ (a' := ?_) ?_ ?_
                            rotate_left
                            · show Act.put _ (some 89) _ = _
                              simp only [Act.put, List.setIfInBounds_toArray, List.set_cons_zero, List.set_cons_succ, i64_w, i32_w]
                              rfl
                            refine pure_ (i := 26) (N := some 94) (v := ?_) (a' := ?_) #[true, true, true, true, true, true, true, true, true, true, true, true, true, true, true, true, true, true, true, true, true, true, true, true, true, true, true, false, false] rfl rfl (any_of HT_.out (by kernel_rfl)) (fun _ _ _ h => h) (Or.inl ⟨by rfl, ?_⟩) ?_ ?_
                            rotate_left; focus (intro w'; go_simp; with_reducible rfl)
                            rotate_left; focus (simp only [Act.put, List.setIfInBounds_toArray, List.set_cons_zero, List.set_cons_succ, i64_w, i32_w]; rfl)
                            refine pure_ (i := 27) (N := some 95) (v := ?_) (a' := ?_) #[true, true, true, true, true, true, true, true, true, true, true, true, true, true, true, true, true, true, true, true, true, true, true, true, true, true, true, true, false] rfl rfl (any_of HT_.out (by kernel_rfl)) (fun _ _ _ h => h) (Or.inl ⟨by rfl, ?_⟩) ?_ ?_
                            rotate_left; focus (intro w'; go_simp; with_reducible rfl)
                            rotate_left; focus (simp only [Act.put, List.setIfInBounds_toArray, List.set_cons_zero, List.set_cons_succ, i64_w, i32_w]; rfl)
                            refine pure_ (i := 28) (N := some 4) (v := ?_) (a' := ?_) #[true, true, true, true, true, true, true, true, true, true, true, true, true, true, true, true, true, true, true, true, true, true, true, true, true, true, true, true, true] rfl rfl (any_of HT_.out (by kernel_rfl)) (fun _ _ _ h => h) (Or.inl ⟨by rfl, ?_⟩) ?_ ?_
                            rotate_left; focus (intro w'; go_simp; with_reducible rfl)
                            rotate_left; focus (simp only [Act.put, List.setIfInBounds_toArray, List.set_cons_zero, List.set_cons_succ, i64_w, i32_w]; rfl)
                            refine done_ (done_of HT_.out (by kernel_rfl)) ?_
                            try go_wp2
                            go_ret
                            exact ⟨by first | rfl | (simp [errW_none, errW_some] <;> rfl) | (simp [*, errW_none, errW_some] <;> rfl) | (exfalso; contradiction), by repeat (first | (with_reducible first | exact HB.out | apply below_alloc | apply pw_below_drewN | apply below_drew1 | refine below_set ?_ GE189.out) | exact HB.out)⟩
                          · rw [if_neg c98] at H
                            have c98b0 : decide (t195 ≤ (wrap64 ((wrap64 (Int.tdiv a1 a0_6)) * a0_0))) = false := decide_eq_false c98
                            clear c98
                            exact absurd H (by simp)
                        · rw [if_neg c97] at H
                          have c97b0 : ((Int.tmod t195 a0_0) == 0) = false := beq_eq_false_iff_ne.mpr c97
                          have c97b1 : ((Int.tmod t195 a0_0) != 0) = true := bne_iff_ne.mpr c97
                          exact absurd H (by simp)
                · rw [if_neg c93] at H
                  exact absurd H (by simp)
        · replace c12 := Bool.eq_false_iff.mpr c12
          subst c12
          rw [if_neg (show ¬ (false = true) by decide)] at H
          obtain rfl := Option.some.inj H
          go_enter Try.func4, Try.ntmps4
          go_wp2_with (first | ((with_reducible refine gate_dst (N := 2) rfl ?_); (try (refine gate_guard (by rfl) ?_; dsimp only)); refine box_event ?hg (N := 2) ?hd (cs := #[.int .i64 a0_0, .int .i64 a0_1, .int .i64 a0_2, .int .i64 a0_3, .int .i64 a0_4, .int .i64 a0_5, .int .i64 a0_6]) (t := 26) ?hr ?_; (case hd => rfl); (case hg => rfl); (case hr => first | (go_simp; done) | (go_simp; rfl)); intro gb189 hg w117 hbox hb; have n0_ := bs HB hb; have n1_ := Aside0.mk (hbox); have n2_ := bz HB hg; have n3_ := bz HB hg; clear HB; have HB := n0_; have BK189 := n1_; have GW189 := n2_; have GE189 := n3_; clear n0_ n1_ n2_ n3_; clear hb hbox hg) | ((with_reducible refine gate_callee (f := 10) rfl ?_); refine goesL_ (some 8) rfl rfl Try.func10 (by kernel_rfl) rfl #[] rfl (by (try simp only [List.map_toArray, List.map_cons, List.map_nil]); first | done | rfl | (simp only [List.length_drop, List.length_take]; rfl)) ?_; (with_reducible refine (fuseelaw09_awake.calls k  true _ A3.out).mono ?_); rintro e w118 ⟨rfl, hb⟩; refine ⟨_, rfl, ?_⟩; have n0_ := bb BK189 hb; have n1_ := bs HB hb; clear BK189; clear HB; have BK189 := n0_; have HB := n1_; clear n0_ n1_; (try clear hb); (try clear hb2); (try clear hk); (try clear hi); obtain ⟨hcz119_0, hcz119_1, hcz119_2, hcz119_3, hcz119_4, hcz119_5, hcz119_6⟩ := cc7 BK189; obtain ⟨hfz119_0, hfz119_1, hfz119_2, hfz119_3, hfz119_4, hfz119_5, hfz119_6⟩ := cf7 BK189) | ((with_reducible refine gate_dst (N := 21) rfl ?_); (try (refine gate_guard (by rfl) ?_; dsimp only)); refine Kd.R_lit k26 _ 26 ?hg (N := 21) ?hd (xs := ([(⟨(⟨a0_0, a0_1, a0_2, a0_3, a0_4, a0_5⟩ : S24), a0_6⟩ : S26)] : List (S26))) (inner := [.int .i64 a0_0, .int .i64 a0_1, .int .i64 a0_2, .int .i64 a0_3, .int .i64 a0_4, .int .i64 a0_5, .int .i64 a0_6]) (ok := fun _ => True) (okp := fun _ => True) ?hr ?hp (fun _ hk => hk) trivial (Below.refl _ _) (Nat.le_refl _) (by simp) ?_; (case hd => rfl); (case hg => rfl); (case hr => first | (go_simp; done) | (go_simp; rfl)); (case hp => exact (Reps.c7 (show Kd.M k26 _ _ _ (⟨(⟨a0_0, a0_1, a0_2, a0_3, a0_4, a0_5⟩ : S24), a0_6⟩ : S26) [.int .i64 a0_0, .int .i64 a0_1, .int .i64 a0_2, .int .i64 a0_3, .int .i64 a0_4, .int .i64 a0_5, .int .i64 a0_6] from (k26_mkM _ _ _ (⟨(⟨a0_0, a0_1, a0_2, a0_3, a0_4, a0_5⟩ : S24), a0_6⟩ : S26) )) (Reps.none _ _))); intro v192 w120 ho121 hb hg_ hnew_; clear hg_ hnew_; (first | rw [← Ny191.out] at ho121 | (simp only [Int.reduceToNat] at ho121; rw [← Ny191.out] at ho121)); have n0_ := Aside0.mk (Kd.R_lower (Kd.R_newB ho121 (g := gb189) (o := .cells #[.int .i64 a0_0, .int .i64 a0_1, .int .i64 a0_2, .int .i64 a0_3, .int .i64 a0_4, .int .i64 a0_5, .int .i64 a0_6] 26 (0, 0)) (by (with_reducible repeat (first | refine bN ?_ _ | refine bD ?_ | refine bA ?_ _)); exact BK189.out)) (below_size (by repeat (first | (with_reducible first | exact HB.out | apply below_alloc | apply pw_below_drewN | apply below_drew1 | refine below_set ?_ GE189.out) | exact HB.out)))); have n1_ := bb BK189 hb; have n2_ := bs HB hb; clear BK189; clear HB; have HO193 := n0_; have BK189 := n1_; have HB := n2_; clear n0_ n1_ n2_; clear hb ho121; obtain ⟨Ao122, co122, eo122⟩ := Kd.R_slice HO193.out; subst eo122) | (go_at_call 13; (with_reducible refine (demand_May.calls k _ _ y191 false _ ?side1 ?side2 A11.out).mono ?_); (case side1 => repeat (first | exact (Kd.R_reads' HO193.out).2.2 | (with_reducible refine Kd.C_alloc ?_ _) | (with_reducible refine Kd.C_drewN ?_ _) | (with_reducible refine Kd.C_drew ?_))); (case side2 => exact (Kd.R_reads' HO193.out).2.1); rintro e w123 ⟨rfl, hb⟩; have n0_ := Aside0.mk (Kd.R_below (by (with_reducible repeat (first | apply Kd.R_alloc | apply Kd.R_drewN | apply Kd.R_drew)); exact HO193.out) hb); have n1_ := bb BK189 hb; have n2_ := bs HB hb; clear HO193; clear BK189; clear HB; have HO193 := n0_; have BK189 := n1_; have HB := n2_; clear n0_ n1_ n2_; (try clear hb); (try clear hb2); (try clear hk); (try clear hi)))
          go_ret
          exact ⟨by first | rfl | (simp [errW_none, errW_some] <;> rfl) | (simp [*, errW_none, errW_some] <;> rfl) | (exfalso; contradiction), by repeat (first | (with_reducible first | exact HB.out | apply below_alloc | apply pw_below_drewN | apply below_drew1 | refine below_set ?_ GE189.out) | exact HB.out)⟩
  · replace c4 := Bool.eq_false_iff.mpr c4
    subst c4
    rw [if_neg (show ¬ (false = true) by decide)] at H
    obtain rfl := Option.some.inj H
    go_enter Try.func4, Try.ntmps4
    go_wp2_with (first | ((with_reducible refine gate_dst (N := 2) rfl ?_); (try (refine gate_guard (by rfl) ?_; dsimp only)); refine box_event ?hg (N := 2) ?hd (cs := #[.int .i64 a0_0, .int .i64 a0_1, .int .i64 a0_2, .int .i64 a0_3, .int .i64 a0_4, .int .i64 a0_5, .int .i64 a0_6]) (t := 26) ?hr ?_; (case hd => rfl); (case hg => rfl); (case hr => first | (go_simp; done) | (go_simp; rfl)); intro gb189 hg w124 hbox hb; have n0_ := bs HB hb; have n1_ := Aside0.mk (hbox); have n2_ := bz HB hg; have n3_ := bz HB hg; clear HB; have HB := n0_; have BK189 := n1_; have GW189 := n2_; have GE189 := n3_; clear n0_ n1_ n2_ n3_; clear hb hbox hg) | ((with_reducible refine gate_callee (f := 10) rfl ?_); refine goesL_ (some 8) rfl rfl Try.func10 (by kernel_rfl) rfl #[] rfl (by (try simp only [List.map_toArray, List.map_cons, List.map_nil]); first | done | rfl | (simp only [List.length_drop, List.length_take]; rfl)) ?_; (with_reducible refine (fuseelaw09_awake.calls k  false _ A3.out).mono ?_); rintro e w125 ⟨rfl, hb⟩; refine ⟨_, rfl, ?_⟩; have n0_ := bb BK189 hb; have n1_ := bs HB hb; clear BK189; clear HB; have BK189 := n0_; have HB := n1_; clear n0_ n1_; (try clear hb); (try clear hb2); (try clear hk); (try clear hi)))
    go_ret
    exact ⟨by first | rfl | (simp [errW_none, errW_some] <;> rfl) | (simp [*, errW_none, errW_some] <;> rfl) | (exfalso; contradiction), by repeat (first | (with_reducible first | exact HB.out | apply below_alloc | apply pw_below_drewN | apply below_drew1 | refine below_set ?_ GE189.out) | exact HB.out)⟩

end Go.Proofs.Ytngledpkoeioiaa.P
