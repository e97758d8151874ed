-- Written by a program of this session (hprint.py), out of the translation; functions that the print does not take are given by hand.
import Derived.Test.YtaejikbfnlihmaaPx0
import Derived.Test.YtaejikbfnlihmaaPx5
import Derived.Test.YtaejikbfnlihmaaPx6
import Derived.Test.YtaejikbfnlihmaaPx7
import Derived.Test.YtaejikbfnlihmaaPx12
import Derived.Test.YtaejikbfnlihmaaPx17
namespace Go.Proofs.Ytaejikbfnlihmaa.P
open Go.RowKit Go.Proofs.YtaejikbfnlihmaaM Go.Proofs.YtaejikbfnlihmaaW.PrintWords Go.Proofs.YtaejikbfnlihmaaW.PrintLast Go.Proofs.YtaejikbfnlihmaaW.PrintMore
attribute [local go_sem] max2_int min2_int max_two min_two max_three min_three max_four min_four   -- for this text's walks alone
set_option linter.unusedVariables false
set_option linter.unusedSimpArgs false

/-! ### fuseelaw10_PlanWhy: function 5 -/
def fuseelaw10_PlanWhy.l0 : Nat → List (S40) → Int → List (S53) → Bool → Bool → Int → Int → Option (Bool)
  | 0, _, _, _, _, _, _, _ => none
  | k + 1, x0, x5, x6, x7, x8, x9, x10 => if x10 < (x0.length : Int) then (if x8 = true then (if 0 ≤ x10 then ((spec_May.f ((rd_T40 x0 x10).f0) ((rd_T40 x0 x10).f1) ((rd_T40 x0 x10).f2) ((rd_T40 x0 x10).f3) ((rd_T40 x0 x10).f4) ((rd_T40 x0 x10).f5)).bind fun t383 => ((units_Least.f ((rd_T40 x0 x10).f0) ((rd_T40 x0 x10).f1) ((rd_T40 x0 x10).f2) ((rd_T40 x0 x10).f3) ((rd_T40 x0 x10).f4) ((rd_T40 x0 x10).f5)).bind fun t385 => (fuseelaw10_PlanWhy.l0 k x0 x5 x6 x7 t383 (wrap64 (x9 + t385)) (wrap64 (x10 + 1))))) else (none)) else (if 0 ≤ x10 then ((units_Least.f ((rd_T40 x0 x10).f0) ((rd_T40 x0 x10).f1) ((rd_T40 x0 x10).f2) ((rd_T40 x0 x10).f3) ((rd_T40 x0 x10).f4) ((rd_T40 x0 x10).f5)).bind fun t387 => (fuseelaw10_PlanWhy.l0 k x0 x5 x6 x7 false (wrap64 (x9 + t387)) (wrap64 (x10 + 1)))) else (none))) else (if (x7 != x8) = true then (none) else (if ((x5 == 1) != (!x8)) = true then (none) else (if x8 = true then (if ((x5 == 5) == (decide (x9 > 983040))) = true then ((spring_Room.f k x6 983040).bind fun t388 => (if (t388 == (x5 != 5)) = true then (if x5 = 0 then (some true) else (if x5 = 5 then (some true) else (some (x5 == 6)))) else (none))) else (none)) else (some true))))
def fuseelaw10_PlanWhy.f (k : Nat) (l0 : List (S40)) : Option (Bool) := (fuseelaw10_awake.f k).bind fun t373 => (if t373 = true then (if (l0.length : Int) > 4 then (some t373) else ((plan_Target.f k l0).bind fun bt374 => ((plan_Springs.f k l0).bind fun bt378 => (fuseelaw10_PlanWhy.l0 k l0 bt374.2 bt378.1 bt378.2 true 0 0)))) else (some t373))
theorem fuseelaw10_PlanWhy.mono_l : ∀ k, (∀ y0 y1 y2 y3 y4 y5 y6, LeO (fuseelaw10_PlanWhy.l0 k y0 y1 y2 y3 y4 y5 y6) (fuseelaw10_PlanWhy.l0 (k + 1) y0 y1 y2 y3 y4 y5 y6))
  | 0 => fun _ _ _ _ _ _ _ r h => by simp [fuseelaw10_PlanWhy.l0] at h
  | k + 1 => by
    have ih0 := fuseelaw10_PlanWhy.mono_l k
    · intro y0 y1 y2 y3 y4 y5 y6
      unfold fuseelaw10_PlanWhy.l0
      repeat' first
      | (with_reducible exact ih0 _ _ _ _ _ _ _)
      | (with_reducible exact fuseelaw10_awake.mono _)
      | (with_reducible exact plan_Springs.mono _ _)
      | (with_reducible exact plan_Target.mono _ _)
      | (with_reducible exact spring_Room.mono _ _ _)
      | (with_reducible exact LeO.refl _)
      | (with_reducible exact LeO.none _)
      | (with_reducible refine LeO.ite ?_ ?_)
      | (with_reducible refine LeO.bind ?_ (fun _ => ?_))
      | exact ih0 _ _ _ _ _ _ _
      | exact fuseelaw10_awake.mono _
      | exact plan_Springs.mono _ _
      | exact plan_Target.mono _ _
      | exact spring_Room.mono _ _ _
      | exact LeO.none _
      | refine LeO.ite ?_ ?_
      | refine LeO.bind ?_ (fun _ => ?_)
theorem fuseelaw10_PlanWhy.mono : ∀ a0 k, LeO (fuseelaw10_PlanWhy.f k a0) (fuseelaw10_PlanWhy.f (k + 1) a0) := by
  intro a0 k
  have ih0 := fuseelaw10_PlanWhy.mono_l k
  unfold fuseelaw10_PlanWhy.f
  repeat' first
      | (with_reducible exact ih0 _ _ _ _ _ _ _)
      | (with_reducible exact fuseelaw10_awake.mono _)
      | (with_reducible exact plan_Springs.mono _ _)
      | (with_reducible exact plan_Target.mono _ _)
      | (with_reducible exact spring_Room.mono _ _ _)
      | (with_reducible exact LeO.refl _)
      | (with_reducible exact LeO.none _)
      | (with_reducible refine LeO.ite ?_ ?_)
      | (with_reducible refine LeO.bind ?_ (fun _ => ?_))
      | exact ih0 _ _ _ _ _ _ _
      | exact fuseelaw10_awake.mono _
      | exact plan_Springs.mono _ _
      | exact plan_Target.mono _ _
      | exact spring_Room.mono _ _ _
      | exact LeO.none _
      | refine LeO.ite ?_ ?_
      | refine LeO.bind ?_ (fun _ => ?_)
set_option maxHeartbeats 8000000 in
set_option maxRecDepth 100000 in
theorem fuseelaw10_PlanWhy.calls (k : Nat) (A0 : Option Addr) (c0 : Nat) (l0 : List (S40)) (r : Bool) (w : World) (hr0 : Kd.C k40 w A0 l0.length l0) (hc0 : l0.length ≤ c0) (h : fuseelaw10_PlanWhy.f k l0 = some r) :
    Calls Try.prog 5 #[.slice A0 l0.length c0] w fun e w' => e = .returned (.bool r) ∧ Below w.heap.size w w' := by
  have hu40 := Try.underlying40
  have HR0 := Aside0.mk hr0
  have HC0 := Aside0.mk hc0
  clear hr0 hc0
  have HB := Aside0.mk (Below.refl w.heap.size w)
  have H : ((fuseelaw10_awake.f k).bind fun t373 => (if t373 = true then (if (l0.length : Int) > 4 then (some t373) else ((plan_Target.f k l0).bind fun bt374 => ((plan_Springs.f k l0).bind fun bt378 => (fuseelaw10_PlanWhy.l0 k l0 bt374.2 bt378.1 bt378.2 true 0 0)))) else (some t373))) = some r := h
  clear h
  replace H := Option.bind_eq_some_iff.mp H
  obtain ⟨t373, A20, H⟩ := H
  try dsimp only at H
  have A2 := Aside0.mk A20
  clear A20
  by_cases c3 : t373 = true
  · subst c3
    rw [if_pos rfl] at H
    by_cases c4 : (l0.length : Int) > 4
    · rw [if_pos c4] at H
      have c4b0 : decide (4 < (l0.length : Int)) = true := decide_eq_true c4
      have c4b1 : decide (4 < l0.length) = true := decide_eq_true (by omega)
      clear c4
      obtain rfl := Option.some.inj H
      go_enter Try.func5, Try.ntmps5
      go_wp2_with (first | ((with_reducible refine gate_callee (f := 10) rfl ?_); refine goesL_ (some 11) rfl rfl Try.func10 (by kernel_rfl) rfl #[] rfl (by (try simp only [List.map_toArray, List.map_cons, List.map_nil]); first | done | rfl | (simp only [List.length_drop, List.length_take]; rfl)) ?_; (with_reducible refine (fuseelaw10_awake.calls k  true _ A2.out).mono ?_); rintro e w5 ⟨rfl, hb⟩; refine ⟨_, rfl, ?_⟩; have n0_ := bs HB hb; clear HB; have HB := n0_; clear n0_; (try clear hb); (try clear hb2); (try clear hk); (try clear hi)))
      go_ret
      exact ⟨by first | rfl | (simp [errW_none, errW_some] <;> rfl) | (simp [*, errW_none, errW_some] <;> rfl) | (exfalso; contradiction), by repeat (first | (with_reducible first | exact HB.out | apply below_alloc | apply pw_below_drewN | apply below_drew1) | exact HB.out)⟩
    · rw [if_neg c4] at H
      have c4b0 : decide (4 < (l0.length : Int)) = false := decide_eq_false c4
      have c4b1 : decide (4 < l0.length) = false := decide_eq_false (by omega)
      clear c4
      replace H := Option.bind_eq_some_iff.mp H
      obtain ⟨⟨t374, t375⟩, A60, H⟩ := H
      try dsimp only at H
      have A6 := Aside0.mk A60
      clear A60
      replace H := Option.bind_eq_some_iff.mp H
      obtain ⟨⟨t378, t379⟩, A70, H⟩ := H
      try dsimp only at H
      have A7 := Aside0.mk A70
      clear A70
      have H' := Aside0.mk H
      clear H
      go_enter Try.func5, Try.ntmps5
      go_wp2_with (first | ((with_reducible refine gate_callee (f := 10) rfl ?_); refine goesL_ (some 11) rfl rfl Try.func10 (by kernel_rfl) rfl #[] rfl (by (try simp only [List.map_toArray, List.map_cons, List.map_nil]); first | done | rfl | (simp only [List.length_drop, List.length_take]; rfl)) ?_; (with_reducible refine (fuseelaw10_awake.calls k  true _ A2.out).mono ?_); rintro e w8 ⟨rfl, hb⟩; refine ⟨_, rfl, ?_⟩; have n0_ := bs HB hb; clear HB; have HB := n0_; clear n0_; (try clear hb); (try clear hb2); (try clear hk); (try clear hi)) | ((with_reducible refine gate_callee (f := 13) rfl ?_); refine goesL_ (some 22) rfl rfl Try.func13 (by kernel_rfl) rfl #[.slice A0 l0.length c0] rfl (by (try simp only [List.map_toArray, List.map_cons, List.map_nil]); first | done | rfl | (simp only [List.length_drop, List.length_take]; rfl)) ?_; (with_reducible refine (plan_Target.calls k _ _ l0 t374 t375 _ ?side1 ?side2 A6.out).mono ?_); (case side1 => repeat (first | exact (Kd.C_below HR0.out HB.out) | (with_reducible refine Kd.C_alloc ?_ _) | (with_reducible refine Kd.C_drewN ?_ _) | (with_reducible refine Kd.C_drew ?_))); (case side2 => exact HC0.out); rintro e w9 ⟨v376, rfl, ho0, hb⟩; refine ⟨_, rfl, ?_⟩; have n0_ := Aside0.mk (Kd.R_lower ho0 (below_size (by repeat (first | (with_reducible first | exact HB.out | apply below_alloc | apply pw_below_drewN | apply below_drew1) | exact HB.out)))); have n1_ := bs HB hb; clear HB; have HO377 := n0_; have HB := n1_; clear n0_ n1_; (try clear hb); (try clear hb2); (try clear hk); (try clear hi); (try clear ho0)) | ((with_reducible refine gate_callee (f := 11) rfl ?_); refine goesL_ (some 27) rfl rfl Try.func11 (by kernel_rfl) rfl #[.slice A0 l0.length c0] rfl (by (try simp only [List.map_toArray, List.map_cons, List.map_nil]); first | done | rfl | (simp only [List.length_drop, List.length_take]; rfl)) ?_; (with_reducible refine (plan_Springs.calls k _ _ l0 t378 t379 _ ?side1 ?side2 A7.out).mono ?_); (case side1 => repeat (first | exact (Kd.C_below HR0.out HB.out) | (with_reducible refine Kd.C_alloc ?_ _) | (with_reducible refine Kd.C_drewN ?_ _) | (with_reducible refine Kd.C_drew ?_))); (case side2 => exact HC0.out); rintro e w10 ⟨v380, rfl, ho0, hb⟩; refine ⟨_, rfl, ?_⟩; have n0_ := Aside0.mk (Kd.R_below (by (with_reducible repeat (first | apply Kd.R_alloc | apply Kd.R_drewN | apply Kd.R_drew)); exact HO377.out) hb); have n1_ := Aside0.mk (Kd.R_lower ho0 (below_size (by repeat (first | (with_reducible first | exact HB.out | apply below_alloc | apply pw_below_drewN | apply below_drew1) | exact HB.out)))); have n2_ := bs HB hb; clear HO377; clear HB; have HO377 := n0_; have HO381 := n1_; have HB := n2_; clear n0_ n1_ n2_; (try clear hb); (try clear hb2); (try clear hk); (try clear hi); (try clear ho0)))
      go_loopg [8, 9, 10] k (fun kq v8 v9 v10 w' => ∃ (x8_1 : Bool) (x9_1 : Int) (x10_1 : Int), v8 = .bool x8_1 ∧ v9 = .int .i64 x9_1 ∧ v10 = .int .i64 x10_1 ∧ Aside0 (fuseelaw10_PlanWhy.l0 kq l0 t375 t378 t379 x8_1 x9_1 x10_1 = some r) ∧ Aside0 (kq ≤ k) ∧ Aside0 (Kd.R k53 53 w' w.heap.size (fun _ => True) v380 t378) ∧ Aside0 (Below w.heap.size w w'))
      case atStart => exact ⟨(true), (0), (0), (by first | rfl | (simp; done) | (simp [*]; done)), (by first | rfl | (simp; done) | (simp [*]; done)), (by first | rfl | (simp; done) | (simp [*]; done)), H', ⟨Nat.le_refl _⟩, ⟨by (with_reducible repeat (first | apply Kd.R_alloc | apply Kd.R_drewN | apply Kd.R_drew)); exact HO381.out⟩, ⟨by repeat (first | (with_reducible first | exact HB.out | apply below_alloc | apply pw_below_drewN | apply below_drew1) | exact HB.out)⟩⟩
      case round =>
        clear H'
        try clear c1
        try clear p2
        try clear c3
        try clear c4
        try clear c4b0
        try clear c4b1
        try clear c5
        try clear c10
        obtain ⟨x8_1, x9_1, x10_1, rfl, rfl, rfl, HA, HK1, HO_6, HB⟩ := hrel
        cases gk with
        | zero => exact absurd HA.out (by simp [fuseelaw10_PlanWhy.l0])
        | succ k1 =>
          have H := HA.out
          clear HA
          simp only [fuseelaw10_PlanWhy.l0] at H
          by_cases c11 : x10_1 < (l0.length : Int)
          · rw [if_pos c11] at H
            have c11b0 : decide (x10_1 < (l0.length : Int)) = true := decide_eq_true c11
            clear c11
            by_cases c12 : x8_1 = true
            · subst c12
              rw [if_pos rfl] at H
              by_cases c13 : 0 ≤ x10_1
              · rw [if_pos c13] at H
                have c13b0 : decide (0 ≤ x10_1) = true := decide_eq_true c13
                clear c13
                replace H := Option.bind_eq_some_iff.mp H
                obtain ⟨t383, A140, H⟩ := H
                try dsimp only at H
                have A14 := Aside0.mk A140
                clear A140
                replace H := Option.bind_eq_some_iff.mp H
                obtain ⟨t385, A150, H⟩ := H
                try dsimp only at H
                have A15 := Aside0.mk A150
                clear A150
                have H' := Aside0.mk H
                clear H
                have p382 : 0 ≤ (x10_1 : Int) := of_decide_eq_true (by first | (with_reducible assumption) | assumption)
                have q382 : x10_1 < (l0.length : Int) := of_decide_eq_true (by first | (with_reducible assumption) | assumption)
                obtain ⟨ad382, e382, hx382_0, hx382_1, hx382_2, hx382_3, hx382_4, hx382_5⟩ := at_T40 HR0.out x10_1 p382 q382
                cases e382
                replace hx382_0 := (HB.out.cell (World.block_lt_of_cell? w _ hx382_0)).trans hx382_0
                replace hx382_1 := (HB.out.cell (World.block_lt_of_cell? w _ hx382_1)).trans hx382_1
                replace hx382_2 := (HB.out.cell (World.block_lt_of_cell? w _ hx382_2)).trans hx382_2
                replace hx382_3 := (HB.out.cell (World.block_lt_of_cell? w _ hx382_3)).trans hx382_3
                replace hx382_4 := (HB.out.cell (World.block_lt_of_cell? w _ hx382_4)).trans hx382_4
                replace hx382_5 := (HB.out.cell (World.block_lt_of_cell? w _ hx382_5)).trans hx382_5
                replace p382 := eq_true p382
                replace q382 := eq_true q382
                go_wp2_with (first | (go_at_call 22; (with_reducible refine (spec_May.calls ((rd_T40 l0 x10_1).f0) ((rd_T40 l0 x10_1).f1) ((rd_T40 l0 x10_1).f2) ((rd_T40 l0 x10_1).f3) ((rd_T40 l0 x10_1).f4) ((rd_T40 l0 x10_1).f5) t383 _ A14.out).mono ?_); rintro e w16 ⟨rfl, hb⟩; have n0_ := Aside0.mk (Kd.R_below (by (with_reducible repeat (first | apply Kd.R_alloc | apply Kd.R_drewN | apply Kd.R_drew)); exact HO_6.out) hb); have n1_ := bs HB hb; clear HO_6; clear HB; have HO_6 := n0_; have HB := n1_; clear n0_ n1_; (try clear hb); (try clear hb2); (try clear hk); (try clear hi); have p384 : 0 ≤ (x10_1 : Int) := of_decide_eq_true (by first | (with_reducible assumption) | assumption); have q384 : x10_1 < (l0.length : Int) := of_decide_eq_true (by first | (with_reducible assumption) | assumption); obtain ⟨ad384, e384, hx384_0, hx384_1, hx384_2, hx384_3, hx384_4, hx384_5⟩ := at_T40 HR0.out x10_1 p384 q384; obtain rfl : ad382 = ad384 := (by injection e384); replace hx384_0 := (HB.out.cell (World.block_lt_of_cell? w _ hx384_0)).trans hx384_0; replace hx384_1 := (HB.out.cell (World.block_lt_of_cell? w _ hx384_1)).trans hx384_1; replace hx384_2 := (HB.out.cell (World.block_lt_of_cell? w _ hx384_2)).trans hx384_2; replace hx384_3 := (HB.out.cell (World.block_lt_of_cell? w _ hx384_3)).trans hx384_3; replace hx384_4 := (HB.out.cell (World.block_lt_of_cell? w _ hx384_4)).trans hx384_4; replace hx384_5 := (HB.out.cell (World.block_lt_of_cell? w _ hx384_5)).trans hx384_5; replace p384 := eq_true p384; replace q384 := eq_true q384) | ((with_reducible refine gate_callee (f := 23) rfl ?_); refine goesL_ (some 49) rfl rfl Try.func23 (by kernel_rfl) rfl #[.agg #[.int .i64 ((rd_T40 l0 x10_1).f0), .int .i64 ((rd_T40 l0 x10_1).f1), .int .i64 ((rd_T40 l0 x10_1).f2), .int .i64 ((rd_T40 l0 x10_1).f3), .int .i64 ((rd_T40 l0 x10_1).f4), .int .i64 ((rd_T40 l0 x10_1).f5)]] rfl (by (try simp only [List.map_toArray, List.map_cons, List.map_nil]); first | done | rfl | (simp only [List.length_drop, List.length_take]; rfl)) ?_; (with_reducible refine (units_Least.calls ((rd_T40 l0 x10_1).f0) ((rd_T40 l0 x10_1).f1) ((rd_T40 l0 x10_1).f2) ((rd_T40 l0 x10_1).f3) ((rd_T40 l0 x10_1).f4) ((rd_T40 l0 x10_1).f5) t385 _ A15.out).mono ?_); rintro e w17 ⟨rfl, hb⟩; refine ⟨_, rfl, ?_⟩; have n0_ := Aside0.mk (Kd.R_below (by (with_reducible repeat (first | apply Kd.R_alloc | apply Kd.R_drewN | apply Kd.R_drew)); exact HO_6.out) hb); have n1_ := bs HB hb; clear HO_6; clear HB; have HO_6 := n0_; have HB := n1_; clear n0_ n1_; (try clear hb); (try clear hb2); (try clear hk); (try clear hi)))
                go_roundg k1
                case measure => have := HK1.out; omega
                case rel => exact ⟨(t383), (wrap64 (x9_1 + t385)), (wrap64 (x10_1 + 1)), (by first | rfl | (simp; done) | (simp [*]; done)), (by first | rfl | (simp; done) | (simp [*]; done)), (by first | rfl | (simp; done) | (simp [*]; done)), H', ⟨by have := HK1.out; omega⟩, ⟨by (with_reducible repeat (first | apply Kd.R_alloc | apply Kd.R_drewN | apply Kd.R_drew)); exact HO_6.out⟩, ⟨by repeat (first | (with_reducible first | exact HB.out | apply below_alloc | apply pw_below_drewN | apply below_drew1) | exact HB.out)⟩⟩
              · rw [if_neg c13] at H
                exact absurd H (by simp)
            · replace c12 := Bool.eq_false_iff.mpr c12
              subst c12
              rw [if_neg (show ¬ (false = true) by decide)] at H
              by_cases c18 : 0 ≤ x10_1
              · rw [if_pos c18] at H
                have c18b0 : decide (0 ≤ x10_1) = true := decide_eq_true c18
                clear c18
                replace H := Option.bind_eq_some_iff.mp H
                obtain ⟨t387, A190, H⟩ := H
                try dsimp only at H
                have A19 := Aside0.mk A190
                clear A190
                have H' := Aside0.mk H
                clear H
                have p386 : 0 ≤ (x10_1 : Int) := of_decide_eq_true (by first | (with_reducible assumption) | assumption)
                have q386 : x10_1 < (l0.length : Int) := of_decide_eq_true (by first | (with_reducible assumption) | assumption)
                obtain ⟨ad386, e386, hx386_0, hx386_1, hx386_2, hx386_3, hx386_4, hx386_5⟩ := at_T40 HR0.out x10_1 p386 q386
                cases e386
                replace hx386_0 := (HB.out.cell (World.block_lt_of_cell? w _ hx386_0)).trans hx386_0
                replace hx386_1 := (HB.out.cell (World.block_lt_of_cell? w _ hx386_1)).trans hx386_1
                replace hx386_2 := (HB.out.cell (World.block_lt_of_cell? w _ hx386_2)).trans hx386_2
                replace hx386_3 := (HB.out.cell (World.block_lt_of_cell? w _ hx386_3)).trans hx386_3
                replace hx386_4 := (HB.out.cell (World.block_lt_of_cell? w _ hx386_4)).trans hx386_4
                replace hx386_5 := (HB.out.cell (World.block_lt_of_cell? w _ hx386_5)).trans hx386_5
                replace p386 := eq_true p386
                replace q386 := eq_true q386
                go_wp2_with (first | ((with_reducible refine gate_callee (f := 23) rfl ?_); refine goesL_ (some 49) rfl rfl Try.func23 (by kernel_rfl) rfl #[.agg #[.int .i64 ((rd_T40 l0 x10_1).f0), .int .i64 ((rd_T40 l0 x10_1).f1), .int .i64 ((rd_T40 l0 x10_1).f2), .int .i64 ((rd_T40 l0 x10_1).f3), .int .i64 ((rd_T40 l0 x10_1).f4), .int .i64 ((rd_T40 l0 x10_1).f5)]] rfl (by (try simp only [List.map_toArray, List.map_cons, List.map_nil]); first | done | rfl | (simp only [List.length_drop, List.length_take]; rfl)) ?_; (with_reducible refine (units_Least.calls ((rd_T40 l0 x10_1).f0) ((rd_T40 l0 x10_1).f1) ((rd_T40 l0 x10_1).f2) ((rd_T40 l0 x10_1).f3) ((rd_T40 l0 x10_1).f4) ((rd_T40 l0 x10_1).f5) t387 _ A19.out).mono ?_); rintro e w20 ⟨rfl, hb⟩; refine ⟨_, rfl, ?_⟩; have n0_ := Aside0.mk (Kd.R_below (by (with_reducible repeat (first | apply Kd.R_alloc | apply Kd.R_drewN | apply Kd.R_drew)); exact HO_6.out) hb); have n1_ := bs HB hb; clear HO_6; clear HB; have HO_6 := n0_; have HB := n1_; clear n0_ n1_; (try clear hb); (try clear hb2); (try clear hk); (try clear hi)))
                go_roundg k1
                case measure => have := HK1.out; omega
                case rel => exact ⟨(false), (wrap64 (x9_1 + t387)), (wrap64 (x10_1 + 1)), (by first | rfl | (simp; done) | (simp [*]; done)), (by first | rfl | (simp; done) | (simp [*]; done)), (by first | rfl | (simp; done) | (simp [*]; done)), H', ⟨by have := HK1.out; omega⟩, ⟨by (with_reducible repeat (first | apply Kd.R_alloc | apply Kd.R_drewN | apply Kd.R_drew)); exact HO_6.out⟩, ⟨by repeat (first | (with_reducible first | exact HB.out | apply below_alloc | apply pw_below_drewN | apply below_drew1) | exact HB.out)⟩⟩
              · rw [if_neg c18] at H
                exact absurd H (by simp)
          · rw [if_neg c11] at H
            have c11b0 : decide (x10_1 < (l0.length : Int)) = false := decide_eq_false c11
            clear c11
            by_cases c21 : (t379 != x8_1) = true
            · rw [if_pos c21] at H
              exact absurd H (by simp)
            · rw [if_neg c21] at H
              have c21b0 : (t379 != x8_1) = false := by simpa using c21
              (try (have c21b1 : decide (t379 = x8_1) = true := by simpa using c21))
              (try (have c21b2 : (t379 == x8_1) = true := by simpa using c21))
              clear c21
              by_cases c22 : ((t375 == 1) != (!x8_1)) = true
              · rw [if_pos c22] at H
                exact absurd H (by simp)
              · rw [if_neg c22] at H
                have c22b0 : ((t375 == 1) != (!x8_1)) = false := by simpa using c22
                (try (have c22b1 : decide ((t375 == 1) = (!x8_1)) = true := by simpa using c22))
                (try (have c22b2 : ((t375 == 1) == (!x8_1)) = true := by simpa using c22))
                clear c22
                by_cases c23 : x8_1 = true
                · subst c23
                  have dc22b0 : (t375 == 1) = false := by simpa using c22b0
                  rw [if_pos rfl] at H
                  by_cases c24 : ((t375 == 5) == (decide (x9_1 > 983040))) = true
                  · rw [if_pos c24] at H
                    have c24b0 : ((t375 == 5) == (decide (x9_1 > 983040))) = true := c24
                    (try (have c24b1 : decide ((t375 == 5) = (decide (x9_1 > 983040))) = true := by simpa using c24))
                    (try (have c24b2 : ((t375 == 5) == (decide (x9_1 > 983040))) = true := by simpa using c24))
                    clear c24
                    replace H := Option.bind_eq_some_iff.mp H
                    obtain ⟨t388, A250, H⟩ := H
                    try dsimp only at H
                    have A25 := Aside0.mk A250
                    clear A250
                    by_cases c26 : (t388 == (t375 != 5)) = true
                    · rw [if_pos c26] at H
                      have c26b0 : (t388 == (t375 != 5)) = true := c26
                      (try (have c26b1 : decide (t388 = (t375 != 5)) = true := by simpa using c26))
                      (try (have c26b2 : (t388 == (t375 != 5)) = true := by simpa using c26))
                      clear c26
                      by_cases c27 : t375 = 0
                      · rw [if_pos c27] at H
                        have c27b0 : (t375 == 0) = true := beq_iff_eq.mpr c27
                        have c27b1 : (t375 != 0) = false := bne_eq_false_iff_eq.mpr c27
                        clear c27
                        obtain rfl := Option.some.inj H
                        obtain ⟨Ao28, co28, eo28⟩ := Kd.R_slice HO_6.out
                        subst eo28
                        go_wp2_with (first | (go_at_call 24; (with_reducible refine (spring_Room.calls k1 _ _ t378 983040 t388 _ ?side1 ?side2 A25.out).mono ?_); (case side1 => repeat (first | exact (Kd.R_reads' HO_6.out).2.2 | (with_reducible refine Kd.C_alloc ?_ _) | (with_reducible refine Kd.C_drewN ?_ _) | (with_reducible refine Kd.C_drew ?_))); (case side2 => exact (Kd.R_reads' HO_6.out).2.1); rintro e w29 ⟨rfl, hb⟩; have n0_ := Aside0.mk (Kd.R_below (by (with_reducible repeat (first | apply Kd.R_alloc | apply Kd.R_drewN | apply Kd.R_drew)); exact HO_6.out) hb); have n1_ := bs HB hb; clear HO_6; clear HB; have HO_6 := n0_; have HB := n1_; clear n0_ n1_; (try clear hb); (try clear hb2); (try clear hk); (try clear hi)))
                        go_ret
                        exact ⟨by first | rfl | (simp [errW_none, errW_some] <;> rfl) | (simp [*, errW_none, errW_some] <;> rfl) | (exfalso; first | contradiction | (revert c21b0 c22b0 c26b0 c27b0; simp +contextual; done)), by repeat (first | (with_reducible first | exact HB.out | apply below_alloc | apply pw_below_drewN | apply below_drew1) | exact HB.out)⟩
                      · rw [if_neg c27] at H
                        have c27b0 : (t375 == 0) = false := beq_eq_false_iff_ne.mpr c27
                        have c27b1 : (t375 != 0) = true := bne_iff_ne.mpr c27
                        by_cases c30 : t375 = 5
                        · rw [if_pos c30] at H
                          have c30b0 : (t375 == 5) = true := beq_iff_eq.mpr c30
                          have gc24b0 : decide (983040 < x9_1) = true := by simpa [c30b0] using c24b0
                          have c30b1 : (t375 != 5) = false := bne_eq_false_iff_eq.mpr c30
                          obtain rfl : t388 = false := by simpa [c30b1] using c26b0
                          clear c30
                          obtain rfl := Option.some.inj H
                          obtain ⟨Ao31, co31, eo31⟩ := Kd.R_slice HO_6.out
                          subst eo31
                          go_wp2_with (first | (go_at_call 24; (with_reducible refine (spring_Room.calls k1 _ _ t378 983040 false _ ?side1 ?side2 A25.out).mono ?_); (case side1 => repeat (first | exact (Kd.R_reads' HO_6.out).2.2 | (with_reducible refine Kd.C_alloc ?_ _) | (with_reducible refine Kd.C_drewN ?_ _) | (with_reducible refine Kd.C_drew ?_))); (case side2 => exact (Kd.R_reads' HO_6.out).2.1); rintro e w32 ⟨rfl, hb⟩; have n0_ := Aside0.mk (Kd.R_below (by (with_reducible repeat (first | apply Kd.R_alloc | apply Kd.R_drewN | apply Kd.R_drew)); exact HO_6.out) hb); have n1_ := bs HB hb; clear HO_6; clear HB; have HO_6 := n0_; have HB := n1_; clear n0_ n1_; (try clear hb); (try clear hb2); (try clear hk); (try clear hi)))
                          go_ret
                          exact ⟨by first | rfl | (simp [errW_none, errW_some] <;> rfl) | (simp [*, errW_none, errW_some] <;> rfl) | (exfalso; first | contradiction | (revert c21b0 c22b0 c26b0 c27b0 c30b0; simp +contextual; done)), by repeat (first | (with_reducible first | exact HB.out | apply below_alloc | apply pw_below_drewN | apply below_drew1) | exact HB.out)⟩
                        · rw [if_neg c30] at H
                          have c30b0 : (t375 == 5) = false := beq_eq_false_iff_ne.mpr c30
                          have gc24b0 : decide (983040 < x9_1) = false := by simpa [c30b0] using c24b0
                          have c30b1 : (t375 != 5) = true := bne_iff_ne.mpr c30
                          obtain rfl : t388 = true := by simpa [c30b1] using c26b0
                          obtain rfl := Option.some.inj H
                          obtain ⟨Ao33, co33, eo33⟩ := Kd.R_slice HO_6.out
                          subst eo33
                          go_wp2_with (first | (go_at_call 24; (with_reducible refine (spring_Room.calls k1 _ _ t378 983040 true _ ?side1 ?side2 A25.out).mono ?_); (case side1 => repeat (first | exact (Kd.R_reads' HO_6.out).2.2 | (with_reducible refine Kd.C_alloc ?_ _) | (with_reducible refine Kd.C_drewN ?_ _) | (with_reducible refine Kd.C_drew ?_))); (case side2 => exact (Kd.R_reads' HO_6.out).2.1); rintro e w34 ⟨rfl, hb⟩; have n0_ := Aside0.mk (Kd.R_below (by (with_reducible repeat (first | apply Kd.R_alloc | apply Kd.R_drewN | apply Kd.R_drew)); exact HO_6.out) hb); have n1_ := bs HB hb; clear HO_6; clear HB; have HO_6 := n0_; have HB := n1_; clear n0_ n1_; (try clear hb); (try clear hb2); (try clear hk); (try clear hi)))
                          go_ret
                          exact ⟨by first | rfl | (simp [errW_none, errW_some] <;> rfl) | (simp [*, errW_none, errW_some] <;> rfl) | (exfalso; first | contradiction | (revert c21b0 c22b0 c26b0 c27b0 c30b0; simp +contextual; done)), by repeat (first | (with_reducible first | exact HB.out | apply below_alloc | apply pw_below_drewN | apply below_drew1) | exact HB.out)⟩
                    · rw [if_neg c26] at H
                      exact absurd H (by simp)
                  · rw [if_neg c24] at H
                    exact absurd H (by simp)
                · replace c23 := Bool.eq_false_iff.mpr c23
                  subst c23
                  have dc22b0 : (t375 == 1) = true := by simpa using c22b0
                  rw [if_neg (show ¬ (false = true) by decide)] at H
                  obtain rfl := Option.some.inj H
                  go_wp2
                  go_ret
                  exact ⟨by first | rfl | (simp [errW_none, errW_some] <;> rfl) | (simp [*, errW_none, errW_some] <;> rfl) | (exfalso; first | contradiction | (revert c21b0 c22b0; simp +contextual; done)), by repeat (first | (with_reducible first | exact HB.out | apply below_alloc | apply pw_below_drewN | apply below_drew1) | exact HB.out)⟩
  · replace c3 := Bool.eq_false_iff.mpr c3
    subst c3
    rw [if_neg (show ¬ (false = true) by decide)] at H
    obtain rfl := Option.some.inj H
    go_enter Try.func5, Try.ntmps5
    go_wp2_with (first | ((with_reducible refine gate_callee (f := 10) rfl ?_); refine goesL_ (some 11) rfl rfl Try.func10 (by kernel_rfl) rfl #[] rfl (by (try simp only [List.map_toArray, List.map_cons, List.map_nil]); first | done | rfl | (simp only [List.length_drop, List.length_take]; rfl)) ?_; (with_reducible refine (fuseelaw10_awake.calls k  false _ A2.out).mono ?_); rintro e w35 ⟨rfl, hb⟩; refine ⟨_, rfl, ?_⟩; have n0_ := bs HB hb; clear HB; have HB := n0_; clear n0_; (try clear hb); (try clear hb2); (try clear hk); (try clear hi)))
    go_ret
    exact ⟨by first | rfl | (simp [errW_none, errW_some] <;> rfl) | (simp [*, errW_none, errW_some] <;> rfl) | (exfalso; contradiction), by repeat (first | (with_reducible first | exact HB.out | apply below_alloc | apply pw_below_drewN | apply below_drew1) | exact HB.out)⟩

end Go.Proofs.Ytaejikbfnlihmaa.P
