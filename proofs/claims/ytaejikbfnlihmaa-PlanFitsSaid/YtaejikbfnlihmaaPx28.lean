-- Written by a program of this session (hprint.py), out of the translation; functions that the print does not take are given by hand.
import Derived.Test.YtaejikbfnlihmaaPx0
import Derived.Test.YtaejikbfnlihmaaPx1
import Derived.Test.YtaejikbfnlihmaaPx6
import Derived.Test.YtaejikbfnlihmaaPx8
import Derived.Test.YtaejikbfnlihmaaPx11
import Derived.Test.YtaejikbfnlihmaaPx17
namespace Go.Proofs.Ytaejikbfnlihmaa.P
open Go.RowKit Go.Proofs.YtaejikbfnlihmaaM Go.Proofs.YtaejikbfnlihmaaW.PrintWords Go.Proofs.YtaejikbfnlihmaaW.PrintLast Go.Proofs.YtaejikbfnlihmaaW.PrintMore
attribute [local go_sem] max2_int min2_int max_two min_two max_three min_three max_four min_four   -- for this text's walks alone
set_option linter.unusedVariables false
set_option linter.unusedSimpArgs false

attribute [local go_sem high] eqA40
/-! ### fuseelaw10_PlanFits: function 4 -/
mutual
def fuseelaw10_PlanFits.l0 : Nat → List (S40) → List (S42) → Int → Int → Option (Bool)
  | 0, _, _, _, _ => none
  | k + 1, x0, x4, x6, x7 => if x7 < (x0.length : Int) then (if 0 ≤ x7 then ((units_Top.f ((rd_T40 x0 x7).f0) ((rd_T40 x0 x7).f1) ((rd_T40 x0 x7).f2) ((rd_T40 x0 x7).f3) ((rd_T40 x0 x7).f4) ((rd_T40 x0 x7).f5)).bind fun t364 => (if x7 < (x4.length : Int) then (if (!(((rd_T42 x4 x7).f0.f0) == ((rd_T40 x0 x7).f0)) || (!(((rd_T42 x4 x7).f0.f1) == ((rd_T40 x0 x7).f1)) || (!(((rd_T42 x4 x7).f0.f2) == ((rd_T40 x0 x7).f2)) || (!(((rd_T42 x4 x7).f0.f3) == ((rd_T40 x0 x7).f3)) || (!(((rd_T42 x4 x7).f0.f4) == ((rd_T40 x0 x7).f4)) || (!(((rd_T42 x4 x7).f0.f5) == ((rd_T40 x0 x7).f5)))))))) = true then (none) else (if ((rd_T42 x4 x7).f1) < ((rd_T40 x0 x7).f1) then (none) else (if ((rd_T42 x4 x7).f1) > ((rd_T40 x0 x7).f2) then (none) else (fuseelaw10_PlanFits.l0 k x0 x4 (wrap64 (x6 + t364)) (wrap64 (x7 + 1)))))) else (none))) else (none)) else (fuseelaw10_PlanFits.l1 k x0 x4 x6 0)
def fuseelaw10_PlanFits.l1 : Nat → List (S40) → List (S42) → Int → Int → Option (Bool)
  | 0, _, _, _, _ => none
  | k + 1, x0, x4, x6, x8 => if x8 < (x0.length : Int) then (if x6 ≤ 983040 then (if 0 ≤ x8 then (if x8 < (x4.length : Int) then (if ((rd_T42 x4 x8).f1) = ((rd_T40 x0 x8).f1) then (fuseelaw10_PlanFits.l1 k x0 x4 x6 (wrap64 (x8 + 1))) else (none)) else (none)) else (none)) else (some true)) else (some true)
end
def fuseelaw10_PlanFits.f (k : Nat) (l0 : List (S40)) : Option (Bool) := (fuseelaw10_awake.f k).bind fun t356 => (if t356 = true then (if (l0.length : Int) > 10 then (some t356) else ((plan_Target.f k l0).bind fun bt357 => (if bt357.2 = 0 then (if (bt357.1.length : Int) = (l0.length : Int) then ((demand_May.f k bt357.1).bind fun t361 => (if t361 = true then ((demand_Test.f k bt357.1).bind fun t362 => (if t362 = true then (fuseelaw10_PlanFits.l0 k l0 bt357.1 0 0) else (none))) else (none))) else (none)) else (if (bt357.1.length : Int) = 0 then (some ((bt357.2 == 3) == (decide ((l0.length : Int) > 4)))) else (none))))) else (some t356))
theorem fuseelaw10_PlanFits.mono_l : ∀ k, (∀ y0 y1 y2 y3, LeO (fuseelaw10_PlanFits.l0 k y0 y1 y2 y3) (fuseelaw10_PlanFits.l0 (k + 1) y0 y1 y2 y3)) ∧ (∀ y0 y1 y2 y3, LeO (fuseelaw10_PlanFits.l1 k y0 y1 y2 y3) (fuseelaw10_PlanFits.l1 (k + 1) y0 y1 y2 y3))
  | 0 => ⟨fun _ _ _ _ r h => by simp [fuseelaw10_PlanFits.l0] at h, fun _ _ _ _ r h => by simp [fuseelaw10_PlanFits.l1] at h⟩
  | k + 1 => by
    obtain ⟨ih0, ih1⟩ := fuseelaw10_PlanFits.mono_l k
    refine ⟨?_, ?_⟩
    · intro y0 y1 y2 y3
      unfold fuseelaw10_PlanFits.l0
      repeat' first
      | (with_reducible exact ih0 _ _ _ _)
      | (with_reducible exact ih1 _ _ _ _)
      | (with_reducible exact demand_May.mono _ _)
      | (with_reducible exact demand_Test.mono _ _)
      | (with_reducible exact fuseelaw10_awake.mono _)
      | (with_reducible exact plan_Target.mono _ _)
      | (with_reducible exact LeO.refl _)
      | (with_reducible exact LeO.none _)
      | (with_reducible refine LeO.ite ?_ ?_)
      | (with_reducible refine LeO.bind ?_ (fun _ => ?_))
      | exact ih0 _ _ _ _
      | exact ih1 _ _ _ _
      | exact demand_May.mono _ _
      | exact demand_Test.mono _ _
      | exact fuseelaw10_awake.mono _
      | exact plan_Target.mono _ _
      | exact LeO.none _
      | refine LeO.ite ?_ ?_
      | refine LeO.bind ?_ (fun _ => ?_)
    · intro y0 y1 y2 y3
      unfold fuseelaw10_PlanFits.l1
      repeat' first
      | (with_reducible exact ih0 _ _ _ _)
      | (with_reducible exact ih1 _ _ _ _)
      | (with_reducible exact demand_May.mono _ _)
      | (with_reducible exact demand_Test.mono _ _)
      | (with_reducible exact fuseelaw10_awake.mono _)
      | (with_reducible exact plan_Target.mono _ _)
      | (with_reducible exact LeO.refl _)
      | (with_reducible exact LeO.none _)
      | (with_reducible refine LeO.ite ?_ ?_)
      | (with_reducible refine LeO.bind ?_ (fun _ => ?_))
      | exact ih0 _ _ _ _
      | exact ih1 _ _ _ _
      | exact demand_May.mono _ _
      | exact demand_Test.mono _ _
      | exact fuseelaw10_awake.mono _
      | exact plan_Target.mono _ _
      | exact LeO.none _
      | refine LeO.ite ?_ ?_
      | refine LeO.bind ?_ (fun _ => ?_)
theorem fuseelaw10_PlanFits.mono : ∀ a0 k, LeO (fuseelaw10_PlanFits.f k a0) (fuseelaw10_PlanFits.f (k + 1) a0) := by
  intro a0 k
  obtain ⟨ih0, ih1⟩ := fuseelaw10_PlanFits.mono_l k
  unfold fuseelaw10_PlanFits.f
  repeat' first
      | (with_reducible exact ih0 _ _ _ _)
      | (with_reducible exact ih1 _ _ _ _)
      | (with_reducible exact demand_May.mono _ _)
      | (with_reducible exact demand_Test.mono _ _)
      | (with_reducible exact fuseelaw10_awake.mono _)
      | (with_reducible exact plan_Target.mono _ _)
      | (with_reducible exact LeO.refl _)
      | (with_reducible exact LeO.none _)
      | (with_reducible refine LeO.ite ?_ ?_)
      | (with_reducible refine LeO.bind ?_ (fun _ => ?_))
      | exact ih0 _ _ _ _
      | exact ih1 _ _ _ _
      | exact demand_May.mono _ _
      | exact demand_Test.mono _ _
      | exact fuseelaw10_awake.mono _
      | exact plan_Target.mono _ _
      | exact LeO.none _
      | refine LeO.ite ?_ ?_
      | refine LeO.bind ?_ (fun _ => ?_)
set_option maxHeartbeats 64000000 in
set_option maxRecDepth 100000 in
theorem fuseelaw10_PlanFits.calls (k : Nat) (A0 : Option Addr) (c0 : Nat) (l0 : List (S40)) (r : Bool) (w : World) (hr0 : Kd.C k40 w A0 l0.length l0) (hc0 : l0.length ≤ c0) (h : fuseelaw10_PlanFits.f k l0 = some r) :
    Calls Try.prog 4 #[.slice A0 l0.length c0] w fun e w' => e = .returned (.bool r) ∧ Below w.heap.size w w' := by
  have hu40 := Try.underlying40
  have HR0 := Aside0.mk hr0
  have HC0 := Aside0.mk hc0
  clear hr0 hc0
  have HB := Aside0.mk (Below.refl w.heap.size w)
  have H : ((fuseelaw10_awake.f k).bind fun t356 => (if t356 = true then (if (l0.length : Int) > 10 then (some t356) else ((plan_Target.f k l0).bind fun bt357 => (if bt357.2 = 0 then (if (bt357.1.length : Int) = (l0.length : Int) then ((demand_May.f k bt357.1).bind fun t361 => (if t361 = true then ((demand_Test.f k bt357.1).bind fun t362 => (if t362 = true then (fuseelaw10_PlanFits.l0 k l0 bt357.1 0 0) else (none))) else (none))) else (none)) else (if (bt357.1.length : Int) = 0 then (some ((bt357.2 == 3) == (decide ((l0.length : Int) > 4)))) else (none))))) else (some t356))) = some r := h
  clear h
  replace H := Option.bind_eq_some_iff.mp H
  obtain ⟨t356, A20, H⟩ := H
  try dsimp only at H
  have A2 := Aside0.mk A20
  clear A20
  by_cases c3 : t356 = true
  · subst c3
    rw [if_pos rfl] at H
    by_cases c4 : (l0.length : Int) > 10
    · rw [if_pos c4] at H
      have c4b0 : decide (10 < (l0.length : Int)) = true := decide_eq_true c4
      have c4b1 : decide (10 < l0.length) = true := decide_eq_true (by omega)
      clear c4
      obtain rfl := Option.some.inj H
      go_enter Try.func4, Try.ntmps4
      go_wp2_with (first | (go_at_call 10; (with_reducible refine (fuseelaw10_awake.calls k  true _ A2.out).mono ?_); rintro e w5 ⟨rfl, hb⟩; have n0_ := bs HB hb; clear HB; have HB := n0_; clear n0_; (try clear hb); (try clear hb2); (try clear hk); (try clear hi)))
      repeat (go_quiet (first | (go_at_call 10; (with_reducible refine (fuseelaw10_awake.calls k  true _ A2.out).mono ?_); rintro e w5 ⟨rfl, hb⟩; have n0_ := bs HB hb; clear HB; have HB := n0_; clear n0_; (try clear hb); (try clear hb2); (try clear hk); (try clear hi))); try go_wp2_with (first | (go_at_call 10; (with_reducible refine (fuseelaw10_awake.calls k  true _ A2.out).mono ?_); rintro e w5 ⟨rfl, hb⟩; have n0_ := bs HB hb; clear HB; have HB := n0_; clear n0_; (try clear hb); (try clear hb2); (try clear hk); (try clear hi))))
      go_ret
      exact ⟨by first | rfl | (simp [errW_none, errW_some] <;> rfl) | (simp [*, errW_none, errW_some] <;> rfl) | (exfalso; contradiction), by repeat (first | (with_reducible first | exact HB.out | apply below_alloc | apply pw_below_drewN | apply below_drew1) | exact HB.out)⟩
    · rw [if_neg c4] at H
      have c4b0 : decide (10 < (l0.length : Int)) = false := decide_eq_false c4
      have c4b1 : decide (10 < l0.length) = false := decide_eq_false (by omega)
      clear c4
      replace H := Option.bind_eq_some_iff.mp H
      obtain ⟨⟨t357, t358⟩, A60, H⟩ := H
      try dsimp only at H
      have A6 := Aside0.mk A60
      clear A60
      by_cases c7 : t358 = 0
      · rw [if_pos c7] at H
        have c7b0 : (t358 == 0) = true := beq_iff_eq.mpr c7
        have c7b1 : (t358 != 0) = false := bne_eq_false_iff_eq.mpr c7
        clear c7
        by_cases c8 : (t357.length : Int) = (l0.length : Int)
        · rw [if_pos c8] at H
          have c8b0 : ((t357.length : Int) == (l0.length : Int)) = true := beq_iff_eq.mpr c8
          have c8b1 : ((t357.length : Int) != (l0.length : Int)) = false := bne_eq_false_iff_eq.mpr c8
          have c8b2 : (t357.length == l0.length) = true := by first | simpa using c8 | (simp at c8 ⊢; omega)
          clear c8
          replace H := Option.bind_eq_some_iff.mp H
          obtain ⟨t361, A90, H⟩ := H
          try dsimp only at H
          have A9 := Aside0.mk A90
          clear A90
          by_cases c10 : t361 = true
          · subst c10
            rw [if_pos rfl] at H
            replace H := Option.bind_eq_some_iff.mp H
            obtain ⟨t362, A110, H⟩ := H
            try dsimp only at H
            have A11 := Aside0.mk A110
            clear A110
            by_cases c12 : t362 = true
            · subst c12
              rw [if_pos rfl] at H
              have H' := Aside0.mk H
              clear H
              go_enter Try.func4, Try.ntmps4
              go_wp2_with (first | (go_at_call 10; (with_reducible refine (fuseelaw10_awake.calls k  true _ A2.out).mono ?_); rintro e w13 ⟨rfl, hb⟩; have n0_ := bs HB hb; clear HB; have HB := n0_; clear n0_; (try clear hb); (try clear hb2); (try clear hk); (try clear hi)) | (go_at_call 13; (with_reducible refine (plan_Target.calls k _ _ l0 t357 t358 _ ?side1 ?side2 A6.out).mono ?_); (case side1 => repeat (first | exact (Kd.C_below HR0.out HB.out) | (with_reducible refine Kd.C_alloc ?_ _) | (with_reducible refine Kd.C_drewN ?_ _) | (with_reducible refine Kd.C_drew ?_))); (case side2 => exact HC0.out); rintro e w14 ⟨v359, rfl, ho0, hb⟩; have n0_ := Aside0.mk (Kd.R_lower ho0 (below_size (by repeat (first | (with_reducible first | exact HB.out | apply below_alloc | apply pw_below_drewN | apply below_drew1) | exact HB.out)))); have n1_ := bs HB hb; clear HB; have HO360 := n0_; have HB := n1_; clear n0_ n1_; (try clear hb); (try clear hb2); (try clear hk); (try clear hi); (try clear ho0); obtain ⟨Ao15, co15, eo15⟩ := Kd.R_slice HO360.out; subst eo15) | (go_at_call 19; (with_reducible refine (demand_May.calls k _ _ t357 true _ ?side1 ?side2 A9.out).mono ?_); (case side1 => repeat (first | exact (Kd.R_reads' HO360.out).2.2 | (with_reducible refine Kd.C_alloc ?_ _) | (with_reducible refine Kd.C_drewN ?_ _) | (with_reducible refine Kd.C_drew ?_))); (case side2 => exact (Kd.R_reads' HO360.out).2.1); rintro e w16 ⟨rfl, hb⟩; have n0_ := Aside0.mk (Kd.R_below (by (with_reducible repeat (first | apply Kd.R_alloc | apply Kd.R_drewN | apply Kd.R_drew)); exact HO360.out) hb); have n1_ := bs HB hb; clear HO360; clear HB; have HO360 := n0_; have HB := n1_; clear n0_ n1_; (try clear hb); (try clear hb2); (try clear hk); (try clear hi)) | (go_at_call 20; (with_reducible refine (demand_Test.calls k _ _ t357 true _ ?side1 ?side2 A11.out).mono ?_); (case side1 => repeat (first | exact (Kd.R_reads' HO360.out).2.2 | (with_reducible refine Kd.C_alloc ?_ _) | (with_reducible refine Kd.C_drewN ?_ _) | (with_reducible refine Kd.C_drew ?_))); (case side2 => exact (Kd.R_reads' HO360.out).2.1); rintro e w17 ⟨rfl, hb⟩; have n0_ := Aside0.mk (Kd.R_below (by (with_reducible repeat (first | apply Kd.R_alloc | apply Kd.R_drewN | apply Kd.R_drew)); exact HO360.out) hb); have n1_ := bs HB hb; clear HO360; clear HB; have HO360 := n0_; have HB := n1_; clear n0_ n1_; (try clear hb); (try clear hb2); (try clear hk); (try clear hi)))
              repeat (go_quiet (first | (go_at_call 10; (with_reducible refine (fuseelaw10_awake.calls k  true _ A2.out).mono ?_); rintro e w13 ⟨rfl, hb⟩; have n0_ := bs HB hb; clear HB; have HB := n0_; clear n0_; (try clear hb); (try clear hb2); (try clear hk); (try clear hi)) | (go_at_call 13; (with_reducible refine (plan_Target.calls k _ _ l0 t357 t358 _ ?side1 ?side2 A6.out).mono ?_); (case side1 => repeat (first | exact (Kd.C_below HR0.out HB.out) | (with_reducible refine Kd.C_alloc ?_ _) | (with_reducible refine Kd.C_drewN ?_ _) | (with_reducible refine Kd.C_drew ?_))); (case side2 => exact HC0.out); rintro e w14 ⟨v359, rfl, ho0, hb⟩; have n0_ := Aside0.mk (Kd.R_lower ho0 (below_size (by repeat (first | (with_reducible first | exact HB.out | apply below_alloc | apply pw_below_drewN | apply below_drew1) | exact HB.out)))); have n1_ := bs HB hb; clear HB; have HO360 := n0_; have HB := n1_; clear n0_ n1_; (try clear hb); (try clear hb2); (try clear hk); (try clear hi); (try clear ho0); obtain ⟨Ao15, co15, eo15⟩ := Kd.R_slice HO360.out; subst eo15) | (go_at_call 19; (with_reducible refine (demand_May.calls k _ _ t357 true _ ?side1 ?side2 A9.out).mono ?_); (case side1 => repeat (first | exact (Kd.R_reads' HO360.out).2.2 | (with_reducible refine Kd.C_alloc ?_ _) | (with_reducible refine Kd.C_drewN ?_ _) | (with_reducible refine Kd.C_drew ?_))); (case side2 => exact (Kd.R_reads' HO360.out).2.1); rintro e w16 ⟨rfl, hb⟩; have n0_ := Aside0.mk (Kd.R_below (by (with_reducible repeat (first | apply Kd.R_alloc | apply Kd.R_drewN | apply Kd.R_drew)); exact HO360.out) hb); have n1_ := bs HB hb; clear HO360; clear HB; have HO360 := n0_; have HB := n1_; clear n0_ n1_; (try clear hb); (try clear hb2); (try clear hk); (try clear hi)) | (go_at_call 20; (with_reducible refine (demand_Test.calls k _ _ t357 true _ ?side1 ?side2 A11.out).mono ?_); (case side1 => repeat (first | exact (Kd.R_reads' HO360.out).2.2 | (with_reducible refine Kd.C_alloc ?_ _) | (with_reducible refine Kd.C_drewN ?_ _) | (with_reducible refine Kd.C_drew ?_))); (case side2 => exact (Kd.R_reads' HO360.out).2.1); rintro e w17 ⟨rfl, hb⟩; have n0_ := Aside0.mk (Kd.R_below (by (with_reducible repeat (first | apply Kd.R_alloc | apply Kd.R_drewN | apply Kd.R_drew)); exact HO360.out) hb); have n1_ := bs HB hb; clear HO360; clear HB; have HO360 := n0_; have HB := n1_; clear n0_ n1_; (try clear hb); (try clear hb2); (try clear hk); (try clear hi))); try go_wp2_with (first | (go_at_call 10; (with_reducible refine (fuseelaw10_awake.calls k  true _ A2.out).mono ?_); rintro e w13 ⟨rfl, hb⟩; have n0_ := bs HB hb; clear HB; have HB := n0_; clear n0_; (try clear hb); (try clear hb2); (try clear hk); (try clear hi)) | (go_at_call 13; (with_reducible refine (plan_Target.calls k _ _ l0 t357 t358 _ ?side1 ?side2 A6.out).mono ?_); (case side1 => repeat (first | exact (Kd.C_below HR0.out HB.out) | (with_reducible refine Kd.C_alloc ?_ _) | (with_reducible refine Kd.C_drewN ?_ _) | (with_reducible refine Kd.C_drew ?_))); (case side2 => exact HC0.out); rintro e w14 ⟨v359, rfl, ho0, hb⟩; have n0_ := Aside0.mk (Kd.R_lower ho0 (below_size (by repeat (first | (with_reducible first | exact HB.out | apply below_alloc | apply pw_below_drewN | apply below_drew1) | exact HB.out)))); have n1_ := bs HB hb; clear HB; have HO360 := n0_; have HB := n1_; clear n0_ n1_; (try clear hb); (try clear hb2); (try clear hk); (try clear hi); (try clear ho0); obtain ⟨Ao15, co15, eo15⟩ := Kd.R_slice HO360.out; subst eo15) | (go_at_call 19; (with_reducible refine (demand_May.calls k _ _ t357 true _ ?side1 ?side2 A9.out).mono ?_); (case side1 => repeat (first | exact (Kd.R_reads' HO360.out).2.2 | (with_reducible refine Kd.C_alloc ?_ _) | (with_reducible refine Kd.C_drewN ?_ _) | (with_reducible refine Kd.C_drew ?_))); (case side2 => exact (Kd.R_reads' HO360.out).2.1); rintro e w16 ⟨rfl, hb⟩; have n0_ := Aside0.mk (Kd.R_below (by (with_reducible repeat (first | apply Kd.R_alloc | apply Kd.R_drewN | apply Kd.R_drew)); exact HO360.out) hb); have n1_ := bs HB hb; clear HO360; clear HB; have HO360 := n0_; have HB := n1_; clear n0_ n1_; (try clear hb); (try clear hb2); (try clear hk); (try clear hi)) | (go_at_call 20; (with_reducible refine (demand_Test.calls k _ _ t357 true _ ?side1 ?side2 A11.out).mono ?_); (case side1 => repeat (first | exact (Kd.R_reads' HO360.out).2.2 | (with_reducible refine Kd.C_alloc ?_ _) | (with_reducible refine Kd.C_drewN ?_ _) | (with_reducible refine Kd.C_drew ?_))); (case side2 => exact (Kd.R_reads' HO360.out).2.1); rintro e w17 ⟨rfl, hb⟩; have n0_ := Aside0.mk (Kd.R_below (by (with_reducible repeat (first | apply Kd.R_alloc | apply Kd.R_drewN | apply Kd.R_drew)); exact HO360.out) hb); have n1_ := bs HB hb; clear HO360; clear HB; have HO360 := n0_; have HB := n1_; clear n0_ n1_; (try clear hb); (try clear hb2); (try clear hk); (try clear hi))))
              go_loopg [6, 7] k (fun kq v6 v7 w' => ∃ (x6_1 : Int) (x7_1 : Int), v6 = .int .i64 x6_1 ∧ v7 = .int .i64 x7_1 ∧ Aside0 (fuseelaw10_PlanFits.l0 kq l0 t357 x6_1 x7_1 = some r) ∧ Aside0 (kq ≤ k) ∧ Aside0 (Kd.R k42 42 w' w.heap.size (fun _ => True) (.slice Ao15 t357.length co15) t357) ∧ Aside0 (Below w.heap.size w w'))
              case atStart => exact ⟨(0), (0), (by first | rfl | (simp; done) | (simp [*]; done)), (by first | rfl | (simp; done) | (simp [*]; done)), H', ⟨Nat.le_refl _⟩, ⟨by (with_reducible repeat (first | apply Kd.R_alloc | apply Kd.R_drewN | apply Kd.R_drew)); exact HO360.out⟩, ⟨by repeat (first | (with_reducible first | exact HB.out | apply below_alloc | apply pw_below_drewN | apply below_drew1) | exact HB.out)⟩⟩
              case round =>
                clear H'
                try clear c1
                try clear p2
                try clear c3
                try clear c4
                try clear c4b0
                try clear c4b1
                try clear c7
                try clear c7b0
                try clear c7b1
                try clear c8
                try clear c8b0
                try clear c8b1
                try clear c8b2
                try clear c10
                try clear c12
                obtain ⟨x6_1, x7_1, rfl, rfl, HA, HK1, HO_4, HB⟩ := hrel
                cases gk with
                | zero => exact absurd HA.out (by simp [fuseelaw10_PlanFits.l0])
                | succ k1 =>
                  have H := HA.out
                  clear HA
                  simp only [fuseelaw10_PlanFits.l0] at H
                  by_cases c18 : x7_1 < (l0.length : Int)
                  · rw [if_pos c18] at H
                    have c18b0 : decide (x7_1 < (l0.length : Int)) = true := decide_eq_true c18
                    clear c18
                    by_cases c19 : 0 ≤ x7_1
                    · rw [if_pos c19] at H
                      have c19b0 : decide (0 ≤ x7_1) = true := decide_eq_true c19
                      clear c19
                      replace H := Option.bind_eq_some_iff.mp H
                      obtain ⟨t364, A200, H⟩ := H
                      try dsimp only at H
                      have A20 := Aside0.mk A200
                      clear A200
                      by_cases c21 : x7_1 < (t357.length : Int)
                      · rw [if_pos c21] at H
                        have c21b0 : decide (x7_1 < (t357.length : Int)) = true := decide_eq_true c21
                        clear c21
                        by_cases c22 : (!(((rd_T42 t357 x7_1).f0.f0) == ((rd_T40 l0 x7_1).f0)) || (!(((rd_T42 t357 x7_1).f0.f1) == ((rd_T40 l0 x7_1).f1)) || (!(((rd_T42 t357 x7_1).f0.f2) == ((rd_T40 l0 x7_1).f2)) || (!(((rd_T42 t357 x7_1).f0.f3) == ((rd_T40 l0 x7_1).f3)) || (!(((rd_T42 t357 x7_1).f0.f4) == ((rd_T40 l0 x7_1).f4)) || (!(((rd_T42 t357 x7_1).f0.f5) == ((rd_T40 l0 x7_1).f5)))))))) = true
                        · rw [if_pos c22] at H
                          exact absurd H (by simp)
                        · rw [if_neg c22] at H
                          have c22b0 : (!(((rd_T42 t357 x7_1).f0.f0) == ((rd_T40 l0 x7_1).f0)) || (!(((rd_T42 t357 x7_1).f0.f1) == ((rd_T40 l0 x7_1).f1)) || (!(((rd_T42 t357 x7_1).f0.f2) == ((rd_T40 l0 x7_1).f2)) || (!(((rd_T42 t357 x7_1).f0.f3) == ((rd_T40 l0 x7_1).f3)) || (!(((rd_T42 t357 x7_1).f0.f4) == ((rd_T40 l0 x7_1).f4)) || (!(((rd_T42 t357 x7_1).f0.f5) == ((rd_T40 l0 x7_1).f5)))))))) = false := by simpa using c22
                          clear c22
                          by_cases c23 : ((rd_T42 t357 x7_1).f1) < ((rd_T40 l0 x7_1).f1)
                          · rw [if_pos c23] at H
                            exact absurd H (by simp)
                          · rw [if_neg c23] at H
                            have c23b0 : decide (((rd_T42 t357 x7_1).f1) < ((rd_T40 l0 x7_1).f1)) = false := decide_eq_false c23
                            clear c23
                            by_cases c24 : ((rd_T42 t357 x7_1).f1) > ((rd_T40 l0 x7_1).f2)
                            · rw [if_pos c24] at H
                              exact absurd H (by simp)
                            · rw [if_neg c24] at H
                              have c24b0 : decide (((rd_T40 l0 x7_1).f2) < ((rd_T42 t357 x7_1).f1)) = false := decide_eq_false c24
                              clear c24
                              have H' := Aside0.mk H
                              clear H
                              have p363 : 0 ≤ (x7_1 : Int) := of_decide_eq_true (by first | (with_reducible assumption) | assumption)
                              have q363 : x7_1 < (l0.length : Int) := of_decide_eq_true (by first | (with_reducible assumption) | assumption)
                              obtain ⟨ad363, e363, hx363_0, hx363_1, hx363_2, hx363_3, hx363_4, hx363_5⟩ := at_T40 HR0.out x7_1 p363 q363
                              cases e363
                              replace hx363_0 := (HB.out.cell (World.block_lt_of_cell? w _ hx363_0)).trans hx363_0
                              replace hx363_1 := (HB.out.cell (World.block_lt_of_cell? w _ hx363_1)).trans hx363_1
                              replace hx363_2 := (HB.out.cell (World.block_lt_of_cell? w _ hx363_2)).trans hx363_2
                              replace hx363_3 := (HB.out.cell (World.block_lt_of_cell? w _ hx363_3)).trans hx363_3
                              replace hx363_4 := (HB.out.cell (World.block_lt_of_cell? w _ hx363_4)).trans hx363_4
                              replace hx363_5 := (HB.out.cell (World.block_lt_of_cell? w _ hx363_5)).trans hx363_5
                              replace p363 := eq_true p363
                              replace q363 := eq_true q363
                              go_wp2_with (first | (go_at_call 21; (with_reducible refine (units_Top.calls ((rd_T40 l0 x7_1).f0) ((rd_T40 l0 x7_1).f1) ((rd_T40 l0 x7_1).f2) ((rd_T40 l0 x7_1).f3) ((rd_T40 l0 x7_1).f4) ((rd_T40 l0 x7_1).f5) t364 _ A20.out).mono ?_); rintro e w25 ⟨rfl, hb⟩; have n0_ := Aside0.mk (Kd.R_below (by (with_reducible repeat (first | apply Kd.R_alloc | apply Kd.R_drewN | apply Kd.R_drew)); exact HO_4.out) hb); have n1_ := bs HB hb; clear HO_4; clear HB; have HO_4 := n0_; have HB := n1_; clear n0_ n1_; (try clear hb); (try clear hb2); (try clear hk); (try clear hi); have p365 : 0 ≤ (x7_1 : Int) := of_decide_eq_true (by first | (with_reducible assumption) | assumption); have q365 : x7_1 < (t357.length : Int) := of_decide_eq_true (by first | (with_reducible assumption) | assumption); obtain ⟨ad365, e365, hx365_0, hx365_1, hx365_2, hx365_3, hx365_4, hx365_5, hx365_6⟩ := at_T42 (Kd.R_reads' HO_4.out).2.2 x7_1 p365 q365; cases e365; replace p365 := eq_true p365; replace q365 := eq_true q365; have p366 : 0 ≤ (x7_1 : Int) := of_decide_eq_true (by first | (with_reducible assumption) | assumption); have q366 : x7_1 < (l0.length : Int) := of_decide_eq_true (by first | (with_reducible assumption) | assumption); obtain ⟨ad366, e366, hx366_0, hx366_1, hx366_2, hx366_3, hx366_4, hx366_5⟩ := at_T40 HR0.out x7_1 p366 q366; obtain rfl : ad363 = ad366 := (by injection e366); replace hx366_0 := (HB.out.cell (World.block_lt_of_cell? w _ hx366_0)).trans hx366_0; replace hx366_1 := (HB.out.cell (World.block_lt_of_cell? w _ hx366_1)).trans hx366_1; replace hx366_2 := (HB.out.cell (World.block_lt_of_cell? w _ hx366_2)).trans hx366_2; replace hx366_3 := (HB.out.cell (World.block_lt_of_cell? w _ hx366_3)).trans hx366_3; replace hx366_4 := (HB.out.cell (World.block_lt_of_cell? w _ hx366_4)).trans hx366_4; replace hx366_5 := (HB.out.cell (World.block_lt_of_cell? w _ hx366_5)).trans hx366_5; replace p366 := eq_true p366; replace q366 := eq_true q366; have p367 : 0 ≤ (x7_1 : Int) := of_decide_eq_true (by first | (with_reducible assumption) | assumption); have q367 : x7_1 < (t357.length : Int) := of_decide_eq_true (by first | (with_reducible assumption) | assumption); obtain ⟨ad367, e367, hx367_0, hx367_1, hx367_2, hx367_3, hx367_4, hx367_5, hx367_6⟩ := at_T42 (Kd.R_reads' HO_4.out).2.2 x7_1 p367 q367; obtain rfl : ad365 = ad367 := (by injection e367); replace p367 := eq_true p367; replace q367 := eq_true q367; have p368 : 0 ≤ (x7_1 : Int) := of_decide_eq_true (by first | (with_reducible assumption) | assumption); have q368 : x7_1 < (l0.length : Int) := of_decide_eq_true (by first | (with_reducible assumption) | assumption); obtain ⟨ad368, e368, hx368_0, hx368_1, hx368_2, hx368_3, hx368_4, hx368_5⟩ := at_T40 HR0.out x7_1 p368 q368; obtain rfl : ad363 = ad368 := (by injection e368); replace hx368_0 := (HB.out.cell (World.block_lt_of_cell? w _ hx368_0)).trans hx368_0; replace hx368_1 := (HB.out.cell (World.block_lt_of_cell? w _ hx368_1)).trans hx368_1; replace hx368_2 := (HB.out.cell (World.block_lt_of_cell? w _ hx368_2)).trans hx368_2; replace hx368_3 := (HB.out.cell (World.block_lt_of_cell? w _ hx368_3)).trans hx368_3; replace hx368_4 := (HB.out.cell (World.block_lt_of_cell? w _ hx368_4)).trans hx368_4; replace hx368_5 := (HB.out.cell (World.block_lt_of_cell? w _ hx368_5)).trans hx368_5; replace p368 := eq_true p368; replace q368 := eq_true q368; have p369 : 0 ≤ (x7_1 : Int) := of_decide_eq_true (by first | (with_reducible assumption) | assumption); have q369 : x7_1 < (t357.length : Int) := of_decide_eq_true (by first | (with_reducible assumption) | assumption); obtain ⟨ad369, e369, hx369_0, hx369_1, hx369_2, hx369_3, hx369_4, hx369_5, hx369_6⟩ := at_T42 (Kd.R_reads' HO_4.out).2.2 x7_1 p369 q369; obtain rfl : ad365 = ad369 := (by injection e369); replace p369 := eq_true p369; replace q369 := eq_true q369; have p370 : 0 ≤ (x7_1 : Int) := of_decide_eq_true (by first | (with_reducible assumption) | assumption); have q370 : x7_1 < (l0.length : Int) := of_decide_eq_true (by first | (with_reducible assumption) | assumption); obtain ⟨ad370, e370, hx370_0, hx370_1, hx370_2, hx370_3, hx370_4, hx370_5⟩ := at_T40 HR0.out x7_1 p370 q370; obtain rfl : ad363 = ad370 := (by injection e370); replace hx370_0 := (HB.out.cell (World.block_lt_of_cell? w _ hx370_0)).trans hx370_0; replace hx370_1 := (HB.out.cell (World.block_lt_of_cell? w _ hx370_1)).trans hx370_1; replace hx370_2 := (HB.out.cell (World.block_lt_of_cell? w _ hx370_2)).trans hx370_2; replace hx370_3 := (HB.out.cell (World.block_lt_of_cell? w _ hx370_3)).trans hx370_3; replace hx370_4 := (HB.out.cell (World.block_lt_of_cell? w _ hx370_4)).trans hx370_4; replace hx370_5 := (HB.out.cell (World.block_lt_of_cell? w _ hx370_5)).trans hx370_5; replace p370 := eq_true p370; replace q370 := eq_true q370))
                              repeat (go_quiet (first | (go_at_call 21; (with_reducible refine (units_Top.calls ((rd_T40 l0 x7_1).f0) ((rd_T40 l0 x7_1).f1) ((rd_T40 l0 x7_1).f2) ((rd_T40 l0 x7_1).f3) ((rd_T40 l0 x7_1).f4) ((rd_T40 l0 x7_1).f5) t364 _ A20.out).mono ?_); rintro e w25 ⟨rfl, hb⟩; have n0_ := Aside0.mk (Kd.R_below (by (with_reducible repeat (first | apply Kd.R_alloc | apply Kd.R_drewN | apply Kd.R_drew)); exact HO_4.out) hb); have n1_ := bs HB hb; clear HO_4; clear HB; have HO_4 := n0_; have HB := n1_; clear n0_ n1_; (try clear hb); (try clear hb2); (try clear hk); (try clear hi); have p365 : 0 ≤ (x7_1 : Int) := of_decide_eq_true (by first | (with_reducible assumption) | assumption); have q365 : x7_1 < (t357.length : Int) := of_decide_eq_true (by first | (with_reducible assumption) | assumption); obtain ⟨ad365, e365, hx365_0, hx365_1, hx365_2, hx365_3, hx365_4, hx365_5, hx365_6⟩ := at_T42 (Kd.R_reads' HO_4.out).2.2 x7_1 p365 q365; cases e365; replace p365 := eq_true p365; replace q365 := eq_true q365; have p366 : 0 ≤ (x7_1 : Int) := of_decide_eq_true (by first | (with_reducible assumption) | assumption); have q366 : x7_1 < (l0.length : Int) := of_decide_eq_true (by first | (with_reducible assumption) | assumption); obtain ⟨ad366, e366, hx366_0, hx366_1, hx366_2, hx366_3, hx366_4, hx366_5⟩ := at_T40 HR0.out x7_1 p366 q366; obtain rfl : ad363 = ad366 := (by injection e366); replace hx366_0 := (HB.out.cell (World.block_lt_of_cell? w _ hx366_0)).trans hx366_0; replace hx366_1 := (HB.out.cell (World.block_lt_of_cell? w _ hx366_1)).trans hx366_1; replace hx366_2 := (HB.out.cell (World.block_lt_of_cell? w _ hx366_2)).trans hx366_2; replace hx366_3 := (HB.out.cell (World.block_lt_of_cell? w _ hx366_3)).trans hx366_3; replace hx366_4 := (HB.out.cell (World.block_lt_of_cell? w _ hx366_4)).trans hx366_4; replace hx366_5 := (HB.out.cell (World.block_lt_of_cell? w _ hx366_5)).trans hx366_5; replace p366 := eq_true p366; replace q366 := eq_true q366; have p367 : 0 ≤ (x7_1 : Int) := of_decide_eq_true (by first | (with_reducible assumption) | assumption); have q367 : x7_1 < (t357.length : Int) := of_decide_eq_true (by first | (with_reducible assumption) | assumption); obtain ⟨ad367, e367, hx367_0, hx367_1, hx367_2, hx367_3, hx367_4, hx367_5, hx367_6⟩ := at_T42 (Kd.R_reads' HO_4.out).2.2 x7_1 p367 q367; obtain rfl : ad365 = ad367 := (by injection e367); replace p367 := eq_true p367; replace q367 := eq_true q367; have p368 : 0 ≤ (x7_1 : Int) := of_decide_eq_true (by first | (with_reducible assumption) | assumption); have q368 : x7_1 < (l0.length : Int) := of_decide_eq_true (by first | (with_reducible assumption) | assumption); obtain ⟨ad368, e368, hx368_0, hx368_1, hx368_2, hx368_3, hx368_4, hx368_5⟩ := at_T40 HR0.out x7_1 p368 q368; obtain rfl : ad363 = ad368 := (by injection e368); replace hx368_0 := (HB.out.cell (World.block_lt_of_cell? w _ hx368_0)).trans hx368_0; replace hx368_1 := (HB.out.cell (World.block_lt_of_cell? w _ hx368_1)).trans hx368_1; replace hx368_2 := (HB.out.cell (World.block_lt_of_cell? w _ hx368_2)).trans hx368_2; replace hx368_3 := (HB.out.cell (World.block_lt_of_cell? w _ hx368_3)).trans hx368_3; replace hx368_4 := (HB.out.cell (World.block_lt_of_cell? w _ hx368_4)).trans hx368_4; replace hx368_5 := (HB.out.cell (World.block_lt_of_cell? w _ hx368_5)).trans hx368_5; replace p368 := eq_true p368; replace q368 := eq_true q368; have p369 : 0 ≤ (x7_1 : Int) := of_decide_eq_true (by first | (with_reducible assumption) | assumption); have q369 : x7_1 < (t357.length : Int) := of_decide_eq_true (by first | (with_reducible assumption) | assumption); obtain ⟨ad369, e369, hx369_0, hx369_1, hx369_2, hx369_3, hx369_4, hx369_5, hx369_6⟩ := at_T42 (Kd.R_reads' HO_4.out).2.2 x7_1 p369 q369; obtain rfl : ad365 = ad369 := (by injection e369); replace p369 := eq_true p369; replace q369 := eq_true q369; have p370 : 0 ≤ (x7_1 : Int) := of_decide_eq_true (by first | (with_reducible assumption) | assumption); have q370 : x7_1 < (l0.length : Int) := of_decide_eq_true (by first | (with_reducible assumption) | assumption); obtain ⟨ad370, e370, hx370_0, hx370_1, hx370_2, hx370_3, hx370_4, hx370_5⟩ := at_T40 HR0.out x7_1 p370 q370; obtain rfl : ad363 = ad370 := (by injection e370); replace hx370_0 := (HB.out.cell (World.block_lt_of_cell? w _ hx370_0)).trans hx370_0; replace hx370_1 := (HB.out.cell (World.block_lt_of_cell? w _ hx370_1)).trans hx370_1; replace hx370_2 := (HB.out.cell (World.block_lt_of_cell? w _ hx370_2)).trans hx370_2; replace hx370_3 := (HB.out.cell (World.block_lt_of_cell? w _ hx370_3)).trans hx370_3; replace hx370_4 := (HB.out.cell (World.block_lt_of_cell? w _ hx370_4)).trans hx370_4; replace hx370_5 := (HB.out.cell (World.block_lt_of_cell? w _ hx370_5)).trans hx370_5; replace p370 := eq_true p370; replace q370 := eq_true q370)); try go_wp2_with (first | (go_at_call 21; (with_reducible refine (units_Top.calls ((rd_T40 l0 x7_1).f0) ((rd_T40 l0 x7_1).f1) ((rd_T40 l0 x7_1).f2) ((rd_T40 l0 x7_1).f3) ((rd_T40 l0 x7_1).f4) ((rd_T40 l0 x7_1).f5) t364 _ A20.out).mono ?_); rintro e w25 ⟨rfl, hb⟩; have n0_ := Aside0.mk (Kd.R_below (by (with_reducible repeat (first | apply Kd.R_alloc | apply Kd.R_drewN | apply Kd.R_drew)); exact HO_4.out) hb); have n1_ := bs HB hb; clear HO_4; clear HB; have HO_4 := n0_; have HB := n1_; clear n0_ n1_; (try clear hb); (try clear hb2); (try clear hk); (try clear hi); have p365 : 0 ≤ (x7_1 : Int) := of_decide_eq_true (by first | (with_reducible assumption) | assumption); have q365 : x7_1 < (t357.length : Int) := of_decide_eq_true (by first | (with_reducible assumption) | assumption); obtain ⟨ad365, e365, hx365_0, hx365_1, hx365_2, hx365_3, hx365_4, hx365_5, hx365_6⟩ := at_T42 (Kd.R_reads' HO_4.out).2.2 x7_1 p365 q365; cases e365; replace p365 := eq_true p365; replace q365 := eq_true q365; have p366 : 0 ≤ (x7_1 : Int) := of_decide_eq_true (by first | (with_reducible assumption) | assumption); have q366 : x7_1 < (l0.length : Int) := of_decide_eq_true (by first | (with_reducible assumption) | assumption); obtain ⟨ad366, e366, hx366_0, hx366_1, hx366_2, hx366_3, hx366_4, hx366_5⟩ := at_T40 HR0.out x7_1 p366 q366; obtain rfl : ad363 = ad366 := (by injection e366); replace hx366_0 := (HB.out.cell (World.block_lt_of_cell? w _ hx366_0)).trans hx366_0; replace hx366_1 := (HB.out.cell (World.block_lt_of_cell? w _ hx366_1)).trans hx366_1; replace hx366_2 := (HB.out.cell (World.block_lt_of_cell? w _ hx366_2)).trans hx366_2; replace hx366_3 := (HB.out.cell (World.block_lt_of_cell? w _ hx366_3)).trans hx366_3; replace hx366_4 := (HB.out.cell (World.block_lt_of_cell? w _ hx366_4)).trans hx366_4; replace hx366_5 := (HB.out.cell (World.block_lt_of_cell? w _ hx366_5)).trans hx366_5; replace p366 := eq_true p366; replace q366 := eq_true q366; have p367 : 0 ≤ (x7_1 : Int) := of_decide_eq_true (by first | (with_reducible assumption) | assumption); have q367 : x7_1 < (t357.length : Int) := of_decide_eq_true (by first | (with_reducible assumption) | assumption); obtain ⟨ad367, e367, hx367_0, hx367_1, hx367_2, hx367_3, hx367_4, hx367_5, hx367_6⟩ := at_T42 (Kd.R_reads' HO_4.out).2.2 x7_1 p367 q367; obtain rfl : ad365 = ad367 := (by injection e367); replace p367 := eq_true p367; replace q367 := eq_true q367; have p368 : 0 ≤ (x7_1 : Int) := of_decide_eq_true (by first | (with_reducible assumption) | assumption); have q368 : x7_1 < (l0.length : Int) := of_decide_eq_true (by first | (with_reducible assumption) | assumption); obtain ⟨ad368, e368, hx368_0, hx368_1, hx368_2, hx368_3, hx368_4, hx368_5⟩ := at_T40 HR0.out x7_1 p368 q368; obtain rfl : ad363 = ad368 := (by injection e368); replace hx368_0 := (HB.out.cell (World.block_lt_of_cell? w _ hx368_0)).trans hx368_0; replace hx368_1 := (HB.out.cell (World.block_lt_of_cell? w _ hx368_1)).trans hx368_1; replace hx368_2 := (HB.out.cell (World.block_lt_of_cell? w _ hx368_2)).trans hx368_2; replace hx368_3 := (HB.out.cell (World.block_lt_of_cell? w _ hx368_3)).trans hx368_3; replace hx368_4 := (HB.out.cell (World.block_lt_of_cell? w _ hx368_4)).trans hx368_4; replace hx368_5 := (HB.out.cell (World.block_lt_of_cell? w _ hx368_5)).trans hx368_5; replace p368 := eq_true p368; replace q368 := eq_true q368; have p369 : 0 ≤ (x7_1 : Int) := of_decide_eq_true (by first | (with_reducible assumption) | assumption); have q369 : x7_1 < (t357.length : Int) := of_decide_eq_true (by first | (with_reducible assumption) | assumption); obtain ⟨ad369, e369, hx369_0, hx369_1, hx369_2, hx369_3, hx369_4, hx369_5, hx369_6⟩ := at_T42 (Kd.R_reads' HO_4.out).2.2 x7_1 p369 q369; obtain rfl : ad365 = ad369 := (by injection e369); replace p369 := eq_true p369; replace q369 := eq_true q369; have p370 : 0 ≤ (x7_1 : Int) := of_decide_eq_true (by first | (with_reducible assumption) | assumption); have q370 : x7_1 < (l0.length : Int) := of_decide_eq_true (by first | (with_reducible assumption) | assumption); obtain ⟨ad370, e370, hx370_0, hx370_1, hx370_2, hx370_3, hx370_4, hx370_5⟩ := at_T40 HR0.out x7_1 p370 q370; obtain rfl : ad363 = ad370 := (by injection e370); replace hx370_0 := (HB.out.cell (World.block_lt_of_cell? w _ hx370_0)).trans hx370_0; replace hx370_1 := (HB.out.cell (World.block_lt_of_cell? w _ hx370_1)).trans hx370_1; replace hx370_2 := (HB.out.cell (World.block_lt_of_cell? w _ hx370_2)).trans hx370_2; replace hx370_3 := (HB.out.cell (World.block_lt_of_cell? w _ hx370_3)).trans hx370_3; replace hx370_4 := (HB.out.cell (World.block_lt_of_cell? w _ hx370_4)).trans hx370_4; replace hx370_5 := (HB.out.cell (World.block_lt_of_cell? w _ hx370_5)).trans hx370_5; replace p370 := eq_true p370; replace q370 := eq_true q370)))
                              go_roundg k1
                              case measure => have := HK1.out; omega
                              case rel => exact ⟨(wrap64 (x6_1 + t364)), (wrap64 (x7_1 + 1)), (by first | rfl | (simp; done) | (simp [*]; done)), (by first | rfl | (simp; done) | (simp [*]; done)), H', ⟨by have := HK1.out; omega⟩, ⟨by (with_reducible repeat (first | apply Kd.R_alloc | apply Kd.R_drewN | apply Kd.R_drew)); exact HO_4.out⟩, ⟨by repeat (first | (with_reducible first | exact HB.out | apply below_alloc | apply pw_below_drewN | apply below_drew1) | exact HB.out)⟩⟩
                      · rw [if_neg c21] at H
                        exact absurd H (by simp)
                    · rw [if_neg c19] at H
                      exact absurd H (by simp)
                  · rw [if_neg c18] at H
                    have c18b0 : decide (x7_1 < (l0.length : Int)) = false := decide_eq_false c18
                    clear c18
                    have H' := Aside0.mk H
                    clear H
                    go_wp2
                    repeat (go_quiet (fail); try go_wp2)
                    go_loopg [8] k1 (fun kq v8 w' => ∃ (x8_2 : Int), v8 = .int .i64 x8_2 ∧ Aside0 (fuseelaw10_PlanFits.l1 kq l0 t357 x6_1 x8_2 = some r) ∧ Aside0 (kq ≤ k1) ∧ Aside0 (Kd.R k42 42 w' w.heap.size (fun _ => True) (.slice Ao15 t357.length co15) t357) ∧ Aside0 (Below w.heap.size w w'))
                    case atStart => exact ⟨(0), (by first | rfl | (simp; done) | (simp [*]; done)), H', ⟨Nat.le_refl _⟩, ⟨by (with_reducible repeat (first | apply Kd.R_alloc | apply Kd.R_drewN | apply Kd.R_drew)); exact HO_4.out⟩, ⟨by repeat (first | (with_reducible first | exact HB.out | apply below_alloc | apply pw_below_drewN | apply below_drew1) | exact HB.out)⟩⟩
                    case round =>
                      clear H'
                      try clear c1
                      try clear c2
                      try clear p2
                      try clear c3
                      try clear p3
                      try clear q3
                      try clear hx3
                      try clear c4
                      try clear c4b0
                      try clear c4b1
                      try clear p6
                      try clear c7
                      try clear c7b0
                      try clear c7b1
                      try clear c8
                      try clear c8b0
                      try clear c8b1
                      try clear c8b2
                      try clear c10
                      try clear c12
                      try clear c18
                      try clear c18b0
                      try clear c19
                      try clear c19b0
                      try clear c21
                      try clear c21b0
                      try clear c22
                      try clear c22b0
                      try clear c23
                      try clear c23b0
                      try clear c24
                      try clear c24b0
                      try clear hx363_0
                      try clear hx363_1
                      try clear hx363_2
                      try clear hx363_3
                      try clear hx363_4
                      try clear hx363_5
                      try clear hx365_0
                      try clear hx365_1
                      try clear hx365_2
                      try clear hx365_3
                      try clear hx365_4
                      try clear hx365_5
                      try clear hx365_6
                      try clear hx366_0
                      try clear hx366_1
                      try clear hx366_2
                      try clear hx366_3
                      try clear hx366_4
                      try clear hx366_5
                      try clear hx367_0
                      try clear hx367_1
                      try clear hx367_2
                      try clear hx367_3
                      try clear hx367_4
                      try clear hx367_5
                      try clear hx367_6
                      try clear hx368_0
                      try clear hx368_1
                      try clear hx368_2
                      try clear hx368_3
                      try clear hx368_4
                      try clear hx368_5
                      try clear hx369_0
                      try clear hx369_1
                      try clear hx369_2
                      try clear hx369_3
                      try clear hx369_4
                      try clear hx369_5
                      try clear hx369_6
                      try clear hx370_0
                      try clear hx370_1
                      try clear hx370_2
                      try clear hx370_3
                      try clear hx370_4
                      try clear hx370_5
                      try clear p2
                      try clear p363
                      try clear p365
                      try clear p366
                      try clear p367
                      try clear p368
                      try clear p369
                      try clear p370
                      try clear q363
                      try clear q365
                      try clear q366
                      try clear q367
                      try clear q368
                      try clear q369
                      try clear q370
                      obtain ⟨x8_2, rfl, HA, HK2, HO_4, HB⟩ := hrel
                      cases gk with
                      | zero => exact absurd HA.out (by simp [fuseelaw10_PlanFits.l1])
                      | succ k2 =>
                        have H := HA.out
                        clear HA
                        simp only [fuseelaw10_PlanFits.l1] at H
                        by_cases c26 : x8_2 < (l0.length : Int)
                        · rw [if_pos c26] at H
                          have c26b0 : decide (x8_2 < (l0.length : Int)) = true := decide_eq_true c26
                          clear c26
                          by_cases c27 : x6_1 ≤ 983040
                          · rw [if_pos c27] at H
                            have c27b0 : decide (x6_1 ≤ 983040) = true := decide_eq_true c27
                            clear c27
                            by_cases c28 : 0 ≤ x8_2
                            · rw [if_pos c28] at H
                              have c28b0 : decide (0 ≤ x8_2) = true := decide_eq_true c28
                              clear c28
                              by_cases c29 : x8_2 < (t357.length : Int)
                              · rw [if_pos c29] at H
                                have c29b0 : decide (x8_2 < (t357.length : Int)) = true := decide_eq_true c29
                                clear c29
                                by_cases c30 : ((rd_T42 t357 x8_2).f1) = ((rd_T40 l0 x8_2).f1)
                                · rw [if_pos c30] at H
                                  have c30b0 : (((rd_T42 t357 x8_2).f1) == ((rd_T40 l0 x8_2).f1)) = true := beq_iff_eq.mpr c30
                                  have c30b1 : (((rd_T42 t357 x8_2).f1) != ((rd_T40 l0 x8_2).f1)) = false := bne_eq_false_iff_eq.mpr c30
                                  clear c30
                                  have H' := Aside0.mk H
                                  clear H
                                  have p371 : 0 ≤ (x8_2 : Int) := of_decide_eq_true (by first | (with_reducible assumption) | assumption)
                                  have q371 : x8_2 < (t357.length : Int) := of_decide_eq_true (by first | (with_reducible assumption) | assumption)
                                  obtain ⟨ad371, e371, hx371_0, hx371_1, hx371_2, hx371_3, hx371_4, hx371_5, hx371_6⟩ := at_T42 (Kd.R_reads' HO_4.out).2.2 x8_2 p371 q371
                                  cases e371
                                  replace p371 := eq_true p371
                                  replace q371 := eq_true q371
                                  have p372 : 0 ≤ (x8_2 : Int) := of_decide_eq_true (by first | (with_reducible assumption) | assumption)
                                  have q372 : x8_2 < (l0.length : Int) := of_decide_eq_true (by first | (with_reducible assumption) | assumption)
                                  obtain ⟨ad372, e372, hx372_0, hx372_1, hx372_2, hx372_3, hx372_4, hx372_5⟩ := at_T40 HR0.out x8_2 p372 q372
                                  cases e372
                                  replace hx372_0 := (HB.out.cell (World.block_lt_of_cell? w _ hx372_0)).trans hx372_0
                                  replace hx372_1 := (HB.out.cell (World.block_lt_of_cell? w _ hx372_1)).trans hx372_1
                                  replace hx372_2 := (HB.out.cell (World.block_lt_of_cell? w _ hx372_2)).trans hx372_2
                                  replace hx372_3 := (HB.out.cell (World.block_lt_of_cell? w _ hx372_3)).trans hx372_3
                                  replace hx372_4 := (HB.out.cell (World.block_lt_of_cell? w _ hx372_4)).trans hx372_4
                                  replace hx372_5 := (HB.out.cell (World.block_lt_of_cell? w _ hx372_5)).trans hx372_5
                                  replace p372 := eq_true p372
                                  replace q372 := eq_true q372
                                  go_wp2
                                  repeat (go_quiet (fail); try go_wp2)
                                  go_roundg k2
                                  case measure => have := HK1.out; have := HK2.out; omega
                                  case rel => exact ⟨(wrap64 (x8_2 + 1)), (by first | rfl | (simp; done) | (simp [*]; done)), H', ⟨by have := HK1.out; have := HK2.out; omega⟩, ⟨by (with_reducible repeat (first | apply Kd.R_alloc | apply Kd.R_drewN | apply Kd.R_drew)); exact HO_4.out⟩, ⟨by repeat (first | (with_reducible first | exact HB.out | apply below_alloc | apply pw_below_drewN | apply below_drew1) | exact HB.out)⟩⟩
                                · rw [if_neg c30] at H
                                  exact absurd H (by simp)
                              · rw [if_neg c29] at H
                                exact absurd H (by simp)
                            · rw [if_neg c28] at H
                              exact absurd H (by simp)
                          · rw [if_neg c27] at H
                            have c27b0 : decide (x6_1 ≤ 983040) = false := decide_eq_false c27
                            clear c27
                            obtain rfl := Option.some.inj H
                            go_wp2
                            repeat (go_quiet (fail); try go_wp2)
                            go_ret
                            exact ⟨by first | rfl | (simp [errW_none, errW_some] <;> rfl) | (simp [*, errW_none, errW_some] <;> rfl) | (exfalso; first | contradiction | (revert c7b0 c8b0; simp +contextual; done)), by repeat (first | (with_reducible first | exact HB.out | apply below_alloc | apply pw_below_drewN | apply below_drew1) | exact HB.out)⟩
                        · rw [if_neg c26] at H
                          have c26b0 : decide (x8_2 < (l0.length : Int)) = false := decide_eq_false c26
                          clear c26
                          obtain rfl := Option.some.inj H
                          go_wp2
                          repeat (go_quiet (fail); try go_wp2)
                          go_ret
                          exact ⟨by first | rfl | (simp [errW_none, errW_some] <;> rfl) | (simp [*, errW_none, errW_some] <;> rfl) | (exfalso; first | contradiction | (revert c7b0 c8b0; simp +contextual; done)), by repeat (first | (with_reducible first | exact HB.out | apply below_alloc | apply pw_below_drewN | apply below_drew1) | exact HB.out)⟩
            · replace c12 := Bool.eq_false_iff.mpr c12
              subst c12
              rw [if_neg (show ¬ (false = true) by decide)] at H
              exact absurd H (by simp)
          · replace c10 := Bool.eq_false_iff.mpr c10
            subst c10
            rw [if_neg (show ¬ (false = true) by decide)] at H
            exact absurd H (by simp)
        · rw [if_neg c8] at H
          exact absurd H (by simp)
      · rw [if_neg c7] at H
        have c7b0 : (t358 == 0) = false := beq_eq_false_iff_ne.mpr c7
        have c7b1 : (t358 != 0) = true := bne_iff_ne.mpr c7
        by_cases c31 : (t357.length : Int) = 0
        · rw [if_pos c31] at H
          have c31b0 : ((t357.length : Int) == 0) = true := beq_iff_eq.mpr c31
          have c31b1 : ((t357.length : Int) != 0) = false := bne_eq_false_iff_eq.mpr c31
          clear c31
          obtain rfl := Option.some.inj H
          go_enter Try.func4, Try.ntmps4
          go_wp2_with (first | (go_at_call 10; (with_reducible refine (fuseelaw10_awake.calls k  true _ A2.out).mono ?_); rintro e w32 ⟨rfl, hb⟩; have n0_ := bs HB hb; clear HB; have HB := n0_; clear n0_; (try clear hb); (try clear hb2); (try clear hk); (try clear hi)) | (go_at_call 13; (with_reducible refine (plan_Target.calls k _ _ l0 t357 t358 _ ?side1 ?side2 A6.out).mono ?_); (case side1 => repeat (first | exact (Kd.C_below HR0.out HB.out) | (with_reducible refine Kd.C_alloc ?_ _) | (with_reducible refine Kd.C_drewN ?_ _) | (with_reducible refine Kd.C_drew ?_))); (case side2 => exact HC0.out); rintro e w33 ⟨v359, rfl, ho0, hb⟩; have n0_ := Aside0.mk (Kd.R_lower ho0 (below_size (by repeat (first | (with_reducible first | exact HB.out | apply below_alloc | apply pw_below_drewN | apply below_drew1) | exact HB.out)))); have n1_ := bs HB hb; clear HB; have HO360 := n0_; have HB := n1_; clear n0_ n1_; (try clear hb); (try clear hb2); (try clear hk); (try clear hi); (try clear ho0); obtain ⟨Ao34, co34, eo34⟩ := Kd.R_slice HO360.out; subst eo34))
          repeat (go_quiet (first | (go_at_call 10; (with_reducible refine (fuseelaw10_awake.calls k  true _ A2.out).mono ?_); rintro e w32 ⟨rfl, hb⟩; have n0_ := bs HB hb; clear HB; have HB := n0_; clear n0_; (try clear hb); (try clear hb2); (try clear hk); (try clear hi)) | (go_at_call 13; (with_reducible refine (plan_Target.calls k _ _ l0 t357 t358 _ ?side1 ?side2 A6.out).mono ?_); (case side1 => repeat (first | exact (Kd.C_below HR0.out HB.out) | (with_reducible refine Kd.C_alloc ?_ _) | (with_reducible refine Kd.C_drewN ?_ _) | (with_reducible refine Kd.C_drew ?_))); (case side2 => exact HC0.out); rintro e w33 ⟨v359, rfl, ho0, hb⟩; have n0_ := Aside0.mk (Kd.R_lower ho0 (below_size (by repeat (first | (with_reducible first | exact HB.out | apply below_alloc | apply pw_below_drewN | apply below_drew1) | exact HB.out)))); have n1_ := bs HB hb; clear HB; have HO360 := n0_; have HB := n1_; clear n0_ n1_; (try clear hb); (try clear hb2); (try clear hk); (try clear hi); (try clear ho0); obtain ⟨Ao34, co34, eo34⟩ := Kd.R_slice HO360.out; subst eo34)); try go_wp2_with (first | (go_at_call 10; (with_reducible refine (fuseelaw10_awake.calls k  true _ A2.out).mono ?_); rintro e w32 ⟨rfl, hb⟩; have n0_ := bs HB hb; clear HB; have HB := n0_; clear n0_; (try clear hb); (try clear hb2); (try clear hk); (try clear hi)) | (go_at_call 13; (with_reducible refine (plan_Target.calls k _ _ l0 t357 t358 _ ?side1 ?side2 A6.out).mono ?_); (case side1 => repeat (first | exact (Kd.C_below HR0.out HB.out) | (with_reducible refine Kd.C_alloc ?_ _) | (with_reducible refine Kd.C_drewN ?_ _) | (with_reducible refine Kd.C_drew ?_))); (case side2 => exact HC0.out); rintro e w33 ⟨v359, rfl, ho0, hb⟩; have n0_ := Aside0.mk (Kd.R_lower ho0 (below_size (by repeat (first | (with_reducible first | exact HB.out | apply below_alloc | apply pw_below_drewN | apply below_drew1) | exact HB.out)))); have n1_ := bs HB hb; clear HB; have HO360 := n0_; have HB := n1_; clear n0_ n1_; (try clear hb); (try clear hb2); (try clear hk); (try clear hi); (try clear ho0); obtain ⟨Ao34, co34, eo34⟩ := Kd.R_slice HO360.out; subst eo34)))
          go_ret
          exact ⟨by first | rfl | (simp [errW_none, errW_some] <;> rfl) | (simp [*, errW_none, errW_some] <;> rfl) | (exfalso; first | contradiction | (revert c7b0 c31b0; simp +contextual; done)), by repeat (first | (with_reducible first | exact HB.out | apply below_alloc | apply pw_below_drewN | apply below_drew1) | exact HB.out)⟩
        · rw [if_neg c31] at H
          exact absurd H (by simp)
  · replace c3 := Bool.eq_false_iff.mpr c3
    subst c3
    rw [if_neg (show ¬ (false = true) by decide)] at H
    obtain rfl := Option.some.inj H
    go_enter Try.func4, Try.ntmps4
    go_wp2_with (first | (go_at_call 10; (with_reducible refine (fuseelaw10_awake.calls k  false _ A2.out).mono ?_); rintro e w35 ⟨rfl, hb⟩; have n0_ := bs HB hb; clear HB; have HB := n0_; clear n0_; (try clear hb); (try clear hb2); (try clear hk); (try clear hi)))
    repeat (go_quiet (first | (go_at_call 10; (with_reducible refine (fuseelaw10_awake.calls k  false _ A2.out).mono ?_); rintro e w35 ⟨rfl, hb⟩; have n0_ := bs HB hb; clear HB; have HB := n0_; clear n0_; (try clear hb); (try clear hb2); (try clear hk); (try clear hi))); try go_wp2_with (first | (go_at_call 10; (with_reducible refine (fuseelaw10_awake.calls k  false _ A2.out).mono ?_); rintro e w35 ⟨rfl, hb⟩; have n0_ := bs HB hb; clear HB; have HB := n0_; clear n0_; (try clear hb); (try clear hb2); (try clear hk); (try clear hi))))
    go_ret
    exact ⟨by first | rfl | (simp [errW_none, errW_some] <;> rfl) | (simp [*, errW_none, errW_some] <;> rfl) | (exfalso; contradiction), by repeat (first | (with_reducible first | exact HB.out | apply below_alloc | apply pw_below_drewN | apply below_drew1) | exact HB.out)⟩

end Go.Proofs.Ytaejikbfnlihmaa.P
