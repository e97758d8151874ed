-- Written by a program of this session (hprint.py), out of the translation; functions that the print does not take are given by hand.
import Derived.Test.YtkcpkglplhgjfaaPx0
import Derived.Test.YtkcpkglplhgjfaaPx2
import Derived.Test.YtkcpkglplhgjfaaPx3
namespace Go.Proofs.Ytkcpkglplhgjfaa.P
open Go.RowKit Go.Proofs.YtkcpkglplhgjfaaM Go.Proofs.YtkcpkglplhgjfaaW.PrintWords Go.Proofs.YtkcpkglplhgjfaaW.PrintLast Go.Proofs.YtkcpkglplhgjfaaW.PrintMore
attribute [local go_sem] max2_int min2_int max_two min_two max_three min_three max_four min_four   -- for this text's walks alone
set_option linter.unusedVariables false
set_option linter.unusedSimpArgs false

/-! ### fuseelaw06_UnitsFall: function 4 -/
def fuseelaw06_UnitsFall.j0 : Nat → Int → Int → Bool → Bool → Int → Int → Int → Int → Int → Int → Option (Bool)
  | 0, _, _, _, _, _, _, _, _, _, _ => none
  | k + 1, x1, x2, x7, x35, x167000, x167001, x167002, x167003, x167004, x167005 => if x35 = true then (some x7) else ((units_At.f x167000 x167001 x167002 x167003 x167004 x167005 x1).bind fun t169 => ((units_At.f x167000 x167001 x167002 x167003 x167004 x167005 x2).bind fun t170 => (if t169 ≥ t170 then (if t170 ≥ 1 then (if t169 ≤ 1048576 then (if (wrap64 ((wrap64 (t169 * x167004)) * x1)) ≥ (wrap64 ((wrap64 (x167000 * x167003)) * 1048576)) then (if (wrap64 ((wrap64 ((wrap64 (t169 - 1)) * x167004)) * x1)) < (wrap64 ((wrap64 (x167000 * x167003)) * 1048576)) then ((units_Top.f x167000 x167001 x167002 x167003 x167004 x167005).bind fun t171 => (if t171 ≥ t169 then ((units_Least.f x167000 x167001 x167002 x167003 x167004 x167005).bind fun t172 => (some (decide (t172 ≤ t170)))) else (some false))) else (some false)) else (some false)) else (some false)) else (some false)) else (some false))))
def fuseelaw06_UnitsFall.f (k : Nat) (a0_0 : Int) (a0_1 : Int) (a0_2 : Int) (a0_3 : Int) (a0_4 : Int) (a0_5 : Int) (a1 : Int) (a2 : Int) : Option (Bool) := (fuseelaw06_awake.f).bind fun t167 => (if t167 = true then ((spec_May.f a0_0 a0_1 a0_2 a0_3 a0_4 a0_5).bind fun t168 => (if t168 = true then (if a1 < a0_1 then (fuseelaw06_UnitsFall.j0 k a1 a2 t167 true a0_0 a0_1 a0_2 a0_3 a0_4 a0_5) else (if a2 < a1 then (fuseelaw06_UnitsFall.j0 k a1 a2 t167 true a0_0 a0_1 a0_2 a0_3 a0_4 a0_5) else (fuseelaw06_UnitsFall.j0 k a1 a2 t167 (decide (a2 > a0_2)) a0_0 a0_1 a0_2 a0_3 a0_4 a0_5))) else (fuseelaw06_UnitsFall.j0 k a1 a2 t167 true a0_0 a0_1 a0_2 a0_3 a0_4 a0_5))) else (fuseelaw06_UnitsFall.j0 k a1 a2 t167 true a0_0 a0_1 a0_2 a0_3 a0_4 a0_5))
theorem fuseelaw06_UnitsFall.mono_l : ∀ k, (∀ y0 y1 y2 y3 y4 y5 y6 y7 y8 y9, LeO (fuseelaw06_UnitsFall.j0 k y0 y1 y2 y3 y4 y5 y6 y7 y8 y9) (fuseelaw06_UnitsFall.j0 (k + 1) y0 y1 y2 y3 y4 y5 y6 y7 y8 y9))
  | 0 => fun _ _ _ _ _ _ _ _ _ _ r h => by simp [fuseelaw06_UnitsFall.j0] at h
  | k + 1 => by
    have ih0 := fuseelaw06_UnitsFall.mono_l k
    · intro y0 y1 y2 y3 y4 y5 y6 y7 y8 y9
      unfold fuseelaw06_UnitsFall.j0
      repeat' first
      | (with_reducible exact ih0 _ _ _ _ _ _ _ _ _ _)
      | (with_reducible exact LeO.refl _)
      | (with_reducible exact LeO.none _)
      | (with_reducible refine LeO.ite ?_ ?_)
      | (with_reducible refine LeO.bind ?_ (fun _ => ?_))
      | exact ih0 _ _ _ _ _ _ _ _ _ _
      | exact LeO.none _
      | refine LeO.ite ?_ ?_
      | refine LeO.bind ?_ (fun _ => ?_)
theorem fuseelaw06_UnitsFall.mono : ∀ a0 a1 a2 a3 a4 a5 a6 a7 k, LeO (fuseelaw06_UnitsFall.f k a0 a1 a2 a3 a4 a5 a6 a7) (fuseelaw06_UnitsFall.f (k + 1) a0 a1 a2 a3 a4 a5 a6 a7) := by
  intro a0 a1 a2 a3 a4 a5 a6 a7 k
  have ih0 := fuseelaw06_UnitsFall.mono_l k
  unfold fuseelaw06_UnitsFall.f
  repeat' first
      | (with_reducible exact ih0 _ _ _ _ _ _ _ _ _ _)
      | (with_reducible exact LeO.refl _)
      | (with_reducible exact LeO.none _)
      | (with_reducible refine LeO.ite ?_ ?_)
      | (with_reducible refine LeO.bind ?_ (fun _ => ?_))
      | exact ih0 _ _ _ _ _ _ _ _ _ _
      | exact LeO.none _
      | refine LeO.ite ?_ ?_
      | refine LeO.bind ?_ (fun _ => ?_)
set_option maxHeartbeats 8000000 in
set_option maxRecDepth 100000 in
theorem fuseelaw06_UnitsFall.calls (k : Nat) (a0_0 : Int) (a0_1 : Int) (a0_2 : Int) (a0_3 : Int) (a0_4 : Int) (a0_5 : Int) (a1 : Int) (a2 : Int) (r : Bool) (w : World) (h : fuseelaw06_UnitsFall.f k a0_0 a0_1 a0_2 a0_3 a0_4 a0_5 a1 a2 = some r) :
    Calls Try.prog 4 #[.agg #[.int .i64 a0_0, .int .i64 a0_1, .int .i64 a0_2, .int .i64 a0_3, .int .i64 a0_4, .int .i64 a0_5], .int .i64 a1, .int .i64 a2] w fun e w' => e = .returned (.bool r) ∧ Below w.heap.size w w' := by
  have hu23 := Try.underlying23
  have HB := Aside0.mk (Below.refl w.heap.size w)
  have H : ((fuseelaw06_awake.f).bind fun t167 => (if t167 = true then ((spec_May.f a0_0 a0_1 a0_2 a0_3 a0_4 a0_5).bind fun t168 => (if t168 = true then (if a1 < a0_1 then (fuseelaw06_UnitsFall.j0 k a1 a2 t167 true a0_0 a0_1 a0_2 a0_3 a0_4 a0_5) else (if a2 < a1 then (fuseelaw06_UnitsFall.j0 k a1 a2 t167 true a0_0 a0_1 a0_2 a0_3 a0_4 a0_5) else (fuseelaw06_UnitsFall.j0 k a1 a2 t167 (decide (a2 > a0_2)) a0_0 a0_1 a0_2 a0_3 a0_4 a0_5))) else (fuseelaw06_UnitsFall.j0 k a1 a2 t167 true a0_0 a0_1 a0_2 a0_3 a0_4 a0_5))) else (fuseelaw06_UnitsFall.j0 k a1 a2 t167 true a0_0 a0_1 a0_2 a0_3 a0_4 a0_5))) = some r := h
  clear h
  replace H := Option.bind_eq_some_iff.mp H
  obtain ⟨t167, A40, H⟩ := H
  replace H : (if t167 = true then ((spec_May.f a0_0 a0_1 a0_2 a0_3 a0_4 a0_5).bind fun t168 => (if t168 = true then (if a1 < a0_1 then (fuseelaw06_UnitsFall.j0 k a1 a2 t167 true a0_0 a0_1 a0_2 a0_3 a0_4 a0_5) else (if a2 < a1 then (fuseelaw06_UnitsFall.j0 k a1 a2 t167 true a0_0 a0_1 a0_2 a0_3 a0_4 a0_5) else (fuseelaw06_UnitsFall.j0 k a1 a2 t167 (decide (a2 > a0_2)) a0_0 a0_1 a0_2 a0_3 a0_4 a0_5))) else (fuseelaw06_UnitsFall.j0 k a1 a2 t167 true a0_0 a0_1 a0_2 a0_3 a0_4 a0_5))) else (fuseelaw06_UnitsFall.j0 k a1 a2 t167 true a0_0 a0_1 a0_2 a0_3 a0_4 a0_5)) = some r := H
  have A4 := Aside0.mk A40
  clear A40
  have HC5 := Aside0.mk H
  clear H
  go_enter Try.func4, Try.ntmps4
  go_upto_region 2 with (first | ((with_reducible refine gate_dst (N := 3) rfl ?_); refine box_event ?hg (N := 3) ?hd (cs := #[.int .i64 a0_0, .int .i64 a0_1, .int .i64 a0_2, .int .i64 a0_3, .int .i64 a0_4, .int .i64 a0_5]) (t := 23) ?hr ?_; (case hd => rfl); (case hg => rfl); (case hr => first | (go_simp; done) | (go_simp; rfl)); intro gb166 hg w6 hbox hb; have n0_ := Aside0.mk (below_step (by repeat (first | (with_reducible first | exact HB.out | apply below_alloc | apply pw_below_drewN | apply below_drew1) | exact HB.out)) hb); have n1_ := Aside0.mk (hbox); have n2_ := Aside0.mk ((by rw [hg]; exact (below_size (by repeat (first | (with_reducible first | exact HB.out | apply below_alloc | apply pw_below_drewN | apply below_drew1) | exact HB.out))) : w.heap.size ≤ gb166)); have n3_ := Aside0.mk ((by rw [hg]; exact (below_size (by repeat (first | (with_reducible first | exact HB.out | apply below_alloc | apply pw_below_drewN | apply below_drew1) | exact HB.out))) : w.heap.size ≤ gb166)); clear HB; have HB := n0_; have BK166 := n1_; have GW166 := n2_; have GE166 := n3_; clear n0_ n1_ n2_ n3_; clear hb hbox hg) | ((with_reducible refine gate_callee (f := 8) rfl ?_); refine goesL_ (some 11) rfl rfl Try.func8 (by kernel_rfl) rfl #[] rfl (by (try simp only [List.map_toArray, List.map_cons, List.map_nil]); first | done | rfl | (simp only [List.length_drop, List.length_take]; rfl)) ?_; (with_reducible refine (fuseelaw06_awake.calls  t167 _ A4.out).mono ?_); rintro e w7 ⟨rfl, hb⟩; refine ⟨_, rfl, ?_⟩; have n0_ := Aside0.mk (blk_below (g := gb166) (o := .cells #[.int .i64 a0_0, .int .i64 a0_1, .int .i64 a0_2, .int .i64 a0_3, .int .i64 a0_4, .int .i64 a0_5] 23 (0, 0)) (by (with_reducible repeat (first | refine blk_drewN ?_ _ | refine blk_drew ?_ | refine blk_alloc ?_ _)); exact BK166.out) hb); have n1_ := Aside0.mk (below_step (by repeat (first | (with_reducible first | exact HB.out | apply below_alloc | apply pw_below_drewN | apply below_drew1 | refine below_set ?_ GE166.out) | exact HB.out)) hb); clear BK166; clear HB; have BK166 := n0_; have HB := n1_; clear n0_ n1_; (try clear hb); (try clear hb2); (try clear hk); (try clear hi)))
  (try simp only [Act.put, List.setIfInBounds_toArray, List.set_cons_zero, List.set_cons_succ])
  go_cut [35] (fun v35 wc => ∃ (kq : Nat) (x35_4 : Bool), v35 = .bool x35_4 ∧ Aside0 (fuseelaw06_UnitsFall.j0 kq a1 a2 t167 x35_4 a0_0 a0_1 a0_2 a0_3 a0_4 a0_5 = some r) ∧ Aside0 (kq ≤ k) ∧ Aside0 (wc.heap[gb166]? = some (.cells #[.int .i64 a0_0, .int .i64 a0_1, .int .i64 a0_2, .int .i64 a0_3, .int .i64 a0_4, .int .i64 a0_5] 23 (0, 0))) ∧ Aside0 (Below w.heap.size w wc))
  case first =>
    have H := HC5.out
    clear HC5
    by_cases c8 : t167 = true
    · subst c8
      have H1 : ((spec_May.f a0_0 a0_1 a0_2 a0_3 a0_4 a0_5).bind fun t168 => (if t168 = true then (if a1 < a0_1 then (fuseelaw06_UnitsFall.j0 k a1 a2 true true a0_0 a0_1 a0_2 a0_3 a0_4 a0_5) else (if a2 < a1 then (fuseelaw06_UnitsFall.j0 k a1 a2 true true a0_0 a0_1 a0_2 a0_3 a0_4 a0_5) else (fuseelaw06_UnitsFall.j0 k a1 a2 true (decide (a2 > a0_2)) a0_0 a0_1 a0_2 a0_3 a0_4 a0_5))) else (fuseelaw06_UnitsFall.j0 k a1 a2 true true a0_0 a0_1 a0_2 a0_3 a0_4 a0_5))) = some r := by rw [if_pos rfl] at H; exact H
      clear H
      have H := H1
      clear H1
      replace H := Option.bind_eq_some_iff.mp H
      obtain ⟨t168, A90, H⟩ := H
      replace H : (if t168 = true then (if a1 < a0_1 then (fuseelaw06_UnitsFall.j0 k a1 a2 true true a0_0 a0_1 a0_2 a0_3 a0_4 a0_5) else (if a2 < a1 then (fuseelaw06_UnitsFall.j0 k a1 a2 true true a0_0 a0_1 a0_2 a0_3 a0_4 a0_5) else (fuseelaw06_UnitsFall.j0 k a1 a2 true (decide (a2 > a0_2)) a0_0 a0_1 a0_2 a0_3 a0_4 a0_5))) else (fuseelaw06_UnitsFall.j0 k a1 a2 true true a0_0 a0_1 a0_2 a0_3 a0_4 a0_5)) = some r := H
      have A9 := Aside0.mk A90
      clear A90
      by_cases c10 : t168 = true
      · subst c10
        have H1 : (if a1 < a0_1 then (fuseelaw06_UnitsFall.j0 k a1 a2 true true a0_0 a0_1 a0_2 a0_3 a0_4 a0_5) else (if a2 < a1 then (fuseelaw06_UnitsFall.j0 k a1 a2 true true a0_0 a0_1 a0_2 a0_3 a0_4 a0_5) else (fuseelaw06_UnitsFall.j0 k a1 a2 true (decide (a2 > a0_2)) a0_0 a0_1 a0_2 a0_3 a0_4 a0_5))) = some r := by rw [if_pos rfl] at H; exact H
        clear H
        have H := H1
        clear H1
        by_cases c11 : a1 < a0_1
        · rw [if_pos c11] at H
          have c11b0 : decide (a1 < a0_1) = true := decide_eq_true c11
          clear c11
          (first | rw [c11b0] | (simp only [i64_w, i32_w]; rw [c11b0]) | skip)
          have H' := Aside0.mk H
          clear H
          have hcz12_0 : w7.cell? ⟨gb166, 0, none⟩ = some (.int .i64 a0_0) := (blk_cell BK166.out 0).trans rfl
          have hcz12_1 : w7.cell? ⟨gb166, 1, none⟩ = some (.int .i64 a0_1) := (blk_cell BK166.out 1).trans rfl
          have hcz12_2 : w7.cell? ⟨gb166, 2, none⟩ = some (.int .i64 a0_2) := (blk_cell BK166.out 2).trans rfl
          have hcz12_3 : w7.cell? ⟨gb166, 3, none⟩ = some (.int .i64 a0_3) := (blk_cell BK166.out 3).trans rfl
          have hcz12_4 : w7.cell? ⟨gb166, 4, none⟩ = some (.int .i64 a0_4) := (blk_cell BK166.out 4).trans rfl
          have hcz12_5 : w7.cell? ⟨gb166, 5, none⟩ = some (.int .i64 a0_5) := (blk_cell BK166.out 5).trans rfl
          have hfz12_0 := blk_frozen BK166.out 0
          have hfz12_1 := blk_frozen BK166.out 1
          have hfz12_2 := blk_frozen BK166.out 2
          have hfz12_3 := blk_frozen BK166.out 3
          have hfz12_4 := blk_frozen BK166.out 4
          have hfz12_5 := blk_frozen BK166.out 5
          go_wp2_with (first | (go_at_call 19; (with_reducible refine (spec_May.calls a0_0 a0_1 a0_2 a0_3 a0_4 a0_5 true _ A9.out).mono ?_); rintro e w13 ⟨rfl, hb⟩; have n0_ := Aside0.mk (blk_below (g := gb166) (o := .cells #[.int .i64 a0_0, .int .i64 a0_1, .int .i64 a0_2, .int .i64 a0_3, .int .i64 a0_4, .int .i64 a0_5] 23 (0, 0)) (by (with_reducible repeat (first | refine blk_drewN ?_ _ | refine blk_drew ?_ | refine blk_alloc ?_ _)); exact BK166.out) hb); have n1_ := Aside0.mk (below_step (by repeat (first | (with_reducible first | exact HB.out | apply below_alloc | apply pw_below_drewN | apply below_drew1 | refine below_set ?_ GE166.out) | exact HB.out)) hb); clear BK166; clear HB; have BK166 := n0_; have HB := n1_; clear n0_ n1_; (try clear hb); (try clear hb2); (try clear hk); (try clear hi); have hcz14_0 : w13.cell? ⟨gb166, 0, none⟩ = some (.int .i64 a0_0) := (blk_cell BK166.out 0).trans rfl; have hcz14_1 : w13.cell? ⟨gb166, 1, none⟩ = some (.int .i64 a0_1) := (blk_cell BK166.out 1).trans rfl; have hcz14_2 : w13.cell? ⟨gb166, 2, none⟩ = some (.int .i64 a0_2) := (blk_cell BK166.out 2).trans rfl; have hcz14_3 : w13.cell? ⟨gb166, 3, none⟩ = some (.int .i64 a0_3) := (blk_cell BK166.out 3).trans rfl; have hcz14_4 : w13.cell? ⟨gb166, 4, none⟩ = some (.int .i64 a0_4) := (blk_cell BK166.out 4).trans rfl; have hcz14_5 : w13.cell? ⟨gb166, 5, none⟩ = some (.int .i64 a0_5) := (blk_cell BK166.out 5).trans rfl; have hfz14_0 := blk_frozen BK166.out 0; have hfz14_1 := blk_frozen BK166.out 1; have hfz14_2 := blk_frozen BK166.out 2; have hfz14_3 := blk_frozen BK166.out 3; have hfz14_4 := blk_frozen BK166.out 4; have hfz14_5 := blk_frozen BK166.out 5))
          go_meet
          case rel => exact ⟨_, (true), (by first | rfl | (simp; done) | (simp [*]; done)), H', ⟨by first | omega | exact Nat.le_refl _⟩, ⟨by (with_reducible repeat (first | refine blk_drewN ?_ _ | refine blk_drew ?_ | refine blk_alloc ?_ _)); exact BK166.out⟩, ⟨by repeat (first | (with_reducible first | exact HB.out | apply below_alloc | apply pw_below_drewN | apply below_drew1 | refine below_set ?_ GE166.out) | exact HB.out)⟩⟩
        · rw [if_neg c11] at H
          have c11b0 : decide (a1 < a0_1) = false := decide_eq_false c11
          clear c11
          (first | rw [c11b0] | (simp only [i64_w, i32_w]; rw [c11b0]) | skip)
          by_cases c15 : a2 < a1
          · rw [if_pos c15] at H
            have c15b0 : decide (a2 < a1) = true := decide_eq_true c15
            clear c15
            have H' := Aside0.mk H
            clear H
            have hcz16_0 : w7.cell? ⟨gb166, 0, none⟩ = some (.int .i64 a0_0) := (blk_cell BK166.out 0).trans rfl
            have hcz16_1 : w7.cell? ⟨gb166, 1, none⟩ = some (.int .i64 a0_1) := (blk_cell BK166.out 1).trans rfl
            have hcz16_2 : w7.cell? ⟨gb166, 2, none⟩ = some (.int .i64 a0_2) := (blk_cell BK166.out 2).trans rfl
            have hcz16_3 : w7.cell? ⟨gb166, 3, none⟩ = some (.int .i64 a0_3) := (blk_cell BK166.out 3).trans rfl
            have hcz16_4 : w7.cell? ⟨gb166, 4, none⟩ = some (.int .i64 a0_4) := (blk_cell BK166.out 4).trans rfl
            have hcz16_5 : w7.cell? ⟨gb166, 5, none⟩ = some (.int .i64 a0_5) := (blk_cell BK166.out 5).trans rfl
            have hfz16_0 := blk_frozen BK166.out 0
            have hfz16_1 := blk_frozen BK166.out 1
            have hfz16_2 := blk_frozen BK166.out 2
            have hfz16_3 := blk_frozen BK166.out 3
            have hfz16_4 := blk_frozen BK166.out 4
            have hfz16_5 := blk_frozen BK166.out 5
            go_wp2_with (first | (go_at_call 19; (with_reducible refine (spec_May.calls a0_0 a0_1 a0_2 a0_3 a0_4 a0_5 true _ A9.out).mono ?_); rintro e w17 ⟨rfl, hb⟩; have n0_ := Aside0.mk (blk_below (g := gb166) (o := .cells #[.int .i64 a0_0, .int .i64 a0_1, .int .i64 a0_2, .int .i64 a0_3, .int .i64 a0_4, .int .i64 a0_5] 23 (0, 0)) (by (with_reducible repeat (first | refine blk_drewN ?_ _ | refine blk_drew ?_ | refine blk_alloc ?_ _)); exact BK166.out) hb); have n1_ := Aside0.mk (below_step (by repeat (first | (with_reducible first | exact HB.out | apply below_alloc | apply pw_below_drewN | apply below_drew1 | refine below_set ?_ GE166.out) | exact HB.out)) hb); clear BK166; clear HB; have BK166 := n0_; have HB := n1_; clear n0_ n1_; (try clear hb); (try clear hb2); (try clear hk); (try clear hi); have hcz18_0 : w17.cell? ⟨gb166, 0, none⟩ = some (.int .i64 a0_0) := (blk_cell BK166.out 0).trans rfl; have hcz18_1 : w17.cell? ⟨gb166, 1, none⟩ = some (.int .i64 a0_1) := (blk_cell BK166.out 1).trans rfl; have hcz18_2 : w17.cell? ⟨gb166, 2, none⟩ = some (.int .i64 a0_2) := (blk_cell BK166.out 2).trans rfl; have hcz18_3 : w17.cell? ⟨gb166, 3, none⟩ = some (.int .i64 a0_3) := (blk_cell BK166.out 3).trans rfl; have hcz18_4 : w17.cell? ⟨gb166, 4, none⟩ = some (.int .i64 a0_4) := (blk_cell BK166.out 4).trans rfl; have hcz18_5 : w17.cell? ⟨gb166, 5, none⟩ = some (.int .i64 a0_5) := (blk_cell BK166.out 5).trans rfl; have hfz18_0 := blk_frozen BK166.out 0; have hfz18_1 := blk_frozen BK166.out 1; have hfz18_2 := blk_frozen BK166.out 2; have hfz18_3 := blk_frozen BK166.out 3; have hfz18_4 := blk_frozen BK166.out 4; have hfz18_5 := blk_frozen BK166.out 5))
            go_meet
            case rel => exact ⟨_, (true), (by first | rfl | (simp; done) | (simp [*]; done)), H', ⟨by first | omega | exact Nat.le_refl _⟩, ⟨by (with_reducible repeat (first | refine blk_drewN ?_ _ | refine blk_drew ?_ | refine blk_alloc ?_ _)); exact BK166.out⟩, ⟨by repeat (first | (with_reducible first | exact HB.out | apply below_alloc | apply pw_below_drewN | apply below_drew1 | refine below_set ?_ GE166.out) | exact HB.out)⟩⟩
          · rw [if_neg c15] at H
            have c15b0 : decide (a2 < a1) = false := decide_eq_false c15
            clear c15
            have H' := Aside0.mk H
            clear H
            have hcz19_0 : w7.cell? ⟨gb166, 0, none⟩ = some (.int .i64 a0_0) := (blk_cell BK166.out 0).trans rfl
            have hcz19_1 : w7.cell? ⟨gb166, 1, none⟩ = some (.int .i64 a0_1) := (blk_cell BK166.out 1).trans rfl
            have hcz19_2 : w7.cell? ⟨gb166, 2, none⟩ = some (.int .i64 a0_2) := (blk_cell BK166.out 2).trans rfl
            have hcz19_3 : w7.cell? ⟨gb166, 3, none⟩ = some (.int .i64 a0_3) := (blk_cell BK166.out 3).trans rfl
            have hcz19_4 : w7.cell? ⟨gb166, 4, none⟩ = some (.int .i64 a0_4) := (blk_cell BK166.out 4).trans rfl
            have hcz19_5 : w7.cell? ⟨gb166, 5, none⟩ = some (.int .i64 a0_5) := (blk_cell BK166.out 5).trans rfl
            have hfz19_0 := blk_frozen BK166.out 0
            have hfz19_1 := blk_frozen BK166.out 1
            have hfz19_2 := blk_frozen BK166.out 2
            have hfz19_3 := blk_frozen BK166.out 3
            have hfz19_4 := blk_frozen BK166.out 4
            have hfz19_5 := blk_frozen BK166.out 5
            go_wp2_with (first | (go_at_call 19; (with_reducible refine (spec_May.calls a0_0 a0_1 a0_2 a0_3 a0_4 a0_5 true _ A9.out).mono ?_); rintro e w20 ⟨rfl, hb⟩; have n0_ := Aside0.mk (blk_below (g := gb166) (o := .cells #[.int .i64 a0_0, .int .i64 a0_1, .int .i64 a0_2, .int .i64 a0_3, .int .i64 a0_4, .int .i64 a0_5] 23 (0, 0)) (by (with_reducible repeat (first | refine blk_drewN ?_ _ | refine blk_drew ?_ | refine blk_alloc ?_ _)); exact BK166.out) hb); have n1_ := Aside0.mk (below_step (by repeat (first | (with_reducible first | exact HB.out | apply below_alloc | apply pw_below_drewN | apply below_drew1 | refine below_set ?_ GE166.out) | exact HB.out)) hb); clear BK166; clear HB; have BK166 := n0_; have HB := n1_; clear n0_ n1_; (try clear hb); (try clear hb2); (try clear hk); (try clear hi); have hcz21_0 : w20.cell? ⟨gb166, 0, none⟩ = some (.int .i64 a0_0) := (blk_cell BK166.out 0).trans rfl; have hcz21_1 : w20.cell? ⟨gb166, 1, none⟩ = some (.int .i64 a0_1) := (blk_cell BK166.out 1).trans rfl; have hcz21_2 : w20.cell? ⟨gb166, 2, none⟩ = some (.int .i64 a0_2) := (blk_cell BK166.out 2).trans rfl; have hcz21_3 : w20.cell? ⟨gb166, 3, none⟩ = some (.int .i64 a0_3) := (blk_cell BK166.out 3).trans rfl; have hcz21_4 : w20.cell? ⟨gb166, 4, none⟩ = some (.int .i64 a0_4) := (blk_cell BK166.out 4).trans rfl; have hcz21_5 : w20.cell? ⟨gb166, 5, none⟩ = some (.int .i64 a0_5) := (blk_cell BK166.out 5).trans rfl; have hfz21_0 := blk_frozen BK166.out 0; have hfz21_1 := blk_frozen BK166.out 1; have hfz21_2 := blk_frozen BK166.out 2; have hfz21_3 := blk_frozen BK166.out 3; have hfz21_4 := blk_frozen BK166.out 4; have hfz21_5 := blk_frozen BK166.out 5))
            go_meet
            case rel => exact ⟨_, (decide (a2 > a0_2)), (by first | rfl | (simp; done) | (simp [*]; done)), H', ⟨by first | omega | exact Nat.le_refl _⟩, ⟨by (with_reducible repeat (first | refine blk_drewN ?_ _ | refine blk_drew ?_ | refine blk_alloc ?_ _)); exact BK166.out⟩, ⟨by repeat (first | (with_reducible first | exact HB.out | apply below_alloc | apply pw_below_drewN | apply below_drew1 | refine below_set ?_ GE166.out) | exact HB.out)⟩⟩
      · replace c10 := Bool.eq_false_iff.mpr c10
        subst c10
        have H1 : (fuseelaw06_UnitsFall.j0 k a1 a2 true true a0_0 a0_1 a0_2 a0_3 a0_4 a0_5) = some r := by rw [if_neg (show ¬ (false = true) by decide)] at H; exact H
        clear H
        have H := H1
        clear H1
        have H' := Aside0.mk H
        clear H
        have hcz22_0 : w7.cell? ⟨gb166, 0, none⟩ = some (.int .i64 a0_0) := (blk_cell BK166.out 0).trans rfl
        have hcz22_1 : w7.cell? ⟨gb166, 1, none⟩ = some (.int .i64 a0_1) := (blk_cell BK166.out 1).trans rfl
        have hcz22_2 : w7.cell? ⟨gb166, 2, none⟩ = some (.int .i64 a0_2) := (blk_cell BK166.out 2).trans rfl
        have hcz22_3 : w7.cell? ⟨gb166, 3, none⟩ = some (.int .i64 a0_3) := (blk_cell BK166.out 3).trans rfl
        have hcz22_4 : w7.cell? ⟨gb166, 4, none⟩ = some (.int .i64 a0_4) := (blk_cell BK166.out 4).trans rfl
        have hcz22_5 : w7.cell? ⟨gb166, 5, none⟩ = some (.int .i64 a0_5) := (blk_cell BK166.out 5).trans rfl
        have hfz22_0 := blk_frozen BK166.out 0
        have hfz22_1 := blk_frozen BK166.out 1
        have hfz22_2 := blk_frozen BK166.out 2
        have hfz22_3 := blk_frozen BK166.out 3
        have hfz22_4 := blk_frozen BK166.out 4
        have hfz22_5 := blk_frozen BK166.out 5
        go_wp2_with (first | (go_at_call 19; (with_reducible refine (spec_May.calls a0_0 a0_1 a0_2 a0_3 a0_4 a0_5 false _ A9.out).mono ?_); rintro e w23 ⟨rfl, hb⟩; have n0_ := Aside0.mk (blk_below (g := gb166) (o := .cells #[.int .i64 a0_0, .int .i64 a0_1, .int .i64 a0_2, .int .i64 a0_3, .int .i64 a0_4, .int .i64 a0_5] 23 (0, 0)) (by (with_reducible repeat (first | refine blk_drewN ?_ _ | refine blk_drew ?_ | refine blk_alloc ?_ _)); exact BK166.out) hb); have n1_ := Aside0.mk (below_step (by repeat (first | (with_reducible first | exact HB.out | apply below_alloc | apply pw_below_drewN | apply below_drew1 | refine below_set ?_ GE166.out) | exact HB.out)) hb); clear BK166; clear HB; have BK166 := n0_; have HB := n1_; clear n0_ n1_; (try clear hb); (try clear hb2); (try clear hk); (try clear hi)))
        go_meet
        case rel => exact ⟨_, (true), (by first | rfl | (simp; done) | (simp [*]; done)), H', ⟨by first | omega | exact Nat.le_refl _⟩, ⟨by (with_reducible repeat (first | refine blk_drewN ?_ _ | refine blk_drew ?_ | refine blk_alloc ?_ _)); exact BK166.out⟩, ⟨by repeat (first | (with_reducible first | exact HB.out | apply below_alloc | apply pw_below_drewN | apply below_drew1 | refine below_set ?_ GE166.out) | exact HB.out)⟩⟩
    · replace c8 := Bool.eq_false_iff.mpr c8
      subst c8
      have H1 : (fuseelaw06_UnitsFall.j0 k a1 a2 false true a0_0 a0_1 a0_2 a0_3 a0_4 a0_5) = some r := by rw [if_neg (show ¬ (false = true) by decide)] at H; exact H
      clear H
      have H := H1
      clear H1
      have H' := Aside0.mk H
      clear H
      go_wp2
      go_meet
      case rel => exact ⟨_, (true), (by first | rfl | (simp; done) | (simp [*]; done)), H', ⟨by first | omega | exact Nat.le_refl _⟩, ⟨by (with_reducible repeat (first | refine blk_drewN ?_ _ | refine blk_drew ?_ | refine blk_alloc ?_ _)); exact BK166.out⟩, ⟨by repeat (first | (with_reducible first | exact HB.out | apply below_alloc | apply pw_below_drewN | apply below_drew1 | refine below_set ?_ GE166.out) | exact HB.out)⟩⟩
  case rest =>
    clear HC5
    try clear c1
    try clear p2
    try clear c4
    try clear c8
    try clear c10
    try clear c11
    try clear c11b0
    try clear c15
    try clear c15b0
    try clear hcz12_0
    try clear hcz12_1
    try clear hcz12_2
    try clear hcz12_3
    try clear hcz12_4
    try clear hcz12_5
    try clear hcz14_0
    try clear hcz14_1
    try clear hcz14_2
    try clear hcz14_3
    try clear hcz14_4
    try clear hcz14_5
    try clear hcz16_0
    try clear hcz16_1
    try clear hcz16_2
    try clear hcz16_3
    try clear hcz16_4
    try clear hcz16_5
    try clear hcz18_0
    try clear hcz18_1
    try clear hcz18_2
    try clear hcz18_3
    try clear hcz18_4
    try clear hcz18_5
    try clear hcz19_0
    try clear hcz19_1
    try clear hcz19_2
    try clear hcz19_3
    try clear hcz19_4
    try clear hcz19_5
    try clear hcz21_0
    try clear hcz21_1
    try clear hcz21_2
    try clear hcz21_3
    try clear hcz21_4
    try clear hcz21_5
    try clear hcz22_0
    try clear hcz22_1
    try clear hcz22_2
    try clear hcz22_3
    try clear hcz22_4
    try clear hcz22_5
    try clear hfz12_0
    try clear hfz12_1
    try clear hfz12_2
    try clear hfz12_3
    try clear hfz12_4
    try clear hfz12_5
    try clear hfz14_0
    try clear hfz14_1
    try clear hfz14_2
    try clear hfz14_3
    try clear hfz14_4
    try clear hfz14_5
    try clear hfz16_0
    try clear hfz16_1
    try clear hfz16_2
    try clear hfz16_3
    try clear hfz16_4
    try clear hfz16_5
    try clear hfz18_0
    try clear hfz18_1
    try clear hfz18_2
    try clear hfz18_3
    try clear hfz18_4
    try clear hfz18_5
    try clear hfz19_0
    try clear hfz19_1
    try clear hfz19_2
    try clear hfz19_3
    try clear hfz19_4
    try clear hfz19_5
    try clear hfz21_0
    try clear hfz21_1
    try clear hfz21_2
    try clear hfz21_3
    try clear hfz21_4
    try clear hfz21_5
    try clear hfz22_0
    try clear hfz22_1
    try clear hfz22_2
    try clear hfz22_3
    try clear hfz22_4
    try clear hfz22_5
    obtain ⟨kq, x35_4, rfl, HA, HJ4, BK166, HB⟩ := hcut
    cases kq with
    | zero => exact absurd HA.out (by simp [fuseelaw06_UnitsFall.j0])
    | succ kj4 =>
      have H := HA.out
      clear HA
      simp only [fuseelaw06_UnitsFall.j0] at H
      by_cases c24 : x35_4 = true
      · subst c24
        have H1 : (some t167) = some r := by rw [if_pos rfl] at H; exact H
        clear H
        have H := H1
        clear H1
        obtain rfl := Option.some.inj H
        go_wp2
        go_ret
        exact ⟨by first | rfl | (simp [errW_none, errW_some] <;> rfl) | (simp [*, errW_none, errW_some] <;> rfl) | (exfalso; first | exact absurd ‹(false != false) = true› (by decide) | exact absurd ‹(true != true) = true› (by decide) | exact absurd ‹(true != false) = false› (by decide) | exact absurd ‹(false != true) = false› (by decide) | exact absurd ‹(false == false) = false› (by decide) | exact absurd ‹(true == true) = false› (by decide) | exact absurd ‹(true == false) = true› (by decide) | exact absurd ‹(false == true) = true› (by decide)), by repeat (first | (with_reducible first | exact HB.out | apply below_alloc | apply pw_below_drewN | apply below_drew1 | refine below_set ?_ GE166.out) | exact HB.out)⟩
      · replace c24 := Bool.eq_false_iff.mpr c24
        subst c24
        have H1 : ((units_At.f a0_0 a0_1 a0_2 a0_3 a0_4 a0_5 a1).bind fun t169 => ((units_At.f a0_0 a0_1 a0_2 a0_3 a0_4 a0_5 a2).bind fun t170 => (if t169 ≥ t170 then (if t170 ≥ 1 then (if t169 ≤ 1048576 then (if (wrap64 ((wrap64 (t169 * a0_4)) * a1)) ≥ (wrap64 ((wrap64 (a0_0 * a0_3)) * 1048576)) then (if (wrap64 ((wrap64 ((wrap64 (t169 - 1)) * a0_4)) * a1)) < (wrap64 ((wrap64 (a0_0 * a0_3)) * 1048576)) then ((units_Top.f a0_0 a0_1 a0_2 a0_3 a0_4 a0_5).bind fun t171 => (if t171 ≥ t169 then ((units_Least.f a0_0 a0_1 a0_2 a0_3 a0_4 a0_5).bind fun t172 => (some (decide (t172 ≤ t170)))) else (some false))) else (some false)) else (some false)) else (some false)) else (some false)) else (some false)))) = some r := by rw [if_neg (show ¬ (false = true) by decide)] at H; exact H
        clear H
        have H := H1
        clear H1
        replace H := Option.bind_eq_some_iff.mp H
        obtain ⟨t169, A250, H⟩ := H
        replace H : ((units_At.f a0_0 a0_1 a0_2 a0_3 a0_4 a0_5 a2).bind fun t170 => (if t169 ≥ t170 then (if t170 ≥ 1 then (if t169 ≤ 1048576 then (if (wrap64 ((wrap64 (t169 * a0_4)) * a1)) ≥ (wrap64 ((wrap64 (a0_0 * a0_3)) * 1048576)) then (if (wrap64 ((wrap64 ((wrap64 (t169 - 1)) * a0_4)) * a1)) < (wrap64 ((wrap64 (a0_0 * a0_3)) * 1048576)) then ((units_Top.f a0_0 a0_1 a0_2 a0_3 a0_4 a0_5).bind fun t171 => (if t171 ≥ t169 then ((units_Least.f a0_0 a0_1 a0_2 a0_3 a0_4 a0_5).bind fun t172 => (some (decide (t172 ≤ t170)))) else (some false))) else (some false)) else (some false)) else (some false)) else (some false)) else (some false))) = some r := H
        have A25 := Aside0.mk A250
        clear A250
        replace H := Option.bind_eq_some_iff.mp H
        obtain ⟨t170, A260, H⟩ := H
        replace H : (if t169 ≥ t170 then (if t170 ≥ 1 then (if t169 ≤ 1048576 then (if (wrap64 ((wrap64 (t169 * a0_4)) * a1)) ≥ (wrap64 ((wrap64 (a0_0 * a0_3)) * 1048576)) then (if (wrap64 ((wrap64 ((wrap64 (t169 - 1)) * a0_4)) * a1)) < (wrap64 ((wrap64 (a0_0 * a0_3)) * 1048576)) then ((units_Top.f a0_0 a0_1 a0_2 a0_3 a0_4 a0_5).bind fun t171 => (if t171 ≥ t169 then ((units_Least.f a0_0 a0_1 a0_2 a0_3 a0_4 a0_5).bind fun t172 => (some (decide (t172 ≤ t170)))) else (some false))) else (some false)) else (some false)) else (some false)) else (some false)) else (some false)) = some r := H
        have A26 := Aside0.mk A260
        clear A260
        by_cases c27 : t169 ≥ t170
        · rw [if_pos c27] at H
          have c27b0 : decide (t170 ≤ t169) = true := decide_eq_true c27
          clear c27
          by_cases c28 : t170 ≥ 1
          · rw [if_pos c28] at H
            have c28b0 : decide (1 ≤ t170) = true := decide_eq_true c28
            clear c28
            by_cases c29 : t169 ≤ 1048576
            · rw [if_pos c29] at H
              have c29b0 : decide (t169 ≤ 1048576) = true := decide_eq_true c29
              clear c29
              by_cases c30 : (wrap64 ((wrap64 (t169 * a0_4)) * a1)) ≥ (wrap64 ((wrap64 (a0_0 * a0_3)) * 1048576))
              · rw [if_pos c30] at H
                have c30b0 : decide ((wrap64 ((wrap64 (a0_0 * a0_3)) * 1048576)) ≤ (wrap64 ((wrap64 (t169 * a0_4)) * a1))) = true := decide_eq_true c30
                clear c30
                by_cases c31 : (wrap64 ((wrap64 ((wrap64 (t169 - 1)) * a0_4)) * a1)) < (wrap64 ((wrap64 (a0_0 * a0_3)) * 1048576))
                · rw [if_pos c31] at H
                  have c31b0 : decide ((wrap64 ((wrap64 ((wrap64 (t169 - 1)) * a0_4)) * a1)) < (wrap64 ((wrap64 (a0_0 * a0_3)) * 1048576))) = true := decide_eq_true c31
                  clear c31
                  replace H := Option.bind_eq_some_iff.mp H
                  obtain ⟨t171, A320, H⟩ := H
                  replace H : (if t171 ≥ t169 then ((units_Least.f a0_0 a0_1 a0_2 a0_3 a0_4 a0_5).bind fun t172 => (some (decide (t172 ≤ t170)))) else (some false)) = some r := H
                  have A32 := Aside0.mk A320
                  clear A320
                  by_cases c33 : t171 ≥ t169
                  · rw [if_pos c33] at H
                    have c33b0 : decide (t169 ≤ t171) = true := decide_eq_true c33
                    clear c33
                    replace H := Option.bind_eq_some_iff.mp H
                    obtain ⟨t172, A340, H⟩ := H
                    replace H : (some (decide (t172 ≤ t170))) = some r := H
                    have A34 := Aside0.mk A340
                    clear A340
                    obtain rfl := Option.some.inj H
                    have hcz35_0 : wc.cell? ⟨gb166, 0, none⟩ = some (.int .i64 a0_0) := (blk_cell BK166.out 0).trans rfl
                    have hcz35_1 : wc.cell? ⟨gb166, 1, none⟩ = some (.int .i64 a0_1) := (blk_cell BK166.out 1).trans rfl
                    have hcz35_2 : wc.cell? ⟨gb166, 2, none⟩ = some (.int .i64 a0_2) := (blk_cell BK166.out 2).trans rfl
                    have hcz35_3 : wc.cell? ⟨gb166, 3, none⟩ = some (.int .i64 a0_3) := (blk_cell BK166.out 3).trans rfl
                    have hcz35_4 : wc.cell? ⟨gb166, 4, none⟩ = some (.int .i64 a0_4) := (blk_cell BK166.out 4).trans rfl
                    have hcz35_5 : wc.cell? ⟨gb166, 5, none⟩ = some (.int .i64 a0_5) := (blk_cell BK166.out 5).trans rfl
                    have hfz35_0 := blk_frozen BK166.out 0
                    have hfz35_1 := blk_frozen BK166.out 1
                    have hfz35_2 := blk_frozen BK166.out 2
                    have hfz35_3 := blk_frozen BK166.out 3
                    have hfz35_4 := blk_frozen BK166.out 4
                    have hfz35_5 := blk_frozen BK166.out 5
                    go_wp2_with (first | ((with_reducible refine gate_callee (f := 11) rfl ?_); refine goesL_ (some 39) rfl rfl Try.func11 (by kernel_rfl) rfl #[.agg #[.int .i64 a0_0, .int .i64 a0_1, .int .i64 a0_2, .int .i64 a0_3, .int .i64 a0_4, .int .i64 a0_5], .int .i64 a1] rfl (by (try simp only [List.map_toArray, List.map_cons, List.map_nil]); first | done | rfl | (simp only [List.length_drop, List.length_take]; rfl)) ?_; (with_reducible refine (units_At.calls a0_0 a0_1 a0_2 a0_3 a0_4 a0_5 a1 t169 _ A25.out).mono ?_); rintro e w36 ⟨rfl, hb⟩; refine ⟨_, rfl, ?_⟩; have n0_ := Aside0.mk (blk_below (g := gb166) (o := .cells #[.int .i64 a0_0, .int .i64 a0_1, .int .i64 a0_2, .int .i64 a0_3, .int .i64 a0_4, .int .i64 a0_5] 23 (0, 0)) (by (with_reducible repeat (first | refine blk_drewN ?_ _ | refine blk_drew ?_ | refine blk_alloc ?_ _)); exact BK166.out) hb); have n1_ := Aside0.mk (below_step (by repeat (first | (with_reducible first | exact HB.out | apply below_alloc | apply pw_below_drewN | apply below_drew1 | refine below_set ?_ GE166.out) | exact HB.out)) hb); clear BK166; clear HB; have BK166 := n0_; have HB := n1_; clear n0_ n1_; (try clear hb); (try clear hb2); (try clear hk); (try clear hi); have hcz37_0 : w36.cell? ⟨gb166, 0, none⟩ = some (.int .i64 a0_0) := (blk_cell BK166.out 0).trans rfl; have hcz37_1 : w36.cell? ⟨gb166, 1, none⟩ = some (.int .i64 a0_1) := (blk_cell BK166.out 1).trans rfl; have hcz37_2 : w36.cell? ⟨gb166, 2, none⟩ = some (.int .i64 a0_2) := (blk_cell BK166.out 2).trans rfl; have hcz37_3 : w36.cell? ⟨gb166, 3, none⟩ = some (.int .i64 a0_3) := (blk_cell BK166.out 3).trans rfl; have hcz37_4 : w36.cell? ⟨gb166, 4, none⟩ = some (.int .i64 a0_4) := (blk_cell BK166.out 4).trans rfl; have hcz37_5 : w36.cell? ⟨gb166, 5, none⟩ = some (.int .i64 a0_5) := (blk_cell BK166.out 5).trans rfl; have hfz37_0 := blk_frozen BK166.out 0; have hfz37_1 := blk_frozen BK166.out 1; have hfz37_2 := blk_frozen BK166.out 2; have hfz37_3 := blk_frozen BK166.out 3; have hfz37_4 := blk_frozen BK166.out 4; have hfz37_5 := blk_frozen BK166.out 5) | ((with_reducible refine gate_callee (f := 11) rfl ?_); refine goesL_ (some 42) rfl rfl Try.func11 (by kernel_rfl) rfl #[.agg #[.int .i64 a0_0, .int .i64 a0_1, .int .i64 a0_2, .int .i64 a0_3, .int .i64 a0_4, .int .i64 a0_5], .int .i64 a2] rfl (by (try simp only [List.map_toArray, List.map_cons, List.map_nil]); first | done | rfl | (simp only [List.length_drop, List.length_take]; rfl)) ?_; (with_reducible refine (units_At.calls a0_0 a0_1 a0_2 a0_3 a0_4 a0_5 a2 t170 _ A26.out).mono ?_); rintro e w38 ⟨rfl, hb⟩; refine ⟨_, rfl, ?_⟩; have n0_ := Aside0.mk (blk_below (g := gb166) (o := .cells #[.int .i64 a0_0, .int .i64 a0_1, .int .i64 a0_2, .int .i64 a0_3, .int .i64 a0_4, .int .i64 a0_5] 23 (0, 0)) (by (with_reducible repeat (first | refine blk_drewN ?_ _ | refine blk_drew ?_ | refine blk_alloc ?_ _)); exact BK166.out) hb); have n1_ := Aside0.mk (below_step (by repeat (first | (with_reducible first | exact HB.out | apply below_alloc | apply pw_below_drewN | apply below_drew1 | refine below_set ?_ GE166.out) | exact HB.out)) hb); clear BK166; clear HB; have BK166 := n0_; have HB := n1_; clear n0_ n1_; (try clear hb); (try clear hb2); (try clear hk); (try clear hi); have hcz39_0 : w38.cell? ⟨gb166, 0, none⟩ = some (.int .i64 a0_0) := (blk_cell BK166.out 0).trans rfl; have hcz39_1 : w38.cell? ⟨gb166, 1, none⟩ = some (.int .i64 a0_1) := (blk_cell BK166.out 1).trans rfl; have hcz39_2 : w38.cell? ⟨gb166, 2, none⟩ = some (.int .i64 a0_2) := (blk_cell BK166.out 2).trans rfl; have hcz39_3 : w38.cell? ⟨gb166, 3, none⟩ = some (.int .i64 a0_3) := (blk_cell BK166.out 3).trans rfl; have hcz39_4 : w38.cell? ⟨gb166, 4, none⟩ = some (.int .i64 a0_4) := (blk_cell BK166.out 4).trans rfl; have hcz39_5 : w38.cell? ⟨gb166, 5, none⟩ = some (.int .i64 a0_5) := (blk_cell BK166.out 5).trans rfl; have hfz39_0 := blk_frozen BK166.out 0; have hfz39_1 := blk_frozen BK166.out 1; have hfz39_2 := blk_frozen BK166.out 2; have hfz39_3 := blk_frozen BK166.out 3; have hfz39_4 := blk_frozen BK166.out 4; have hfz39_5 := blk_frozen BK166.out 5) | (go_at_call 13; (with_reducible refine (units_Top.calls a0_0 a0_1 a0_2 a0_3 a0_4 a0_5 t171 _ A32.out).mono ?_); rintro e w40 ⟨rfl, hb⟩; have n0_ := Aside0.mk (blk_below (g := gb166) (o := .cells #[.int .i64 a0_0, .int .i64 a0_1, .int .i64 a0_2, .int .i64 a0_3, .int .i64 a0_4, .int .i64 a0_5] 23 (0, 0)) (by (with_reducible repeat (first | refine blk_drewN ?_ _ | refine blk_drew ?_ | refine blk_alloc ?_ _)); exact BK166.out) hb); have n1_ := Aside0.mk (below_step (by repeat (first | (with_reducible first | exact HB.out | apply below_alloc | apply pw_below_drewN | apply below_drew1 | refine below_set ?_ GE166.out) | exact HB.out)) hb); clear BK166; clear HB; have BK166 := n0_; have HB := n1_; clear n0_ n1_; (try clear hb); (try clear hb2); (try clear hk); (try clear hi); have hcz41_0 : w40.cell? ⟨gb166, 0, none⟩ = some (.int .i64 a0_0) := (blk_cell BK166.out 0).trans rfl; have hcz41_1 : w40.cell? ⟨gb166, 1, none⟩ = some (.int .i64 a0_1) := (blk_cell BK166.out 1).trans rfl; have hcz41_2 : w40.cell? ⟨gb166, 2, none⟩ = some (.int .i64 a0_2) := (blk_cell BK166.out 2).trans rfl; have hcz41_3 : w40.cell? ⟨gb166, 3, none⟩ = some (.int .i64 a0_3) := (blk_cell BK166.out 3).trans rfl; have hcz41_4 : w40.cell? ⟨gb166, 4, none⟩ = some (.int .i64 a0_4) := (blk_cell BK166.out 4).trans rfl; have hcz41_5 : w40.cell? ⟨gb166, 5, none⟩ = some (.int .i64 a0_5) := (blk_cell BK166.out 5).trans rfl; have hfz41_0 := blk_frozen BK166.out 0; have hfz41_1 := blk_frozen BK166.out 1; have hfz41_2 := blk_frozen BK166.out 2; have hfz41_3 := blk_frozen BK166.out 3; have hfz41_4 := blk_frozen BK166.out 4; have hfz41_5 := blk_frozen BK166.out 5) | (go_at_call 15; (with_reducible refine (units_Least.calls a0_0 a0_1 a0_2 a0_3 a0_4 a0_5 t172 _ A34.out).mono ?_); rintro e w42 ⟨rfl, hb⟩; have n0_ := Aside0.mk (blk_below (g := gb166) (o := .cells #[.int .i64 a0_0, .int .i64 a0_1, .int .i64 a0_2, .int .i64 a0_3, .int .i64 a0_4, .int .i64 a0_5] 23 (0, 0)) (by (with_reducible repeat (first | refine blk_drewN ?_ _ | refine blk_drew ?_ | refine blk_alloc ?_ _)); exact BK166.out) hb); have n1_ := Aside0.mk (below_step (by repeat (first | (with_reducible first | exact HB.out | apply below_alloc | apply pw_below_drewN | apply below_drew1 | refine below_set ?_ GE166.out) | exact HB.out)) hb); clear BK166; clear HB; have BK166 := n0_; have HB := n1_; clear n0_ n1_; (try clear hb); (try clear hb2); (try clear hk); (try clear hi)))
                    go_ret
                    exact ⟨by first | rfl | (simp [errW_none, errW_some] <;> rfl) | (simp [*, errW_none, errW_some] <;> rfl) | (exfalso; first | exact absurd ‹(false != false) = true› (by decide) | exact absurd ‹(true != true) = true› (by decide) | exact absurd ‹(true != false) = false› (by decide) | exact absurd ‹(false != true) = false› (by decide) | exact absurd ‹(false == false) = false› (by decide) | exact absurd ‹(true == true) = false› (by decide) | exact absurd ‹(true == false) = true› (by decide) | exact absurd ‹(false == true) = true› (by decide)), by repeat (first | (with_reducible first | exact HB.out | apply below_alloc | apply pw_below_drewN | apply below_drew1 | refine below_set ?_ GE166.out) | exact HB.out)⟩
                  · rw [if_neg c33] at H
                    have c33b0 : decide (t169 ≤ t171) = false := decide_eq_false c33
                    clear c33
                    obtain rfl := Option.some.inj H
                    have hcz43_0 : wc.cell? ⟨gb166, 0, none⟩ = some (.int .i64 a0_0) := (blk_cell BK166.out 0).trans rfl
                    have hcz43_1 : wc.cell? ⟨gb166, 1, none⟩ = some (.int .i64 a0_1) := (blk_cell BK166.out 1).trans rfl
                    have hcz43_2 : wc.cell? ⟨gb166, 2, none⟩ = some (.int .i64 a0_2) := (blk_cell BK166.out 2).trans rfl
                    have hcz43_3 : wc.cell? ⟨gb166, 3, none⟩ = some (.int .i64 a0_3) := (blk_cell BK166.out 3).trans rfl
                    have hcz43_4 : wc.cell? ⟨gb166, 4, none⟩ = some (.int .i64 a0_4) := (blk_cell BK166.out 4).trans rfl
                    have hcz43_5 : wc.cell? ⟨gb166, 5, none⟩ = some (.int .i64 a0_5) := (blk_cell BK166.out 5).trans rfl
                    have hfz43_0 := blk_frozen BK166.out 0
                    have hfz43_1 := blk_frozen BK166.out 1
                    have hfz43_2 := blk_frozen BK166.out 2
                    have hfz43_3 := blk_frozen BK166.out 3
                    have hfz43_4 := blk_frozen BK166.out 4
                    have hfz43_5 := blk_frozen BK166.out 5
                    go_wp2_with (first | ((with_reducible refine gate_callee (f := 11) rfl ?_); refine goesL_ (some 39) rfl rfl Try.func11 (by kernel_rfl) rfl #[.agg #[.int .i64 a0_0, .int .i64 a0_1, .int .i64 a0_2, .int .i64 a0_3, .int .i64 a0_4, .int .i64 a0_5], .int .i64 a1] rfl (by (try simp only [List.map_toArray, List.map_cons, List.map_nil]); first | done | rfl | (simp only [List.length_drop, List.length_take]; rfl)) ?_; (with_reducible refine (units_At.calls a0_0 a0_1 a0_2 a0_3 a0_4 a0_5 a1 t169 _ A25.out).mono ?_); rintro e w44 ⟨rfl, hb⟩; refine ⟨_, rfl, ?_⟩; have n0_ := Aside0.mk (blk_below (g := gb166) (o := .cells #[.int .i64 a0_0, .int .i64 a0_1, .int .i64 a0_2, .int .i64 a0_3, .int .i64 a0_4, .int .i64 a0_5] 23 (0, 0)) (by (with_reducible repeat (first | refine blk_drewN ?_ _ | refine blk_drew ?_ | refine blk_alloc ?_ _)); exact BK166.out) hb); have n1_ := Aside0.mk (below_step (by repeat (first | (with_reducible first | exact HB.out | apply below_alloc | apply pw_below_drewN | apply below_drew1 | refine below_set ?_ GE166.out) | exact HB.out)) hb); clear BK166; clear HB; have BK166 := n0_; have HB := n1_; clear n0_ n1_; (try clear hb); (try clear hb2); (try clear hk); (try clear hi); have hcz45_0 : w44.cell? ⟨gb166, 0, none⟩ = some (.int .i64 a0_0) := (blk_cell BK166.out 0).trans rfl; have hcz45_1 : w44.cell? ⟨gb166, 1, none⟩ = some (.int .i64 a0_1) := (blk_cell BK166.out 1).trans rfl; have hcz45_2 : w44.cell? ⟨gb166, 2, none⟩ = some (.int .i64 a0_2) := (blk_cell BK166.out 2).trans rfl; have hcz45_3 : w44.cell? ⟨gb166, 3, none⟩ = some (.int .i64 a0_3) := (blk_cell BK166.out 3).trans rfl; have hcz45_4 : w44.cell? ⟨gb166, 4, none⟩ = some (.int .i64 a0_4) := (blk_cell BK166.out 4).trans rfl; have hcz45_5 : w44.cell? ⟨gb166, 5, none⟩ = some (.int .i64 a0_5) := (blk_cell BK166.out 5).trans rfl; have hfz45_0 := blk_frozen BK166.out 0; have hfz45_1 := blk_frozen BK166.out 1; have hfz45_2 := blk_frozen BK166.out 2; have hfz45_3 := blk_frozen BK166.out 3; have hfz45_4 := blk_frozen BK166.out 4; have hfz45_5 := blk_frozen BK166.out 5) | ((with_reducible refine gate_callee (f := 11) rfl ?_); refine goesL_ (some 42) rfl rfl Try.func11 (by kernel_rfl) rfl #[.agg #[.int .i64 a0_0, .int .i64 a0_1, .int .i64 a0_2, .int .i64 a0_3, .int .i64 a0_4, .int .i64 a0_5], .int .i64 a2] rfl (by (try simp only [List.map_toArray, List.map_cons, List.map_nil]); first | done | rfl | (simp only [List.length_drop, List.length_take]; rfl)) ?_; (with_reducible refine (units_At.calls a0_0 a0_1 a0_2 a0_3 a0_4 a0_5 a2 t170 _ A26.out).mono ?_); rintro e w46 ⟨rfl, hb⟩; refine ⟨_, rfl, ?_⟩; have n0_ := Aside0.mk (blk_below (g := gb166) (o := .cells #[.int .i64 a0_0, .int .i64 a0_1, .int .i64 a0_2, .int .i64 a0_3, .int .i64 a0_4, .int .i64 a0_5] 23 (0, 0)) (by (with_reducible repeat (first | refine blk_drewN ?_ _ | refine blk_drew ?_ | refine blk_alloc ?_ _)); exact BK166.out) hb); have n1_ := Aside0.mk (below_step (by repeat (first | (with_reducible first | exact HB.out | apply below_alloc | apply pw_below_drewN | apply below_drew1 | refine below_set ?_ GE166.out) | exact HB.out)) hb); clear BK166; clear HB; have BK166 := n0_; have HB := n1_; clear n0_ n1_; (try clear hb); (try clear hb2); (try clear hk); (try clear hi); have hcz47_0 : w46.cell? ⟨gb166, 0, none⟩ = some (.int .i64 a0_0) := (blk_cell BK166.out 0).trans rfl; have hcz47_1 : w46.cell? ⟨gb166, 1, none⟩ = some (.int .i64 a0_1) := (blk_cell BK166.out 1).trans rfl; have hcz47_2 : w46.cell? ⟨gb166, 2, none⟩ = some (.int .i64 a0_2) := (blk_cell BK166.out 2).trans rfl; have hcz47_3 : w46.cell? ⟨gb166, 3, none⟩ = some (.int .i64 a0_3) := (blk_cell BK166.out 3).trans rfl; have hcz47_4 : w46.cell? ⟨gb166, 4, none⟩ = some (.int .i64 a0_4) := (blk_cell BK166.out 4).trans rfl; have hcz47_5 : w46.cell? ⟨gb166, 5, none⟩ = some (.int .i64 a0_5) := (blk_cell BK166.out 5).trans rfl; have hfz47_0 := blk_frozen BK166.out 0; have hfz47_1 := blk_frozen BK166.out 1; have hfz47_2 := blk_frozen BK166.out 2; have hfz47_3 := blk_frozen BK166.out 3; have hfz47_4 := blk_frozen BK166.out 4; have hfz47_5 := blk_frozen BK166.out 5) | (go_at_call 13; (with_reducible refine (units_Top.calls a0_0 a0_1 a0_2 a0_3 a0_4 a0_5 t171 _ A32.out).mono ?_); rintro e w48 ⟨rfl, hb⟩; have n0_ := Aside0.mk (blk_below (g := gb166) (o := .cells #[.int .i64 a0_0, .int .i64 a0_1, .int .i64 a0_2, .int .i64 a0_3, .int .i64 a0_4, .int .i64 a0_5] 23 (0, 0)) (by (with_reducible repeat (first | refine blk_drewN ?_ _ | refine blk_drew ?_ | refine blk_alloc ?_ _)); exact BK166.out) hb); have n1_ := Aside0.mk (below_step (by repeat (first | (with_reducible first | exact HB.out | apply below_alloc | apply pw_below_drewN | apply below_drew1 | refine below_set ?_ GE166.out) | exact HB.out)) hb); clear BK166; clear HB; have BK166 := n0_; have HB := n1_; clear n0_ n1_; (try clear hb); (try clear hb2); (try clear hk); (try clear hi)))
                    go_ret
                    exact ⟨by first | rfl | (simp [errW_none, errW_some] <;> rfl) | (simp [*, errW_none, errW_some] <;> rfl) | (exfalso; first | exact absurd ‹(false != false) = true› (by decide) | exact absurd ‹(true != true) = true› (by decide) | exact absurd ‹(true != false) = false› (by decide) | exact absurd ‹(false != true) = false› (by decide) | exact absurd ‹(false == false) = false› (by decide) | exact absurd ‹(true == true) = false› (by decide) | exact absurd ‹(true == false) = true› (by decide) | exact absurd ‹(false == true) = true› (by decide)), by repeat (first | (with_reducible first | exact HB.out | apply below_alloc | apply pw_below_drewN | apply below_drew1 | refine below_set ?_ GE166.out) | exact HB.out)⟩
                · rw [if_neg c31] at H
                  have c31b0 : decide ((wrap64 ((wrap64 ((wrap64 (t169 - 1)) * a0_4)) * a1)) < (wrap64 ((wrap64 (a0_0 * a0_3)) * 1048576))) = false := decide_eq_false c31
                  clear c31
                  obtain rfl := Option.some.inj H
                  have hcz49_0 : wc.cell? ⟨gb166, 0, none⟩ = some (.int .i64 a0_0) := (blk_cell BK166.out 0).trans rfl
                  have hcz49_1 : wc.cell? ⟨gb166, 1, none⟩ = some (.int .i64 a0_1) := (blk_cell BK166.out 1).trans rfl
                  have hcz49_2 : wc.cell? ⟨gb166, 2, none⟩ = some (.int .i64 a0_2) := (blk_cell BK166.out 2).trans rfl
                  have hcz49_3 : wc.cell? ⟨gb166, 3, none⟩ = some (.int .i64 a0_3) := (blk_cell BK166.out 3).trans rfl
                  have hcz49_4 : wc.cell? ⟨gb166, 4, none⟩ = some (.int .i64 a0_4) := (blk_cell BK166.out 4).trans rfl
                  have hcz49_5 : wc.cell? ⟨gb166, 5, none⟩ = some (.int .i64 a0_5) := (blk_cell BK166.out 5).trans rfl
                  have hfz49_0 := blk_frozen BK166.out 0
                  have hfz49_1 := blk_frozen BK166.out 1
                  have hfz49_2 := blk_frozen BK166.out 2
                  have hfz49_3 := blk_frozen BK166.out 3
                  have hfz49_4 := blk_frozen BK166.out 4
                  have hfz49_5 := blk_frozen BK166.out 5
                  go_wp2_with (first | ((with_reducible refine gate_callee (f := 11) rfl ?_); refine goesL_ (some 39) rfl rfl Try.func11 (by kernel_rfl) rfl #[.agg #[.int .i64 a0_0, .int .i64 a0_1, .int .i64 a0_2, .int .i64 a0_3, .int .i64 a0_4, .int .i64 a0_5], .int .i64 a1] rfl (by (try simp only [List.map_toArray, List.map_cons, List.map_nil]); first | done | rfl | (simp only [List.length_drop, List.length_take]; rfl)) ?_; (with_reducible refine (units_At.calls a0_0 a0_1 a0_2 a0_3 a0_4 a0_5 a1 t169 _ A25.out).mono ?_); rintro e w50 ⟨rfl, hb⟩; refine ⟨_, rfl, ?_⟩; have n0_ := Aside0.mk (blk_below (g := gb166) (o := .cells #[.int .i64 a0_0, .int .i64 a0_1, .int .i64 a0_2, .int .i64 a0_3, .int .i64 a0_4, .int .i64 a0_5] 23 (0, 0)) (by (with_reducible repeat (first | refine blk_drewN ?_ _ | refine blk_drew ?_ | refine blk_alloc ?_ _)); exact BK166.out) hb); have n1_ := Aside0.mk (below_step (by repeat (first | (with_reducible first | exact HB.out | apply below_alloc | apply pw_below_drewN | apply below_drew1 | refine below_set ?_ GE166.out) | exact HB.out)) hb); clear BK166; clear HB; have BK166 := n0_; have HB := n1_; clear n0_ n1_; (try clear hb); (try clear hb2); (try clear hk); (try clear hi); have hcz51_0 : w50.cell? ⟨gb166, 0, none⟩ = some (.int .i64 a0_0) := (blk_cell BK166.out 0).trans rfl; have hcz51_1 : w50.cell? ⟨gb166, 1, none⟩ = some (.int .i64 a0_1) := (blk_cell BK166.out 1).trans rfl; have hcz51_2 : w50.cell? ⟨gb166, 2, none⟩ = some (.int .i64 a0_2) := (blk_cell BK166.out 2).trans rfl; have hcz51_3 : w50.cell? ⟨gb166, 3, none⟩ = some (.int .i64 a0_3) := (blk_cell BK166.out 3).trans rfl; have hcz51_4 : w50.cell? ⟨gb166, 4, none⟩ = some (.int .i64 a0_4) := (blk_cell BK166.out 4).trans rfl; have hcz51_5 : w50.cell? ⟨gb166, 5, none⟩ = some (.int .i64 a0_5) := (blk_cell BK166.out 5).trans rfl; have hfz51_0 := blk_frozen BK166.out 0; have hfz51_1 := blk_frozen BK166.out 1; have hfz51_2 := blk_frozen BK166.out 2; have hfz51_3 := blk_frozen BK166.out 3; have hfz51_4 := blk_frozen BK166.out 4; have hfz51_5 := blk_frozen BK166.out 5) | ((with_reducible refine gate_callee (f := 11) rfl ?_); refine goesL_ (some 42) rfl rfl Try.func11 (by kernel_rfl) rfl #[.agg #[.int .i64 a0_0, .int .i64 a0_1, .int .i64 a0_2, .int .i64 a0_3, .int .i64 a0_4, .int .i64 a0_5], .int .i64 a2] rfl (by (try simp only [List.map_toArray, List.map_cons, List.map_nil]); first | done | rfl | (simp only [List.length_drop, List.length_take]; rfl)) ?_; (with_reducible refine (units_At.calls a0_0 a0_1 a0_2 a0_3 a0_4 a0_5 a2 t170 _ A26.out).mono ?_); rintro e w52 ⟨rfl, hb⟩; refine ⟨_, rfl, ?_⟩; have n0_ := Aside0.mk (blk_below (g := gb166) (o := .cells #[.int .i64 a0_0, .int .i64 a0_1, .int .i64 a0_2, .int .i64 a0_3, .int .i64 a0_4, .int .i64 a0_5] 23 (0, 0)) (by (with_reducible repeat (first | refine blk_drewN ?_ _ | refine blk_drew ?_ | refine blk_alloc ?_ _)); exact BK166.out) hb); have n1_ := Aside0.mk (below_step (by repeat (first | (with_reducible first | exact HB.out | apply below_alloc | apply pw_below_drewN | apply below_drew1 | refine below_set ?_ GE166.out) | exact HB.out)) hb); clear BK166; clear HB; have BK166 := n0_; have HB := n1_; clear n0_ n1_; (try clear hb); (try clear hb2); (try clear hk); (try clear hi); have hcz53_0 : w52.cell? ⟨gb166, 0, none⟩ = some (.int .i64 a0_0) := (blk_cell BK166.out 0).trans rfl; have hcz53_1 : w52.cell? ⟨gb166, 1, none⟩ = some (.int .i64 a0_1) := (blk_cell BK166.out 1).trans rfl; have hcz53_2 : w52.cell? ⟨gb166, 2, none⟩ = some (.int .i64 a0_2) := (blk_cell BK166.out 2).trans rfl; have hcz53_3 : w52.cell? ⟨gb166, 3, none⟩ = some (.int .i64 a0_3) := (blk_cell BK166.out 3).trans rfl; have hcz53_4 : w52.cell? ⟨gb166, 4, none⟩ = some (.int .i64 a0_4) := (blk_cell BK166.out 4).trans rfl; have hcz53_5 : w52.cell? ⟨gb166, 5, none⟩ = some (.int .i64 a0_5) := (blk_cell BK166.out 5).trans rfl; have hfz53_0 := blk_frozen BK166.out 0; have hfz53_1 := blk_frozen BK166.out 1; have hfz53_2 := blk_frozen BK166.out 2; have hfz53_3 := blk_frozen BK166.out 3; have hfz53_4 := blk_frozen BK166.out 4; have hfz53_5 := blk_frozen BK166.out 5))
                  go_ret
                  exact ⟨by first | rfl | (simp [errW_none, errW_some] <;> rfl) | (simp [*, errW_none, errW_some] <;> rfl) | (exfalso; first | exact absurd ‹(false != false) = true› (by decide) | exact absurd ‹(true != true) = true› (by decide) | exact absurd ‹(true != false) = false› (by decide) | exact absurd ‹(false != true) = false› (by decide) | exact absurd ‹(false == false) = false› (by decide) | exact absurd ‹(true == true) = false› (by decide) | exact absurd ‹(true == false) = true› (by decide) | exact absurd ‹(false == true) = true› (by decide)), by repeat (first | (with_reducible first | exact HB.out | apply below_alloc | apply pw_below_drewN | apply below_drew1 | refine below_set ?_ GE166.out) | exact HB.out)⟩
              · rw [if_neg c30] at H
                have c30b0 : decide ((wrap64 ((wrap64 (a0_0 * a0_3)) * 1048576)) ≤ (wrap64 ((wrap64 (t169 * a0_4)) * a1))) = false := decide_eq_false c30
                clear c30
                obtain rfl := Option.some.inj H
                have hcz54_0 : wc.cell? ⟨gb166, 0, none⟩ = some (.int .i64 a0_0) := (blk_cell BK166.out 0).trans rfl
                have hcz54_1 : wc.cell? ⟨gb166, 1, none⟩ = some (.int .i64 a0_1) := (blk_cell BK166.out 1).trans rfl
                have hcz54_2 : wc.cell? ⟨gb166, 2, none⟩ = some (.int .i64 a0_2) := (blk_cell BK166.out 2).trans rfl
                have hcz54_3 : wc.cell? ⟨gb166, 3, none⟩ = some (.int .i64 a0_3) := (blk_cell BK166.out 3).trans rfl
                have hcz54_4 : wc.cell? ⟨gb166, 4, none⟩ = some (.int .i64 a0_4) := (blk_cell BK166.out 4).trans rfl
                have hcz54_5 : wc.cell? ⟨gb166, 5, none⟩ = some (.int .i64 a0_5) := (blk_cell BK166.out 5).trans rfl
                have hfz54_0 := blk_frozen BK166.out 0
                have hfz54_1 := blk_frozen BK166.out 1
                have hfz54_2 := blk_frozen BK166.out 2
                have hfz54_3 := blk_frozen BK166.out 3
                have hfz54_4 := blk_frozen BK166.out 4
                have hfz54_5 := blk_frozen BK166.out 5
                go_wp2_with (first | ((with_reducible refine gate_callee (f := 11) rfl ?_); refine goesL_ (some 39) rfl rfl Try.func11 (by kernel_rfl) rfl #[.agg #[.int .i64 a0_0, .int .i64 a0_1, .int .i64 a0_2, .int .i64 a0_3, .int .i64 a0_4, .int .i64 a0_5], .int .i64 a1] rfl (by (try simp only [List.map_toArray, List.map_cons, List.map_nil]); first | done | rfl | (simp only [List.length_drop, List.length_take]; rfl)) ?_; (with_reducible refine (units_At.calls a0_0 a0_1 a0_2 a0_3 a0_4 a0_5 a1 t169 _ A25.out).mono ?_); rintro e w55 ⟨rfl, hb⟩; refine ⟨_, rfl, ?_⟩; have n0_ := Aside0.mk (blk_below (g := gb166) (o := .cells #[.int .i64 a0_0, .int .i64 a0_1, .int .i64 a0_2, .int .i64 a0_3, .int .i64 a0_4, .int .i64 a0_5] 23 (0, 0)) (by (with_reducible repeat (first | refine blk_drewN ?_ _ | refine blk_drew ?_ | refine blk_alloc ?_ _)); exact BK166.out) hb); have n1_ := Aside0.mk (below_step (by repeat (first | (with_reducible first | exact HB.out | apply below_alloc | apply pw_below_drewN | apply below_drew1 | refine below_set ?_ GE166.out) | exact HB.out)) hb); clear BK166; clear HB; have BK166 := n0_; have HB := n1_; clear n0_ n1_; (try clear hb); (try clear hb2); (try clear hk); (try clear hi); have hcz56_0 : w55.cell? ⟨gb166, 0, none⟩ = some (.int .i64 a0_0) := (blk_cell BK166.out 0).trans rfl; have hcz56_1 : w55.cell? ⟨gb166, 1, none⟩ = some (.int .i64 a0_1) := (blk_cell BK166.out 1).trans rfl; have hcz56_2 : w55.cell? ⟨gb166, 2, none⟩ = some (.int .i64 a0_2) := (blk_cell BK166.out 2).trans rfl; have hcz56_3 : w55.cell? ⟨gb166, 3, none⟩ = some (.int .i64 a0_3) := (blk_cell BK166.out 3).trans rfl; have hcz56_4 : w55.cell? ⟨gb166, 4, none⟩ = some (.int .i64 a0_4) := (blk_cell BK166.out 4).trans rfl; have hcz56_5 : w55.cell? ⟨gb166, 5, none⟩ = some (.int .i64 a0_5) := (blk_cell BK166.out 5).trans rfl; have hfz56_0 := blk_frozen BK166.out 0; have hfz56_1 := blk_frozen BK166.out 1; have hfz56_2 := blk_frozen BK166.out 2; have hfz56_3 := blk_frozen BK166.out 3; have hfz56_4 := blk_frozen BK166.out 4; have hfz56_5 := blk_frozen BK166.out 5) | ((with_reducible refine gate_callee (f := 11) rfl ?_); refine goesL_ (some 42) rfl rfl Try.func11 (by kernel_rfl) rfl #[.agg #[.int .i64 a0_0, .int .i64 a0_1, .int .i64 a0_2, .int .i64 a0_3, .int .i64 a0_4, .int .i64 a0_5], .int .i64 a2] rfl (by (try simp only [List.map_toArray, List.map_cons, List.map_nil]); first | done | rfl | (simp only [List.length_drop, List.length_take]; rfl)) ?_; (with_reducible refine (units_At.calls a0_0 a0_1 a0_2 a0_3 a0_4 a0_5 a2 t170 _ A26.out).mono ?_); rintro e w57 ⟨rfl, hb⟩; refine ⟨_, rfl, ?_⟩; have n0_ := Aside0.mk (blk_below (g := gb166) (o := .cells #[.int .i64 a0_0, .int .i64 a0_1, .int .i64 a0_2, .int .i64 a0_3, .int .i64 a0_4, .int .i64 a0_5] 23 (0, 0)) (by (with_reducible repeat (first | refine blk_drewN ?_ _ | refine blk_drew ?_ | refine blk_alloc ?_ _)); exact BK166.out) hb); have n1_ := Aside0.mk (below_step (by repeat (first | (with_reducible first | exact HB.out | apply below_alloc | apply pw_below_drewN | apply below_drew1 | refine below_set ?_ GE166.out) | exact HB.out)) hb); clear BK166; clear HB; have BK166 := n0_; have HB := n1_; clear n0_ n1_; (try clear hb); (try clear hb2); (try clear hk); (try clear hi); have hcz58_0 : w57.cell? ⟨gb166, 0, none⟩ = some (.int .i64 a0_0) := (blk_cell BK166.out 0).trans rfl; have hcz58_1 : w57.cell? ⟨gb166, 1, none⟩ = some (.int .i64 a0_1) := (blk_cell BK166.out 1).trans rfl; have hcz58_2 : w57.cell? ⟨gb166, 2, none⟩ = some (.int .i64 a0_2) := (blk_cell BK166.out 2).trans rfl; have hcz58_3 : w57.cell? ⟨gb166, 3, none⟩ = some (.int .i64 a0_3) := (blk_cell BK166.out 3).trans rfl; have hcz58_4 : w57.cell? ⟨gb166, 4, none⟩ = some (.int .i64 a0_4) := (blk_cell BK166.out 4).trans rfl; have hcz58_5 : w57.cell? ⟨gb166, 5, none⟩ = some (.int .i64 a0_5) := (blk_cell BK166.out 5).trans rfl; have hfz58_0 := blk_frozen BK166.out 0; have hfz58_1 := blk_frozen BK166.out 1; have hfz58_2 := blk_frozen BK166.out 2; have hfz58_3 := blk_frozen BK166.out 3; have hfz58_4 := blk_frozen BK166.out 4; have hfz58_5 := blk_frozen BK166.out 5))
                go_ret
                exact ⟨by first | rfl | (simp [errW_none, errW_some] <;> rfl) | (simp [*, errW_none, errW_some] <;> rfl) | (exfalso; first | exact absurd ‹(false != false) = true› (by decide) | exact absurd ‹(true != true) = true› (by decide) | exact absurd ‹(true != false) = false› (by decide) | exact absurd ‹(false != true) = false› (by decide) | exact absurd ‹(false == false) = false› (by decide) | exact absurd ‹(true == true) = false› (by decide) | exact absurd ‹(true == false) = true› (by decide) | exact absurd ‹(false == true) = true› (by decide)), by repeat (first | (with_reducible first | exact HB.out | apply below_alloc | apply pw_below_drewN | apply below_drew1 | refine below_set ?_ GE166.out) | exact HB.out)⟩
            · rw [if_neg c29] at H
              have c29b0 : decide (t169 ≤ 1048576) = false := decide_eq_false c29
              clear c29
              obtain rfl := Option.some.inj H
              have hcz59_0 : wc.cell? ⟨gb166, 0, none⟩ = some (.int .i64 a0_0) := (blk_cell BK166.out 0).trans rfl
              have hcz59_1 : wc.cell? ⟨gb166, 1, none⟩ = some (.int .i64 a0_1) := (blk_cell BK166.out 1).trans rfl
              have hcz59_2 : wc.cell? ⟨gb166, 2, none⟩ = some (.int .i64 a0_2) := (blk_cell BK166.out 2).trans rfl
              have hcz59_3 : wc.cell? ⟨gb166, 3, none⟩ = some (.int .i64 a0_3) := (blk_cell BK166.out 3).trans rfl
              have hcz59_4 : wc.cell? ⟨gb166, 4, none⟩ = some (.int .i64 a0_4) := (blk_cell BK166.out 4).trans rfl
              have hcz59_5 : wc.cell? ⟨gb166, 5, none⟩ = some (.int .i64 a0_5) := (blk_cell BK166.out 5).trans rfl
              have hfz59_0 := blk_frozen BK166.out 0
              have hfz59_1 := blk_frozen BK166.out 1
              have hfz59_2 := blk_frozen BK166.out 2
              have hfz59_3 := blk_frozen BK166.out 3
              have hfz59_4 := blk_frozen BK166.out 4
              have hfz59_5 := blk_frozen BK166.out 5
              go_wp2_with (first | ((with_reducible refine gate_callee (f := 11) rfl ?_); refine goesL_ (some 39) rfl rfl Try.func11 (by kernel_rfl) rfl #[.agg #[.int .i64 a0_0, .int .i64 a0_1, .int .i64 a0_2, .int .i64 a0_3, .int .i64 a0_4, .int .i64 a0_5], .int .i64 a1] rfl (by (try simp only [List.map_toArray, List.map_cons, List.map_nil]); first | done | rfl | (simp only [List.length_drop, List.length_take]; rfl)) ?_; (with_reducible refine (units_At.calls a0_0 a0_1 a0_2 a0_3 a0_4 a0_5 a1 t169 _ A25.out).mono ?_); rintro e w60 ⟨rfl, hb⟩; refine ⟨_, rfl, ?_⟩; have n0_ := Aside0.mk (blk_below (g := gb166) (o := .cells #[.int .i64 a0_0, .int .i64 a0_1, .int .i64 a0_2, .int .i64 a0_3, .int .i64 a0_4, .int .i64 a0_5] 23 (0, 0)) (by (with_reducible repeat (first | refine blk_drewN ?_ _ | refine blk_drew ?_ | refine blk_alloc ?_ _)); exact BK166.out) hb); have n1_ := Aside0.mk (below_step (by repeat (first | (with_reducible first | exact HB.out | apply below_alloc | apply pw_below_drewN | apply below_drew1 | refine below_set ?_ GE166.out) | exact HB.out)) hb); clear BK166; clear HB; have BK166 := n0_; have HB := n1_; clear n0_ n1_; (try clear hb); (try clear hb2); (try clear hk); (try clear hi); have hcz61_0 : w60.cell? ⟨gb166, 0, none⟩ = some (.int .i64 a0_0) := (blk_cell BK166.out 0).trans rfl; have hcz61_1 : w60.cell? ⟨gb166, 1, none⟩ = some (.int .i64 a0_1) := (blk_cell BK166.out 1).trans rfl; have hcz61_2 : w60.cell? ⟨gb166, 2, none⟩ = some (.int .i64 a0_2) := (blk_cell BK166.out 2).trans rfl; have hcz61_3 : w60.cell? ⟨gb166, 3, none⟩ = some (.int .i64 a0_3) := (blk_cell BK166.out 3).trans rfl; have hcz61_4 : w60.cell? ⟨gb166, 4, none⟩ = some (.int .i64 a0_4) := (blk_cell BK166.out 4).trans rfl; have hcz61_5 : w60.cell? ⟨gb166, 5, none⟩ = some (.int .i64 a0_5) := (blk_cell BK166.out 5).trans rfl; have hfz61_0 := blk_frozen BK166.out 0; have hfz61_1 := blk_frozen BK166.out 1; have hfz61_2 := blk_frozen BK166.out 2; have hfz61_3 := blk_frozen BK166.out 3; have hfz61_4 := blk_frozen BK166.out 4; have hfz61_5 := blk_frozen BK166.out 5) | ((with_reducible refine gate_callee (f := 11) rfl ?_); refine goesL_ (some 42) rfl rfl Try.func11 (by kernel_rfl) rfl #[.agg #[.int .i64 a0_0, .int .i64 a0_1, .int .i64 a0_2, .int .i64 a0_3, .int .i64 a0_4, .int .i64 a0_5], .int .i64 a2] rfl (by (try simp only [List.map_toArray, List.map_cons, List.map_nil]); first | done | rfl | (simp only [List.length_drop, List.length_take]; rfl)) ?_; (with_reducible refine (units_At.calls a0_0 a0_1 a0_2 a0_3 a0_4 a0_5 a2 t170 _ A26.out).mono ?_); rintro e w62 ⟨rfl, hb⟩; refine ⟨_, rfl, ?_⟩; have n0_ := Aside0.mk (blk_below (g := gb166) (o := .cells #[.int .i64 a0_0, .int .i64 a0_1, .int .i64 a0_2, .int .i64 a0_3, .int .i64 a0_4, .int .i64 a0_5] 23 (0, 0)) (by (with_reducible repeat (first | refine blk_drewN ?_ _ | refine blk_drew ?_ | refine blk_alloc ?_ _)); exact BK166.out) hb); have n1_ := Aside0.mk (below_step (by repeat (first | (with_reducible first | exact HB.out | apply below_alloc | apply pw_below_drewN | apply below_drew1 | refine below_set ?_ GE166.out) | exact HB.out)) hb); clear BK166; clear HB; have BK166 := n0_; have HB := n1_; clear n0_ n1_; (try clear hb); (try clear hb2); (try clear hk); (try clear hi); have hcz63_0 : w62.cell? ⟨gb166, 0, none⟩ = some (.int .i64 a0_0) := (blk_cell BK166.out 0).trans rfl; have hcz63_1 : w62.cell? ⟨gb166, 1, none⟩ = some (.int .i64 a0_1) := (blk_cell BK166.out 1).trans rfl; have hcz63_2 : w62.cell? ⟨gb166, 2, none⟩ = some (.int .i64 a0_2) := (blk_cell BK166.out 2).trans rfl; have hcz63_3 : w62.cell? ⟨gb166, 3, none⟩ = some (.int .i64 a0_3) := (blk_cell BK166.out 3).trans rfl; have hcz63_4 : w62.cell? ⟨gb166, 4, none⟩ = some (.int .i64 a0_4) := (blk_cell BK166.out 4).trans rfl; have hcz63_5 : w62.cell? ⟨gb166, 5, none⟩ = some (.int .i64 a0_5) := (blk_cell BK166.out 5).trans rfl; have hfz63_0 := blk_frozen BK166.out 0; have hfz63_1 := blk_frozen BK166.out 1; have hfz63_2 := blk_frozen BK166.out 2; have hfz63_3 := blk_frozen BK166.out 3; have hfz63_4 := blk_frozen BK166.out 4; have hfz63_5 := blk_frozen BK166.out 5))
              go_ret
              exact ⟨by first | rfl | (simp [errW_none, errW_some] <;> rfl) | (simp [*, errW_none, errW_some] <;> rfl) | (exfalso; first | exact absurd ‹(false != false) = true› (by decide) | exact absurd ‹(true != true) = true› (by decide) | exact absurd ‹(true != false) = false› (by decide) | exact absurd ‹(false != true) = false› (by decide) | exact absurd ‹(false == false) = false› (by decide) | exact absurd ‹(true == true) = false› (by decide) | exact absurd ‹(true == false) = true› (by decide) | exact absurd ‹(false == true) = true› (by decide)), by repeat (first | (with_reducible first | exact HB.out | apply below_alloc | apply pw_below_drewN | apply below_drew1 | refine below_set ?_ GE166.out) | exact HB.out)⟩
          · rw [if_neg c28] at H
            have c28b0 : decide (1 ≤ t170) = false := decide_eq_false c28
            clear c28
            obtain rfl := Option.some.inj H
            have hcz64_0 : wc.cell? ⟨gb166, 0, none⟩ = some (.int .i64 a0_0) := (blk_cell BK166.out 0).trans rfl
            have hcz64_1 : wc.cell? ⟨gb166, 1, none⟩ = some (.int .i64 a0_1) := (blk_cell BK166.out 1).trans rfl
            have hcz64_2 : wc.cell? ⟨gb166, 2, none⟩ = some (.int .i64 a0_2) := (blk_cell BK166.out 2).trans rfl
            have hcz64_3 : wc.cell? ⟨gb166, 3, none⟩ = some (.int .i64 a0_3) := (blk_cell BK166.out 3).trans rfl
            have hcz64_4 : wc.cell? ⟨gb166, 4, none⟩ = some (.int .i64 a0_4) := (blk_cell BK166.out 4).trans rfl
            have hcz64_5 : wc.cell? ⟨gb166, 5, none⟩ = some (.int .i64 a0_5) := (blk_cell BK166.out 5).trans rfl
            have hfz64_0 := blk_frozen BK166.out 0
            have hfz64_1 := blk_frozen BK166.out 1
            have hfz64_2 := blk_frozen BK166.out 2
            have hfz64_3 := blk_frozen BK166.out 3
            have hfz64_4 := blk_frozen BK166.out 4
            have hfz64_5 := blk_frozen BK166.out 5
            go_wp2_with (first | ((with_reducible refine gate_callee (f := 11) rfl ?_); refine goesL_ (some 39) rfl rfl Try.func11 (by kernel_rfl) rfl #[.agg #[.int .i64 a0_0, .int .i64 a0_1, .int .i64 a0_2, .int .i64 a0_3, .int .i64 a0_4, .int .i64 a0_5], .int .i64 a1] rfl (by (try simp only [List.map_toArray, List.map_cons, List.map_nil]); first | done | rfl | (simp only [List.length_drop, List.length_take]; rfl)) ?_; (with_reducible refine (units_At.calls a0_0 a0_1 a0_2 a0_3 a0_4 a0_5 a1 t169 _ A25.out).mono ?_); rintro e w65 ⟨rfl, hb⟩; refine ⟨_, rfl, ?_⟩; have n0_ := Aside0.mk (blk_below (g := gb166) (o := .cells #[.int .i64 a0_0, .int .i64 a0_1, .int .i64 a0_2, .int .i64 a0_3, .int .i64 a0_4, .int .i64 a0_5] 23 (0, 0)) (by (with_reducible repeat (first | refine blk_drewN ?_ _ | refine blk_drew ?_ | refine blk_alloc ?_ _)); exact BK166.out) hb); have n1_ := Aside0.mk (below_step (by repeat (first | (with_reducible first | exact HB.out | apply below_alloc | apply pw_below_drewN | apply below_drew1 | refine below_set ?_ GE166.out) | exact HB.out)) hb); clear BK166; clear HB; have BK166 := n0_; have HB := n1_; clear n0_ n1_; (try clear hb); (try clear hb2); (try clear hk); (try clear hi); have hcz66_0 : w65.cell? ⟨gb166, 0, none⟩ = some (.int .i64 a0_0) := (blk_cell BK166.out 0).trans rfl; have hcz66_1 : w65.cell? ⟨gb166, 1, none⟩ = some (.int .i64 a0_1) := (blk_cell BK166.out 1).trans rfl; have hcz66_2 : w65.cell? ⟨gb166, 2, none⟩ = some (.int .i64 a0_2) := (blk_cell BK166.out 2).trans rfl; have hcz66_3 : w65.cell? ⟨gb166, 3, none⟩ = some (.int .i64 a0_3) := (blk_cell BK166.out 3).trans rfl; have hcz66_4 : w65.cell? ⟨gb166, 4, none⟩ = some (.int .i64 a0_4) := (blk_cell BK166.out 4).trans rfl; have hcz66_5 : w65.cell? ⟨gb166, 5, none⟩ = some (.int .i64 a0_5) := (blk_cell BK166.out 5).trans rfl; have hfz66_0 := blk_frozen BK166.out 0; have hfz66_1 := blk_frozen BK166.out 1; have hfz66_2 := blk_frozen BK166.out 2; have hfz66_3 := blk_frozen BK166.out 3; have hfz66_4 := blk_frozen BK166.out 4; have hfz66_5 := blk_frozen BK166.out 5) | ((with_reducible refine gate_callee (f := 11) rfl ?_); refine goesL_ (some 42) rfl rfl Try.func11 (by kernel_rfl) rfl #[.agg #[.int .i64 a0_0, .int .i64 a0_1, .int .i64 a0_2, .int .i64 a0_3, .int .i64 a0_4, .int .i64 a0_5], .int .i64 a2] rfl (by (try simp only [List.map_toArray, List.map_cons, List.map_nil]); first | done | rfl | (simp only [List.length_drop, List.length_take]; rfl)) ?_; (with_reducible refine (units_At.calls a0_0 a0_1 a0_2 a0_3 a0_4 a0_5 a2 t170 _ A26.out).mono ?_); rintro e w67 ⟨rfl, hb⟩; refine ⟨_, rfl, ?_⟩; have n0_ := Aside0.mk (blk_below (g := gb166) (o := .cells #[.int .i64 a0_0, .int .i64 a0_1, .int .i64 a0_2, .int .i64 a0_3, .int .i64 a0_4, .int .i64 a0_5] 23 (0, 0)) (by (with_reducible repeat (first | refine blk_drewN ?_ _ | refine blk_drew ?_ | refine blk_alloc ?_ _)); exact BK166.out) hb); have n1_ := Aside0.mk (below_step (by repeat (first | (with_reducible first | exact HB.out | apply below_alloc | apply pw_below_drewN | apply below_drew1 | refine below_set ?_ GE166.out) | exact HB.out)) hb); clear BK166; clear HB; have BK166 := n0_; have HB := n1_; clear n0_ n1_; (try clear hb); (try clear hb2); (try clear hk); (try clear hi); have hcz68_0 : w67.cell? ⟨gb166, 0, none⟩ = some (.int .i64 a0_0) := (blk_cell BK166.out 0).trans rfl; have hcz68_1 : w67.cell? ⟨gb166, 1, none⟩ = some (.int .i64 a0_1) := (blk_cell BK166.out 1).trans rfl; have hcz68_2 : w67.cell? ⟨gb166, 2, none⟩ = some (.int .i64 a0_2) := (blk_cell BK166.out 2).trans rfl; have hcz68_3 : w67.cell? ⟨gb166, 3, none⟩ = some (.int .i64 a0_3) := (blk_cell BK166.out 3).trans rfl; have hcz68_4 : w67.cell? ⟨gb166, 4, none⟩ = some (.int .i64 a0_4) := (blk_cell BK166.out 4).trans rfl; have hcz68_5 : w67.cell? ⟨gb166, 5, none⟩ = some (.int .i64 a0_5) := (blk_cell BK166.out 5).trans rfl; have hfz68_0 := blk_frozen BK166.out 0; have hfz68_1 := blk_frozen BK166.out 1; have hfz68_2 := blk_frozen BK166.out 2; have hfz68_3 := blk_frozen BK166.out 3; have hfz68_4 := blk_frozen BK166.out 4; have hfz68_5 := blk_frozen BK166.out 5))
            go_ret
            exact ⟨by first | rfl | (simp [errW_none, errW_some] <;> rfl) | (simp [*, errW_none, errW_some] <;> rfl) | (exfalso; first | exact absurd ‹(false != false) = true› (by decide) | exact absurd ‹(true != true) = true› (by decide) | exact absurd ‹(true != false) = false› (by decide) | exact absurd ‹(false != true) = false› (by decide) | exact absurd ‹(false == false) = false› (by decide) | exact absurd ‹(true == true) = false› (by decide) | exact absurd ‹(true == false) = true› (by decide) | exact absurd ‹(false == true) = true› (by decide)), by repeat (first | (with_reducible first | exact HB.out | apply below_alloc | apply pw_below_drewN | apply below_drew1 | refine below_set ?_ GE166.out) | exact HB.out)⟩
        · rw [if_neg c27] at H
          have c27b0 : decide (t170 ≤ t169) = false := decide_eq_false c27
          clear c27
          obtain rfl := Option.some.inj H
          have hcz69_0 : wc.cell? ⟨gb166, 0, none⟩ = some (.int .i64 a0_0) := (blk_cell BK166.out 0).trans rfl
          have hcz69_1 : wc.cell? ⟨gb166, 1, none⟩ = some (.int .i64 a0_1) := (blk_cell BK166.out 1).trans rfl
          have hcz69_2 : wc.cell? ⟨gb166, 2, none⟩ = some (.int .i64 a0_2) := (blk_cell BK166.out 2).trans rfl
          have hcz69_3 : wc.cell? ⟨gb166, 3, none⟩ = some (.int .i64 a0_3) := (blk_cell BK166.out 3).trans rfl
          have hcz69_4 : wc.cell? ⟨gb166, 4, none⟩ = some (.int .i64 a0_4) := (blk_cell BK166.out 4).trans rfl
          have hcz69_5 : wc.cell? ⟨gb166, 5, none⟩ = some (.int .i64 a0_5) := (blk_cell BK166.out 5).trans rfl
          have hfz69_0 := blk_frozen BK166.out 0
          have hfz69_1 := blk_frozen BK166.out 1
          have hfz69_2 := blk_frozen BK166.out 2
          have hfz69_3 := blk_frozen BK166.out 3
          have hfz69_4 := blk_frozen BK166.out 4
          have hfz69_5 := blk_frozen BK166.out 5
          go_wp2_with (first | ((with_reducible refine gate_callee (f := 11) rfl ?_); refine goesL_ (some 39) rfl rfl Try.func11 (by kernel_rfl) rfl #[.agg #[.int .i64 a0_0, .int .i64 a0_1, .int .i64 a0_2, .int .i64 a0_3, .int .i64 a0_4, .int .i64 a0_5], .int .i64 a1] rfl (by (try simp only [List.map_toArray, List.map_cons, List.map_nil]); first | done | rfl | (simp only [List.length_drop, List.length_take]; rfl)) ?_; (with_reducible refine (units_At.calls a0_0 a0_1 a0_2 a0_3 a0_4 a0_5 a1 t169 _ A25.out).mono ?_); rintro e w70 ⟨rfl, hb⟩; refine ⟨_, rfl, ?_⟩; have n0_ := Aside0.mk (blk_below (g := gb166) (o := .cells #[.int .i64 a0_0, .int .i64 a0_1, .int .i64 a0_2, .int .i64 a0_3, .int .i64 a0_4, .int .i64 a0_5] 23 (0, 0)) (by (with_reducible repeat (first | refine blk_drewN ?_ _ | refine blk_drew ?_ | refine blk_alloc ?_ _)); exact BK166.out) hb); have n1_ := Aside0.mk (below_step (by repeat (first | (with_reducible first | exact HB.out | apply below_alloc | apply pw_below_drewN | apply below_drew1 | refine below_set ?_ GE166.out) | exact HB.out)) hb); clear BK166; clear HB; have BK166 := n0_; have HB := n1_; clear n0_ n1_; (try clear hb); (try clear hb2); (try clear hk); (try clear hi); have hcz71_0 : w70.cell? ⟨gb166, 0, none⟩ = some (.int .i64 a0_0) := (blk_cell BK166.out 0).trans rfl; have hcz71_1 : w70.cell? ⟨gb166, 1, none⟩ = some (.int .i64 a0_1) := (blk_cell BK166.out 1).trans rfl; have hcz71_2 : w70.cell? ⟨gb166, 2, none⟩ = some (.int .i64 a0_2) := (blk_cell BK166.out 2).trans rfl; have hcz71_3 : w70.cell? ⟨gb166, 3, none⟩ = some (.int .i64 a0_3) := (blk_cell BK166.out 3).trans rfl; have hcz71_4 : w70.cell? ⟨gb166, 4, none⟩ = some (.int .i64 a0_4) := (blk_cell BK166.out 4).trans rfl; have hcz71_5 : w70.cell? ⟨gb166, 5, none⟩ = some (.int .i64 a0_5) := (blk_cell BK166.out 5).trans rfl; have hfz71_0 := blk_frozen BK166.out 0; have hfz71_1 := blk_frozen BK166.out 1; have hfz71_2 := blk_frozen BK166.out 2; have hfz71_3 := blk_frozen BK166.out 3; have hfz71_4 := blk_frozen BK166.out 4; have hfz71_5 := blk_frozen BK166.out 5) | ((with_reducible refine gate_callee (f := 11) rfl ?_); refine goesL_ (some 42) rfl rfl Try.func11 (by kernel_rfl) rfl #[.agg #[.int .i64 a0_0, .int .i64 a0_1, .int .i64 a0_2, .int .i64 a0_3, .int .i64 a0_4, .int .i64 a0_5], .int .i64 a2] rfl (by (try simp only [List.map_toArray, List.map_cons, List.map_nil]); first | done | rfl | (simp only [List.length_drop, List.length_take]; rfl)) ?_; (with_reducible refine (units_At.calls a0_0 a0_1 a0_2 a0_3 a0_4 a0_5 a2 t170 _ A26.out).mono ?_); rintro e w72 ⟨rfl, hb⟩; refine ⟨_, rfl, ?_⟩; have n0_ := Aside0.mk (blk_below (g := gb166) (o := .cells #[.int .i64 a0_0, .int .i64 a0_1, .int .i64 a0_2, .int .i64 a0_3, .int .i64 a0_4, .int .i64 a0_5] 23 (0, 0)) (by (with_reducible repeat (first | refine blk_drewN ?_ _ | refine blk_drew ?_ | refine blk_alloc ?_ _)); exact BK166.out) hb); have n1_ := Aside0.mk (below_step (by repeat (first | (with_reducible first | exact HB.out | apply below_alloc | apply pw_below_drewN | apply below_drew1 | refine below_set ?_ GE166.out) | exact HB.out)) hb); clear BK166; clear HB; have BK166 := n0_; have HB := n1_; clear n0_ n1_; (try clear hb); (try clear hb2); (try clear hk); (try clear hi); have hcz73_0 : w72.cell? ⟨gb166, 0, none⟩ = some (.int .i64 a0_0) := (blk_cell BK166.out 0).trans rfl; have hcz73_1 : w72.cell? ⟨gb166, 1, none⟩ = some (.int .i64 a0_1) := (blk_cell BK166.out 1).trans rfl; have hcz73_2 : w72.cell? ⟨gb166, 2, none⟩ = some (.int .i64 a0_2) := (blk_cell BK166.out 2).trans rfl; have hcz73_3 : w72.cell? ⟨gb166, 3, none⟩ = some (.int .i64 a0_3) := (blk_cell BK166.out 3).trans rfl; have hcz73_4 : w72.cell? ⟨gb166, 4, none⟩ = some (.int .i64 a0_4) := (blk_cell BK166.out 4).trans rfl; have hcz73_5 : w72.cell? ⟨gb166, 5, none⟩ = some (.int .i64 a0_5) := (blk_cell BK166.out 5).trans rfl; have hfz73_0 := blk_frozen BK166.out 0; have hfz73_1 := blk_frozen BK166.out 1; have hfz73_2 := blk_frozen BK166.out 2; have hfz73_3 := blk_frozen BK166.out 3; have hfz73_4 := blk_frozen BK166.out 4; have hfz73_5 := blk_frozen BK166.out 5))
          go_ret
          exact ⟨by first | rfl | (simp [errW_none, errW_some] <;> rfl) | (simp [*, errW_none, errW_some] <;> rfl) | (exfalso; first | exact absurd ‹(false != false) = true› (by decide) | exact absurd ‹(true != true) = true› (by decide) | exact absurd ‹(true != false) = false› (by decide) | exact absurd ‹(false != true) = false› (by decide) | exact absurd ‹(false == false) = false› (by decide) | exact absurd ‹(true == true) = false› (by decide) | exact absurd ‹(true == false) = true› (by decide) | exact absurd ‹(false == true) = true› (by decide)), by repeat (first | (with_reducible first | exact HB.out | apply below_alloc | apply pw_below_drewN | apply below_drew1 | refine below_set ?_ GE166.out) | exact HB.out)⟩

end Go.Proofs.Ytkcpkglplhgjfaa.P
