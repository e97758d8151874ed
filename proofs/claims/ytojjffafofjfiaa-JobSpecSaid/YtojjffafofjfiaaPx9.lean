-- Written by a program of this session (hprint.py), out of the translation; functions that the print does not take are given by hand.
import Derived.Test.YtojjffafofjfiaaPx0
import Derived.Test.YtojjffafofjfiaaPx3
import Derived.Test.YtojjffafofjfiaaPx5
import Derived.Test.YtojjffafofjfiaaPx8
namespace Go.Proofs.Ytojjffafofjfiaa.P
open Go.RowKit Go.Proofs.YtojjffafofjfiaaM Go.Proofs.YtojjffafofjfiaaW.PrintWords Go.Proofs.YtojjffafofjfiaaW.PrintLast Go.Proofs.YtojjffafofjfiaaW.PrintMore
attribute [local go_sem] max2_int min2_int max_two min_two max_three min_three max_four min_four   -- for this text's walks alone
set_option linter.unusedVariables false
set_option linter.unusedSimpArgs false

/-! ### fuseelaw11_JobSpec: function 3 -/
def fuseelaw11_JobSpec.j0 : Nat → Bool → Bool → Bool → Int → Int → Int → Int → Int → Int → Int → Int → Int → Int → Int → Int → Option (Bool)
  | 0, _, _, _, _, _, _, _, _, _, _, _, _, _, _, _ => none
  | k + 1, x8, x9, x35, x158000, x158001, x158002, x158003, x158004, x158005, x159000, x159001, x159002, x159003, x159004, x159005 => if x35 = true then (none) else (if x158000 = x159000 then (if x158003 = x159003 then (if x158004 = x159004 then ((spec_May.f x158000 x158001 x158002 x158003 x158004 x158005).bind fun t166 => (if t166 = true then ((spec_May.f x159000 x159001 x159002 x159003 x159004 x159005).bind fun t167 => (if t167 = true then (some (x8 == x9)) else (some true))) else (some true))) else (some true)) else (some true)) else (some true))
def fuseelaw11_JobSpec.f (k : Nat) (a0_0 : Int) (a0_1 : Int) (a0_2 : Int) (a0_3 : Int) (a0_4 : Int) (a0_5 : Int) (a1_0 : Int) (a1_1 : Int) (a1_2 : Int) (a1_3 : Int) (a1_4 : Int) (a1_5 : Int) (a2_0 : Bool) (a2_1 : Int) (a2_2 : Int) (a2_3 : Int) (a2_4 : Bool) (a2_5 : Int) (a2_6 : Int) (a2_7 : Int) : Option (Bool) := (fuseelaw11_awake.f).bind fun t160 => ((job_May.f a0_0 a0_1 a0_2 a0_3 a0_4 a0_5 a2_0 a2_1 a2_2 a2_3 a2_4 a2_5 a2_6 a2_7).bind fun t161 => ((job_May.f a1_0 a1_1 a1_2 a1_3 a1_4 a1_5 a2_0 a2_1 a2_2 a2_3 a2_4 a2_5 a2_6 a2_7).bind fun t162 => (if t160 = true then (if t161 = true then ((spec_May.f a0_0 a0_1 a0_2 a0_3 a0_4 a0_5).bind fun t163 => (if t163 = true then (if t162 = true then ((spec_May.f a1_0 a1_1 a1_2 a1_3 a1_4 a1_5).bind fun t164 => (fuseelaw11_JobSpec.j0 k t161 t162 (!t164) a0_0 a0_1 a0_2 a0_3 a0_4 a0_5 a1_0 a1_1 a1_2 a1_3 a1_4 a1_5)) else (fuseelaw11_JobSpec.j0 k t161 t162 false a0_0 a0_1 a0_2 a0_3 a0_4 a0_5 a1_0 a1_1 a1_2 a1_3 a1_4 a1_5)) else (fuseelaw11_JobSpec.j0 k t161 t162 true a0_0 a0_1 a0_2 a0_3 a0_4 a0_5 a1_0 a1_1 a1_2 a1_3 a1_4 a1_5))) else (if t162 = true then ((spec_May.f a1_0 a1_1 a1_2 a1_3 a1_4 a1_5).bind fun t165 => (fuseelaw11_JobSpec.j0 k t161 t162 (!t165) a0_0 a0_1 a0_2 a0_3 a0_4 a0_5 a1_0 a1_1 a1_2 a1_3 a1_4 a1_5)) else (fuseelaw11_JobSpec.j0 k t161 t162 false a0_0 a0_1 a0_2 a0_3 a0_4 a0_5 a1_0 a1_1 a1_2 a1_3 a1_4 a1_5))) else (fuseelaw11_JobSpec.j0 k t161 t162 true a0_0 a0_1 a0_2 a0_3 a0_4 a0_5 a1_0 a1_1 a1_2 a1_3 a1_4 a1_5))))
theorem fuseelaw11_JobSpec.mono_l : ∀ k, (∀ y0 y1 y2 y3 y4 y5 y6 y7 y8 y9 y10 y11 y12 y13 y14, LeO (fuseelaw11_JobSpec.j0 k y0 y1 y2 y3 y4 y5 y6 y7 y8 y9 y10 y11 y12 y13 y14) (fuseelaw11_JobSpec.j0 (k + 1) y0 y1 y2 y3 y4 y5 y6 y7 y8 y9 y10 y11 y12 y13 y14))
  | 0 => fun _ _ _ _ _ _ _ _ _ _ _ _ _ _ _ r h => by simp [fuseelaw11_JobSpec.j0] at h
  | k + 1 => by
    have ih0 := fuseelaw11_JobSpec.mono_l k
    · intro y0 y1 y2 y3 y4 y5 y6 y7 y8 y9 y10 y11 y12 y13 y14
      unfold fuseelaw11_JobSpec.j0
      repeat' first
      | (with_reducible exact ih0 _ _ _ _ _ _ _ _ _ _ _ _ _ _ _)
      | (with_reducible exact LeO.refl _)
      | (with_reducible exact LeO.none _)
      | (with_reducible refine LeO.ite ?_ ?_)
      | (with_reducible refine LeO.bind ?_ (fun _ => ?_))
      | exact ih0 _ _ _ _ _ _ _ _ _ _ _ _ _ _ _
      | exact LeO.none _
      | refine LeO.ite ?_ ?_
      | refine LeO.bind ?_ (fun _ => ?_)
theorem fuseelaw11_JobSpec.mono : ∀ a0 a1 a2 a3 a4 a5 a6 a7 a8 a9 a10 a11 a12 a13 a14 a15 a16 a17 a18 a19 k, LeO (fuseelaw11_JobSpec.f k a0 a1 a2 a3 a4 a5 a6 a7 a8 a9 a10 a11 a12 a13 a14 a15 a16 a17 a18 a19) (fuseelaw11_JobSpec.f (k + 1) a0 a1 a2 a3 a4 a5 a6 a7 a8 a9 a10 a11 a12 a13 a14 a15 a16 a17 a18 a19) := by
  intro a0 a1 a2 a3 a4 a5 a6 a7 a8 a9 a10 a11 a12 a13 a14 a15 a16 a17 a18 a19 k
  have ih0 := fuseelaw11_JobSpec.mono_l k
  unfold fuseelaw11_JobSpec.f
  repeat' first
      | (with_reducible exact ih0 _ _ _ _ _ _ _ _ _ _ _ _ _ _ _)
      | (with_reducible exact LeO.refl _)
      | (with_reducible exact LeO.none _)
      | (with_reducible refine LeO.ite ?_ ?_)
      | (with_reducible refine LeO.bind ?_ (fun _ => ?_))
      | exact ih0 _ _ _ _ _ _ _ _ _ _ _ _ _ _ _
      | exact LeO.none _
      | refine LeO.ite ?_ ?_
      | refine LeO.bind ?_ (fun _ => ?_)
set_option maxHeartbeats 64000000 in
set_option maxRecDepth 100000 in
theorem fuseelaw11_JobSpec.calls (k : Nat) (a0_0 : Int) (a0_1 : Int) (a0_2 : Int) (a0_3 : Int) (a0_4 : Int) (a0_5 : Int) (a1_0 : Int) (a1_1 : Int) (a1_2 : Int) (a1_3 : Int) (a1_4 : Int) (a1_5 : Int) (a2_0 : Bool) (a2_1 : Int) (a2_2 : Int) (a2_3 : Int) (a2_4 : Bool) (a2_5 : Int) (a2_6 : Int) (a2_7 : Int) (r : Bool) (w : World) (h : fuseelaw11_JobSpec.f k a0_0 a0_1 a0_2 a0_3 a0_4 a0_5 a1_0 a1_1 a1_2 a1_3 a1_4 a1_5 a2_0 a2_1 a2_2 a2_3 a2_4 a2_5 a2_6 a2_7 = some r) :
    Calls Try.prog 3 #[.agg #[.int .i64 a0_0, .int .i64 a0_1, .int .i64 a0_2, .int .i64 a0_3, .int .i64 a0_4, .int .i64 a0_5], .agg #[.int .i64 a1_0, .int .i64 a1_1, .int .i64 a1_2, .int .i64 a1_3, .int .i64 a1_4, .int .i64 a1_5], .agg #[.bool a2_0, .int .i64 a2_1, .int .i64 a2_2, .int .i64 a2_3, .bool a2_4, .int .i64 a2_5, .int .i64 a2_6, .int .i64 a2_7]] w fun e w' => e = .returned (.bool r) ∧ Below w.heap.size w w' := by
  have hu23 := Try.underlying23
  have hu25 := Try.underlying25
  have HB := Aside0.mk (Below.refl w.heap.size w)
  have H : ((fuseelaw11_awake.f).bind fun t160 => ((job_May.f a0_0 a0_1 a0_2 a0_3 a0_4 a0_5 a2_0 a2_1 a2_2 a2_3 a2_4 a2_5 a2_6 a2_7).bind fun t161 => ((job_May.f a1_0 a1_1 a1_2 a1_3 a1_4 a1_5 a2_0 a2_1 a2_2 a2_3 a2_4 a2_5 a2_6 a2_7).bind fun t162 => (if t160 = true then (if t161 = true then ((spec_May.f a0_0 a0_1 a0_2 a0_3 a0_4 a0_5).bind fun t163 => (if t163 = true then (if t162 = true then ((spec_May.f a1_0 a1_1 a1_2 a1_3 a1_4 a1_5).bind fun t164 => (fuseelaw11_JobSpec.j0 k t161 t162 (!t164) a0_0 a0_1 a0_2 a0_3 a0_4 a0_5 a1_0 a1_1 a1_2 a1_3 a1_4 a1_5)) else (fuseelaw11_JobSpec.j0 k t161 t162 false a0_0 a0_1 a0_2 a0_3 a0_4 a0_5 a1_0 a1_1 a1_2 a1_3 a1_4 a1_5)) else (fuseelaw11_JobSpec.j0 k t161 t162 true a0_0 a0_1 a0_2 a0_3 a0_4 a0_5 a1_0 a1_1 a1_2 a1_3 a1_4 a1_5))) else (if t162 = true then ((spec_May.f a1_0 a1_1 a1_2 a1_3 a1_4 a1_5).bind fun t165 => (fuseelaw11_JobSpec.j0 k t161 t162 (!t165) a0_0 a0_1 a0_2 a0_3 a0_4 a0_5 a1_0 a1_1 a1_2 a1_3 a1_4 a1_5)) else (fuseelaw11_JobSpec.j0 k t161 t162 false a0_0 a0_1 a0_2 a0_3 a0_4 a0_5 a1_0 a1_1 a1_2 a1_3 a1_4 a1_5))) else (fuseelaw11_JobSpec.j0 k t161 t162 true a0_0 a0_1 a0_2 a0_3 a0_4 a0_5 a1_0 a1_1 a1_2 a1_3 a1_4 a1_5))))) = some r := h
  clear h
  replace H := Option.bind_eq_some_iff.mp H
  obtain ⟨t160, A40, H⟩ := H
  replace H : ((job_May.f a0_0 a0_1 a0_2 a0_3 a0_4 a0_5 a2_0 a2_1 a2_2 a2_3 a2_4 a2_5 a2_6 a2_7).bind fun t161 => ((job_May.f a1_0 a1_1 a1_2 a1_3 a1_4 a1_5 a2_0 a2_1 a2_2 a2_3 a2_4 a2_5 a2_6 a2_7).bind fun t162 => (if t160 = true then (if t161 = true then ((spec_May.f a0_0 a0_1 a0_2 a0_3 a0_4 a0_5).bind fun t163 => (if t163 = true then (if t162 = true then ((spec_May.f a1_0 a1_1 a1_2 a1_3 a1_4 a1_5).bind fun t164 => (fuseelaw11_JobSpec.j0 k t161 t162 (!t164) a0_0 a0_1 a0_2 a0_3 a0_4 a0_5 a1_0 a1_1 a1_2 a1_3 a1_4 a1_5)) else (fuseelaw11_JobSpec.j0 k t161 t162 false a0_0 a0_1 a0_2 a0_3 a0_4 a0_5 a1_0 a1_1 a1_2 a1_3 a1_4 a1_5)) else (fuseelaw11_JobSpec.j0 k t161 t162 true a0_0 a0_1 a0_2 a0_3 a0_4 a0_5 a1_0 a1_1 a1_2 a1_3 a1_4 a1_5))) else (if t162 = true then ((spec_May.f a1_0 a1_1 a1_2 a1_3 a1_4 a1_5).bind fun t165 => (fuseelaw11_JobSpec.j0 k t161 t162 (!t165) a0_0 a0_1 a0_2 a0_3 a0_4 a0_5 a1_0 a1_1 a1_2 a1_3 a1_4 a1_5)) else (fuseelaw11_JobSpec.j0 k t161 t162 false a0_0 a0_1 a0_2 a0_3 a0_4 a0_5 a1_0 a1_1 a1_2 a1_3 a1_4 a1_5))) else (fuseelaw11_JobSpec.j0 k t161 t162 true a0_0 a0_1 a0_2 a0_3 a0_4 a0_5 a1_0 a1_1 a1_2 a1_3 a1_4 a1_5)))) = some r := H
  have A4 := Aside0.mk A40
  clear A40
  replace H := Option.bind_eq_some_iff.mp H
  obtain ⟨t161, A50, H⟩ := H
  replace H : ((job_May.f a1_0 a1_1 a1_2 a1_3 a1_4 a1_5 a2_0 a2_1 a2_2 a2_3 a2_4 a2_5 a2_6 a2_7).bind fun t162 => (if t160 = true then (if t161 = true then ((spec_May.f a0_0 a0_1 a0_2 a0_3 a0_4 a0_5).bind fun t163 => (if t163 = true then (if t162 = true then ((spec_May.f a1_0 a1_1 a1_2 a1_3 a1_4 a1_5).bind fun t164 => (fuseelaw11_JobSpec.j0 k t161 t162 (!t164) a0_0 a0_1 a0_2 a0_3 a0_4 a0_5 a1_0 a1_1 a1_2 a1_3 a1_4 a1_5)) else (fuseelaw11_JobSpec.j0 k t161 t162 false a0_0 a0_1 a0_2 a0_3 a0_4 a0_5 a1_0 a1_1 a1_2 a1_3 a1_4 a1_5)) else (fuseelaw11_JobSpec.j0 k t161 t162 true a0_0 a0_1 a0_2 a0_3 a0_4 a0_5 a1_0 a1_1 a1_2 a1_3 a1_4 a1_5))) else (if t162 = true then ((spec_May.f a1_0 a1_1 a1_2 a1_3 a1_4 a1_5).bind fun t165 => (fuseelaw11_JobSpec.j0 k t161 t162 (!t165) a0_0 a0_1 a0_2 a0_3 a0_4 a0_5 a1_0 a1_1 a1_2 a1_3 a1_4 a1_5)) else (fuseelaw11_JobSpec.j0 k t161 t162 false a0_0 a0_1 a0_2 a0_3 a0_4 a0_5 a1_0 a1_1 a1_2 a1_3 a1_4 a1_5))) else (fuseelaw11_JobSpec.j0 k t161 t162 true a0_0 a0_1 a0_2 a0_3 a0_4 a0_5 a1_0 a1_1 a1_2 a1_3 a1_4 a1_5))) = some r := H
  have A5 := Aside0.mk A50
  clear A50
  replace H := Option.bind_eq_some_iff.mp H
  obtain ⟨t162, A60, H⟩ := H
  replace H : (if t160 = true then (if t161 = true then ((spec_May.f a0_0 a0_1 a0_2 a0_3 a0_4 a0_5).bind fun t163 => (if t163 = true then (if t162 = true then ((spec_May.f a1_0 a1_1 a1_2 a1_3 a1_4 a1_5).bind fun t164 => (fuseelaw11_JobSpec.j0 k t161 t162 (!t164) a0_0 a0_1 a0_2 a0_3 a0_4 a0_5 a1_0 a1_1 a1_2 a1_3 a1_4 a1_5)) else (fuseelaw11_JobSpec.j0 k t161 t162 false a0_0 a0_1 a0_2 a0_3 a0_4 a0_5 a1_0 a1_1 a1_2 a1_3 a1_4 a1_5)) else (fuseelaw11_JobSpec.j0 k t161 t162 true a0_0 a0_1 a0_2 a0_3 a0_4 a0_5 a1_0 a1_1 a1_2 a1_3 a1_4 a1_5))) else (if t162 = true then ((spec_May.f a1_0 a1_1 a1_2 a1_3 a1_4 a1_5).bind fun t165 => (fuseelaw11_JobSpec.j0 k t161 t162 (!t165) a0_0 a0_1 a0_2 a0_3 a0_4 a0_5 a1_0 a1_1 a1_2 a1_3 a1_4 a1_5)) else (fuseelaw11_JobSpec.j0 k t161 t162 false a0_0 a0_1 a0_2 a0_3 a0_4 a0_5 a1_0 a1_1 a1_2 a1_3 a1_4 a1_5))) else (fuseelaw11_JobSpec.j0 k t161 t162 true a0_0 a0_1 a0_2 a0_3 a0_4 a0_5 a1_0 a1_1 a1_2 a1_3 a1_4 a1_5)) = some r := H
  have A6 := Aside0.mk A60
  clear A60
  have HC7 := Aside0.mk H
  clear H
  go_enter Try.func3, Try.ntmps3
  go_upto_region 4 with (first | ((with_reducible refine gate_dst (N := 3) rfl ?_); refine box_event ?hg (N := 3) ?hd (cs := #[.int .i64 a0_0, .int .i64 a0_1, .int .i64 a0_2, .int .i64 a0_3, .int .i64 a0_4, .int .i64 a0_5]) (t := 23) ?hr ?_; (case hd => rfl); (case hg => rfl); (case hr => first | (go_simp; done) | (go_simp; rfl)); intro gb157 hg w8 hbox hb; have n0_ := Aside0.mk (below_step (by repeat (first | (with_reducible first | exact HB.out | apply below_alloc | apply pw_below_drewN | apply below_drew1) | exact HB.out)) hb); have n1_ := Aside0.mk (hbox); have n2_ := Aside0.mk ((by rw [hg]; exact (below_size (by repeat (first | (with_reducible first | exact HB.out | apply below_alloc | apply pw_below_drewN | apply below_drew1) | exact HB.out))) : w.heap.size ≤ gb157)); have n3_ := Aside0.mk ((by rw [hg]; exact (below_size (by repeat (first | (with_reducible first | exact HB.out | apply below_alloc | apply pw_below_drewN | apply below_drew1) | exact HB.out))) : w.heap.size ≤ gb157)); clear HB; have HB := n0_; have BK157 := n1_; have GW157 := n2_; have GE157 := n3_; clear n0_ n1_ n2_ n3_; clear hb hbox hg) | ((with_reducible refine gate_dst (N := 4) rfl ?_); refine box_event ?hg (N := 4) ?hd (cs := #[.int .i64 a1_0, .int .i64 a1_1, .int .i64 a1_2, .int .i64 a1_3, .int .i64 a1_4, .int .i64 a1_5]) (t := 23) ?hr ?_; (case hd => rfl); (case hg => rfl); (case hr => first | (go_simp; done) | (go_simp; rfl)); intro gb158 hg w9 hbox hb; have n0_ := Aside0.mk (blk_below (g := gb157) (o := .cells #[.int .i64 a0_0, .int .i64 a0_1, .int .i64 a0_2, .int .i64 a0_3, .int .i64 a0_4, .int .i64 a0_5] 23 (0, 0)) (by (with_reducible repeat (first | refine blk_drewN ?_ _ | refine blk_drew ?_ | refine blk_alloc ?_ _)); exact BK157.out) hb); have n1_ := Aside0.mk (below_step (by repeat (first | (with_reducible first | exact HB.out | apply below_alloc | apply pw_below_drewN | apply below_drew1 | refine below_set ?_ GE157.out) | exact HB.out)) hb); have n2_ := Aside0.mk (hbox); have n3_ := Aside0.mk ((by rw [hg]; exact (below_size (by repeat (first | (with_reducible first | exact HB.out | apply below_alloc | apply pw_below_drewN | apply below_drew1 | refine below_set ?_ GE157.out) | exact HB.out))) : w.heap.size ≤ gb158)); have n4_ := Aside0.mk ((by rw [hg]; exact (below_size (by repeat (first | (with_reducible first | exact HB.out | apply below_alloc | apply pw_below_drewN | apply below_drew1 | refine below_set ?_ GE157.out) | exact HB.out))) : w.heap.size ≤ gb158)); have n5_ := Aside0.mk ((by rw [hg]; exact Nat.ne_of_lt (blk_lt (g := gb157) (o := .cells #[.int .i64 a0_0, .int .i64 a0_1, .int .i64 a0_2, .int .i64 a0_3, .int .i64 a0_4, .int .i64 a0_5] 23 (0, 0)) (by (with_reducible repeat (first | refine blk_drewN ?_ _ | refine blk_drew ?_ | refine blk_alloc ?_ _)); exact BK157.out)) : gb157 ≠ gb158)); have n6_ := Aside0.mk ((by rw [hg]; exact Nat.ne_of_gt (blk_lt (g := gb157) (o := .cells #[.int .i64 a0_0, .int .i64 a0_1, .int .i64 a0_2, .int .i64 a0_3, .int .i64 a0_4, .int .i64 a0_5] 23 (0, 0)) (by (with_reducible repeat (first | refine blk_drewN ?_ _ | refine blk_drew ?_ | refine blk_alloc ?_ _)); exact BK157.out)) : gb158 ≠ gb157)); clear BK157; clear HB; have BK157 := n0_; have HB := n1_; have BK158 := n2_; have GW158 := n3_; have GE158 := n4_; have NB157_158 := n5_; have NB158_157 := n6_; clear n0_ n1_ n2_ n3_ n4_ n5_ n6_; clear hb hbox hg) | ((with_reducible refine gate_dst (N := 5) rfl ?_); refine box_event ?hg (N := 5) ?hd (cs := #[.bool a2_0, .int .i64 a2_1, .int .i64 a2_2, .int .i64 a2_3, .bool a2_4, .int .i64 a2_5, .int .i64 a2_6, .int .i64 a2_7]) (t := 25) ?hr ?_; (case hd => rfl); (case hg => rfl); (case hr => first | (go_simp; done) | (go_simp; rfl)); intro gb159 hg w10 hbox hb; have n0_ := Aside0.mk (blk_below (g := gb157) (o := .cells #[.int .i64 a0_0, .int .i64 a0_1, .int .i64 a0_2, .int .i64 a0_3, .int .i64 a0_4, .int .i64 a0_5] 23 (0, 0)) (by (with_reducible repeat (first | refine blk_drewN ?_ _ | refine blk_drew ?_ | refine blk_alloc ?_ _)); exact BK157.out) hb); have n1_ := Aside0.mk (blk_below (g := gb158) (o := .cells #[.int .i64 a1_0, .int .i64 a1_1, .int .i64 a1_2, .int .i64 a1_3, .int .i64 a1_4, .int .i64 a1_5] 23 (0, 0)) (by (with_reducible repeat (first | refine blk_drewN ?_ _ | refine blk_drew ?_ | refine blk_alloc ?_ _)); exact BK158.out) hb); have n2_ := Aside0.mk (below_step (by repeat (first | (with_reducible first | exact HB.out | apply below_alloc | apply pw_below_drewN | apply below_drew1 | refine below_set ?_ GE157.out | refine below_set ?_ GE158.out) | exact HB.out)) hb); have n3_ := Aside0.mk (hbox); have n4_ := Aside0.mk ((by rw [hg]; exact (below_size (by repeat (first | (with_reducible first | exact HB.out | apply below_alloc | apply pw_below_drewN | apply below_drew1 | refine below_set ?_ GE157.out | refine below_set ?_ GE158.out) | exact HB.out))) : w.heap.size ≤ gb159)); have n5_ := Aside0.mk ((by rw [hg]; exact (below_size (by repeat (first | (with_reducible first | exact HB.out | apply below_alloc | apply pw_below_drewN | apply below_drew1 | refine below_set ?_ GE157.out | refine below_set ?_ GE158.out) | exact HB.out))) : w.heap.size ≤ gb159)); have n6_ := Aside0.mk ((by rw [hg]; exact Nat.ne_of_lt (blk_lt (g := gb157) (o := .cells #[.int .i64 a0_0, .int .i64 a0_1, .int .i64 a0_2, .int .i64 a0_3, .int .i64 a0_4, .int .i64 a0_5] 23 (0, 0)) (by (with_reducible repeat (first | refine blk_drewN ?_ _ | refine blk_drew ?_ | refine blk_alloc ?_ _)); exact BK157.out)) : gb157 ≠ gb159)); have n7_ := Aside0.mk ((by rw [hg]; exact Nat.ne_of_gt (blk_lt (g := gb157) (o := .cells #[.int .i64 a0_0, .int .i64 a0_1, .int .i64 a0_2, .int .i64 a0_3, .int .i64 a0_4, .int .i64 a0_5] 23 (0, 0)) (by (with_reducible repeat (first | refine blk_drewN ?_ _ | refine blk_drew ?_ | refine blk_alloc ?_ _)); exact BK157.out)) : gb159 ≠ gb157)); have n8_ := Aside0.mk ((by rw [hg]; exact Nat.ne_of_lt (blk_lt (g := gb158) (o := .cells #[.int .i64 a1_0, .int .i64 a1_1, .int .i64 a1_2, .int .i64 a1_3, .int .i64 a1_4, .int .i64 a1_5] 23 (0, 0)) (by (with_reducible repeat (first | refine blk_drewN ?_ _ | refine blk_drew ?_ | refine blk_alloc ?_ _)); exact BK158.out)) : gb158 ≠ gb159)); have n9_ := Aside0.mk ((by rw [hg]; exact Nat.ne_of_gt (blk_lt (g := gb158) (o := .cells #[.int .i64 a1_0, .int .i64 a1_1, .int .i64 a1_2, .int .i64 a1_3, .int .i64 a1_4, .int .i64 a1_5] 23 (0, 0)) (by (with_reducible repeat (first | refine blk_drewN ?_ _ | refine blk_drew ?_ | refine blk_alloc ?_ _)); exact BK158.out)) : gb159 ≠ gb158)); clear BK157; clear BK158; clear HB; have BK157 := n0_; have BK158 := n1_; have HB := n2_; have BK159 := n3_; have GW159 := n4_; have GE159 := n5_; have NB157_159 := n6_; have NB159_157 := n7_; have NB158_159 := n8_; have NB159_158 := n9_; clear n0_ n1_ n2_ n3_ n4_ n5_ n6_ n7_ n8_ n9_; clear hb hbox hg) | ((with_reducible refine gate_callee (f := 8) rfl ?_); refine goesL_ (some 11) rfl rfl Try.func8 (by kernel_rfl) rfl #[] rfl (by (try simp only [List.map_toArray, List.map_cons, List.map_nil]); first | done | rfl | (simp only [List.length_drop, List.length_take]; rfl)) ?_; (with_reducible refine (fuseelaw11_awake.calls  t160 _ A4.out).mono ?_); rintro e w11 ⟨rfl, hb⟩; refine ⟨_, rfl, ?_⟩; have n0_ := Aside0.mk (blk_below (g := gb157) (o := .cells #[.int .i64 a0_0, .int .i64 a0_1, .int .i64 a0_2, .int .i64 a0_3, .int .i64 a0_4, .int .i64 a0_5] 23 (0, 0)) (by (with_reducible repeat (first | refine blk_drewN ?_ _ | refine blk_drew ?_ | refine blk_alloc ?_ _)); exact BK157.out) hb); have n1_ := Aside0.mk (blk_below (g := gb158) (o := .cells #[.int .i64 a1_0, .int .i64 a1_1, .int .i64 a1_2, .int .i64 a1_3, .int .i64 a1_4, .int .i64 a1_5] 23 (0, 0)) (by (with_reducible repeat (first | refine blk_drewN ?_ _ | refine blk_drew ?_ | refine blk_alloc ?_ _)); exact BK158.out) hb); have n2_ := Aside0.mk (blk_below (g := gb159) (o := .cells #[.bool a2_0, .int .i64 a2_1, .int .i64 a2_2, .int .i64 a2_3, .bool a2_4, .int .i64 a2_5, .int .i64 a2_6, .int .i64 a2_7] 25 (0, 0)) (by (with_reducible repeat (first | refine blk_drewN ?_ _ | refine blk_drew ?_ | refine blk_alloc ?_ _)); exact BK159.out) hb); have n3_ := Aside0.mk (below_step (by repeat (first | (with_reducible first | exact HB.out | apply below_alloc | apply pw_below_drewN | apply below_drew1 | refine below_set ?_ GE157.out | refine below_set ?_ GE158.out | refine below_set ?_ GE159.out) | exact HB.out)) hb); clear BK157; clear BK158; clear BK159; clear HB; have BK157 := n0_; have BK158 := n1_; have BK159 := n2_; have HB := n3_; clear n0_ n1_ n2_ n3_; (try clear hb); (try clear hb2); (try clear hk); (try clear hi); have hnb12 := NB157_158.out; have hnc12 := NB158_157.out; have hnb13 := NB157_159.out; have hnc13 := NB159_157.out; have hcz14_0 : w11.cell? ⟨gb157, 0, none⟩ = some (.int .i64 a0_0) := (blk_cell BK157.out 0).trans rfl; have hcz14_1 : w11.cell? ⟨gb157, 1, none⟩ = some (.int .i64 a0_1) := (blk_cell BK157.out 1).trans rfl; have hcz14_2 : w11.cell? ⟨gb157, 2, none⟩ = some (.int .i64 a0_2) := (blk_cell BK157.out 2).trans rfl; have hcz14_3 : w11.cell? ⟨gb157, 3, none⟩ = some (.int .i64 a0_3) := (blk_cell BK157.out 3).trans rfl; have hcz14_4 : w11.cell? ⟨gb157, 4, none⟩ = some (.int .i64 a0_4) := (blk_cell BK157.out 4).trans rfl; have hcz14_5 : w11.cell? ⟨gb157, 5, none⟩ = some (.int .i64 a0_5) := (blk_cell BK157.out 5).trans rfl; have hfz14_0 := blk_frozen BK157.out 0; have hfz14_1 := blk_frozen BK157.out 1; have hfz14_2 := blk_frozen BK157.out 2; have hfz14_3 := blk_frozen BK157.out 3; have hfz14_4 := blk_frozen BK157.out 4; have hfz14_5 := blk_frozen BK157.out 5; have hnb15 := NB159_158.out; have hnc15 := NB158_159.out; have hcz16_0 : w11.cell? ⟨gb159, 0, none⟩ = some (.bool a2_0) := (blk_cell BK159.out 0).trans rfl; have hcz16_1 : w11.cell? ⟨gb159, 1, none⟩ = some (.int .i64 a2_1) := (blk_cell BK159.out 1).trans rfl; have hcz16_2 : w11.cell? ⟨gb159, 2, none⟩ = some (.int .i64 a2_2) := (blk_cell BK159.out 2).trans rfl; have hcz16_3 : w11.cell? ⟨gb159, 3, none⟩ = some (.int .i64 a2_3) := (blk_cell BK159.out 3).trans rfl; have hcz16_4 : w11.cell? ⟨gb159, 4, none⟩ = some (.bool a2_4) := (blk_cell BK159.out 4).trans rfl; have hcz16_5 : w11.cell? ⟨gb159, 5, none⟩ = some (.int .i64 a2_5) := (blk_cell BK159.out 5).trans rfl; have hcz16_6 : w11.cell? ⟨gb159, 6, none⟩ = some (.int .i64 a2_6) := (blk_cell BK159.out 6).trans rfl; have hcz16_7 : w11.cell? ⟨gb159, 7, none⟩ = some (.int .i64 a2_7) := (blk_cell BK159.out 7).trans rfl; have hfz16_0 := blk_frozen BK159.out 0; have hfz16_1 := blk_frozen BK159.out 1; have hfz16_2 := blk_frozen BK159.out 2; have hfz16_3 := blk_frozen BK159.out 3; have hfz16_4 := blk_frozen BK159.out 4; have hfz16_5 := blk_frozen BK159.out 5; have hfz16_6 := blk_frozen BK159.out 6; have hfz16_7 := blk_frozen BK159.out 7) | ((with_reducible refine gate_callee (f := 9) rfl ?_); refine goesL_ (some 14) rfl rfl Try.func9 (by kernel_rfl) rfl #[.agg #[.int .i64 a0_0, .int .i64 a0_1, .int .i64 a0_2, .int .i64 a0_3, .int .i64 a0_4, .int .i64 a0_5], .agg #[.bool a2_0, .int .i64 a2_1, .int .i64 a2_2, .int .i64 a2_3, .bool a2_4, .int .i64 a2_5, .int .i64 a2_6, .int .i64 a2_7]] rfl (by (try simp only [List.map_toArray, List.map_cons, List.map_nil]); first | done | rfl | (simp only [List.length_drop, List.length_take]; rfl)) ?_; (with_reducible refine (job_May.calls a0_0 a0_1 a0_2 a0_3 a0_4 a0_5 a2_0 a2_1 a2_2 a2_3 a2_4 a2_5 a2_6 a2_7 t161 _ A5.out).mono ?_); rintro e w17 ⟨rfl, hb⟩; refine ⟨_, rfl, ?_⟩; have n0_ := Aside0.mk (blk_below (g := gb157) (o := .cells #[.int .i64 a0_0, .int .i64 a0_1, .int .i64 a0_2, .int .i64 a0_3, .int .i64 a0_4, .int .i64 a0_5] 23 (0, 0)) (by (with_reducible repeat (first | refine blk_drewN ?_ _ | refine blk_drew ?_ | refine blk_alloc ?_ _)); exact BK157.out) hb); have n1_ := Aside0.mk (blk_below (g := gb158) (o := .cells #[.int .i64 a1_0, .int .i64 a1_1, .int .i64 a1_2, .int .i64 a1_3, .int .i64 a1_4, .int .i64 a1_5] 23 (0, 0)) (by (with_reducible repeat (first | refine blk_drewN ?_ _ | refine blk_drew ?_ | refine blk_alloc ?_ _)); exact BK158.out) hb); have n2_ := Aside0.mk (blk_below (g := gb159) (o := .cells #[.bool a2_0, .int .i64 a2_1, .int .i64 a2_2, .int .i64 a2_3, .bool a2_4, .int .i64 a2_5, .int .i64 a2_6, .int .i64 a2_7] 25 (0, 0)) (by (with_reducible repeat (first | refine blk_drewN ?_ _ | refine blk_drew ?_ | refine blk_alloc ?_ _)); exact BK159.out) hb); have n3_ := Aside0.mk (below_step (by repeat (first | (with_reducible first | exact HB.out | apply below_alloc | apply pw_below_drewN | apply below_drew1 | refine below_set ?_ GE157.out | refine below_set ?_ GE158.out | refine below_set ?_ GE159.out) | exact HB.out)) hb); clear BK157; clear BK158; clear BK159; clear HB; have BK157 := n0_; have BK158 := n1_; have BK159 := n2_; have HB := n3_; clear n0_ n1_ n2_ n3_; (try clear hb); (try clear hb2); (try clear hk); (try clear hi); have hcz18_0 : w17.cell? ⟨gb158, 0, none⟩ = some (.int .i64 a1_0) := (blk_cell BK158.out 0).trans rfl; have hcz18_1 : w17.cell? ⟨gb158, 1, none⟩ = some (.int .i64 a1_1) := (blk_cell BK158.out 1).trans rfl; have hcz18_2 : w17.cell? ⟨gb158, 2, none⟩ = some (.int .i64 a1_2) := (blk_cell BK158.out 2).trans rfl; have hcz18_3 : w17.cell? ⟨gb158, 3, none⟩ = some (.int .i64 a1_3) := (blk_cell BK158.out 3).trans rfl; have hcz18_4 : w17.cell? ⟨gb158, 4, none⟩ = some (.int .i64 a1_4) := (blk_cell BK158.out 4).trans rfl; have hcz18_5 : w17.cell? ⟨gb158, 5, none⟩ = some (.int .i64 a1_5) := (blk_cell BK158.out 5).trans rfl; have hfz18_0 := blk_frozen BK158.out 0; have hfz18_1 := blk_frozen BK158.out 1; have hfz18_2 := blk_frozen BK158.out 2; have hfz18_3 := blk_frozen BK158.out 3; have hfz18_4 := blk_frozen BK158.out 4; have hfz18_5 := blk_frozen BK158.out 5; have hcz19_0 : w17.cell? ⟨gb159, 0, none⟩ = some (.bool a2_0) := (blk_cell BK159.out 0).trans rfl; have hcz19_1 : w17.cell? ⟨gb159, 1, none⟩ = some (.int .i64 a2_1) := (blk_cell BK159.out 1).trans rfl; have hcz19_2 : w17.cell? ⟨gb159, 2, none⟩ = some (.int .i64 a2_2) := (blk_cell BK159.out 2).trans rfl; have hcz19_3 : w17.cell? ⟨gb159, 3, none⟩ = some (.int .i64 a2_3) := (blk_cell BK159.out 3).trans rfl; have hcz19_4 : w17.cell? ⟨gb159, 4, none⟩ = some (.bool a2_4) := (blk_cell BK159.out 4).trans rfl; have hcz19_5 : w17.cell? ⟨gb159, 5, none⟩ = some (.int .i64 a2_5) := (blk_cell BK159.out 5).trans rfl; have hcz19_6 : w17.cell? ⟨gb159, 6, none⟩ = some (.int .i64 a2_6) := (blk_cell BK159.out 6).trans rfl; have hcz19_7 : w17.cell? ⟨gb159, 7, none⟩ = some (.int .i64 a2_7) := (blk_cell BK159.out 7).trans rfl; have hfz19_0 := blk_frozen BK159.out 0; have hfz19_1 := blk_frozen BK159.out 1; have hfz19_2 := blk_frozen BK159.out 2; have hfz19_3 := blk_frozen BK159.out 3; have hfz19_4 := blk_frozen BK159.out 4; have hfz19_5 := blk_frozen BK159.out 5; have hfz19_6 := blk_frozen BK159.out 6; have hfz19_7 := blk_frozen BK159.out 7) | ((with_reducible refine gate_callee (f := 9) rfl ?_); refine goesL_ (some 17) rfl rfl Try.func9 (by kernel_rfl) rfl #[.agg #[.int .i64 a1_0, .int .i64 a1_1, .int .i64 a1_2, .int .i64 a1_3, .int .i64 a1_4, .int .i64 a1_5], .agg #[.bool a2_0, .int .i64 a2_1, .int .i64 a2_2, .int .i64 a2_3, .bool a2_4, .int .i64 a2_5, .int .i64 a2_6, .int .i64 a2_7]] rfl (by (try simp only [List.map_toArray, List.map_cons, List.map_nil]); first | done | rfl | (simp only [List.length_drop, List.length_take]; rfl)) ?_; (with_reducible refine (job_May.calls a1_0 a1_1 a1_2 a1_3 a1_4 a1_5 a2_0 a2_1 a2_2 a2_3 a2_4 a2_5 a2_6 a2_7 t162 _ A6.out).mono ?_); rintro e w20 ⟨rfl, hb⟩; refine ⟨_, rfl, ?_⟩; have n0_ := Aside0.mk (blk_below (g := gb157) (o := .cells #[.int .i64 a0_0, .int .i64 a0_1, .int .i64 a0_2, .int .i64 a0_3, .int .i64 a0_4, .int .i64 a0_5] 23 (0, 0)) (by (with_reducible repeat (first | refine blk_drewN ?_ _ | refine blk_drew ?_ | refine blk_alloc ?_ _)); exact BK157.out) hb); have n1_ := Aside0.mk (blk_below (g := gb158) (o := .cells #[.int .i64 a1_0, .int .i64 a1_1, .int .i64 a1_2, .int .i64 a1_3, .int .i64 a1_4, .int .i64 a1_5] 23 (0, 0)) (by (with_reducible repeat (first | refine blk_drewN ?_ _ | refine blk_drew ?_ | refine blk_alloc ?_ _)); exact BK158.out) hb); have n2_ := Aside0.mk (blk_below (g := gb159) (o := .cells #[.bool a2_0, .int .i64 a2_1, .int .i64 a2_2, .int .i64 a2_3, .bool a2_4, .int .i64 a2_5, .int .i64 a2_6, .int .i64 a2_7] 25 (0, 0)) (by (with_reducible repeat (first | refine blk_drewN ?_ _ | refine blk_drew ?_ | refine blk_alloc ?_ _)); exact BK159.out) hb); have n3_ := Aside0.mk (below_step (by repeat (first | (with_reducible first | exact HB.out | apply below_alloc | apply pw_below_drewN | apply below_drew1 | refine below_set ?_ GE157.out | refine below_set ?_ GE158.out | refine below_set ?_ GE159.out) | exact HB.out)) hb); clear BK157; clear BK158; clear BK159; clear HB; have BK157 := n0_; have BK158 := n1_; have BK159 := n2_; have HB := n3_; clear n0_ n1_ n2_ n3_; (try clear hb); (try clear hb2); (try clear hk); (try clear hi)))
  (try simp only [Act.put, List.setIfInBounds_toArray, List.set_cons_zero, List.set_cons_succ])
  go_cut [35] (fun v35 wc => ∃ (kq : Nat) (x35_6 : Bool), v35 = .bool x35_6 ∧ Aside0 (fuseelaw11_JobSpec.j0 kq t161 t162 x35_6 a0_0 a0_1 a0_2 a0_3 a0_4 a0_5 a1_0 a1_1 a1_2 a1_3 a1_4 a1_5 = some r) ∧ Aside0 (kq ≤ k) ∧ Aside0 (wc.heap[gb157]? = some (.cells #[.int .i64 a0_0, .int .i64 a0_1, .int .i64 a0_2, .int .i64 a0_3, .int .i64 a0_4, .int .i64 a0_5] 23 (0, 0))) ∧ Aside0 (wc.heap[gb158]? = some (.cells #[.int .i64 a1_0, .int .i64 a1_1, .int .i64 a1_2, .int .i64 a1_3, .int .i64 a1_4, .int .i64 a1_5] 23 (0, 0))) ∧ Aside0 (wc.heap[gb159]? = some (.cells #[.bool a2_0, .int .i64 a2_1, .int .i64 a2_2, .int .i64 a2_3, .bool a2_4, .int .i64 a2_5, .int .i64 a2_6, .int .i64 a2_7] 25 (0, 0))) ∧ Aside0 (Below w.heap.size w wc))
  case first =>
    have H := HC7.out
    clear HC7
    by_cases c21 : t160 = true
    · subst c21
      have H1 : (if t161 = true then ((spec_May.f a0_0 a0_1 a0_2 a0_3 a0_4 a0_5).bind fun t163 => (if t163 = true then (if t162 = true then ((spec_May.f a1_0 a1_1 a1_2 a1_3 a1_4 a1_5).bind fun t164 => (fuseelaw11_JobSpec.j0 k t161 t162 (!t164) a0_0 a0_1 a0_2 a0_3 a0_4 a0_5 a1_0 a1_1 a1_2 a1_3 a1_4 a1_5)) else (fuseelaw11_JobSpec.j0 k t161 t162 false a0_0 a0_1 a0_2 a0_3 a0_4 a0_5 a1_0 a1_1 a1_2 a1_3 a1_4 a1_5)) else (fuseelaw11_JobSpec.j0 k t161 t162 true a0_0 a0_1 a0_2 a0_3 a0_4 a0_5 a1_0 a1_1 a1_2 a1_3 a1_4 a1_5))) else (if t162 = true then ((spec_May.f a1_0 a1_1 a1_2 a1_3 a1_4 a1_5).bind fun t165 => (fuseelaw11_JobSpec.j0 k t161 t162 (!t165) a0_0 a0_1 a0_2 a0_3 a0_4 a0_5 a1_0 a1_1 a1_2 a1_3 a1_4 a1_5)) else (fuseelaw11_JobSpec.j0 k t161 t162 false a0_0 a0_1 a0_2 a0_3 a0_4 a0_5 a1_0 a1_1 a1_2 a1_3 a1_4 a1_5))) = some r := by rw [if_pos rfl] at H; exact H
      clear H
      have H := H1
      clear H1
      by_cases c22 : t161 = true
      · subst c22
        have H1 : ((spec_May.f a0_0 a0_1 a0_2 a0_3 a0_4 a0_5).bind fun t163 => (if t163 = true then (if t162 = true then ((spec_May.f a1_0 a1_1 a1_2 a1_3 a1_4 a1_5).bind fun t164 => (fuseelaw11_JobSpec.j0 k true t162 (!t164) a0_0 a0_1 a0_2 a0_3 a0_4 a0_5 a1_0 a1_1 a1_2 a1_3 a1_4 a1_5)) else (fuseelaw11_JobSpec.j0 k true t162 false a0_0 a0_1 a0_2 a0_3 a0_4 a0_5 a1_0 a1_1 a1_2 a1_3 a1_4 a1_5)) else (fuseelaw11_JobSpec.j0 k true t162 true a0_0 a0_1 a0_2 a0_3 a0_4 a0_5 a1_0 a1_1 a1_2 a1_3 a1_4 a1_5))) = some r := by rw [if_pos rfl] at H; exact H
        clear H
        have H := H1
        clear H1
        replace H := Option.bind_eq_some_iff.mp H
        obtain ⟨t163, A230, H⟩ := H
        replace H : (if t163 = true then (if t162 = true then ((spec_May.f a1_0 a1_1 a1_2 a1_3 a1_4 a1_5).bind fun t164 => (fuseelaw11_JobSpec.j0 k true t162 (!t164) a0_0 a0_1 a0_2 a0_3 a0_4 a0_5 a1_0 a1_1 a1_2 a1_3 a1_4 a1_5)) else (fuseelaw11_JobSpec.j0 k true t162 false a0_0 a0_1 a0_2 a0_3 a0_4 a0_5 a1_0 a1_1 a1_2 a1_3 a1_4 a1_5)) else (fuseelaw11_JobSpec.j0 k true t162 true a0_0 a0_1 a0_2 a0_3 a0_4 a0_5 a1_0 a1_1 a1_2 a1_3 a1_4 a1_5)) = some r := H
        have A23 := Aside0.mk A230
        clear A230
        by_cases c24 : t163 = true
        · subst c24
          have H1 : (if t162 = true then ((spec_May.f a1_0 a1_1 a1_2 a1_3 a1_4 a1_5).bind fun t164 => (fuseelaw11_JobSpec.j0 k true t162 (!t164) a0_0 a0_1 a0_2 a0_3 a0_4 a0_5 a1_0 a1_1 a1_2 a1_3 a1_4 a1_5)) else (fuseelaw11_JobSpec.j0 k true t162 false a0_0 a0_1 a0_2 a0_3 a0_4 a0_5 a1_0 a1_1 a1_2 a1_3 a1_4 a1_5)) = some r := by rw [if_pos rfl] at H; exact H
          clear H
          have H := H1
          clear H1
          by_cases c25 : t162 = true
          · subst c25
            have H1 : ((spec_May.f a1_0 a1_1 a1_2 a1_3 a1_4 a1_5).bind fun t164 => (fuseelaw11_JobSpec.j0 k true true (!t164) a0_0 a0_1 a0_2 a0_3 a0_4 a0_5 a1_0 a1_1 a1_2 a1_3 a1_4 a1_5)) = some r := by rw [if_pos rfl] at H; exact H
            clear H
            have H := H1
            clear H1
            replace H := Option.bind_eq_some_iff.mp H
            obtain ⟨t164, A260, H⟩ := H
            replace H : (fuseelaw11_JobSpec.j0 k true true (!t164) a0_0 a0_1 a0_2 a0_3 a0_4 a0_5 a1_0 a1_1 a1_2 a1_3 a1_4 a1_5) = some r := H
            have A26 := Aside0.mk A260
            clear A260
            have H' := Aside0.mk H
            clear H
            have hnb27 := NB157_158.out
            have hnc27 := NB158_157.out
            have hnb28 := NB157_159.out
            have hnc28 := NB159_157.out
            have hcz29_0 : w20.cell? ⟨gb157, 0, none⟩ = some (.int .i64 a0_0) := (blk_cell BK157.out 0).trans rfl
            have hcz29_1 : w20.cell? ⟨gb157, 1, none⟩ = some (.int .i64 a0_1) := (blk_cell BK157.out 1).trans rfl
            have hcz29_2 : w20.cell? ⟨gb157, 2, none⟩ = some (.int .i64 a0_2) := (blk_cell BK157.out 2).trans rfl
            have hcz29_3 : w20.cell? ⟨gb157, 3, none⟩ = some (.int .i64 a0_3) := (blk_cell BK157.out 3).trans rfl
            have hcz29_4 : w20.cell? ⟨gb157, 4, none⟩ = some (.int .i64 a0_4) := (blk_cell BK157.out 4).trans rfl
            have hcz29_5 : w20.cell? ⟨gb157, 5, none⟩ = some (.int .i64 a0_5) := (blk_cell BK157.out 5).trans rfl
            have hfz29_0 := blk_frozen BK157.out 0
            have hfz29_1 := blk_frozen BK157.out 1
            have hfz29_2 := blk_frozen BK157.out 2
            have hfz29_3 := blk_frozen BK157.out 3
            have hfz29_4 := blk_frozen BK157.out 4
            have hfz29_5 := blk_frozen BK157.out 5
            go_wp2_with (first | (go_at_call 10; (with_reducible refine (spec_May.calls a0_0 a0_1 a0_2 a0_3 a0_4 a0_5 true _ A23.out).mono ?_); rintro e w30 ⟨rfl, hb⟩; have n0_ := Aside0.mk (blk_below (g := gb157) (o := .cells #[.int .i64 a0_0, .int .i64 a0_1, .int .i64 a0_2, .int .i64 a0_3, .int .i64 a0_4, .int .i64 a0_5] 23 (0, 0)) (by (with_reducible repeat (first | refine blk_drewN ?_ _ | refine blk_drew ?_ | refine blk_alloc ?_ _)); exact BK157.out) hb); have n1_ := Aside0.mk (blk_below (g := gb158) (o := .cells #[.int .i64 a1_0, .int .i64 a1_1, .int .i64 a1_2, .int .i64 a1_3, .int .i64 a1_4, .int .i64 a1_5] 23 (0, 0)) (by (with_reducible repeat (first | refine blk_drewN ?_ _ | refine blk_drew ?_ | refine blk_alloc ?_ _)); exact BK158.out) hb); have n2_ := Aside0.mk (blk_below (g := gb159) (o := .cells #[.bool a2_0, .int .i64 a2_1, .int .i64 a2_2, .int .i64 a2_3, .bool a2_4, .int .i64 a2_5, .int .i64 a2_6, .int .i64 a2_7] 25 (0, 0)) (by (with_reducible repeat (first | refine blk_drewN ?_ _ | refine blk_drew ?_ | refine blk_alloc ?_ _)); exact BK159.out) hb); have n3_ := Aside0.mk (below_step (by repeat (first | (with_reducible first | exact HB.out | apply below_alloc | apply pw_below_drewN | apply below_drew1 | refine below_set ?_ GE157.out | refine below_set ?_ GE158.out | refine below_set ?_ GE159.out) | exact HB.out)) hb); clear BK157; clear BK158; clear BK159; clear HB; have BK157 := n0_; have BK158 := n1_; have BK159 := n2_; have HB := n3_; clear n0_ n1_ n2_ n3_; (try clear hb); (try clear hb2); (try clear hk); (try clear hi); have hnb31 := NB158_159.out; have hnc31 := NB159_158.out; (try clear hcz29_0 hcz29_1 hcz29_2 hcz29_3 hcz29_4 hcz29_5 hfz29_0 hfz29_1 hfz29_2 hfz29_3 hfz29_4 hfz29_5); have hcz32_0 : w30.cell? ⟨gb158, 0, none⟩ = some (.int .i64 a1_0) := (blk_cell BK158.out 0).trans rfl; have hcz32_1 : w30.cell? ⟨gb158, 1, none⟩ = some (.int .i64 a1_1) := (blk_cell BK158.out 1).trans rfl; have hcz32_2 : w30.cell? ⟨gb158, 2, none⟩ = some (.int .i64 a1_2) := (blk_cell BK158.out 2).trans rfl; have hcz32_3 : w30.cell? ⟨gb158, 3, none⟩ = some (.int .i64 a1_3) := (blk_cell BK158.out 3).trans rfl; have hcz32_4 : w30.cell? ⟨gb158, 4, none⟩ = some (.int .i64 a1_4) := (blk_cell BK158.out 4).trans rfl; have hcz32_5 : w30.cell? ⟨gb158, 5, none⟩ = some (.int .i64 a1_5) := (blk_cell BK158.out 5).trans rfl; have hfz32_0 := blk_frozen BK158.out 0; have hfz32_1 := blk_frozen BK158.out 1; have hfz32_2 := blk_frozen BK158.out 2; have hfz32_3 := blk_frozen BK158.out 3; have hfz32_4 := blk_frozen BK158.out 4; have hfz32_5 := blk_frozen BK158.out 5) | (go_at_call 10; (with_reducible refine (spec_May.calls a1_0 a1_1 a1_2 a1_3 a1_4 a1_5 t164 _ A26.out).mono ?_); rintro e w33 ⟨rfl, hb⟩; have n0_ := Aside0.mk (blk_below (g := gb157) (o := .cells #[.int .i64 a0_0, .int .i64 a0_1, .int .i64 a0_2, .int .i64 a0_3, .int .i64 a0_4, .int .i64 a0_5] 23 (0, 0)) (by (with_reducible repeat (first | refine blk_drewN ?_ _ | refine blk_drew ?_ | refine blk_alloc ?_ _)); exact BK157.out) hb); have n1_ := Aside0.mk (blk_below (g := gb158) (o := .cells #[.int .i64 a1_0, .int .i64 a1_1, .int .i64 a1_2, .int .i64 a1_3, .int .i64 a1_4, .int .i64 a1_5] 23 (0, 0)) (by (with_reducible repeat (first | refine blk_drewN ?_ _ | refine blk_drew ?_ | refine blk_alloc ?_ _)); exact BK158.out) hb); have n2_ := Aside0.mk (blk_below (g := gb159) (o := .cells #[.bool a2_0, .int .i64 a2_1, .int .i64 a2_2, .int .i64 a2_3, .bool a2_4, .int .i64 a2_5, .int .i64 a2_6, .int .i64 a2_7] 25 (0, 0)) (by (with_reducible repeat (first | refine blk_drewN ?_ _ | refine blk_drew ?_ | refine blk_alloc ?_ _)); exact BK159.out) hb); have n3_ := Aside0.mk (below_step (by repeat (first | (with_reducible first | exact HB.out | apply below_alloc | apply pw_below_drewN | apply below_drew1 | refine below_set ?_ GE157.out | refine below_set ?_ GE158.out | refine below_set ?_ GE159.out) | exact HB.out)) hb); clear BK157; clear BK158; clear BK159; clear HB; have BK157 := n0_; have BK158 := n1_; have BK159 := n2_; have HB := n3_; clear n0_ n1_ n2_ n3_; (try clear hb); (try clear hb2); (try clear hk); (try clear hi)))
            go_meet
            case rel => exact ⟨_, (!t164), (by first | rfl | (simp; done) | (simp [*]; done)), H', ⟨by first | omega | exact Nat.le_refl _⟩, ⟨by (with_reducible repeat (first | refine blk_drewN ?_ _ | refine blk_drew ?_ | refine blk_alloc ?_ _)); exact BK157.out⟩, ⟨by (with_reducible repeat (first | refine blk_drewN ?_ _ | refine blk_drew ?_ | refine blk_alloc ?_ _)); exact BK158.out⟩, ⟨by (with_reducible repeat (first | refine blk_drewN ?_ _ | refine blk_drew ?_ | refine blk_alloc ?_ _)); exact BK159.out⟩, ⟨by repeat (first | (with_reducible first | exact HB.out | apply below_alloc | apply pw_below_drewN | apply below_drew1 | refine below_set ?_ GE157.out | refine below_set ?_ GE158.out | refine below_set ?_ GE159.out) | exact HB.out)⟩⟩
          · replace c25 := Bool.eq_false_iff.mpr c25
            subst c25
            have H1 : (fuseelaw11_JobSpec.j0 k true false false a0_0 a0_1 a0_2 a0_3 a0_4 a0_5 a1_0 a1_1 a1_2 a1_3 a1_4 a1_5) = some r := by rw [if_neg (show ¬ (false = true) by decide)] at H; exact H
            clear H
            have H := H1
            clear H1
            have H' := Aside0.mk H
            clear H
            have hnb34 := NB157_158.out
            have hnc34 := NB158_157.out
            have hnb35 := NB157_159.out
            have hnc35 := NB159_157.out
            have hcz36_0 : w20.cell? ⟨gb157, 0, none⟩ = some (.int .i64 a0_0) := (blk_cell BK157.out 0).trans rfl
            have hcz36_1 : w20.cell? ⟨gb157, 1, none⟩ = some (.int .i64 a0_1) := (blk_cell BK157.out 1).trans rfl
            have hcz36_2 : w20.cell? ⟨gb157, 2, none⟩ = some (.int .i64 a0_2) := (blk_cell BK157.out 2).trans rfl
            have hcz36_3 : w20.cell? ⟨gb157, 3, none⟩ = some (.int .i64 a0_3) := (blk_cell BK157.out 3).trans rfl
            have hcz36_4 : w20.cell? ⟨gb157, 4, none⟩ = some (.int .i64 a0_4) := (blk_cell BK157.out 4).trans rfl
            have hcz36_5 : w20.cell? ⟨gb157, 5, none⟩ = some (.int .i64 a0_5) := (blk_cell BK157.out 5).trans rfl
            have hfz36_0 := blk_frozen BK157.out 0
            have hfz36_1 := blk_frozen BK157.out 1
            have hfz36_2 := blk_frozen BK157.out 2
            have hfz36_3 := blk_frozen BK157.out 3
            have hfz36_4 := blk_frozen BK157.out 4
            have hfz36_5 := blk_frozen BK157.out 5
            go_wp2_with (first | (go_at_call 10; (with_reducible refine (spec_May.calls a0_0 a0_1 a0_2 a0_3 a0_4 a0_5 true _ A23.out).mono ?_); rintro e w37 ⟨rfl, hb⟩; have n0_ := Aside0.mk (blk_below (g := gb157) (o := .cells #[.int .i64 a0_0, .int .i64 a0_1, .int .i64 a0_2, .int .i64 a0_3, .int .i64 a0_4, .int .i64 a0_5] 23 (0, 0)) (by (with_reducible repeat (first | refine blk_drewN ?_ _ | refine blk_drew ?_ | refine blk_alloc ?_ _)); exact BK157.out) hb); have n1_ := Aside0.mk (blk_below (g := gb158) (o := .cells #[.int .i64 a1_0, .int .i64 a1_1, .int .i64 a1_2, .int .i64 a1_3, .int .i64 a1_4, .int .i64 a1_5] 23 (0, 0)) (by (with_reducible repeat (first | refine blk_drewN ?_ _ | refine blk_drew ?_ | refine blk_alloc ?_ _)); exact BK158.out) hb); have n2_ := Aside0.mk (blk_below (g := gb159) (o := .cells #[.bool a2_0, .int .i64 a2_1, .int .i64 a2_2, .int .i64 a2_3, .bool a2_4, .int .i64 a2_5, .int .i64 a2_6, .int .i64 a2_7] 25 (0, 0)) (by (with_reducible repeat (first | refine blk_drewN ?_ _ | refine blk_drew ?_ | refine blk_alloc ?_ _)); exact BK159.out) hb); have n3_ := Aside0.mk (below_step (by repeat (first | (with_reducible first | exact HB.out | apply below_alloc | apply pw_below_drewN | apply below_drew1 | refine below_set ?_ GE157.out | refine below_set ?_ GE158.out | refine below_set ?_ GE159.out) | exact HB.out)) hb); clear BK157; clear BK158; clear BK159; clear HB; have BK157 := n0_; have BK158 := n1_; have BK159 := n2_; have HB := n3_; clear n0_ n1_ n2_ n3_; (try clear hb); (try clear hb2); (try clear hk); (try clear hi)))
            go_meet
            case rel => exact ⟨_, (false), (by first | rfl | (simp; done) | (simp [*]; done)), H', ⟨by first | omega | exact Nat.le_refl _⟩, ⟨by (with_reducible repeat (first | refine blk_drewN ?_ _ | refine blk_drew ?_ | refine blk_alloc ?_ _)); exact BK157.out⟩, ⟨by (with_reducible repeat (first | refine blk_drewN ?_ _ | refine blk_drew ?_ | refine blk_alloc ?_ _)); exact BK158.out⟩, ⟨by (with_reducible repeat (first | refine blk_drewN ?_ _ | refine blk_drew ?_ | refine blk_alloc ?_ _)); exact BK159.out⟩, ⟨by repeat (first | (with_reducible first | exact HB.out | apply below_alloc | apply pw_below_drewN | apply below_drew1 | refine below_set ?_ GE157.out | refine below_set ?_ GE158.out | refine below_set ?_ GE159.out) | exact HB.out)⟩⟩
        · replace c24 := Bool.eq_false_iff.mpr c24
          subst c24
          have H1 : (fuseelaw11_JobSpec.j0 k true t162 true a0_0 a0_1 a0_2 a0_3 a0_4 a0_5 a1_0 a1_1 a1_2 a1_3 a1_4 a1_5) = some r := by rw [if_neg (show ¬ (false = true) by decide)] at H; exact H
          clear H
          have H := H1
          clear H1
          have H' := Aside0.mk H
          clear H
          have hnb38 := NB157_158.out
          have hnc38 := NB158_157.out
          have hnb39 := NB157_159.out
          have hnc39 := NB159_157.out
          have hcz40_0 : w20.cell? ⟨gb157, 0, none⟩ = some (.int .i64 a0_0) := (blk_cell BK157.out 0).trans rfl
          have hcz40_1 : w20.cell? ⟨gb157, 1, none⟩ = some (.int .i64 a0_1) := (blk_cell BK157.out 1).trans rfl
          have hcz40_2 : w20.cell? ⟨gb157, 2, none⟩ = some (.int .i64 a0_2) := (blk_cell BK157.out 2).trans rfl
          have hcz40_3 : w20.cell? ⟨gb157, 3, none⟩ = some (.int .i64 a0_3) := (blk_cell BK157.out 3).trans rfl
          have hcz40_4 : w20.cell? ⟨gb157, 4, none⟩ = some (.int .i64 a0_4) := (blk_cell BK157.out 4).trans rfl
          have hcz40_5 : w20.cell? ⟨gb157, 5, none⟩ = some (.int .i64 a0_5) := (blk_cell BK157.out 5).trans rfl
          have hfz40_0 := blk_frozen BK157.out 0
          have hfz40_1 := blk_frozen BK157.out 1
          have hfz40_2 := blk_frozen BK157.out 2
          have hfz40_3 := blk_frozen BK157.out 3
          have hfz40_4 := blk_frozen BK157.out 4
          have hfz40_5 := blk_frozen BK157.out 5
          go_wp2_with (first | (go_at_call 10; (with_reducible refine (spec_May.calls a0_0 a0_1 a0_2 a0_3 a0_4 a0_5 false _ A23.out).mono ?_); rintro e w41 ⟨rfl, hb⟩; have n0_ := Aside0.mk (blk_below (g := gb157) (o := .cells #[.int .i64 a0_0, .int .i64 a0_1, .int .i64 a0_2, .int .i64 a0_3, .int .i64 a0_4, .int .i64 a0_5] 23 (0, 0)) (by (with_reducible repeat (first | refine blk_drewN ?_ _ | refine blk_drew ?_ | refine blk_alloc ?_ _)); exact BK157.out) hb); have n1_ := Aside0.mk (blk_below (g := gb158) (o := .cells #[.int .i64 a1_0, .int .i64 a1_1, .int .i64 a1_2, .int .i64 a1_3, .int .i64 a1_4, .int .i64 a1_5] 23 (0, 0)) (by (with_reducible repeat (first | refine blk_drewN ?_ _ | refine blk_drew ?_ | refine blk_alloc ?_ _)); exact BK158.out) hb); have n2_ := Aside0.mk (blk_below (g := gb159) (o := .cells #[.bool a2_0, .int .i64 a2_1, .int .i64 a2_2, .int .i64 a2_3, .bool a2_4, .int .i64 a2_5, .int .i64 a2_6, .int .i64 a2_7] 25 (0, 0)) (by (with_reducible repeat (first | refine blk_drewN ?_ _ | refine blk_drew ?_ | refine blk_alloc ?_ _)); exact BK159.out) hb); have n3_ := Aside0.mk (below_step (by repeat (first | (with_reducible first | exact HB.out | apply below_alloc | apply pw_below_drewN | apply below_drew1 | refine below_set ?_ GE157.out | refine below_set ?_ GE158.out | refine below_set ?_ GE159.out) | exact HB.out)) hb); clear BK157; clear BK158; clear BK159; clear HB; have BK157 := n0_; have BK158 := n1_; have BK159 := n2_; have HB := n3_; clear n0_ n1_ n2_ n3_; (try clear hb); (try clear hb2); (try clear hk); (try clear hi)))
          go_meet
          case rel => exact ⟨_, (true), (by first | rfl | (simp; done) | (simp [*]; done)), H', ⟨by first | omega | exact Nat.le_refl _⟩, ⟨by (with_reducible repeat (first | refine blk_drewN ?_ _ | refine blk_drew ?_ | refine blk_alloc ?_ _)); exact BK157.out⟩, ⟨by (with_reducible repeat (first | refine blk_drewN ?_ _ | refine blk_drew ?_ | refine blk_alloc ?_ _)); exact BK158.out⟩, ⟨by (with_reducible repeat (first | refine blk_drewN ?_ _ | refine blk_drew ?_ | refine blk_alloc ?_ _)); exact BK159.out⟩, ⟨by repeat (first | (with_reducible first | exact HB.out | apply below_alloc | apply pw_below_drewN | apply below_drew1 | refine below_set ?_ GE157.out | refine below_set ?_ GE158.out | refine below_set ?_ GE159.out) | exact HB.out)⟩⟩
      · replace c22 := Bool.eq_false_iff.mpr c22
        subst c22
        have H1 : (if t162 = true then ((spec_May.f a1_0 a1_1 a1_2 a1_3 a1_4 a1_5).bind fun t165 => (fuseelaw11_JobSpec.j0 k false t162 (!t165) a0_0 a0_1 a0_2 a0_3 a0_4 a0_5 a1_0 a1_1 a1_2 a1_3 a1_4 a1_5)) else (fuseelaw11_JobSpec.j0 k false t162 false a0_0 a0_1 a0_2 a0_3 a0_4 a0_5 a1_0 a1_1 a1_2 a1_3 a1_4 a1_5)) = some r := by rw [if_neg (show ¬ (false = true) by decide)] at H; exact H
        clear H
        have H := H1
        clear H1
        by_cases c42 : t162 = true
        · subst c42
          have H1 : ((spec_May.f a1_0 a1_1 a1_2 a1_3 a1_4 a1_5).bind fun t165 => (fuseelaw11_JobSpec.j0 k false true (!t165) a0_0 a0_1 a0_2 a0_3 a0_4 a0_5 a1_0 a1_1 a1_2 a1_3 a1_4 a1_5)) = some r := by rw [if_pos rfl] at H; exact H
          clear H
          have H := H1
          clear H1
          replace H := Option.bind_eq_some_iff.mp H
          obtain ⟨t165, A430, H⟩ := H
          replace H : (fuseelaw11_JobSpec.j0 k false true (!t165) a0_0 a0_1 a0_2 a0_3 a0_4 a0_5 a1_0 a1_1 a1_2 a1_3 a1_4 a1_5) = some r := H
          have A43 := Aside0.mk A430
          clear A430
          have H' := Aside0.mk H
          clear H
          have hnb44 := NB158_157.out
          have hnc44 := NB157_158.out
          have hnb45 := NB158_159.out
          have hnc45 := NB159_158.out
          have hcz46_0 : w20.cell? ⟨gb158, 0, none⟩ = some (.int .i64 a1_0) := (blk_cell BK158.out 0).trans rfl
          have hcz46_1 : w20.cell? ⟨gb158, 1, none⟩ = some (.int .i64 a1_1) := (blk_cell BK158.out 1).trans rfl
          have hcz46_2 : w20.cell? ⟨gb158, 2, none⟩ = some (.int .i64 a1_2) := (blk_cell BK158.out 2).trans rfl
          have hcz46_3 : w20.cell? ⟨gb158, 3, none⟩ = some (.int .i64 a1_3) := (blk_cell BK158.out 3).trans rfl
          have hcz46_4 : w20.cell? ⟨gb158, 4, none⟩ = some (.int .i64 a1_4) := (blk_cell BK158.out 4).trans rfl
          have hcz46_5 : w20.cell? ⟨gb158, 5, none⟩ = some (.int .i64 a1_5) := (blk_cell BK158.out 5).trans rfl
          have hfz46_0 := blk_frozen BK158.out 0
          have hfz46_1 := blk_frozen BK158.out 1
          have hfz46_2 := blk_frozen BK158.out 2
          have hfz46_3 := blk_frozen BK158.out 3
          have hfz46_4 := blk_frozen BK158.out 4
          have hfz46_5 := blk_frozen BK158.out 5
          go_wp2_with (first | (go_at_call 10; (with_reducible refine (spec_May.calls a1_0 a1_1 a1_2 a1_3 a1_4 a1_5 t165 _ A43.out).mono ?_); rintro e w47 ⟨rfl, hb⟩; have n0_ := Aside0.mk (blk_below (g := gb157) (o := .cells #[.int .i64 a0_0, .int .i64 a0_1, .int .i64 a0_2, .int .i64 a0_3, .int .i64 a0_4, .int .i64 a0_5] 23 (0, 0)) (by (with_reducible repeat (first | refine blk_drewN ?_ _ | refine blk_drew ?_ | refine blk_alloc ?_ _)); exact BK157.out) hb); have n1_ := Aside0.mk (blk_below (g := gb158) (o := .cells #[.int .i64 a1_0, .int .i64 a1_1, .int .i64 a1_2, .int .i64 a1_3, .int .i64 a1_4, .int .i64 a1_5] 23 (0, 0)) (by (with_reducible repeat (first | refine blk_drewN ?_ _ | refine blk_drew ?_ | refine blk_alloc ?_ _)); exact BK158.out) hb); have n2_ := Aside0.mk (blk_below (g := gb159) (o := .cells #[.bool a2_0, .int .i64 a2_1, .int .i64 a2_2, .int .i64 a2_3, .bool a2_4, .int .i64 a2_5, .int .i64 a2_6, .int .i64 a2_7] 25 (0, 0)) (by (with_reducible repeat (first | refine blk_drewN ?_ _ | refine blk_drew ?_ | refine blk_alloc ?_ _)); exact BK159.out) hb); have n3_ := Aside0.mk (below_step (by repeat (first | (with_reducible first | exact HB.out | apply below_alloc | apply pw_below_drewN | apply below_drew1 | refine below_set ?_ GE157.out | refine below_set ?_ GE158.out | refine below_set ?_ GE159.out) | exact HB.out)) hb); clear BK157; clear BK158; clear BK159; clear HB; have BK157 := n0_; have BK158 := n1_; have BK159 := n2_; have HB := n3_; clear n0_ n1_ n2_ n3_; (try clear hb); (try clear hb2); (try clear hk); (try clear hi)))
          go_meet
          case rel => exact ⟨_, (!t165), (by first | rfl | (simp; done) | (simp [*]; done)), H', ⟨by first | omega | exact Nat.le_refl _⟩, ⟨by (with_reducible repeat (first | refine blk_drewN ?_ _ | refine blk_drew ?_ | refine blk_alloc ?_ _)); exact BK157.out⟩, ⟨by (with_reducible repeat (first | refine blk_drewN ?_ _ | refine blk_drew ?_ | refine blk_alloc ?_ _)); exact BK158.out⟩, ⟨by (with_reducible repeat (first | refine blk_drewN ?_ _ | refine blk_drew ?_ | refine blk_alloc ?_ _)); exact BK159.out⟩, ⟨by repeat (first | (with_reducible first | exact HB.out | apply below_alloc | apply pw_below_drewN | apply below_drew1 | refine below_set ?_ GE157.out | refine below_set ?_ GE158.out | refine below_set ?_ GE159.out) | exact HB.out)⟩⟩
        · replace c42 := Bool.eq_false_iff.mpr c42
          subst c42
          have H1 : (fuseelaw11_JobSpec.j0 k false false false a0_0 a0_1 a0_2 a0_3 a0_4 a0_5 a1_0 a1_1 a1_2 a1_3 a1_4 a1_5) = some r := by rw [if_neg (show ¬ (false = true) by decide)] at H; exact H
          clear H
          have H := H1
          clear H1
          have H' := Aside0.mk H
          clear H
          go_wp2
          go_meet
          case rel => exact ⟨_, (false), (by first | rfl | (simp; done) | (simp [*]; done)), H', ⟨by first | omega | exact Nat.le_refl _⟩, ⟨by (with_reducible repeat (first | refine blk_drewN ?_ _ | refine blk_drew ?_ | refine blk_alloc ?_ _)); exact BK157.out⟩, ⟨by (with_reducible repeat (first | refine blk_drewN ?_ _ | refine blk_drew ?_ | refine blk_alloc ?_ _)); exact BK158.out⟩, ⟨by (with_reducible repeat (first | refine blk_drewN ?_ _ | refine blk_drew ?_ | refine blk_alloc ?_ _)); exact BK159.out⟩, ⟨by repeat (first | (with_reducible first | exact HB.out | apply below_alloc | apply pw_below_drewN | apply below_drew1 | refine below_set ?_ GE157.out | refine below_set ?_ GE158.out | refine below_set ?_ GE159.out) | exact HB.out)⟩⟩
    · replace c21 := Bool.eq_false_iff.mpr c21
      subst c21
      have H1 : (fuseelaw11_JobSpec.j0 k t161 t162 true a0_0 a0_1 a0_2 a0_3 a0_4 a0_5 a1_0 a1_1 a1_2 a1_3 a1_4 a1_5) = some r := by rw [if_neg (show ¬ (false = true) by decide)] at H; exact H
      clear H
      have H := H1
      clear H1
      have H' := Aside0.mk H
      clear H
      go_wp2
      go_meet
      case rel => exact ⟨_, (true), (by first | rfl | (simp; done) | (simp [*]; done)), H', ⟨by first | omega | exact Nat.le_refl _⟩, ⟨by (with_reducible repeat (first | refine blk_drewN ?_ _ | refine blk_drew ?_ | refine blk_alloc ?_ _)); exact BK157.out⟩, ⟨by (with_reducible repeat (first | refine blk_drewN ?_ _ | refine blk_drew ?_ | refine blk_alloc ?_ _)); exact BK158.out⟩, ⟨by (with_reducible repeat (first | refine blk_drewN ?_ _ | refine blk_drew ?_ | refine blk_alloc ?_ _)); exact BK159.out⟩, ⟨by repeat (first | (with_reducible first | exact HB.out | apply below_alloc | apply pw_below_drewN | apply below_drew1 | refine below_set ?_ GE157.out | refine below_set ?_ GE158.out | refine below_set ?_ GE159.out) | exact HB.out)⟩⟩
  case rest =>
    clear HC7
    try clear c1
    try clear c2
    try clear p2
    try clear c3
    try clear c4
    try clear c8
    try clear c9
    try clear c12
    try clear c13
    try clear c15
    try clear c21
    try clear c22
    try clear c24
    try clear c25
    try clear c27
    try clear c28
    try clear c31
    try clear c34
    try clear c35
    try clear c38
    try clear c39
    try clear c42
    try clear c44
    try clear c45
    try clear hcz14_0
    try clear hcz14_1
    try clear hcz14_2
    try clear hcz14_3
    try clear hcz14_4
    try clear hcz14_5
    try clear hcz16_0
    try clear hcz16_1
    try clear hcz16_2
    try clear hcz16_3
    try clear hcz16_4
    try clear hcz16_5
    try clear hcz16_6
    try clear hcz16_7
    try clear hcz18_0
    try clear hcz18_1
    try clear hcz18_2
    try clear hcz18_3
    try clear hcz18_4
    try clear hcz18_5
    try clear hcz19_0
    try clear hcz19_1
    try clear hcz19_2
    try clear hcz19_3
    try clear hcz19_4
    try clear hcz19_5
    try clear hcz19_6
    try clear hcz19_7
    try clear hcz29_0
    try clear hcz29_1
    try clear hcz29_2
    try clear hcz29_3
    try clear hcz29_4
    try clear hcz29_5
    try clear hcz32_0
    try clear hcz32_1
    try clear hcz32_2
    try clear hcz32_3
    try clear hcz32_4
    try clear hcz32_5
    try clear hcz36_0
    try clear hcz36_1
    try clear hcz36_2
    try clear hcz36_3
    try clear hcz36_4
    try clear hcz36_5
    try clear hcz40_0
    try clear hcz40_1
    try clear hcz40_2
    try clear hcz40_3
    try clear hcz40_4
    try clear hcz40_5
    try clear hcz46_0
    try clear hcz46_1
    try clear hcz46_2
    try clear hcz46_3
    try clear hcz46_4
    try clear hcz46_5
    try clear hfz14_0
    try clear hfz14_1
    try clear hfz14_2
    try clear hfz14_3
    try clear hfz14_4
    try clear hfz14_5
    try clear hfz16_0
    try clear hfz16_1
    try clear hfz16_2
    try clear hfz16_3
    try clear hfz16_4
    try clear hfz16_5
    try clear hfz16_6
    try clear hfz16_7
    try clear hfz18_0
    try clear hfz18_1
    try clear hfz18_2
    try clear hfz18_3
    try clear hfz18_4
    try clear hfz18_5
    try clear hfz19_0
    try clear hfz19_1
    try clear hfz19_2
    try clear hfz19_3
    try clear hfz19_4
    try clear hfz19_5
    try clear hfz19_6
    try clear hfz19_7
    try clear hfz29_0
    try clear hfz29_1
    try clear hfz29_2
    try clear hfz29_3
    try clear hfz29_4
    try clear hfz29_5
    try clear hfz32_0
    try clear hfz32_1
    try clear hfz32_2
    try clear hfz32_3
    try clear hfz32_4
    try clear hfz32_5
    try clear hfz36_0
    try clear hfz36_1
    try clear hfz36_2
    try clear hfz36_3
    try clear hfz36_4
    try clear hfz36_5
    try clear hfz40_0
    try clear hfz40_1
    try clear hfz40_2
    try clear hfz40_3
    try clear hfz40_4
    try clear hfz40_5
    try clear hfz46_0
    try clear hfz46_1
    try clear hfz46_2
    try clear hfz46_3
    try clear hfz46_4
    try clear hfz46_5
    obtain ⟨kq, x35_6, rfl, HA, HJ6, BK157, BK158, BK159, HB⟩ := hcut
    cases kq with
    | zero => exact absurd HA.out (by simp [fuseelaw11_JobSpec.j0])
    | succ kj6 =>
      have H := HA.out
      clear HA
      simp only [fuseelaw11_JobSpec.j0] at H
      by_cases c48 : x35_6 = true
      · subst c48
        have H1 : (none) = some r := by rw [if_pos rfl] at H; exact H
        clear H
        have H := H1
        clear H1
        exact absurd H (by simp)
      · replace c48 := Bool.eq_false_iff.mpr c48
        subst c48
        have H1 : (if a0_0 = a1_0 then (if a0_3 = a1_3 then (if a0_4 = a1_4 then ((spec_May.f a0_0 a0_1 a0_2 a0_3 a0_4 a0_5).bind fun t166 => (if t166 = true then ((spec_May.f a1_0 a1_1 a1_2 a1_3 a1_4 a1_5).bind fun t167 => (if t167 = true then (some (t161 == t162)) else (some true))) else (some true))) else (some true)) else (some true)) else (some true)) = some r := by rw [if_neg (show ¬ (false = true) by decide)] at H; exact H
        clear H
        have H := H1
        clear H1
        by_cases c49 : a0_0 = a1_0
        · rw [if_pos c49] at H
          have c49b0 : (a0_0 == a1_0) = true := beq_iff_eq.mpr c49
          have c49b1 : (a0_0 != a1_0) = false := bne_eq_false_iff_eq.mpr c49
          clear c49
          by_cases c50 : a0_3 = a1_3
          · rw [if_pos c50] at H
            have c50b0 : (a0_3 == a1_3) = true := beq_iff_eq.mpr c50
            have c50b1 : (a0_3 != a1_3) = false := bne_eq_false_iff_eq.mpr c50
            clear c50
            by_cases c51 : a0_4 = a1_4
            · rw [if_pos c51] at H
              have c51b0 : (a0_4 == a1_4) = true := beq_iff_eq.mpr c51
              have c51b1 : (a0_4 != a1_4) = false := bne_eq_false_iff_eq.mpr c51
              clear c51
              replace H := Option.bind_eq_some_iff.mp H
              obtain ⟨t166, A520, H⟩ := H
              replace H : (if t166 = true then ((spec_May.f a1_0 a1_1 a1_2 a1_3 a1_4 a1_5).bind fun t167 => (if t167 = true then (some (t161 == t162)) else (some true))) else (some true)) = some r := H
              have A52 := Aside0.mk A520
              clear A520
              by_cases c53 : t166 = true
              · subst c53
                have H1 : ((spec_May.f a1_0 a1_1 a1_2 a1_3 a1_4 a1_5).bind fun t167 => (if t167 = true then (some (t161 == t162)) else (some true))) = some r := by rw [if_pos rfl] at H; exact H
                clear H
                have H := H1
                clear H1
                replace H := Option.bind_eq_some_iff.mp H
                obtain ⟨t167, A540, H⟩ := H
                replace H : (if t167 = true then (some (t161 == t162)) else (some true)) = some r := H
                have A54 := Aside0.mk A540
                clear A540
                by_cases c55 : t167 = true
                · subst c55
                  have H1 : (some (t161 == t162)) = some r := by rw [if_pos rfl] at H; exact H
                  clear H
                  have H := H1
                  clear H1
                  obtain rfl := Option.some.inj H
                  have hnb56 := NB157_158.out
                  have hnc56 := NB158_157.out
                  have hnb57 := NB157_159.out
                  have hnc57 := NB159_157.out
                  have hcz58_0 : wc.cell? ⟨gb157, 0, none⟩ = some (.int .i64 a0_0) := (blk_cell BK157.out 0).trans rfl
                  have hcz58_1 : wc.cell? ⟨gb157, 1, none⟩ = some (.int .i64 a0_1) := (blk_cell BK157.out 1).trans rfl
                  have hcz58_2 : wc.cell? ⟨gb157, 2, none⟩ = some (.int .i64 a0_2) := (blk_cell BK157.out 2).trans rfl
                  have hcz58_3 : wc.cell? ⟨gb157, 3, none⟩ = some (.int .i64 a0_3) := (blk_cell BK157.out 3).trans rfl
                  have hcz58_4 : wc.cell? ⟨gb157, 4, none⟩ = some (.int .i64 a0_4) := (blk_cell BK157.out 4).trans rfl
                  have hcz58_5 : wc.cell? ⟨gb157, 5, none⟩ = some (.int .i64 a0_5) := (blk_cell BK157.out 5).trans rfl
                  have hfz58_0 := blk_frozen BK157.out 0
                  have hfz58_1 := blk_frozen BK157.out 1
                  have hfz58_2 := blk_frozen BK157.out 2
                  have hfz58_3 := blk_frozen BK157.out 3
                  have hfz58_4 := blk_frozen BK157.out 4
                  have hfz58_5 := blk_frozen BK157.out 5
                  have hnb59 := NB158_159.out
                  have hnc59 := NB159_158.out
                  have hcz60_0 : wc.cell? ⟨gb158, 0, none⟩ = some (.int .i64 a1_0) := (blk_cell BK158.out 0).trans rfl
                  have hcz60_1 : wc.cell? ⟨gb158, 1, none⟩ = some (.int .i64 a1_1) := (blk_cell BK158.out 1).trans rfl
                  have hcz60_2 : wc.cell? ⟨gb158, 2, none⟩ = some (.int .i64 a1_2) := (blk_cell BK158.out 2).trans rfl
                  have hcz60_3 : wc.cell? ⟨gb158, 3, none⟩ = some (.int .i64 a1_3) := (blk_cell BK158.out 3).trans rfl
                  have hcz60_4 : wc.cell? ⟨gb158, 4, none⟩ = some (.int .i64 a1_4) := (blk_cell BK158.out 4).trans rfl
                  have hcz60_5 : wc.cell? ⟨gb158, 5, none⟩ = some (.int .i64 a1_5) := (blk_cell BK158.out 5).trans rfl
                  have hfz60_0 := blk_frozen BK158.out 0
                  have hfz60_1 := blk_frozen BK158.out 1
                  have hfz60_2 := blk_frozen BK158.out 2
                  have hfz60_3 := blk_frozen BK158.out 3
                  have hfz60_4 := blk_frozen BK158.out 4
                  have hfz60_5 := blk_frozen BK158.out 5
                  go_wp2_with (first | (go_at_call 10; (with_reducible refine (spec_May.calls a0_0 a0_1 a0_2 a0_3 a0_4 a0_5 true _ A52.out).mono ?_); rintro e w61 ⟨rfl, hb⟩; have n0_ := Aside0.mk (blk_below (g := gb157) (o := .cells #[.int .i64 a0_0, .int .i64 a0_1, .int .i64 a0_2, .int .i64 a0_3, .int .i64 a0_4, .int .i64 a0_5] 23 (0, 0)) (by (with_reducible repeat (first | refine blk_drewN ?_ _ | refine blk_drew ?_ | refine blk_alloc ?_ _)); exact BK157.out) hb); have n1_ := Aside0.mk (blk_below (g := gb158) (o := .cells #[.int .i64 a1_0, .int .i64 a1_1, .int .i64 a1_2, .int .i64 a1_3, .int .i64 a1_4, .int .i64 a1_5] 23 (0, 0)) (by (with_reducible repeat (first | refine blk_drewN ?_ _ | refine blk_drew ?_ | refine blk_alloc ?_ _)); exact BK158.out) hb); have n2_ := Aside0.mk (blk_below (g := gb159) (o := .cells #[.bool a2_0, .int .i64 a2_1, .int .i64 a2_2, .int .i64 a2_3, .bool a2_4, .int .i64 a2_5, .int .i64 a2_6, .int .i64 a2_7] 25 (0, 0)) (by (with_reducible repeat (first | refine blk_drewN ?_ _ | refine blk_drew ?_ | refine blk_alloc ?_ _)); exact BK159.out) hb); have n3_ := Aside0.mk (below_step (by repeat (first | (with_reducible first | exact HB.out | apply below_alloc | apply pw_below_drewN | apply below_drew1 | refine below_set ?_ GE157.out | refine below_set ?_ GE158.out | refine below_set ?_ GE159.out) | exact HB.out)) hb); clear BK157; clear BK158; clear BK159; clear HB; have BK157 := n0_; have BK158 := n1_; have BK159 := n2_; have HB := n3_; clear n0_ n1_ n2_ n3_; (try clear hb); (try clear hb2); (try clear hk); (try clear hi); (try clear hcz58_0 hcz58_1 hcz58_2 hcz58_3 hcz58_4 hcz58_5 hfz58_0 hfz58_1 hfz58_2 hfz58_3 hfz58_4 hfz58_5); (try clear hcz60_0 hcz60_1 hcz60_2 hcz60_3 hcz60_4 hcz60_5 hfz60_0 hfz60_1 hfz60_2 hfz60_3 hfz60_4 hfz60_5); have hcz62_0 : w61.cell? ⟨gb158, 0, none⟩ = some (.int .i64 a1_0) := (blk_cell BK158.out 0).trans rfl; have hcz62_1 : w61.cell? ⟨gb158, 1, none⟩ = some (.int .i64 a1_1) := (blk_cell BK158.out 1).trans rfl; have hcz62_2 : w61.cell? ⟨gb158, 2, none⟩ = some (.int .i64 a1_2) := (blk_cell BK158.out 2).trans rfl; have hcz62_3 : w61.cell? ⟨gb158, 3, none⟩ = some (.int .i64 a1_3) := (blk_cell BK158.out 3).trans rfl; have hcz62_4 : w61.cell? ⟨gb158, 4, none⟩ = some (.int .i64 a1_4) := (blk_cell BK158.out 4).trans rfl; have hcz62_5 : w61.cell? ⟨gb158, 5, none⟩ = some (.int .i64 a1_5) := (blk_cell BK158.out 5).trans rfl; have hfz62_0 := blk_frozen BK158.out 0; have hfz62_1 := blk_frozen BK158.out 1; have hfz62_2 := blk_frozen BK158.out 2; have hfz62_3 := blk_frozen BK158.out 3; have hfz62_4 := blk_frozen BK158.out 4; have hfz62_5 := blk_frozen BK158.out 5) | (go_at_call 10; (with_reducible refine (spec_May.calls a1_0 a1_1 a1_2 a1_3 a1_4 a1_5 true _ A54.out).mono ?_); rintro e w63 ⟨rfl, hb⟩; have n0_ := Aside0.mk (blk_below (g := gb157) (o := .cells #[.int .i64 a0_0, .int .i64 a0_1, .int .i64 a0_2, .int .i64 a0_3, .int .i64 a0_4, .int .i64 a0_5] 23 (0, 0)) (by (with_reducible repeat (first | refine blk_drewN ?_ _ | refine blk_drew ?_ | refine blk_alloc ?_ _)); exact BK157.out) hb); have n1_ := Aside0.mk (blk_below (g := gb158) (o := .cells #[.int .i64 a1_0, .int .i64 a1_1, .int .i64 a1_2, .int .i64 a1_3, .int .i64 a1_4, .int .i64 a1_5] 23 (0, 0)) (by (with_reducible repeat (first | refine blk_drewN ?_ _ | refine blk_drew ?_ | refine blk_alloc ?_ _)); exact BK158.out) hb); have n2_ := Aside0.mk (blk_below (g := gb159) (o := .cells #[.bool a2_0, .int .i64 a2_1, .int .i64 a2_2, .int .i64 a2_3, .bool a2_4, .int .i64 a2_5, .int .i64 a2_6, .int .i64 a2_7] 25 (0, 0)) (by (with_reducible repeat (first | refine blk_drewN ?_ _ | refine blk_drew ?_ | refine blk_alloc ?_ _)); exact BK159.out) hb); have n3_ := Aside0.mk (below_step (by repeat (first | (with_reducible first | exact HB.out | apply below_alloc | apply pw_below_drewN | apply below_drew1 | refine below_set ?_ GE157.out | refine below_set ?_ GE158.out | refine below_set ?_ GE159.out) | exact HB.out)) hb); clear BK157; clear BK158; clear BK159; clear HB; have BK157 := n0_; have BK158 := n1_; have BK159 := n2_; have HB := n3_; clear n0_ n1_ n2_ n3_; (try clear hb); (try clear hb2); (try clear hk); (try clear hi)))
                  go_ret
                  exact ⟨by first | rfl | (simp [errW_none, errW_some] <;> rfl) | (simp [*, errW_none, errW_some] <;> rfl) | (exfalso; first | exact absurd ‹(false != false) = true› (by decide) | exact absurd ‹(true != true) = true› (by decide) | exact absurd ‹(true != false) = false› (by decide) | exact absurd ‹(false != true) = false› (by decide) | exact absurd ‹(false == false) = false› (by decide) | exact absurd ‹(true == true) = false› (by decide) | exact absurd ‹(true == false) = true› (by decide) | exact absurd ‹(false == true) = true› (by decide)), by repeat (first | (with_reducible first | exact HB.out | apply below_alloc | apply pw_below_drewN | apply below_drew1 | refine below_set ?_ GE157.out | refine below_set ?_ GE158.out | refine below_set ?_ GE159.out) | exact HB.out)⟩
                · replace c55 := Bool.eq_false_iff.mpr c55
                  subst c55
                  have H1 : (some true) = some r := by rw [if_neg (show ¬ (false = true) by decide)] at H; exact H
                  clear H
                  have H := H1
                  clear H1
                  obtain rfl := Option.some.inj H
                  have hnb64 := NB157_158.out
                  have hnc64 := NB158_157.out
                  have hnb65 := NB157_159.out
                  have hnc65 := NB159_157.out
                  have hcz66_0 : wc.cell? ⟨gb157, 0, none⟩ = some (.int .i64 a0_0) := (blk_cell BK157.out 0).trans rfl
                  have hcz66_1 : wc.cell? ⟨gb157, 1, none⟩ = some (.int .i64 a0_1) := (blk_cell BK157.out 1).trans rfl
                  have hcz66_2 : wc.cell? ⟨gb157, 2, none⟩ = some (.int .i64 a0_2) := (blk_cell BK157.out 2).trans rfl
                  have hcz66_3 : wc.cell? ⟨gb157, 3, none⟩ = some (.int .i64 a0_3) := (blk_cell BK157.out 3).trans rfl
                  have hcz66_4 : wc.cell? ⟨gb157, 4, none⟩ = some (.int .i64 a0_4) := (blk_cell BK157.out 4).trans rfl
                  have hcz66_5 : wc.cell? ⟨gb157, 5, none⟩ = some (.int .i64 a0_5) := (blk_cell BK157.out 5).trans rfl
                  have hfz66_0 := blk_frozen BK157.out 0
                  have hfz66_1 := blk_frozen BK157.out 1
                  have hfz66_2 := blk_frozen BK157.out 2
                  have hfz66_3 := blk_frozen BK157.out 3
                  have hfz66_4 := blk_frozen BK157.out 4
                  have hfz66_5 := blk_frozen BK157.out 5
                  have hnb67 := NB158_159.out
                  have hnc67 := NB159_158.out
                  have hcz68_0 : wc.cell? ⟨gb158, 0, none⟩ = some (.int .i64 a1_0) := (blk_cell BK158.out 0).trans rfl
                  have hcz68_1 : wc.cell? ⟨gb158, 1, none⟩ = some (.int .i64 a1_1) := (blk_cell BK158.out 1).trans rfl
                  have hcz68_2 : wc.cell? ⟨gb158, 2, none⟩ = some (.int .i64 a1_2) := (blk_cell BK158.out 2).trans rfl
                  have hcz68_3 : wc.cell? ⟨gb158, 3, none⟩ = some (.int .i64 a1_3) := (blk_cell BK158.out 3).trans rfl
                  have hcz68_4 : wc.cell? ⟨gb158, 4, none⟩ = some (.int .i64 a1_4) := (blk_cell BK158.out 4).trans rfl
                  have hcz68_5 : wc.cell? ⟨gb158, 5, none⟩ = some (.int .i64 a1_5) := (blk_cell BK158.out 5).trans rfl
                  have hfz68_0 := blk_frozen BK158.out 0
                  have hfz68_1 := blk_frozen BK158.out 1
                  have hfz68_2 := blk_frozen BK158.out 2
                  have hfz68_3 := blk_frozen BK158.out 3
                  have hfz68_4 := blk_frozen BK158.out 4
                  have hfz68_5 := blk_frozen BK158.out 5
                  go_wp2_with (first | (go_at_call 10; (with_reducible refine (spec_May.calls a0_0 a0_1 a0_2 a0_3 a0_4 a0_5 true _ A52.out).mono ?_); rintro e w69 ⟨rfl, hb⟩; have n0_ := Aside0.mk (blk_below (g := gb157) (o := .cells #[.int .i64 a0_0, .int .i64 a0_1, .int .i64 a0_2, .int .i64 a0_3, .int .i64 a0_4, .int .i64 a0_5] 23 (0, 0)) (by (with_reducible repeat (first | refine blk_drewN ?_ _ | refine blk_drew ?_ | refine blk_alloc ?_ _)); exact BK157.out) hb); have n1_ := Aside0.mk (blk_below (g := gb158) (o := .cells #[.int .i64 a1_0, .int .i64 a1_1, .int .i64 a1_2, .int .i64 a1_3, .int .i64 a1_4, .int .i64 a1_5] 23 (0, 0)) (by (with_reducible repeat (first | refine blk_drewN ?_ _ | refine blk_drew ?_ | refine blk_alloc ?_ _)); exact BK158.out) hb); have n2_ := Aside0.mk (blk_below (g := gb159) (o := .cells #[.bool a2_0, .int .i64 a2_1, .int .i64 a2_2, .int .i64 a2_3, .bool a2_4, .int .i64 a2_5, .int .i64 a2_6, .int .i64 a2_7] 25 (0, 0)) (by (with_reducible repeat (first | refine blk_drewN ?_ _ | refine blk_drew ?_ | refine blk_alloc ?_ _)); exact BK159.out) hb); have n3_ := Aside0.mk (below_step (by repeat (first | (with_reducible first | exact HB.out | apply below_alloc | apply pw_below_drewN | apply below_drew1 | refine below_set ?_ GE157.out | refine below_set ?_ GE158.out | refine below_set ?_ GE159.out) | exact HB.out)) hb); clear BK157; clear BK158; clear BK159; clear HB; have BK157 := n0_; have BK158 := n1_; have BK159 := n2_; have HB := n3_; clear n0_ n1_ n2_ n3_; (try clear hb); (try clear hb2); (try clear hk); (try clear hi); (try clear hcz66_0 hcz66_1 hcz66_2 hcz66_3 hcz66_4 hcz66_5 hfz66_0 hfz66_1 hfz66_2 hfz66_3 hfz66_4 hfz66_5); (try clear hcz68_0 hcz68_1 hcz68_2 hcz68_3 hcz68_4 hcz68_5 hfz68_0 hfz68_1 hfz68_2 hfz68_3 hfz68_4 hfz68_5); have hcz70_0 : w69.cell? ⟨gb158, 0, none⟩ = some (.int .i64 a1_0) := (blk_cell BK158.out 0).trans rfl; have hcz70_1 : w69.cell? ⟨gb158, 1, none⟩ = some (.int .i64 a1_1) := (blk_cell BK158.out 1).trans rfl; have hcz70_2 : w69.cell? ⟨gb158, 2, none⟩ = some (.int .i64 a1_2) := (blk_cell BK158.out 2).trans rfl; have hcz70_3 : w69.cell? ⟨gb158, 3, none⟩ = some (.int .i64 a1_3) := (blk_cell BK158.out 3).trans rfl; have hcz70_4 : w69.cell? ⟨gb158, 4, none⟩ = some (.int .i64 a1_4) := (blk_cell BK158.out 4).trans rfl; have hcz70_5 : w69.cell? ⟨gb158, 5, none⟩ = some (.int .i64 a1_5) := (blk_cell BK158.out 5).trans rfl; have hfz70_0 := blk_frozen BK158.out 0; have hfz70_1 := blk_frozen BK158.out 1; have hfz70_2 := blk_frozen BK158.out 2; have hfz70_3 := blk_frozen BK158.out 3; have hfz70_4 := blk_frozen BK158.out 4; have hfz70_5 := blk_frozen BK158.out 5) | (go_at_call 10; (with_reducible refine (spec_May.calls a1_0 a1_1 a1_2 a1_3 a1_4 a1_5 false _ A54.out).mono ?_); rintro e w71 ⟨rfl, hb⟩; have n0_ := Aside0.mk (blk_below (g := gb157) (o := .cells #[.int .i64 a0_0, .int .i64 a0_1, .int .i64 a0_2, .int .i64 a0_3, .int .i64 a0_4, .int .i64 a0_5] 23 (0, 0)) (by (with_reducible repeat (first | refine blk_drewN ?_ _ | refine blk_drew ?_ | refine blk_alloc ?_ _)); exact BK157.out) hb); have n1_ := Aside0.mk (blk_below (g := gb158) (o := .cells #[.int .i64 a1_0, .int .i64 a1_1, .int .i64 a1_2, .int .i64 a1_3, .int .i64 a1_4, .int .i64 a1_5] 23 (0, 0)) (by (with_reducible repeat (first | refine blk_drewN ?_ _ | refine blk_drew ?_ | refine blk_alloc ?_ _)); exact BK158.out) hb); have n2_ := Aside0.mk (blk_below (g := gb159) (o := .cells #[.bool a2_0, .int .i64 a2_1, .int .i64 a2_2, .int .i64 a2_3, .bool a2_4, .int .i64 a2_5, .int .i64 a2_6, .int .i64 a2_7] 25 (0, 0)) (by (with_reducible repeat (first | refine blk_drewN ?_ _ | refine blk_drew ?_ | refine blk_alloc ?_ _)); exact BK159.out) hb); have n3_ := Aside0.mk (below_step (by repeat (first | (with_reducible first | exact HB.out | apply below_alloc | apply pw_below_drewN | apply below_drew1 | refine below_set ?_ GE157.out | refine below_set ?_ GE158.out | refine below_set ?_ GE159.out) | exact HB.out)) hb); clear BK157; clear BK158; clear BK159; clear HB; have BK157 := n0_; have BK158 := n1_; have BK159 := n2_; have HB := n3_; clear n0_ n1_ n2_ n3_; (try clear hb); (try clear hb2); (try clear hk); (try clear hi)))
                  go_ret
                  exact ⟨by first | rfl | (simp [errW_none, errW_some] <;> rfl) | (simp [*, errW_none, errW_some] <;> rfl) | (exfalso; first | exact absurd ‹(false != false) = true› (by decide) | exact absurd ‹(true != true) = true› (by decide) | exact absurd ‹(true != false) = false› (by decide) | exact absurd ‹(false != true) = false› (by decide) | exact absurd ‹(false == false) = false› (by decide) | exact absurd ‹(true == true) = false› (by decide) | exact absurd ‹(true == false) = true› (by decide) | exact absurd ‹(false == true) = true› (by decide)), by repeat (first | (with_reducible first | exact HB.out | apply below_alloc | apply pw_below_drewN | apply below_drew1 | refine below_set ?_ GE157.out | refine below_set ?_ GE158.out | refine below_set ?_ GE159.out) | exact HB.out)⟩
              · replace c53 := Bool.eq_false_iff.mpr c53
                subst c53
                have H1 : (some true) = some r := by rw [if_neg (show ¬ (false = true) by decide)] at H; exact H
                clear H
                have H := H1
                clear H1
                obtain rfl := Option.some.inj H
                have hnb72 := NB157_158.out
                have hnc72 := NB158_157.out
                have hnb73 := NB157_159.out
                have hnc73 := NB159_157.out
                have hcz74_0 : wc.cell? ⟨gb157, 0, none⟩ = some (.int .i64 a0_0) := (blk_cell BK157.out 0).trans rfl
                have hcz74_1 : wc.cell? ⟨gb157, 1, none⟩ = some (.int .i64 a0_1) := (blk_cell BK157.out 1).trans rfl
                have hcz74_2 : wc.cell? ⟨gb157, 2, none⟩ = some (.int .i64 a0_2) := (blk_cell BK157.out 2).trans rfl
                have hcz74_3 : wc.cell? ⟨gb157, 3, none⟩ = some (.int .i64 a0_3) := (blk_cell BK157.out 3).trans rfl
                have hcz74_4 : wc.cell? ⟨gb157, 4, none⟩ = some (.int .i64 a0_4) := (blk_cell BK157.out 4).trans rfl
                have hcz74_5 : wc.cell? ⟨gb157, 5, none⟩ = some (.int .i64 a0_5) := (blk_cell BK157.out 5).trans rfl
                have hfz74_0 := blk_frozen BK157.out 0
                have hfz74_1 := blk_frozen BK157.out 1
                have hfz74_2 := blk_frozen BK157.out 2
                have hfz74_3 := blk_frozen BK157.out 3
                have hfz74_4 := blk_frozen BK157.out 4
                have hfz74_5 := blk_frozen BK157.out 5
                have hnb75 := NB158_159.out
                have hnc75 := NB159_158.out
                have hcz76_0 : wc.cell? ⟨gb158, 0, none⟩ = some (.int .i64 a1_0) := (blk_cell BK158.out 0).trans rfl
                have hcz76_1 : wc.cell? ⟨gb158, 1, none⟩ = some (.int .i64 a1_1) := (blk_cell BK158.out 1).trans rfl
                have hcz76_2 : wc.cell? ⟨gb158, 2, none⟩ = some (.int .i64 a1_2) := (blk_cell BK158.out 2).trans rfl
                have hcz76_3 : wc.cell? ⟨gb158, 3, none⟩ = some (.int .i64 a1_3) := (blk_cell BK158.out 3).trans rfl
                have hcz76_4 : wc.cell? ⟨gb158, 4, none⟩ = some (.int .i64 a1_4) := (blk_cell BK158.out 4).trans rfl
                have hcz76_5 : wc.cell? ⟨gb158, 5, none⟩ = some (.int .i64 a1_5) := (blk_cell BK158.out 5).trans rfl
                have hfz76_0 := blk_frozen BK158.out 0
                have hfz76_1 := blk_frozen BK158.out 1
                have hfz76_2 := blk_frozen BK158.out 2
                have hfz76_3 := blk_frozen BK158.out 3
                have hfz76_4 := blk_frozen BK158.out 4
                have hfz76_5 := blk_frozen BK158.out 5
                go_wp2_with (first | (go_at_call 10; (with_reducible refine (spec_May.calls a0_0 a0_1 a0_2 a0_3 a0_4 a0_5 false _ A52.out).mono ?_); rintro e w77 ⟨rfl, hb⟩; have n0_ := Aside0.mk (blk_below (g := gb157) (o := .cells #[.int .i64 a0_0, .int .i64 a0_1, .int .i64 a0_2, .int .i64 a0_3, .int .i64 a0_4, .int .i64 a0_5] 23 (0, 0)) (by (with_reducible repeat (first | refine blk_drewN ?_ _ | refine blk_drew ?_ | refine blk_alloc ?_ _)); exact BK157.out) hb); have n1_ := Aside0.mk (blk_below (g := gb158) (o := .cells #[.int .i64 a1_0, .int .i64 a1_1, .int .i64 a1_2, .int .i64 a1_3, .int .i64 a1_4, .int .i64 a1_5] 23 (0, 0)) (by (with_reducible repeat (first | refine blk_drewN ?_ _ | refine blk_drew ?_ | refine blk_alloc ?_ _)); exact BK158.out) hb); have n2_ := Aside0.mk (blk_below (g := gb159) (o := .cells #[.bool a2_0, .int .i64 a2_1, .int .i64 a2_2, .int .i64 a2_3, .bool a2_4, .int .i64 a2_5, .int .i64 a2_6, .int .i64 a2_7] 25 (0, 0)) (by (with_reducible repeat (first | refine blk_drewN ?_ _ | refine blk_drew ?_ | refine blk_alloc ?_ _)); exact BK159.out) hb); have n3_ := Aside0.mk (below_step (by repeat (first | (with_reducible first | exact HB.out | apply below_alloc | apply pw_below_drewN | apply below_drew1 | refine below_set ?_ GE157.out | refine below_set ?_ GE158.out | refine below_set ?_ GE159.out) | exact HB.out)) hb); clear BK157; clear BK158; clear BK159; clear HB; have BK157 := n0_; have BK158 := n1_; have BK159 := n2_; have HB := n3_; clear n0_ n1_ n2_ n3_; (try clear hb); (try clear hb2); (try clear hk); (try clear hi)))
                go_ret
                exact ⟨by first | rfl | (simp [errW_none, errW_some] <;> rfl) | (simp [*, errW_none, errW_some] <;> rfl) | (exfalso; first | exact absurd ‹(false != false) = true› (by decide) | exact absurd ‹(true != true) = true› (by decide) | exact absurd ‹(true != false) = false› (by decide) | exact absurd ‹(false != true) = false› (by decide) | exact absurd ‹(false == false) = false› (by decide) | exact absurd ‹(true == true) = false› (by decide) | exact absurd ‹(true == false) = true› (by decide) | exact absurd ‹(false == true) = true› (by decide)), by repeat (first | (with_reducible first | exact HB.out | apply below_alloc | apply pw_below_drewN | apply below_drew1 | refine below_set ?_ GE157.out | refine below_set ?_ GE158.out | refine below_set ?_ GE159.out) | exact HB.out)⟩
            · rw [if_neg c51] at H
              have c51b0 : (a0_4 == a1_4) = false := beq_eq_false_iff_ne.mpr c51
              have c51b1 : (a0_4 != a1_4) = true := bne_iff_ne.mpr c51
              obtain rfl := Option.some.inj H
              have hnb78 := NB157_158.out
              have hnc78 := NB158_157.out
              have hnb79 := NB157_159.out
              have hnc79 := NB159_157.out
              have hcz80_0 : wc.cell? ⟨gb157, 0, none⟩ = some (.int .i64 a0_0) := (blk_cell BK157.out 0).trans rfl
              have hcz80_1 : wc.cell? ⟨gb157, 1, none⟩ = some (.int .i64 a0_1) := (blk_cell BK157.out 1).trans rfl
              have hcz80_2 : wc.cell? ⟨gb157, 2, none⟩ = some (.int .i64 a0_2) := (blk_cell BK157.out 2).trans rfl
              have hcz80_3 : wc.cell? ⟨gb157, 3, none⟩ = some (.int .i64 a0_3) := (blk_cell BK157.out 3).trans rfl
              have hcz80_4 : wc.cell? ⟨gb157, 4, none⟩ = some (.int .i64 a0_4) := (blk_cell BK157.out 4).trans rfl
              have hcz80_5 : wc.cell? ⟨gb157, 5, none⟩ = some (.int .i64 a0_5) := (blk_cell BK157.out 5).trans rfl
              have hfz80_0 := blk_frozen BK157.out 0
              have hfz80_1 := blk_frozen BK157.out 1
              have hfz80_2 := blk_frozen BK157.out 2
              have hfz80_3 := blk_frozen BK157.out 3
              have hfz80_4 := blk_frozen BK157.out 4
              have hfz80_5 := blk_frozen BK157.out 5
              have hnb81 := NB158_159.out
              have hnc81 := NB159_158.out
              have hcz82_0 : wc.cell? ⟨gb158, 0, none⟩ = some (.int .i64 a1_0) := (blk_cell BK158.out 0).trans rfl
              have hcz82_1 : wc.cell? ⟨gb158, 1, none⟩ = some (.int .i64 a1_1) := (blk_cell BK158.out 1).trans rfl
              have hcz82_2 : wc.cell? ⟨gb158, 2, none⟩ = some (.int .i64 a1_2) := (blk_cell BK158.out 2).trans rfl
              have hcz82_3 : wc.cell? ⟨gb158, 3, none⟩ = some (.int .i64 a1_3) := (blk_cell BK158.out 3).trans rfl
              have hcz82_4 : wc.cell? ⟨gb158, 4, none⟩ = some (.int .i64 a1_4) := (blk_cell BK158.out 4).trans rfl
              have hcz82_5 : wc.cell? ⟨gb158, 5, none⟩ = some (.int .i64 a1_5) := (blk_cell BK158.out 5).trans rfl
              have hfz82_0 := blk_frozen BK158.out 0
              have hfz82_1 := blk_frozen BK158.out 1
              have hfz82_2 := blk_frozen BK158.out 2
              have hfz82_3 := blk_frozen BK158.out 3
              have hfz82_4 := blk_frozen BK158.out 4
              have hfz82_5 := blk_frozen BK158.out 5
              go_wp2
              go_ret
              exact ⟨by first | rfl | (simp [errW_none, errW_some] <;> rfl) | (simp [*, errW_none, errW_some] <;> rfl) | (exfalso; first | exact absurd ‹(false != false) = true› (by decide) | exact absurd ‹(true != true) = true› (by decide) | exact absurd ‹(true != false) = false› (by decide) | exact absurd ‹(false != true) = false› (by decide) | exact absurd ‹(false == false) = false› (by decide) | exact absurd ‹(true == true) = false› (by decide) | exact absurd ‹(true == false) = true› (by decide) | exact absurd ‹(false == true) = true› (by decide)), by repeat (first | (with_reducible first | exact HB.out | apply below_alloc | apply pw_below_drewN | apply below_drew1 | refine below_set ?_ GE157.out | refine below_set ?_ GE158.out | refine below_set ?_ GE159.out) | exact HB.out)⟩
          · rw [if_neg c50] at H
            have c50b0 : (a0_3 == a1_3) = false := beq_eq_false_iff_ne.mpr c50
            have c50b1 : (a0_3 != a1_3) = true := bne_iff_ne.mpr c50
            obtain rfl := Option.some.inj H
            have hnb83 := NB157_158.out
            have hnc83 := NB158_157.out
            have hnb84 := NB157_159.out
            have hnc84 := NB159_157.out
            have hcz85_0 : wc.cell? ⟨gb157, 0, none⟩ = some (.int .i64 a0_0) := (blk_cell BK157.out 0).trans rfl
            have hcz85_1 : wc.cell? ⟨gb157, 1, none⟩ = some (.int .i64 a0_1) := (blk_cell BK157.out 1).trans rfl
            have hcz85_2 : wc.cell? ⟨gb157, 2, none⟩ = some (.int .i64 a0_2) := (blk_cell BK157.out 2).trans rfl
            have hcz85_3 : wc.cell? ⟨gb157, 3, none⟩ = some (.int .i64 a0_3) := (blk_cell BK157.out 3).trans rfl
            have hcz85_4 : wc.cell? ⟨gb157, 4, none⟩ = some (.int .i64 a0_4) := (blk_cell BK157.out 4).trans rfl
            have hcz85_5 : wc.cell? ⟨gb157, 5, none⟩ = some (.int .i64 a0_5) := (blk_cell BK157.out 5).trans rfl
            have hfz85_0 := blk_frozen BK157.out 0
            have hfz85_1 := blk_frozen BK157.out 1
            have hfz85_2 := blk_frozen BK157.out 2
            have hfz85_3 := blk_frozen BK157.out 3
            have hfz85_4 := blk_frozen BK157.out 4
            have hfz85_5 := blk_frozen BK157.out 5
            have hnb86 := NB158_159.out
            have hnc86 := NB159_158.out
            have hcz87_0 : wc.cell? ⟨gb158, 0, none⟩ = some (.int .i64 a1_0) := (blk_cell BK158.out 0).trans rfl
            have hcz87_1 : wc.cell? ⟨gb158, 1, none⟩ = some (.int .i64 a1_1) := (blk_cell BK158.out 1).trans rfl
            have hcz87_2 : wc.cell? ⟨gb158, 2, none⟩ = some (.int .i64 a1_2) := (blk_cell BK158.out 2).trans rfl
            have hcz87_3 : wc.cell? ⟨gb158, 3, none⟩ = some (.int .i64 a1_3) := (blk_cell BK158.out 3).trans rfl
            have hcz87_4 : wc.cell? ⟨gb158, 4, none⟩ = some (.int .i64 a1_4) := (blk_cell BK158.out 4).trans rfl
            have hcz87_5 : wc.cell? ⟨gb158, 5, none⟩ = some (.int .i64 a1_5) := (blk_cell BK158.out 5).trans rfl
            have hfz87_0 := blk_frozen BK158.out 0
            have hfz87_1 := blk_frozen BK158.out 1
            have hfz87_2 := blk_frozen BK158.out 2
            have hfz87_3 := blk_frozen BK158.out 3
            have hfz87_4 := blk_frozen BK158.out 4
            have hfz87_5 := blk_frozen BK158.out 5
            go_wp2
            go_ret
            exact ⟨by first | rfl | (simp [errW_none, errW_some] <;> rfl) | (simp [*, errW_none, errW_some] <;> rfl) | (exfalso; first | exact absurd ‹(false != false) = true› (by decide) | exact absurd ‹(true != true) = true› (by decide) | exact absurd ‹(true != false) = false› (by decide) | exact absurd ‹(false != true) = false› (by decide) | exact absurd ‹(false == false) = false› (by decide) | exact absurd ‹(true == true) = false› (by decide) | exact absurd ‹(true == false) = true› (by decide) | exact absurd ‹(false == true) = true› (by decide)), by repeat (first | (with_reducible first | exact HB.out | apply below_alloc | apply pw_below_drewN | apply below_drew1 | refine below_set ?_ GE157.out | refine below_set ?_ GE158.out | refine below_set ?_ GE159.out) | exact HB.out)⟩
        · rw [if_neg c49] at H
          have c49b0 : (a0_0 == a1_0) = false := beq_eq_false_iff_ne.mpr c49
          have c49b1 : (a0_0 != a1_0) = true := bne_iff_ne.mpr c49
          obtain rfl := Option.some.inj H
          have hnb88 := NB157_158.out
          have hnc88 := NB158_157.out
          have hnb89 := NB157_159.out
          have hnc89 := NB159_157.out
          have hcz90_0 : wc.cell? ⟨gb157, 0, none⟩ = some (.int .i64 a0_0) := (blk_cell BK157.out 0).trans rfl
          have hcz90_1 : wc.cell? ⟨gb157, 1, none⟩ = some (.int .i64 a0_1) := (blk_cell BK157.out 1).trans rfl
          have hcz90_2 : wc.cell? ⟨gb157, 2, none⟩ = some (.int .i64 a0_2) := (blk_cell BK157.out 2).trans rfl
          have hcz90_3 : wc.cell? ⟨gb157, 3, none⟩ = some (.int .i64 a0_3) := (blk_cell BK157.out 3).trans rfl
          have hcz90_4 : wc.cell? ⟨gb157, 4, none⟩ = some (.int .i64 a0_4) := (blk_cell BK157.out 4).trans rfl
          have hcz90_5 : wc.cell? ⟨gb157, 5, none⟩ = some (.int .i64 a0_5) := (blk_cell BK157.out 5).trans rfl
          have hfz90_0 := blk_frozen BK157.out 0
          have hfz90_1 := blk_frozen BK157.out 1
          have hfz90_2 := blk_frozen BK157.out 2
          have hfz90_3 := blk_frozen BK157.out 3
          have hfz90_4 := blk_frozen BK157.out 4
          have hfz90_5 := blk_frozen BK157.out 5
          have hnb91 := NB158_159.out
          have hnc91 := NB159_158.out
          have hcz92_0 : wc.cell? ⟨gb158, 0, none⟩ = some (.int .i64 a1_0) := (blk_cell BK158.out 0).trans rfl
          have hcz92_1 : wc.cell? ⟨gb158, 1, none⟩ = some (.int .i64 a1_1) := (blk_cell BK158.out 1).trans rfl
          have hcz92_2 : wc.cell? ⟨gb158, 2, none⟩ = some (.int .i64 a1_2) := (blk_cell BK158.out 2).trans rfl
          have hcz92_3 : wc.cell? ⟨gb158, 3, none⟩ = some (.int .i64 a1_3) := (blk_cell BK158.out 3).trans rfl
          have hcz92_4 : wc.cell? ⟨gb158, 4, none⟩ = some (.int .i64 a1_4) := (blk_cell BK158.out 4).trans rfl
          have hcz92_5 : wc.cell? ⟨gb158, 5, none⟩ = some (.int .i64 a1_5) := (blk_cell BK158.out 5).trans rfl
          have hfz92_0 := blk_frozen BK158.out 0
          have hfz92_1 := blk_frozen BK158.out 1
          have hfz92_2 := blk_frozen BK158.out 2
          have hfz92_3 := blk_frozen BK158.out 3
          have hfz92_4 := blk_frozen BK158.out 4
          have hfz92_5 := blk_frozen BK158.out 5
          go_wp2
          go_ret
          exact ⟨by first | rfl | (simp [errW_none, errW_some] <;> rfl) | (simp [*, errW_none, errW_some] <;> rfl) | (exfalso; first | exact absurd ‹(false != false) = true› (by decide) | exact absurd ‹(true != true) = true› (by decide) | exact absurd ‹(true != false) = false› (by decide) | exact absurd ‹(false != true) = false› (by decide) | exact absurd ‹(false == false) = false› (by decide) | exact absurd ‹(true == true) = false› (by decide) | exact absurd ‹(true == false) = true› (by decide) | exact absurd ‹(false == true) = true› (by decide)), by repeat (first | (with_reducible first | exact HB.out | apply below_alloc | apply pw_below_drewN | apply below_drew1 | refine below_set ?_ GE157.out | refine below_set ?_ GE158.out | refine below_set ?_ GE159.out) | exact HB.out)⟩

end Go.Proofs.Ytojjffafofjfiaa.P
