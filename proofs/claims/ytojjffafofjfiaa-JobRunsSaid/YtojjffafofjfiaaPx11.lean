-- Written by a program of this session (hprint.py), out of the translation; functions that the print does not take are given by hand.
import Derived.Test.YtojjffafofjfiaaPx0
import Derived.Test.YtojjffafofjfiaaPx1
import Derived.Test.YtojjffafofjfiaaPx5
import Derived.Test.YtojjffafofjfiaaPx6
import Derived.Test.YtojjffafofjfiaaPx8
import Derived.Test.YtojjffafofjfiaaPx9
import Derived.Test.YtojjffafofjfiaaPx10
namespace Go.Proofs.Ytojjffafofjfiaa.P
open Go.RowKit Go.Proofs.YtojjffafofjfiaaM Go.Proofs.YtojjffafofjfiaaW.PrintWords Go.Proofs.YtojjffafofjfiaaW.PrintLast Go.Proofs.YtojjffafofjfiaaW.PrintMore
attribute [local go_sem] max2_int min2_int max_two min_two max_three min_three max_four min_four   -- for this text's walks alone
set_option linter.unusedVariables false
set_option linter.unusedSimpArgs false

attribute [local go_sem high] eqA25
/-! ### fuseelaw11_JobRuns: function 4 -/
mutual
def fuseelaw11_JobRuns.j0 : Nat → Bool → Bool → Int → Int → Int → Int → Int → Int → Bool → Int → Int → Int → Bool → Int → Int → Int → Option (Bool)
  | 0, _, _, _, _, _, _, _, _, _, _, _, _, _, _, _, _ => none
  | k + 1, x5, x24, x171000, x171001, x171002, x171003, x171004, x171005, x172000, x172001, x172002, x172003, x172004, x172005, x172006, x172007 => if x24 = true then (some x5) else ((job_Left.f x172000 x172001 x172002 x172003 x172004 x172005 x172006 x172007).bind fun t174 => (if t174 < 1 then (fuseelaw11_JobRuns.j1 k t174 true x171000 x171001 x171002 x171003 x171004 x171005 x172000 x172001 x172002 x172003 x172004 x172005 x172006 x172007) else ((job_Worst.f x172000 x172001 x172002 x172003 x172004 x172005 x172006 x172007).bind fun t175 => (fuseelaw11_JobRuns.j1 k t174 (decide (t174 > t175)) x171000 x171001 x171002 x171003 x171004 x171005 x172000 x172001 x172002 x172003 x172004 x172005 x172006 x172007))))
def fuseelaw11_JobRuns.j1 : Nat → Int → Bool → Int → Int → Int → Int → Int → Int → Bool → Int → Int → Int → Bool → Int → Int → Int → Option (Bool)
  | 0, _, _, _, _, _, _, _, _, _, _, _, _, _, _, _, _ => none
  | k + 1, x6, x35, x171000, x171001, x171002, x171003, x171004, x171005, x172000, x172001, x172002, x172003, x172004, x172005, x172006, x172007 => if x35 = true then (none) else (fuseelaw11_JobRuns.l0 k x6 (decide (x172006 ≤ x172005)) 1 x171000 x171001 x171002 x171003 x171004 x171005 x172000 x172001 x172002 x172003 x172004 x172005 x172006 x172007)
def fuseelaw11_JobRuns.l0 : Nat → Int → Bool → Int → Int → Int → Int → Int → Int → Int → Bool → Int → Int → Int → Bool → Int → Int → Int → Option (Bool)
  | 0, _, _, _, _, _, _, _, _, _, _, _, _, _, _, _, _, _ => none
  | k + 1, x6, x7, x8, x171000, x171001, x171002, x171003, x171004, x171005, x172000, x172001, x172002, x172003, x172004, x172005, x172006, x172007 => if x8 ≤ x6 then ((job_Step.f x172000 x172001 x172002 x172003 x172004 x172005 x172006 x172007).bind fun bt176 => (if x8 < x6 then (if bt176.2.2.2.2.2.2.2.2 = 0 then ((job_Left.f bt176.1 bt176.2.1 bt176.2.2.1 bt176.2.2.2.1 bt176.2.2.2.2.1 bt176.2.2.2.2.2.1 bt176.2.2.2.2.2.2.1 bt176.2.2.2.2.2.2.2.1).bind fun t186 => (if t186 = (wrap64 (x6 - x8)) then ((job_May.f x171000 x171001 x171002 x171003 x171004 x171005 bt176.1 bt176.2.1 bt176.2.2.1 bt176.2.2.2.1 bt176.2.2.2.2.1 bt176.2.2.2.2.2.1 bt176.2.2.2.2.2.2.1 bt176.2.2.2.2.2.2.2.1).bind fun t187 => (fuseelaw11_JobRuns.j3 k x6 x7 x8 bt176.2.2.2.2.2.2.2.2 (!t187) x171000 x171001 x171002 x171003 x171004 x171005 bt176.1 bt176.2.1 bt176.2.2.1 bt176.2.2.2.1 bt176.2.2.2.2.1 bt176.2.2.2.2.2.1 bt176.2.2.2.2.2.2.1 bt176.2.2.2.2.2.2.2.1)) else (fuseelaw11_JobRuns.j3 k x6 x7 x8 bt176.2.2.2.2.2.2.2.2 true x171000 x171001 x171002 x171003 x171004 x171005 bt176.1 bt176.2.1 bt176.2.2.1 bt176.2.2.2.1 bt176.2.2.2.2.1 bt176.2.2.2.2.2.1 bt176.2.2.2.2.2.2.1 bt176.2.2.2.2.2.2.2.1))) else (fuseelaw11_JobRuns.j3 k x6 x7 x8 bt176.2.2.2.2.2.2.2.2 true x171000 x171001 x171002 x171003 x171004 x171005 bt176.1 bt176.2.1 bt176.2.2.1 bt176.2.2.2.1 bt176.2.2.2.2.1 bt176.2.2.2.2.2.1 bt176.2.2.2.2.2.2.1 bt176.2.2.2.2.2.2.2.1)) else (fuseelaw11_JobRuns.j3 k x6 x7 x8 bt176.2.2.2.2.2.2.2.2 false x171000 x171001 x171002 x171003 x171004 x171005 bt176.1 bt176.2.1 bt176.2.2.1 bt176.2.2.2.1 bt176.2.2.2.2.1 bt176.2.2.2.2.2.1 bt176.2.2.2.2.2.2.1 bt176.2.2.2.2.2.2.2.1))) else (some true)
def fuseelaw11_JobRuns.j3 : Nat → Int → Bool → Int → Int → Bool → Int → Int → Int → Int → Int → Int → Bool → Int → Int → Int → Bool → Int → Int → Int → Option (Bool)
  | 0, _, _, _, _, _, _, _, _, _, _, _, _, _, _, _, _, _, _, _ => none
  | k + 1, x6, x7, x8, x10, x71, x171000, x171001, x171002, x171003, x171004, x171005, x186000, x186001, x186002, x186003, x186004, x186005, x186006, x186007 => if x71 = true then (none) else (if x8 = x6 then (if (x186000 || (!(x186001 == 0) || (!(x186002 == 0) || (!(x186003 == 0) || (x186004 || (!(x186005 == 0) || (!(x186006 == 0) || (!(x186007 == 0))))))))) = true then (none) else (if x7 = true then (if x10 = 1 then (fuseelaw11_JobRuns.l0 k x6 x7 (wrap64 (x8 + 1)) x171000 x171001 x171002 x171003 x171004 x171005 x186000 x186001 x186002 x186003 x186004 x186005 x186006 x186007) else (none)) else (if x10 = 2 then (fuseelaw11_JobRuns.l0 k x6 x7 (wrap64 (x8 + 1)) x171000 x171001 x171002 x171003 x171004 x171005 x186000 x186001 x186002 x186003 x186004 x186005 x186006 x186007) else (none)))) else (fuseelaw11_JobRuns.l0 k x6 x7 (wrap64 (x8 + 1)) x171000 x171001 x171002 x171003 x171004 x171005 x186000 x186001 x186002 x186003 x186004 x186005 x186006 x186007))
end
def fuseelaw11_JobRuns.f (k : Nat) (a0_0 : Int) (a0_1 : Int) (a0_2 : Int) (a0_3 : Int) (a0_4 : Int) (a0_5 : Int) (a1_0 : Bool) (a1_1 : Int) (a1_2 : Int) (a1_3 : Int) (a1_4 : Bool) (a1_5 : Int) (a1_6 : Int) (a1_7 : Int) : Option (Bool) := (fuseelaw11_awake.f).bind fun t172 => (if t172 = true then (if a1_0 = true then ((job_May.f a0_0 a0_1 a0_2 a0_3 a0_4 a0_5 a1_0 a1_1 a1_2 a1_3 a1_4 a1_5 a1_6 a1_7).bind fun t173 => (fuseelaw11_JobRuns.j0 k t172 (!t173) a0_0 a0_1 a0_2 a0_3 a0_4 a0_5 a1_0 a1_1 a1_2 a1_3 a1_4 a1_5 a1_6 a1_7)) else (fuseelaw11_JobRuns.j0 k t172 true a0_0 a0_1 a0_2 a0_3 a0_4 a0_5 a1_0 a1_1 a1_2 a1_3 a1_4 a1_5 a1_6 a1_7)) else (fuseelaw11_JobRuns.j0 k t172 true a0_0 a0_1 a0_2 a0_3 a0_4 a0_5 a1_0 a1_1 a1_2 a1_3 a1_4 a1_5 a1_6 a1_7))
theorem fuseelaw11_JobRuns.mono_l : ∀ k, (∀ y0 y1 y2 y3 y4 y5 y6 y7 y8 y9 y10 y11 y12 y13 y14 y15, LeO (fuseelaw11_JobRuns.j0 k y0 y1 y2 y3 y4 y5 y6 y7 y8 y9 y10 y11 y12 y13 y14 y15) (fuseelaw11_JobRuns.j0 (k + 1) y0 y1 y2 y3 y4 y5 y6 y7 y8 y9 y10 y11 y12 y13 y14 y15)) ∧ (∀ y0 y1 y2 y3 y4 y5 y6 y7 y8 y9 y10 y11 y12 y13 y14 y15, LeO (fuseelaw11_JobRuns.j1 k y0 y1 y2 y3 y4 y5 y6 y7 y8 y9 y10 y11 y12 y13 y14 y15) (fuseelaw11_JobRuns.j1 (k + 1) y0 y1 y2 y3 y4 y5 y6 y7 y8 y9 y10 y11 y12 y13 y14 y15)) ∧ (∀ y0 y1 y2 y3 y4 y5 y6 y7 y8 y9 y10 y11 y12 y13 y14 y15 y16, LeO (fuseelaw11_JobRuns.l0 k y0 y1 y2 y3 y4 y5 y6 y7 y8 y9 y10 y11 y12 y13 y14 y15 y16) (fuseelaw11_JobRuns.l0 (k + 1) y0 y1 y2 y3 y4 y5 y6 y7 y8 y9 y10 y11 y12 y13 y14 y15 y16)) ∧ (∀ y0 y1 y2 y3 y4 y5 y6 y7 y8 y9 y10 y11 y12 y13 y14 y15 y16 y17 y18, LeO (fuseelaw11_JobRuns.j3 k y0 y1 y2 y3 y4 y5 y6 y7 y8 y9 y10 y11 y12 y13 y14 y15 y16 y17 y18) (fuseelaw11_JobRuns.j3 (k + 1) y0 y1 y2 y3 y4 y5 y6 y7 y8 y9 y10 y11 y12 y13 y14 y15 y16 y17 y18))
  | 0 => ⟨fun _ _ _ _ _ _ _ _ _ _ _ _ _ _ _ _ r h => by simp [fuseelaw11_JobRuns.j0] at h, fun _ _ _ _ _ _ _ _ _ _ _ _ _ _ _ _ r h => by simp [fuseelaw11_JobRuns.j1] at h, fun _ _ _ _ _ _ _ _ _ _ _ _ _ _ _ _ _ r h => by simp [fuseelaw11_JobRuns.l0] at h, fun _ _ _ _ _ _ _ _ _ _ _ _ _ _ _ _ _ _ _ r h => by simp [fuseelaw11_JobRuns.j3] at h⟩
  | k + 1 => by
    obtain ⟨ih0, ih1, ih2, ih3⟩ := fuseelaw11_JobRuns.mono_l k
    refine ⟨?_, ?_, ?_, ?_⟩
    · intro y0 y1 y2 y3 y4 y5 y6 y7 y8 y9 y10 y11 y12 y13 y14 y15
      unfold fuseelaw11_JobRuns.j0
      repeat' first
      | (with_reducible exact ih0 _ _ _ _ _ _ _ _ _ _ _ _ _ _ _ _)
      | (with_reducible exact ih1 _ _ _ _ _ _ _ _ _ _ _ _ _ _ _ _)
      | (with_reducible exact ih2 _ _ _ _ _ _ _ _ _ _ _ _ _ _ _ _ _)
      | (with_reducible exact ih3 _ _ _ _ _ _ _ _ _ _ _ _ _ _ _ _ _ _ _)
      | (with_reducible exact LeO.refl _)
      | (with_reducible exact LeO.none _)
      | (with_reducible refine LeO.ite ?_ ?_)
      | (with_reducible refine LeO.bind ?_ (fun _ => ?_))
      | exact ih0 _ _ _ _ _ _ _ _ _ _ _ _ _ _ _ _
      | exact ih1 _ _ _ _ _ _ _ _ _ _ _ _ _ _ _ _
      | exact ih2 _ _ _ _ _ _ _ _ _ _ _ _ _ _ _ _ _
      | exact ih3 _ _ _ _ _ _ _ _ _ _ _ _ _ _ _ _ _ _ _
      | exact LeO.none _
      | refine LeO.ite ?_ ?_
      | refine LeO.bind ?_ (fun _ => ?_)
    · intro y0 y1 y2 y3 y4 y5 y6 y7 y8 y9 y10 y11 y12 y13 y14 y15
      unfold fuseelaw11_JobRuns.j1
      repeat' first
      | (with_reducible exact ih0 _ _ _ _ _ _ _ _ _ _ _ _ _ _ _ _)
      | (with_reducible exact ih1 _ _ _ _ _ _ _ _ _ _ _ _ _ _ _ _)
      | (with_reducible exact ih2 _ _ _ _ _ _ _ _ _ _ _ _ _ _ _ _ _)
      | (with_reducible exact ih3 _ _ _ _ _ _ _ _ _ _ _ _ _ _ _ _ _ _ _)
      | (with_reducible exact LeO.refl _)
      | (with_reducible exact LeO.none _)
      | (with_reducible refine LeO.ite ?_ ?_)
      | (with_reducible refine LeO.bind ?_ (fun _ => ?_))
      | exact ih0 _ _ _ _ _ _ _ _ _ _ _ _ _ _ _ _
      | exact ih1 _ _ _ _ _ _ _ _ _ _ _ _ _ _ _ _
      | exact ih2 _ _ _ _ _ _ _ _ _ _ _ _ _ _ _ _ _
      | exact ih3 _ _ _ _ _ _ _ _ _ _ _ _ _ _ _ _ _ _ _
      | exact LeO.none _
      | refine LeO.ite ?_ ?_
      | refine LeO.bind ?_ (fun _ => ?_)
    · intro y0 y1 y2 y3 y4 y5 y6 y7 y8 y9 y10 y11 y12 y13 y14 y15 y16
      unfold fuseelaw11_JobRuns.l0
      repeat' first
      | (with_reducible exact ih0 _ _ _ _ _ _ _ _ _ _ _ _ _ _ _ _)
      | (with_reducible exact ih1 _ _ _ _ _ _ _ _ _ _ _ _ _ _ _ _)
      | (with_reducible exact ih2 _ _ _ _ _ _ _ _ _ _ _ _ _ _ _ _ _)
      | (with_reducible exact ih3 _ _ _ _ _ _ _ _ _ _ _ _ _ _ _ _ _ _ _)
      | (with_reducible exact LeO.refl _)
      | (with_reducible exact LeO.none _)
      | (with_reducible refine LeO.ite ?_ ?_)
      | (with_reducible refine LeO.bind ?_ (fun _ => ?_))
      | exact ih0 _ _ _ _ _ _ _ _ _ _ _ _ _ _ _ _
      | exact ih1 _ _ _ _ _ _ _ _ _ _ _ _ _ _ _ _
      | exact ih2 _ _ _ _ _ _ _ _ _ _ _ _ _ _ _ _ _
      | exact ih3 _ _ _ _ _ _ _ _ _ _ _ _ _ _ _ _ _ _ _
      | exact LeO.none _
      | refine LeO.ite ?_ ?_
      | refine LeO.bind ?_ (fun _ => ?_)
    · intro y0 y1 y2 y3 y4 y5 y6 y7 y8 y9 y10 y11 y12 y13 y14 y15 y16 y17 y18
      unfold fuseelaw11_JobRuns.j3
      repeat' first
      | (with_reducible exact ih0 _ _ _ _ _ _ _ _ _ _ _ _ _ _ _ _)
      | (with_reducible exact ih1 _ _ _ _ _ _ _ _ _ _ _ _ _ _ _ _)
      | (with_reducible exact ih2 _ _ _ _ _ _ _ _ _ _ _ _ _ _ _ _ _)
      | (with_reducible exact ih3 _ _ _ _ _ _ _ _ _ _ _ _ _ _ _ _ _ _ _)
      | (with_reducible exact LeO.refl _)
      | (with_reducible exact LeO.none _)
      | (with_reducible refine LeO.ite ?_ ?_)
      | (with_reducible refine LeO.bind ?_ (fun _ => ?_))
      | exact ih0 _ _ _ _ _ _ _ _ _ _ _ _ _ _ _ _
      | exact ih1 _ _ _ _ _ _ _ _ _ _ _ _ _ _ _ _
      | exact ih2 _ _ _ _ _ _ _ _ _ _ _ _ _ _ _ _ _
      | exact ih3 _ _ _ _ _ _ _ _ _ _ _ _ _ _ _ _ _ _ _
      | exact LeO.none _
      | refine LeO.ite ?_ ?_
      | refine LeO.bind ?_ (fun _ => ?_)
theorem fuseelaw11_JobRuns.mono : ∀ a0 a1 a2 a3 a4 a5 a6 a7 a8 a9 a10 a11 a12 a13 k, LeO (fuseelaw11_JobRuns.f k a0 a1 a2 a3 a4 a5 a6 a7 a8 a9 a10 a11 a12 a13) (fuseelaw11_JobRuns.f (k + 1) a0 a1 a2 a3 a4 a5 a6 a7 a8 a9 a10 a11 a12 a13) := by
  intro a0 a1 a2 a3 a4 a5 a6 a7 a8 a9 a10 a11 a12 a13 k
  obtain ⟨ih0, ih1, ih2, ih3⟩ := fuseelaw11_JobRuns.mono_l k
  unfold fuseelaw11_JobRuns.f
  repeat' first
      | (with_reducible exact ih0 _ _ _ _ _ _ _ _ _ _ _ _ _ _ _ _)
      | (with_reducible exact ih1 _ _ _ _ _ _ _ _ _ _ _ _ _ _ _ _)
      | (with_reducible exact ih2 _ _ _ _ _ _ _ _ _ _ _ _ _ _ _ _ _)
      | (with_reducible exact ih3 _ _ _ _ _ _ _ _ _ _ _ _ _ _ _ _ _ _ _)
      | (with_reducible exact LeO.refl _)
      | (with_reducible exact LeO.none _)
      | (with_reducible refine LeO.ite ?_ ?_)
      | (with_reducible refine LeO.bind ?_ (fun _ => ?_))
      | exact ih0 _ _ _ _ _ _ _ _ _ _ _ _ _ _ _ _
      | exact ih1 _ _ _ _ _ _ _ _ _ _ _ _ _ _ _ _
      | exact ih2 _ _ _ _ _ _ _ _ _ _ _ _ _ _ _ _ _
      | exact ih3 _ _ _ _ _ _ _ _ _ _ _ _ _ _ _ _ _ _ _
      | exact LeO.none _
      | refine LeO.ite ?_ ?_
      | refine LeO.bind ?_ (fun _ => ?_)
set_option maxHeartbeats 64000000 in
set_option maxRecDepth 100000 in
theorem fuseelaw11_JobRuns.calls (k : Nat) (a0_0 : Int) (a0_1 : Int) (a0_2 : Int) (a0_3 : Int) (a0_4 : Int) (a0_5 : Int) (a1_0 : Bool) (a1_1 : Int) (a1_2 : Int) (a1_3 : Int) (a1_4 : Bool) (a1_5 : Int) (a1_6 : Int) (a1_7 : Int) (r : Bool) (w : World) (h : fuseelaw11_JobRuns.f k a0_0 a0_1 a0_2 a0_3 a0_4 a0_5 a1_0 a1_1 a1_2 a1_3 a1_4 a1_5 a1_6 a1_7 = some r) :
    Calls Try.prog 4 #[.agg #[.int .i64 a0_0, .int .i64 a0_1, .int .i64 a0_2, .int .i64 a0_3, .int .i64 a0_4, .int .i64 a0_5], .agg #[.bool a1_0, .int .i64 a1_1, .int .i64 a1_2, .int .i64 a1_3, .bool a1_4, .int .i64 a1_5, .int .i64 a1_6, .int .i64 a1_7]] w fun e w' => e = .returned (.bool r) ∧ Below w.heap.size w w' := by
  have hu23 := Try.underlying23
  have hu25 := Try.underlying25
  have HB := Aside0.mk (Below.refl w.heap.size w)
  have H : ((fuseelaw11_awake.f).bind fun t172 => (if t172 = true then (if a1_0 = true then ((job_May.f a0_0 a0_1 a0_2 a0_3 a0_4 a0_5 a1_0 a1_1 a1_2 a1_3 a1_4 a1_5 a1_6 a1_7).bind fun t173 => (fuseelaw11_JobRuns.j0 k t172 (!t173) a0_0 a0_1 a0_2 a0_3 a0_4 a0_5 a1_0 a1_1 a1_2 a1_3 a1_4 a1_5 a1_6 a1_7)) else (fuseelaw11_JobRuns.j0 k t172 true a0_0 a0_1 a0_2 a0_3 a0_4 a0_5 a1_0 a1_1 a1_2 a1_3 a1_4 a1_5 a1_6 a1_7)) else (fuseelaw11_JobRuns.j0 k t172 true a0_0 a0_1 a0_2 a0_3 a0_4 a0_5 a1_0 a1_1 a1_2 a1_3 a1_4 a1_5 a1_6 a1_7))) = some r := h
  clear h
  replace H := Option.bind_eq_some_iff.mp H
  obtain ⟨t172, A30, H⟩ := H
  try dsimp only at H
  have A3 := Aside0.mk A30
  clear A30
  have HC4 := Aside0.mk H
  clear H
  go_enter Try.func4, Try.ntmps4
  go_upto_region 2 with (first | ((with_reducible refine gate_dst (N := 2) rfl ?_); refine box_event ?hg (N := 2) ?hd (cs := #[.int .i64 a0_0, .int .i64 a0_1, .int .i64 a0_2, .int .i64 a0_3, .int .i64 a0_4, .int .i64 a0_5]) (t := 23) ?hr ?_; (case hd => rfl); (case hg => rfl); (case hr => first | (go_simp; done) | (go_simp; rfl)); intro gb170 hg w5 hbox hb; have n0_ := bs HB hb; have n1_ := Aside0.mk (hbox); have n2_ := bz HB hg; have n3_ := bz HB hg; clear HB; have HB := n0_; have BK170 := n1_; have GW170 := n2_; have GE170 := n3_; clear n0_ n1_ n2_ n3_; clear hb hbox hg) | ((with_reducible refine gate_dst (N := 3) rfl ?_); refine box_event ?hg (N := 3) ?hd (cs := #[.bool a1_0, .int .i64 a1_1, .int .i64 a1_2, .int .i64 a1_3, .bool a1_4, .int .i64 a1_5, .int .i64 a1_6, .int .i64 a1_7]) (t := 25) ?hr ?_; (case hd => rfl); (case hg => rfl); (case hr => first | (go_simp; done) | (go_simp; rfl)); intro gb171 hg w6 hbox hb; have n0_ := bb BK170 hb; have n1_ := bs HB hb; have n2_ := Aside0.mk (hbox); have n3_ := bz HB hg; have n4_ := bz HB hg; have n5_ := bl BK170 hg; have n6_ := bg BK170 hg; clear BK170; clear HB; have BK170 := n0_; have HB := n1_; have BK171 := n2_; have GW171 := n3_; have GE171 := n4_; have NB170_171 := n5_; have NB171_170 := n6_; clear n0_ n1_ n2_ n3_ n4_ n5_ n6_; clear hb hbox hg) | ((with_reducible refine gate_callee (f := 8) rfl ?_); refine goesL_ (some 11) rfl rfl Try.func8 (by kernel_rfl) rfl #[] rfl (by (try simp only [List.map_toArray, List.map_cons, List.map_nil]); first | done | rfl | (simp only [List.length_drop, List.length_take]; rfl)) ?_; (with_reducible refine (fuseelaw11_awake.calls  t172 _ A3.out).mono ?_); rintro e w7 ⟨rfl, hb⟩; refine ⟨_, rfl, ?_⟩; have n0_ := bb BK170 hb; have n1_ := bb BK171 hb; have n2_ := bs HB hb; clear BK170; clear BK171; clear HB; have BK170 := n0_; have BK171 := n1_; have HB := n2_; clear n0_ n1_ n2_; (try clear hb); (try clear hb2); (try clear hk); (try clear hi)))
  (try simp only [Act.put, List.setIfInBounds_toArray, List.set_cons_zero, List.set_cons_succ])
  go_cut [24] (fun v24 wc => ∃ (kq : Nat) (x24_3 : Bool), v24 = .bool x24_3 ∧ Aside0 (fuseelaw11_JobRuns.j0 kq t172 x24_3 a0_0 a0_1 a0_2 a0_3 a0_4 a0_5 a1_0 a1_1 a1_2 a1_3 a1_4 a1_5 a1_6 a1_7 = some r) ∧ Aside0 (kq ≤ k) ∧ Aside0 (wc.heap[gb170]? = some (.cells #[.int .i64 a0_0, .int .i64 a0_1, .int .i64 a0_2, .int .i64 a0_3, .int .i64 a0_4, .int .i64 a0_5] 23 (0, 0))) ∧ Aside0 (wc.heap[gb171]? = some (.cells #[.bool a1_0, .int .i64 a1_1, .int .i64 a1_2, .int .i64 a1_3, .bool a1_4, .int .i64 a1_5, .int .i64 a1_6, .int .i64 a1_7] 25 (0, 0))) ∧ Aside0 (Below w.heap.size w wc))
  case first =>
    have H := HC4.out
    clear HC4
    by_cases c8 : t172 = true
    · subst c8
      rw [if_pos rfl] at H
      by_cases c9 : a1_0 = true
      · subst c9
        rw [if_pos rfl] at H
        replace H := Option.bind_eq_some_iff.mp H
        obtain ⟨t173, A100, H⟩ := H
        try dsimp only at H
        have A10 := Aside0.mk A100
        clear A100
        have H' := Aside0.mk H
        clear H
        have hnb11 := NB171_170.out
        have hnc11 := NB170_171.out
        obtain ⟨hcz12_0, hcz12_1, hcz12_2, hcz12_3, hcz12_4, hcz12_5, hcz12_6, hcz12_7⟩ := cc8 BK171
        obtain ⟨hfz12_0, hfz12_1, hfz12_2, hfz12_3, hfz12_4, hfz12_5, hfz12_6, hfz12_7⟩ := cf8 BK171
        obtain ⟨hcz13_0, hcz13_1, hcz13_2, hcz13_3, hcz13_4, hcz13_5⟩ := cc6 BK170
        obtain ⟨hfz13_0, hfz13_1, hfz13_2, hfz13_3, hfz13_4, hfz13_5⟩ := cf6 BK170
        go_wp2_with (first | (go_at_call 9; (with_reducible refine (job_May.calls a0_0 a0_1 a0_2 a0_3 a0_4 a0_5 true a1_1 a1_2 a1_3 a1_4 a1_5 a1_6 a1_7 t173 _ A10.out).mono ?_); rintro e w14 ⟨rfl, hb⟩; have n0_ := bb BK170 hb; have n1_ := bb BK171 hb; have n2_ := bs HB hb; clear BK170; clear BK171; clear HB; have BK170 := n0_; have BK171 := n1_; have HB := n2_; clear n0_ n1_ n2_; (try clear hb); (try clear hb2); (try clear hk); (try clear hi)))
        go_meet
        case rel => exact ⟨_, (!t173), (by first | rfl | (simp; done) | (simp [*]; done)), H', ⟨by first | omega | exact Nat.le_refl _⟩, ⟨by (with_reducible repeat (first | refine bN ?_ _ | refine bD ?_ | refine bA ?_ _)); exact BK170.out⟩, ⟨by (with_reducible repeat (first | refine bN ?_ _ | refine bD ?_ | refine bA ?_ _)); exact BK171.out⟩, ⟨by repeat (first | (with_reducible first | exact HB.out | apply below_alloc | apply pw_below_drewN | apply below_drew1 | refine below_set ?_ GE170.out | refine below_set ?_ GE171.out) | exact HB.out)⟩⟩
      · replace c9 := Bool.eq_false_iff.mpr c9
        subst c9
        rw [if_neg (show ¬ (false = true) by decide)] at H
        have H' := Aside0.mk H
        clear H
        have hnb15 := NB171_170.out
        have hnc15 := NB170_171.out
        obtain ⟨hcz16_0, hcz16_1, hcz16_2, hcz16_3, hcz16_4, hcz16_5, hcz16_6, hcz16_7⟩ := cc8 BK171
        obtain ⟨hfz16_0, hfz16_1, hfz16_2, hfz16_3, hfz16_4, hfz16_5, hfz16_6, hfz16_7⟩ := cf8 BK171
        go_wp2
        go_meet
        case rel => exact ⟨_, (true), (by first | rfl | (simp; done) | (simp [*]; done)), H', ⟨by first | omega | exact Nat.le_refl _⟩, ⟨by (with_reducible repeat (first | refine bN ?_ _ | refine bD ?_ | refine bA ?_ _)); exact BK170.out⟩, ⟨by (with_reducible repeat (first | refine bN ?_ _ | refine bD ?_ | refine bA ?_ _)); exact BK171.out⟩, ⟨by repeat (first | (with_reducible first | exact HB.out | apply below_alloc | apply pw_below_drewN | apply below_drew1 | refine below_set ?_ GE170.out | refine below_set ?_ GE171.out) | exact HB.out)⟩⟩
    · replace c8 := Bool.eq_false_iff.mpr c8
      subst c8
      rw [if_neg (show ¬ (false = true) by decide)] at H
      have H' := Aside0.mk H
      clear H
      go_wp2
      go_meet
      case rel => exact ⟨_, (true), (by first | rfl | (simp; done) | (simp [*]; done)), H', ⟨by first | omega | exact Nat.le_refl _⟩, ⟨by (with_reducible repeat (first | refine bN ?_ _ | refine bD ?_ | refine bA ?_ _)); exact BK170.out⟩, ⟨by (with_reducible repeat (first | refine bN ?_ _ | refine bD ?_ | refine bA ?_ _)); exact BK171.out⟩, ⟨by repeat (first | (with_reducible first | exact HB.out | apply below_alloc | apply pw_below_drewN | apply below_drew1 | refine below_set ?_ GE170.out | refine below_set ?_ GE171.out) | exact HB.out)⟩⟩
  case rest =>
    clear HC4
    try clear c1
    try clear p2
    try clear c4
    try clear c8
    try clear c9
    try clear c11
    try clear c15
    try clear hcz12_0
    try clear hcz12_1
    try clear hcz12_2
    try clear hcz12_3
    try clear hcz12_4
    try clear hcz12_5
    try clear hcz12_6
    try clear hcz12_7
    try clear hcz13_0
    try clear hcz13_1
    try clear hcz13_2
    try clear hcz13_3
    try clear hcz13_4
    try clear hcz13_5
    try clear hcz16_0
    try clear hcz16_1
    try clear hcz16_2
    try clear hcz16_3
    try clear hcz16_4
    try clear hcz16_5
    try clear hcz16_6
    try clear hcz16_7
    try clear hfz12_0
    try clear hfz12_1
    try clear hfz12_2
    try clear hfz12_3
    try clear hfz12_4
    try clear hfz12_5
    try clear hfz12_6
    try clear hfz12_7
    try clear hfz13_0
    try clear hfz13_1
    try clear hfz13_2
    try clear hfz13_3
    try clear hfz13_4
    try clear hfz13_5
    try clear hfz16_0
    try clear hfz16_1
    try clear hfz16_2
    try clear hfz16_3
    try clear hfz16_4
    try clear hfz16_5
    try clear hfz16_6
    try clear hfz16_7
    obtain ⟨kq, x24_3, rfl, HA, HJ3, BK170, BK171, HB⟩ := hcut
    cases kq with
    | zero => exact absurd HA.out (by simp [fuseelaw11_JobRuns.j0])
    | succ kj3 =>
      have H := HA.out
      clear HA
      simp only [fuseelaw11_JobRuns.j0] at H
      by_cases c17 : x24_3 = true
      · subst c17
        rw [if_pos rfl] at H
        obtain rfl := Option.some.inj H
        go_wp2
        go_ret
        exact ⟨by first | rfl | (simp [errW_none, errW_some] <;> rfl) | (simp [*, errW_none, errW_some] <;> rfl) | (exfalso; first | exact absurd ‹(false != false) = true› (by decide) | exact absurd ‹(true != true) = true› (by decide) | exact absurd ‹(true != false) = false› (by decide) | exact absurd ‹(false != true) = false› (by decide) | exact absurd ‹(false == false) = false› (by decide) | exact absurd ‹(true == true) = false› (by decide) | exact absurd ‹(true == false) = true› (by decide) | exact absurd ‹(false == true) = true› (by decide)), by repeat (first | (with_reducible first | exact HB.out | apply below_alloc | apply pw_below_drewN | apply below_drew1 | refine below_set ?_ GE170.out | refine below_set ?_ GE171.out) | exact HB.out)⟩
      · replace c17 := Bool.eq_false_iff.mpr c17
        subst c17
        rw [if_neg (show ¬ (false = true) by decide)] at H
        replace H := Option.bind_eq_some_iff.mp H
        obtain ⟨t174, A180, H⟩ := H
        try dsimp only at H
        have A18 := Aside0.mk A180
        clear A180
        have HC19 := Aside0.mk H
        clear H
        have hnb20 := NB171_170.out
        have hnc20 := NB170_171.out
        obtain ⟨hcz21_0, hcz21_1, hcz21_2, hcz21_3, hcz21_4, hcz21_5, hcz21_6, hcz21_7⟩ := cc8 BK171
        obtain ⟨hfz21_0, hfz21_1, hfz21_2, hfz21_3, hfz21_4, hfz21_5, hfz21_6, hfz21_7⟩ := cf8 BK171
        go_upto_region 5 with (first | ((with_reducible refine gate_callee (f := 11) rfl ?_); refine goesL_ (some 27) rfl rfl Try.func11 (by kernel_rfl) rfl #[.agg #[.bool a1_0, .int .i64 a1_1, .int .i64 a1_2, .int .i64 a1_3, .bool a1_4, .int .i64 a1_5, .int .i64 a1_6, .int .i64 a1_7]] rfl (by (try simp only [List.map_toArray, List.map_cons, List.map_nil]); first | done | rfl | (simp only [List.length_drop, List.length_take]; rfl)) ?_; (with_reducible refine (job_Left.calls a1_0 a1_1 a1_2 a1_3 a1_4 a1_5 a1_6 a1_7 t174 _ A18.out).mono ?_); rintro e w22 ⟨rfl, hb⟩; refine ⟨_, rfl, ?_⟩; have n0_ := bb BK170 hb; have n1_ := bb BK171 hb; have n2_ := bs HB hb; clear BK170; clear BK171; clear HB; have BK170 := n0_; have BK171 := n1_; have HB := n2_; clear n0_ n1_ n2_; (try clear hb); (try clear hb2); (try clear hk); (try clear hi)))
        (try simp only [Act.put, List.setIfInBounds_toArray, List.set_cons_zero, List.set_cons_succ])
        go_cut [35] (fun v35 wc => ∃ (kq : Nat) (x35_18 : Bool), v35 = .bool x35_18 ∧ Aside0 (fuseelaw11_JobRuns.j1 kq t174 x35_18 a0_0 a0_1 a0_2 a0_3 a0_4 a0_5 a1_0 a1_1 a1_2 a1_3 a1_4 a1_5 a1_6 a1_7 = some r) ∧ Aside0 (kq ≤ kj3) ∧ Aside0 (wc.heap[gb170]? = some (.cells #[.int .i64 a0_0, .int .i64 a0_1, .int .i64 a0_2, .int .i64 a0_3, .int .i64 a0_4, .int .i64 a0_5] 23 (0, 0))) ∧ Aside0 (wc.heap[gb171]? = some (.cells #[.bool a1_0, .int .i64 a1_1, .int .i64 a1_2, .int .i64 a1_3, .bool a1_4, .int .i64 a1_5, .int .i64 a1_6, .int .i64 a1_7] 25 (0, 0))) ∧ Aside0 (Below w.heap.size w wc))
        case first =>
          have H := HC19.out
          clear HC19
          by_cases c23 : t174 < 1
          · rw [if_pos c23] at H
            have c23b0 : decide (t174 < 1) = true := decide_eq_true c23
            clear c23
            (first | rw [c23b0] | (simp only [i64_w, i32_w]; rw [c23b0]) | skip)
            have H' := Aside0.mk H
            clear H
            go_wp2
            go_meet
            case rel => exact ⟨_, (true), (by first | rfl | (simp; done) | (simp [*]; done)), H', ⟨by have := HJ3.out; first | omega | exact Nat.le_refl _⟩, ⟨by (with_reducible repeat (first | refine bN ?_ _ | refine bD ?_ | refine bA ?_ _)); exact BK170.out⟩, ⟨by (with_reducible repeat (first | refine bN ?_ _ | refine bD ?_ | refine bA ?_ _)); exact BK171.out⟩, ⟨by repeat (first | (with_reducible first | exact HB.out | apply below_alloc | apply pw_below_drewN | apply below_drew1 | refine below_set ?_ GE170.out | refine below_set ?_ GE171.out) | exact HB.out)⟩⟩
          · rw [if_neg c23] at H
            have c23b0 : decide (t174 < 1) = false := decide_eq_false c23
            clear c23
            (first | rw [c23b0] | (simp only [i64_w, i32_w]; rw [c23b0]) | skip)
            replace H := Option.bind_eq_some_iff.mp H
            obtain ⟨t175, A240, H⟩ := H
            try dsimp only at H
            have A24 := Aside0.mk A240
            clear A240
            have H' := Aside0.mk H
            clear H
            have hnb25 := NB171_170.out
            have hnc25 := NB170_171.out
            obtain ⟨hcz26_0, hcz26_1, hcz26_2, hcz26_3, hcz26_4, hcz26_5, hcz26_6, hcz26_7⟩ := cc8 BK171
            obtain ⟨hfz26_0, hfz26_1, hfz26_2, hfz26_3, hfz26_4, hfz26_5, hfz26_6, hfz26_7⟩ := cf8 BK171
            go_wp2_with (first | (go_at_call 12; (with_reducible refine (job_Worst.calls a1_0 a1_1 a1_2 a1_3 a1_4 a1_5 a1_6 a1_7 t175 _ A24.out).mono ?_); rintro e w27 ⟨rfl, hb⟩; have n0_ := bb BK170 hb; have n1_ := bb BK171 hb; have n2_ := bs HB hb; clear BK170; clear BK171; clear HB; have BK170 := n0_; have BK171 := n1_; have HB := n2_; clear n0_ n1_ n2_; (try clear hb); (try clear hb2); (try clear hk); (try clear hi)))
            go_meet
            case rel => exact ⟨_, (decide (t174 > t175)), (by first | rfl | (simp; done) | (simp [*]; done)), H', ⟨by have := HJ3.out; first | omega | exact Nat.le_refl _⟩, ⟨by (with_reducible repeat (first | refine bN ?_ _ | refine bD ?_ | refine bA ?_ _)); exact BK170.out⟩, ⟨by (with_reducible repeat (first | refine bN ?_ _ | refine bD ?_ | refine bA ?_ _)); exact BK171.out⟩, ⟨by repeat (first | (with_reducible first | exact HB.out | apply below_alloc | apply pw_below_drewN | apply below_drew1 | refine below_set ?_ GE170.out | refine below_set ?_ GE171.out) | exact HB.out)⟩⟩
        case rest =>
          clear HC19
          try clear c1
          try clear c2
          try clear p2
          try clear c4
          try clear c8
          try clear c9
          try clear c11
          try clear c15
          try clear c17
          try clear c20
          try clear c23
          try clear c23b0
          try clear c25
          try clear hcz12_0
          try clear hcz12_1
          try clear hcz12_2
          try clear hcz12_3
          try clear hcz12_4
          try clear hcz12_5
          try clear hcz12_6
          try clear hcz12_7
          try clear hcz13_0
          try clear hcz13_1
          try clear hcz13_2
          try clear hcz13_3
          try clear hcz13_4
          try clear hcz13_5
          try clear hcz16_0
          try clear hcz16_1
          try clear hcz16_2
          try clear hcz16_3
          try clear hcz16_4
          try clear hcz16_5
          try clear hcz16_6
          try clear hcz16_7
          try clear hcz21_0
          try clear hcz21_1
          try clear hcz21_2
          try clear hcz21_3
          try clear hcz21_4
          try clear hcz21_5
          try clear hcz21_6
          try clear hcz21_7
          try clear hcz26_0
          try clear hcz26_1
          try clear hcz26_2
          try clear hcz26_3
          try clear hcz26_4
          try clear hcz26_5
          try clear hcz26_6
          try clear hcz26_7
          try clear hfz12_0
          try clear hfz12_1
          try clear hfz12_2
          try clear hfz12_3
          try clear hfz12_4
          try clear hfz12_5
          try clear hfz12_6
          try clear hfz12_7
          try clear hfz13_0
          try clear hfz13_1
          try clear hfz13_2
          try clear hfz13_3
          try clear hfz13_4
          try clear hfz13_5
          try clear hfz16_0
          try clear hfz16_1
          try clear hfz16_2
          try clear hfz16_3
          try clear hfz16_4
          try clear hfz16_5
          try clear hfz16_6
          try clear hfz16_7
          try clear hfz21_0
          try clear hfz21_1
          try clear hfz21_2
          try clear hfz21_3
          try clear hfz21_4
          try clear hfz21_5
          try clear hfz21_6
          try clear hfz21_7
          try clear hfz26_0
          try clear hfz26_1
          try clear hfz26_2
          try clear hfz26_3
          try clear hfz26_4
          try clear hfz26_5
          try clear hfz26_6
          try clear hfz26_7
          try clear p2
          obtain ⟨kq, x35_18, rfl, HA, HJ18, BK170, BK171, HB⟩ := hcut
          cases kq with
          | zero => exact absurd HA.out (by simp [fuseelaw11_JobRuns.j1])
          | succ kj18 =>
            have H := HA.out
            clear HA
            simp only [fuseelaw11_JobRuns.j1] at H
            by_cases c28 : x35_18 = true
            · subst c28
              rw [if_pos rfl] at H
              exact absurd H (by simp)
            · replace c28 := Bool.eq_false_iff.mpr c28
              subst c28
              rw [if_neg (show ¬ (false = true) by decide)] at H
              have H' := Aside0.mk H
              clear H
              have hnb29 := NB171_170.out
              have hnc29 := NB170_171.out
              obtain ⟨hcz30_0, hcz30_1, hcz30_2, hcz30_3, hcz30_4, hcz30_5, hcz30_6, hcz30_7⟩ := cc8 BK171
              obtain ⟨hfz30_0, hfz30_1, hfz30_2, hfz30_3, hfz30_4, hfz30_5, hfz30_6, hfz30_7⟩ := cf8 BK171
              go_wp2
              generalize hlg_ : decide (a1_6 ≤ a1_5) = lg0 at *
              have Hlg0 := Aside0.mk hlg_
              clear hlg_
              go_loopg [8] kj18 (fun kq v8 w' => ∃ (x8_3 : Int) (x172000_3 : Bool) (x172001_3 : Int) (x172002_3 : Int) (x172003_3 : Int) (x172004_3 : Bool) (x172005_3 : Int) (x172006_3 : Int) (x172007_3 : Int), v8 = .int .i64 x8_3 ∧ Aside0 (fuseelaw11_JobRuns.l0 kq t174 lg0 x8_3 a0_0 a0_1 a0_2 a0_3 a0_4 a0_5 x172000_3 x172001_3 x172002_3 x172003_3 x172004_3 x172005_3 x172006_3 x172007_3 = some r) ∧ Aside0 (kq ≤ kj18) ∧ Aside0 (w'.heap[gb170]? = some (.cells #[.int .i64 a0_0, .int .i64 a0_1, .int .i64 a0_2, .int .i64 a0_3, .int .i64 a0_4, .int .i64 a0_5] 23 (0, 0))) ∧ Aside0 (w'.heap[gb171]? = some (.cells #[.bool x172000_3, .int .i64 x172001_3, .int .i64 x172002_3, .int .i64 x172003_3, .bool x172004_3, .int .i64 x172005_3, .int .i64 x172006_3, .int .i64 x172007_3] 25 (0, 0))) ∧ Aside0 (Below w.heap.size w w'))
              case atStart => exact ⟨(1), (a1_0), (a1_1), (a1_2), (a1_3), (a1_4), (a1_5), (a1_6), (a1_7), (by first | rfl | (simp; done) | (simp [*]; done)), H', ⟨Nat.le_refl _⟩, ⟨by (with_reducible repeat (first | refine bN ?_ _ | refine bD ?_ | refine bA ?_ _)); exact BK170.out⟩, ⟨by (with_reducible repeat (first | refine bN ?_ _ | refine bD ?_ | refine bA ?_ _)); exact BK171.out⟩, ⟨by repeat (first | (with_reducible first | exact HB.out | apply below_alloc | apply pw_below_drewN | apply below_drew1 | refine below_set ?_ GE170.out | refine below_set ?_ GE171.out) | exact HB.out)⟩⟩
              case round =>
                clear H'
                try clear c1
                try clear c2
                try clear p2
                try clear c4
                try clear c8
                try clear c9
                try clear c11
                try clear c15
                try clear c17
                try clear c20
                try clear c23
                try clear c23b0
                try clear c25
                try clear c28
                try clear c29
                try clear hcz12_0
                try clear hcz12_1
                try clear hcz12_2
                try clear hcz12_3
                try clear hcz12_4
                try clear hcz12_5
                try clear hcz12_6
                try clear hcz12_7
                try clear hcz13_0
                try clear hcz13_1
                try clear hcz13_2
                try clear hcz13_3
                try clear hcz13_4
                try clear hcz13_5
                try clear hcz16_0
                try clear hcz16_1
                try clear hcz16_2
                try clear hcz16_3
                try clear hcz16_4
                try clear hcz16_5
                try clear hcz16_6
                try clear hcz16_7
                try clear hcz21_0
                try clear hcz21_1
                try clear hcz21_2
                try clear hcz21_3
                try clear hcz21_4
                try clear hcz21_5
                try clear hcz21_6
                try clear hcz21_7
                try clear hcz26_0
                try clear hcz26_1
                try clear hcz26_2
                try clear hcz26_3
                try clear hcz26_4
                try clear hcz26_5
                try clear hcz26_6
                try clear hcz26_7
                try clear hcz30_0
                try clear hcz30_1
                try clear hcz30_2
                try clear hcz30_3
                try clear hcz30_4
                try clear hcz30_5
                try clear hcz30_6
                try clear hcz30_7
                try clear hfz12_0
                try clear hfz12_1
                try clear hfz12_2
                try clear hfz12_3
                try clear hfz12_4
                try clear hfz12_5
                try clear hfz12_6
                try clear hfz12_7
                try clear hfz13_0
                try clear hfz13_1
                try clear hfz13_2
                try clear hfz13_3
                try clear hfz13_4
                try clear hfz13_5
                try clear hfz16_0
                try clear hfz16_1
                try clear hfz16_2
                try clear hfz16_3
                try clear hfz16_4
                try clear hfz16_5
                try clear hfz16_6
                try clear hfz16_7
                try clear hfz21_0
                try clear hfz21_1
                try clear hfz21_2
                try clear hfz21_3
                try clear hfz21_4
                try clear hfz21_5
                try clear hfz21_6
                try clear hfz21_7
                try clear hfz26_0
                try clear hfz26_1
                try clear hfz26_2
                try clear hfz26_3
                try clear hfz26_4
                try clear hfz26_5
                try clear hfz26_6
                try clear hfz26_7
                try clear hfz30_0
                try clear hfz30_1
                try clear hfz30_2
                try clear hfz30_3
                try clear hfz30_4
                try clear hfz30_5
                try clear hfz30_6
                try clear hfz30_7
                try clear p2
                obtain ⟨x8_3, x172000_3, x172001_3, x172002_3, x172003_3, x172004_3, x172005_3, x172006_3, x172007_3, rfl, HA, HK3, BK170, BK171, HB⟩ := hrel
                cases gk with
                | zero => exact absurd HA.out (by simp [fuseelaw11_JobRuns.l0])
                | succ k3 =>
                  have H := HA.out
                  clear HA
                  simp only [fuseelaw11_JobRuns.l0] at H
                  by_cases c31 : x8_3 ≤ t174
                  · rw [if_pos c31] at H
                    have c31b0 : decide (x8_3 ≤ t174) = true := decide_eq_true c31
                    clear c31
                    replace H := Option.bind_eq_some_iff.mp H
                    obtain ⟨⟨t176, t177, t178, t179, t180, t181, t182, t183, t184⟩, A320, H⟩ := H
                    try dsimp only at H
                    have A32 := Aside0.mk A320
                    clear A320
                    have HC33 := Aside0.mk H
                    clear H
                    have hnb34 := NB171_170.out
                    have hnc34 := NB170_171.out
                    obtain ⟨hcz35_0, hcz35_1, hcz35_2, hcz35_3, hcz35_4, hcz35_5, hcz35_6, hcz35_7⟩ := cc8 BK171
                    obtain ⟨hfz35_0, hfz35_1, hfz35_2, hfz35_3, hfz35_4, hfz35_5, hfz35_6, hfz35_7⟩ := cf8 BK171
                    go_upto_region 12 with (first | ((with_reducible refine gate_callee (f := 13) rfl ?_); refine goesL_ (some 48) rfl rfl Try.func13 (by kernel_rfl) rfl #[.agg #[.bool x172000_3, .int .i64 x172001_3, .int .i64 x172002_3, .int .i64 x172003_3, .bool x172004_3, .int .i64 x172005_3, .int .i64 x172006_3, .int .i64 x172007_3]] rfl (by (try simp only [List.map_toArray, List.map_cons, List.map_nil]); first | done | rfl | (simp only [List.length_drop, List.length_take]; rfl)) ?_; (with_reducible refine (job_Step.calls x172000_3 x172001_3 x172002_3 x172003_3 x172004_3 x172005_3 x172006_3 x172007_3 t176 t177 t178 t179 t180 t181 t182 t183 t184 _ A32.out).mono ?_); rintro e w36 ⟨rfl, hb⟩; refine ⟨_, rfl, ?_⟩; have n0_ := bb BK170 hb; have n1_ := bb BK171 hb; have n2_ := bs HB hb; clear BK170; clear BK171; clear HB; have BK170 := n0_; have BK171 := n1_; have HB := n2_; clear n0_ n1_ n2_; (try clear hb); (try clear hb2); (try clear hk); (try clear hi)) | ((with_reducible refine gate_dst (N := 9) rfl ?_); refine box_event ?hg (N := 9) ?hd (cs := #[.bool false, .int .i64 0, .int .i64 0, .int .i64 0, .bool false, .int .i64 0, .int .i64 0, .int .i64 0]) (t := 25) ?hr ?_; (case hd => rfl); (case hg => rfl); (case hr => first | (go_simp; done) | (go_simp; rfl)); intro gb185 hg w37 hbox hb; have n0_ := bb BK170 hb; have n1_ := bb BK171 hb; have n2_ := bs HB hb; have n3_ := Aside0.mk (hbox); have n4_ := bz HB hg; have n5_ := bz HB hg; have n6_ := bl BK170 hg; have n7_ := bg BK170 hg; have n8_ := bl BK171 hg; have n9_ := bg BK171 hg; clear BK170; clear BK171; clear HB; have BK170 := n0_; have BK171 := n1_; have HB := n2_; have BK185 := n3_; have GW185 := n4_; have GE185 := n5_; have NB170_185 := n6_; have NB185_170 := n7_; have NB171_185 := n8_; have NB185_171 := n9_; clear n0_ n1_ n2_ n3_ n4_ n5_ n6_ n7_ n8_ n9_; clear hb hbox hg; have hnb38 := NB185_170.out; have hnc38 := NB170_185.out; have hnb39 := NB185_171.out; have hnc39 := NB171_185.out; obtain ⟨hcz40_0, hcz40_1, hcz40_2, hcz40_3, hcz40_4, hcz40_5, hcz40_6, hcz40_7⟩ := cc8 BK185; obtain ⟨hfz40_0, hfz40_1, hfz40_2, hfz40_3, hfz40_4, hfz40_5, hfz40_6, hfz40_7⟩ := cf8 BK185))
                    (try simp only [Act.put, List.setIfInBounds_toArray, List.set_cons_zero, List.set_cons_succ])
                    go_cut [71] (fun v71 wc => ∃ (kq : Nat) (x71_32 : Bool), v71 = .bool x71_32 ∧ Aside0 (fuseelaw11_JobRuns.j3 kq t174 lg0 x8_3 t184 x71_32 a0_0 a0_1 a0_2 a0_3 a0_4 a0_5 t176 t177 t178 t179 t180 t181 t182 t183 = some r) ∧ Aside0 (kq ≤ k3) ∧ Aside0 (wc.heap[gb170]? = some (.cells #[.int .i64 a0_0, .int .i64 a0_1, .int .i64 a0_2, .int .i64 a0_3, .int .i64 a0_4, .int .i64 a0_5] 23 (0, 0))) ∧ Aside0 (wc.heap[gb171]? = some (.cells #[.bool x172000_3, .int .i64 x172001_3, .int .i64 x172002_3, .int .i64 x172003_3, .bool x172004_3, .int .i64 x172005_3, .int .i64 x172006_3, .int .i64 x172007_3] 25 (0, 0))) ∧ Aside0 (wc.heap[gb185]? = some (.cells #[.bool t176, .int .i64 t177, .int .i64 t178, .int .i64 t179, .bool t180, .int .i64 t181, .int .i64 t182, .int .i64 t183] 25 (0, 0))) ∧ Aside0 (Below w.heap.size w wc))
                    case first =>
                      have H := HC33.out
                      clear HC33
                      by_cases c41 : x8_3 < t174
                      · rw [if_pos c41] at H
                        have c41b0 : decide (x8_3 < t174) = true := decide_eq_true c41
                        clear c41
                        (first | rw [c41b0] | (simp only [i64_w, i32_w]; rw [c41b0]) | skip)
                        by_cases c42 : t184 = 0
                        · rw [if_pos c42] at H
                          have c42b0 : (t184 == 0) = true := beq_iff_eq.mpr c42
                          have c42b1 : (t184 != 0) = false := bne_eq_false_iff_eq.mpr c42
                          clear c42
                          replace H := Option.bind_eq_some_iff.mp H
                          obtain ⟨t186, A430, H⟩ := H
                          try dsimp only at H
                          have A43 := Aside0.mk A430
                          clear A430
                          by_cases c44 : t186 = (wrap64 (t174 - x8_3))
                          · rw [if_pos c44] at H
                            have c44b0 : (t186 == (wrap64 (t174 - x8_3))) = true := beq_iff_eq.mpr c44
                            have c44b1 : (t186 != (wrap64 (t174 - x8_3))) = false := bne_eq_false_iff_eq.mpr c44
                            clear c44
                            replace H := Option.bind_eq_some_iff.mp H
                            obtain ⟨t187, A450, H⟩ := H
                            try dsimp only at H
                            have A45 := Aside0.mk A450
                            clear A450
                            have H' := Aside0.mk H
                            clear H
                            have hnb46 := NB185_170.out
                            have hnc46 := NB170_185.out
                            have hnb47 := NB185_171.out
                            have hnc47 := NB171_185.out
                            obtain ⟨hcz48_0, hcz48_1, hcz48_2, hcz48_3, hcz48_4, hcz48_5, hcz48_6, hcz48_7⟩ := cc8 BK185
                            obtain ⟨hfz48_0, hfz48_1, hfz48_2, hfz48_3, hfz48_4, hfz48_5, hfz48_6, hfz48_7⟩ := cf8 BK185
                            go_wp2_with (first | (go_at_call 11; (with_reducible refine (job_Left.calls t176 t177 t178 t179 t180 t181 t182 t183 t186 _ A43.out).mono ?_); rintro e w49 ⟨rfl, hb⟩; have n0_ := Aside0.mk (blk_below (g := gb170) (o := .cells #[.int .i64 a0_0, .int .i64 a0_1, .int .i64 a0_2, .int .i64 a0_3, .int .i64 a0_4, .int .i64 a0_5] 23 (0, 0)) (by (with_reducible repeat (first | refine bN ?_ _ | refine bD ?_ | refine bA ?_ _)); refine blk_far ?_ NB170_185.out _; (with_reducible repeat (first | refine bN ?_ _ | refine bD ?_ | refine bA ?_ _)); refine blk_far ?_ NB170_185.out _; (with_reducible repeat (first | refine bN ?_ _ | refine bD ?_ | refine bA ?_ _)); refine blk_far ?_ NB170_185.out _; (with_reducible repeat (first | refine bN ?_ _ | refine bD ?_ | refine bA ?_ _)); refine blk_far ?_ NB170_185.out _; (with_reducible repeat (first | refine bN ?_ _ | refine bD ?_ | refine bA ?_ _)); refine blk_far ?_ NB170_185.out _; (with_reducible repeat (first | refine bN ?_ _ | refine bD ?_ | refine bA ?_ _)); refine blk_far ?_ NB170_185.out _; (with_reducible repeat (first | refine bN ?_ _ | refine bD ?_ | refine bA ?_ _)); refine blk_far ?_ NB170_185.out _; (with_reducible repeat (first | refine bN ?_ _ | refine bD ?_ | refine bA ?_ _)); refine blk_far ?_ NB170_185.out _; (with_reducible repeat (first | refine bN ?_ _ | refine bD ?_ | refine bA ?_ _)); exact BK170.out) hb); have n1_ := Aside0.mk (blk_below (g := gb171) (o := .cells #[.bool x172000_3, .int .i64 x172001_3, .int .i64 x172002_3, .int .i64 x172003_3, .bool x172004_3, .int .i64 x172005_3, .int .i64 x172006_3, .int .i64 x172007_3] 25 (0, 0)) (by (with_reducible repeat (first | refine bN ?_ _ | refine bD ?_ | refine bA ?_ _)); refine blk_far ?_ NB171_185.out _; (with_reducible repeat (first | refine bN ?_ _ | refine bD ?_ | refine bA ?_ _)); refine blk_far ?_ NB171_185.out _; (with_reducible repeat (first | refine bN ?_ _ | refine bD ?_ | refine bA ?_ _)); refine blk_far ?_ NB171_185.out _; (with_reducible repeat (first | refine bN ?_ _ | refine bD ?_ | refine bA ?_ _)); refine blk_far ?_ NB171_185.out _; (with_reducible repeat (first | refine bN ?_ _ | refine bD ?_ | refine bA ?_ _)); refine blk_far ?_ NB171_185.out _; (with_reducible repeat (first | refine bN ?_ _ | refine bD ?_ | refine bA ?_ _)); refine blk_far ?_ NB171_185.out _; (with_reducible repeat (first | refine bN ?_ _ | refine bD ?_ | refine bA ?_ _)); refine blk_far ?_ NB171_185.out _; (with_reducible repeat (first | refine bN ?_ _ | refine bD ?_ | refine bA ?_ _)); refine blk_far ?_ NB171_185.out _; (with_reducible repeat (first | refine bN ?_ _ | refine bD ?_ | refine bA ?_ _)); exact BK171.out) hb); have n2_ := Aside0.mk (blk_below (g := gb185) (o := .cells #[.bool t176, .int .i64 t177, .int .i64 t178, .int .i64 t179, .bool t180, .int .i64 t181, .int .i64 t182, .int .i64 t183] 25 (0, 0)) (by (with_reducible repeat (first | refine bN ?_ _ | refine bD ?_ | refine bA ?_ _)); refine blk_put (cs := #[.bool t176, .int .i64 t177, .int .i64 t178, .int .i64 t179, .bool t180, .int .i64 t181, .int .i64 t182, .int .i64 0]) ?_ 7 _ rfl; (with_reducible repeat (first | refine bN ?_ _ | refine bD ?_ | refine bA ?_ _)); refine blk_put (cs := #[.bool t176, .int .i64 t177, .int .i64 t178, .int .i64 t179, .bool t180, .int .i64 t181, .int .i64 0, .int .i64 0]) ?_ 6 _ rfl; (with_reducible repeat (first | refine bN ?_ _ | refine bD ?_ | refine bA ?_ _)); refine blk_put (cs := #[.bool t176, .int .i64 t177, .int .i64 t178, .int .i64 t179, .bool t180, .int .i64 0, .int .i64 0, .int .i64 0]) ?_ 5 _ rfl; (with_reducible repeat (first | refine bN ?_ _ | refine bD ?_ | refine bA ?_ _)); refine blk_put (cs := #[.bool t176, .int .i64 t177, .int .i64 t178, .int .i64 t179, .bool false, .int .i64 0, .int .i64 0, .int .i64 0]) ?_ 4 _ rfl; (with_reducible repeat (first | refine bN ?_ _ | refine bD ?_ | refine bA ?_ _)); refine blk_put (cs := #[.bool t176, .int .i64 t177, .int .i64 t178, .int .i64 0, .bool false, .int .i64 0, .int .i64 0, .int .i64 0]) ?_ 3 _ rfl; (with_reducible repeat (first | refine bN ?_ _ | refine bD ?_ | refine bA ?_ _)); refine blk_put (cs := #[.bool t176, .int .i64 t177, .int .i64 0, .int .i64 0, .bool false, .int .i64 0, .int .i64 0, .int .i64 0]) ?_ 2 _ rfl; (with_reducible repeat (first | refine bN ?_ _ | refine bD ?_ | refine bA ?_ _)); refine blk_put (cs := #[.bool t176, .int .i64 0, .int .i64 0, .int .i64 0, .bool false, .int .i64 0, .int .i64 0, .int .i64 0]) ?_ 1 _ rfl; (with_reducible repeat (first | refine bN ?_ _ | refine bD ?_ | refine bA ?_ _)); refine blk_put (cs := #[.bool false, .int .i64 0, .int .i64 0, .int .i64 0, .bool false, .int .i64 0, .int .i64 0, .int .i64 0]) ?_ 0 _ rfl; (with_reducible repeat (first | refine bN ?_ _ | refine bD ?_ | refine bA ?_ _)); exact BK185.out) hb); have n3_ := bs HB hb; clear BK170; clear BK171; clear BK185; clear HB; have BK170 := n0_; have BK171 := n1_; have BK185 := n2_; have HB := n3_; clear n0_ n1_ n2_ n3_; (try clear hb); (try clear hb2); (try clear hk); (try clear hi); have hnb50 := NB170_171.out; have hnc50 := NB171_170.out; (try clear hcz48_0 hcz48_1 hcz48_2 hcz48_3 hcz48_4 hcz48_5 hcz48_6 hcz48_7 hfz48_0 hfz48_1 hfz48_2 hfz48_3 hfz48_4 hfz48_5 hfz48_6 hfz48_7); obtain ⟨hcz51_0, hcz51_1, hcz51_2, hcz51_3, hcz51_4, hcz51_5⟩ := cc6 BK170; obtain ⟨hfz51_0, hfz51_1, hfz51_2, hfz51_3, hfz51_4, hfz51_5⟩ := cf6 BK170; obtain ⟨hcz52_0, hcz52_1, hcz52_2, hcz52_3, hcz52_4, hcz52_5, hcz52_6, hcz52_7⟩ := cc8 BK185; obtain ⟨hfz52_0, hfz52_1, hfz52_2, hfz52_3, hfz52_4, hfz52_5, hfz52_6, hfz52_7⟩ := cf8 BK185) | (go_at_call 9; (with_reducible refine (job_May.calls a0_0 a0_1 a0_2 a0_3 a0_4 a0_5 t176 t177 t178 t179 t180 t181 t182 t183 t187 _ A45.out).mono ?_); rintro e w53 ⟨rfl, hb⟩; have n0_ := bb BK170 hb; have n1_ := bb BK171 hb; have n2_ := bb BK185 hb; have n3_ := bs HB hb; clear BK170; clear BK171; clear BK185; clear HB; have BK170 := n0_; have BK171 := n1_; have BK185 := n2_; have HB := n3_; clear n0_ n1_ n2_ n3_; (try clear hb); (try clear hb2); (try clear hk); (try clear hi)))
                            go_meet
                            case rel => exact ⟨_, (!t187), (by first | rfl | (simp; done) | (simp [*]; done)), H', ⟨by have := HJ3.out; have := HJ18.out; have := HK3.out; first | omega | exact Nat.le_refl _⟩, ⟨by (with_reducible repeat (first | refine bN ?_ _ | refine bD ?_ | refine bA ?_ _)); exact BK170.out⟩, ⟨by (with_reducible repeat (first | refine bN ?_ _ | refine bD ?_ | refine bA ?_ _)); exact BK171.out⟩, ⟨by (with_reducible repeat (first | refine bN ?_ _ | refine bD ?_ | refine bA ?_ _)); exact BK185.out⟩, ⟨by repeat (first | (with_reducible first | exact HB.out | apply below_alloc | apply pw_below_drewN | apply below_drew1 | refine below_set ?_ GE170.out | refine below_set ?_ GE171.out | refine below_set ?_ GE185.out) | exact HB.out)⟩⟩
                          · rw [if_neg c44] at H
                            have c44b0 : (t186 == (wrap64 (t174 - x8_3))) = false := beq_eq_false_iff_ne.mpr c44
                            have c44b1 : (t186 != (wrap64 (t174 - x8_3))) = true := bne_iff_ne.mpr c44
                            have H' := Aside0.mk H
                            clear H
                            have hnb54 := NB185_170.out
                            have hnc54 := NB170_185.out
                            have hnb55 := NB185_171.out
                            have hnc55 := NB171_185.out
                            obtain ⟨hcz56_0, hcz56_1, hcz56_2, hcz56_3, hcz56_4, hcz56_5, hcz56_6, hcz56_7⟩ := cc8 BK185
                            obtain ⟨hfz56_0, hfz56_1, hfz56_2, hfz56_3, hfz56_4, hfz56_5, hfz56_6, hfz56_7⟩ := cf8 BK185
                            go_wp2_with (first | (go_at_call 11; (with_reducible refine (job_Left.calls t176 t177 t178 t179 t180 t181 t182 t183 t186 _ A43.out).mono ?_); rintro e w57 ⟨rfl, hb⟩; have n0_ := Aside0.mk (blk_below (g := gb170) (o := .cells #[.int .i64 a0_0, .int .i64 a0_1, .int .i64 a0_2, .int .i64 a0_3, .int .i64 a0_4, .int .i64 a0_5] 23 (0, 0)) (by (with_reducible repeat (first | refine bN ?_ _ | refine bD ?_ | refine bA ?_ _)); refine blk_far ?_ NB170_185.out _; (with_reducible repeat (first | refine bN ?_ _ | refine bD ?_ | refine bA ?_ _)); refine blk_far ?_ NB170_185.out _; (with_reducible repeat (first | refine bN ?_ _ | refine bD ?_ | refine bA ?_ _)); refine blk_far ?_ NB170_185.out _; (with_reducible repeat (first | refine bN ?_ _ | refine bD ?_ | refine bA ?_ _)); refine blk_far ?_ NB170_185.out _; (with_reducible repeat (first | refine bN ?_ _ | refine bD ?_ | refine bA ?_ _)); refine blk_far ?_ NB170_185.out _; (with_reducible repeat (first | refine bN ?_ _ | refine bD ?_ | refine bA ?_ _)); refine blk_far ?_ NB170_185.out _; (with_reducible repeat (first | refine bN ?_ _ | refine bD ?_ | refine bA ?_ _)); refine blk_far ?_ NB170_185.out _; (with_reducible repeat (first | refine bN ?_ _ | refine bD ?_ | refine bA ?_ _)); refine blk_far ?_ NB170_185.out _; (with_reducible repeat (first | refine bN ?_ _ | refine bD ?_ | refine bA ?_ _)); exact BK170.out) hb); have n1_ := Aside0.mk (blk_below (g := gb171) (o := .cells #[.bool x172000_3, .int .i64 x172001_3, .int .i64 x172002_3, .int .i64 x172003_3, .bool x172004_3, .int .i64 x172005_3, .int .i64 x172006_3, .int .i64 x172007_3] 25 (0, 0)) (by (with_reducible repeat (first | refine bN ?_ _ | refine bD ?_ | refine bA ?_ _)); refine blk_far ?_ NB171_185.out _; (with_reducible repeat (first | refine bN ?_ _ | refine bD ?_ | refine bA ?_ _)); refine blk_far ?_ NB171_185.out _; (with_reducible repeat (first | refine bN ?_ _ | refine bD ?_ | refine bA ?_ _)); refine blk_far ?_ NB171_185.out _; (with_reducible repeat (first | refine bN ?_ _ | refine bD ?_ | refine bA ?_ _)); refine blk_far ?_ NB171_185.out _; (with_reducible repeat (first | refine bN ?_ _ | refine bD ?_ | refine bA ?_ _)); refine blk_far ?_ NB171_185.out _; (with_reducible repeat (first | refine bN ?_ _ | refine bD ?_ | refine bA ?_ _)); refine blk_far ?_ NB171_185.out _; (with_reducible repeat (first | refine bN ?_ _ | refine bD ?_ | refine bA ?_ _)); refine blk_far ?_ NB171_185.out _; (with_reducible repeat (first | refine bN ?_ _ | refine bD ?_ | refine bA ?_ _)); refine blk_far ?_ NB171_185.out _; (with_reducible repeat (first | refine bN ?_ _ | refine bD ?_ | refine bA ?_ _)); exact BK171.out) hb); have n2_ := Aside0.mk (blk_below (g := gb185) (o := .cells #[.bool t176, .int .i64 t177, .int .i64 t178, .int .i64 t179, .bool t180, .int .i64 t181, .int .i64 t182, .int .i64 t183] 25 (0, 0)) (by (with_reducible repeat (first | refine bN ?_ _ | refine bD ?_ | refine bA ?_ _)); refine blk_put (cs := #[.bool t176, .int .i64 t177, .int .i64 t178, .int .i64 t179, .bool t180, .int .i64 t181, .int .i64 t182, .int .i64 0]) ?_ 7 _ rfl; (with_reducible repeat (first | refine bN ?_ _ | refine bD ?_ | refine bA ?_ _)); refine blk_put (cs := #[.bool t176, .int .i64 t177, .int .i64 t178, .int .i64 t179, .bool t180, .int .i64 t181, .int .i64 0, .int .i64 0]) ?_ 6 _ rfl; (with_reducible repeat (first | refine bN ?_ _ | refine bD ?_ | refine bA ?_ _)); refine blk_put (cs := #[.bool t176, .int .i64 t177, .int .i64 t178, .int .i64 t179, .bool t180, .int .i64 0, .int .i64 0, .int .i64 0]) ?_ 5 _ rfl; (with_reducible repeat (first | refine bN ?_ _ | refine bD ?_ | refine bA ?_ _)); refine blk_put (cs := #[.bool t176, .int .i64 t177, .int .i64 t178, .int .i64 t179, .bool false, .int .i64 0, .int .i64 0, .int .i64 0]) ?_ 4 _ rfl; (with_reducible repeat (first | refine bN ?_ _ | refine bD ?_ | refine bA ?_ _)); refine blk_put (cs := #[.bool t176, .int .i64 t177, .int .i64 t178, .int .i64 0, .bool false, .int .i64 0, .int .i64 0, .int .i64 0]) ?_ 3 _ rfl; (with_reducible repeat (first | refine bN ?_ _ | refine bD ?_ | refine bA ?_ _)); refine blk_put (cs := #[.bool t176, .int .i64 t177, .int .i64 0, .int .i64 0, .bool false, .int .i64 0, .int .i64 0, .int .i64 0]) ?_ 2 _ rfl; (with_reducible repeat (first | refine bN ?_ _ | refine bD ?_ | refine bA ?_ _)); refine blk_put (cs := #[.bool t176, .int .i64 0, .int .i64 0, .int .i64 0, .bool false, .int .i64 0, .int .i64 0, .int .i64 0]) ?_ 1 _ rfl; (with_reducible repeat (first | refine bN ?_ _ | refine bD ?_ | refine bA ?_ _)); refine blk_put (cs := #[.bool false, .int .i64 0, .int .i64 0, .int .i64 0, .bool false, .int .i64 0, .int .i64 0, .int .i64 0]) ?_ 0 _ rfl; (with_reducible repeat (first | refine bN ?_ _ | refine bD ?_ | refine bA ?_ _)); exact BK185.out) hb); have n3_ := bs HB hb; clear BK170; clear BK171; clear BK185; clear HB; have BK170 := n0_; have BK171 := n1_; have BK185 := n2_; have HB := n3_; clear n0_ n1_ n2_ n3_; (try clear hb); (try clear hb2); (try clear hk); (try clear hi)))
                            go_meet
                            case rel => exact ⟨_, (true), (by first | rfl | (simp; done) | (simp [*]; done)), H', ⟨by have := HJ3.out; have := HJ18.out; have := HK3.out; first | omega | exact Nat.le_refl _⟩, ⟨by (with_reducible repeat (first | refine bN ?_ _ | refine bD ?_ | refine bA ?_ _)); exact BK170.out⟩, ⟨by (with_reducible repeat (first | refine bN ?_ _ | refine bD ?_ | refine bA ?_ _)); exact BK171.out⟩, ⟨by (with_reducible repeat (first | refine bN ?_ _ | refine bD ?_ | refine bA ?_ _)); exact BK185.out⟩, ⟨by repeat (first | (with_reducible first | exact HB.out | apply below_alloc | apply pw_below_drewN | apply below_drew1 | refine below_set ?_ GE170.out | refine below_set ?_ GE171.out | refine below_set ?_ GE185.out) | exact HB.out)⟩⟩
                        · rw [if_neg c42] at H
                          have c42b0 : (t184 == 0) = false := beq_eq_false_iff_ne.mpr c42
                          have c42b1 : (t184 != 0) = true := bne_iff_ne.mpr c42
                          have H' := Aside0.mk H
                          clear H
                          go_wp2
                          go_meet
                          case rel => exact ⟨_, (true), (by first | rfl | (simp; done) | (simp [*]; done)), H', ⟨by have := HJ3.out; have := HJ18.out; have := HK3.out; first | omega | exact Nat.le_refl _⟩, ⟨by (with_reducible repeat (first | refine bN ?_ _ | refine bD ?_ | refine bA ?_ _)); refine blk_far ?_ NB170_185.out _; (with_reducible repeat (first | refine bN ?_ _ | refine bD ?_ | refine bA ?_ _)); refine blk_far ?_ NB170_185.out _; (with_reducible repeat (first | refine bN ?_ _ | refine bD ?_ | refine bA ?_ _)); refine blk_far ?_ NB170_185.out _; (with_reducible repeat (first | refine bN ?_ _ | refine bD ?_ | refine bA ?_ _)); refine blk_far ?_ NB170_185.out _; (with_reducible repeat (first | refine bN ?_ _ | refine bD ?_ | refine bA ?_ _)); refine blk_far ?_ NB170_185.out _; (with_reducible repeat (first | refine bN ?_ _ | refine bD ?_ | refine bA ?_ _)); refine blk_far ?_ NB170_185.out _; (with_reducible repeat (first | refine bN ?_ _ | refine bD ?_ | refine bA ?_ _)); refine blk_far ?_ NB170_185.out _; (with_reducible repeat (first | refine bN ?_ _ | refine bD ?_ | refine bA ?_ _)); refine blk_far ?_ NB170_185.out _; (with_reducible repeat (first | refine bN ?_ _ | refine bD ?_ | refine bA ?_ _)); exact BK170.out⟩, ⟨by (with_reducible repeat (first | refine bN ?_ _ | refine bD ?_ | refine bA ?_ _)); refine blk_far ?_ NB171_185.out _; (with_reducible repeat (first | refine bN ?_ _ | refine bD ?_ | refine bA ?_ _)); refine blk_far ?_ NB171_185.out _; (with_reducible repeat (first | refine bN ?_ _ | refine bD ?_ | refine bA ?_ _)); refine blk_far ?_ NB171_185.out _; (with_reducible repeat (first | refine bN ?_ _ | refine bD ?_ | refine bA ?_ _)); refine blk_far ?_ NB171_185.out _; (with_reducible repeat (first | refine bN ?_ _ | refine bD ?_ | refine bA ?_ _)); refine blk_far ?_ NB171_185.out _; (with_reducible repeat (first | refine bN ?_ _ | refine bD ?_ | refine bA ?_ _)); refine blk_far ?_ NB171_185.out _; (with_reducible repeat (first | refine bN ?_ _ | refine bD ?_ | refine bA ?_ _)); refine blk_far ?_ NB171_185.out _; (with_reducible repeat (first | refine bN ?_ _ | refine bD ?_ | refine bA ?_ _)); refine blk_far ?_ NB171_185.out _; (with_reducible repeat (first | refine bN ?_ _ | refine bD ?_ | refine bA ?_ _)); exact BK171.out⟩, ⟨by (with_reducible repeat (first | refine bN ?_ _ | refine bD ?_ | refine bA ?_ _)); refine blk_put (cs := #[.bool t176, .int .i64 t177, .int .i64 t178, .int .i64 t179, .bool t180, .int .i64 t181, .int .i64 t182, .int .i64 0]) ?_ 7 _ rfl; (with_reducible repeat (first | refine bN ?_ _ | refine bD ?_ | refine bA ?_ _)); refine blk_put (cs := #[.bool t176, .int .i64 t177, .int .i64 t178, .int .i64 t179, .bool t180, .int .i64 t181, .int .i64 0, .int .i64 0]) ?_ 6 _ rfl; (with_reducible repeat (first | refine bN ?_ _ | refine bD ?_ | refine bA ?_ _)); refine blk_put (cs := #[.bool t176, .int .i64 t177, .int .i64 t178, .int .i64 t179, .bool t180, .int .i64 0, .int .i64 0, .int .i64 0]) ?_ 5 _ rfl; (with_reducible repeat (first | refine bN ?_ _ | refine bD ?_ | refine bA ?_ _)); refine blk_put (cs := #[.bool t176, .int .i64 t177, .int .i64 t178, .int .i64 t179, .bool false, .int .i64 0, .int .i64 0, .int .i64 0]) ?_ 4 _ rfl; (with_reducible repeat (first | refine bN ?_ _ | refine bD ?_ | refine bA ?_ _)); refine blk_put (cs := #[.bool t176, .int .i64 t177, .int .i64 t178, .int .i64 0, .bool false, .int .i64 0, .int .i64 0, .int .i64 0]) ?_ 3 _ rfl; (with_reducible repeat (first | refine bN ?_ _ | refine bD ?_ | refine bA ?_ _)); refine blk_put (cs := #[.bool t176, .int .i64 t177, .int .i64 0, .int .i64 0, .bool false, .int .i64 0, .int .i64 0, .int .i64 0]) ?_ 2 _ rfl; (with_reducible repeat (first | refine bN ?_ _ | refine bD ?_ | refine bA ?_ _)); refine blk_put (cs := #[.bool t176, .int .i64 0, .int .i64 0, .int .i64 0, .bool false, .int .i64 0, .int .i64 0, .int .i64 0]) ?_ 1 _ rfl; (with_reducible repeat (first | refine bN ?_ _ | refine bD ?_ | refine bA ?_ _)); refine blk_put (cs := #[.bool false, .int .i64 0, .int .i64 0, .int .i64 0, .bool false, .int .i64 0, .int .i64 0, .int .i64 0]) ?_ 0 _ rfl; (with_reducible repeat (first | refine bN ?_ _ | refine bD ?_ | refine bA ?_ _)); exact BK185.out⟩, ⟨by repeat (first | (with_reducible first | exact HB.out | apply below_alloc | apply pw_below_drewN | apply below_drew1 | refine below_set ?_ GE170.out | refine below_set ?_ GE171.out | refine below_set ?_ GE185.out) | exact HB.out)⟩⟩
                      · rw [if_neg c41] at H
                        have c41b0 : decide (x8_3 < t174) = false := decide_eq_false c41
                        clear c41
                        (first | rw [c41b0] | (simp only [i64_w, i32_w]; rw [c41b0]) | skip)
                        have H' := Aside0.mk H
                        clear H
                        go_wp2
                        go_meet
                        case rel => exact ⟨_, (false), (by first | rfl | (simp; done) | (simp [*]; done)), H', ⟨by have := HJ3.out; have := HJ18.out; have := HK3.out; first | omega | exact Nat.le_refl _⟩, ⟨by (with_reducible repeat (first | refine bN ?_ _ | refine bD ?_ | refine bA ?_ _)); refine blk_far ?_ NB170_185.out _; (with_reducible repeat (first | refine bN ?_ _ | refine bD ?_ | refine bA ?_ _)); refine blk_far ?_ NB170_185.out _; (with_reducible repeat (first | refine bN ?_ _ | refine bD ?_ | refine bA ?_ _)); refine blk_far ?_ NB170_185.out _; (with_reducible repeat (first | refine bN ?_ _ | refine bD ?_ | refine bA ?_ _)); refine blk_far ?_ NB170_185.out _; (with_reducible repeat (first | refine bN ?_ _ | refine bD ?_ | refine bA ?_ _)); refine blk_far ?_ NB170_185.out _; (with_reducible repeat (first | refine bN ?_ _ | refine bD ?_ | refine bA ?_ _)); refine blk_far ?_ NB170_185.out _; (with_reducible repeat (first | refine bN ?_ _ | refine bD ?_ | refine bA ?_ _)); refine blk_far ?_ NB170_185.out _; (with_reducible repeat (first | refine bN ?_ _ | refine bD ?_ | refine bA ?_ _)); refine blk_far ?_ NB170_185.out _; (with_reducible repeat (first | refine bN ?_ _ | refine bD ?_ | refine bA ?_ _)); exact BK170.out⟩, ⟨by (with_reducible repeat (first | refine bN ?_ _ | refine bD ?_ | refine bA ?_ _)); refine blk_far ?_ NB171_185.out _; (with_reducible repeat (first | refine bN ?_ _ | refine bD ?_ | refine bA ?_ _)); refine blk_far ?_ NB171_185.out _; (with_reducible repeat (first | refine bN ?_ _ | refine bD ?_ | refine bA ?_ _)); refine blk_far ?_ NB171_185.out _; (with_reducible repeat (first | refine bN ?_ _ | refine bD ?_ | refine bA ?_ _)); refine blk_far ?_ NB171_185.out _; (with_reducible repeat (first | refine bN ?_ _ | refine bD ?_ | refine bA ?_ _)); refine blk_far ?_ NB171_185.out _; (with_reducible repeat (first | refine bN ?_ _ | refine bD ?_ | refine bA ?_ _)); refine blk_far ?_ NB171_185.out _; (with_reducible repeat (first | refine bN ?_ _ | refine bD ?_ | refine bA ?_ _)); refine blk_far ?_ NB171_185.out _; (with_reducible repeat (first | refine bN ?_ _ | refine bD ?_ | refine bA ?_ _)); refine blk_far ?_ NB171_185.out _; (with_reducible repeat (first | refine bN ?_ _ | refine bD ?_ | refine bA ?_ _)); exact BK171.out⟩, ⟨by (with_reducible repeat (first | refine bN ?_ _ | refine bD ?_ | refine bA ?_ _)); refine blk_put (cs := #[.bool t176, .int .i64 t177, .int .i64 t178, .int .i64 t179, .bool t180, .int .i64 t181, .int .i64 t182, .int .i64 0]) ?_ 7 _ rfl; (with_reducible repeat (first | refine bN ?_ _ | refine bD ?_ | refine bA ?_ _)); refine blk_put (cs := #[.bool t176, .int .i64 t177, .int .i64 t178, .int .i64 t179, .bool t180, .int .i64 t181, .int .i64 0, .int .i64 0]) ?_ 6 _ rfl; (with_reducible repeat (first | refine bN ?_ _ | refine bD ?_ | refine bA ?_ _)); refine blk_put (cs := #[.bool t176, .int .i64 t177, .int .i64 t178, .int .i64 t179, .bool t180, .int .i64 0, .int .i64 0, .int .i64 0]) ?_ 5 _ rfl; (with_reducible repeat (first | refine bN ?_ _ | refine bD ?_ | refine bA ?_ _)); refine blk_put (cs := #[.bool t176, .int .i64 t177, .int .i64 t178, .int .i64 t179, .bool false, .int .i64 0, .int .i64 0, .int .i64 0]) ?_ 4 _ rfl; (with_reducible repeat (first | refine bN ?_ _ | refine bD ?_ | refine bA ?_ _)); refine blk_put (cs := #[.bool t176, .int .i64 t177, .int .i64 t178, .int .i64 0, .bool false, .int .i64 0, .int .i64 0, .int .i64 0]) ?_ 3 _ rfl; (with_reducible repeat (first | refine bN ?_ _ | refine bD ?_ | refine bA ?_ _)); refine blk_put (cs := #[.bool t176, .int .i64 t177, .int .i64 0, .int .i64 0, .bool false, .int .i64 0, .int .i64 0, .int .i64 0]) ?_ 2 _ rfl; (with_reducible repeat (first | refine bN ?_ _ | refine bD ?_ | refine bA ?_ _)); refine blk_put (cs := #[.bool t176, .int .i64 0, .int .i64 0, .int .i64 0, .bool false, .int .i64 0, .int .i64 0, .int .i64 0]) ?_ 1 _ rfl; (with_reducible repeat (first | refine bN ?_ _ | refine bD ?_ | refine bA ?_ _)); refine blk_put (cs := #[.bool false, .int .i64 0, .int .i64 0, .int .i64 0, .bool false, .int .i64 0, .int .i64 0, .int .i64 0]) ?_ 0 _ rfl; (with_reducible repeat (first | refine bN ?_ _ | refine bD ?_ | refine bA ?_ _)); exact BK185.out⟩, ⟨by repeat (first | (with_reducible first | exact HB.out | apply below_alloc | apply pw_below_drewN | apply below_drew1 | refine below_set ?_ GE170.out | refine below_set ?_ GE171.out | refine below_set ?_ GE185.out) | exact HB.out)⟩⟩
                    case rest =>
                      clear HC33
                      try clear c1
                      try clear c2
                      try clear p2
                      try clear c3
                      try clear c4
                      try clear c5
                      try clear p6
                      try clear c8
                      try clear c9
                      try clear c11
                      try clear c13
                      try clear c15
                      try clear c17
                      try clear c20
                      try clear c23
                      try clear c23b0
                      try clear c25
                      try clear c28
                      try clear c29
                      try clear c31
                      try clear c31b0
                      try clear c34
                      try clear c38
                      try clear c39
                      try clear c41
                      try clear c41b0
                      try clear c42
                      try clear c42b0
                      try clear c42b1
                      try clear c44
                      try clear c44b0
                      try clear c44b1
                      try clear c46
                      try clear c47
                      try clear c50
                      try clear c54
                      try clear c55
                      try clear hcz12_0
                      try clear hcz12_1
                      try clear hcz12_2
                      try clear hcz12_3
                      try clear hcz12_4
                      try clear hcz12_5
                      try clear hcz12_6
                      try clear hcz12_7
                      try clear hcz13_0
                      try clear hcz13_1
                      try clear hcz13_2
                      try clear hcz13_3
                      try clear hcz13_4
                      try clear hcz13_5
                      try clear hcz16_0
                      try clear hcz16_1
                      try clear hcz16_2
                      try clear hcz16_3
                      try clear hcz16_4
                      try clear hcz16_5
                      try clear hcz16_6
                      try clear hcz16_7
                      try clear hcz21_0
                      try clear hcz21_1
                      try clear hcz21_2
                      try clear hcz21_3
                      try clear hcz21_4
                      try clear hcz21_5
                      try clear hcz21_6
                      try clear hcz21_7
                      try clear hcz26_0
                      try clear hcz26_1
                      try clear hcz26_2
                      try clear hcz26_3
                      try clear hcz26_4
                      try clear hcz26_5
                      try clear hcz26_6
                      try clear hcz26_7
                      try clear hcz30_0
                      try clear hcz30_1
                      try clear hcz30_2
                      try clear hcz30_3
                      try clear hcz30_4
                      try clear hcz30_5
                      try clear hcz30_6
                      try clear hcz30_7
                      try clear hcz35_0
                      try clear hcz35_1
                      try clear hcz35_2
                      try clear hcz35_3
                      try clear hcz35_4
                      try clear hcz35_5
                      try clear hcz35_6
                      try clear hcz35_7
                      try clear hcz40_0
                      try clear hcz40_1
                      try clear hcz40_2
                      try clear hcz40_3
                      try clear hcz40_4
                      try clear hcz40_5
                      try clear hcz40_6
                      try clear hcz40_7
                      try clear hcz48_0
                      try clear hcz48_1
                      try clear hcz48_2
                      try clear hcz48_3
                      try clear hcz48_4
                      try clear hcz48_5
                      try clear hcz48_6
                      try clear hcz48_7
                      try clear hcz51_0
                      try clear hcz51_1
                      try clear hcz51_2
                      try clear hcz51_3
                      try clear hcz51_4
                      try clear hcz51_5
                      try clear hcz52_0
                      try clear hcz52_1
                      try clear hcz52_2
                      try clear hcz52_3
                      try clear hcz52_4
                      try clear hcz52_5
                      try clear hcz52_6
                      try clear hcz52_7
                      try clear hcz56_0
                      try clear hcz56_1
                      try clear hcz56_2
                      try clear hcz56_3
                      try clear hcz56_4
                      try clear hcz56_5
                      try clear hcz56_6
                      try clear hcz56_7
                      try clear hfz12_0
                      try clear hfz12_1
                      try clear hfz12_2
                      try clear hfz12_3
                      try clear hfz12_4
                      try clear hfz12_5
                      try clear hfz12_6
                      try clear hfz12_7
                      try clear hfz13_0
                      try clear hfz13_1
                      try clear hfz13_2
                      try clear hfz13_3
                      try clear hfz13_4
                      try clear hfz13_5
                      try clear hfz16_0
                      try clear hfz16_1
                      try clear hfz16_2
                      try clear hfz16_3
                      try clear hfz16_4
                      try clear hfz16_5
                      try clear hfz16_6
                      try clear hfz16_7
                      try clear hfz21_0
                      try clear hfz21_1
                      try clear hfz21_2
                      try clear hfz21_3
                      try clear hfz21_4
                      try clear hfz21_5
                      try clear hfz21_6
                      try clear hfz21_7
                      try clear hfz26_0
                      try clear hfz26_1
                      try clear hfz26_2
                      try clear hfz26_3
                      try clear hfz26_4
                      try clear hfz26_5
                      try clear hfz26_6
                      try clear hfz26_7
                      try clear hfz30_0
                      try clear hfz30_1
                      try clear hfz30_2
                      try clear hfz30_3
                      try clear hfz30_4
                      try clear hfz30_5
                      try clear hfz30_6
                      try clear hfz30_7
                      try clear hfz35_0
                      try clear hfz35_1
                      try clear hfz35_2
                      try clear hfz35_3
                      try clear hfz35_4
                      try clear hfz35_5
                      try clear hfz35_6
                      try clear hfz35_7
                      try clear hfz40_0
                      try clear hfz40_1
                      try clear hfz40_2
                      try clear hfz40_3
                      try clear hfz40_4
                      try clear hfz40_5
                      try clear hfz40_6
                      try clear hfz40_7
                      try clear hfz48_0
                      try clear hfz48_1
                      try clear hfz48_2
                      try clear hfz48_3
                      try clear hfz48_4
                      try clear hfz48_5
                      try clear hfz48_6
                      try clear hfz48_7
                      try clear hfz51_0
                      try clear hfz51_1
                      try clear hfz51_2
                      try clear hfz51_3
                      try clear hfz51_4
                      try clear hfz51_5
                      try clear hfz52_0
                      try clear hfz52_1
                      try clear hfz52_2
                      try clear hfz52_3
                      try clear hfz52_4
                      try clear hfz52_5
                      try clear hfz52_6
                      try clear hfz52_7
                      try clear hfz56_0
                      try clear hfz56_1
                      try clear hfz56_2
                      try clear hfz56_3
                      try clear hfz56_4
                      try clear hfz56_5
                      try clear hfz56_6
                      try clear hfz56_7
                      try clear p2
                      obtain ⟨kq, x71_32, rfl, HA, HJ32, BK170, BK171, BK185, HB⟩ := hcut
                      cases kq with
                      | zero => exact absurd HA.out (by simp [fuseelaw11_JobRuns.j3])
                      | succ kj32 =>
                        have H := HA.out
                        clear HA
                        simp only [fuseelaw11_JobRuns.j3] at H
                        by_cases c58 : x71_32 = true
                        · subst c58
                          rw [if_pos rfl] at H
                          exact absurd H (by simp)
                        · replace c58 := Bool.eq_false_iff.mpr c58
                          subst c58
                          rw [if_neg (show ¬ (false = true) by decide)] at H
                          by_cases c59 : x8_3 = t174
                          · rw [if_pos c59] at H
                            have c59b0 : (x8_3 == t174) = true := beq_iff_eq.mpr c59
                            have c59b1 : (x8_3 != t174) = false := bne_eq_false_iff_eq.mpr c59
                            clear c59
                            by_cases c60 : (t176 || (!(t177 == 0) || (!(t178 == 0) || (!(t179 == 0) || (t180 || (!(t181 == 0) || (!(t182 == 0) || (!(t183 == 0))))))))) = true
                            · rw [if_pos c60] at H
                              exact absurd H (by simp)
                            · rw [if_neg c60] at H
                              have c60b0 : (t176 || (!(t177 == 0) || (!(t178 == 0) || (!(t179 == 0) || (t180 || (!(t181 == 0) || (!(t182 == 0) || (!(t183 == 0))))))))) = false := by simpa using c60
                              clear c60
                              by_cases c61 : lg0 = true
                              · rw [if_pos c61] at H
                                have c61b0 : lg0 = true := c61
                                subst c61b0
                                clear c61
                                by_cases c62 : t184 = 1
                                · rw [if_pos c62] at H
                                  have c62b0 : (t184 == 1) = true := beq_iff_eq.mpr c62
                                  have c62b1 : (t184 != 1) = false := bne_eq_false_iff_eq.mpr c62
                                  clear c62
                                  have H' := Aside0.mk H
                                  clear H
                                  have hnb63 := NB185_170.out
                                  have hnc63 := NB170_185.out
                                  have hnb64 := NB185_171.out
                                  have hnc64 := NB171_185.out
                                  obtain ⟨hcz65_0, hcz65_1, hcz65_2, hcz65_3, hcz65_4, hcz65_5, hcz65_6, hcz65_7⟩ := cc8 BK185
                                  obtain ⟨hfz65_0, hfz65_1, hfz65_2, hfz65_3, hfz65_4, hfz65_5, hfz65_6, hfz65_7⟩ := cf8 BK185
                                  have hnb66 := NB171_170.out
                                  have hnc66 := NB170_171.out
                                  obtain ⟨hcz67_0, hcz67_1, hcz67_2, hcz67_3, hcz67_4, hcz67_5, hcz67_6, hcz67_7⟩ := cc8 BK171
                                  obtain ⟨hfz67_0, hfz67_1, hfz67_2, hfz67_3, hfz67_4, hfz67_5, hfz67_6, hfz67_7⟩ := cf8 BK171
                                  go_wp2
                                  go_roundg kj32
                                  case measure => have := HJ3.out; have := HJ18.out; have := HK3.out; have := HJ32.out; omega
                                  case rel => exact ⟨(wrap64 (x8_3 + 1)), (t176), (t177), (t178), (t179), (t180), (t181), (t182), (t183), (by first | rfl | (simp; done) | (simp [*]; done)), H', ⟨by have := HJ3.out; have := HJ18.out; have := HK3.out; have := HJ32.out; omega⟩, ⟨by (with_reducible repeat (first | refine bN ?_ _ | refine bD ?_ | refine bA ?_ _)); refine blk_far ?_ NB170_171.out _; (with_reducible repeat (first | refine bN ?_ _ | refine bD ?_ | refine bA ?_ _)); refine blk_far ?_ NB170_171.out _; (with_reducible repeat (first | refine bN ?_ _ | refine bD ?_ | refine bA ?_ _)); refine blk_far ?_ NB170_171.out _; (with_reducible repeat (first | refine bN ?_ _ | refine bD ?_ | refine bA ?_ _)); refine blk_far ?_ NB170_171.out _; (with_reducible repeat (first | refine bN ?_ _ | refine bD ?_ | refine bA ?_ _)); refine blk_far ?_ NB170_171.out _; (with_reducible repeat (first | refine bN ?_ _ | refine bD ?_ | refine bA ?_ _)); refine blk_far ?_ NB170_171.out _; (with_reducible repeat (first | refine bN ?_ _ | refine bD ?_ | refine bA ?_ _)); refine blk_far ?_ NB170_171.out _; (with_reducible repeat (first | refine bN ?_ _ | refine bD ?_ | refine bA ?_ _)); refine blk_far ?_ NB170_171.out _; (with_reducible repeat (first | refine bN ?_ _ | refine bD ?_ | refine bA ?_ _)); exact BK170.out⟩, ⟨by (with_reducible repeat (first | refine bN ?_ _ | refine bD ?_ | refine bA ?_ _)); refine blk_put (cs := #[.bool t176, .int .i64 t177, .int .i64 t178, .int .i64 t179, .bool t180, .int .i64 t181, .int .i64 t182, .int .i64 x172007_3]) ?_ 7 _ rfl; (with_reducible repeat (first | refine bN ?_ _ | refine bD ?_ | refine bA ?_ _)); refine blk_put (cs := #[.bool t176, .int .i64 t177, .int .i64 t178, .int .i64 t179, .bool t180, .int .i64 t181, .int .i64 x172006_3, .int .i64 x172007_3]) ?_ 6 _ rfl; (with_reducible repeat (first | refine bN ?_ _ | refine bD ?_ | refine bA ?_ _)); refine blk_put (cs := #[.bool t176, .int .i64 t177, .int .i64 t178, .int .i64 t179, .bool t180, .int .i64 x172005_3, .int .i64 x172006_3, .int .i64 x172007_3]) ?_ 5 _ rfl; (with_reducible repeat (first | refine bN ?_ _ | refine bD ?_ | refine bA ?_ _)); refine blk_put (cs := #[.bool t176, .int .i64 t177, .int .i64 t178, .int .i64 t179, .bool x172004_3, .int .i64 x172005_3, .int .i64 x172006_3, .int .i64 x172007_3]) ?_ 4 _ rfl; (with_reducible repeat (first | refine bN ?_ _ | refine bD ?_ | refine bA ?_ _)); refine blk_put (cs := #[.bool t176, .int .i64 t177, .int .i64 t178, .int .i64 x172003_3, .bool x172004_3, .int .i64 x172005_3, .int .i64 x172006_3, .int .i64 x172007_3]) ?_ 3 _ rfl; (with_reducible repeat (first | refine bN ?_ _ | refine bD ?_ | refine bA ?_ _)); refine blk_put (cs := #[.bool t176, .int .i64 t177, .int .i64 x172002_3, .int .i64 x172003_3, .bool x172004_3, .int .i64 x172005_3, .int .i64 x172006_3, .int .i64 x172007_3]) ?_ 2 _ rfl; (with_reducible repeat (first | refine bN ?_ _ | refine bD ?_ | refine bA ?_ _)); refine blk_put (cs := #[.bool t176, .int .i64 x172001_3, .int .i64 x172002_3, .int .i64 x172003_3, .bool x172004_3, .int .i64 x172005_3, .int .i64 x172006_3, .int .i64 x172007_3]) ?_ 1 _ rfl; (with_reducible repeat (first | refine bN ?_ _ | refine bD ?_ | refine bA ?_ _)); refine blk_put (cs := #[.bool x172000_3, .int .i64 x172001_3, .int .i64 x172002_3, .int .i64 x172003_3, .bool x172004_3, .int .i64 x172005_3, .int .i64 x172006_3, .int .i64 x172007_3]) ?_ 0 _ rfl; (with_reducible repeat (first | refine bN ?_ _ | refine bD ?_ | refine bA ?_ _)); exact BK171.out⟩, ⟨by repeat (first | (with_reducible first | exact HB.out | apply below_alloc | apply pw_below_drewN | apply below_drew1 | refine below_set ?_ GE170.out | refine below_set ?_ GE171.out | refine below_set ?_ GE185.out) | exact HB.out)⟩⟩
                                · rw [if_neg c62] at H
                                  exact absurd H (by simp)
                              · rw [if_neg c61] at H
                                have c61b0 : lg0 = false := by simpa using c61
                                subst c61b0
                                clear c61
                                by_cases c68 : t184 = 2
                                · rw [if_pos c68] at H
                                  have c68b0 : (t184 == 2) = true := beq_iff_eq.mpr c68
                                  have c68b1 : (t184 != 2) = false := bne_eq_false_iff_eq.mpr c68
                                  clear c68
                                  have H' := Aside0.mk H
                                  clear H
                                  have hnb69 := NB185_170.out
                                  have hnc69 := NB170_185.out
                                  have hnb70 := NB185_171.out
                                  have hnc70 := NB171_185.out
                                  obtain ⟨hcz71_0, hcz71_1, hcz71_2, hcz71_3, hcz71_4, hcz71_5, hcz71_6, hcz71_7⟩ := cc8 BK185
                                  obtain ⟨hfz71_0, hfz71_1, hfz71_2, hfz71_3, hfz71_4, hfz71_5, hfz71_6, hfz71_7⟩ := cf8 BK185
                                  have hnb72 := NB171_170.out
                                  have hnc72 := NB170_171.out
                                  obtain ⟨hcz73_0, hcz73_1, hcz73_2, hcz73_3, hcz73_4, hcz73_5, hcz73_6, hcz73_7⟩ := cc8 BK171
                                  obtain ⟨hfz73_0, hfz73_1, hfz73_2, hfz73_3, hfz73_4, hfz73_5, hfz73_6, hfz73_7⟩ := cf8 BK171
                                  go_wp2
                                  go_roundg kj32
                                  case measure => have := HJ3.out; have := HJ18.out; have := HK3.out; have := HJ32.out; omega
                                  case rel => exact ⟨(wrap64 (x8_3 + 1)), (t176), (t177), (t178), (t179), (t180), (t181), (t182), (t183), (by first | rfl | (simp; done) | (simp [*]; done)), H', ⟨by have := HJ3.out; have := HJ18.out; have := HK3.out; have := HJ32.out; omega⟩, ⟨by (with_reducible repeat (first | refine bN ?_ _ | refine bD ?_ | refine bA ?_ _)); refine blk_far ?_ NB170_171.out _; (with_reducible repeat (first | refine bN ?_ _ | refine bD ?_ | refine bA ?_ _)); refine blk_far ?_ NB170_171.out _; (with_reducible repeat (first | refine bN ?_ _ | refine bD ?_ | refine bA ?_ _)); refine blk_far ?_ NB170_171.out _; (with_reducible repeat (first | refine bN ?_ _ | refine bD ?_ | refine bA ?_ _)); refine blk_far ?_ NB170_171.out _; (with_reducible repeat (first | refine bN ?_ _ | refine bD ?_ | refine bA ?_ _)); refine blk_far ?_ NB170_171.out _; (with_reducible repeat (first | refine bN ?_ _ | refine bD ?_ | refine bA ?_ _)); refine blk_far ?_ NB170_171.out _; (with_reducible repeat (first | refine bN ?_ _ | refine bD ?_ | refine bA ?_ _)); refine blk_far ?_ NB170_171.out _; (with_reducible repeat (first | refine bN ?_ _ | refine bD ?_ | refine bA ?_ _)); refine blk_far ?_ NB170_171.out _; (with_reducible repeat (first | refine bN ?_ _ | refine bD ?_ | refine bA ?_ _)); exact BK170.out⟩, ⟨by (with_reducible repeat (first | refine bN ?_ _ | refine bD ?_ | refine bA ?_ _)); refine blk_put (cs := #[.bool t176, .int .i64 t177, .int .i64 t178, .int .i64 t179, .bool t180, .int .i64 t181, .int .i64 t182, .int .i64 x172007_3]) ?_ 7 _ rfl; (with_reducible repeat (first | refine bN ?_ _ | refine bD ?_ | refine bA ?_ _)); refine blk_put (cs := #[.bool t176, .int .i64 t177, .int .i64 t178, .int .i64 t179, .bool t180, .int .i64 t181, .int .i64 x172006_3, .int .i64 x172007_3]) ?_ 6 _ rfl; (with_reducible repeat (first | refine bN ?_ _ | refine bD ?_ | refine bA ?_ _)); refine blk_put (cs := #[.bool t176, .int .i64 t177, .int .i64 t178, .int .i64 t179, .bool t180, .int .i64 x172005_3, .int .i64 x172006_3, .int .i64 x172007_3]) ?_ 5 _ rfl; (with_reducible repeat (first | refine bN ?_ _ | refine bD ?_ | refine bA ?_ _)); refine blk_put (cs := #[.bool t176, .int .i64 t177, .int .i64 t178, .int .i64 t179, .bool x172004_3, .int .i64 x172005_3, .int .i64 x172006_3, .int .i64 x172007_3]) ?_ 4 _ rfl; (with_reducible repeat (first | refine bN ?_ _ | refine bD ?_ | refine bA ?_ _)); refine blk_put (cs := #[.bool t176, .int .i64 t177, .int .i64 t178, .int .i64 x172003_3, .bool x172004_3, .int .i64 x172005_3, .int .i64 x172006_3, .int .i64 x172007_3]) ?_ 3 _ rfl; (with_reducible repeat (first | refine bN ?_ _ | refine bD ?_ | refine bA ?_ _)); refine blk_put (cs := #[.bool t176, .int .i64 t177, .int .i64 x172002_3, .int .i64 x172003_3, .bool x172004_3, .int .i64 x172005_3, .int .i64 x172006_3, .int .i64 x172007_3]) ?_ 2 _ rfl; (with_reducible repeat (first | refine bN ?_ _ | refine bD ?_ | refine bA ?_ _)); refine blk_put (cs := #[.bool t176, .int .i64 x172001_3, .int .i64 x172002_3, .int .i64 x172003_3, .bool x172004_3, .int .i64 x172005_3, .int .i64 x172006_3, .int .i64 x172007_3]) ?_ 1 _ rfl; (with_reducible repeat (first | refine bN ?_ _ | refine bD ?_ | refine bA ?_ _)); refine blk_put (cs := #[.bool x172000_3, .int .i64 x172001_3, .int .i64 x172002_3, .int .i64 x172003_3, .bool x172004_3, .int .i64 x172005_3, .int .i64 x172006_3, .int .i64 x172007_3]) ?_ 0 _ rfl; (with_reducible repeat (first | refine bN ?_ _ | refine bD ?_ | refine bA ?_ _)); exact BK171.out⟩, ⟨by repeat (first | (with_reducible first | exact HB.out | apply below_alloc | apply pw_below_drewN | apply below_drew1 | refine below_set ?_ GE170.out | refine below_set ?_ GE171.out | refine below_set ?_ GE185.out) | exact HB.out)⟩⟩
                                · rw [if_neg c68] at H
                                  exact absurd H (by simp)
                          · rw [if_neg c59] at H
                            have c59b0 : (x8_3 == t174) = false := beq_eq_false_iff_ne.mpr c59
                            have c59b1 : (x8_3 != t174) = true := bne_iff_ne.mpr c59
                            have H' := Aside0.mk H
                            clear H
                            have hnb74 := NB185_170.out
                            have hnc74 := NB170_185.out
                            have hnb75 := NB185_171.out
                            have hnc75 := NB171_185.out
                            obtain ⟨hcz76_0, hcz76_1, hcz76_2, hcz76_3, hcz76_4, hcz76_5, hcz76_6, hcz76_7⟩ := cc8 BK185
                            obtain ⟨hfz76_0, hfz76_1, hfz76_2, hfz76_3, hfz76_4, hfz76_5, hfz76_6, hfz76_7⟩ := cf8 BK185
                            have hnb77 := NB171_170.out
                            have hnc77 := NB170_171.out
                            obtain ⟨hcz78_0, hcz78_1, hcz78_2, hcz78_3, hcz78_4, hcz78_5, hcz78_6, hcz78_7⟩ := cc8 BK171
                            obtain ⟨hfz78_0, hfz78_1, hfz78_2, hfz78_3, hfz78_4, hfz78_5, hfz78_6, hfz78_7⟩ := cf8 BK171
                            go_wp2
                            go_roundg kj32
                            case measure => have := HJ3.out; have := HJ18.out; have := HK3.out; have := HJ32.out; omega
                            case rel => exact ⟨(wrap64 (x8_3 + 1)), (t176), (t177), (t178), (t179), (t180), (t181), (t182), (t183), (by first | rfl | (simp; done) | (simp [*]; done)), H', ⟨by have := HJ3.out; have := HJ18.out; have := HK3.out; have := HJ32.out; omega⟩, ⟨by (with_reducible repeat (first | refine bN ?_ _ | refine bD ?_ | refine bA ?_ _)); refine blk_far ?_ NB170_171.out _; (with_reducible repeat (first | refine bN ?_ _ | refine bD ?_ | refine bA ?_ _)); refine blk_far ?_ NB170_171.out _; (with_reducible repeat (first | refine bN ?_ _ | refine bD ?_ | refine bA ?_ _)); refine blk_far ?_ NB170_171.out _; (with_reducible repeat (first | refine bN ?_ _ | refine bD ?_ | refine bA ?_ _)); refine blk_far ?_ NB170_171.out _; (with_reducible repeat (first | refine bN ?_ _ | refine bD ?_ | refine bA ?_ _)); refine blk_far ?_ NB170_171.out _; (with_reducible repeat (first | refine bN ?_ _ | refine bD ?_ | refine bA ?_ _)); refine blk_far ?_ NB170_171.out _; (with_reducible repeat (first | refine bN ?_ _ | refine bD ?_ | refine bA ?_ _)); refine blk_far ?_ NB170_171.out _; (with_reducible repeat (first | refine bN ?_ _ | refine bD ?_ | refine bA ?_ _)); refine blk_far ?_ NB170_171.out _; (with_reducible repeat (first | refine bN ?_ _ | refine bD ?_ | refine bA ?_ _)); exact BK170.out⟩, ⟨by (with_reducible repeat (first | refine bN ?_ _ | refine bD ?_ | refine bA ?_ _)); refine blk_put (cs := #[.bool t176, .int .i64 t177, .int .i64 t178, .int .i64 t179, .bool t180, .int .i64 t181, .int .i64 t182, .int .i64 x172007_3]) ?_ 7 _ rfl; (with_reducible repeat (first | refine bN ?_ _ | refine bD ?_ | refine bA ?_ _)); refine blk_put (cs := #[.bool t176, .int .i64 t177, .int .i64 t178, .int .i64 t179, .bool t180, .int .i64 t181, .int .i64 x172006_3, .int .i64 x172007_3]) ?_ 6 _ rfl; (with_reducible repeat (first | refine bN ?_ _ | refine bD ?_ | refine bA ?_ _)); refine blk_put (cs := #[.bool t176, .int .i64 t177, .int .i64 t178, .int .i64 t179, .bool t180, .int .i64 x172005_3, .int .i64 x172006_3, .int .i64 x172007_3]) ?_ 5 _ rfl; (with_reducible repeat (first | refine bN ?_ _ | refine bD ?_ | refine bA ?_ _)); refine blk_put (cs := #[.bool t176, .int .i64 t177, .int .i64 t178, .int .i64 t179, .bool x172004_3, .int .i64 x172005_3, .int .i64 x172006_3, .int .i64 x172007_3]) ?_ 4 _ rfl; (with_reducible repeat (first | refine bN ?_ _ | refine bD ?_ | refine bA ?_ _)); refine blk_put (cs := #[.bool t176, .int .i64 t177, .int .i64 t178, .int .i64 x172003_3, .bool x172004_3, .int .i64 x172005_3, .int .i64 x172006_3, .int .i64 x172007_3]) ?_ 3 _ rfl; (with_reducible repeat (first | refine bN ?_ _ | refine bD ?_ | refine bA ?_ _)); refine blk_put (cs := #[.bool t176, .int .i64 t177, .int .i64 x172002_3, .int .i64 x172003_3, .bool x172004_3, .int .i64 x172005_3, .int .i64 x172006_3, .int .i64 x172007_3]) ?_ 2 _ rfl; (with_reducible repeat (first | refine bN ?_ _ | refine bD ?_ | refine bA ?_ _)); refine blk_put (cs := #[.bool t176, .int .i64 x172001_3, .int .i64 x172002_3, .int .i64 x172003_3, .bool x172004_3, .int .i64 x172005_3, .int .i64 x172006_3, .int .i64 x172007_3]) ?_ 1 _ rfl; (with_reducible repeat (first | refine bN ?_ _ | refine bD ?_ | refine bA ?_ _)); refine blk_put (cs := #[.bool x172000_3, .int .i64 x172001_3, .int .i64 x172002_3, .int .i64 x172003_3, .bool x172004_3, .int .i64 x172005_3, .int .i64 x172006_3, .int .i64 x172007_3]) ?_ 0 _ rfl; (with_reducible repeat (first | refine bN ?_ _ | refine bD ?_ | refine bA ?_ _)); exact BK171.out⟩, ⟨by repeat (first | (with_reducible first | exact HB.out | apply below_alloc | apply pw_below_drewN | apply below_drew1 | refine below_set ?_ GE170.out | refine below_set ?_ GE171.out | refine below_set ?_ GE185.out) | exact HB.out)⟩⟩
                  · rw [if_neg c31] at H
                    have c31b0 : decide (x8_3 ≤ t174) = false := decide_eq_false c31
                    clear c31
                    obtain rfl := Option.some.inj H
                    go_wp2
                    go_ret
                    exact ⟨by first | rfl | (simp [errW_none, errW_some] <;> rfl) | (simp [*, errW_none, errW_some] <;> rfl) | (exfalso; first | exact absurd ‹(false != false) = true› (by decide) | exact absurd ‹(true != true) = true› (by decide) | exact absurd ‹(true != false) = false› (by decide) | exact absurd ‹(false != true) = false› (by decide) | exact absurd ‹(false == false) = false› (by decide) | exact absurd ‹(true == true) = false› (by decide) | exact absurd ‹(true == false) = true› (by decide) | exact absurd ‹(false == true) = true› (by decide)), by repeat (first | (with_reducible first | exact HB.out | apply below_alloc | apply pw_below_drewN | apply below_drew1 | refine below_set ?_ GE170.out | refine below_set ?_ GE171.out) | exact HB.out)⟩

end Go.Proofs.Ytojjffafofjfiaa.P
