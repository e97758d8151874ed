-- Written by a program of this session (hprint.py), out of the translation; functions that the print does not take are given by hand.
import Derived.Test.YtojjffafofjfiaaPx0
import Derived.Test.YtojjffafofjfiaaPx1
import Derived.Test.YtojjffafofjfiaaPx5
import Derived.Test.YtojjffafofjfiaaPx6
import Derived.Test.YtojjffafofjfiaaPx7
namespace Go.Proofs.Ytojjffafofjfiaa.P
open Go.RowKit Go.Proofs.YtojjffafofjfiaaM Go.Proofs.YtojjffafofjfiaaW.PrintWords Go.Proofs.YtojjffafofjfiaaW.PrintLast Go.Proofs.YtojjffafofjfiaaW.PrintMore
attribute [local go_sem] max2_int min2_int max_two min_two max_three min_three max_four min_four   -- for this text's walks alone
set_option linter.unusedVariables false
set_option linter.unusedSimpArgs false

attribute [local go_sem high] eqA25
/-! ### fuseelaw05_One: function 24 -/
def fuseelaw05_One.f  : Option (Int × Int × Int × Int × Int × Int) := some (2, 10, 20, 1, 2, 3)
set_option maxHeartbeats 8000000 in
set_option maxRecDepth 100000 in
theorem fuseelaw05_One.calls  (r1 : Int) (r2 : Int) (r3 : Int) (r4 : Int) (r5 : Int) (r6 : Int) (w : World) (h : fuseelaw05_One.f  = some (r1, r2, r3, r4, r5, r6)) :
    Calls Try.prog 24 #[] w fun e w' => e = .returned (.agg #[.int .i64 r1, .int .i64 r2, .int .i64 r3, .int .i64 r4, .int .i64 r5, .int .i64 r6]) ∧ Below w.heap.size w w' := by
  have hu23 := Try.underlying23
  have HB := Aside0.mk (Below.refl w.heap.size w)
  have H : (some (2, 10, 20, 1, 2, 3)) = some (r1, r2, r3, r4, r5, r6) := h
  clear h
  simp only [Option.some.injEq, Prod.mk.injEq] at H
  obtain ⟨rfl, rfl, rfl, rfl, rfl, rfl⟩ := H
  go_enter Try.func24, Try.ntmps24
  go_wp2_with (first | ((with_reducible refine gate_dst (N := 0) rfl ?_); refine box_event ?hg (N := 0) ?hd (cs := #[.int .i64 0, .int .i64 0, .int .i64 0, .int .i64 0, .int .i64 0, .int .i64 0]) (t := 23) ?hr ?_; (case hd => rfl); (case hg => rfl); (case hr => first | (go_simp; done) | (go_simp; rfl)); intro gb113 hg w1 hbox hb; have n0_ := bs HB hb; have n1_ := Aside0.mk (hbox); have n2_ := bz HB hg; have n3_ := bz HB hg; clear HB; have HB := n0_; have BK113 := n1_; have GW113 := n2_; have GE113 := n3_; clear n0_ n1_ n2_ n3_; clear hb hbox hg; obtain ⟨hcz2_0, hcz2_1, hcz2_2, hcz2_3, hcz2_4, hcz2_5⟩ := cc6 BK113; obtain ⟨hfz2_0, hfz2_1, hfz2_2, hfz2_3, hfz2_4, hfz2_5⟩ := cf6 BK113))
  refine bodyPost_ret (results_cell_row rfl _ _ gb113 23 #[.int .i64 2, .int .i64 10, .int .i64 20, .int .i64 1, .int .i64 2, .int .i64 3] (0, 0) _ rfl (by (with_reducible repeat (first | refine bN ?_ _ | refine bD ?_ | refine bA ?_ _)); refine blk_put (cs := #[.int .i64 2, .int .i64 10, .int .i64 20, .int .i64 1, .int .i64 2, .int .i64 0]) ?_ 5 _ rfl; (with_reducible repeat (first | refine bN ?_ _ | refine bD ?_ | refine bA ?_ _)); refine blk_put (cs := #[.int .i64 2, .int .i64 10, .int .i64 20, .int .i64 1, .int .i64 0, .int .i64 0]) ?_ 4 _ rfl; (with_reducible repeat (first | refine bN ?_ _ | refine bD ?_ | refine bA ?_ _)); refine blk_put (cs := #[.int .i64 2, .int .i64 10, .int .i64 20, .int .i64 0, .int .i64 0, .int .i64 0]) ?_ 3 _ rfl; (with_reducible repeat (first | refine bN ?_ _ | refine bD ?_ | refine bA ?_ _)); refine blk_put (cs := #[.int .i64 2, .int .i64 10, .int .i64 0, .int .i64 0, .int .i64 0, .int .i64 0]) ?_ 2 _ rfl; (with_reducible repeat (first | refine bN ?_ _ | refine bD ?_ | refine bA ?_ _)); refine blk_put (cs := #[.int .i64 2, .int .i64 0, .int .i64 0, .int .i64 0, .int .i64 0, .int .i64 0]) ?_ 1 _ rfl; (with_reducible repeat (first | refine bN ?_ _ | refine bD ?_ | refine bA ?_ _)); refine blk_put (cs := #[.int .i64 0, .int .i64 0, .int .i64 0, .int .i64 0, .int .i64 0, .int .i64 0]) ?_ 0 _ rfl; (with_reducible repeat (first | refine bN ?_ _ | refine bD ?_ | refine bA ?_ _)); exact BK113.out) Try.underlying23 rfl (by kernel_rfl)) rfl ?_
  exact ⟨by first | rfl | (simp [errW_none, errW_some] <;> rfl) | (simp [*, errW_none, errW_some] <;> rfl) | (exfalso; contradiction), by repeat (first | (with_reducible first | exact HB.out | apply below_alloc | apply pw_below_drewN | apply below_drew1 | refine below_set ?_ GE113.out) | exact HB.out)⟩

/-! ### fuseelaw11_awake: function 8 -/
def fuseelaw11_awake.f  : Option (Bool) := (fuseelaw05_One.f).bind fun bt114 => ((job_New.f bt114.1 bt114.2.1 bt114.2.2.1 bt114.2.2.2.1 bt114.2.2.2.2.1 bt114.2.2.2.2.2 0 5 15 3).bind fun bt120 => ((job_Step.f bt120.1 bt120.2.1 bt120.2.2.1 bt120.2.2.2.1 bt120.2.2.2.2.1 bt120.2.2.2.2.2.1 bt120.2.2.2.2.2.2.1 bt120.2.2.2.2.2.2.2.1).bind fun bt130 => ((job_Step.f bt130.1 bt130.2.1 bt130.2.2.1 bt130.2.2.2.1 bt130.2.2.2.2.1 bt130.2.2.2.2.2.1 bt130.2.2.2.2.2.2.1 bt130.2.2.2.2.2.2.2.1).bind fun bt140 => (if bt120.2.2.2.2.2.2.2.2 = true then ((fuseelaw05_One.f).bind fun bt150 => ((job_May.f bt150.1 bt150.2.1 bt150.2.2.1 bt150.2.2.2.1 bt150.2.2.2.2.1 bt150.2.2.2.2.2 bt120.1 bt120.2.1 bt120.2.2.1 bt120.2.2.2.1 bt120.2.2.2.2.1 bt120.2.2.2.2.2.1 bt120.2.2.2.2.2.2.1 bt120.2.2.2.2.2.2.2.1).bind fun t156 => (if t156 = true then (if bt120.2.2.2.2.1 = true then (if bt130.2.2.2.2.2.2.2.2 = 0 then (if bt130.2.2.2.2.2.2.2.1 = 1 then (if bt140.2.2.2.2.2.2.2.2 = 2 then (some (!bt140.1 && (bt140.2.1 == 0 && (bt140.2.2.1 == 0 && (bt140.2.2.2.1 == 0 && (!bt140.2.2.2.2.1 && (bt140.2.2.2.2.2.1 == 0 && (bt140.2.2.2.2.2.2.1 == 0 && (bt140.2.2.2.2.2.2.2.1 == 0))))))))) else (none)) else (none)) else (none)) else (none)) else (none)))) else (none)))))
def fuseelaw11_awake.T4 : Bool × List (List Nat × List Nat) := (true, [([], []), ([0], [0]), ([1, 1], [1]), ([1], [1]), ([2, 3, 2, 1], [1, 2, 3]), ([1, 4], [1, 4]), ([5, 4], [5]), ([6], [6]), ([7, 6], [6, 7]), ([6, 8], [6, 8]), ([9, 6], [9]), ([10], [10]), ([11, 10], [10, 11]), ([10, 12], [10, 12]), ([13, 10], [13]), ([14], [14]), ([15, 14], [14, 15]), ([16, 14], [14, 16]), ([14, 17], [14, 17]), ([18, 14], [18]), ([19], [19]), ([20, 19], [19, 20]), ([19, 21], [19, 21]), ([22, 19], [22]), ([23], [23]), ([23], [23]), ([24, 25, 23], [23, 24, 25]), ([23, 26], [23, 26]), ([27, 23, 0, 1, 2, 3, 4, 5, 6, 7, 8, 9, 10, 11, 12, 13, 14, 15, 16, 17, 18, 19, 20, 21, 22, 23, 24, 25, 26, 27], [27])])
def fuseelaw11_awake.B4 : List Nat := [0, 1, 3, 3, 15, 31, 63, 127, 255, 511, 1023, 2047, 4095, 8191, 16383, 32767, 65535, 131071, 262143, 524287, 1048575, 2097151, 4194303, 8388607, 16777215, 16777215, 67108863, 134217727, 268435455]
theorem fuseelaw11_awake.tab4 : rtab .any (opsOf Try.f8 4) = fuseelaw11_awake.T4 := by kernel_rfl
theorem fuseelaw11_awake.bits4 : waitsOk fuseelaw11_awake.T4.2 fuseelaw11_awake.B4 = true := by kernel_rfl
set_option maxHeartbeats 8000000 in
set_option maxRecDepth 100000 in
theorem fuseelaw11_awake.calls  (r : Bool) (w : World) (h : fuseelaw11_awake.f  = some r) :
    Calls Try.prog 8 #[] w fun e w' => e = .returned (.bool r) ∧ Below w.heap.size w w' := by
  have hu25 := Try.underlying25
  have HB := Aside0.mk (Below.refl w.heap.size w)
  have H : ((fuseelaw05_One.f).bind fun bt114 => ((job_New.f bt114.1 bt114.2.1 bt114.2.2.1 bt114.2.2.2.1 bt114.2.2.2.2.1 bt114.2.2.2.2.2 0 5 15 3).bind fun bt120 => ((job_Step.f bt120.1 bt120.2.1 bt120.2.2.1 bt120.2.2.2.1 bt120.2.2.2.2.1 bt120.2.2.2.2.2.1 bt120.2.2.2.2.2.2.1 bt120.2.2.2.2.2.2.2.1).bind fun bt130 => ((job_Step.f bt130.1 bt130.2.1 bt130.2.2.1 bt130.2.2.2.1 bt130.2.2.2.2.1 bt130.2.2.2.2.2.1 bt130.2.2.2.2.2.2.1 bt130.2.2.2.2.2.2.2.1).bind fun bt140 => (if bt120.2.2.2.2.2.2.2.2 = true then ((fuseelaw05_One.f).bind fun bt150 => ((job_May.f bt150.1 bt150.2.1 bt150.2.2.1 bt150.2.2.2.1 bt150.2.2.2.2.1 bt150.2.2.2.2.2 bt120.1 bt120.2.1 bt120.2.2.1 bt120.2.2.2.1 bt120.2.2.2.2.1 bt120.2.2.2.2.2.1 bt120.2.2.2.2.2.2.1 bt120.2.2.2.2.2.2.2.1).bind fun t156 => (if t156 = true then (if bt120.2.2.2.2.1 = true then (if bt130.2.2.2.2.2.2.2.2 = 0 then (if bt130.2.2.2.2.2.2.2.1 = 1 then (if bt140.2.2.2.2.2.2.2.2 = 2 then (some (!bt140.1 && (bt140.2.1 == 0 && (bt140.2.2.1 == 0 && (bt140.2.2.2.1 == 0 && (!bt140.2.2.2.2.1 && (bt140.2.2.2.2.2.1 == 0 && (bt140.2.2.2.2.2.2.1 == 0 && (bt140.2.2.2.2.2.2.2.1 == 0))))))))) else (none)) else (none)) else (none)) else (none)) else (none)))) else (none)))))) = some r := h
  clear h
  replace H := Option.bind_eq_some_iff.mp H
  obtain ⟨⟨t114, t115, t116, t117, t118, t119⟩, A10, H⟩ := H
  try dsimp only at H
  have A1 := Aside0.mk A10
  clear A10
  replace H := Option.bind_eq_some_iff.mp H
  obtain ⟨⟨t120, t121, t122, t123, t124, t125, t126, t127, t128⟩, A20, H⟩ := H
  try dsimp only at H
  have A2 := Aside0.mk A20
  clear A20
  replace H := Option.bind_eq_some_iff.mp H
  obtain ⟨⟨t130, t131, t132, t133, t134, t135, t136, t137, t138⟩, A30, H⟩ := H
  try dsimp only at H
  have A3 := Aside0.mk A30
  clear A30
  replace H := Option.bind_eq_some_iff.mp H
  obtain ⟨⟨t140, t141, t142, t143, t144, t145, t146, t147, t148⟩, A40, H⟩ := H
  try dsimp only at H
  have A4 := Aside0.mk A40
  clear A40
  by_cases c5 : t128 = true
  · subst c5
    rw [if_pos rfl] at H
    replace H := Option.bind_eq_some_iff.mp H
    obtain ⟨⟨t150, t151, t152, t153, t154, t155⟩, A60, H⟩ := H
    obtain ⟨rfl, rfl, rfl, rfl, rfl, rfl⟩ : t114 = t150 ∧ t115 = t151 ∧ t116 = t152 ∧ t117 = t153 ∧ t118 = t154 ∧ t119 = t155 := by have e_ := Option.some.inj (A1.out.symm.trans A60); simpa using e_
    try dsimp only at H
    have A6 := Aside0.mk A60
    clear A60
    replace H := Option.bind_eq_some_iff.mp H
    obtain ⟨t156, A70, H⟩ := H
    try dsimp only at H
    have A7 := Aside0.mk A70
    clear A70
    by_cases c8 : t156 = true
    · subst c8
      rw [if_pos rfl] at H
      by_cases c9 : t124 = true
      · subst c9
        rw [if_pos rfl] at H
        by_cases c10 : t138 = 0
        · rw [if_pos c10] at H
          have c10b0 : (t138 == 0) = true := beq_iff_eq.mpr c10
          have c10b1 : (t138 != 0) = false := bne_eq_false_iff_eq.mpr c10
          clear c10
          by_cases c11 : t137 = 1
          · rw [if_pos c11] at H
            have c11b0 : (t137 == 1) = true := beq_iff_eq.mpr c11
            have c11b1 : (t137 != 1) = false := bne_eq_false_iff_eq.mpr c11
            clear c11
            by_cases c12 : t148 = 2
            · rw [if_pos c12] at H
              have c12b0 : (t148 == 2) = true := beq_iff_eq.mpr c12
              have c12b1 : (t148 != 2) = false := bne_eq_false_iff_eq.mpr c12
              clear c12
              obtain rfl := Option.some.inj H
              go_enter Try.func8, Try.ntmps8
              try go_wp2_with (first | ((with_reducible refine gate_callee (f := 24) rfl ?_); refine goesL_ (some 8) rfl rfl Try.func24 (by kernel_rfl) rfl #[] rfl (by (try simp only [List.map_toArray, List.map_cons, List.map_nil]); first | done | rfl | (simp only [List.length_drop, List.length_take]; rfl)) ?_; (with_reducible refine (fuseelaw05_One.calls  t114 t115 t116 t117 t118 t119 _ A1.out).mono ?_); rintro e w13 ⟨rfl, hb⟩; refine ⟨_, rfl, ?_⟩; have n0_ := bs HB hb; clear HB; have HB := n0_; clear n0_; (try clear hb); (try clear hb2); (try clear hk); (try clear hi)) | ((with_reducible refine gate_callee (f := 15) rfl ?_); refine goesL_ (some 9) rfl rfl Try.func15 (by kernel_rfl) rfl #[.agg #[.int .i64 t114, .int .i64 t115, .int .i64 t116, .int .i64 t117, .int .i64 t118, .int .i64 t119], .int .i64 0, .int .i64 5, .int .i64 15, .int .i64 3] rfl (by (try simp only [List.map_toArray, List.map_cons, List.map_nil]); first | done | rfl | (simp only [List.length_drop, List.length_take]; rfl)) ?_; (with_reducible refine (job_New.calls t114 t115 t116 t117 t118 t119 0 5 15 3 t120 t121 t122 t123 true t125 t126 t127 true _ A2.out).mono ?_); rintro e w14 ⟨rfl, hb⟩; refine ⟨_, rfl, ?_⟩; have n0_ := bs HB hb; clear HB; have HB := n0_; clear n0_; (try clear hb); (try clear hb2); (try clear hk); (try clear hi)) | ((with_reducible refine gate_dst (N := 1) rfl ?_); refine box_event ?hg (N := 1) ?hd (cs := #[.bool false, .int .i64 0, .int .i64 0, .int .i64 0, .bool false, .int .i64 0, .int .i64 0, .int .i64 0]) (t := 25) ?hr ?_; (case hd => rfl); (case hg => rfl); (case hr => first | (go_simp; done) | (go_simp; rfl)); intro gb129 hg w15 hbox hb; have n0_ := bs HB hb; have n1_ := Aside0.mk (hbox); have n2_ := bz HB hg; have n3_ := bz HB hg; clear HB; have HB := n0_; have BK129 := n1_; have GW129 := n2_; have GE129 := n3_; clear n0_ n1_ n2_ n3_; clear hb hbox hg; obtain ⟨hcz16_0, hcz16_1, hcz16_2, hcz16_3, hcz16_4, hcz16_5, hcz16_6, hcz16_7⟩ := cc8 BK129; obtain ⟨hfz16_0, hfz16_1, hfz16_2, hfz16_3, hfz16_4, hfz16_5, hfz16_6, hfz16_7⟩ := cf8 BK129) | ((with_reducible refine gate_callee (f := 13) rfl ?_); refine goesL_ (some 14) rfl rfl Try.func13 (by kernel_rfl) rfl #[.agg #[.bool t120, .int .i64 t121, .int .i64 t122, .int .i64 t123, .bool true, .int .i64 t125, .int .i64 t126, .int .i64 t127]] rfl (by (try simp only [List.map_toArray, List.map_cons, List.map_nil]); first | done | rfl | (simp only [List.length_drop, List.length_take]; rfl)) ?_; (with_reducible refine (job_Step.calls t120 t121 t122 t123 true t125 t126 t127 t130 t131 t132 t133 t134 t135 t136 t137 t138 _ A3.out).mono ?_); rintro e w17 ⟨rfl, hb⟩; refine ⟨_, rfl, ?_⟩; have n0_ := Aside0.mk (blk_below (g := gb129) (o := .cells #[.bool t120, .int .i64 t121, .int .i64 t122, .int .i64 t123, .bool true, .int .i64 t125, .int .i64 t126, .int .i64 t127] 25 (0, 0)) (by (with_reducible repeat (first | refine bN ?_ _ | refine bD ?_ | refine bA ?_ _)); refine blk_put (cs := #[.bool t120, .int .i64 t121, .int .i64 t122, .int .i64 t123, .bool true, .int .i64 t125, .int .i64 t126, .int .i64 0]) ?_ 7 _ rfl; (with_reducible repeat (first | refine bN ?_ _ | refine bD ?_ | refine bA ?_ _)); refine blk_put (cs := #[.bool t120, .int .i64 t121, .int .i64 t122, .int .i64 t123, .bool true, .int .i64 t125, .int .i64 0, .int .i64 0]) ?_ 6 _ rfl; (with_reducible repeat (first | refine bN ?_ _ | refine bD ?_ | refine bA ?_ _)); refine blk_put (cs := #[.bool t120, .int .i64 t121, .int .i64 t122, .int .i64 t123, .bool true, .int .i64 0, .int .i64 0, .int .i64 0]) ?_ 5 _ rfl; (with_reducible repeat (first | refine bN ?_ _ | refine bD ?_ | refine bA ?_ _)); refine blk_put (cs := #[.bool t120, .int .i64 t121, .int .i64 t122, .int .i64 t123, .bool false, .int .i64 0, .int .i64 0, .int .i64 0]) ?_ 4 _ rfl; (with_reducible repeat (first | refine bN ?_ _ | refine bD ?_ | refine bA ?_ _)); refine blk_put (cs := #[.bool t120, .int .i64 t121, .int .i64 t122, .int .i64 0, .bool false, .int .i64 0, .int .i64 0, .int .i64 0]) ?_ 3 _ rfl; (with_reducible repeat (first | refine bN ?_ _ | refine bD ?_ | refine bA ?_ _)); refine blk_put (cs := #[.bool t120, .int .i64 t121, .int .i64 0, .int .i64 0, .bool false, .int .i64 0, .int .i64 0, .int .i64 0]) ?_ 2 _ rfl; (with_reducible repeat (first | refine bN ?_ _ | refine bD ?_ | refine bA ?_ _)); refine blk_put (cs := #[.bool t120, .int .i64 0, .int .i64 0, .int .i64 0, .bool false, .int .i64 0, .int .i64 0, .int .i64 0]) ?_ 1 _ rfl; (with_reducible repeat (first | refine bN ?_ _ | refine bD ?_ | refine bA ?_ _)); refine blk_put (cs := #[.bool false, .int .i64 0, .int .i64 0, .int .i64 0, .bool false, .int .i64 0, .int .i64 0, .int .i64 0]) ?_ 0 _ rfl; (with_reducible repeat (first | refine bN ?_ _ | refine bD ?_ | refine bA ?_ _)); exact BK129.out) hb); have n1_ := bs HB hb; clear BK129; clear HB; have BK129 := n0_; have HB := n1_; clear n0_ n1_; (try clear hb); (try clear hb2); (try clear hk); (try clear hi)) | ((with_reducible refine gate_dst (N := 3) rfl ?_); refine box_event ?hg (N := 3) ?hd (cs := #[.bool false, .int .i64 0, .int .i64 0, .int .i64 0, .bool false, .int .i64 0, .int .i64 0, .int .i64 0]) (t := 25) ?hr ?_; (case hd => rfl); (case hg => rfl); (case hr => first | (go_simp; done) | (go_simp; rfl)); intro gb139 hg w18 hbox hb; have n0_ := bb BK129 hb; have n1_ := bs HB hb; have n2_ := Aside0.mk (hbox); have n3_ := bz HB hg; have n4_ := bz HB hg; have n5_ := bl BK129 hg; have n6_ := bg BK129 hg; clear BK129; clear HB; have BK129 := n0_; have HB := n1_; have BK139 := n2_; have GW139 := n3_; have GE139 := n4_; have NB129_139 := n5_; have NB139_129 := n6_; clear n0_ n1_ n2_ n3_ n4_ n5_ n6_; clear hb hbox hg; have hnb19 := NB139_129.out; have hnc19 := NB129_139.out; (try clear hcz16_0 hcz16_1 hcz16_2 hcz16_3 hcz16_4 hcz16_5 hcz16_6 hcz16_7 hfz16_0 hfz16_1 hfz16_2 hfz16_3 hfz16_4 hfz16_5 hfz16_6 hfz16_7); obtain ⟨hcz20_0, hcz20_1, hcz20_2, hcz20_3, hcz20_4, hcz20_5, hcz20_6, hcz20_7⟩ := cc8 BK139; obtain ⟨hfz20_0, hfz20_1, hfz20_2, hfz20_3, hfz20_4, hfz20_5, hfz20_6, hfz20_7⟩ := cf8 BK139) | ((with_reducible refine gate_callee (f := 13) rfl ?_); refine goesL_ (some 19) rfl rfl Try.func13 (by kernel_rfl) rfl #[.agg #[.bool t130, .int .i64 t131, .int .i64 t132, .int .i64 t133, .bool t134, .int .i64 t135, .int .i64 t136, .int .i64 t137]] rfl (by (try simp only [List.map_toArray, List.map_cons, List.map_nil]); first | done | rfl | (simp only [List.length_drop, List.length_take]; rfl)) ?_; (with_reducible refine (job_Step.calls t130 t131 t132 t133 t134 t135 t136 t137 t140 t141 t142 t143 t144 t145 t146 t147 t148 _ A4.out).mono ?_); rintro e w21 ⟨rfl, hb⟩; refine ⟨_, rfl, ?_⟩; have n0_ := Aside0.mk (blk_below (g := gb129) (o := .cells #[.bool t120, .int .i64 t121, .int .i64 t122, .int .i64 t123, .bool true, .int .i64 t125, .int .i64 t126, .int .i64 t127] 25 (0, 0)) (by (with_reducible repeat (first | refine bN ?_ _ | refine bD ?_ | refine bA ?_ _ | refine blk_far ?_ NB129_139.out _)); exact BK129.out) hb); have n1_ := Aside0.mk (blk_below (g := gb139) (o := .cells #[.bool t130, .int .i64 t131, .int .i64 t132, .int .i64 t133, .bool t134, .int .i64 t135, .int .i64 t136, .int .i64 t137] 25 (0, 0)) (by (with_reducible repeat (first | refine bN ?_ _ | refine bD ?_ | refine bA ?_ _)); refine blk_put (cs := #[.bool t130, .int .i64 t131, .int .i64 t132, .int .i64 t133, .bool t134, .int .i64 t135, .int .i64 t136, .int .i64 0]) ?_ 7 _ rfl; (with_reducible repeat (first | refine bN ?_ _ | refine bD ?_ | refine bA ?_ _)); refine blk_put (cs := #[.bool t130, .int .i64 t131, .int .i64 t132, .int .i64 t133, .bool t134, .int .i64 t135, .int .i64 0, .int .i64 0]) ?_ 6 _ rfl; (with_reducible repeat (first | refine bN ?_ _ | refine bD ?_ | refine bA ?_ _)); refine blk_put (cs := #[.bool t130, .int .i64 t131, .int .i64 t132, .int .i64 t133, .bool t134, .int .i64 0, .int .i64 0, .int .i64 0]) ?_ 5 _ rfl; (with_reducible repeat (first | refine bN ?_ _ | refine bD ?_ | refine bA ?_ _)); refine blk_put (cs := #[.bool t130, .int .i64 t131, .int .i64 t132, .int .i64 t133, .bool false, .int .i64 0, .int .i64 0, .int .i64 0]) ?_ 4 _ rfl; (with_reducible repeat (first | refine bN ?_ _ | refine bD ?_ | refine bA ?_ _)); refine blk_put (cs := #[.bool t130, .int .i64 t131, .int .i64 t132, .int .i64 0, .bool false, .int .i64 0, .int .i64 0, .int .i64 0]) ?_ 3 _ rfl; (with_reducible repeat (first | refine bN ?_ _ | refine bD ?_ | refine bA ?_ _)); refine blk_put (cs := #[.bool t130, .int .i64 t131, .int .i64 0, .int .i64 0, .bool false, .int .i64 0, .int .i64 0, .int .i64 0]) ?_ 2 _ rfl; (with_reducible repeat (first | refine bN ?_ _ | refine bD ?_ | refine bA ?_ _)); refine blk_put (cs := #[.bool t130, .int .i64 0, .int .i64 0, .int .i64 0, .bool false, .int .i64 0, .int .i64 0, .int .i64 0]) ?_ 1 _ rfl; (with_reducible repeat (first | refine bN ?_ _ | refine bD ?_ | refine bA ?_ _)); refine blk_put (cs := #[.bool false, .int .i64 0, .int .i64 0, .int .i64 0, .bool false, .int .i64 0, .int .i64 0, .int .i64 0]) ?_ 0 _ rfl; (with_reducible repeat (first | refine bN ?_ _ | refine bD ?_ | refine bA ?_ _)); exact BK139.out) hb); have n2_ := bs HB hb; clear BK129; clear BK139; clear HB; have BK129 := n0_; have BK139 := n1_; have HB := n2_; clear n0_ n1_ n2_; (try clear hb); (try clear hb2); (try clear hk); (try clear hi)) | ((with_reducible refine gate_dst (N := 5) rfl ?_); refine box_event ?hg (N := 5) ?hd (cs := #[.bool false, .int .i64 0, .int .i64 0, .int .i64 0, .bool false, .int .i64 0, .int .i64 0, .int .i64 0]) (t := 25) ?hr ?_; (case hd => rfl); (case hg => rfl); (case hr => first | (go_simp; done) | (go_simp; rfl)); intro gb149 hg w22 hbox hb; have n0_ := bb BK129 hb; have n1_ := bb BK139 hb; have n2_ := bs HB hb; have n3_ := Aside0.mk (hbox); have n4_ := bz HB hg; have n5_ := bz HB hg; have n6_ := bl BK129 hg; have n7_ := bg BK129 hg; have n8_ := bl BK139 hg; have n9_ := bg BK139 hg; clear BK129; clear BK139; clear HB; have BK129 := n0_; have BK139 := n1_; have HB := n2_; have BK149 := n3_; have GW149 := n4_; have GE149 := n5_; have NB129_149 := n6_; have NB149_129 := n7_; have NB139_149 := n8_; have NB149_139 := n9_; clear n0_ n1_ n2_ n3_ n4_ n5_ n6_ n7_ n8_ n9_; clear hb hbox hg; have hnb23 := NB149_129.out; have hnc23 := NB129_149.out; have hnb24 := NB149_139.out; have hnc24 := NB139_149.out; (try clear hcz16_0 hcz16_1 hcz16_2 hcz16_3 hcz16_4 hcz16_5 hcz16_6 hcz16_7 hfz16_0 hfz16_1 hfz16_2 hfz16_3 hfz16_4 hfz16_5 hfz16_6 hfz16_7); (try clear hcz20_0 hcz20_1 hcz20_2 hcz20_3 hcz20_4 hcz20_5 hcz20_6 hcz20_7 hfz20_0 hfz20_1 hfz20_2 hfz20_3 hfz20_4 hfz20_5 hfz20_6 hfz20_7); obtain ⟨hcz25_0, hcz25_1, hcz25_2, hcz25_3, hcz25_4, hcz25_5, hcz25_6, hcz25_7⟩ := cc8 BK149; obtain ⟨hfz25_0, hfz25_1, hfz25_2, hfz25_3, hfz25_4, hfz25_5, hfz25_6, hfz25_7⟩ := cf8 BK149))
              have n0_ : Aside0 (((((((((w22.setCell ⟨gb149, 0, none⟩ (.bool t140)).setCell ⟨gb149, 1, none⟩ (.int .i64 t141)).setCell ⟨gb149, 2, none⟩ (.int .i64 t142)).setCell ⟨gb149, 3, none⟩ (.int .i64 t143)).setCell ⟨gb149, 4, none⟩ (.bool t144)).setCell ⟨gb149, 5, none⟩ (.int .i64 t145)).setCell ⟨gb149, 6, none⟩ (.int .i64 t146)).setCell ⟨gb149, 7, none⟩ (.int .i64 t147)).heap[gb129]? = some (.cells #[.bool t120, .int .i64 t121, .int .i64 t122, .int .i64 t123, .bool true, .int .i64 t125, .int .i64 t126, .int .i64 t127] 25 (0, 0))) := ⟨by (with_reducible repeat (first | refine bN ?_ _ | refine bD ?_ | refine bA ?_ _ | refine blk_far ?_ NB129_149.out _)); exact BK129.out⟩
              have n1_ : Aside0 (((((((((w22.setCell ⟨gb149, 0, none⟩ (.bool t140)).setCell ⟨gb149, 1, none⟩ (.int .i64 t141)).setCell ⟨gb149, 2, none⟩ (.int .i64 t142)).setCell ⟨gb149, 3, none⟩ (.int .i64 t143)).setCell ⟨gb149, 4, none⟩ (.bool t144)).setCell ⟨gb149, 5, none⟩ (.int .i64 t145)).setCell ⟨gb149, 6, none⟩ (.int .i64 t146)).setCell ⟨gb149, 7, none⟩ (.int .i64 t147)).heap[gb139]? = some (.cells #[.bool t130, .int .i64 t131, .int .i64 t132, .int .i64 t133, .bool t134, .int .i64 t135, .int .i64 t136, .int .i64 t137] 25 (0, 0))) := ⟨by (with_reducible repeat (first | refine bN ?_ _ | refine bD ?_ | refine bA ?_ _ | refine blk_far ?_ NB139_149.out _)); exact BK139.out⟩
              have n2_ : Aside0 (((((((((w22.setCell ⟨gb149, 0, none⟩ (.bool t140)).setCell ⟨gb149, 1, none⟩ (.int .i64 t141)).setCell ⟨gb149, 2, none⟩ (.int .i64 t142)).setCell ⟨gb149, 3, none⟩ (.int .i64 t143)).setCell ⟨gb149, 4, none⟩ (.bool t144)).setCell ⟨gb149, 5, none⟩ (.int .i64 t145)).setCell ⟨gb149, 6, none⟩ (.int .i64 t146)).setCell ⟨gb149, 7, none⟩ (.int .i64 t147)).heap[gb149]? = some (.cells #[.bool t140, .int .i64 t141, .int .i64 t142, .int .i64 t143, .bool t144, .int .i64 t145, .int .i64 t146, .int .i64 t147] 25 (0, 0))) := ⟨by (with_reducible repeat (first | refine bN ?_ _ | refine bD ?_ | refine bA ?_ _)); refine blk_put (cs := #[.bool t140, .int .i64 t141, .int .i64 t142, .int .i64 t143, .bool t144, .int .i64 t145, .int .i64 t146, .int .i64 0]) ?_ 7 _ rfl; (with_reducible repeat (first | refine bN ?_ _ | refine bD ?_ | refine bA ?_ _)); refine blk_put (cs := #[.bool t140, .int .i64 t141, .int .i64 t142, .int .i64 t143, .bool t144, .int .i64 t145, .int .i64 0, .int .i64 0]) ?_ 6 _ rfl; (with_reducible repeat (first | refine bN ?_ _ | refine bD ?_ | refine bA ?_ _)); refine blk_put (cs := #[.bool t140, .int .i64 t141, .int .i64 t142, .int .i64 t143, .bool t144, .int .i64 0, .int .i64 0, .int .i64 0]) ?_ 5 _ rfl; (with_reducible repeat (first | refine bN ?_ _ | refine bD ?_ | refine bA ?_ _)); refine blk_put (cs := #[.bool t140, .int .i64 t141, .int .i64 t142, .int .i64 t143, .bool false, .int .i64 0, .int .i64 0, .int .i64 0]) ?_ 4 _ rfl; (with_reducible repeat (first | refine bN ?_ _ | refine bD ?_ | refine bA ?_ _)); refine blk_put (cs := #[.bool t140, .int .i64 t141, .int .i64 t142, .int .i64 0, .bool false, .int .i64 0, .int .i64 0, .int .i64 0]) ?_ 3 _ rfl; (with_reducible repeat (first | refine bN ?_ _ | refine bD ?_ | refine bA ?_ _)); refine blk_put (cs := #[.bool t140, .int .i64 t141, .int .i64 0, .int .i64 0, .bool false, .int .i64 0, .int .i64 0, .int .i64 0]) ?_ 2 _ rfl; (with_reducible repeat (first | refine bN ?_ _ | refine bD ?_ | refine bA ?_ _)); refine blk_put (cs := #[.bool t140, .int .i64 0, .int .i64 0, .int .i64 0, .bool false, .int .i64 0, .int .i64 0, .int .i64 0]) ?_ 1 _ rfl; (with_reducible repeat (first | refine bN ?_ _ | refine bD ?_ | refine bA ?_ _)); refine blk_put (cs := #[.bool false, .int .i64 0, .int .i64 0, .int .i64 0, .bool false, .int .i64 0, .int .i64 0, .int .i64 0]) ?_ 0 _ rfl; (with_reducible repeat (first | refine bN ?_ _ | refine bD ?_ | refine bA ?_ _)); exact BK149.out⟩
              have n3_ : Aside0 (Below w.heap.size w ((((((((w22.setCell ⟨gb149, 0, none⟩ (.bool t140)).setCell ⟨gb149, 1, none⟩ (.int .i64 t141)).setCell ⟨gb149, 2, none⟩ (.int .i64 t142)).setCell ⟨gb149, 3, none⟩ (.int .i64 t143)).setCell ⟨gb149, 4, none⟩ (.bool t144)).setCell ⟨gb149, 5, none⟩ (.int .i64 t145)).setCell ⟨gb149, 6, none⟩ (.int .i64 t146)).setCell ⟨gb149, 7, none⟩ (.int .i64 t147))) := ⟨by repeat (first | (with_reducible first | exact HB.out | apply below_alloc | apply pw_below_drewN | apply below_drew1 | refine below_set ?_ GE129.out | refine below_set ?_ GE139.out | refine below_set ?_ GE149.out) | exact HB.out)⟩
              (try clear BK129)
              (try clear BK139)
              (try clear BK149)
              (try clear HB)
              generalize ((((((((w22.setCell ⟨gb149, 0, none⟩ (.bool t140)).setCell ⟨gb149, 1, none⟩ (.int .i64 t141)).setCell ⟨gb149, 2, none⟩ (.int .i64 t142)).setCell ⟨gb149, 3, none⟩ (.int .i64 t143)).setCell ⟨gb149, 4, none⟩ (.bool t144)).setCell ⟨gb149, 5, none⟩ (.int .i64 t145)).setCell ⟨gb149, 6, none⟩ (.int .i64 t146)).setCell ⟨gb149, 7, none⟩ (.int .i64 t147)) = w26 at n0_ n1_ n2_ n3_ ⊢
              have BK129 := n0_
              have BK139 := n1_
              have BK149 := n2_
              have HB := n3_
              clear n0_ n1_ n2_ n3_
              have n0_ := Aside0.mk (blk_drew BK129.out)
              have n1_ := Aside0.mk (blk_drew BK139.out)
              have n2_ := Aside0.mk (blk_drew BK149.out)
              have n3_ := Aside0.mk (below_drew1 HB.out)
              clear BK129
              clear BK139
              clear BK149
              clear HB
              have BK129 := n0_
              have BK139 := n1_
              have BK149 := n2_
              have HB := n3_
              clear n0_ n1_ n2_ n3_
              refine start_ (n := 29) (S := fun w' => w'.cell? ⟨gb129, 0, none⟩ = some (.bool t120) ∧ w'.cell? ⟨gb129, 1, none⟩ = some (.int .i64 t121) ∧ w'.cell? ⟨gb129, 2, none⟩ = some (.int .i64 t122) ∧ w'.cell? ⟨gb129, 3, none⟩ = some (.int .i64 t123) ∧ w'.cell? ⟨gb129, 4, none⟩ = some (.bool true) ∧ w'.cell? ⟨gb129, 5, none⟩ = some (.int .i64 t125) ∧ w'.cell? ⟨gb129, 6, none⟩ = some (.int .i64 t126) ∧ w'.cell? ⟨gb129, 7, none⟩ = some (.int .i64 t127) ∧ w'.cell? ⟨gb139, 0, none⟩ = some (.bool t130) ∧ w'.cell? ⟨gb139, 1, none⟩ = some (.int .i64 t131) ∧ w'.cell? ⟨gb139, 2, none⟩ = some (.int .i64 t132) ∧ w'.cell? ⟨gb139, 3, none⟩ = some (.int .i64 t133) ∧ w'.cell? ⟨gb139, 4, none⟩ = some (.bool t134) ∧ w'.cell? ⟨gb139, 5, none⟩ = some (.int .i64 t135) ∧ w'.cell? ⟨gb139, 6, none⟩ = some (.int .i64 t136) ∧ w'.cell? ⟨gb139, 7, none⟩ = some (.int .i64 t137) ∧ w'.cell? ⟨gb149, 0, none⟩ = some (.bool t140) ∧ w'.cell? ⟨gb149, 1, none⟩ = some (.int .i64 t141) ∧ w'.cell? ⟨gb149, 2, none⟩ = some (.int .i64 t142) ∧ w'.cell? ⟨gb149, 3, none⟩ = some (.int .i64 t143) ∧ w'.cell? ⟨gb149, 4, none⟩ = some (.bool t144) ∧ w'.cell? ⟨gb149, 5, none⟩ = some (.int .i64 t145) ∧ w'.cell? ⟨gb149, 6, none⟩ = some (.int .i64 t146) ∧ w'.cell? ⟨gb149, 7, none⟩ = some (.int .i64 t147)) (ds := []) #[false, false, false, false, false, false, false, false, false, false, false, false, false, false, false, false, false, false, false, false, false, false, false, false, false, false, false, false, false] (by kernel_rfl) rfl rfl ⟨(blk_cell BK129.out 0).trans rfl, (blk_cell BK129.out 1).trans rfl, (blk_cell BK129.out 2).trans rfl, (blk_cell BK129.out 3).trans rfl, (blk_cell BK129.out 4).trans rfl, (blk_cell BK129.out 5).trans rfl, (blk_cell BK129.out 6).trans rfl, (blk_cell BK129.out 7).trans rfl, (blk_cell BK139.out 0).trans rfl, (blk_cell BK139.out 1).trans rfl, (blk_cell BK139.out 2).trans rfl, (blk_cell BK139.out 3).trans rfl, (blk_cell BK139.out 4).trans rfl, (blk_cell BK139.out 5).trans rfl, (blk_cell BK139.out 6).trans rfl, (blk_cell BK139.out 7).trans rfl, (blk_cell BK149.out 0).trans rfl, (blk_cell BK149.out 1).trans rfl, (blk_cell BK149.out 2).trans rfl, (blk_cell BK149.out 3).trans rfl, (blk_cell BK149.out 4).trans rfl, (blk_cell BK149.out 5).trans rfl, (blk_cell BK149.out 6).trans rfl, (blk_cell BK149.out 7).trans rfl⟩ (fun hHeld => ?_); refine with_tabW fuseelaw11_awake.tab4 fuseelaw11_awake.bits4 (fun HT_ HW_ => ?_)
              generalize w26.drew = w27 at BK129 BK139 BK149 HB hHeld ⊢
              refine pure_ (i := 0) (N := some 22) (v := ?_) (a' := ?_) #[true, false, false, false, false, false, false, false, false, false, false, false, false, false, false, false, false, false, false, false, false, false, false, false, false, false, false, false, false] rfl rfl (any_of HT_.out (by kernel_rfl)) (fun _ _ _ h => h) (Or.inl ⟨by rfl, ?_⟩) ?_ ?_
              rotate_left; focus (intro w'; go_simp; with_reducible rfl)
              rotate_left; focus (simp only [Act.put, List.setIfInBounds_toArray, List.set_cons_zero, List.set_cons_succ, i64_w, i32_w]; rfl)
              refine pure_ (i := 1) (N := some 23) (v := ?_) (a' := ?_) #[true, true, false, false, false, false, false, false, false, false, false, false, false, false, false, false, false, false, false, false, false, false, false, false, false, false, false, false, false] rfl rfl (any_of HT_.out (by kernel_rfl)) (fun _ _ _ h => h) (Or.inl ⟨by rfl, ?_⟩) ?_ ?_
              rotate_left; focus (intro w'; go_simp; with_reducible rfl)
              rotate_left; focus (simp only [Act.put, List.setIfInBounds_toArray, List.set_cons_zero, List.set_cons_succ, i64_w, i32_w]; rfl)
              refine take_ (i := 3) (N := some 25) (v := ?_) (a' := ?_) #[true, true, false, true, false, false, false, false, false, false, false, false, false, false, false, false, false, false, false, false, false, false, false, false, false, false, false, false, false] rfl rfl (take_ofW HT_.out HW_.out (by kernel_rfl)) (fun _ _ _ h => h) (Or.inl ⟨by rfl, ?_⟩) hHeld ?_ ?_
              rotate_left
              · rintro w' ⟨s0, s1, s2, s3, s4, s5, s6, s7, s8, s9, s10, s11, s12, s13, s14, s15, s16, s17, s18, s19, s20, s21, s22, s23⟩
                go_simp
                with_reducible rfl
              rotate_left; focus (simp only [Act.put, List.setIfInBounds_toArray, List.set_cons_zero, List.set_cons_succ, i64_w, i32_w]; rfl)
              refine one_ (i := 2) (N := some 24) #[true, true, true, true, false, false, false, false, false, false, false, false, false, false, false, false, false, false, false, false, false, false, false, false, false, false, false, false, false] rfl rfl (one_of HT_.out (by kernel_rfl)) (by decide) (fun K hK => ?_)
              refine goes_ Try.func24 (by kernel_rfl) rfl #[] (by rfl) rfl rfl (by (try simp only [List.map_toArray, List.map_cons, List.map_nil]); first | done | rfl | (simp only [List.length_drop, List.length_take]; rfl)) ?_
              with_reducible refine (fuseelaw05_One.calls  t114 t115 t116 t117 t118 t119 _ A6.out).mono ?_
              rintro e w28 ⟨rfl, hb⟩
              refine ⟨_, rfl, ?_⟩
              have n0_ := bb BK129 hb
              have n1_ := bb BK139 hb
              have n2_ := bb BK149 hb
              have n3_ := bs HB hb
              clear BK129
              clear BK139
              clear BK149
              clear HB
              have BK129 := n0_
              have BK139 := n1_
              have BK149 := n2_
              have HB := n3_
              clear n0_ n1_ n2_ n3_
              (try clear hb)
              (try clear hb2)
              (try clear hk)
              (try clear hi)
              refine hK.out _ _ ⟨(blk_cell BK129.out 0).trans rfl, (blk_cell BK129.out 1).trans rfl, (blk_cell BK129.out 2).trans rfl, (blk_cell BK129.out 3).trans rfl, (blk_cell BK129.out 4).trans rfl, (blk_cell BK129.out 5).trans rfl, (blk_cell BK129.out 6).trans rfl, (blk_cell BK129.out 7).trans rfl, (blk_cell BK139.out 0).trans rfl, (blk_cell BK139.out 1).trans rfl, (blk_cell BK139.out 2).trans rfl, (blk_cell BK139.out 3).trans rfl, (blk_cell BK139.out 4).trans rfl, (blk_cell BK139.out 5).trans rfl, (blk_cell BK139.out 6).trans rfl, (blk_cell BK139.out 7).trans rfl, (blk_cell BK149.out 0).trans rfl, (blk_cell BK149.out 1).trans rfl, (blk_cell BK149.out 2).trans rfl, (blk_cell BK149.out 3).trans rfl, (blk_cell BK149.out 4).trans rfl, (blk_cell BK149.out 5).trans rfl, (blk_cell BK149.out 6).trans rfl, (blk_cell BK149.out 7).trans rfl⟩ (fun hHeld => ?_)
              clear hK K
              refine norm_ (a' := ?_) ?_ ?_
              rotate_left
              · show Act.put _ (some 24) _ = _
                simp only [Act.put, List.setIfInBounds_toArray, List.set_cons_zero, List.set_cons_succ, i64_w, i32_w]
                rfl
              refine one_ (i := 4) (N := some 26) #[true, true, true, true, true, false, false, false, false, false, false, false, false, false, false, false, false, false, false, false, false, false, false, false, false, false, false, false, false] rfl rfl (one_of HT_.out (by kernel_rfl)) (by decide) (fun K hK => ?_)
              refine goes_ Try.func9 (by kernel_rfl) rfl #[.agg #[.int .i64 t114, .int .i64 t115, .int .i64 t116, .int .i64 t117, .int .i64 t118, .int .i64 t119], .agg #[.bool t120, .int .i64 t121, .int .i64 t122, .int .i64 t123, .bool true, .int .i64 t125, .int .i64 t126, .int .i64 t127]] (by rfl) rfl rfl (by (try simp only [List.map_toArray, List.map_cons, List.map_nil]); first | done | rfl | (simp only [List.length_drop, List.length_take]; rfl)) ?_
              with_reducible refine (job_May.calls t114 t115 t116 t117 t118 t119 t120 t121 t122 t123 true t125 t126 t127 true _ A7.out).mono ?_
              rintro e w29 ⟨rfl, hb⟩
              refine ⟨_, rfl, ?_⟩
              have n0_ := bb BK129 hb
              have n1_ := bb BK139 hb
              have n2_ := bb BK149 hb
              have n3_ := bs HB hb
              clear BK129
              clear BK139
              clear BK149
              clear HB
              have BK129 := n0_
              have BK139 := n1_
              have BK149 := n2_
              have HB := n3_
              clear n0_ n1_ n2_ n3_
              (try clear hb)
              (try clear hb2)
              (try clear hk)
              (try clear hi)
              refine hK.out _ _ ⟨(blk_cell BK129.out 0).trans rfl, (blk_cell BK129.out 1).trans rfl, (blk_cell BK129.out 2).trans rfl, (blk_cell BK129.out 3).trans rfl, (blk_cell BK129.out 4).trans rfl, (blk_cell BK129.out 5).trans rfl, (blk_cell BK129.out 6).trans rfl, (blk_cell BK129.out 7).trans rfl, (blk_cell BK139.out 0).trans rfl, (blk_cell BK139.out 1).trans rfl, (blk_cell BK139.out 2).trans rfl, (blk_cell BK139.out 3).trans rfl, (blk_cell BK139.out 4).trans rfl, (blk_cell BK139.out 5).trans rfl, (blk_cell BK139.out 6).trans rfl, (blk_cell BK139.out 7).trans rfl, (blk_cell BK149.out 0).trans rfl, (blk_cell BK149.out 1).trans rfl, (blk_cell BK149.out 2).trans rfl, (blk_cell BK149.out 3).trans rfl, (blk_cell BK149.out 4).trans rfl, (blk_cell BK149.out 5).trans rfl, (blk_cell BK149.out 6).trans rfl, (blk_cell BK149.out 7).trans rfl⟩ (fun hHeld => ?_)
              clear hK K
              refine norm_ (a' := ?_) ?_ ?_
              rotate_left
              · show Act.put _ (some 26) _ = _
                simp only [Act.put, List.setIfInBounds_toArray, List.set_cons_zero, List.set_cons_succ, i64_w, i32_w]
                rfl
              refine pure_ (i := 5) (N := some 27) (v := ?_) (a' := ?_) #[true, true, true, true, true, true, false, false, false, false, false, false, false, false, false, false, false, false, false, false, false, false, false, false, false, false, false, false, false] rfl rfl (any_of HT_.out (by kernel_rfl)) (fun _ _ _ h => h) (Or.inl ⟨by rfl, ?_⟩) ?_ ?_
              rotate_left; focus (intro w'; go_simp; with_reducible rfl)
              rotate_left; focus (simp only [Act.put, List.setIfInBounds_toArray, List.set_cons_zero, List.set_cons_succ, i64_w, i32_w]; rfl)
              refine pure_ (i := 6) (N := some 28) (v := ?_) (a' := ?_) #[true, true, true, true, true, true, true, false, false, false, false, false, false, false, false, false, false, false, false, false, false, false, false, false, false, false, false, false, false] rfl rfl (any_of HT_.out (by kernel_rfl)) (fun _ _ _ h => h) (Or.inl ⟨by rfl, ?_⟩) ?_ ?_
              rotate_left; focus (intro w'; go_simp; with_reducible rfl)
              rotate_left; focus (simp only [Act.put, List.setIfInBounds_toArray, List.set_cons_zero, List.set_cons_succ, i64_w, i32_w]; rfl)
              refine pure_ (i := 7) (N := some 29) (v := ?_) (a' := ?_) #[true, true, true, true, true, true, true, true, false, false, false, false, false, false, false, false, false, false, false, false, false, false, false, false, false, false, false, false, false] rfl rfl (any_of HT_.out (by kernel_rfl)) (fun _ _ _ h => h) (Or.inl ⟨by rfl, ?_⟩) ?_ ?_
              rotate_left; focus (intro w'; go_simp; with_reducible rfl)
              rotate_left; focus (simp only [Act.put, List.setIfInBounds_toArray, List.set_cons_zero, List.set_cons_succ, i64_w, i32_w]; rfl)
              refine take_ (i := 8) (N := some 30) (v := ?_) (a' := ?_) #[true, true, true, true, true, true, true, true, true, false, false, false, false, false, false, false, false, false, false, false, false, false, false, false, false, false, false, false, false] rfl rfl (take_ofW HT_.out HW_.out (by kernel_rfl)) (fun _ _ _ h => h) (Or.inl ⟨by rfl, ?_⟩) hHeld ?_ ?_
              rotate_left
              · rintro w' ⟨s0, s1, s2, s3, s4, s5, s6, s7, s8, s9, s10, s11, s12, s13, s14, s15, s16, s17, s18, s19, s20, s21, s22, s23⟩
                go_simp
                with_reducible rfl
              rotate_left; focus (simp only [Act.put, List.setIfInBounds_toArray, List.set_cons_zero, List.set_cons_succ, i64_w, i32_w]; rfl)
              refine pure_ (i := 9) (N := some 31) (v := ?_) (a' := ?_) #[true, true, true, true, true, true, true, true, true, true, false, false, false, false, false, false, false, false, false, false, false, false, false, false, false, false, false, false, false] rfl rfl (any_of HT_.out (by kernel_rfl)) (fun _ _ _ h => h) (Or.inl ⟨by rfl, ?_⟩) ?_ ?_
              rotate_left; focus (intro w'; go_simp; with_reducible rfl)
              rotate_left; focus (simp only [Act.put, List.setIfInBounds_toArray, List.set_cons_zero, List.set_cons_succ, i64_w, i32_w]; rfl)
              refine pure_ (i := 10) (N := some 32) (v := ?_) (a' := ?_) #[true, true, true, true, true, true, true, true, true, true, true, false, false, false, false, false, false, false, false, false, false, false, false, false, false, false, false, false, false] rfl rfl (any_of HT_.out (by kernel_rfl)) (fun _ _ _ h => h) (Or.inl ⟨by rfl, ?_⟩) ?_ ?_
              rotate_left; focus (intro w'; go_simp; with_reducible rfl)
              rotate_left; focus (simp only [Act.put, List.setIfInBounds_toArray, List.set_cons_zero, List.set_cons_succ, i64_w, i32_w]; rfl)
              refine pure_ (i := 11) (N := some 33) (v := ?_) (a' := ?_) #[true, true, true, true, true, true, true, true, true, true, true, true, false, false, false, false, false, false, false, false, false, false, false, false, false, false, false, false, false] rfl rfl (any_of HT_.out (by kernel_rfl)) (fun _ _ _ h => h) (Or.inl ⟨by rfl, ?_⟩) ?_ ?_
              rotate_left; focus (intro w'; go_simp; with_reducible rfl)
              rotate_left; focus (simp only [Act.put, List.setIfInBounds_toArray, List.set_cons_zero, List.set_cons_succ, i64_w, i32_w]; rfl)
              refine pure_ (i := 12) (N := some 34) (v := ?_) (a' := ?_) #[true, true, true, true, true, true, true, true, true, true, true, true, true, false, false, false, false, false, false, false, false, false, false, false, false, false, false, false, false] rfl rfl (any_of HT_.out (by kernel_rfl)) (fun _ _ _ h => h) (Or.inl ⟨by rfl, ?_⟩) ?_ ?_
              rotate_left; focus (intro w'; go_simp; with_reducible rfl)
              rotate_left; focus (simp only [Act.put, List.setIfInBounds_toArray, List.set_cons_zero, List.set_cons_succ, i64_w, i32_w]; rfl)
              refine pure_ (i := 13) (N := some 35) (v := ?_) (a' := ?_) #[true, true, true, true, true, true, true, true, true, true, true, true, true, true, false, false, false, false, false, false, false, false, false, false, false, false, false, false, false] rfl rfl (any_of HT_.out (by kernel_rfl)) (fun _ _ _ h => h) (Or.inl ⟨by rfl, ?_⟩) ?_ ?_
              rotate_left; focus (intro w'; go_simp; with_reducible rfl)
              rotate_left; focus (simp only [Act.put, List.setIfInBounds_toArray, List.set_cons_zero, List.set_cons_succ, i64_w, i32_w]; rfl)
              refine pure_ (i := 14) (N := some 36) (v := ?_) (a' := ?_) #[true, true, true, true, true, true, true, true, true, true, true, true, true, true, true, false, false, false, false, false, false, false, false, false, false, false, false, false, false] rfl rfl (any_of HT_.out (by kernel_rfl)) (fun _ _ _ h => h) (Or.inl ⟨by rfl, ?_⟩) ?_ ?_
              rotate_left; focus (intro w'; go_simp; with_reducible rfl)
              rotate_left; focus (simp only [Act.put, List.setIfInBounds_toArray, List.set_cons_zero, List.set_cons_succ, i64_w, i32_w]; rfl)
              refine pure_ (i := 15) (N := some 37) (v := ?_) (a' := ?_) #[true, true, true, true, true, true, true, true, true, true, true, true, true, true, true, true, false, false, false, false, false, false, false, false, false, false, false, false, false] rfl rfl (any_of HT_.out (by kernel_rfl)) (fun _ _ _ h => h) (Or.inl ⟨by rfl, ?_⟩) ?_ ?_
              rotate_left; focus (intro w'; go_simp; with_reducible rfl)
              rotate_left; focus (simp only [Act.put, List.setIfInBounds_toArray, List.set_cons_zero, List.set_cons_succ, i64_w, i32_w]; rfl)
              refine take_ (i := 16) (N := some 38) (v := ?_) (a' := ?_) #[true, true, true, true, true, true, true, true, true, true, true, true, true, true, true, true, true, false, false, false, false, false, false, false, false, false, false, false, false] rfl rfl (take_ofW HT_.out HW_.out (by kernel_rfl)) (fun _ _ _ h => h) (Or.inl ⟨by rfl, ?_⟩) hHeld ?_ ?_
              rotate_left
              · rintro w' ⟨s0, s1, s2, s3, s4, s5, s6, s7, s8, s9, s10, s11, s12, s13, s14, s15, s16, s17, s18, s19, s20, s21, s22, s23⟩
                go_simp
                with_reducible rfl
              rotate_left; focus (simp only [Act.put, List.setIfInBounds_toArray, List.set_cons_zero, List.set_cons_succ, i64_w, i32_w]; rfl)
              refine pure_ (i := 17) (N := some 39) (v := ?_) (a' := ?_) #[true, true, true, true, true, true, true, true, true, true, true, true, true, true, true, true, true, true, false, false, false, false, false, false, false, false, false, false, false] rfl rfl (any_of HT_.out (by kernel_rfl)) (fun _ _ _ h => h) (Or.inl ⟨by rfl, ?_⟩) ?_ ?_
              rotate_left; focus (intro w'; go_simp; with_reducible rfl)
              rotate_left; focus (simp only [Act.put, List.setIfInBounds_toArray, List.set_cons_zero, List.set_cons_succ, i64_w, i32_w]; rfl)
              refine pure_ (i := 18) (N := some 40) (v := ?_) (a' := ?_) #[true, true, true, true, true, true, true, true, true, true, true, true, true, true, true, true, true, true, true, false, false, false, false, false, false, false, false, false, false] rfl rfl (any_of HT_.out (by kernel_rfl)) (fun _ _ _ h => h) (Or.inl ⟨by rfl, ?_⟩) ?_ ?_
              rotate_left; focus (intro w'; go_simp; with_reducible rfl)
              rotate_left; focus (simp only [Act.put, List.setIfInBounds_toArray, List.set_cons_zero, List.set_cons_succ, i64_w, i32_w]; rfl)
              refine pure_ (i := 19) (N := some 41) (v := ?_) (a' := ?_) #[true, true, true, true, true, true, true, true, true, true, true, true, true, true, true, true, true, true, true, true, false, false, false, false, false, false, false, false, false] rfl rfl (any_of HT_.out (by kernel_rfl)) (fun _ _ _ h => h) (Or.inl ⟨by rfl, ?_⟩) ?_ ?_
              rotate_left; focus (intro w'; go_simp; with_reducible rfl)
              rotate_left; focus (simp only [Act.put, List.setIfInBounds_toArray, List.set_cons_zero, List.set_cons_succ, i64_w, i32_w]; rfl)
              refine pure_ (i := 20) (N := some 42) (v := ?_) (a' := ?_) #[true, true, true, true, true, true, true, true, true, true, true, true, true, true, true, true, true, true, true, true, true, false, false, false, false, false, false, false, false] rfl rfl (any_of HT_.out (by kernel_rfl)) (fun _ _ _ h => h) (Or.inl ⟨by rfl, ?_⟩) ?_ ?_
              rotate_left; focus (intro w'; go_simp; with_reducible rfl)
              rotate_left; focus (simp only [Act.put, List.setIfInBounds_toArray, List.set_cons_zero, List.set_cons_succ, i64_w, i32_w]; rfl)
              refine pure_ (i := 21) (N := some 43) (v := ?_) (a' := ?_) #[true, true, true, true, true, true, true, true, true, true, true, true, true, true, true, true, true, true, true, true, true, true, false, false, false, false, false, false, false] rfl rfl (any_of HT_.out (by kernel_rfl)) (fun _ _ _ h => h) (Or.inl ⟨by rfl, ?_⟩) ?_ ?_
              rotate_left; focus (intro w'; go_simp; with_reducible rfl)
              rotate_left; focus (simp only [Act.put, List.setIfInBounds_toArray, List.set_cons_zero, List.set_cons_succ, i64_w, i32_w]; rfl)
              refine pure_ (i := 22) (N := some 44) (v := ?_) (a' := ?_) #[true, true, true, true, true, true, true, true, true, true, true, true, true, true, true, true, true, true, true, true, true, true, true, false, false, false, false, false, false] rfl rfl (any_of HT_.out (by kernel_rfl)) (fun _ _ _ h => h) (Or.inl ⟨by rfl, ?_⟩) ?_ ?_
              rotate_left; focus (intro w'; go_simp; with_reducible rfl)
              rotate_left; focus (simp only [Act.put, List.setIfInBounds_toArray, List.set_cons_zero, List.set_cons_succ, i64_w, i32_w]; rfl)
              refine pure_ (i := 23) (N := some 45) (v := ?_) (a' := ?_) #[true, true, true, true, true, true, true, true, true, true, true, true, true, true, true, true, true, true, true, true, true, true, true, true, false, false, false, false, false] rfl rfl (any_of HT_.out (by kernel_rfl)) (fun _ _ _ h => h) (Or.inl ⟨by rfl, ?_⟩) ?_ ?_
              rotate_left; focus (intro w'; go_simp; with_reducible rfl)
              rotate_left; focus (simp only [Act.put, List.setIfInBounds_toArray, List.set_cons_zero, List.set_cons_succ, i64_w, i32_w]; rfl)
              refine pure_ (i := 25) (N := some 47) (v := ?_) (a' := ?_) #[true, true, true, true, true, true, true, true, true, true, true, true, true, true, true, true, true, true, true, true, true, true, true, true, false, true, false, false, false] rfl rfl (any_of HT_.out (by kernel_rfl)) (fun _ _ _ h => h) (Or.inl ⟨by rfl, ?_⟩) ?_ ?_
              rotate_left; focus (intro w'; go_simp; with_reducible rfl)
              rotate_left; focus (simp only [Act.put, List.setIfInBounds_toArray, List.set_cons_zero, List.set_cons_succ, i64_w, i32_w]; rfl)
              refine take_ (i := 24) (N := some 46) (v := ?_) (a' := ?_) #[true, true, true, true, true, true, true, true, true, true, true, true, true, true, true, true, true, true, true, true, true, true, true, true, true, true, false, false, false] rfl rfl (take_ofW HT_.out HW_.out (by kernel_rfl)) (fun _ _ _ h => h) (Or.inl ⟨by rfl, ?_⟩) hHeld ?_ ?_
              rotate_left
              · rintro w' ⟨s0, s1, s2, s3, s4, s5, s6, s7, s8, s9, s10, s11, s12, s13, s14, s15, s16, s17, s18, s19, s20, s21, s22, s23⟩
                go_simp
                with_reducible rfl
              rotate_left; focus (simp only [Act.put, List.setIfInBounds_toArray, List.set_cons_zero, List.set_cons_succ, i64_w, i32_w]; rfl)
              refine pure_ (i := 26) (N := some 48) (v := ?_) (a' := ?_) #[true, true, true, true, true, true, true, true, true, true, true, true, true, true, true, true, true, true, true, true, true, true, true, true, true, true, true, false, false] rfl rfl (any_of HT_.out (by kernel_rfl)) (fun _ _ _ h => h) (Or.inl ⟨by rfl, ?_⟩) ?_ ?_
              rotate_left; focus (intro w'; go_simp; with_reducible rfl)
              rotate_left; focus (simp only [Act.put, List.setIfInBounds_toArray, List.set_cons_zero, List.set_cons_succ, i64_w, i32_w]; rfl)
              refine pure_ (i := 27) (N := some 49) (v := ?_) (a' := ?_) #[true, true, true, true, true, true, true, true, true, true, true, true, true, true, true, true, true, true, true, true, true, true, true, true, true, true, true, true, false] rfl rfl (any_of HT_.out (by kernel_rfl)) (fun _ _ _ h => h) (Or.inl ⟨by rfl, ?_⟩) ?_ ?_
              rotate_left; focus (intro w'; go_simp; with_reducible rfl)
              rotate_left; focus (simp only [Act.put, List.setIfInBounds_toArray, List.set_cons_zero, List.set_cons_succ, i64_w, i32_w]; rfl)
              refine pure_ (i := 28) (N := some 0) (v := ?_) (a' := ?_) #[true, true, true, true, true, true, true, true, true, true, true, true, true, true, true, true, true, true, true, true, true, true, true, true, true, true, true, true, true] rfl rfl (any_of HT_.out (by kernel_rfl)) (fun _ _ _ h => h) (Or.inl ⟨by rfl, ?_⟩) ?_ ?_
              rotate_left; focus (intro w'; go_simp; with_reducible rfl)
              rotate_left; focus (simp only [Act.put, List.setIfInBounds_toArray, List.set_cons_zero, List.set_cons_succ, i64_w, i32_w]; rfl)
              refine done_ (done_of HT_.out (by kernel_rfl)) ?_
              try go_wp2
              go_ret
              exact ⟨by first | rfl | (simp [errW_none, errW_some] <;> rfl) | (simp [*, errW_none, errW_some] <;> rfl) | (exfalso; contradiction), by repeat (first | (with_reducible first | exact HB.out | apply below_alloc | apply pw_below_drewN | apply below_drew1 | refine below_set ?_ GE129.out | refine below_set ?_ GE139.out | refine below_set ?_ GE149.out) | exact HB.out)⟩
            · rw [if_neg c12] at H
              have c12b0 : (t148 == 2) = false := beq_eq_false_iff_ne.mpr c12
              have c12b1 : (t148 != 2) = true := bne_iff_ne.mpr c12
              exact absurd H (by simp)
          · rw [if_neg c11] at H
            have c11b0 : (t137 == 1) = false := beq_eq_false_iff_ne.mpr c11
            have c11b1 : (t137 != 1) = true := bne_iff_ne.mpr c11
            exact absurd H (by simp)
        · rw [if_neg c10] at H
          have c10b0 : (t138 == 0) = false := beq_eq_false_iff_ne.mpr c10
          have c10b1 : (t138 != 0) = true := bne_iff_ne.mpr c10
          exact absurd H (by simp)
      · replace c9 := Bool.eq_false_iff.mpr c9
        subst c9
        rw [if_neg (show ¬ (false = true) by decide)] at H
        exact absurd H (by simp)
    · replace c8 := Bool.eq_false_iff.mpr c8
      subst c8
      rw [if_neg (show ¬ (false = true) by decide)] at H
      exact absurd H (by simp)
  · replace c5 := Bool.eq_false_iff.mpr c5
    subst c5
    rw [if_neg (show ¬ (false = true) by decide)] at H
    exact absurd H (by simp)

end Go.Proofs.Ytojjffafofjfiaa.P
