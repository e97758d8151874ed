-- Written by a program of this session (hprint.py), out of the translation; functions that the print does not take are given by hand.
import Derived.Test.YtojjffafofjfiaaPx0
import Derived.Test.YtojjffafofjfiaaPx5
import Derived.Test.YtojjffafofjfiaaPx6
import Derived.Test.YtojjffafofjfiaaPx8
import Derived.Test.YtojjffafofjfiaaPx10
namespace Go.Proofs.Ytojjffafofjfiaa.P
open Go.RowKit Go.Proofs.YtojjffafofjfiaaM Go.Proofs.YtojjffafofjfiaaW.PrintWords Go.Proofs.YtojjffafofjfiaaW.PrintLast Go.Proofs.YtojjffafofjfiaaW.PrintMore
attribute [local go_sem] max2_int min2_int max_two min_two max_three min_three max_four min_four   -- for this text's walks alone
set_option linter.unusedVariables false
set_option linter.unusedSimpArgs false

/-! ### fuseelaw11_JobLong: function 5 -/
def fuseelaw11_JobLong.f (a0_0 : Int) (a0_1 : Int) (a0_2 : Int) (a0_3 : Int) (a0_4 : Int) (a0_5 : Int) (a1_0 : Bool) (a1_1 : Int) (a1_2 : Int) (a1_3 : Int) (a1_4 : Bool) (a1_5 : Int) (a1_6 : Int) (a1_7 : Int) (a2 : Int) : Option (Bool) := (fuseelaw11_awake.f).bind fun t190 => (if t190 = true then ((job_May.f a0_0 a0_1 a0_2 a0_3 a0_4 a0_5 a1_0 a1_1 a1_2 a1_3 a1_4 a1_5 a1_6 a1_7).bind fun t191 => (if t191 = true then (if a2 < 0 then (some t190) else (if a2 > 1000 then (some t190) else ((job_Left.f a1_0 a1_1 a1_2 a1_3 a1_4 a1_5 (wrap64 (a1_6 + a2)) a1_7).bind fun t193 => ((job_Left.f a1_0 a1_1 a1_2 a1_3 a1_4 a1_5 a1_6 a1_7).bind fun t194 => (if t193 < t194 then (none) else ((job_Left.f a1_0 a1_1 a1_2 a1_3 a1_4 a1_5 a1_6 a1_7).bind fun t195 => ((job_Worst.f a1_0 a1_1 a1_2 a1_3 a1_4 a1_5 a1_6 a1_7).bind fun t196 => (if t195 > t196 then (none) else (if a1_0 = true then ((job_Step.f a1_0 a1_1 a1_2 a1_3 a1_4 a1_5 a1_6 a1_7).bind fun bt197 => (if bt197.2.2.2.2.2.2.2.2 = 0 then ((job_Worst.f bt197.1 bt197.2.1 bt197.2.2.1 bt197.2.2.2.1 bt197.2.2.2.2.1 bt197.2.2.2.2.2.1 bt197.2.2.2.2.2.2.1 bt197.2.2.2.2.2.2.2.1).bind fun t207 => ((job_Worst.f a1_0 a1_1 a1_2 a1_3 a1_4 a1_5 a1_6 a1_7).bind fun t208 => (if t207 = (wrap64 (t208 - 1)) then ((job_Left.f bt197.1 bt197.2.1 bt197.2.2.1 bt197.2.2.2.1 bt197.2.2.2.2.1 bt197.2.2.2.2.2.1 bt197.2.2.2.2.2.2.1 bt197.2.2.2.2.2.2.2.1).bind fun t209 => ((job_Left.f a1_0 a1_1 a1_2 a1_3 a1_4 a1_5 a1_6 a1_7).bind fun t210 => (some (t209 == (wrap64 (t210 - 1)))))) else (none)))) else (some true))) else ((job_Left.f a1_0 a1_1 a1_2 a1_3 a1_4 a1_5 a1_6 a1_7).bind fun t211 => (if t211 = 0 then ((job_Worst.f a1_0 a1_1 a1_2 a1_3 a1_4 a1_5 a1_6 a1_7).bind fun t212 => (if t212 = 0 then ((job_Step.f a1_0 a1_1 a1_2 a1_3 a1_4 a1_5 a1_6 a1_7).bind fun bt213 => (if bt213.2.2.2.2.2.2.2.2 = 0 then ((job_Worst.f bt213.1 bt213.2.1 bt213.2.2.1 bt213.2.2.2.1 bt213.2.2.2.2.1 bt213.2.2.2.2.2.1 bt213.2.2.2.2.2.2.1 bt213.2.2.2.2.2.2.2.1).bind fun t223 => ((job_Worst.f a1_0 a1_1 a1_2 a1_3 a1_4 a1_5 a1_6 a1_7).bind fun t224 => (if t223 = (wrap64 (t224 - 1)) then ((job_Left.f bt213.1 bt213.2.1 bt213.2.2.1 bt213.2.2.2.1 bt213.2.2.2.2.1 bt213.2.2.2.2.2.1 bt213.2.2.2.2.2.2.1 bt213.2.2.2.2.2.2.2.1).bind fun t225 => ((job_Left.f a1_0 a1_1 a1_2 a1_3 a1_4 a1_5 a1_6 a1_7).bind fun t226 => (some (t225 == (wrap64 (t226 - 1)))))) else (none)))) else (some true))) else (none))) else (none)))))))))))) else (some t190))) else (some t190))
def fuseelaw11_JobLong.T6 : Bool × List (List Nat × List Nat) := (true, [([], []), ([0], [0]), ([], []), ([2, 1], [2]), ([1, 3], [1, 3]), ([4, 3], [4]), ([5], [5]), ([6, 5, 5], [5, 6]), ([5], [5]), ([8, 7, 5], [5, 8]), ([7, 9, 5], [5, 7, 9]), ([5, 10], [5, 10]), ([11, 9], [11]), ([12], [12]), ([13, 12], [12, 13]), ([14, 12], [12, 14]), ([15, 12, 12], [12, 15]), ([16], [16]), ([17, 16, 16], [16, 17]), ([18, 16], [16, 18]), ([19, 18, 16], [16, 19]), ([20], [20]), ([21, 20, 20], [20, 21]), ([22, 20], [20, 22]), ([20, 23, 16], [16, 20, 23]), ([16, 24, 12], [12, 16, 24]), ([12, 25], [12, 25])])
def fuseelaw11_JobLong.B6 : List Nat := [0, 1, 0, 7, 15, 31, 63, 127, 63, 511, 1023, 2047, 4095, 8191, 16383, 32767, 65535, 131071, 262143, 524287, 1048575, 2097151, 4194303, 8388607, 16777215, 33554431, 67108863]
theorem fuseelaw11_JobLong.tab6 : rtab .any (opsOf Try.f5 6) = fuseelaw11_JobLong.T6 := by kernel_rfl
theorem fuseelaw11_JobLong.bits6 : waitsOk fuseelaw11_JobLong.T6.2 fuseelaw11_JobLong.B6 = true := by kernel_rfl
def fuseelaw11_JobLong.T9 : Bool × List (List Nat × List Nat) := (true, [([], []), ([0], [0]), ([1], [1]), ([2], [2]), ([3, 2, 2], [2, 3]), ([2], [2]), ([5, 4, 2], [2, 5]), ([6, 2], [2, 6]), ([4, 7, 2], [2, 4, 7]), ([8, 6, 2], [2, 8]), ([9], [9]), ([10, 9, 9], [9, 10]), ([9], [9]), ([12, 11, 9], [9, 12]), ([13, 9], [9, 13]), ([11, 14, 9], [9, 11, 14]), ([9, 15, 2], [2, 9, 15]), ([2, 16], [2, 16]), ([17, 13, 0, 1, 2, 3, 4, 5, 6, 7, 8, 9, 10, 11, 12, 13, 14, 15, 16, 17], [17])])
def fuseelaw11_JobLong.B9 : List Nat := [0, 1, 3, 7, 15, 7, 63, 127, 255, 511, 1023, 2047, 1023, 8191, 16383, 32767, 65535, 131071, 262143]
theorem fuseelaw11_JobLong.tab9 : rtab .any (opsOf Try.f5 9) = fuseelaw11_JobLong.T9 := by kernel_rfl
theorem fuseelaw11_JobLong.bits9 : waitsOk fuseelaw11_JobLong.T9.2 fuseelaw11_JobLong.B9 = true := by kernel_rfl
set_option maxHeartbeats 64000000 in
set_option maxRecDepth 100000 in
theorem fuseelaw11_JobLong.calls (a0_0 : Int) (a0_1 : Int) (a0_2 : Int) (a0_3 : Int) (a0_4 : Int) (a0_5 : Int) (a1_0 : Bool) (a1_1 : Int) (a1_2 : Int) (a1_3 : Int) (a1_4 : Bool) (a1_5 : Int) (a1_6 : Int) (a1_7 : Int) (a2 : Int) (r : Bool) (w : World) (h : fuseelaw11_JobLong.f a0_0 a0_1 a0_2 a0_3 a0_4 a0_5 a1_0 a1_1 a1_2 a1_3 a1_4 a1_5 a1_6 a1_7 a2 = some r) :
    Calls Try.prog 5 #[.agg #[.int .i64 a0_0, .int .i64 a0_1, .int .i64 a0_2, .int .i64 a0_3, .int .i64 a0_4, .int .i64 a0_5], .agg #[.bool a1_0, .int .i64 a1_1, .int .i64 a1_2, .int .i64 a1_3, .bool a1_4, .int .i64 a1_5, .int .i64 a1_6, .int .i64 a1_7], .int .i64 a2] w fun e w' => e = .returned (.bool r) ∧ Below w.heap.size w w' := by
  have hu23 := Try.underlying23
  have hu25 := Try.underlying25
  have HB := Aside0.mk (Below.refl w.heap.size w)
  have H : ((fuseelaw11_awake.f).bind fun t190 => (if t190 = true then ((job_May.f a0_0 a0_1 a0_2 a0_3 a0_4 a0_5 a1_0 a1_1 a1_2 a1_3 a1_4 a1_5 a1_6 a1_7).bind fun t191 => (if t191 = true then (if a2 < 0 then (some t190) else (if a2 > 1000 then (some t190) else ((job_Left.f a1_0 a1_1 a1_2 a1_3 a1_4 a1_5 (wrap64 (a1_6 + a2)) a1_7).bind fun t193 => ((job_Left.f a1_0 a1_1 a1_2 a1_3 a1_4 a1_5 a1_6 a1_7).bind fun t194 => (if t193 < t194 then (none) else ((job_Left.f a1_0 a1_1 a1_2 a1_3 a1_4 a1_5 a1_6 a1_7).bind fun t195 => ((job_Worst.f a1_0 a1_1 a1_2 a1_3 a1_4 a1_5 a1_6 a1_7).bind fun t196 => (if t195 > t196 then (none) else (if a1_0 = true then ((job_Step.f a1_0 a1_1 a1_2 a1_3 a1_4 a1_5 a1_6 a1_7).bind fun bt197 => (if bt197.2.2.2.2.2.2.2.2 = 0 then ((job_Worst.f bt197.1 bt197.2.1 bt197.2.2.1 bt197.2.2.2.1 bt197.2.2.2.2.1 bt197.2.2.2.2.2.1 bt197.2.2.2.2.2.2.1 bt197.2.2.2.2.2.2.2.1).bind fun t207 => ((job_Worst.f a1_0 a1_1 a1_2 a1_3 a1_4 a1_5 a1_6 a1_7).bind fun t208 => (if t207 = (wrap64 (t208 - 1)) then ((job_Left.f bt197.1 bt197.2.1 bt197.2.2.1 bt197.2.2.2.1 bt197.2.2.2.2.1 bt197.2.2.2.2.2.1 bt197.2.2.2.2.2.2.1 bt197.2.2.2.2.2.2.2.1).bind fun t209 => ((job_Left.f a1_0 a1_1 a1_2 a1_3 a1_4 a1_5 a1_6 a1_7).bind fun t210 => (some (t209 == (wrap64 (t210 - 1)))))) else (none)))) else (some true))) else ((job_Left.f a1_0 a1_1 a1_2 a1_3 a1_4 a1_5 a1_6 a1_7).bind fun t211 => (if t211 = 0 then ((job_Worst.f a1_0 a1_1 a1_2 a1_3 a1_4 a1_5 a1_6 a1_7).bind fun t212 => (if t212 = 0 then ((job_Step.f a1_0 a1_1 a1_2 a1_3 a1_4 a1_5 a1_6 a1_7).bind fun bt213 => (if bt213.2.2.2.2.2.2.2.2 = 0 then ((job_Worst.f bt213.1 bt213.2.1 bt213.2.2.1 bt213.2.2.2.1 bt213.2.2.2.2.1 bt213.2.2.2.2.2.1 bt213.2.2.2.2.2.2.1 bt213.2.2.2.2.2.2.2.1).bind fun t223 => ((job_Worst.f a1_0 a1_1 a1_2 a1_3 a1_4 a1_5 a1_6 a1_7).bind fun t224 => (if t223 = (wrap64 (t224 - 1)) then ((job_Left.f bt213.1 bt213.2.1 bt213.2.2.1 bt213.2.2.2.1 bt213.2.2.2.2.1 bt213.2.2.2.2.2.1 bt213.2.2.2.2.2.2.1 bt213.2.2.2.2.2.2.2.1).bind fun t225 => ((job_Left.f a1_0 a1_1 a1_2 a1_3 a1_4 a1_5 a1_6 a1_7).bind fun t226 => (some (t225 == (wrap64 (t226 - 1)))))) else (none)))) else (some true))) else (none))) else (none)))))))))))) else (some t190))) else (some t190))) = some r := h
  clear h
  replace H := Option.bind_eq_some_iff.mp H
  obtain ⟨t190, A40, H⟩ := H
  try dsimp only at H
  have A4 := Aside0.mk A40
  clear A40
  by_cases c5 : t190 = true
  · subst c5
    rw [if_pos rfl] at H
    replace H := Option.bind_eq_some_iff.mp H
    obtain ⟨t191, A60, H⟩ := H
    try dsimp only at H
    have A6 := Aside0.mk A60
    clear A60
    by_cases c7 : t191 = true
    · subst c7
      rw [if_pos rfl] at H
      by_cases c8 : a2 < 0
      · rw [if_pos c8] at H
        have c8b0 : decide (a2 < 0) = true := decide_eq_true c8
        clear c8
        obtain rfl := Option.some.inj H
        go_enter Try.func5, Try.ntmps5
        go_wp2_with (first | ((with_reducible refine gate_dst (N := 3) rfl ?_); refine box_event ?hg (N := 3) ?hd (cs := #[.int .i64 a0_0, .int .i64 a0_1, .int .i64 a0_2, .int .i64 a0_3, .int .i64 a0_4, .int .i64 a0_5]) (t := 23) ?hr ?_; (case hd => rfl); (case hg => rfl); (case hr => first | (go_simp; done) | (go_simp; rfl)); intro gb188 hg w9 hbox hb; have n0_ := bs HB hb; have n1_ := Aside0.mk (hbox); have n2_ := bz HB hg; have n3_ := bz HB hg; clear HB; have HB := n0_; have BK188 := n1_; have GW188 := n2_; have GE188 := n3_; clear n0_ n1_ n2_ n3_; clear hb hbox hg) | ((with_reducible refine gate_dst (N := 4) rfl ?_); refine box_event ?hg (N := 4) ?hd (cs := #[.bool a1_0, .int .i64 a1_1, .int .i64 a1_2, .int .i64 a1_3, .bool a1_4, .int .i64 a1_5, .int .i64 a1_6, .int .i64 a1_7]) (t := 25) ?hr ?_; (case hd => rfl); (case hg => rfl); (case hr => first | (go_simp; done) | (go_simp; rfl)); intro gb189 hg w10 hbox hb; have n0_ := bb BK188 hb; have n1_ := bs HB hb; have n2_ := Aside0.mk (hbox); have n3_ := bz HB hg; have n4_ := bz HB hg; have n5_ := bl BK188 hg; have n6_ := bg BK188 hg; clear BK188; clear HB; have BK188 := n0_; have HB := n1_; have BK189 := n2_; have GW189 := n3_; have GE189 := n4_; have NB188_189 := n5_; have NB189_188 := n6_; clear n0_ n1_ n2_ n3_ n4_ n5_ n6_; clear hb hbox hg) | ((with_reducible refine gate_callee (f := 8) rfl ?_); refine goesL_ (some 11) rfl rfl Try.func8 (by kernel_rfl) rfl #[] rfl (by (try simp only [List.map_toArray, List.map_cons, List.map_nil]); first | done | rfl | (simp only [List.length_drop, List.length_take]; rfl)) ?_; (with_reducible refine (fuseelaw11_awake.calls  true _ A4.out).mono ?_); rintro e w11 ⟨rfl, hb⟩; refine ⟨_, rfl, ?_⟩; have n0_ := bb BK188 hb; have n1_ := bb BK189 hb; have n2_ := bs HB hb; clear BK188; clear BK189; clear HB; have BK188 := n0_; have BK189 := n1_; have HB := n2_; clear n0_ n1_ n2_; (try clear hb); (try clear hb2); (try clear hk); (try clear hi); have hnb12 := NB188_189.out; have hnc12 := NB189_188.out; obtain ⟨hcz13_0, hcz13_1, hcz13_2, hcz13_3, hcz13_4, hcz13_5⟩ := cc6 BK188; obtain ⟨hfz13_0, hfz13_1, hfz13_2, hfz13_3, hfz13_4, hfz13_5⟩ := cf6 BK188; obtain ⟨hcz14_0, hcz14_1, hcz14_2, hcz14_3, hcz14_4, hcz14_5, hcz14_6, hcz14_7⟩ := cc8 BK189; obtain ⟨hfz14_0, hfz14_1, hfz14_2, hfz14_3, hfz14_4, hfz14_5, hfz14_6, hfz14_7⟩ := cf8 BK189) | (go_at_call 9; (with_reducible refine (job_May.calls a0_0 a0_1 a0_2 a0_3 a0_4 a0_5 a1_0 a1_1 a1_2 a1_3 a1_4 a1_5 a1_6 a1_7 true _ A6.out).mono ?_); rintro e w15 ⟨rfl, hb⟩; have n0_ := bb BK188 hb; have n1_ := bb BK189 hb; have n2_ := bs HB hb; clear BK188; clear BK189; clear HB; have BK188 := n0_; have BK189 := n1_; have HB := n2_; clear n0_ n1_ n2_; (try clear hb); (try clear hb2); (try clear hk); (try clear hi)))
        go_ret
        exact ⟨by first | rfl | (simp [errW_none, errW_some] <;> rfl) | (simp [*, errW_none, errW_some] <;> rfl) | (exfalso; contradiction), by repeat (first | (with_reducible first | exact HB.out | apply below_alloc | apply pw_below_drewN | apply below_drew1 | refine below_set ?_ GE188.out | refine below_set ?_ GE189.out) | exact HB.out)⟩
      · rw [if_neg c8] at H
        have c8b0 : decide (a2 < 0) = false := decide_eq_false c8
        clear c8
        by_cases c16 : a2 > 1000
        · rw [if_pos c16] at H
          have c16b0 : decide (1000 < a2) = true := decide_eq_true c16
          clear c16
          obtain rfl := Option.some.inj H
          go_enter Try.func5, Try.ntmps5
          go_wp2_with (first | ((with_reducible refine gate_dst (N := 3) rfl ?_); refine box_event ?hg (N := 3) ?hd (cs := #[.int .i64 a0_0, .int .i64 a0_1, .int .i64 a0_2, .int .i64 a0_3, .int .i64 a0_4, .int .i64 a0_5]) (t := 23) ?hr ?_; (case hd => rfl); (case hg => rfl); (case hr => first | (go_simp; done) | (go_simp; rfl)); intro gb188 hg w17 hbox hb; have n0_ := bs HB hb; have n1_ := Aside0.mk (hbox); have n2_ := bz HB hg; have n3_ := bz HB hg; clear HB; have HB := n0_; have BK188 := n1_; have GW188 := n2_; have GE188 := n3_; clear n0_ n1_ n2_ n3_; clear hb hbox hg) | ((with_reducible refine gate_dst (N := 4) rfl ?_); refine box_event ?hg (N := 4) ?hd (cs := #[.bool a1_0, .int .i64 a1_1, .int .i64 a1_2, .int .i64 a1_3, .bool a1_4, .int .i64 a1_5, .int .i64 a1_6, .int .i64 a1_7]) (t := 25) ?hr ?_; (case hd => rfl); (case hg => rfl); (case hr => first | (go_simp; done) | (go_simp; rfl)); intro gb189 hg w18 hbox hb; have n0_ := bb BK188 hb; have n1_ := bs HB hb; have n2_ := Aside0.mk (hbox); have n3_ := bz HB hg; have n4_ := bz HB hg; have n5_ := bl BK188 hg; have n6_ := bg BK188 hg; clear BK188; clear HB; have BK188 := n0_; have HB := n1_; have BK189 := n2_; have GW189 := n3_; have GE189 := n4_; have NB188_189 := n5_; have NB189_188 := n6_; clear n0_ n1_ n2_ n3_ n4_ n5_ n6_; clear hb hbox hg) | ((with_reducible refine gate_callee (f := 8) rfl ?_); refine goesL_ (some 11) rfl rfl Try.func8 (by kernel_rfl) rfl #[] rfl (by (try simp only [List.map_toArray, List.map_cons, List.map_nil]); first | done | rfl | (simp only [List.length_drop, List.length_take]; rfl)) ?_; (with_reducible refine (fuseelaw11_awake.calls  true _ A4.out).mono ?_); rintro e w19 ⟨rfl, hb⟩; refine ⟨_, rfl, ?_⟩; have n0_ := bb BK188 hb; have n1_ := bb BK189 hb; have n2_ := bs HB hb; clear BK188; clear BK189; clear HB; have BK188 := n0_; have BK189 := n1_; have HB := n2_; clear n0_ n1_ n2_; (try clear hb); (try clear hb2); (try clear hk); (try clear hi); have hnb20 := NB188_189.out; have hnc20 := NB189_188.out; obtain ⟨hcz21_0, hcz21_1, hcz21_2, hcz21_3, hcz21_4, hcz21_5⟩ := cc6 BK188; obtain ⟨hfz21_0, hfz21_1, hfz21_2, hfz21_3, hfz21_4, hfz21_5⟩ := cf6 BK188; obtain ⟨hcz22_0, hcz22_1, hcz22_2, hcz22_3, hcz22_4, hcz22_5, hcz22_6, hcz22_7⟩ := cc8 BK189; obtain ⟨hfz22_0, hfz22_1, hfz22_2, hfz22_3, hfz22_4, hfz22_5, hfz22_6, hfz22_7⟩ := cf8 BK189) | (go_at_call 9; (with_reducible refine (job_May.calls a0_0 a0_1 a0_2 a0_3 a0_4 a0_5 a1_0 a1_1 a1_2 a1_3 a1_4 a1_5 a1_6 a1_7 true _ A6.out).mono ?_); rintro e w23 ⟨rfl, hb⟩; have n0_ := bb BK188 hb; have n1_ := bb BK189 hb; have n2_ := bs HB hb; clear BK188; clear BK189; clear HB; have BK188 := n0_; have BK189 := n1_; have HB := n2_; clear n0_ n1_ n2_; (try clear hb); (try clear hb2); (try clear hk); (try clear hi)))
          go_ret
          exact ⟨by first | rfl | (simp [errW_none, errW_some] <;> rfl) | (simp [*, errW_none, errW_some] <;> rfl) | (exfalso; contradiction), by repeat (first | (with_reducible first | exact HB.out | apply below_alloc | apply pw_below_drewN | apply below_drew1 | refine below_set ?_ GE188.out | refine below_set ?_ GE189.out) | exact HB.out)⟩
        · rw [if_neg c16] at H
          have c16b0 : decide (1000 < a2) = false := decide_eq_false c16
          clear c16
          replace H := Option.bind_eq_some_iff.mp H
          obtain ⟨t193, A240, H⟩ := H
          try dsimp only at H
          have A24 := Aside0.mk A240
          clear A240
          replace H := Option.bind_eq_some_iff.mp H
          obtain ⟨t194, A250, H⟩ := H
          try dsimp only at H
          have A25 := Aside0.mk A250
          clear A250
          by_cases c26 : t193 < t194
          · rw [if_pos c26] at H
            have c26b0 : decide (t193 < t194) = true := decide_eq_true c26
            clear c26
            exact absurd H (by simp)
          · rw [if_neg c26] at H
            have c26b0 : decide (t193 < t194) = false := decide_eq_false c26
            clear c26
            replace H := Option.bind_eq_some_iff.mp H
            obtain ⟨t195, A270, H⟩ := H
            try dsimp only at H
            have A27 := Aside0.mk A270
            clear A270
            replace H := Option.bind_eq_some_iff.mp H
            obtain ⟨t196, A280, H⟩ := H
            try dsimp only at H
            have A28 := Aside0.mk A280
            clear A280
            by_cases c29 : t195 > t196
            · rw [if_pos c29] at H
              have c29b0 : decide (t196 < t195) = true := decide_eq_true c29
              clear c29
              exact absurd H (by simp)
            · rw [if_neg c29] at H
              have c29b0 : decide (t196 < t195) = false := decide_eq_false c29
              clear c29
              by_cases c30 : a1_0 = true
              · subst c30
                rw [if_pos rfl] at H
                replace H := Option.bind_eq_some_iff.mp H
                obtain ⟨⟨t197, t198, t199, t200, t201, t202, t203, t204, t205⟩, A310, H⟩ := H
                try dsimp only at H
                have A31 := Aside0.mk A310
                clear A310
                by_cases c32 : t205 = 0
                · rw [if_pos c32] at H
                  have c32b0 : (t205 == 0) = true := beq_iff_eq.mpr c32
                  have c32b1 : (t205 != 0) = false := bne_eq_false_iff_eq.mpr c32
                  clear c32
                  replace H := Option.bind_eq_some_iff.mp H
                  obtain ⟨t207, A330, H⟩ := H
                  try dsimp only at H
                  have A33 := Aside0.mk A330
                  clear A330
                  replace H := Option.bind_eq_some_iff.mp H
                  obtain ⟨t208, A340, H⟩ := H
                  try dsimp only at H
                  have A34 := Aside0.mk A340
                  clear A340
                  by_cases c35 : t207 = (wrap64 (t208 - 1))
                  · rw [if_pos c35] at H
                    have c35b0 : (t207 == (wrap64 (t208 - 1))) = true := beq_iff_eq.mpr c35
                    have c35b1 : (t207 != (wrap64 (t208 - 1))) = false := bne_eq_false_iff_eq.mpr c35
                    clear c35
                    replace H := Option.bind_eq_some_iff.mp H
                    obtain ⟨t209, A360, H⟩ := H
                    try dsimp only at H
                    have A36 := Aside0.mk A360
                    clear A360
                    replace H := Option.bind_eq_some_iff.mp H
                    obtain ⟨t210, A370, H⟩ := H
                    try dsimp only at H
                    have A37 := Aside0.mk A370
                    clear A370
                    obtain rfl := Option.some.inj H
                    go_enter Try.func5, Try.ntmps5
                    try go_wp2_with (first | ((with_reducible refine gate_dst (N := 3) rfl ?_); refine box_event ?hg (N := 3) ?hd (cs := #[.int .i64 a0_0, .int .i64 a0_1, .int .i64 a0_2, .int .i64 a0_3, .int .i64 a0_4, .int .i64 a0_5]) (t := 23) ?hr ?_; (case hd => rfl); (case hg => rfl); (case hr => first | (go_simp; done) | (go_simp; rfl)); intro gb188 hg w38 hbox hb; have n0_ := bs HB hb; have n1_ := Aside0.mk (hbox); have n2_ := bz HB hg; have n3_ := bz HB hg; clear HB; have HB := n0_; have BK188 := n1_; have GW188 := n2_; have GE188 := n3_; clear n0_ n1_ n2_ n3_; clear hb hbox hg) | ((with_reducible refine gate_dst (N := 4) rfl ?_); refine box_event ?hg (N := 4) ?hd (cs := #[.bool true, .int .i64 a1_1, .int .i64 a1_2, .int .i64 a1_3, .bool a1_4, .int .i64 a1_5, .int .i64 a1_6, .int .i64 a1_7]) (t := 25) ?hr ?_; (case hd => rfl); (case hg => rfl); (case hr => first | (go_simp; done) | (go_simp; rfl)); intro gb189 hg w39 hbox hb; have n0_ := bb BK188 hb; have n1_ := bs HB hb; have n2_ := Aside0.mk (hbox); have n3_ := bz HB hg; have n4_ := bz HB hg; have n5_ := bl BK188 hg; have n6_ := bg BK188 hg; clear BK188; clear HB; have BK188 := n0_; have HB := n1_; have BK189 := n2_; have GW189 := n3_; have GE189 := n4_; have NB188_189 := n5_; have NB189_188 := n6_; clear n0_ n1_ n2_ n3_ n4_ n5_ n6_; clear hb hbox hg) | ((with_reducible refine gate_callee (f := 8) rfl ?_); refine goesL_ (some 11) rfl rfl Try.func8 (by kernel_rfl) rfl #[] rfl (by (try simp only [List.map_toArray, List.map_cons, List.map_nil]); first | done | rfl | (simp only [List.length_drop, List.length_take]; rfl)) ?_; (with_reducible refine (fuseelaw11_awake.calls  true _ A4.out).mono ?_); rintro e w40 ⟨rfl, hb⟩; refine ⟨_, rfl, ?_⟩; have n0_ := bb BK188 hb; have n1_ := bb BK189 hb; have n2_ := bs HB hb; clear BK188; clear BK189; clear HB; have BK188 := n0_; have BK189 := n1_; have HB := n2_; clear n0_ n1_ n2_; (try clear hb); (try clear hb2); (try clear hk); (try clear hi); have hnb41 := NB188_189.out; have hnc41 := NB189_188.out; obtain ⟨hcz42_0, hcz42_1, hcz42_2, hcz42_3, hcz42_4, hcz42_5⟩ := cc6 BK188; obtain ⟨hfz42_0, hfz42_1, hfz42_2, hfz42_3, hfz42_4, hfz42_5⟩ := cf6 BK188; obtain ⟨hcz43_0, hcz43_1, hcz43_2, hcz43_3, hcz43_4, hcz43_5, hcz43_6, hcz43_7⟩ := cc8 BK189; obtain ⟨hfz43_0, hfz43_1, hfz43_2, hfz43_3, hfz43_4, hfz43_5, hfz43_6, hfz43_7⟩ := cf8 BK189) | (go_at_call 9; (with_reducible refine (job_May.calls a0_0 a0_1 a0_2 a0_3 a0_4 a0_5 true a1_1 a1_2 a1_3 a1_4 a1_5 a1_6 a1_7 true _ A6.out).mono ?_); rintro e w44 ⟨rfl, hb⟩; have n0_ := bb BK188 hb; have n1_ := bb BK189 hb; have n2_ := bs HB hb; clear BK188; clear BK189; clear HB; have BK188 := n0_; have BK189 := n1_; have HB := n2_; clear n0_ n1_ n2_; (try clear hb); (try clear hb2); (try clear hk); (try clear hi); (try clear hcz42_0 hcz42_1 hcz42_2 hcz42_3 hcz42_4 hcz42_5 hfz42_0 hfz42_1 hfz42_2 hfz42_3 hfz42_4 hfz42_5); (try clear hcz43_0 hcz43_1 hcz43_2 hcz43_3 hcz43_4 hcz43_5 hcz43_6 hcz43_7 hfz43_0 hfz43_1 hfz43_2 hfz43_3 hfz43_4 hfz43_5 hfz43_6 hfz43_7); obtain ⟨hcz45_0, hcz45_1, hcz45_2, hcz45_3, hcz45_4, hcz45_5, hcz45_6, hcz45_7⟩ := cc8 BK189; obtain ⟨hfz45_0, hfz45_1, hfz45_2, hfz45_3, hfz45_4, hfz45_5, hfz45_6, hfz45_7⟩ := cf8 BK189) | ((with_reducible refine gate_dst (N := 8) rfl ?_); refine box_event ?hg (N := 8) ?hd (cs := #[.bool false, .int .i64 0, .int .i64 0, .int .i64 0, .bool false, .int .i64 0, .int .i64 0, .int .i64 0]) (t := 25) ?hr ?_; (case hd => rfl); (case hg => rfl); (case hr => first | (go_simp; done) | (go_simp; rfl)); intro gb192 hg w46 hbox hb; have n0_ := bb BK188 hb; have n1_ := bb BK189 hb; have n2_ := bs HB hb; have n3_ := Aside0.mk (hbox); have n4_ := bz HB hg; have n5_ := bz HB hg; have n6_ := bl BK188 hg; have n7_ := bg BK188 hg; have n8_ := bl BK189 hg; have n9_ := bg BK189 hg; clear BK188; clear BK189; clear HB; have BK188 := n0_; have BK189 := n1_; have HB := n2_; have BK192 := n3_; have GW192 := n4_; have GE192 := n5_; have NB188_192 := n6_; have NB192_188 := n7_; have NB189_192 := n8_; have NB192_189 := n9_; clear n0_ n1_ n2_ n3_ n4_ n5_ n6_ n7_ n8_ n9_; clear hb hbox hg; have hnb47 := NB192_188.out; have hnc47 := NB188_192.out; have hnb48 := NB192_189.out; have hnc48 := NB189_192.out; (try clear hcz42_0 hcz42_1 hcz42_2 hcz42_3 hcz42_4 hcz42_5 hfz42_0 hfz42_1 hfz42_2 hfz42_3 hfz42_4 hfz42_5); (try clear hcz43_0 hcz43_1 hcz43_2 hcz43_3 hcz43_4 hcz43_5 hcz43_6 hcz43_7 hfz43_0 hfz43_1 hfz43_2 hfz43_3 hfz43_4 hfz43_5 hfz43_6 hfz43_7); (try clear hcz45_0 hcz45_1 hcz45_2 hcz45_3 hcz45_4 hcz45_5 hcz45_6 hcz45_7 hfz45_0 hfz45_1 hfz45_2 hfz45_3 hfz45_4 hfz45_5 hfz45_6 hfz45_7); obtain ⟨hcz49_0, hcz49_1, hcz49_2, hcz49_3, hcz49_4, hcz49_5, hcz49_6, hcz49_7⟩ := cc8 BK192; obtain ⟨hfz49_0, hfz49_1, hfz49_2, hfz49_3, hfz49_4, hfz49_5, hfz49_6, hfz49_7⟩ := cf8 BK192; obtain ⟨hcz50_0, hcz50_1, hcz50_2, hcz50_3, hcz50_4, hcz50_5, hcz50_6, hcz50_7⟩ := cc8 BK189; obtain ⟨hfz50_0, hfz50_1, hfz50_2, hfz50_3, hfz50_4, hfz50_5, hfz50_6, hfz50_7⟩ := cf8 BK189))
                    have n0_ : Aside0 ((((((((((w46.setCell ⟨gb192, 0, none⟩ (.bool true)).setCell ⟨gb192, 1, none⟩ (.int .i64 a1_1)).setCell ⟨gb192, 2, none⟩ (.int .i64 a1_2)).setCell ⟨gb192, 3, none⟩ (.int .i64 a1_3)).setCell ⟨gb192, 4, none⟩ (.bool a1_4)).setCell ⟨gb192, 5, none⟩ (.int .i64 a1_5)).setCell ⟨gb192, 6, none⟩ (.int .i64 a1_6)).setCell ⟨gb192, 7, none⟩ (.int .i64 a1_7)).setCell ⟨gb192, 6, none⟩ (.int .i64 (wrap64 (a1_6 + a2)))).heap[gb188]? = some (.cells #[.int .i64 a0_0, .int .i64 a0_1, .int .i64 a0_2, .int .i64 a0_3, .int .i64 a0_4, .int .i64 a0_5] 23 (0, 0))) := ⟨by (with_reducible repeat (first | refine bN ?_ _ | refine bD ?_ | refine bA ?_ _ | refine blk_far ?_ NB188_192.out _)); exact BK188.out⟩
                    have n1_ : Aside0 ((((((((((w46.setCell ⟨gb192, 0, none⟩ (.bool true)).setCell ⟨gb192, 1, none⟩ (.int .i64 a1_1)).setCell ⟨gb192, 2, none⟩ (.int .i64 a1_2)).setCell ⟨gb192, 3, none⟩ (.int .i64 a1_3)).setCell ⟨gb192, 4, none⟩ (.bool a1_4)).setCell ⟨gb192, 5, none⟩ (.int .i64 a1_5)).setCell ⟨gb192, 6, none⟩ (.int .i64 a1_6)).setCell ⟨gb192, 7, none⟩ (.int .i64 a1_7)).setCell ⟨gb192, 6, none⟩ (.int .i64 (wrap64 (a1_6 + a2)))).heap[gb189]? = some (.cells #[.bool true, .int .i64 a1_1, .int .i64 a1_2, .int .i64 a1_3, .bool a1_4, .int .i64 a1_5, .int .i64 a1_6, .int .i64 a1_7] 25 (0, 0))) := ⟨by (with_reducible repeat (first | refine bN ?_ _ | refine bD ?_ | refine bA ?_ _ | refine blk_far ?_ NB189_192.out _)); exact BK189.out⟩
                    have n2_ : Aside0 ((((((((((w46.setCell ⟨gb192, 0, none⟩ (.bool true)).setCell ⟨gb192, 1, none⟩ (.int .i64 a1_1)).setCell ⟨gb192, 2, none⟩ (.int .i64 a1_2)).setCell ⟨gb192, 3, none⟩ (.int .i64 a1_3)).setCell ⟨gb192, 4, none⟩ (.bool a1_4)).setCell ⟨gb192, 5, none⟩ (.int .i64 a1_5)).setCell ⟨gb192, 6, none⟩ (.int .i64 a1_6)).setCell ⟨gb192, 7, none⟩ (.int .i64 a1_7)).setCell ⟨gb192, 6, none⟩ (.int .i64 (wrap64 (a1_6 + a2)))).heap[gb192]? = some (.cells #[.bool true, .int .i64 a1_1, .int .i64 a1_2, .int .i64 a1_3, .bool a1_4, .int .i64 a1_5, .int .i64 (wrap64 (a1_6 + a2)), .int .i64 a1_7] 25 (0, 0))) := ⟨by (with_reducible repeat (first | refine bN ?_ _ | refine bD ?_ | refine bA ?_ _)); refine blk_put (cs := #[.bool true, .int .i64 a1_1, .int .i64 a1_2, .int .i64 a1_3, .bool a1_4, .int .i64 a1_5, .int .i64 a1_6, .int .i64 a1_7]) ?_ 6 _ rfl; (with_reducible repeat (first | refine bN ?_ _ | refine bD ?_ | refine bA ?_ _)); refine blk_put (cs := #[.bool true, .int .i64 a1_1, .int .i64 a1_2, .int .i64 a1_3, .bool a1_4, .int .i64 a1_5, .int .i64 a1_6, .int .i64 0]) ?_ 7 _ rfl; (with_reducible repeat (first | refine bN ?_ _ | refine bD ?_ | refine bA ?_ _)); refine blk_put (cs := #[.bool true, .int .i64 a1_1, .int .i64 a1_2, .int .i64 a1_3, .bool a1_4, .int .i64 a1_5, .int .i64 0, .int .i64 0]) ?_ 6 _ rfl; (with_reducible repeat (first | refine bN ?_ _ | refine bD ?_ | refine bA ?_ _)); refine blk_put (cs := #[.bool true, .int .i64 a1_1, .int .i64 a1_2, .int .i64 a1_3, .bool a1_4, .int .i64 0, .int .i64 0, .int .i64 0]) ?_ 5 _ rfl; (with_reducible repeat (first | refine bN ?_ _ | refine bD ?_ | refine bA ?_ _)); refine blk_put (cs := #[.bool true, .int .i64 a1_1, .int .i64 a1_2, .int .i64 a1_3, .bool false, .int .i64 0, .int .i64 0, .int .i64 0]) ?_ 4 _ rfl; (with_reducible repeat (first | refine bN ?_ _ | refine bD ?_ | refine bA ?_ _)); refine blk_put (cs := #[.bool true, .int .i64 a1_1, .int .i64 a1_2, .int .i64 0, .bool false, .int .i64 0, .int .i64 0, .int .i64 0]) ?_ 3 _ rfl; (with_reducible repeat (first | refine bN ?_ _ | refine bD ?_ | refine bA ?_ _)); refine blk_put (cs := #[.bool true, .int .i64 a1_1, .int .i64 0, .int .i64 0, .bool false, .int .i64 0, .int .i64 0, .int .i64 0]) ?_ 2 _ rfl; (with_reducible repeat (first | refine bN ?_ _ | refine bD ?_ | refine bA ?_ _)); refine blk_put (cs := #[.bool true, .int .i64 0, .int .i64 0, .int .i64 0, .bool false, .int .i64 0, .int .i64 0, .int .i64 0]) ?_ 1 _ rfl; (with_reducible repeat (first | refine bN ?_ _ | refine bD ?_ | refine bA ?_ _)); refine blk_put (cs := #[.bool false, .int .i64 0, .int .i64 0, .int .i64 0, .bool false, .int .i64 0, .int .i64 0, .int .i64 0]) ?_ 0 _ rfl; (with_reducible repeat (first | refine bN ?_ _ | refine bD ?_ | refine bA ?_ _)); exact BK192.out⟩
                    have n3_ : Aside0 (Below w.heap.size w (((((((((w46.setCell ⟨gb192, 0, none⟩ (.bool true)).setCell ⟨gb192, 1, none⟩ (.int .i64 a1_1)).setCell ⟨gb192, 2, none⟩ (.int .i64 a1_2)).setCell ⟨gb192, 3, none⟩ (.int .i64 a1_3)).setCell ⟨gb192, 4, none⟩ (.bool a1_4)).setCell ⟨gb192, 5, none⟩ (.int .i64 a1_5)).setCell ⟨gb192, 6, none⟩ (.int .i64 a1_6)).setCell ⟨gb192, 7, none⟩ (.int .i64 a1_7)).setCell ⟨gb192, 6, none⟩ (.int .i64 (wrap64 (a1_6 + a2))))) := ⟨by repeat (first | (with_reducible first | exact HB.out | apply below_alloc | apply pw_below_drewN | apply below_drew1 | refine below_set ?_ GE188.out | refine below_set ?_ GE189.out | refine below_set ?_ GE192.out) | exact HB.out)⟩
                    (try clear BK188)
                    (try clear BK189)
                    (try clear BK192)
                    (try clear HB)
                    generalize (((((((((w46.setCell ⟨gb192, 0, none⟩ (.bool true)).setCell ⟨gb192, 1, none⟩ (.int .i64 a1_1)).setCell ⟨gb192, 2, none⟩ (.int .i64 a1_2)).setCell ⟨gb192, 3, none⟩ (.int .i64 a1_3)).setCell ⟨gb192, 4, none⟩ (.bool a1_4)).setCell ⟨gb192, 5, none⟩ (.int .i64 a1_5)).setCell ⟨gb192, 6, none⟩ (.int .i64 a1_6)).setCell ⟨gb192, 7, none⟩ (.int .i64 a1_7)).setCell ⟨gb192, 6, none⟩ (.int .i64 (wrap64 (a1_6 + a2)))) = w51 at n0_ n1_ n2_ n3_ ⊢
                    have BK188 := n0_
                    have BK189 := n1_
                    have BK192 := n2_
                    have HB := n3_
                    clear n0_ n1_ n2_ n3_
                    have n0_ := Aside0.mk (blk_drew BK188.out)
                    have n1_ := Aside0.mk (blk_drew BK189.out)
                    have n2_ := Aside0.mk (blk_drew BK192.out)
                    have n3_ := Aside0.mk (below_drew1 HB.out)
                    clear BK188
                    clear BK189
                    clear BK192
                    clear HB
                    have BK188 := n0_
                    have BK189 := n1_
                    have BK192 := n2_
                    have HB := n3_
                    clear n0_ n1_ n2_ n3_
                    refine start_ (n := 27) (S := fun w' => w'.cell? ⟨gb192, 0, none⟩ = some (.bool true) ∧ w'.cell? ⟨gb192, 1, none⟩ = some (.int .i64 a1_1) ∧ w'.cell? ⟨gb192, 2, none⟩ = some (.int .i64 a1_2) ∧ w'.cell? ⟨gb192, 3, none⟩ = some (.int .i64 a1_3) ∧ w'.cell? ⟨gb192, 4, none⟩ = some (.bool a1_4) ∧ w'.cell? ⟨gb192, 5, none⟩ = some (.int .i64 a1_5) ∧ w'.cell? ⟨gb192, 6, none⟩ = some (.int .i64 (wrap64 (a1_6 + a2))) ∧ w'.cell? ⟨gb192, 7, none⟩ = some (.int .i64 a1_7) ∧ w'.cell? ⟨gb189, 0, none⟩ = some (.bool true) ∧ w'.cell? ⟨gb189, 1, none⟩ = some (.int .i64 a1_1) ∧ w'.cell? ⟨gb189, 2, none⟩ = some (.int .i64 a1_2) ∧ w'.cell? ⟨gb189, 3, none⟩ = some (.int .i64 a1_3) ∧ w'.cell? ⟨gb189, 4, none⟩ = some (.bool a1_4) ∧ w'.cell? ⟨gb189, 5, none⟩ = some (.int .i64 a1_5) ∧ w'.cell? ⟨gb189, 6, none⟩ = some (.int .i64 a1_6) ∧ w'.cell? ⟨gb189, 7, none⟩ = some (.int .i64 a1_7)) (ds := []) #[false, false, false, false, false, false, false, false, false, false, false, false, false, false, false, false, false, false, false, false, false, false, false, false, false, false, false] (by kernel_rfl) rfl rfl ⟨(blk_cell BK192.out 0).trans rfl, (blk_cell BK192.out 1).trans rfl, (blk_cell BK192.out 2).trans rfl, (blk_cell BK192.out 3).trans rfl, (blk_cell BK192.out 4).trans rfl, (blk_cell BK192.out 5).trans rfl, (blk_cell BK192.out 6).trans rfl, (blk_cell BK192.out 7).trans rfl, (blk_cell BK189.out 0).trans rfl, (blk_cell BK189.out 1).trans rfl, (blk_cell BK189.out 2).trans rfl, (blk_cell BK189.out 3).trans rfl, (blk_cell BK189.out 4).trans rfl, (blk_cell BK189.out 5).trans rfl, (blk_cell BK189.out 6).trans rfl, (blk_cell BK189.out 7).trans rfl⟩ (fun hHeld => ?_); refine with_tabW fuseelaw11_JobLong.tab6 fuseelaw11_JobLong.bits6 (fun HT_ HW_ => ?_)
                    generalize w51.drew = w52 at BK188 BK189 BK192 HB hHeld ⊢
                    refine take_ (i := 0) (N := some 35) (v := ?_) (a' := ?_) #[true, false, false, false, false, false, false, false, false, false, false, false, false, false, false, false, false, false, false, false, false, false, false, false, false, false, false] rfl rfl (take_ofW HT_.out HW_.out (by kernel_rfl)) (fun _ _ _ h => h) (Or.inl ⟨by rfl, ?_⟩) hHeld ?_ ?_
                    rotate_left
                    · rintro w' ⟨s0, s1, s2, s3, s4, s5, s6, s7, s8, s9, s10, s11, s12, s13, s14, s15⟩
                      go_simp
                      with_reducible rfl
                    rotate_left; focus (simp only [Act.put, List.setIfInBounds_toArray, List.set_cons_zero, List.set_cons_succ, i64_w, i32_w]; rfl)
                    refine take_ (i := 2) (N := some 37) (v := ?_) (a' := ?_) #[true, false, true, false, false, false, false, false, false, false, false, false, false, false, false, false, false, false, false, false, false, false, false, false, false, false, false] rfl rfl (take_ofW HT_.out HW_.out (by kernel_rfl)) (fun _ _ _ h => h) (Or.inl ⟨by rfl, ?_⟩) hHeld ?_ ?_
                    rotate_left
                    · rintro w' ⟨s0, s1, s2, s3, s4, s5, s6, s7, s8, s9, s10, s11, s12, s13, s14, s15⟩
                      go_simp
                      with_reducible rfl
                    rotate_left; focus (simp only [Act.put, List.setIfInBounds_toArray, List.set_cons_zero, List.set_cons_succ, i64_w, i32_w]; rfl)
                    refine one_ (i := 1) (N := some 36) #[true, true, true, false, false, false, false, false, false, false, false, false, false, false, false, false, false, false, false, false, false, false, false, false, false, false, false] rfl rfl (one_of HT_.out (by kernel_rfl)) (by decide) (fun K hK => ?_)
                    refine goes_ Try.func11 (by kernel_rfl) rfl #[.agg #[.bool true, .int .i64 a1_1, .int .i64 a1_2, .int .i64 a1_3, .bool a1_4, .int .i64 a1_5, .int .i64 (wrap64 (a1_6 + a2)), .int .i64 a1_7]] (by rfl) rfl rfl (by (try simp only [List.map_toArray, List.map_cons, List.map_nil]); first | done | rfl | (simp only [List.length_drop, List.length_take]; rfl)) ?_
                    with_reducible refine (job_Left.calls true a1_1 a1_2 a1_3 a1_4 a1_5 (wrap64 (a1_6 + a2)) a1_7 t193 _ A24.out).mono ?_
                    rintro e w53 ⟨rfl, hb⟩
                    refine ⟨_, rfl, ?_⟩
                    have n0_ := bb BK188 hb
                    have n1_ := bb BK189 hb
                    have n2_ := bb BK192 hb
                    have n3_ := bs HB hb
                    clear BK188
                    clear BK189
                    clear BK192
                    clear HB
                    have BK188 := n0_
                    have BK189 := n1_
                    have BK192 := n2_
                    have HB := n3_
                    clear n0_ n1_ n2_ n3_
                    (try clear hb)
                    (try clear hb2)
                    (try clear hk)
                    (try clear hi)
                    refine hK.out _ _ ⟨(blk_cell BK192.out 0).trans rfl, (blk_cell BK192.out 1).trans rfl, (blk_cell BK192.out 2).trans rfl, (blk_cell BK192.out 3).trans rfl, (blk_cell BK192.out 4).trans rfl, (blk_cell BK192.out 5).trans rfl, (blk_cell BK192.out 6).trans rfl, (blk_cell BK192.out 7).trans rfl, (blk_cell BK189.out 0).trans rfl, (blk_cell BK189.out 1).trans rfl, (blk_cell BK189.out 2).trans rfl, (blk_cell BK189.out 3).trans rfl, (blk_cell BK189.out 4).trans rfl, (blk_cell BK189.out 5).trans rfl, (blk_cell BK189.out 6).trans rfl, (blk_cell BK189.out 7).trans rfl⟩ (fun hHeld => ?_)
                    clear hK K
                    refine norm_ (a' := ?_) ?_ ?_
                    rotate_left
                    · show Act.put _ (some 36) _ = _
                      simp only [Act.put, List.setIfInBounds_toArray, List.set_cons_zero, List.set_cons_succ, i64_w, i32_w]
                      rfl
                    refine one_ (i := 3) (N := some 38) #[true, true, true, true, false, false, false, false, false, false, false, false, false, false, false, false, false, false, false, false, false, false, false, false, false, false, false] rfl rfl (one_of HT_.out (by kernel_rfl)) (by decide) (fun K hK => ?_)
                    refine goes_ Try.func11 (by kernel_rfl) rfl #[.agg #[.bool true, .int .i64 a1_1, .int .i64 a1_2, .int .i64 a1_3, .bool a1_4, .int .i64 a1_5, .int .i64 a1_6, .int .i64 a1_7]] (by rfl) rfl rfl (by (try simp only [List.map_toArray, List.map_cons, List.map_nil]); first | done | rfl | (simp only [List.length_drop, List.length_take]; rfl)) ?_
                    with_reducible refine (job_Left.calls true a1_1 a1_2 a1_3 a1_4 a1_5 a1_6 a1_7 t194 _ A25.out).mono ?_
                    rintro e w54 ⟨rfl, hb⟩
                    refine ⟨_, rfl, ?_⟩
                    have n0_ := bb BK188 hb
                    have n1_ := bb BK189 hb
                    have n2_ := bb BK192 hb
                    have n3_ := bs HB hb
                    clear BK188
                    clear BK189
                    clear BK192
                    clear HB
                    have BK188 := n0_
                    have BK189 := n1_
                    have BK192 := n2_
                    have HB := n3_
                    clear n0_ n1_ n2_ n3_
                    (try clear hb)
                    (try clear hb2)
                    (try clear hk)
                    (try clear hi)
                    refine hK.out _ _ ⟨(blk_cell BK192.out 0).trans rfl, (blk_cell BK192.out 1).trans rfl, (blk_cell BK192.out 2).trans rfl, (blk_cell BK192.out 3).trans rfl, (blk_cell BK192.out 4).trans rfl, (blk_cell BK192.out 5).trans rfl, (blk_cell BK192.out 6).trans rfl, (blk_cell BK192.out 7).trans rfl, (blk_cell BK189.out 0).trans rfl, (blk_cell BK189.out 1).trans rfl, (blk_cell BK189.out 2).trans rfl, (blk_cell BK189.out 3).trans rfl, (blk_cell BK189.out 4).trans rfl, (blk_cell BK189.out 5).trans rfl, (blk_cell BK189.out 6).trans rfl, (blk_cell BK189.out 7).trans rfl⟩ (fun hHeld => ?_)
                    clear hK K
                    refine norm_ (a' := ?_) ?_ ?_
                    rotate_left
                    · show Act.put _ (some 38) _ = _
                      simp only [Act.put, List.setIfInBounds_toArray, List.set_cons_zero, List.set_cons_succ, i64_w, i32_w]
                      rfl
                    refine pure_ (i := 4) (N := some 39) (v := ?_) (a' := ?_) #[true, true, true, true, true, false, false, false, false, false, false, false, false, false, false, false, false, false, false, false, false, false, false, false, false, false, false] rfl rfl (any_of HT_.out (by kernel_rfl)) (fun _ _ _ h => h) (Or.inl ⟨by rfl, ?_⟩) ?_ ?_
                    rotate_left; focus (intro w'; go_simp; with_reducible rfl)
                    rotate_left; focus (simp only [Act.put, List.setIfInBounds_toArray, List.set_cons_zero, List.set_cons_succ, i64_w, i32_w]; rfl)
                    refine pure_ (i := 5) (N := some 40) (v := ?_) (a' := ?_) #[true, true, true, true, true, true, false, false, false, false, false, false, false, false, false, false, false, false, false, false, false, false, false, false, false, false, false] rfl rfl (any_of HT_.out (by kernel_rfl)) (fun _ _ _ h => h) (Or.inl ⟨by rfl, ?_⟩) ?_ ?_
                    rotate_left; focus (intro w'; go_simp; with_reducible rfl)
                    rotate_left; focus (simp only [Act.put, List.setIfInBounds_toArray, List.set_cons_zero, List.set_cons_succ, i64_w, i32_w]; rfl)
                    refine take_ (i := 6) (N := some 41) (v := ?_) (a' := ?_) #[true, true, true, true, true, true, true, false, false, false, false, false, false, false, false, false, false, false, false, false, false, false, false, false, false, false, false] rfl rfl (take_ofW HT_.out HW_.out (by kernel_rfl)) (fun _ _ _ h => h) (Or.inl ⟨by rfl, ?_⟩) hHeld ?_ ?_
                    rotate_left
                    · rintro w' ⟨s0, s1, s2, s3, s4, s5, s6, s7, s8, s9, s10, s11, s12, s13, s14, s15⟩
                      go_simp
                      with_reducible rfl
                    rotate_left; focus (simp only [Act.put, List.setIfInBounds_toArray, List.set_cons_zero, List.set_cons_succ, i64_w, i32_w]; rfl)
                    refine take_ (i := 8) (N := some 43) (v := ?_) (a' := ?_) #[true, true, true, true, true, true, true, false, true, false, false, false, false, false, false, false, false, false, false, false, false, false, false, false, false, false, false] rfl rfl (take_ofW HT_.out HW_.out (by kernel_rfl)) (fun _ _ _ h => h) (Or.inl ⟨by rfl, ?_⟩) hHeld ?_ ?_
                    rotate_left
                    · rintro w' ⟨s0, s1, s2, s3, s4, s5, s6, s7, s8, s9, s10, s11, s12, s13, s14, s15⟩
                      go_simp
                      with_reducible rfl
                    rotate_left; focus (simp only [Act.put, List.setIfInBounds_toArray, List.set_cons_zero, List.set_cons_succ, i64_w, i32_w]; rfl)
                    refine one_ (i := 7) (N := some 42) #[true, true, true, true, true, true, true, true, true, false, false, false, false, false, false, false, false, false, false, false, false, false, false, false, false, false, false] rfl rfl (one_of HT_.out (by kernel_rfl)) (by decide) (fun K hK => ?_)
                    refine goes_ Try.func11 (by kernel_rfl) rfl #[.agg #[.bool true, .int .i64 a1_1, .int .i64 a1_2, .int .i64 a1_3, .bool a1_4, .int .i64 a1_5, .int .i64 a1_6, .int .i64 a1_7]] (by rfl) rfl rfl (by (try simp only [List.map_toArray, List.map_cons, List.map_nil]); first | done | rfl | (simp only [List.length_drop, List.length_take]; rfl)) ?_
                    with_reducible refine (job_Left.calls true a1_1 a1_2 a1_3 a1_4 a1_5 a1_6 a1_7 t195 _ A27.out).mono ?_
                    rintro e w55 ⟨rfl, hb⟩
                    refine ⟨_, rfl, ?_⟩
                    have n0_ := bb BK188 hb
                    have n1_ := bb BK189 hb
                    have n2_ := bb BK192 hb
                    have n3_ := bs HB hb
                    clear BK188
                    clear BK189
                    clear BK192
                    clear HB
                    have BK188 := n0_
                    have BK189 := n1_
                    have BK192 := n2_
                    have HB := n3_
                    clear n0_ n1_ n2_ n3_
                    (try clear hb)
                    (try clear hb2)
                    (try clear hk)
                    (try clear hi)
                    refine hK.out _ _ ⟨(blk_cell BK192.out 0).trans rfl, (blk_cell BK192.out 1).trans rfl, (blk_cell BK192.out 2).trans rfl, (blk_cell BK192.out 3).trans rfl, (blk_cell BK192.out 4).trans rfl, (blk_cell BK192.out 5).trans rfl, (blk_cell BK192.out 6).trans rfl, (blk_cell BK192.out 7).trans rfl, (blk_cell BK189.out 0).trans rfl, (blk_cell BK189.out 1).trans rfl, (blk_cell BK189.out 2).trans rfl, (blk_cell BK189.out 3).trans rfl, (blk_cell BK189.out 4).trans rfl, (blk_cell BK189.out 5).trans rfl, (blk_cell BK189.out 6).trans rfl, (blk_cell BK189.out 7).trans rfl⟩ (fun hHeld => ?_)
                    clear hK K
                    refine norm_ (a' := ?_) ?_ ?_
                    rotate_left
                    · show Act.put _ (some 42) _ = _
                      simp only [Act.put, List.setIfInBounds_toArray, List.set_cons_zero, List.set_cons_succ, i64_w, i32_w]
                      rfl
                    refine one_ (i := 9) (N := some 44) #[true, true, true, true, true, true, true, true, true, true, false, false, false, false, false, false, false, false, false, false, false, false, false, false, false, false, false] rfl rfl (one_of HT_.out (by kernel_rfl)) (by decide) (fun K hK => ?_)
                    refine goes_ Try.func12 (by kernel_rfl) rfl #[.agg #[.bool true, .int .i64 a1_1, .int .i64 a1_2, .int .i64 a1_3, .bool a1_4, .int .i64 a1_5, .int .i64 a1_6, .int .i64 a1_7]] (by rfl) rfl rfl (by (try simp only [List.map_toArray, List.map_cons, List.map_nil]); first | done | rfl | (simp only [List.length_drop, List.length_take]; rfl)) ?_
                    with_reducible refine (job_Worst.calls true a1_1 a1_2 a1_3 a1_4 a1_5 a1_6 a1_7 t196 _ A28.out).mono ?_
                    rintro e w56 ⟨rfl, hb⟩
                    refine ⟨_, rfl, ?_⟩
                    have n0_ := bb BK188 hb
                    have n1_ := bb BK189 hb
                    have n2_ := bb BK192 hb
                    have n3_ := bs HB hb
                    clear BK188
                    clear BK189
                    clear BK192
                    clear HB
                    have BK188 := n0_
                    have BK189 := n1_
                    have BK192 := n2_
                    have HB := n3_
                    clear n0_ n1_ n2_ n3_
                    (try clear hb)
                    (try clear hb2)
                    (try clear hk)
                    (try clear hi)
                    refine hK.out _ _ ⟨(blk_cell BK192.out 0).trans rfl, (blk_cell BK192.out 1).trans rfl, (blk_cell BK192.out 2).trans rfl, (blk_cell BK192.out 3).trans rfl, (blk_cell BK192.out 4).trans rfl, (blk_cell BK192.out 5).trans rfl, (blk_cell BK192.out 6).trans rfl, (blk_cell BK192.out 7).trans rfl, (blk_cell BK189.out 0).trans rfl, (blk_cell BK189.out 1).trans rfl, (blk_cell BK189.out 2).trans rfl, (blk_cell BK189.out 3).trans rfl, (blk_cell BK189.out 4).trans rfl, (blk_cell BK189.out 5).trans rfl, (blk_cell BK189.out 6).trans rfl, (blk_cell BK189.out 7).trans rfl⟩ (fun hHeld => ?_)
                    clear hK K
                    refine norm_ (a' := ?_) ?_ ?_
                    rotate_left
                    · show Act.put _ (some 44) _ = _
                      simp only [Act.put, List.setIfInBounds_toArray, List.set_cons_zero, List.set_cons_succ, i64_w, i32_w]
                      rfl
                    refine pure_ (i := 10) (N := some 45) (v := ?_) (a' := ?_) #[true, true, true, true, true, true, true, true, true, true, true, false, false, false, false, false, false, false, false, false, false, false, false, false, false, false, false] rfl rfl (any_of HT_.out (by kernel_rfl)) (fun _ _ _ h => h) (Or.inl ⟨by rfl, ?_⟩) ?_ ?_
                    rotate_left; focus (intro w'; go_simp; with_reducible rfl)
                    rotate_left; focus (simp only [Act.put, List.setIfInBounds_toArray, List.set_cons_zero, List.set_cons_succ, i64_w, i32_w]; rfl)
                    refine pure_ (i := 11) (N := some 46) (v := ?_) (a' := ?_) #[true, true, true, true, true, true, true, true, true, true, true, true, false, false, false, false, false, false, false, false, false, false, false, false, false, false, false] rfl rfl (any_of HT_.out (by kernel_rfl)) (fun _ _ _ h => h) (Or.inl ⟨by rfl, ?_⟩) ?_ ?_
                    rotate_left; focus (intro w'; go_simp; with_reducible rfl)
                    rotate_left; focus (simp only [Act.put, List.setIfInBounds_toArray, List.set_cons_zero, List.set_cons_succ, i64_w, i32_w]; rfl)
                    refine pure_ (i := 12) (N := some 47) (v := ?_) (a' := ?_) #[true, true, true, true, true, true, true, true, true, true, true, true, true, false, false, false, false, false, false, false, false, false, false, false, false, false, false] rfl rfl (any_of HT_.out (by kernel_rfl)) (fun _ _ _ h => h) (Or.inl ⟨by rfl, ?_⟩) ?_ ?_
                    rotate_left; focus (intro w'; go_simp; with_reducible rfl)
                    rotate_left; focus (simp only [Act.put, List.setIfInBounds_toArray, List.set_cons_zero, List.set_cons_succ, i64_w, i32_w]; rfl)
                    refine pure_ (i := 13) (N := some 48) (v := ?_) (a' := ?_) #[true, true, true, true, true, true, true, true, true, true, true, true, true, true, false, false, false, false, false, false, false, false, false, false, false, false, false] rfl rfl (any_of HT_.out (by kernel_rfl)) (fun _ _ _ h => h) (Or.inl ⟨by rfl, ?_⟩) ?_ ?_
                    rotate_left; focus (intro w'; go_simp; with_reducible rfl)
                    rotate_left; focus (simp only [Act.put, List.setIfInBounds_toArray, List.set_cons_zero, List.set_cons_succ, i64_w, i32_w]; rfl)
                    refine take_ (i := 14) (N := some 49) (v := ?_) (a' := ?_) #[true, true, true, true, true, true, true, true, true, true, true, true, true, true, true, false, false, false, false, false, false, false, false, false, false, false, false] rfl rfl (take_ofW HT_.out HW_.out (by kernel_rfl)) (fun _ _ _ h => h) (Or.inl ⟨by rfl, ?_⟩) hHeld ?_ ?_
                    rotate_left
                    · rintro w' ⟨s0, s1, s2, s3, s4, s5, s6, s7, s8, s9, s10, s11, s12, s13, s14, s15⟩
                      go_simp
                      with_reducible rfl
                    rotate_left; focus (simp only [Act.put, List.setIfInBounds_toArray, List.set_cons_zero, List.set_cons_succ, i64_w, i32_w]; rfl)
                    refine pure_ (i := 15) (N := some 50) (v := ?_) (a' := ?_) #[true, true, true, true, true, true, true, true, true, true, true, true, true, true, true, true, false, false, false, false, false, false, false, false, false, false, false] rfl rfl (any_of HT_.out (by kernel_rfl)) (fun _ _ _ h => h) (Or.inl ⟨by rfl, ?_⟩) ?_ ?_
                    rotate_left; focus (intro w'; go_simp; with_reducible rfl)
                    rotate_left; focus (simp only [Act.put, List.setIfInBounds_toArray, List.set_cons_zero, List.set_cons_succ, i64_w, i32_w]; rfl)
                    refine pure_ (i := 16) (N := some 51) (v := ?_) (a' := ?_) #[true, true, true, true, true, true, true, true, true, true, true, true, true, true, true, true, true, false, false, false, false, false, false, false, false, false, false] rfl rfl (any_of HT_.out (by kernel_rfl)) (fun _ _ _ h => h) (Or.inl ⟨by rfl, ?_⟩) ?_ ?_
                    rotate_left; focus (intro w'; go_simp; with_reducible rfl)
                    rotate_left; focus (simp only [Act.put, List.setIfInBounds_toArray, List.set_cons_zero, List.set_cons_succ, i64_w, i32_w]; rfl)
                    refine pure_ (i := 17) (N := some 52) (v := undef) (a' := ?_) #[true, true, true, true, true, true, true, true, true, true, true, true, true, true, true, true, true, true, false, false, false, false, false, false, false, false, false] rfl rfl (any_of HT_.out (by kernel_rfl)) (fun _ _ _ h => h) (Or.inr ⟨by rfl, rfl⟩) ?_ ?_
                    rotate_left; focus (simp only [Act.put, List.setIfInBounds_toArray, List.set_cons_zero, List.set_cons_succ, i64_w, i32_w]; rfl)
                    refine pure_ (i := 18) (N := some 53) (v := undef) (a' := ?_) #[true, true, true, true, true, true, true, true, true, true, true, true, true, true, true, true, true, true, true, false, false, false, false, false, false, false, false] rfl rfl (any_of HT_.out (by kernel_rfl)) (fun _ _ _ h => h) (Or.inr ⟨by rfl, rfl⟩) ?_ ?_
                    rotate_left; focus (simp only [Act.put, List.setIfInBounds_toArray, List.set_cons_zero, List.set_cons_succ, i64_w, i32_w]; rfl)
                    refine pure_ (i := 19) (N := some 54) (v := undef) (a' := ?_) #[true, true, true, true, true, true, true, true, true, true, true, true, true, true, true, true, true, true, true, true, false, false, false, false, false, false, false] rfl rfl (any_of HT_.out (by kernel_rfl)) (fun _ _ _ h => h) (Or.inr ⟨by rfl, rfl⟩) ?_ ?_
                    rotate_left; focus (simp only [Act.put, List.setIfInBounds_toArray, List.set_cons_zero, List.set_cons_succ, i64_w, i32_w]; rfl)
                    refine pure_ (i := 20) (N := some 55) (v := undef) (a' := ?_) #[true, true, true, true, true, true, true, true, true, true, true, true, true, true, true, true, true, true, true, true, true, false, false, false, false, false, false] rfl rfl (any_of HT_.out (by kernel_rfl)) (fun _ _ _ h => h) (Or.inr ⟨by rfl, rfl⟩) ?_ ?_
                    rotate_left; focus (simp only [Act.put, List.setIfInBounds_toArray, List.set_cons_zero, List.set_cons_succ, i64_w, i32_w]; rfl)
                    refine pure_ (i := 21) (N := some 56) (v := undef) (a' := ?_) #[true, true, true, true, true, true, true, true, true, true, true, true, true, true, true, true, true, true, true, true, true, true, false, false, false, false, false] rfl rfl (any_of HT_.out (by kernel_rfl)) (fun _ _ _ h => h) (Or.inr ⟨by rfl, rfl⟩) ?_ ?_
                    rotate_left; focus (simp only [Act.put, List.setIfInBounds_toArray, List.set_cons_zero, List.set_cons_succ, i64_w, i32_w]; rfl)
                    refine pure_ (i := 22) (N := some 57) (v := undef) (a' := ?_) #[true, true, true, true, true, true, true, true, true, true, true, true, true, true, true, true, true, true, true, true, true, true, true, false, false, false, false] rfl rfl (any_of HT_.out (by kernel_rfl)) (fun _ _ _ h => h) (Or.inr ⟨by rfl, rfl⟩) ?_ ?_
                    rotate_left; focus (simp only [Act.put, List.setIfInBounds_toArray, List.set_cons_zero, List.set_cons_succ, i64_w, i32_w]; rfl)
                    refine pure_ (i := 23) (N := some 58) (v := undef) (a' := ?_) #[true, true, true, true, true, true, true, true, true, true, true, true, true, true, true, true, true, true, true, true, true, true, true, true, false, false, false] rfl rfl (any_of HT_.out (by kernel_rfl)) (fun _ _ _ h => h) (Or.inr ⟨by rfl, rfl⟩) ?_ ?_
                    rotate_left; focus (simp only [Act.put, List.setIfInBounds_toArray, List.set_cons_zero, List.set_cons_succ, i64_w, i32_w]; rfl)
                    refine pure_ (i := 24) (N := some 59) (v := undef) (a' := ?_) #[true, true, true, true, true, true, true, true, true, true, true, true, true, true, true, true, true, true, true, true, true, true, true, true, true, false, false] rfl rfl (any_of HT_.out (by kernel_rfl)) (fun _ _ _ h => h) (Or.inr ⟨by rfl, rfl⟩) ?_ ?_
                    rotate_left; focus (simp only [Act.put, List.setIfInBounds_toArray, List.set_cons_zero, List.set_cons_succ, i64_w, i32_w]; rfl)
                    refine pure_ (i := 25) (N := some 60) (v := ?_) (a' := ?_) #[true, true, true, true, true, true, true, true, true, true, true, true, true, true, true, true, true, true, true, true, true, true, true, true, true, true, false] rfl rfl (any_of HT_.out (by kernel_rfl)) (fun _ _ _ h => h) (Or.inl ⟨by rfl, ?_⟩) ?_ ?_
                    rotate_left; focus (intro w'; go_simp; with_reducible rfl)
                    rotate_left; focus (simp only [Act.put, List.setIfInBounds_toArray, List.set_cons_zero, List.set_cons_succ, i64_w, i32_w]; rfl)
                    refine pure_ (i := 26) (N := some 61) (v := ?_) (a' := ?_) #[true, true, true, true, true, true, true, true, true, true, true, true, true, true, true, true, true, true, true, true, true, true, true, true, true, true, true] rfl rfl (any_of HT_.out (by kernel_rfl)) (fun _ _ _ h => h) (Or.inl ⟨by rfl, ?_⟩) ?_ ?_
                    rotate_left; focus (intro w'; go_simp; with_reducible rfl)
                    rotate_left; focus (simp only [Act.put, List.setIfInBounds_toArray, List.set_cons_zero, List.set_cons_succ, i64_w, i32_w]; rfl)
                    refine done_ (done_of HT_.out (by kernel_rfl)) ?_
                    obtain ⟨hcz57_0, hcz57_1, hcz57_2, hcz57_3, hcz57_4, hcz57_5, hcz57_6, hcz57_7⟩ := cc8 BK189
                    obtain ⟨hfz57_0, hfz57_1, hfz57_2, hfz57_3, hfz57_4, hfz57_5, hfz57_6, hfz57_7⟩ := cf8 BK189
                    try go_wp2_with (first | ((with_reducible refine gate_callee (f := 13) rfl ?_); refine goesL_ (some 64) rfl rfl Try.func13 (by kernel_rfl) rfl #[.agg #[.bool true, .int .i64 a1_1, .int .i64 a1_2, .int .i64 a1_3, .bool a1_4, .int .i64 a1_5, .int .i64 a1_6, .int .i64 a1_7]] rfl (by (try simp only [List.map_toArray, List.map_cons, List.map_nil]); first | done | rfl | (simp only [List.length_drop, List.length_take]; rfl)) ?_; (with_reducible refine (job_Step.calls true a1_1 a1_2 a1_3 a1_4 a1_5 a1_6 a1_7 t197 t198 t199 t200 t201 t202 t203 t204 t205 _ A31.out).mono ?_); rintro e w58 ⟨rfl, hb⟩; refine ⟨_, rfl, ?_⟩; have n0_ := bb BK188 hb; have n1_ := bb BK189 hb; have n2_ := bb BK192 hb; have n3_ := bs HB hb; clear BK188; clear BK189; clear BK192; clear HB; have BK188 := n0_; have BK189 := n1_; have BK192 := n2_; have HB := n3_; clear n0_ n1_ n2_ n3_; (try clear hb); (try clear hb2); (try clear hk); (try clear hi)) | ((with_reducible refine gate_dst (N := 9) rfl ?_); refine box_event ?hg (N := 9) ?hd (cs := #[.bool false, .int .i64 0, .int .i64 0, .int .i64 0, .bool false, .int .i64 0, .int .i64 0, .int .i64 0]) (t := 25) ?hr ?_; (case hd => rfl); (case hg => rfl); (case hr => first | (go_simp; done) | (go_simp; rfl)); intro gb206 hg w59 hbox hb; have n0_ := bb BK188 hb; have n1_ := bb BK189 hb; have n2_ := bb BK192 hb; have n3_ := bs HB hb; have n4_ := Aside0.mk (hbox); have n5_ := bz HB hg; have n6_ := bz HB hg; have n7_ := bl BK188 hg; have n8_ := bg BK188 hg; have n9_ := bl BK189 hg; have n10_ := bg BK189 hg; have n11_ := bl BK192 hg; have n12_ := bg BK192 hg; clear BK188; clear BK189; clear BK192; clear HB; have BK188 := n0_; have BK189 := n1_; have BK192 := n2_; have HB := n3_; have BK206 := n4_; have GW206 := n5_; have GE206 := n6_; have NB188_206 := n7_; have NB206_188 := n8_; have NB189_206 := n9_; have NB206_189 := n10_; have NB192_206 := n11_; have NB206_192 := n12_; clear n0_ n1_ n2_ n3_ n4_ n5_ n6_ n7_ n8_ n9_ n10_ n11_ n12_; clear hb hbox hg; have hnb60 := NB206_188.out; have hnc60 := NB188_206.out; have hnb61 := NB206_189.out; have hnc61 := NB189_206.out; have hnb62 := NB206_192.out; have hnc62 := NB192_206.out; (try clear hcz57_0 hcz57_1 hcz57_2 hcz57_3 hcz57_4 hcz57_5 hcz57_6 hcz57_7 hfz57_0 hfz57_1 hfz57_2 hfz57_3 hfz57_4 hfz57_5 hfz57_6 hfz57_7); obtain ⟨hcz63_0, hcz63_1, hcz63_2, hcz63_3, hcz63_4, hcz63_5, hcz63_6, hcz63_7⟩ := cc8 BK206; obtain ⟨hfz63_0, hfz63_1, hfz63_2, hfz63_3, hfz63_4, hfz63_5, hfz63_6, hfz63_7⟩ := cf8 BK206))
                    have n0_ : Aside0 (((((((((w59.setCell ⟨gb206, 0, none⟩ (.bool t197)).setCell ⟨gb206, 1, none⟩ (.int .i64 t198)).setCell ⟨gb206, 2, none⟩ (.int .i64 t199)).setCell ⟨gb206, 3, none⟩ (.int .i64 t200)).setCell ⟨gb206, 4, none⟩ (.bool t201)).setCell ⟨gb206, 5, none⟩ (.int .i64 t202)).setCell ⟨gb206, 6, none⟩ (.int .i64 t203)).setCell ⟨gb206, 7, none⟩ (.int .i64 t204)).heap[gb188]? = some (.cells #[.int .i64 a0_0, .int .i64 a0_1, .int .i64 a0_2, .int .i64 a0_3, .int .i64 a0_4, .int .i64 a0_5] 23 (0, 0))) := ⟨by (with_reducible repeat (first | refine bN ?_ _ | refine bD ?_ | refine bA ?_ _ | refine blk_far ?_ NB188_206.out _)); exact BK188.out⟩
                    have n1_ : Aside0 (((((((((w59.setCell ⟨gb206, 0, none⟩ (.bool t197)).setCell ⟨gb206, 1, none⟩ (.int .i64 t198)).setCell ⟨gb206, 2, none⟩ (.int .i64 t199)).setCell ⟨gb206, 3, none⟩ (.int .i64 t200)).setCell ⟨gb206, 4, none⟩ (.bool t201)).setCell ⟨gb206, 5, none⟩ (.int .i64 t202)).setCell ⟨gb206, 6, none⟩ (.int .i64 t203)).setCell ⟨gb206, 7, none⟩ (.int .i64 t204)).heap[gb189]? = some (.cells #[.bool true, .int .i64 a1_1, .int .i64 a1_2, .int .i64 a1_3, .bool a1_4, .int .i64 a1_5, .int .i64 a1_6, .int .i64 a1_7] 25 (0, 0))) := ⟨by (with_reducible repeat (first | refine bN ?_ _ | refine bD ?_ | refine bA ?_ _ | refine blk_far ?_ NB189_206.out _)); exact BK189.out⟩
                    have n2_ : Aside0 (((((((((w59.setCell ⟨gb206, 0, none⟩ (.bool t197)).setCell ⟨gb206, 1, none⟩ (.int .i64 t198)).setCell ⟨gb206, 2, none⟩ (.int .i64 t199)).setCell ⟨gb206, 3, none⟩ (.int .i64 t200)).setCell ⟨gb206, 4, none⟩ (.bool t201)).setCell ⟨gb206, 5, none⟩ (.int .i64 t202)).setCell ⟨gb206, 6, none⟩ (.int .i64 t203)).setCell ⟨gb206, 7, none⟩ (.int .i64 t204)).heap[gb192]? = some (.cells #[.bool true, .int .i64 a1_1, .int .i64 a1_2, .int .i64 a1_3, .bool a1_4, .int .i64 a1_5, .int .i64 (wrap64 (a1_6 + a2)), .int .i64 a1_7] 25 (0, 0))) := ⟨by (with_reducible repeat (first | refine bN ?_ _ | refine bD ?_ | refine bA ?_ _ | refine blk_far ?_ NB192_206.out _)); exact BK192.out⟩
                    have n3_ : Aside0 (((((((((w59.setCell ⟨gb206, 0, none⟩ (.bool t197)).setCell ⟨gb206, 1, none⟩ (.int .i64 t198)).setCell ⟨gb206, 2, none⟩ (.int .i64 t199)).setCell ⟨gb206, 3, none⟩ (.int .i64 t200)).setCell ⟨gb206, 4, none⟩ (.bool t201)).setCell ⟨gb206, 5, none⟩ (.int .i64 t202)).setCell ⟨gb206, 6, none⟩ (.int .i64 t203)).setCell ⟨gb206, 7, none⟩ (.int .i64 t204)).heap[gb206]? = some (.cells #[.bool t197, .int .i64 t198, .int .i64 t199, .int .i64 t200, .bool t201, .int .i64 t202, .int .i64 t203, .int .i64 t204] 25 (0, 0))) := ⟨by (with_reducible repeat (first | refine bN ?_ _ | refine bD ?_ | refine bA ?_ _)); refine blk_put (cs := #[.bool t197, .int .i64 t198, .int .i64 t199, .int .i64 t200, .bool t201, .int .i64 t202, .int .i64 t203, .int .i64 0]) ?_ 7 _ rfl; (with_reducible repeat (first | refine bN ?_ _ | refine bD ?_ | refine bA ?_ _)); refine blk_put (cs := #[.bool t197, .int .i64 t198, .int .i64 t199, .int .i64 t200, .bool t201, .int .i64 t202, .int .i64 0, .int .i64 0]) ?_ 6 _ rfl; (with_reducible repeat (first | refine bN ?_ _ | refine bD ?_ | refine bA ?_ _)); refine blk_put (cs := #[.bool t197, .int .i64 t198, .int .i64 t199, .int .i64 t200, .bool t201, .int .i64 0, .int .i64 0, .int .i64 0]) ?_ 5 _ rfl; (with_reducible repeat (first | refine bN ?_ _ | refine bD ?_ | refine bA ?_ _)); refine blk_put (cs := #[.bool t197, .int .i64 t198, .int .i64 t199, .int .i64 t200, .bool false, .int .i64 0, .int .i64 0, .int .i64 0]) ?_ 4 _ rfl; (with_reducible repeat (first | refine bN ?_ _ | refine bD ?_ | refine bA ?_ _)); refine blk_put (cs := #[.bool t197, .int .i64 t198, .int .i64 t199, .int .i64 0, .bool false, .int .i64 0, .int .i64 0, .int .i64 0]) ?_ 3 _ rfl; (with_reducible repeat (first | refine bN ?_ _ | refine bD ?_ | refine bA ?_ _)); refine blk_put (cs := #[.bool t197, .int .i64 t198, .int .i64 0, .int .i64 0, .bool false, .int .i64 0, .int .i64 0, .int .i64 0]) ?_ 2 _ rfl; (with_reducible repeat (first | refine bN ?_ _ | refine bD ?_ | refine bA ?_ _)); refine blk_put (cs := #[.bool t197, .int .i64 0, .int .i64 0, .int .i64 0, .bool false, .int .i64 0, .int .i64 0, .int .i64 0]) ?_ 1 _ rfl; (with_reducible repeat (first | refine bN ?_ _ | refine bD ?_ | refine bA ?_ _)); refine blk_put (cs := #[.bool false, .int .i64 0, .int .i64 0, .int .i64 0, .bool false, .int .i64 0, .int .i64 0, .int .i64 0]) ?_ 0 _ rfl; (with_reducible repeat (first | refine bN ?_ _ | refine bD ?_ | refine bA ?_ _)); exact BK206.out⟩
                    have n4_ : Aside0 (Below w.heap.size w ((((((((w59.setCell ⟨gb206, 0, none⟩ (.bool t197)).setCell ⟨gb206, 1, none⟩ (.int .i64 t198)).setCell ⟨gb206, 2, none⟩ (.int .i64 t199)).setCell ⟨gb206, 3, none⟩ (.int .i64 t200)).setCell ⟨gb206, 4, none⟩ (.bool t201)).setCell ⟨gb206, 5, none⟩ (.int .i64 t202)).setCell ⟨gb206, 6, none⟩ (.int .i64 t203)).setCell ⟨gb206, 7, none⟩ (.int .i64 t204))) := ⟨by repeat (first | (with_reducible first | exact HB.out | apply below_alloc | apply pw_below_drewN | apply below_drew1 | refine below_set ?_ GE188.out | refine below_set ?_ GE189.out | refine below_set ?_ GE192.out | refine below_set ?_ GE206.out) | exact HB.out)⟩
                    (try clear BK188)
                    (try clear BK189)
                    (try clear BK192)
                    (try clear BK206)
                    (try clear HB)
                    generalize ((((((((w59.setCell ⟨gb206, 0, none⟩ (.bool t197)).setCell ⟨gb206, 1, none⟩ (.int .i64 t198)).setCell ⟨gb206, 2, none⟩ (.int .i64 t199)).setCell ⟨gb206, 3, none⟩ (.int .i64 t200)).setCell ⟨gb206, 4, none⟩ (.bool t201)).setCell ⟨gb206, 5, none⟩ (.int .i64 t202)).setCell ⟨gb206, 6, none⟩ (.int .i64 t203)).setCell ⟨gb206, 7, none⟩ (.int .i64 t204)) = w64 at n0_ n1_ n2_ n3_ n4_ ⊢
                    have BK188 := n0_
                    have BK189 := n1_
                    have BK192 := n2_
                    have BK206 := n3_
                    have HB := n4_
                    clear n0_ n1_ n2_ n3_ n4_
                    have n0_ := Aside0.mk (blk_drew BK188.out)
                    have n1_ := Aside0.mk (blk_drew BK189.out)
                    have n2_ := Aside0.mk (blk_drew BK192.out)
                    have n3_ := Aside0.mk (blk_drew BK206.out)
                    have n4_ := Aside0.mk (below_drew1 HB.out)
                    clear BK188
                    clear BK189
                    clear BK192
                    clear BK206
                    clear HB
                    have BK188 := n0_
                    have BK189 := n1_
                    have BK192 := n2_
                    have BK206 := n3_
                    have HB := n4_
                    clear n0_ n1_ n2_ n3_ n4_
                    refine start_ (n := 19) (S := fun w' => w'.cell? ⟨gb206, 0, none⟩ = some (.bool t197) ∧ w'.cell? ⟨gb206, 1, none⟩ = some (.int .i64 t198) ∧ w'.cell? ⟨gb206, 2, none⟩ = some (.int .i64 t199) ∧ w'.cell? ⟨gb206, 3, none⟩ = some (.int .i64 t200) ∧ w'.cell? ⟨gb206, 4, none⟩ = some (.bool t201) ∧ w'.cell? ⟨gb206, 5, none⟩ = some (.int .i64 t202) ∧ w'.cell? ⟨gb206, 6, none⟩ = some (.int .i64 t203) ∧ w'.cell? ⟨gb206, 7, none⟩ = some (.int .i64 t204) ∧ w'.cell? ⟨gb189, 0, none⟩ = some (.bool true) ∧ w'.cell? ⟨gb189, 1, none⟩ = some (.int .i64 a1_1) ∧ w'.cell? ⟨gb189, 2, none⟩ = some (.int .i64 a1_2) ∧ w'.cell? ⟨gb189, 3, none⟩ = some (.int .i64 a1_3) ∧ w'.cell? ⟨gb189, 4, none⟩ = some (.bool a1_4) ∧ w'.cell? ⟨gb189, 5, none⟩ = some (.int .i64 a1_5) ∧ w'.cell? ⟨gb189, 6, none⟩ = some (.int .i64 a1_6) ∧ w'.cell? ⟨gb189, 7, none⟩ = some (.int .i64 a1_7)) (ds := []) #[false, false, false, false, false, false, false, false, false, false, false, false, false, false, false, false, false, false, false] (by kernel_rfl) rfl rfl ⟨(blk_cell BK206.out 0).trans rfl, (blk_cell BK206.out 1).trans rfl, (blk_cell BK206.out 2).trans rfl, (blk_cell BK206.out 3).trans rfl, (blk_cell BK206.out 4).trans rfl, (blk_cell BK206.out 5).trans rfl, (blk_cell BK206.out 6).trans rfl, (blk_cell BK206.out 7).trans rfl, (blk_cell BK189.out 0).trans rfl, (blk_cell BK189.out 1).trans rfl, (blk_cell BK189.out 2).trans rfl, (blk_cell BK189.out 3).trans rfl, (blk_cell BK189.out 4).trans rfl, (blk_cell BK189.out 5).trans rfl, (blk_cell BK189.out 6).trans rfl, (blk_cell BK189.out 7).trans rfl⟩ (fun hHeld => ?_); refine with_tabW fuseelaw11_JobLong.tab9 fuseelaw11_JobLong.bits9 (fun HT_ HW_ => ?_)
                    generalize w64.drew = w65 at BK188 BK189 BK192 BK206 HB hHeld ⊢
                    refine pure_ (i := 0) (N := some 67) (v := ?_) (a' := ?_) #[true, false, false, false, false, false, false, false, false, false, false, false, false, false, false, false, false, false, false] rfl rfl (any_of HT_.out (by kernel_rfl)) (fun _ _ _ h => h) (Or.inl ⟨by rfl, ?_⟩) ?_ ?_
                    rotate_left; focus (intro w'; go_simp; with_reducible rfl)
                    rotate_left; focus (simp only [Act.put, List.setIfInBounds_toArray, List.set_cons_zero, List.set_cons_succ, i64_w, i32_w]; rfl)
                    refine pure_ (i := 1) (N := some 68) (v := ?_) (a' := ?_) #[true, true, false, false, false, false, false, false, false, false, false, false, false, false, false, false, false, false, false] rfl rfl (any_of HT_.out (by kernel_rfl)) (fun _ _ _ h => h) (Or.inl ⟨by rfl, ?_⟩) ?_ ?_
                    rotate_left; focus (intro w'; go_simp; with_reducible rfl)
                    rotate_left; focus (simp only [Act.put, List.setIfInBounds_toArray, List.set_cons_zero, List.set_cons_succ, i64_w, i32_w]; rfl)
                    refine pure_ (i := 2) (N := some 69) (v := ?_) (a' := ?_) #[true, true, true, false, false, false, false, false, false, false, false, false, false, false, false, false, false, false, false] rfl rfl (any_of HT_.out (by kernel_rfl)) (fun _ _ _ h => h) (Or.inl ⟨by rfl, ?_⟩) ?_ ?_
                    rotate_left; focus (intro w'; go_simp; with_reducible rfl)
                    rotate_left; focus (simp only [Act.put, List.setIfInBounds_toArray, List.set_cons_zero, List.set_cons_succ, i64_w, i32_w]; rfl)
                    refine take_ (i := 3) (N := some 70) (v := ?_) (a' := ?_) #[true, true, true, true, false, false, false, false, false, false, false, false, false, false, false, false, false, false, false] rfl rfl (take_ofW HT_.out HW_.out (by kernel_rfl)) (fun _ _ _ h => h) (Or.inl ⟨by rfl, ?_⟩) hHeld ?_ ?_
                    rotate_left
                    · rintro w' ⟨s0, s1, s2, s3, s4, s5, s6, s7, s8, s9, s10, s11, s12, s13, s14, s15⟩
                      go_simp
                      with_reducible rfl
                    rotate_left; focus (simp only [Act.put, List.setIfInBounds_toArray, List.set_cons_zero, List.set_cons_succ, i64_w, i32_w]; rfl)
                    refine take_ (i := 5) (N := some 72) (v := ?_) (a' := ?_) #[true, true, true, true, false, true, false, false, false, false, false, false, false, false, false, false, false, false, false] rfl rfl (take_ofW HT_.out HW_.out (by kernel_rfl)) (fun _ _ _ h => h) (Or.inl ⟨by rfl, ?_⟩) hHeld ?_ ?_
                    rotate_left
                    · rintro w' ⟨s0, s1, s2, s3, s4, s5, s6, s7, s8, s9, s10, s11, s12, s13, s14, s15⟩
                      go_simp
                      with_reducible rfl
                    rotate_left; focus (simp only [Act.put, List.setIfInBounds_toArray, List.set_cons_zero, List.set_cons_succ, i64_w, i32_w]; rfl)
                    refine one_ (i := 4) (N := some 71) #[true, true, true, true, true, true, false, false, false, false, false, false, false, false, false, false, false, false, false] rfl rfl (one_of HT_.out (by kernel_rfl)) (by decide) (fun K hK => ?_)
                    refine goes_ Try.func12 (by kernel_rfl) rfl #[.agg #[.bool t197, .int .i64 t198, .int .i64 t199, .int .i64 t200, .bool t201, .int .i64 t202, .int .i64 t203, .int .i64 t204]] (by rfl) rfl rfl (by (try simp only [List.map_toArray, List.map_cons, List.map_nil]); first | done | rfl | (simp only [List.length_drop, List.length_take]; rfl)) ?_
                    with_reducible refine (job_Worst.calls t197 t198 t199 t200 t201 t202 t203 t204 t207 _ A33.out).mono ?_
                    rintro e w66 ⟨rfl, hb⟩
                    refine ⟨_, rfl, ?_⟩
                    have n0_ := bb BK188 hb
                    have n1_ := bb BK189 hb
                    have n2_ := bb BK192 hb
                    have n3_ := bb BK206 hb
                    have n4_ := bs HB hb
                    clear BK188
                    clear BK189
                    clear BK192
                    clear BK206
                    clear HB
                    have BK188 := n0_
                    have BK189 := n1_
                    have BK192 := n2_
                    have BK206 := n3_
                    have HB := n4_
                    clear n0_ n1_ n2_ n3_ n4_
                    (try clear hb)
                    (try clear hb2)
                    (try clear hk)
                    (try clear hi)
                    refine hK.out _ _ ⟨(blk_cell BK206.out 0).trans rfl, (blk_cell BK206.out 1).trans rfl, (blk_cell BK206.out 2).trans rfl, (blk_cell BK206.out 3).trans rfl, (blk_cell BK206.out 4).trans rfl, (blk_cell BK206.out 5).trans rfl, (blk_cell BK206.out 6).trans rfl, (blk_cell BK206.out 7).trans rfl, (blk_cell BK189.out 0).trans rfl, (blk_cell BK189.out 1).trans rfl, (blk_cell BK189.out 2).trans rfl, (blk_cell BK189.out 3).trans rfl, (blk_cell BK189.out 4).trans rfl, (blk_cell BK189.out 5).trans rfl, (blk_cell BK189.out 6).trans rfl, (blk_cell BK189.out 7).trans rfl⟩ (fun hHeld => ?_)
                    clear hK K
                    refine norm_ (a' := ?_) ?_ ?_
                    rotate_left
                    · show Act.put _ (some 71) _ = _
                      simp only [Act.put, List.setIfInBounds_toArray, List.set_cons_zero, List.set_cons_succ, i64_w, i32_w]
                      rfl
                    refine one_ (i := 6) (N := some 73) #[true, true, true, true, true, true, true, false, false, false, false, false, false, false, false, false, false, false, false] rfl rfl (one_of HT_.out (by kernel_rfl)) (by decide) (fun K hK => ?_)
                    refine goes_ Try.func12 (by kernel_rfl) rfl #[.agg #[.bool true, .int .i64 a1_1, .int .i64 a1_2, .int .i64 a1_3, .bool a1_4, .int .i64 a1_5, .int .i64 a1_6, .int .i64 a1_7]] (by rfl) rfl rfl (by (try simp only [List.map_toArray, List.map_cons, List.map_nil]); first | done | rfl | (simp only [List.length_drop, List.length_take]; rfl)) ?_
                    with_reducible refine (job_Worst.calls true a1_1 a1_2 a1_3 a1_4 a1_5 a1_6 a1_7 t208 _ A34.out).mono ?_
                    rintro e w67 ⟨rfl, hb⟩
                    refine ⟨_, rfl, ?_⟩
                    have n0_ := bb BK188 hb
                    have n1_ := bb BK189 hb
                    have n2_ := bb BK192 hb
                    have n3_ := bb BK206 hb
                    have n4_ := bs HB hb
                    clear BK188
                    clear BK189
                    clear BK192
                    clear BK206
                    clear HB
                    have BK188 := n0_
                    have BK189 := n1_
                    have BK192 := n2_
                    have BK206 := n3_
                    have HB := n4_
                    clear n0_ n1_ n2_ n3_ n4_
                    (try clear hb)
                    (try clear hb2)
                    (try clear hk)
                    (try clear hi)
                    refine hK.out _ _ ⟨(blk_cell BK206.out 0).trans rfl, (blk_cell BK206.out 1).trans rfl, (blk_cell BK206.out 2).trans rfl, (blk_cell BK206.out 3).trans rfl, (blk_cell BK206.out 4).trans rfl, (blk_cell BK206.out 5).trans rfl, (blk_cell BK206.out 6).trans rfl, (blk_cell BK206.out 7).trans rfl, (blk_cell BK189.out 0).trans rfl, (blk_cell BK189.out 1).trans rfl, (blk_cell BK189.out 2).trans rfl, (blk_cell BK189.out 3).trans rfl, (blk_cell BK189.out 4).trans rfl, (blk_cell BK189.out 5).trans rfl, (blk_cell BK189.out 6).trans rfl, (blk_cell BK189.out 7).trans rfl⟩ (fun hHeld => ?_)
                    clear hK K
                    refine norm_ (a' := ?_) ?_ ?_
                    rotate_left
                    · show Act.put _ (some 73) _ = _
                      simp only [Act.put, List.setIfInBounds_toArray, List.set_cons_zero, List.set_cons_succ, i64_w, i32_w]
                      rfl
                    refine pure_ (i := 7) (N := some 74) (v := ?_) (a' := ?_) #[true, true, true, true, true, true, true, true, false, false, false, false, false, false, false, false, false, false, false] rfl rfl (any_of HT_.out (by kernel_rfl)) (fun _ _ _ h => h) (Or.inl ⟨by rfl, ?_⟩) ?_ ?_
                    rotate_left; focus (intro w'; go_simp; with_reducible rfl)
                    rotate_left; focus (simp only [Act.put, List.setIfInBounds_toArray, List.set_cons_zero, List.set_cons_succ, i64_w, i32_w]; rfl)
                    refine pure_ (i := 8) (N := some 75) (v := ?_) (a' := ?_) #[true, true, true, true, true, true, true, true, true, false, false, false, false, false, false, false, false, false, false] rfl rfl (any_of HT_.out (by kernel_rfl)) (fun _ _ _ h => h) (Or.inl ⟨by rfl, ?_⟩) ?_ ?_
                    rotate_left; focus (intro w'; go_simp; with_reducible rfl)
                    rotate_left; focus (simp only [Act.put, List.setIfInBounds_toArray, List.set_cons_zero, List.set_cons_succ, i64_w, i32_w]; rfl)
                    refine pure_ (i := 9) (N := some 76) (v := ?_) (a' := ?_) #[true, true, true, true, true, true, true, true, true, true, false, false, false, false, false, false, false, false, false] rfl rfl (any_of HT_.out (by kernel_rfl)) (fun _ _ _ h => h) (Or.inl ⟨by rfl, ?_⟩) ?_ ?_
                    rotate_left; focus (intro w'; go_simp; with_reducible rfl)
                    rotate_left; focus (simp only [Act.put, List.setIfInBounds_toArray, List.set_cons_zero, List.set_cons_succ, i64_w, i32_w]; rfl)
                    refine take_ (i := 10) (N := some 77) (v := ?_) (a' := ?_) #[true, true, true, true, true, true, true, true, true, true, true, false, false, false, false, false, false, false, false] rfl rfl (take_ofW HT_.out HW_.out (by kernel_rfl)) (fun _ _ _ h => h) (Or.inl ⟨by rfl, ?_⟩) hHeld ?_ ?_
                    rotate_left
                    · rintro w' ⟨s0, s1, s2, s3, s4, s5, s6, s7, s8, s9, s10, s11, s12, s13, s14, s15⟩
                      go_simp
                      with_reducible rfl
                    rotate_left; focus (simp only [Act.put, List.setIfInBounds_toArray, List.set_cons_zero, List.set_cons_succ, i64_w, i32_w]; rfl)
                    refine take_ (i := 12) (N := some 79) (v := ?_) (a' := ?_) #[true, true, true, true, true, true, true, true, true, true, true, false, true, false, false, false, false, false, false] rfl rfl (take_ofW HT_.out HW_.out (by kernel_rfl)) (fun _ _ _ h => h) (Or.inl ⟨by rfl, ?_⟩) hHeld ?_ ?_
                    rotate_left
                    · rintro w' ⟨s0, s1, s2, s3, s4, s5, s6, s7, s8, s9, s10, s11, s12, s13, s14, s15⟩
                      go_simp
                      with_reducible rfl
                    rotate_left; focus (simp only [Act.put, List.setIfInBounds_toArray, List.set_cons_zero, List.set_cons_succ, i64_w, i32_w]; rfl)
                    refine one_ (i := 11) (N := some 78) #[true, true, true, true, true, true, true, true, true, true, true, true, true, false, false, false, false, false, false] rfl rfl (one_of HT_.out (by kernel_rfl)) (by decide) (fun K hK => ?_)
                    refine goes_ Try.func11 (by kernel_rfl) rfl #[.agg #[.bool t197, .int .i64 t198, .int .i64 t199, .int .i64 t200, .bool t201, .int .i64 t202, .int .i64 t203, .int .i64 t204]] (by rfl) rfl rfl (by (try simp only [List.map_toArray, List.map_cons, List.map_nil]); first | done | rfl | (simp only [List.length_drop, List.length_take]; rfl)) ?_
                    with_reducible refine (job_Left.calls t197 t198 t199 t200 t201 t202 t203 t204 t209 _ A36.out).mono ?_
                    rintro e w68 ⟨rfl, hb⟩
                    refine ⟨_, rfl, ?_⟩
                    have n0_ := bb BK188 hb
                    have n1_ := bb BK189 hb
                    have n2_ := bb BK192 hb
                    have n3_ := bb BK206 hb
                    have n4_ := bs HB hb
                    clear BK188
                    clear BK189
                    clear BK192
                    clear BK206
                    clear HB
                    have BK188 := n0_
                    have BK189 := n1_
                    have BK192 := n2_
                    have BK206 := n3_
                    have HB := n4_
                    clear n0_ n1_ n2_ n3_ n4_
                    (try clear hb)
                    (try clear hb2)
                    (try clear hk)
                    (try clear hi)
                    refine hK.out _ _ ⟨(blk_cell BK206.out 0).trans rfl, (blk_cell BK206.out 1).trans rfl, (blk_cell BK206.out 2).trans rfl, (blk_cell BK206.out 3).trans rfl, (blk_cell BK206.out 4).trans rfl, (blk_cell BK206.out 5).trans rfl, (blk_cell BK206.out 6).trans rfl, (blk_cell BK206.out 7).trans rfl, (blk_cell BK189.out 0).trans rfl, (blk_cell BK189.out 1).trans rfl, (blk_cell BK189.out 2).trans rfl, (blk_cell BK189.out 3).trans rfl, (blk_cell BK189.out 4).trans rfl, (blk_cell BK189.out 5).trans rfl, (blk_cell BK189.out 6).trans rfl, (blk_cell BK189.out 7).trans rfl⟩ (fun hHeld => ?_)
                    clear hK K
                    refine norm_ (a' := ?_) ?_ ?_
                    rotate_left
                    · show Act.put _ (some 78) _ = _
                      simp only [Act.put, List.setIfInBounds_toArray, List.set_cons_zero, List.set_cons_succ, i64_w, i32_w]
                      rfl
                    refine one_ (i := 13) (N := some 80) #[true, true, true, true, true, true, true, true, true, true, true, true, true, true, false, false, false, false, false] rfl rfl (one_of HT_.out (by kernel_rfl)) (by decide) (fun K hK => ?_)
                    refine goes_ Try.func11 (by kernel_rfl) rfl #[.agg #[.bool true, .int .i64 a1_1, .int .i64 a1_2, .int .i64 a1_3, .bool a1_4, .int .i64 a1_5, .int .i64 a1_6, .int .i64 a1_7]] (by rfl) rfl rfl (by (try simp only [List.map_toArray, List.map_cons, List.map_nil]); first | done | rfl | (simp only [List.length_drop, List.length_take]; rfl)) ?_
                    with_reducible refine (job_Left.calls true a1_1 a1_2 a1_3 a1_4 a1_5 a1_6 a1_7 t210 _ A37.out).mono ?_
                    rintro e w69 ⟨rfl, hb⟩
                    refine ⟨_, rfl, ?_⟩
                    have n0_ := bb BK188 hb
                    have n1_ := bb BK189 hb
                    have n2_ := bb BK192 hb
                    have n3_ := bb BK206 hb
                    have n4_ := bs HB hb
                    clear BK188
                    clear BK189
                    clear BK192
                    clear BK206
                    clear HB
                    have BK188 := n0_
                    have BK189 := n1_
                    have BK192 := n2_
                    have BK206 := n3_
                    have HB := n4_
                    clear n0_ n1_ n2_ n3_ n4_
                    (try clear hb)
                    (try clear hb2)
                    (try clear hk)
                    (try clear hi)
                    refine hK.out _ _ ⟨(blk_cell BK206.out 0).trans rfl, (blk_cell BK206.out 1).trans rfl, (blk_cell BK206.out 2).trans rfl, (blk_cell BK206.out 3).trans rfl, (blk_cell BK206.out 4).trans rfl, (blk_cell BK206.out 5).trans rfl, (blk_cell BK206.out 6).trans rfl, (blk_cell BK206.out 7).trans rfl, (blk_cell BK189.out 0).trans rfl, (blk_cell BK189.out 1).trans rfl, (blk_cell BK189.out 2).trans rfl, (blk_cell BK189.out 3).trans rfl, (blk_cell BK189.out 4).trans rfl, (blk_cell BK189.out 5).trans rfl, (blk_cell BK189.out 6).trans rfl, (blk_cell BK189.out 7).trans rfl⟩ (fun hHeld => ?_)
                    clear hK K
                    refine norm_ (a' := ?_) ?_ ?_
                    rotate_left
                    · show Act.put _ (some 80) _ = _
                      simp only [Act.put, List.setIfInBounds_toArray, List.set_cons_zero, List.set_cons_succ, i64_w, i32_w]
                      rfl
                    refine pure_ (i := 14) (N := some 81) (v := ?_) (a' := ?_) #[true, true, true, true, true, true, true, true, true, true, true, true, true, true, true, false, false, false, false] rfl rfl (any_of HT_.out (by kernel_rfl)) (fun _ _ _ h => h) (Or.inl ⟨by rfl, ?_⟩) ?_ ?_
                    rotate_left; focus (intro w'; go_simp; with_reducible rfl)
                    rotate_left; focus (simp only [Act.put, List.setIfInBounds_toArray, List.set_cons_zero, List.set_cons_succ, i64_w, i32_w]; rfl)
                    refine pure_ (i := 15) (N := some 82) (v := ?_) (a' := ?_) #[true, true, true, true, true, true, true, true, true, true, true, true, true, true, true, true, false, false, false] rfl rfl (any_of HT_.out (by kernel_rfl)) (fun _ _ _ h => h) (Or.inl ⟨by rfl, ?_⟩) ?_ ?_
                    rotate_left; focus (intro w'; go_simp; with_reducible rfl)
                    rotate_left; focus (simp only [Act.put, List.setIfInBounds_toArray, List.set_cons_zero, List.set_cons_succ, i64_w, i32_w]; rfl)
                    refine pure_ (i := 16) (N := some 83) (v := ?_) (a' := ?_) #[true, true, true, true, true, true, true, true, true, true, true, true, true, true, true, true, true, false, false] rfl rfl (any_of HT_.out (by kernel_rfl)) (fun _ _ _ h => h) (Or.inl ⟨by rfl, ?_⟩) ?_ ?_
                    rotate_left; focus (intro w'; go_simp; with_reducible rfl)
                    rotate_left; focus (simp only [Act.put, List.setIfInBounds_toArray, List.set_cons_zero, List.set_cons_succ, i64_w, i32_w]; rfl)
                    refine pure_ (i := 17) (N := some 84) (v := ?_) (a' := ?_) #[true, true, true, true, true, true, true, true, true, true, true, true, true, true, true, true, true, true, false] rfl rfl (any_of HT_.out (by kernel_rfl)) (fun _ _ _ h => h) (Or.inl ⟨by rfl, ?_⟩) ?_ ?_
                    rotate_left; focus (intro w'; go_simp; with_reducible rfl)
                    rotate_left; focus (simp only [Act.put, List.setIfInBounds_toArray, List.set_cons_zero, List.set_cons_succ, i64_w, i32_w]; rfl)
                    refine pure_ (i := 18) (N := some 6) (v := ?_) (a' := ?_) #[true, true, true, true, true, true, true, true, true, true, true, true, true, true, true, true, true, true, true] rfl rfl (any_of HT_.out (by kernel_rfl)) (fun _ _ _ h => h) (Or.inl ⟨by rfl, ?_⟩) ?_ ?_
                    rotate_left; focus (intro w'; go_simp; with_reducible rfl)
                    rotate_left; focus (simp only [Act.put, List.setIfInBounds_toArray, List.set_cons_zero, List.set_cons_succ, i64_w, i32_w]; rfl)
                    refine done_ (done_of HT_.out (by kernel_rfl)) ?_
                    try go_wp2
                    go_ret
                    exact ⟨by first | rfl | (simp [errW_none, errW_some] <;> rfl) | (simp [*, errW_none, errW_some] <;> rfl) | (exfalso; contradiction), by repeat (first | (with_reducible first | exact HB.out | apply below_alloc | apply pw_below_drewN | apply below_drew1 | refine below_set ?_ GE188.out | refine below_set ?_ GE189.out | refine below_set ?_ GE192.out | refine below_set ?_ GE206.out) | exact HB.out)⟩
                  · rw [if_neg c35] at H
                    have c35b0 : (t207 == (wrap64 (t208 - 1))) = false := beq_eq_false_iff_ne.mpr c35
                    have c35b1 : (t207 != (wrap64 (t208 - 1))) = true := bne_iff_ne.mpr c35
                    exact absurd H (by simp)
                · rw [if_neg c32] at H
                  have c32b0 : (t205 == 0) = false := beq_eq_false_iff_ne.mpr c32
                  have c32b1 : (t205 != 0) = true := bne_iff_ne.mpr c32
                  obtain rfl := Option.some.inj H
                  go_enter Try.func5, Try.ntmps5
                  try go_wp2_with (first | ((with_reducible refine gate_dst (N := 3) rfl ?_); refine box_event ?hg (N := 3) ?hd (cs := #[.int .i64 a0_0, .int .i64 a0_1, .int .i64 a0_2, .int .i64 a0_3, .int .i64 a0_4, .int .i64 a0_5]) (t := 23) ?hr ?_; (case hd => rfl); (case hg => rfl); (case hr => first | (go_simp; done) | (go_simp; rfl)); intro gb188 hg w70 hbox hb; have n0_ := bs HB hb; have n1_ := Aside0.mk (hbox); have n2_ := bz HB hg; have n3_ := bz HB hg; clear HB; have HB := n0_; have BK188 := n1_; have GW188 := n2_; have GE188 := n3_; clear n0_ n1_ n2_ n3_; clear hb hbox hg) | ((with_reducible refine gate_dst (N := 4) rfl ?_); refine box_event ?hg (N := 4) ?hd (cs := #[.bool true, .int .i64 a1_1, .int .i64 a1_2, .int .i64 a1_3, .bool a1_4, .int .i64 a1_5, .int .i64 a1_6, .int .i64 a1_7]) (t := 25) ?hr ?_; (case hd => rfl); (case hg => rfl); (case hr => first | (go_simp; done) | (go_simp; rfl)); intro gb189 hg w71 hbox hb; have n0_ := bb BK188 hb; have n1_ := bs HB hb; have n2_ := Aside0.mk (hbox); have n3_ := bz HB hg; have n4_ := bz HB hg; have n5_ := bl BK188 hg; have n6_ := bg BK188 hg; clear BK188; clear HB; have BK188 := n0_; have HB := n1_; have BK189 := n2_; have GW189 := n3_; have GE189 := n4_; have NB188_189 := n5_; have NB189_188 := n6_; clear n0_ n1_ n2_ n3_ n4_ n5_ n6_; clear hb hbox hg) | ((with_reducible refine gate_callee (f := 8) rfl ?_); refine goesL_ (some 11) rfl rfl Try.func8 (by kernel_rfl) rfl #[] rfl (by (try simp only [List.map_toArray, List.map_cons, List.map_nil]); first | done | rfl | (simp only [List.length_drop, List.length_take]; rfl)) ?_; (with_reducible refine (fuseelaw11_awake.calls  true _ A4.out).mono ?_); rintro e w72 ⟨rfl, hb⟩; refine ⟨_, rfl, ?_⟩; have n0_ := bb BK188 hb; have n1_ := bb BK189 hb; have n2_ := bs HB hb; clear BK188; clear BK189; clear HB; have BK188 := n0_; have BK189 := n1_; have HB := n2_; clear n0_ n1_ n2_; (try clear hb); (try clear hb2); (try clear hk); (try clear hi); have hnb73 := NB188_189.out; have hnc73 := NB189_188.out; obtain ⟨hcz74_0, hcz74_1, hcz74_2, hcz74_3, hcz74_4, hcz74_5⟩ := cc6 BK188; obtain ⟨hfz74_0, hfz74_1, hfz74_2, hfz74_3, hfz74_4, hfz74_5⟩ := cf6 BK188; obtain ⟨hcz75_0, hcz75_1, hcz75_2, hcz75_3, hcz75_4, hcz75_5, hcz75_6, hcz75_7⟩ := cc8 BK189; obtain ⟨hfz75_0, hfz75_1, hfz75_2, hfz75_3, hfz75_4, hfz75_5, hfz75_6, hfz75_7⟩ := cf8 BK189) | (go_at_call 9; (with_reducible refine (job_May.calls a0_0 a0_1 a0_2 a0_3 a0_4 a0_5 true a1_1 a1_2 a1_3 a1_4 a1_5 a1_6 a1_7 true _ A6.out).mono ?_); rintro e w76 ⟨rfl, hb⟩; have n0_ := bb BK188 hb; have n1_ := bb BK189 hb; have n2_ := bs HB hb; clear BK188; clear BK189; clear HB; have BK188 := n0_; have BK189 := n1_; have HB := n2_; clear n0_ n1_ n2_; (try clear hb); (try clear hb2); (try clear hk); (try clear hi); (try clear hcz74_0 hcz74_1 hcz74_2 hcz74_3 hcz74_4 hcz74_5 hfz74_0 hfz74_1 hfz74_2 hfz74_3 hfz74_4 hfz74_5); (try clear hcz75_0 hcz75_1 hcz75_2 hcz75_3 hcz75_4 hcz75_5 hcz75_6 hcz75_7 hfz75_0 hfz75_1 hfz75_2 hfz75_3 hfz75_4 hfz75_5 hfz75_6 hfz75_7); obtain ⟨hcz77_0, hcz77_1, hcz77_2, hcz77_3, hcz77_4, hcz77_5, hcz77_6, hcz77_7⟩ := cc8 BK189; obtain ⟨hfz77_0, hfz77_1, hfz77_2, hfz77_3, hfz77_4, hfz77_5, hfz77_6, hfz77_7⟩ := cf8 BK189) | ((with_reducible refine gate_dst (N := 8) rfl ?_); refine box_event ?hg (N := 8) ?hd (cs := #[.bool false, .int .i64 0, .int .i64 0, .int .i64 0, .bool false, .int .i64 0, .int .i64 0, .int .i64 0]) (t := 25) ?hr ?_; (case hd => rfl); (case hg => rfl); (case hr => first | (go_simp; done) | (go_simp; rfl)); intro gb192 hg w78 hbox hb; have n0_ := bb BK188 hb; have n1_ := bb BK189 hb; have n2_ := bs HB hb; have n3_ := Aside0.mk (hbox); have n4_ := bz HB hg; have n5_ := bz HB hg; have n6_ := bl BK188 hg; have n7_ := bg BK188 hg; have n8_ := bl BK189 hg; have n9_ := bg BK189 hg; clear BK188; clear BK189; clear HB; have BK188 := n0_; have BK189 := n1_; have HB := n2_; have BK192 := n3_; have GW192 := n4_; have GE192 := n5_; have NB188_192 := n6_; have NB192_188 := n7_; have NB189_192 := n8_; have NB192_189 := n9_; clear n0_ n1_ n2_ n3_ n4_ n5_ n6_ n7_ n8_ n9_; clear hb hbox hg; have hnb79 := NB192_188.out; have hnc79 := NB188_192.out; have hnb80 := NB192_189.out; have hnc80 := NB189_192.out; (try clear hcz74_0 hcz74_1 hcz74_2 hcz74_3 hcz74_4 hcz74_5 hfz74_0 hfz74_1 hfz74_2 hfz74_3 hfz74_4 hfz74_5); (try clear hcz75_0 hcz75_1 hcz75_2 hcz75_3 hcz75_4 hcz75_5 hcz75_6 hcz75_7 hfz75_0 hfz75_1 hfz75_2 hfz75_3 hfz75_4 hfz75_5 hfz75_6 hfz75_7); (try clear hcz77_0 hcz77_1 hcz77_2 hcz77_3 hcz77_4 hcz77_5 hcz77_6 hcz77_7 hfz77_0 hfz77_1 hfz77_2 hfz77_3 hfz77_4 hfz77_5 hfz77_6 hfz77_7); obtain ⟨hcz81_0, hcz81_1, hcz81_2, hcz81_3, hcz81_4, hcz81_5, hcz81_6, hcz81_7⟩ := cc8 BK192; obtain ⟨hfz81_0, hfz81_1, hfz81_2, hfz81_3, hfz81_4, hfz81_5, hfz81_6, hfz81_7⟩ := cf8 BK192; obtain ⟨hcz82_0, hcz82_1, hcz82_2, hcz82_3, hcz82_4, hcz82_5, hcz82_6, hcz82_7⟩ := cc8 BK189; obtain ⟨hfz82_0, hfz82_1, hfz82_2, hfz82_3, hfz82_4, hfz82_5, hfz82_6, hfz82_7⟩ := cf8 BK189))
                  have n0_ : Aside0 ((((((((((w78.setCell ⟨gb192, 0, none⟩ (.bool true)).setCell ⟨gb192, 1, none⟩ (.int .i64 a1_1)).setCell ⟨gb192, 2, none⟩ (.int .i64 a1_2)).setCell ⟨gb192, 3, none⟩ (.int .i64 a1_3)).setCell ⟨gb192, 4, none⟩ (.bool a1_4)).setCell ⟨gb192, 5, none⟩ (.int .i64 a1_5)).setCell ⟨gb192, 6, none⟩ (.int .i64 a1_6)).setCell ⟨gb192, 7, none⟩ (.int .i64 a1_7)).setCell ⟨gb192, 6, none⟩ (.int .i64 (wrap64 (a1_6 + a2)))).heap[gb188]? = some (.cells #[.int .i64 a0_0, .int .i64 a0_1, .int .i64 a0_2, .int .i64 a0_3, .int .i64 a0_4, .int .i64 a0_5] 23 (0, 0))) := ⟨by (with_reducible repeat (first | refine bN ?_ _ | refine bD ?_ | refine bA ?_ _ | refine blk_far ?_ NB188_192.out _)); exact BK188.out⟩
                  have n1_ : Aside0 ((((((((((w78.setCell ⟨gb192, 0, none⟩ (.bool true)).setCell ⟨gb192, 1, none⟩ (.int .i64 a1_1)).setCell ⟨gb192, 2, none⟩ (.int .i64 a1_2)).setCell ⟨gb192, 3, none⟩ (.int .i64 a1_3)).setCell ⟨gb192, 4, none⟩ (.bool a1_4)).setCell ⟨gb192, 5, none⟩ (.int .i64 a1_5)).setCell ⟨gb192, 6, none⟩ (.int .i64 a1_6)).setCell ⟨gb192, 7, none⟩ (.int .i64 a1_7)).setCell ⟨gb192, 6, none⟩ (.int .i64 (wrap64 (a1_6 + a2)))).heap[gb189]? = some (.cells #[.bool true, .int .i64 a1_1, .int .i64 a1_2, .int .i64 a1_3, .bool a1_4, .int .i64 a1_5, .int .i64 a1_6, .int .i64 a1_7] 25 (0, 0))) := ⟨by (with_reducible repeat (first | refine bN ?_ _ | refine bD ?_ | refine bA ?_ _ | refine blk_far ?_ NB189_192.out _)); exact BK189.out⟩
                  have n2_ : Aside0 ((((((((((w78.setCell ⟨gb192, 0, none⟩ (.bool true)).setCell ⟨gb192, 1, none⟩ (.int .i64 a1_1)).setCell ⟨gb192, 2, none⟩ (.int .i64 a1_2)).setCell ⟨gb192, 3, none⟩ (.int .i64 a1_3)).setCell ⟨gb192, 4, none⟩ (.bool a1_4)).setCell ⟨gb192, 5, none⟩ (.int .i64 a1_5)).setCell ⟨gb192, 6, none⟩ (.int .i64 a1_6)).setCell ⟨gb192, 7, none⟩ (.int .i64 a1_7)).setCell ⟨gb192, 6, none⟩ (.int .i64 (wrap64 (a1_6 + a2)))).heap[gb192]? = some (.cells #[.bool true, .int .i64 a1_1, .int .i64 a1_2, .int .i64 a1_3, .bool a1_4, .int .i64 a1_5, .int .i64 (wrap64 (a1_6 + a2)), .int .i64 a1_7] 25 (0, 0))) := ⟨by (with_reducible repeat (first | refine bN ?_ _ | refine bD ?_ | refine bA ?_ _)); refine blk_put (cs := #[.bool true, .int .i64 a1_1, .int .i64 a1_2, .int .i64 a1_3, .bool a1_4, .int .i64 a1_5, .int .i64 a1_6, .int .i64 a1_7]) ?_ 6 _ rfl; (with_reducible repeat (first | refine bN ?_ _ | refine bD ?_ | refine bA ?_ _)); refine blk_put (cs := #[.bool true, .int .i64 a1_1, .int .i64 a1_2, .int .i64 a1_3, .bool a1_4, .int .i64 a1_5, .int .i64 a1_6, .int .i64 0]) ?_ 7 _ rfl; (with_reducible repeat (first | refine bN ?_ _ | refine bD ?_ | refine bA ?_ _)); refine blk_put (cs := #[.bool true, .int .i64 a1_1, .int .i64 a1_2, .int .i64 a1_3, .bool a1_4, .int .i64 a1_5, .int .i64 0, .int .i64 0]) ?_ 6 _ rfl; (with_reducible repeat (first | refine bN ?_ _ | refine bD ?_ | refine bA ?_ _)); refine blk_put (cs := #[.bool true, .int .i64 a1_1, .int .i64 a1_2, .int .i64 a1_3, .bool a1_4, .int .i64 0, .int .i64 0, .int .i64 0]) ?_ 5 _ rfl; (with_reducible repeat (first | refine bN ?_ _ | refine bD ?_ | refine bA ?_ _)); refine blk_put (cs := #[.bool true, .int .i64 a1_1, .int .i64 a1_2, .int .i64 a1_3, .bool false, .int .i64 0, .int .i64 0, .int .i64 0]) ?_ 4 _ rfl; (with_reducible repeat (first | refine bN ?_ _ | refine bD ?_ | refine bA ?_ _)); refine blk_put (cs := #[.bool true, .int .i64 a1_1, .int .i64 a1_2, .int .i64 0, .bool false, .int .i64 0, .int .i64 0, .int .i64 0]) ?_ 3 _ rfl; (with_reducible repeat (first | refine bN ?_ _ | refine bD ?_ | refine bA ?_ _)); refine blk_put (cs := #[.bool true, .int .i64 a1_1, .int .i64 0, .int .i64 0, .bool false, .int .i64 0, .int .i64 0, .int .i64 0]) ?_ 2 _ rfl; (with_reducible repeat (first | refine bN ?_ _ | refine bD ?_ | refine bA ?_ _)); refine blk_put (cs := #[.bool true, .int .i64 0, .int .i64 0, .int .i64 0, .bool false, .int .i64 0, .int .i64 0, .int .i64 0]) ?_ 1 _ rfl; (with_reducible repeat (first | refine bN ?_ _ | refine bD ?_ | refine bA ?_ _)); refine blk_put (cs := #[.bool false, .int .i64 0, .int .i64 0, .int .i64 0, .bool false, .int .i64 0, .int .i64 0, .int .i64 0]) ?_ 0 _ rfl; (with_reducible repeat (first | refine bN ?_ _ | refine bD ?_ | refine bA ?_ _)); exact BK192.out⟩
                  have n3_ : Aside0 (Below w.heap.size w (((((((((w78.setCell ⟨gb192, 0, none⟩ (.bool true)).setCell ⟨gb192, 1, none⟩ (.int .i64 a1_1)).setCell ⟨gb192, 2, none⟩ (.int .i64 a1_2)).setCell ⟨gb192, 3, none⟩ (.int .i64 a1_3)).setCell ⟨gb192, 4, none⟩ (.bool a1_4)).setCell ⟨gb192, 5, none⟩ (.int .i64 a1_5)).setCell ⟨gb192, 6, none⟩ (.int .i64 a1_6)).setCell ⟨gb192, 7, none⟩ (.int .i64 a1_7)).setCell ⟨gb192, 6, none⟩ (.int .i64 (wrap64 (a1_6 + a2))))) := ⟨by repeat (first | (with_reducible first | exact HB.out | apply below_alloc | apply pw_below_drewN | apply below_drew1 | refine below_set ?_ GE188.out | refine below_set ?_ GE189.out | refine below_set ?_ GE192.out) | exact HB.out)⟩
                  (try clear BK188)
                  (try clear BK189)
                  (try clear BK192)
                  (try clear HB)
                  generalize (((((((((w78.setCell ⟨gb192, 0, none⟩ (.bool true)).setCell ⟨gb192, 1, none⟩ (.int .i64 a1_1)).setCell ⟨gb192, 2, none⟩ (.int .i64 a1_2)).setCell ⟨gb192, 3, none⟩ (.int .i64 a1_3)).setCell ⟨gb192, 4, none⟩ (.bool a1_4)).setCell ⟨gb192, 5, none⟩ (.int .i64 a1_5)).setCell ⟨gb192, 6, none⟩ (.int .i64 a1_6)).setCell ⟨gb192, 7, none⟩ (.int .i64 a1_7)).setCell ⟨gb192, 6, none⟩ (.int .i64 (wrap64 (a1_6 + a2)))) = w83 at n0_ n1_ n2_ n3_ ⊢
                  have BK188 := n0_
                  have BK189 := n1_
                  have BK192 := n2_
                  have HB := n3_
                  clear n0_ n1_ n2_ n3_
                  have n0_ := Aside0.mk (blk_drew BK188.out)
                  have n1_ := Aside0.mk (blk_drew BK189.out)
                  have n2_ := Aside0.mk (blk_drew BK192.out)
                  have n3_ := Aside0.mk (below_drew1 HB.out)
                  clear BK188
                  clear BK189
                  clear BK192
                  clear HB
                  have BK188 := n0_
                  have BK189 := n1_
                  have BK192 := n2_
                  have HB := n3_
                  clear n0_ n1_ n2_ n3_
                  refine start_ (n := 27) (S := fun w' => w'.cell? ⟨gb192, 0, none⟩ = some (.bool true) ∧ w'.cell? ⟨gb192, 1, none⟩ = some (.int .i64 a1_1) ∧ w'.cell? ⟨gb192, 2, none⟩ = some (.int .i64 a1_2) ∧ w'.cell? ⟨gb192, 3, none⟩ = some (.int .i64 a1_3) ∧ w'.cell? ⟨gb192, 4, none⟩ = some (.bool a1_4) ∧ w'.cell? ⟨gb192, 5, none⟩ = some (.int .i64 a1_5) ∧ w'.cell? ⟨gb192, 6, none⟩ = some (.int .i64 (wrap64 (a1_6 + a2))) ∧ w'.cell? ⟨gb192, 7, none⟩ = some (.int .i64 a1_7) ∧ w'.cell? ⟨gb189, 0, none⟩ = some (.bool true) ∧ w'.cell? ⟨gb189, 1, none⟩ = some (.int .i64 a1_1) ∧ w'.cell? ⟨gb189, 2, none⟩ = some (.int .i64 a1_2) ∧ w'.cell? ⟨gb189, 3, none⟩ = some (.int .i64 a1_3) ∧ w'.cell? ⟨gb189, 4, none⟩ = some (.bool a1_4) ∧ w'.cell? ⟨gb189, 5, none⟩ = some (.int .i64 a1_5) ∧ w'.cell? ⟨gb189, 6, none⟩ = some (.int .i64 a1_6) ∧ w'.cell? ⟨gb189, 7, none⟩ = some (.int .i64 a1_7)) (ds := []) #[false, false, false, false, false, false, false, false, false, false, false, false, false, false, false, false, false, false, false, false, false, false, false, false, false, false, false] (by kernel_rfl) rfl rfl ⟨(blk_cell BK192.out 0).trans rfl, (blk_cell BK192.out 1).trans rfl, (blk_cell BK192.out 2).trans rfl, (blk_cell BK192.out 3).trans rfl, (blk_cell BK192.out 4).trans rfl, (blk_cell BK192.out 5).trans rfl, (blk_cell BK192.out 6).trans rfl, (blk_cell BK192.out 7).trans rfl, (blk_cell BK189.out 0).trans rfl, (blk_cell BK189.out 1).trans rfl, (blk_cell BK189.out 2).trans rfl, (blk_cell BK189.out 3).trans rfl, (blk_cell BK189.out 4).trans rfl, (blk_cell BK189.out 5).trans rfl, (blk_cell BK189.out 6).trans rfl, (blk_cell BK189.out 7).trans rfl⟩ (fun hHeld => ?_); refine with_tabW fuseelaw11_JobLong.tab6 fuseelaw11_JobLong.bits6 (fun HT_ HW_ => ?_)
                  generalize w83.drew = w84 at BK188 BK189 BK192 HB hHeld ⊢
                  refine take_ (i := 0) (N := some 35) (v := ?_) (a' := ?_) #[true, false, false, false, false, false, false, false, false, false, false, false, false, false, false, false, false, false, false, false, false, false, false, false, false, false, false] rfl rfl (take_ofW HT_.out HW_.out (by kernel_rfl)) (fun _ _ _ h => h) (Or.inl ⟨by rfl, ?_⟩) hHeld ?_ ?_
                  rotate_left
                  · rintro w' ⟨s0, s1, s2, s3, s4, s5, s6, s7, s8, s9, s10, s11, s12, s13, s14, s15⟩
                    go_simp
                    with_reducible rfl
                  rotate_left; focus (simp only [Act.put, List.setIfInBounds_toArray, List.set_cons_zero, List.set_cons_succ, i64_w, i32_w]; rfl)
                  refine take_ (i := 2) (N := some 37) (v := ?_) (a' := ?_) #[true, false, true, false, false, false, false, false, false, false, false, false, false, false, false, false, false, false, false, false, false, false, false, false, false, false, false] rfl rfl (take_ofW HT_.out HW_.out (by kernel_rfl)) (fun _ _ _ h => h) (Or.inl ⟨by rfl, ?_⟩) hHeld ?_ ?_
                  rotate_left
                  · rintro w' ⟨s0, s1, s2, s3, s4, s5, s6, s7, s8, s9, s10, s11, s12, s13, s14, s15⟩
                    go_simp
                    with_reducible rfl
                  rotate_left; focus (simp only [Act.put, List.setIfInBounds_toArray, List.set_cons_zero, List.set_cons_succ, i64_w, i32_w]; rfl)
                  refine one_ (i := 1) (N := some 36) #[true, true, true, false, false, false, false, false, false, false, false, false, false, false, false, false, false, false, false, false, false, false, false, false, false, false, false] rfl rfl (one_of HT_.out (by kernel_rfl)) (by decide) (fun K hK => ?_)
                  refine goes_ Try.func11 (by kernel_rfl) rfl #[.agg #[.bool true, .int .i64 a1_1, .int .i64 a1_2, .int .i64 a1_3, .bool a1_4, .int .i64 a1_5, .int .i64 (wrap64 (a1_6 + a2)), .int .i64 a1_7]] (by rfl) rfl rfl (by (try simp only [List.map_toArray, List.map_cons, List.map_nil]); first | done | rfl | (simp only [List.length_drop, List.length_take]; rfl)) ?_
                  with_reducible refine (job_Left.calls true a1_1 a1_2 a1_3 a1_4 a1_5 (wrap64 (a1_6 + a2)) a1_7 t193 _ A24.out).mono ?_
                  rintro e w85 ⟨rfl, hb⟩
                  refine ⟨_, rfl, ?_⟩
                  have n0_ := bb BK188 hb
                  have n1_ := bb BK189 hb
                  have n2_ := bb BK192 hb
                  have n3_ := bs HB hb
                  clear BK188
                  clear BK189
                  clear BK192
                  clear HB
                  have BK188 := n0_
                  have BK189 := n1_
                  have BK192 := n2_
                  have HB := n3_
                  clear n0_ n1_ n2_ n3_
                  (try clear hb)
                  (try clear hb2)
                  (try clear hk)
                  (try clear hi)
                  refine hK.out _ _ ⟨(blk_cell BK192.out 0).trans rfl, (blk_cell BK192.out 1).trans rfl, (blk_cell BK192.out 2).trans rfl, (blk_cell BK192.out 3).trans rfl, (blk_cell BK192.out 4).trans rfl, (blk_cell BK192.out 5).trans rfl, (blk_cell BK192.out 6).trans rfl, (blk_cell BK192.out 7).trans rfl, (blk_cell BK189.out 0).trans rfl, (blk_cell BK189.out 1).trans rfl, (blk_cell BK189.out 2).trans rfl, (blk_cell BK189.out 3).trans rfl, (blk_cell BK189.out 4).trans rfl, (blk_cell BK189.out 5).trans rfl, (blk_cell BK189.out 6).trans rfl, (blk_cell BK189.out 7).trans rfl⟩ (fun hHeld => ?_)
                  clear hK K
                  refine norm_ (a' := ?_) ?_ ?_
                  rotate_left
                  · show Act.put _ (some 36) _ = _
                    simp only [Act.put, List.setIfInBounds_toArray, List.set_cons_zero, List.set_cons_succ, i64_w, i32_w]
                    rfl
                  refine one_ (i := 3) (N := some 38) #[true, true, true, true, false, false, false, false, false, false, false, false, false, false, false, false, false, false, false, false, false, false, false, false, false, false, false] rfl rfl (one_of HT_.out (by kernel_rfl)) (by decide) (fun K hK => ?_)
                  refine goes_ Try.func11 (by kernel_rfl) rfl #[.agg #[.bool true, .int .i64 a1_1, .int .i64 a1_2, .int .i64 a1_3, .bool a1_4, .int .i64 a1_5, .int .i64 a1_6, .int .i64 a1_7]] (by rfl) rfl rfl (by (try simp only [List.map_toArray, List.map_cons, List.map_nil]); first | done | rfl | (simp only [List.length_drop, List.length_take]; rfl)) ?_
                  with_reducible refine (job_Left.calls true a1_1 a1_2 a1_3 a1_4 a1_5 a1_6 a1_7 t194 _ A25.out).mono ?_
                  rintro e w86 ⟨rfl, hb⟩
                  refine ⟨_, rfl, ?_⟩
                  have n0_ := bb BK188 hb
                  have n1_ := bb BK189 hb
                  have n2_ := bb BK192 hb
                  have n3_ := bs HB hb
                  clear BK188
                  clear BK189
                  clear BK192
                  clear HB
                  have BK188 := n0_
                  have BK189 := n1_
                  have BK192 := n2_
                  have HB := n3_
                  clear n0_ n1_ n2_ n3_
                  (try clear hb)
                  (try clear hb2)
                  (try clear hk)
                  (try clear hi)
                  refine hK.out _ _ ⟨(blk_cell BK192.out 0).trans rfl, (blk_cell BK192.out 1).trans rfl, (blk_cell BK192.out 2).trans rfl, (blk_cell BK192.out 3).trans rfl, (blk_cell BK192.out 4).trans rfl, (blk_cell BK192.out 5).trans rfl, (blk_cell BK192.out 6).trans rfl, (blk_cell BK192.out 7).trans rfl, (blk_cell BK189.out 0).trans rfl, (blk_cell BK189.out 1).trans rfl, (blk_cell BK189.out 2).trans rfl, (blk_cell BK189.out 3).trans rfl, (blk_cell BK189.out 4).trans rfl, (blk_cell BK189.out 5).trans rfl, (blk_cell BK189.out 6).trans rfl, (blk_cell BK189.out 7).trans rfl⟩ (fun hHeld => ?_)
                  clear hK K
                  refine norm_ (a' := ?_) ?_ ?_
                  rotate_left
                  · show Act.put _ (some 38) _ = _
                    simp only [Act.put, List.setIfInBounds_toArray, List.set_cons_zero, List.set_cons_succ, i64_w, i32_w]
                    rfl
                  refine pure_ (i := 4) (N := some 39) (v := ?_) (a' := ?_) #[true, true, true, true, true, false, false, false, false, false, false, false, false, false, false, false, false, false, false, false, false, false, false, false, false, false, false] rfl rfl (any_of HT_.out (by kernel_rfl)) (fun _ _ _ h => h) (Or.inl ⟨by rfl, ?_⟩) ?_ ?_
                  rotate_left; focus (intro w'; go_simp; with_reducible rfl)
                  rotate_left; focus (simp only [Act.put, List.setIfInBounds_toArray, List.set_cons_zero, List.set_cons_succ, i64_w, i32_w]; rfl)
                  refine pure_ (i := 5) (N := some 40) (v := ?_) (a' := ?_) #[true, true, true, true, true, true, false, false, false, false, false, false, false, false, false, false, false, false, false, false, false, false, false, false, false, false, false] rfl rfl (any_of HT_.out (by kernel_rfl)) (fun _ _ _ h => h) (Or.inl ⟨by rfl, ?_⟩) ?_ ?_
                  rotate_left; focus (intro w'; go_simp; with_reducible rfl)
                  rotate_left; focus (simp only [Act.put, List.setIfInBounds_toArray, List.set_cons_zero, List.set_cons_succ, i64_w, i32_w]; rfl)
                  refine take_ (i := 6) (N := some 41) (v := ?_) (a' := ?_) #[true, true, true, true, true, true, true, false, false, false, false, false, false, false, false, false, false, false, false, false, false, false, false, false, false, false, false] rfl rfl (take_ofW HT_.out HW_.out (by kernel_rfl)) (fun _ _ _ h => h) (Or.inl ⟨by rfl, ?_⟩) hHeld ?_ ?_
                  rotate_left
                  · rintro w' ⟨s0, s1, s2, s3, s4, s5, s6, s7, s8, s9, s10, s11, s12, s13, s14, s15⟩
                    go_simp
                    with_reducible rfl
                  rotate_left; focus (simp only [Act.put, List.setIfInBounds_toArray, List.set_cons_zero, List.set_cons_succ, i64_w, i32_w]; rfl)
                  refine take_ (i := 8) (N := some 43) (v := ?_) (a' := ?_) #[true, true, true, true, true, true, true, false, true, false, false, false, false, false, false, false, false, false, false, false, false, false, false, false, false, false, false] rfl rfl (take_ofW HT_.out HW_.out (by kernel_rfl)) (fun _ _ _ h => h) (Or.inl ⟨by rfl, ?_⟩) hHeld ?_ ?_
                  rotate_left
                  · rintro w' ⟨s0, s1, s2, s3, s4, s5, s6, s7, s8, s9, s10, s11, s12, s13, s14, s15⟩
                    go_simp
                    with_reducible rfl
                  rotate_left; focus (simp only [Act.put, List.setIfInBounds_toArray, List.set_cons_zero, List.set_cons_succ, i64_w, i32_w]; rfl)
                  refine one_ (i := 7) (N := some 42) #[true, true, true, true, true, true, true, true, true, false, false, false, false, false, false, false, false, false, false, false, false, false, false, false, false, false, false] rfl rfl (one_of HT_.out (by kernel_rfl)) (by decide) (fun K hK => ?_)
                  refine goes_ Try.func11 (by kernel_rfl) rfl #[.agg #[.bool true, .int .i64 a1_1, .int .i64 a1_2, .int .i64 a1_3, .bool a1_4, .int .i64 a1_5, .int .i64 a1_6, .int .i64 a1_7]] (by rfl) rfl rfl (by (try simp only [List.map_toArray, List.map_cons, List.map_nil]); first | done | rfl | (simp only [List.length_drop, List.length_take]; rfl)) ?_
                  with_reducible refine (job_Left.calls true a1_1 a1_2 a1_3 a1_4 a1_5 a1_6 a1_7 t195 _ A27.out).mono ?_
                  rintro e w87 ⟨rfl, hb⟩
                  refine ⟨_, rfl, ?_⟩
                  have n0_ := bb BK188 hb
                  have n1_ := bb BK189 hb
                  have n2_ := bb BK192 hb
                  have n3_ := bs HB hb
                  clear BK188
                  clear BK189
                  clear BK192
                  clear HB
                  have BK188 := n0_
                  have BK189 := n1_
                  have BK192 := n2_
                  have HB := n3_
                  clear n0_ n1_ n2_ n3_
                  (try clear hb)
                  (try clear hb2)
                  (try clear hk)
                  (try clear hi)
                  refine hK.out _ _ ⟨(blk_cell BK192.out 0).trans rfl, (blk_cell BK192.out 1).trans rfl, (blk_cell BK192.out 2).trans rfl, (blk_cell BK192.out 3).trans rfl, (blk_cell BK192.out 4).trans rfl, (blk_cell BK192.out 5).trans rfl, (blk_cell BK192.out 6).trans rfl, (blk_cell BK192.out 7).trans rfl, (blk_cell BK189.out 0).trans rfl, (blk_cell BK189.out 1).trans rfl, (blk_cell BK189.out 2).trans rfl, (blk_cell BK189.out 3).trans rfl, (blk_cell BK189.out 4).trans rfl, (blk_cell BK189.out 5).trans rfl, (blk_cell BK189.out 6).trans rfl, (blk_cell BK189.out 7).trans rfl⟩ (fun hHeld => ?_)
                  clear hK K
                  refine norm_ (a' := ?_) ?_ ?_
                  rotate_left
                  · show Act.put _ (some 42) _ = _
                    simp only [Act.put, List.setIfInBounds_toArray, List.set_cons_zero, List.set_cons_succ, i64_w, i32_w]
                    rfl
                  refine one_ (i := 9) (N := some 44) #[true, true, true, true, true, true, true, true, true, true, false, false, false, false, false, false, false, false, false, false, false, false, false, false, false, false, false] rfl rfl (one_of HT_.out (by kernel_rfl)) (by decide) (fun K hK => ?_)
                  refine goes_ Try.func12 (by kernel_rfl) rfl #[.agg #[.bool true, .int .i64 a1_1, .int .i64 a1_2, .int .i64 a1_3, .bool a1_4, .int .i64 a1_5, .int .i64 a1_6, .int .i64 a1_7]] (by rfl) rfl rfl (by (try simp only [List.map_toArray, List.map_cons, List.map_nil]); first | done | rfl | (simp only [List.length_drop, List.length_take]; rfl)) ?_
                  with_reducible refine (job_Worst.calls true a1_1 a1_2 a1_3 a1_4 a1_5 a1_6 a1_7 t196 _ A28.out).mono ?_
                  rintro e w88 ⟨rfl, hb⟩
                  refine ⟨_, rfl, ?_⟩
                  have n0_ := bb BK188 hb
                  have n1_ := bb BK189 hb
                  have n2_ := bb BK192 hb
                  have n3_ := bs HB hb
                  clear BK188
                  clear BK189
                  clear BK192
                  clear HB
                  have BK188 := n0_
                  have BK189 := n1_
                  have BK192 := n2_
                  have HB := n3_
                  clear n0_ n1_ n2_ n3_
                  (try clear hb)
                  (try clear hb2)
                  (try clear hk)
                  (try clear hi)
                  refine hK.out _ _ ⟨(blk_cell BK192.out 0).trans rfl, (blk_cell BK192.out 1).trans rfl, (blk_cell BK192.out 2).trans rfl, (blk_cell BK192.out 3).trans rfl, (blk_cell BK192.out 4).trans rfl, (blk_cell BK192.out 5).trans rfl, (blk_cell BK192.out 6).trans rfl, (blk_cell BK192.out 7).trans rfl, (blk_cell BK189.out 0).trans rfl, (blk_cell BK189.out 1).trans rfl, (blk_cell BK189.out 2).trans rfl, (blk_cell BK189.out 3).trans rfl, (blk_cell BK189.out 4).trans rfl, (blk_cell BK189.out 5).trans rfl, (blk_cell BK189.out 6).trans rfl, (blk_cell BK189.out 7).trans rfl⟩ (fun hHeld => ?_)
                  clear hK K
                  refine norm_ (a' := ?_) ?_ ?_
                  rotate_left
                  · show Act.put _ (some 44) _ = _
                    simp only [Act.put, List.setIfInBounds_toArray, List.set_cons_zero, List.set_cons_succ, i64_w, i32_w]
                    rfl
                  refine pure_ (i := 10) (N := some 45) (v := ?_) (a' := ?_) #[true, true, true, true, true, true, true, true, true, true, true, false, false, false, false, false, false, false, false, false, false, false, false, false, false, false, false] rfl rfl (any_of HT_.out (by kernel_rfl)) (fun _ _ _ h => h) (Or.inl ⟨by rfl, ?_⟩) ?_ ?_
                  rotate_left; focus (intro w'; go_simp; with_reducible rfl)
                  rotate_left; focus (simp only [Act.put, List.setIfInBounds_toArray, List.set_cons_zero, List.set_cons_succ, i64_w, i32_w]; rfl)
                  refine pure_ (i := 11) (N := some 46) (v := ?_) (a' := ?_) #[true, true, true, true, true, true, true, true, true, true, true, true, false, false, false, false, false, false, false, false, false, false, false, false, false, false, false] rfl rfl (any_of HT_.out (by kernel_rfl)) (fun _ _ _ h => h) (Or.inl ⟨by rfl, ?_⟩) ?_ ?_
                  rotate_left; focus (intro w'; go_simp; with_reducible rfl)
                  rotate_left; focus (simp only [Act.put, List.setIfInBounds_toArray, List.set_cons_zero, List.set_cons_succ, i64_w, i32_w]; rfl)
                  refine pure_ (i := 12) (N := some 47) (v := ?_) (a' := ?_) #[true, true, true, true, true, true, true, true, true, true, true, true, true, false, false, false, false, false, false, false, false, false, false, false, false, false, false] rfl rfl (any_of HT_.out (by kernel_rfl)) (fun _ _ _ h => h) (Or.inl ⟨by rfl, ?_⟩) ?_ ?_
                  rotate_left; focus (intro w'; go_simp; with_reducible rfl)
                  rotate_left; focus (simp only [Act.put, List.setIfInBounds_toArray, List.set_cons_zero, List.set_cons_succ, i64_w, i32_w]; rfl)
                  refine pure_ (i := 13) (N := some 48) (v := ?_) (a' := ?_) #[true, true, true, true, true, true, true, true, true, true, true, true, true, true, false, false, false, false, false, false, false, false, false, false, false, false, false] rfl rfl (any_of HT_.out (by kernel_rfl)) (fun _ _ _ h => h) (Or.inl ⟨by rfl, ?_⟩) ?_ ?_
                  rotate_left; focus (intro w'; go_simp; with_reducible rfl)
                  rotate_left; focus (simp only [Act.put, List.setIfInBounds_toArray, List.set_cons_zero, List.set_cons_succ, i64_w, i32_w]; rfl)
                  refine take_ (i := 14) (N := some 49) (v := ?_) (a' := ?_) #[true, true, true, true, true, true, true, true, true, true, true, true, true, true, true, false, false, false, false, false, false, false, false, false, false, false, false] rfl rfl (take_ofW HT_.out HW_.out (by kernel_rfl)) (fun _ _ _ h => h) (Or.inl ⟨by rfl, ?_⟩) hHeld ?_ ?_
                  rotate_left
                  · rintro w' ⟨s0, s1, s2, s3, s4, s5, s6, s7, s8, s9, s10, s11, s12, s13, s14, s15⟩
                    go_simp
                    with_reducible rfl
                  rotate_left; focus (simp only [Act.put, List.setIfInBounds_toArray, List.set_cons_zero, List.set_cons_succ, i64_w, i32_w]; rfl)
                  refine pure_ (i := 15) (N := some 50) (v := ?_) (a' := ?_) #[true, true, true, true, true, true, true, true, true, true, true, true, true, true, true, true, false, false, false, false, false, false, false, false, false, false, false] rfl rfl (any_of HT_.out (by kernel_rfl)) (fun _ _ _ h => h) (Or.inl ⟨by rfl, ?_⟩) ?_ ?_
                  rotate_left; focus (intro w'; go_simp; with_reducible rfl)
                  rotate_left; focus (simp only [Act.put, List.setIfInBounds_toArray, List.set_cons_zero, List.set_cons_succ, i64_w, i32_w]; rfl)
                  refine pure_ (i := 16) (N := some 51) (v := ?_) (a' := ?_) #[true, true, true, true, true, true, true, true, true, true, true, true, true, true, true, true, true, false, false, false, false, false, false, false, false, false, false] rfl rfl (any_of HT_.out (by kernel_rfl)) (fun _ _ _ h => h) (Or.inl ⟨by rfl, ?_⟩) ?_ ?_
                  rotate_left; focus (intro w'; go_simp; with_reducible rfl)
                  rotate_left; focus (simp only [Act.put, List.setIfInBounds_toArray, List.set_cons_zero, List.set_cons_succ, i64_w, i32_w]; rfl)
                  refine pure_ (i := 17) (N := some 52) (v := undef) (a' := ?_) #[true, true, true, true, true, true, true, true, true, true, true, true, true, true, true, true, true, true, false, false, false, false, false, false, false, false, false] rfl rfl (any_of HT_.out (by kernel_rfl)) (fun _ _ _ h => h) (Or.inr ⟨by rfl, rfl⟩) ?_ ?_
                  rotate_left; focus (simp only [Act.put, List.setIfInBounds_toArray, List.set_cons_zero, List.set_cons_succ, i64_w, i32_w]; rfl)
                  refine pure_ (i := 18) (N := some 53) (v := undef) (a' := ?_) #[true, true, true, true, true, true, true, true, true, true, true, true, true, true, true, true, true, true, true, false, false, false, false, false, false, false, false] rfl rfl (any_of HT_.out (by kernel_rfl)) (fun _ _ _ h => h) (Or.inr ⟨by rfl, rfl⟩) ?_ ?_
                  rotate_left; focus (simp only [Act.put, List.setIfInBounds_toArray, List.set_cons_zero, List.set_cons_succ, i64_w, i32_w]; rfl)
                  refine pure_ (i := 19) (N := some 54) (v := undef) (a' := ?_) #[true, true, true, true, true, true, true, true, true, true, true, true, true, true, true, true, true, true, true, true, false, false, false, false, false, false, false] rfl rfl (any_of HT_.out (by kernel_rfl)) (fun _ _ _ h => h) (Or.inr ⟨by rfl, rfl⟩) ?_ ?_
                  rotate_left; focus (simp only [Act.put, List.setIfInBounds_toArray, List.set_cons_zero, List.set_cons_succ, i64_w, i32_w]; rfl)
                  refine pure_ (i := 20) (N := some 55) (v := undef) (a' := ?_) #[true, true, true, true, true, true, true, true, true, true, true, true, true, true, true, true, true, true, true, true, true, false, false, false, false, false, false] rfl rfl (any_of HT_.out (by kernel_rfl)) (fun _ _ _ h => h) (Or.inr ⟨by rfl, rfl⟩) ?_ ?_
                  rotate_left; focus (simp only [Act.put, List.setIfInBounds_toArray, List.set_cons_zero, List.set_cons_succ, i64_w, i32_w]; rfl)
                  refine pure_ (i := 21) (N := some 56) (v := undef) (a' := ?_) #[true, true, true, true, true, true, true, true, true, true, true, true, true, true, true, true, true, true, true, true, true, true, false, false, false, false, false] rfl rfl (any_of HT_.out (by kernel_rfl)) (fun _ _ _ h => h) (Or.inr ⟨by rfl, rfl⟩) ?_ ?_
                  rotate_left; focus (simp only [Act.put, List.setIfInBounds_toArray, List.set_cons_zero, List.set_cons_succ, i64_w, i32_w]; rfl)
                  refine pure_ (i := 22) (N := some 57) (v := undef) (a' := ?_) #[true, true, true, true, true, true, true, true, true, true, true, true, true, true, true, true, true, true, true, true, true, true, true, false, false, false, false] rfl rfl (any_of HT_.out (by kernel_rfl)) (fun _ _ _ h => h) (Or.inr ⟨by rfl, rfl⟩) ?_ ?_
                  rotate_left; focus (simp only [Act.put, List.setIfInBounds_toArray, List.set_cons_zero, List.set_cons_succ, i64_w, i32_w]; rfl)
                  refine pure_ (i := 23) (N := some 58) (v := undef) (a' := ?_) #[true, true, true, true, true, true, true, true, true, true, true, true, true, true, true, true, true, true, true, true, true, true, true, true, false, false, false] rfl rfl (any_of HT_.out (by kernel_rfl)) (fun _ _ _ h => h) (Or.inr ⟨by rfl, rfl⟩) ?_ ?_
                  rotate_left; focus (simp only [Act.put, List.setIfInBounds_toArray, List.set_cons_zero, List.set_cons_succ, i64_w, i32_w]; rfl)
                  refine pure_ (i := 24) (N := some 59) (v := undef) (a' := ?_) #[true, true, true, true, true, true, true, true, true, true, true, true, true, true, true, true, true, true, true, true, true, true, true, true, true, false, false] rfl rfl (any_of HT_.out (by kernel_rfl)) (fun _ _ _ h => h) (Or.inr ⟨by rfl, rfl⟩) ?_ ?_
                  rotate_left; focus (simp only [Act.put, List.setIfInBounds_toArray, List.set_cons_zero, List.set_cons_succ, i64_w, i32_w]; rfl)
                  refine pure_ (i := 25) (N := some 60) (v := ?_) (a' := ?_) #[true, true, true, true, true, true, true, true, true, true, true, true, true, true, true, true, true, true, true, true, true, true, true, true, true, true, false] rfl rfl (any_of HT_.out (by kernel_rfl)) (fun _ _ _ h => h) (Or.inl ⟨by rfl, ?_⟩) ?_ ?_
                  rotate_left; focus (intro w'; go_simp; with_reducible rfl)
                  rotate_left; focus (simp only [Act.put, List.setIfInBounds_toArray, List.set_cons_zero, List.set_cons_succ, i64_w, i32_w]; rfl)
                  refine pure_ (i := 26) (N := some 61) (v := ?_) (a' := ?_) #[true, true, true, true, true, true, true, true, true, true, true, true, true, true, true, true, true, true, true, true, true, true, true, true, true, true, true] rfl rfl (any_of HT_.out (by kernel_rfl)) (fun _ _ _ h => h) (Or.inl ⟨by rfl, ?_⟩) ?_ ?_
                  rotate_left; focus (intro w'; go_simp; with_reducible rfl)
                  rotate_left; focus (simp only [Act.put, List.setIfInBounds_toArray, List.set_cons_zero, List.set_cons_succ, i64_w, i32_w]; rfl)
                  refine done_ (done_of HT_.out (by kernel_rfl)) ?_
                  obtain ⟨hcz89_0, hcz89_1, hcz89_2, hcz89_3, hcz89_4, hcz89_5, hcz89_6, hcz89_7⟩ := cc8 BK189
                  obtain ⟨hfz89_0, hfz89_1, hfz89_2, hfz89_3, hfz89_4, hfz89_5, hfz89_6, hfz89_7⟩ := cf8 BK189
                  try go_wp2_with (first | ((with_reducible refine gate_callee (f := 13) rfl ?_); refine goesL_ (some 64) rfl rfl Try.func13 (by kernel_rfl) rfl #[.agg #[.bool true, .int .i64 a1_1, .int .i64 a1_2, .int .i64 a1_3, .bool a1_4, .int .i64 a1_5, .int .i64 a1_6, .int .i64 a1_7]] rfl (by (try simp only [List.map_toArray, List.map_cons, List.map_nil]); first | done | rfl | (simp only [List.length_drop, List.length_take]; rfl)) ?_; (with_reducible refine (job_Step.calls true a1_1 a1_2 a1_3 a1_4 a1_5 a1_6 a1_7 t197 t198 t199 t200 t201 t202 t203 t204 t205 _ A31.out).mono ?_); rintro e w90 ⟨rfl, hb⟩; refine ⟨_, rfl, ?_⟩; have n0_ := bb BK188 hb; have n1_ := bb BK189 hb; have n2_ := bb BK192 hb; have n3_ := bs HB hb; clear BK188; clear BK189; clear BK192; clear HB; have BK188 := n0_; have BK189 := n1_; have BK192 := n2_; have HB := n3_; clear n0_ n1_ n2_ n3_; (try clear hb); (try clear hb2); (try clear hk); (try clear hi)) | ((with_reducible refine gate_dst (N := 9) rfl ?_); refine box_event ?hg (N := 9) ?hd (cs := #[.bool false, .int .i64 0, .int .i64 0, .int .i64 0, .bool false, .int .i64 0, .int .i64 0, .int .i64 0]) (t := 25) ?hr ?_; (case hd => rfl); (case hg => rfl); (case hr => first | (go_simp; done) | (go_simp; rfl)); intro gb206 hg w91 hbox hb; have n0_ := bb BK188 hb; have n1_ := bb BK189 hb; have n2_ := bb BK192 hb; have n3_ := bs HB hb; have n4_ := Aside0.mk (hbox); have n5_ := bz HB hg; have n6_ := bz HB hg; have n7_ := bl BK188 hg; have n8_ := bg BK188 hg; have n9_ := bl BK189 hg; have n10_ := bg BK189 hg; have n11_ := bl BK192 hg; have n12_ := bg BK192 hg; clear BK188; clear BK189; clear BK192; clear HB; have BK188 := n0_; have BK189 := n1_; have BK192 := n2_; have HB := n3_; have BK206 := n4_; have GW206 := n5_; have GE206 := n6_; have NB188_206 := n7_; have NB206_188 := n8_; have NB189_206 := n9_; have NB206_189 := n10_; have NB192_206 := n11_; have NB206_192 := n12_; clear n0_ n1_ n2_ n3_ n4_ n5_ n6_ n7_ n8_ n9_ n10_ n11_ n12_; clear hb hbox hg; have hnb92 := NB206_188.out; have hnc92 := NB188_206.out; have hnb93 := NB206_189.out; have hnc93 := NB189_206.out; have hnb94 := NB206_192.out; have hnc94 := NB192_206.out; (try clear hcz89_0 hcz89_1 hcz89_2 hcz89_3 hcz89_4 hcz89_5 hcz89_6 hcz89_7 hfz89_0 hfz89_1 hfz89_2 hfz89_3 hfz89_4 hfz89_5 hfz89_6 hfz89_7); obtain ⟨hcz95_0, hcz95_1, hcz95_2, hcz95_3, hcz95_4, hcz95_5, hcz95_6, hcz95_7⟩ := cc8 BK206; obtain ⟨hfz95_0, hfz95_1, hfz95_2, hfz95_3, hfz95_4, hfz95_5, hfz95_6, hfz95_7⟩ := cf8 BK206))
                  have n0_ : Aside0 (((((((((w91.setCell ⟨gb206, 0, none⟩ (.bool t197)).setCell ⟨gb206, 1, none⟩ (.int .i64 t198)).setCell ⟨gb206, 2, none⟩ (.int .i64 t199)).setCell ⟨gb206, 3, none⟩ (.int .i64 t200)).setCell ⟨gb206, 4, none⟩ (.bool t201)).setCell ⟨gb206, 5, none⟩ (.int .i64 t202)).setCell ⟨gb206, 6, none⟩ (.int .i64 t203)).setCell ⟨gb206, 7, none⟩ (.int .i64 t204)).heap[gb188]? = some (.cells #[.int .i64 a0_0, .int .i64 a0_1, .int .i64 a0_2, .int .i64 a0_3, .int .i64 a0_4, .int .i64 a0_5] 23 (0, 0))) := ⟨by (with_reducible repeat (first | refine bN ?_ _ | refine bD ?_ | refine bA ?_ _ | refine blk_far ?_ NB188_206.out _)); exact BK188.out⟩
                  have n1_ : Aside0 (((((((((w91.setCell ⟨gb206, 0, none⟩ (.bool t197)).setCell ⟨gb206, 1, none⟩ (.int .i64 t198)).setCell ⟨gb206, 2, none⟩ (.int .i64 t199)).setCell ⟨gb206, 3, none⟩ (.int .i64 t200)).setCell ⟨gb206, 4, none⟩ (.bool t201)).setCell ⟨gb206, 5, none⟩ (.int .i64 t202)).setCell ⟨gb206, 6, none⟩ (.int .i64 t203)).setCell ⟨gb206, 7, none⟩ (.int .i64 t204)).heap[gb189]? = some (.cells #[.bool true, .int .i64 a1_1, .int .i64 a1_2, .int .i64 a1_3, .bool a1_4, .int .i64 a1_5, .int .i64 a1_6, .int .i64 a1_7] 25 (0, 0))) := ⟨by (with_reducible repeat (first | refine bN ?_ _ | refine bD ?_ | refine bA ?_ _ | refine blk_far ?_ NB189_206.out _)); exact BK189.out⟩
                  have n2_ : Aside0 (((((((((w91.setCell ⟨gb206, 0, none⟩ (.bool t197)).setCell ⟨gb206, 1, none⟩ (.int .i64 t198)).setCell ⟨gb206, 2, none⟩ (.int .i64 t199)).setCell ⟨gb206, 3, none⟩ (.int .i64 t200)).setCell ⟨gb206, 4, none⟩ (.bool t201)).setCell ⟨gb206, 5, none⟩ (.int .i64 t202)).setCell ⟨gb206, 6, none⟩ (.int .i64 t203)).setCell ⟨gb206, 7, none⟩ (.int .i64 t204)).heap[gb192]? = some (.cells #[.bool true, .int .i64 a1_1, .int .i64 a1_2, .int .i64 a1_3, .bool a1_4, .int .i64 a1_5, .int .i64 (wrap64 (a1_6 + a2)), .int .i64 a1_7] 25 (0, 0))) := ⟨by (with_reducible repeat (first | refine bN ?_ _ | refine bD ?_ | refine bA ?_ _ | refine blk_far ?_ NB192_206.out _)); exact BK192.out⟩
                  have n3_ : Aside0 (((((((((w91.setCell ⟨gb206, 0, none⟩ (.bool t197)).setCell ⟨gb206, 1, none⟩ (.int .i64 t198)).setCell ⟨gb206, 2, none⟩ (.int .i64 t199)).setCell ⟨gb206, 3, none⟩ (.int .i64 t200)).setCell ⟨gb206, 4, none⟩ (.bool t201)).setCell ⟨gb206, 5, none⟩ (.int .i64 t202)).setCell ⟨gb206, 6, none⟩ (.int .i64 t203)).setCell ⟨gb206, 7, none⟩ (.int .i64 t204)).heap[gb206]? = some (.cells #[.bool t197, .int .i64 t198, .int .i64 t199, .int .i64 t200, .bool t201, .int .i64 t202, .int .i64 t203, .int .i64 t204] 25 (0, 0))) := ⟨by (with_reducible repeat (first | refine bN ?_ _ | refine bD ?_ | refine bA ?_ _)); refine blk_put (cs := #[.bool t197, .int .i64 t198, .int .i64 t199, .int .i64 t200, .bool t201, .int .i64 t202, .int .i64 t203, .int .i64 0]) ?_ 7 _ rfl; (with_reducible repeat (first | refine bN ?_ _ | refine bD ?_ | refine bA ?_ _)); refine blk_put (cs := #[.bool t197, .int .i64 t198, .int .i64 t199, .int .i64 t200, .bool t201, .int .i64 t202, .int .i64 0, .int .i64 0]) ?_ 6 _ rfl; (with_reducible repeat (first | refine bN ?_ _ | refine bD ?_ | refine bA ?_ _)); refine blk_put (cs := #[.bool t197, .int .i64 t198, .int .i64 t199, .int .i64 t200, .bool t201, .int .i64 0, .int .i64 0, .int .i64 0]) ?_ 5 _ rfl; (with_reducible repeat (first | refine bN ?_ _ | refine bD ?_ | refine bA ?_ _)); refine blk_put (cs := #[.bool t197, .int .i64 t198, .int .i64 t199, .int .i64 t200, .bool false, .int .i64 0, .int .i64 0, .int .i64 0]) ?_ 4 _ rfl; (with_reducible repeat (first | refine bN ?_ _ | refine bD ?_ | refine bA ?_ _)); refine blk_put (cs := #[.bool t197, .int .i64 t198, .int .i64 t199, .int .i64 0, .bool false, .int .i64 0, .int .i64 0, .int .i64 0]) ?_ 3 _ rfl; (with_reducible repeat (first | refine bN ?_ _ | refine bD ?_ | refine bA ?_ _)); refine blk_put (cs := #[.bool t197, .int .i64 t198, .int .i64 0, .int .i64 0, .bool false, .int .i64 0, .int .i64 0, .int .i64 0]) ?_ 2 _ rfl; (with_reducible repeat (first | refine bN ?_ _ | refine bD ?_ | refine bA ?_ _)); refine blk_put (cs := #[.bool t197, .int .i64 0, .int .i64 0, .int .i64 0, .bool false, .int .i64 0, .int .i64 0, .int .i64 0]) ?_ 1 _ rfl; (with_reducible repeat (first | refine bN ?_ _ | refine bD ?_ | refine bA ?_ _)); refine blk_put (cs := #[.bool false, .int .i64 0, .int .i64 0, .int .i64 0, .bool false, .int .i64 0, .int .i64 0, .int .i64 0]) ?_ 0 _ rfl; (with_reducible repeat (first | refine bN ?_ _ | refine bD ?_ | refine bA ?_ _)); exact BK206.out⟩
                  have n4_ : Aside0 (Below w.heap.size w ((((((((w91.setCell ⟨gb206, 0, none⟩ (.bool t197)).setCell ⟨gb206, 1, none⟩ (.int .i64 t198)).setCell ⟨gb206, 2, none⟩ (.int .i64 t199)).setCell ⟨gb206, 3, none⟩ (.int .i64 t200)).setCell ⟨gb206, 4, none⟩ (.bool t201)).setCell ⟨gb206, 5, none⟩ (.int .i64 t202)).setCell ⟨gb206, 6, none⟩ (.int .i64 t203)).setCell ⟨gb206, 7, none⟩ (.int .i64 t204))) := ⟨by repeat (first | (with_reducible first | exact HB.out | apply below_alloc | apply pw_below_drewN | apply below_drew1 | refine below_set ?_ GE188.out | refine below_set ?_ GE189.out | refine below_set ?_ GE192.out | refine below_set ?_ GE206.out) | exact HB.out)⟩
                  (try clear BK188)
                  (try clear BK189)
                  (try clear BK192)
                  (try clear BK206)
                  (try clear HB)
                  generalize ((((((((w91.setCell ⟨gb206, 0, none⟩ (.bool t197)).setCell ⟨gb206, 1, none⟩ (.int .i64 t198)).setCell ⟨gb206, 2, none⟩ (.int .i64 t199)).setCell ⟨gb206, 3, none⟩ (.int .i64 t200)).setCell ⟨gb206, 4, none⟩ (.bool t201)).setCell ⟨gb206, 5, none⟩ (.int .i64 t202)).setCell ⟨gb206, 6, none⟩ (.int .i64 t203)).setCell ⟨gb206, 7, none⟩ (.int .i64 t204)) = w96 at n0_ n1_ n2_ n3_ n4_ ⊢
                  have BK188 := n0_
                  have BK189 := n1_
                  have BK192 := n2_
                  have BK206 := n3_
                  have HB := n4_
                  clear n0_ n1_ n2_ n3_ n4_
                  have n0_ := Aside0.mk (blk_drew BK188.out)
                  have n1_ := Aside0.mk (blk_drew BK189.out)
                  have n2_ := Aside0.mk (blk_drew BK192.out)
                  have n3_ := Aside0.mk (blk_drew BK206.out)
                  have n4_ := Aside0.mk (below_drew1 HB.out)
                  clear BK188
                  clear BK189
                  clear BK192
                  clear BK206
                  clear HB
                  have BK188 := n0_
                  have BK189 := n1_
                  have BK192 := n2_
                  have BK206 := n3_
                  have HB := n4_
                  clear n0_ n1_ n2_ n3_ n4_
                  refine start_ (n := 19) (S := fun w' => True) (ds := []) #[false, false, false, false, false, false, false, false, false, false, false, false, false, false, false, false, false, false, false] (by kernel_rfl) rfl rfl trivial (fun hHeld => ?_); refine with_tabW fuseelaw11_JobLong.tab9 fuseelaw11_JobLong.bits9 (fun HT_ HW_ => ?_)
                  generalize w96.drew = w97 at BK188 BK189 BK192 BK206 HB hHeld ⊢
                  refine pure_ (i := 0) (N := some 67) (v := ?_) (a' := ?_) #[true, false, false, false, false, false, false, false, false, false, false, false, false, false, false, false, false, false, false] rfl rfl (any_of HT_.out (by kernel_rfl)) (fun _ _ _ h => h) (Or.inl ⟨by rfl, ?_⟩) ?_ ?_
                  rotate_left; focus (intro w'; go_simp; with_reducible rfl)
                  rotate_left; focus (simp only [Act.put, List.setIfInBounds_toArray, List.set_cons_zero, List.set_cons_succ, i64_w, i32_w]; rfl)
                  refine pure_ (i := 1) (N := some 68) (v := ?_) (a' := ?_) #[true, true, false, false, false, false, false, false, false, false, false, false, false, false, false, false, false, false, false] rfl rfl (any_of HT_.out (by kernel_rfl)) (fun _ _ _ h => h) (Or.inl ⟨by rfl, ?_⟩) ?_ ?_
                  rotate_left; focus (intro w'; go_simp; with_reducible rfl)
                  rotate_left; focus (simp only [Act.put, List.setIfInBounds_toArray, List.set_cons_zero, List.set_cons_succ, i64_w, i32_w]; rfl)
                  refine pure_ (i := 2) (N := some 69) (v := ?_) (a' := ?_) #[true, true, true, false, false, false, false, false, false, false, false, false, false, false, false, false, false, false, false] rfl rfl (any_of HT_.out (by kernel_rfl)) (fun _ _ _ h => h) (Or.inl ⟨by rfl, ?_⟩) ?_ ?_
                  rotate_left; focus (intro w'; go_simp; with_reducible rfl)
                  rotate_left; focus (simp only [Act.put, List.setIfInBounds_toArray, List.set_cons_zero, List.set_cons_succ, i64_w, i32_w]; rfl)
                  refine pure_ (i := 3) (N := some 70) (v := undef) (a' := ?_) #[true, true, true, true, false, false, false, false, false, false, false, false, false, false, false, false, false, false, false] rfl rfl (any_of HT_.out (by kernel_rfl)) (fun _ _ _ h => h) (Or.inr ⟨by rfl, rfl⟩) ?_ ?_
                  rotate_left; focus (simp only [Act.put, List.setIfInBounds_toArray, List.set_cons_zero, List.set_cons_succ, i64_w, i32_w]; rfl)
                  refine pure_ (i := 4) (N := some 71) (v := undef) (a' := ?_) #[true, true, true, true, true, false, false, false, false, false, false, false, false, false, false, false, false, false, false] rfl rfl (any_of HT_.out (by kernel_rfl)) (fun _ _ _ h => h) (Or.inr ⟨by rfl, rfl⟩) ?_ ?_
                  rotate_left; focus (simp only [Act.put, List.setIfInBounds_toArray, List.set_cons_zero, List.set_cons_succ, i64_w, i32_w]; rfl)
                  refine pure_ (i := 5) (N := some 72) (v := undef) (a' := ?_) #[true, true, true, true, true, true, false, false, false, false, false, false, false, false, false, false, false, false, false] rfl rfl (any_of HT_.out (by kernel_rfl)) (fun _ _ _ h => h) (Or.inr ⟨by rfl, rfl⟩) ?_ ?_
                  rotate_left; focus (simp only [Act.put, List.setIfInBounds_toArray, List.set_cons_zero, List.set_cons_succ, i64_w, i32_w]; rfl)
                  refine pure_ (i := 6) (N := some 73) (v := undef) (a' := ?_) #[true, true, true, true, true, true, true, false, false, false, false, false, false, false, false, false, false, false, false] rfl rfl (any_of HT_.out (by kernel_rfl)) (fun _ _ _ h => h) (Or.inr ⟨by rfl, rfl⟩) ?_ ?_
                  rotate_left; focus (simp only [Act.put, List.setIfInBounds_toArray, List.set_cons_zero, List.set_cons_succ, i64_w, i32_w]; rfl)
                  refine pure_ (i := 7) (N := some 74) (v := undef) (a' := ?_) #[true, true, true, true, true, true, true, true, false, false, false, false, false, false, false, false, false, false, false] rfl rfl (any_of HT_.out (by kernel_rfl)) (fun _ _ _ h => h) (Or.inr ⟨by rfl, rfl⟩) ?_ ?_
                  rotate_left; focus (simp only [Act.put, List.setIfInBounds_toArray, List.set_cons_zero, List.set_cons_succ, i64_w, i32_w]; rfl)
                  refine pure_ (i := 8) (N := some 75) (v := undef) (a' := ?_) #[true, true, true, true, true, true, true, true, true, false, false, false, false, false, false, false, false, false, false] rfl rfl (any_of HT_.out (by kernel_rfl)) (fun _ _ _ h => h) (Or.inr ⟨by rfl, rfl⟩) ?_ ?_
                  rotate_left; focus (simp only [Act.put, List.setIfInBounds_toArray, List.set_cons_zero, List.set_cons_succ, i64_w, i32_w]; rfl)
                  refine pure_ (i := 9) (N := some 76) (v := undef) (a' := ?_) #[true, true, true, true, true, true, true, true, true, true, false, false, false, false, false, false, false, false, false] rfl rfl (any_of HT_.out (by kernel_rfl)) (fun _ _ _ h => h) (Or.inr ⟨by rfl, rfl⟩) ?_ ?_
                  rotate_left; focus (simp only [Act.put, List.setIfInBounds_toArray, List.set_cons_zero, List.set_cons_succ, i64_w, i32_w]; rfl)
                  refine pure_ (i := 10) (N := some 77) (v := undef) (a' := ?_) #[true, true, true, true, true, true, true, true, true, true, true, false, false, false, false, false, false, false, false] rfl rfl (any_of HT_.out (by kernel_rfl)) (fun _ _ _ h => h) (Or.inr ⟨by rfl, rfl⟩) ?_ ?_
                  rotate_left; focus (simp only [Act.put, List.setIfInBounds_toArray, List.set_cons_zero, List.set_cons_succ, i64_w, i32_w]; rfl)
                  refine pure_ (i := 11) (N := some 78) (v := undef) (a' := ?_) #[true, true, true, true, true, true, true, true, true, true, true, true, false, false, false, false, false, false, false] rfl rfl (any_of HT_.out (by kernel_rfl)) (fun _ _ _ h => h) (Or.inr ⟨by rfl, rfl⟩) ?_ ?_
                  rotate_left; focus (simp only [Act.put, List.setIfInBounds_toArray, List.set_cons_zero, List.set_cons_succ, i64_w, i32_w]; rfl)
                  refine pure_ (i := 12) (N := some 79) (v := undef) (a' := ?_) #[true, true, true, true, true, true, true, true, true, true, true, true, true, false, false, false, false, false, false] rfl rfl (any_of HT_.out (by kernel_rfl)) (fun _ _ _ h => h) (Or.inr ⟨by rfl, rfl⟩) ?_ ?_
                  rotate_left; focus (simp only [Act.put, List.setIfInBounds_toArray, List.set_cons_zero, List.set_cons_succ, i64_w, i32_w]; rfl)
                  refine pure_ (i := 13) (N := some 80) (v := undef) (a' := ?_) #[true, true, true, true, true, true, true, true, true, true, true, true, true, true, false, false, false, false, false] rfl rfl (any_of HT_.out (by kernel_rfl)) (fun _ _ _ h => h) (Or.inr ⟨by rfl, rfl⟩) ?_ ?_
                  rotate_left; focus (simp only [Act.put, List.setIfInBounds_toArray, List.set_cons_zero, List.set_cons_succ, i64_w, i32_w]; rfl)
                  refine pure_ (i := 14) (N := some 81) (v := undef) (a' := ?_) #[true, true, true, true, true, true, true, true, true, true, true, true, true, true, true, false, false, false, false] rfl rfl (any_of HT_.out (by kernel_rfl)) (fun _ _ _ h => h) (Or.inr ⟨by rfl, rfl⟩) ?_ ?_
                  rotate_left; focus (simp only [Act.put, List.setIfInBounds_toArray, List.set_cons_zero, List.set_cons_succ, i64_w, i32_w]; rfl)
                  refine pure_ (i := 15) (N := some 82) (v := undef) (a' := ?_) #[true, true, true, true, true, true, true, true, true, true, true, true, true, true, true, true, false, false, false] rfl rfl (any_of HT_.out (by kernel_rfl)) (fun _ _ _ h => h) (Or.inr ⟨by rfl, rfl⟩) ?_ ?_
                  rotate_left; focus (simp only [Act.put, List.setIfInBounds_toArray, List.set_cons_zero, List.set_cons_succ, i64_w, i32_w]; rfl)
                  refine pure_ (i := 16) (N := some 83) (v := undef) (a' := ?_) #[true, true, true, true, true, true, true, true, true, true, true, true, true, true, true, true, true, false, false] rfl rfl (any_of HT_.out (by kernel_rfl)) (fun _ _ _ h => h) (Or.inr ⟨by rfl, rfl⟩) ?_ ?_
                  rotate_left; focus (simp only [Act.put, List.setIfInBounds_toArray, List.set_cons_zero, List.set_cons_succ, i64_w, i32_w]; rfl)
                  refine pure_ (i := 17) (N := some 84) (v := ?_) (a' := ?_) #[true, true, true, true, true, true, true, true, true, true, true, true, true, true, true, true, true, true, false] rfl rfl (any_of HT_.out (by kernel_rfl)) (fun _ _ _ h => h) (Or.inl ⟨by rfl, ?_⟩) ?_ ?_
                  rotate_left; focus (intro w'; go_simp; with_reducible rfl)
                  rotate_left; focus (simp only [Act.put, List.setIfInBounds_toArray, List.set_cons_zero, List.set_cons_succ, i64_w, i32_w]; rfl)
                  refine pure_ (i := 18) (N := some 6) (v := ?_) (a' := ?_) #[true, true, true, true, true, true, true, true, true, true, true, true, true, true, true, true, true, true, true] rfl rfl (any_of HT_.out (by kernel_rfl)) (fun _ _ _ h => h) (Or.inl ⟨by rfl, ?_⟩) ?_ ?_
                  rotate_left; focus (intro w'; go_simp; with_reducible rfl)
                  rotate_left; focus (simp only [Act.put, List.setIfInBounds_toArray, List.set_cons_zero, List.set_cons_succ, i64_w, i32_w]; rfl)
                  refine done_ (done_of HT_.out (by kernel_rfl)) ?_
                  try go_wp2
                  go_ret
                  exact ⟨by first | rfl | (simp [errW_none, errW_some] <;> rfl) | (simp [*, errW_none, errW_some] <;> rfl) | (exfalso; contradiction), by repeat (first | (with_reducible first | exact HB.out | apply below_alloc | apply pw_below_drewN | apply below_drew1 | refine below_set ?_ GE188.out | refine below_set ?_ GE189.out | refine below_set ?_ GE192.out | refine below_set ?_ GE206.out) | exact HB.out)⟩
              · replace c30 := Bool.eq_false_iff.mpr c30
                subst c30
                rw [if_neg (show ¬ (false = true) by decide)] at H
                replace H := Option.bind_eq_some_iff.mp H
                obtain ⟨t211, A980, H⟩ := H
                try dsimp only at H
                have A98 := Aside0.mk A980
                clear A980
                by_cases c99 : t211 = 0
                · rw [if_pos c99] at H
                  have c99b0 : (t211 == 0) = true := beq_iff_eq.mpr c99
                  have c99b1 : (t211 != 0) = false := bne_eq_false_iff_eq.mpr c99
                  clear c99
                  replace H := Option.bind_eq_some_iff.mp H
                  obtain ⟨t212, A1000, H⟩ := H
                  try dsimp only at H
                  have A100 := Aside0.mk A1000
                  clear A1000
                  by_cases c101 : t212 = 0
                  · rw [if_pos c101] at H
                    have c101b0 : (t212 == 0) = true := beq_iff_eq.mpr c101
                    have c101b1 : (t212 != 0) = false := bne_eq_false_iff_eq.mpr c101
                    clear c101
                    replace H := Option.bind_eq_some_iff.mp H
                    obtain ⟨⟨t213, t214, t215, t216, t217, t218, t219, t220, t221⟩, A1020, H⟩ := H
                    try dsimp only at H
                    have A102 := Aside0.mk A1020
                    clear A1020
                    by_cases c103 : t221 = 0
                    · rw [if_pos c103] at H
                      have c103b0 : (t221 == 0) = true := beq_iff_eq.mpr c103
                      have c103b1 : (t221 != 0) = false := bne_eq_false_iff_eq.mpr c103
                      clear c103
                      replace H := Option.bind_eq_some_iff.mp H
                      obtain ⟨t223, A1040, H⟩ := H
                      try dsimp only at H
                      have A104 := Aside0.mk A1040
                      clear A1040
                      replace H := Option.bind_eq_some_iff.mp H
                      obtain ⟨t224, A1050, H⟩ := H
                      try dsimp only at H
                      have A105 := Aside0.mk A1050
                      clear A1050
                      by_cases c106 : t223 = (wrap64 (t224 - 1))
                      · rw [if_pos c106] at H
                        have c106b0 : (t223 == (wrap64 (t224 - 1))) = true := beq_iff_eq.mpr c106
                        have c106b1 : (t223 != (wrap64 (t224 - 1))) = false := bne_eq_false_iff_eq.mpr c106
                        clear c106
                        replace H := Option.bind_eq_some_iff.mp H
                        obtain ⟨t225, A1070, H⟩ := H
                        try dsimp only at H
                        have A107 := Aside0.mk A1070
                        clear A1070
                        replace H := Option.bind_eq_some_iff.mp H
                        obtain ⟨t226, A1080, H⟩ := H
                        try dsimp only at H
                        have A108 := Aside0.mk A1080
                        clear A1080
                        obtain rfl := Option.some.inj H
                        go_enter Try.func5, Try.ntmps5
                        try go_wp2_with (first | ((with_reducible refine gate_dst (N := 3) rfl ?_); refine box_event ?hg (N := 3) ?hd (cs := #[.int .i64 a0_0, .int .i64 a0_1, .int .i64 a0_2, .int .i64 a0_3, .int .i64 a0_4, .int .i64 a0_5]) (t := 23) ?hr ?_; (case hd => rfl); (case hg => rfl); (case hr => first | (go_simp; done) | (go_simp; rfl)); intro gb188 hg w109 hbox hb; have n0_ := bs HB hb; have n1_ := Aside0.mk (hbox); have n2_ := bz HB hg; have n3_ := bz HB hg; clear HB; have HB := n0_; have BK188 := n1_; have GW188 := n2_; have GE188 := n3_; clear n0_ n1_ n2_ n3_; clear hb hbox hg) | ((with_reducible refine gate_dst (N := 4) rfl ?_); refine box_event ?hg (N := 4) ?hd (cs := #[.bool false, .int .i64 a1_1, .int .i64 a1_2, .int .i64 a1_3, .bool a1_4, .int .i64 a1_5, .int .i64 a1_6, .int .i64 a1_7]) (t := 25) ?hr ?_; (case hd => rfl); (case hg => rfl); (case hr => first | (go_simp; done) | (go_simp; rfl)); intro gb189 hg w110 hbox hb; have n0_ := bb BK188 hb; have n1_ := bs HB hb; have n2_ := Aside0.mk (hbox); have n3_ := bz HB hg; have n4_ := bz HB hg; have n5_ := bl BK188 hg; have n6_ := bg BK188 hg; clear BK188; clear HB; have BK188 := n0_; have HB := n1_; have BK189 := n2_; have GW189 := n3_; have GE189 := n4_; have NB188_189 := n5_; have NB189_188 := n6_; clear n0_ n1_ n2_ n3_ n4_ n5_ n6_; clear hb hbox hg) | ((with_reducible refine gate_callee (f := 8) rfl ?_); refine goesL_ (some 11) rfl rfl Try.func8 (by kernel_rfl) rfl #[] rfl (by (try simp only [List.map_toArray, List.map_cons, List.map_nil]); first | done | rfl | (simp only [List.length_drop, List.length_take]; rfl)) ?_; (with_reducible refine (fuseelaw11_awake.calls  true _ A4.out).mono ?_); rintro e w111 ⟨rfl, hb⟩; refine ⟨_, rfl, ?_⟩; have n0_ := bb BK188 hb; have n1_ := bb BK189 hb; have n2_ := bs HB hb; clear BK188; clear BK189; clear HB; have BK188 := n0_; have BK189 := n1_; have HB := n2_; clear n0_ n1_ n2_; (try clear hb); (try clear hb2); (try clear hk); (try clear hi); have hnb112 := NB188_189.out; have hnc112 := NB189_188.out; obtain ⟨hcz113_0, hcz113_1, hcz113_2, hcz113_3, hcz113_4, hcz113_5⟩ := cc6 BK188; obtain ⟨hfz113_0, hfz113_1, hfz113_2, hfz113_3, hfz113_4, hfz113_5⟩ := cf6 BK188; obtain ⟨hcz114_0, hcz114_1, hcz114_2, hcz114_3, hcz114_4, hcz114_5, hcz114_6, hcz114_7⟩ := cc8 BK189; obtain ⟨hfz114_0, hfz114_1, hfz114_2, hfz114_3, hfz114_4, hfz114_5, hfz114_6, hfz114_7⟩ := cf8 BK189) | (go_at_call 9; (with_reducible refine (job_May.calls a0_0 a0_1 a0_2 a0_3 a0_4 a0_5 false a1_1 a1_2 a1_3 a1_4 a1_5 a1_6 a1_7 true _ A6.out).mono ?_); rintro e w115 ⟨rfl, hb⟩; have n0_ := bb BK188 hb; have n1_ := bb BK189 hb; have n2_ := bs HB hb; clear BK188; clear BK189; clear HB; have BK188 := n0_; have BK189 := n1_; have HB := n2_; clear n0_ n1_ n2_; (try clear hb); (try clear hb2); (try clear hk); (try clear hi); (try clear hcz113_0 hcz113_1 hcz113_2 hcz113_3 hcz113_4 hcz113_5 hfz113_0 hfz113_1 hfz113_2 hfz113_3 hfz113_4 hfz113_5); (try clear hcz114_0 hcz114_1 hcz114_2 hcz114_3 hcz114_4 hcz114_5 hcz114_6 hcz114_7 hfz114_0 hfz114_1 hfz114_2 hfz114_3 hfz114_4 hfz114_5 hfz114_6 hfz114_7); obtain ⟨hcz116_0, hcz116_1, hcz116_2, hcz116_3, hcz116_4, hcz116_5, hcz116_6, hcz116_7⟩ := cc8 BK189; obtain ⟨hfz116_0, hfz116_1, hfz116_2, hfz116_3, hfz116_4, hfz116_5, hfz116_6, hfz116_7⟩ := cf8 BK189) | ((with_reducible refine gate_dst (N := 8) rfl ?_); refine box_event ?hg (N := 8) ?hd (cs := #[.bool false, .int .i64 0, .int .i64 0, .int .i64 0, .bool false, .int .i64 0, .int .i64 0, .int .i64 0]) (t := 25) ?hr ?_; (case hd => rfl); (case hg => rfl); (case hr => first | (go_simp; done) | (go_simp; rfl)); intro gb192 hg w117 hbox hb; have n0_ := bb BK188 hb; have n1_ := bb BK189 hb; have n2_ := bs HB hb; have n3_ := Aside0.mk (hbox); have n4_ := bz HB hg; have n5_ := bz HB hg; have n6_ := bl BK188 hg; have n7_ := bg BK188 hg; have n8_ := bl BK189 hg; have n9_ := bg BK189 hg; clear BK188; clear BK189; clear HB; have BK188 := n0_; have BK189 := n1_; have HB := n2_; have BK192 := n3_; have GW192 := n4_; have GE192 := n5_; have NB188_192 := n6_; have NB192_188 := n7_; have NB189_192 := n8_; have NB192_189 := n9_; clear n0_ n1_ n2_ n3_ n4_ n5_ n6_ n7_ n8_ n9_; clear hb hbox hg; have hnb118 := NB192_188.out; have hnc118 := NB188_192.out; have hnb119 := NB192_189.out; have hnc119 := NB189_192.out; (try clear hcz113_0 hcz113_1 hcz113_2 hcz113_3 hcz113_4 hcz113_5 hfz113_0 hfz113_1 hfz113_2 hfz113_3 hfz113_4 hfz113_5); (try clear hcz114_0 hcz114_1 hcz114_2 hcz114_3 hcz114_4 hcz114_5 hcz114_6 hcz114_7 hfz114_0 hfz114_1 hfz114_2 hfz114_3 hfz114_4 hfz114_5 hfz114_6 hfz114_7); (try clear hcz116_0 hcz116_1 hcz116_2 hcz116_3 hcz116_4 hcz116_5 hcz116_6 hcz116_7 hfz116_0 hfz116_1 hfz116_2 hfz116_3 hfz116_4 hfz116_5 hfz116_6 hfz116_7); obtain ⟨hcz120_0, hcz120_1, hcz120_2, hcz120_3, hcz120_4, hcz120_5, hcz120_6, hcz120_7⟩ := cc8 BK192; obtain ⟨hfz120_0, hfz120_1, hfz120_2, hfz120_3, hfz120_4, hfz120_5, hfz120_6, hfz120_7⟩ := cf8 BK192; obtain ⟨hcz121_0, hcz121_1, hcz121_2, hcz121_3, hcz121_4, hcz121_5, hcz121_6, hcz121_7⟩ := cc8 BK189; obtain ⟨hfz121_0, hfz121_1, hfz121_2, hfz121_3, hfz121_4, hfz121_5, hfz121_6, hfz121_7⟩ := cf8 BK189))
                        have n0_ : Aside0 ((((((((((w117.setCell ⟨gb192, 0, none⟩ (.bool false)).setCell ⟨gb192, 1, none⟩ (.int .i64 a1_1)).setCell ⟨gb192, 2, none⟩ (.int .i64 a1_2)).setCell ⟨gb192, 3, none⟩ (.int .i64 a1_3)).setCell ⟨gb192, 4, none⟩ (.bool a1_4)).setCell ⟨gb192, 5, none⟩ (.int .i64 a1_5)).setCell ⟨gb192, 6, none⟩ (.int .i64 a1_6)).setCell ⟨gb192, 7, none⟩ (.int .i64 a1_7)).setCell ⟨gb192, 6, none⟩ (.int .i64 (wrap64 (a1_6 + a2)))).heap[gb188]? = some (.cells #[.int .i64 a0_0, .int .i64 a0_1, .int .i64 a0_2, .int .i64 a0_3, .int .i64 a0_4, .int .i64 a0_5] 23 (0, 0))) := ⟨by (with_reducible repeat (first | refine bN ?_ _ | refine bD ?_ | refine bA ?_ _ | refine blk_far ?_ NB188_192.out _)); exact BK188.out⟩
                        have n1_ : Aside0 ((((((((((w117.setCell ⟨gb192, 0, none⟩ (.bool false)).setCell ⟨gb192, 1, none⟩ (.int .i64 a1_1)).setCell ⟨gb192, 2, none⟩ (.int .i64 a1_2)).setCell ⟨gb192, 3, none⟩ (.int .i64 a1_3)).setCell ⟨gb192, 4, none⟩ (.bool a1_4)).setCell ⟨gb192, 5, none⟩ (.int .i64 a1_5)).setCell ⟨gb192, 6, none⟩ (.int .i64 a1_6)).setCell ⟨gb192, 7, none⟩ (.int .i64 a1_7)).setCell ⟨gb192, 6, none⟩ (.int .i64 (wrap64 (a1_6 + a2)))).heap[gb189]? = some (.cells #[.bool false, .int .i64 a1_1, .int .i64 a1_2, .int .i64 a1_3, .bool a1_4, .int .i64 a1_5, .int .i64 a1_6, .int .i64 a1_7] 25 (0, 0))) := ⟨by (with_reducible repeat (first | refine bN ?_ _ | refine bD ?_ | refine bA ?_ _ | refine blk_far ?_ NB189_192.out _)); exact BK189.out⟩
                        have n2_ : Aside0 ((((((((((w117.setCell ⟨gb192, 0, none⟩ (.bool false)).setCell ⟨gb192, 1, none⟩ (.int .i64 a1_1)).setCell ⟨gb192, 2, none⟩ (.int .i64 a1_2)).setCell ⟨gb192, 3, none⟩ (.int .i64 a1_3)).setCell ⟨gb192, 4, none⟩ (.bool a1_4)).setCell ⟨gb192, 5, none⟩ (.int .i64 a1_5)).setCell ⟨gb192, 6, none⟩ (.int .i64 a1_6)).setCell ⟨gb192, 7, none⟩ (.int .i64 a1_7)).setCell ⟨gb192, 6, none⟩ (.int .i64 (wrap64 (a1_6 + a2)))).heap[gb192]? = some (.cells #[.bool false, .int .i64 a1_1, .int .i64 a1_2, .int .i64 a1_3, .bool a1_4, .int .i64 a1_5, .int .i64 (wrap64 (a1_6 + a2)), .int .i64 a1_7] 25 (0, 0))) := ⟨by (with_reducible repeat (first | refine bN ?_ _ | refine bD ?_ | refine bA ?_ _)); refine blk_put (cs := #[.bool false, .int .i64 a1_1, .int .i64 a1_2, .int .i64 a1_3, .bool a1_4, .int .i64 a1_5, .int .i64 a1_6, .int .i64 a1_7]) ?_ 6 _ rfl; (with_reducible repeat (first | refine bN ?_ _ | refine bD ?_ | refine bA ?_ _)); refine blk_put (cs := #[.bool false, .int .i64 a1_1, .int .i64 a1_2, .int .i64 a1_3, .bool a1_4, .int .i64 a1_5, .int .i64 a1_6, .int .i64 0]) ?_ 7 _ rfl; (with_reducible repeat (first | refine bN ?_ _ | refine bD ?_ | refine bA ?_ _)); refine blk_put (cs := #[.bool false, .int .i64 a1_1, .int .i64 a1_2, .int .i64 a1_3, .bool a1_4, .int .i64 a1_5, .int .i64 0, .int .i64 0]) ?_ 6 _ rfl; (with_reducible repeat (first | refine bN ?_ _ | refine bD ?_ | refine bA ?_ _)); refine blk_put (cs := #[.bool false, .int .i64 a1_1, .int .i64 a1_2, .int .i64 a1_3, .bool a1_4, .int .i64 0, .int .i64 0, .int .i64 0]) ?_ 5 _ rfl; (with_reducible repeat (first | refine bN ?_ _ | refine bD ?_ | refine bA ?_ _)); refine blk_put (cs := #[.bool false, .int .i64 a1_1, .int .i64 a1_2, .int .i64 a1_3, .bool false, .int .i64 0, .int .i64 0, .int .i64 0]) ?_ 4 _ rfl; (with_reducible repeat (first | refine bN ?_ _ | refine bD ?_ | refine bA ?_ _)); refine blk_put (cs := #[.bool false, .int .i64 a1_1, .int .i64 a1_2, .int .i64 0, .bool false, .int .i64 0, .int .i64 0, .int .i64 0]) ?_ 3 _ rfl; (with_reducible repeat (first | refine bN ?_ _ | refine bD ?_ | refine bA ?_ _)); refine blk_put (cs := #[.bool false, .int .i64 a1_1, .int .i64 0, .int .i64 0, .bool false, .int .i64 0, .int .i64 0, .int .i64 0]) ?_ 2 _ rfl; (with_reducible repeat (first | refine bN ?_ _ | refine bD ?_ | refine bA ?_ _)); refine blk_put (cs := #[.bool false, .int .i64 0, .int .i64 0, .int .i64 0, .bool false, .int .i64 0, .int .i64 0, .int .i64 0]) ?_ 1 _ rfl; (with_reducible repeat (first | refine bN ?_ _ | refine bD ?_ | refine bA ?_ _)); refine blk_put (cs := #[.bool false, .int .i64 0, .int .i64 0, .int .i64 0, .bool false, .int .i64 0, .int .i64 0, .int .i64 0]) ?_ 0 _ rfl; (with_reducible repeat (first | refine bN ?_ _ | refine bD ?_ | refine bA ?_ _)); exact BK192.out⟩
                        have n3_ : Aside0 (Below w.heap.size w (((((((((w117.setCell ⟨gb192, 0, none⟩ (.bool false)).setCell ⟨gb192, 1, none⟩ (.int .i64 a1_1)).setCell ⟨gb192, 2, none⟩ (.int .i64 a1_2)).setCell ⟨gb192, 3, none⟩ (.int .i64 a1_3)).setCell ⟨gb192, 4, none⟩ (.bool a1_4)).setCell ⟨gb192, 5, none⟩ (.int .i64 a1_5)).setCell ⟨gb192, 6, none⟩ (.int .i64 a1_6)).setCell ⟨gb192, 7, none⟩ (.int .i64 a1_7)).setCell ⟨gb192, 6, none⟩ (.int .i64 (wrap64 (a1_6 + a2))))) := ⟨by repeat (first | (with_reducible first | exact HB.out | apply below_alloc | apply pw_below_drewN | apply below_drew1 | refine below_set ?_ GE188.out | refine below_set ?_ GE189.out | refine below_set ?_ GE192.out) | exact HB.out)⟩
                        (try clear BK188)
                        (try clear BK189)
                        (try clear BK192)
                        (try clear HB)
                        generalize (((((((((w117.setCell ⟨gb192, 0, none⟩ (.bool false)).setCell ⟨gb192, 1, none⟩ (.int .i64 a1_1)).setCell ⟨gb192, 2, none⟩ (.int .i64 a1_2)).setCell ⟨gb192, 3, none⟩ (.int .i64 a1_3)).setCell ⟨gb192, 4, none⟩ (.bool a1_4)).setCell ⟨gb192, 5, none⟩ (.int .i64 a1_5)).setCell ⟨gb192, 6, none⟩ (.int .i64 a1_6)).setCell ⟨gb192, 7, none⟩ (.int .i64 a1_7)).setCell ⟨gb192, 6, none⟩ (.int .i64 (wrap64 (a1_6 + a2)))) = w122 at n0_ n1_ n2_ n3_ ⊢
                        have BK188 := n0_
                        have BK189 := n1_
                        have BK192 := n2_
                        have HB := n3_
                        clear n0_ n1_ n2_ n3_
                        have n0_ := Aside0.mk (blk_drew BK188.out)
                        have n1_ := Aside0.mk (blk_drew BK189.out)
                        have n2_ := Aside0.mk (blk_drew BK192.out)
                        have n3_ := Aside0.mk (below_drew1 HB.out)
                        clear BK188
                        clear BK189
                        clear BK192
                        clear HB
                        have BK188 := n0_
                        have BK189 := n1_
                        have BK192 := n2_
                        have HB := n3_
                        clear n0_ n1_ n2_ n3_
                        refine start_ (n := 27) (S := fun w' => w'.cell? ⟨gb192, 0, none⟩ = some (.bool false) ∧ w'.cell? ⟨gb192, 1, none⟩ = some (.int .i64 a1_1) ∧ w'.cell? ⟨gb192, 2, none⟩ = some (.int .i64 a1_2) ∧ w'.cell? ⟨gb192, 3, none⟩ = some (.int .i64 a1_3) ∧ w'.cell? ⟨gb192, 4, none⟩ = some (.bool a1_4) ∧ w'.cell? ⟨gb192, 5, none⟩ = some (.int .i64 a1_5) ∧ w'.cell? ⟨gb192, 6, none⟩ = some (.int .i64 (wrap64 (a1_6 + a2))) ∧ w'.cell? ⟨gb192, 7, none⟩ = some (.int .i64 a1_7) ∧ w'.cell? ⟨gb189, 0, none⟩ = some (.bool false) ∧ w'.cell? ⟨gb189, 1, none⟩ = some (.int .i64 a1_1) ∧ w'.cell? ⟨gb189, 2, none⟩ = some (.int .i64 a1_2) ∧ w'.cell? ⟨gb189, 3, none⟩ = some (.int .i64 a1_3) ∧ w'.cell? ⟨gb189, 4, none⟩ = some (.bool a1_4) ∧ w'.cell? ⟨gb189, 5, none⟩ = some (.int .i64 a1_5) ∧ w'.cell? ⟨gb189, 6, none⟩ = some (.int .i64 a1_6) ∧ w'.cell? ⟨gb189, 7, none⟩ = some (.int .i64 a1_7)) (ds := []) #[false, false, false, false, false, false, false, false, false, false, false, false, false, false, false, false, false, false, false, false, false, false, false, false, false, false, false] (by kernel_rfl) rfl rfl ⟨(blk_cell BK192.out 0).trans rfl, (blk_cell BK192.out 1).trans rfl, (blk_cell BK192.out 2).trans rfl, (blk_cell BK192.out 3).trans rfl, (blk_cell BK192.out 4).trans rfl, (blk_cell BK192.out 5).trans rfl, (blk_cell BK192.out 6).trans rfl, (blk_cell BK192.out 7).trans rfl, (blk_cell BK189.out 0).trans rfl, (blk_cell BK189.out 1).trans rfl, (blk_cell BK189.out 2).trans rfl, (blk_cell BK189.out 3).trans rfl, (blk_cell BK189.out 4).trans rfl, (blk_cell BK189.out 5).trans rfl, (blk_cell BK189.out 6).trans rfl, (blk_cell BK189.out 7).trans rfl⟩ (fun hHeld => ?_); refine with_tabW fuseelaw11_JobLong.tab6 fuseelaw11_JobLong.bits6 (fun HT_ HW_ => ?_)
                        generalize w122.drew = w123 at BK188 BK189 BK192 HB hHeld ⊢
                        refine take_ (i := 0) (N := some 35) (v := ?_) (a' := ?_) #[true, false, false, false, false, false, false, false, false, false, false, false, false, false, false, false, false, false, false, false, false, false, false, false, false, false, false] rfl rfl (take_ofW HT_.out HW_.out (by kernel_rfl)) (fun _ _ _ h => h) (Or.inl ⟨by rfl, ?_⟩) hHeld ?_ ?_
                        rotate_left
                        · rintro w' ⟨s0, s1, s2, s3, s4, s5, s6, s7, s8, s9, s10, s11, s12, s13, s14, s15⟩
                          go_simp
                          with_reducible rfl
                        rotate_left; focus (simp only [Act.put, List.setIfInBounds_toArray, List.set_cons_zero, List.set_cons_succ, i64_w, i32_w]; rfl)
                        refine take_ (i := 2) (N := some 37) (v := ?_) (a' := ?_) #[true, false, true, false, false, false, false, false, false, false, false, false, false, false, false, false, false, false, false, false, false, false, false, false, false, false, false] rfl rfl (take_ofW HT_.out HW_.out (by kernel_rfl)) (fun _ _ _ h => h) (Or.inl ⟨by rfl, ?_⟩) hHeld ?_ ?_
                        rotate_left
                        · rintro w' ⟨s0, s1, s2, s3, s4, s5, s6, s7, s8, s9, s10, s11, s12, s13, s14, s15⟩
                          go_simp
                          with_reducible rfl
                        rotate_left; focus (simp only [Act.put, List.setIfInBounds_toArray, List.set_cons_zero, List.set_cons_succ, i64_w, i32_w]; rfl)
                        refine one_ (i := 1) (N := some 36) #[true, true, true, false, false, false, false, false, false, false, false, false, false, false, false, false, false, false, false, false, false, false, false, false, false, false, false] rfl rfl (one_of HT_.out (by kernel_rfl)) (by decide) (fun K hK => ?_)
                        refine goes_ Try.func11 (by kernel_rfl) rfl #[.agg #[.bool false, .int .i64 a1_1, .int .i64 a1_2, .int .i64 a1_3, .bool a1_4, .int .i64 a1_5, .int .i64 (wrap64 (a1_6 + a2)), .int .i64 a1_7]] (by rfl) rfl rfl (by (try simp only [List.map_toArray, List.map_cons, List.map_nil]); first | done | rfl | (simp only [List.length_drop, List.length_take]; rfl)) ?_
                        with_reducible refine (job_Left.calls false a1_1 a1_2 a1_3 a1_4 a1_5 (wrap64 (a1_6 + a2)) a1_7 t193 _ A24.out).mono ?_
                        rintro e w124 ⟨rfl, hb⟩
                        refine ⟨_, rfl, ?_⟩
                        have n0_ := bb BK188 hb
                        have n1_ := bb BK189 hb
                        have n2_ := bb BK192 hb
                        have n3_ := bs HB hb
                        clear BK188
                        clear BK189
                        clear BK192
                        clear HB
                        have BK188 := n0_
                        have BK189 := n1_
                        have BK192 := n2_
                        have HB := n3_
                        clear n0_ n1_ n2_ n3_
                        (try clear hb)
                        (try clear hb2)
                        (try clear hk)
                        (try clear hi)
                        refine hK.out _ _ ⟨(blk_cell BK192.out 0).trans rfl, (blk_cell BK192.out 1).trans rfl, (blk_cell BK192.out 2).trans rfl, (blk_cell BK192.out 3).trans rfl, (blk_cell BK192.out 4).trans rfl, (blk_cell BK192.out 5).trans rfl, (blk_cell BK192.out 6).trans rfl, (blk_cell BK192.out 7).trans rfl, (blk_cell BK189.out 0).trans rfl, (blk_cell BK189.out 1).trans rfl, (blk_cell BK189.out 2).trans rfl, (blk_cell BK189.out 3).trans rfl, (blk_cell BK189.out 4).trans rfl, (blk_cell BK189.out 5).trans rfl, (blk_cell BK189.out 6).trans rfl, (blk_cell BK189.out 7).trans rfl⟩ (fun hHeld => ?_)
                        clear hK K
                        refine norm_ (a' := ?_) ?_ ?_
                        rotate_left
                        · show Act.put _ (some 36) _ = _
                          simp only [Act.put, List.setIfInBounds_toArray, List.set_cons_zero, List.set_cons_succ, i64_w, i32_w]
                          rfl
                        refine one_ (i := 3) (N := some 38) #[true, true, true, true, false, false, false, false, false, false, false, false, false, false, false, false, false, false, false, false, false, false, false, false, false, false, false] rfl rfl (one_of HT_.out (by kernel_rfl)) (by decide) (fun K hK => ?_)
                        refine goes_ Try.func11 (by kernel_rfl) rfl #[.agg #[.bool false, .int .i64 a1_1, .int .i64 a1_2, .int .i64 a1_3, .bool a1_4, .int .i64 a1_5, .int .i64 a1_6, .int .i64 a1_7]] (by rfl) rfl rfl (by (try simp only [List.map_toArray, List.map_cons, List.map_nil]); first | done | rfl | (simp only [List.length_drop, List.length_take]; rfl)) ?_
                        with_reducible refine (job_Left.calls false a1_1 a1_2 a1_3 a1_4 a1_5 a1_6 a1_7 t194 _ A25.out).mono ?_
                        rintro e w125 ⟨rfl, hb⟩
                        refine ⟨_, rfl, ?_⟩
                        have n0_ := bb BK188 hb
                        have n1_ := bb BK189 hb
                        have n2_ := bb BK192 hb
                        have n3_ := bs HB hb
                        clear BK188
                        clear BK189
                        clear BK192
                        clear HB
                        have BK188 := n0_
                        have BK189 := n1_
                        have BK192 := n2_
                        have HB := n3_
                        clear n0_ n1_ n2_ n3_
                        (try clear hb)
                        (try clear hb2)
                        (try clear hk)
                        (try clear hi)
                        refine hK.out _ _ ⟨(blk_cell BK192.out 0).trans rfl, (blk_cell BK192.out 1).trans rfl, (blk_cell BK192.out 2).trans rfl, (blk_cell BK192.out 3).trans rfl, (blk_cell BK192.out 4).trans rfl, (blk_cell BK192.out 5).trans rfl, (blk_cell BK192.out 6).trans rfl, (blk_cell BK192.out 7).trans rfl, (blk_cell BK189.out 0).trans rfl, (blk_cell BK189.out 1).trans rfl, (blk_cell BK189.out 2).trans rfl, (blk_cell BK189.out 3).trans rfl, (blk_cell BK189.out 4).trans rfl, (blk_cell BK189.out 5).trans rfl, (blk_cell BK189.out 6).trans rfl, (blk_cell BK189.out 7).trans rfl⟩ (fun hHeld => ?_)
                        clear hK K
                        refine norm_ (a' := ?_) ?_ ?_
                        rotate_left
                        · show Act.put _ (some 38) _ = _
                          simp only [Act.put, List.setIfInBounds_toArray, List.set_cons_zero, List.set_cons_succ, i64_w, i32_w]
                          rfl
                        refine pure_ (i := 4) (N := some 39) (v := ?_) (a' := ?_) #[true, true, true, true, true, false, false, false, false, false, false, false, false, false, false, false, false, false, false, false, false, false, false, false, false, false, false] rfl rfl (any_of HT_.out (by kernel_rfl)) (fun _ _ _ h => h) (Or.inl ⟨by rfl, ?_⟩) ?_ ?_
                        rotate_left; focus (intro w'; go_simp; with_reducible rfl)
                        rotate_left; focus (simp only [Act.put, List.setIfInBounds_toArray, List.set_cons_zero, List.set_cons_succ, i64_w, i32_w]; rfl)
                        refine pure_ (i := 5) (N := some 40) (v := ?_) (a' := ?_) #[true, true, true, true, true, true, false, false, false, false, false, false, false, false, false, false, false, false, false, false, false, false, false, false, false, false, false] rfl rfl (any_of HT_.out (by kernel_rfl)) (fun _ _ _ h => h) (Or.inl ⟨by rfl, ?_⟩) ?_ ?_
                        rotate_left; focus (intro w'; go_simp; with_reducible rfl)
                        rotate_left; focus (simp only [Act.put, List.setIfInBounds_toArray, List.set_cons_zero, List.set_cons_succ, i64_w, i32_w]; rfl)
                        refine take_ (i := 6) (N := some 41) (v := ?_) (a' := ?_) #[true, true, true, true, true, true, true, false, false, false, false, false, false, false, false, false, false, false, false, false, false, false, false, false, false, false, false] rfl rfl (take_ofW HT_.out HW_.out (by kernel_rfl)) (fun _ _ _ h => h) (Or.inl ⟨by rfl, ?_⟩) hHeld ?_ ?_
                        rotate_left
                        · rintro w' ⟨s0, s1, s2, s3, s4, s5, s6, s7, s8, s9, s10, s11, s12, s13, s14, s15⟩
                          go_simp
                          with_reducible rfl
                        rotate_left; focus (simp only [Act.put, List.setIfInBounds_toArray, List.set_cons_zero, List.set_cons_succ, i64_w, i32_w]; rfl)
                        refine take_ (i := 8) (N := some 43) (v := ?_) (a' := ?_) #[true, true, true, true, true, true, true, false, true, false, false, false, false, false, false, false, false, false, false, false, false, false, false, false, false, false, false] rfl rfl (take_ofW HT_.out HW_.out (by kernel_rfl)) (fun _ _ _ h => h) (Or.inl ⟨by rfl, ?_⟩) hHeld ?_ ?_
                        rotate_left
                        · rintro w' ⟨s0, s1, s2, s3, s4, s5, s6, s7, s8, s9, s10, s11, s12, s13, s14, s15⟩
                          go_simp
                          with_reducible rfl
                        rotate_left; focus (simp only [Act.put, List.setIfInBounds_toArray, List.set_cons_zero, List.set_cons_succ, i64_w, i32_w]; rfl)
                        refine one_ (i := 7) (N := some 42) #[true, true, true, true, true, true, true, true, true, false, false, false, false, false, false, false, false, false, false, false, false, false, false, false, false, false, false] rfl rfl (one_of HT_.out (by kernel_rfl)) (by decide) (fun K hK => ?_)
                        refine goes_ Try.func11 (by kernel_rfl) rfl #[.agg #[.bool false, .int .i64 a1_1, .int .i64 a1_2, .int .i64 a1_3, .bool a1_4, .int .i64 a1_5, .int .i64 a1_6, .int .i64 a1_7]] (by rfl) rfl rfl (by (try simp only [List.map_toArray, List.map_cons, List.map_nil]); first | done | rfl | (simp only [List.length_drop, List.length_take]; rfl)) ?_
                        with_reducible refine (job_Left.calls false a1_1 a1_2 a1_3 a1_4 a1_5 a1_6 a1_7 t195 _ A27.out).mono ?_
                        rintro e w126 ⟨rfl, hb⟩
                        refine ⟨_, rfl, ?_⟩
                        have n0_ := bb BK188 hb
                        have n1_ := bb BK189 hb
                        have n2_ := bb BK192 hb
                        have n3_ := bs HB hb
                        clear BK188
                        clear BK189
                        clear BK192
                        clear HB
                        have BK188 := n0_
                        have BK189 := n1_
                        have BK192 := n2_
                        have HB := n3_
                        clear n0_ n1_ n2_ n3_
                        (try clear hb)
                        (try clear hb2)
                        (try clear hk)
                        (try clear hi)
                        refine hK.out _ _ ⟨(blk_cell BK192.out 0).trans rfl, (blk_cell BK192.out 1).trans rfl, (blk_cell BK192.out 2).trans rfl, (blk_cell BK192.out 3).trans rfl, (blk_cell BK192.out 4).trans rfl, (blk_cell BK192.out 5).trans rfl, (blk_cell BK192.out 6).trans rfl, (blk_cell BK192.out 7).trans rfl, (blk_cell BK189.out 0).trans rfl, (blk_cell BK189.out 1).trans rfl, (blk_cell BK189.out 2).trans rfl, (blk_cell BK189.out 3).trans rfl, (blk_cell BK189.out 4).trans rfl, (blk_cell BK189.out 5).trans rfl, (blk_cell BK189.out 6).trans rfl, (blk_cell BK189.out 7).trans rfl⟩ (fun hHeld => ?_)
                        clear hK K
                        refine norm_ (a' := ?_) ?_ ?_
                        rotate_left
                        · show Act.put _ (some 42) _ = _
                          simp only [Act.put, List.setIfInBounds_toArray, List.set_cons_zero, List.set_cons_succ, i64_w, i32_w]
                          rfl
                        refine one_ (i := 9) (N := some 44) #[true, true, true, true, true, true, true, true, true, true, false, false, false, false, false, false, false, false, false, false, false, false, false, false, false, false, false] rfl rfl (one_of HT_.out (by kernel_rfl)) (by decide) (fun K hK => ?_)
                        refine goes_ Try.func12 (by kernel_rfl) rfl #[.agg #[.bool false, .int .i64 a1_1, .int .i64 a1_2, .int .i64 a1_3, .bool a1_4, .int .i64 a1_5, .int .i64 a1_6, .int .i64 a1_7]] (by rfl) rfl rfl (by (try simp only [List.map_toArray, List.map_cons, List.map_nil]); first | done | rfl | (simp only [List.length_drop, List.length_take]; rfl)) ?_
                        with_reducible refine (job_Worst.calls false a1_1 a1_2 a1_3 a1_4 a1_5 a1_6 a1_7 t196 _ A28.out).mono ?_
                        rintro e w127 ⟨rfl, hb⟩
                        refine ⟨_, rfl, ?_⟩
                        have n0_ := bb BK188 hb
                        have n1_ := bb BK189 hb
                        have n2_ := bb BK192 hb
                        have n3_ := bs HB hb
                        clear BK188
                        clear BK189
                        clear BK192
                        clear HB
                        have BK188 := n0_
                        have BK189 := n1_
                        have BK192 := n2_
                        have HB := n3_
                        clear n0_ n1_ n2_ n3_
                        (try clear hb)
                        (try clear hb2)
                        (try clear hk)
                        (try clear hi)
                        refine hK.out _ _ ⟨(blk_cell BK192.out 0).trans rfl, (blk_cell BK192.out 1).trans rfl, (blk_cell BK192.out 2).trans rfl, (blk_cell BK192.out 3).trans rfl, (blk_cell BK192.out 4).trans rfl, (blk_cell BK192.out 5).trans rfl, (blk_cell BK192.out 6).trans rfl, (blk_cell BK192.out 7).trans rfl, (blk_cell BK189.out 0).trans rfl, (blk_cell BK189.out 1).trans rfl, (blk_cell BK189.out 2).trans rfl, (blk_cell BK189.out 3).trans rfl, (blk_cell BK189.out 4).trans rfl, (blk_cell BK189.out 5).trans rfl, (blk_cell BK189.out 6).trans rfl, (blk_cell BK189.out 7).trans rfl⟩ (fun hHeld => ?_)
                        clear hK K
                        refine norm_ (a' := ?_) ?_ ?_
                        rotate_left
                        · show Act.put _ (some 44) _ = _
                          simp only [Act.put, List.setIfInBounds_toArray, List.set_cons_zero, List.set_cons_succ, i64_w, i32_w]
                          rfl
                        refine pure_ (i := 10) (N := some 45) (v := ?_) (a' := ?_) #[true, true, true, true, true, true, true, true, true, true, true, false, false, false, false, false, false, false, false, false, false, false, false, false, false, false, false] rfl rfl (any_of HT_.out (by kernel_rfl)) (fun _ _ _ h => h) (Or.inl ⟨by rfl, ?_⟩) ?_ ?_
                        rotate_left; focus (intro w'; go_simp; with_reducible rfl)
                        rotate_left; focus (simp only [Act.put, List.setIfInBounds_toArray, List.set_cons_zero, List.set_cons_succ, i64_w, i32_w]; rfl)
                        refine pure_ (i := 11) (N := some 46) (v := ?_) (a' := ?_) #[true, true, true, true, true, true, true, true, true, true, true, true, false, false, false, false, false, false, false, false, false, false, false, false, false, false, false] rfl rfl (any_of HT_.out (by kernel_rfl)) (fun _ _ _ h => h) (Or.inl ⟨by rfl, ?_⟩) ?_ ?_
                        rotate_left; focus (intro w'; go_simp; with_reducible rfl)
                        rotate_left; focus (simp only [Act.put, List.setIfInBounds_toArray, List.set_cons_zero, List.set_cons_succ, i64_w, i32_w]; rfl)
                        refine pure_ (i := 12) (N := some 47) (v := ?_) (a' := ?_) #[true, true, true, true, true, true, true, true, true, true, true, true, true, false, false, false, false, false, false, false, false, false, false, false, false, false, false] rfl rfl (any_of HT_.out (by kernel_rfl)) (fun _ _ _ h => h) (Or.inl ⟨by rfl, ?_⟩) ?_ ?_
                        rotate_left; focus (intro w'; go_simp; with_reducible rfl)
                        rotate_left; focus (simp only [Act.put, List.setIfInBounds_toArray, List.set_cons_zero, List.set_cons_succ, i64_w, i32_w]; rfl)
                        refine pure_ (i := 13) (N := some 48) (v := ?_) (a' := ?_) #[true, true, true, true, true, true, true, true, true, true, true, true, true, true, false, false, false, false, false, false, false, false, false, false, false, false, false] rfl rfl (any_of HT_.out (by kernel_rfl)) (fun _ _ _ h => h) (Or.inl ⟨by rfl, ?_⟩) ?_ ?_
                        rotate_left; focus (intro w'; go_simp; with_reducible rfl)
                        rotate_left; focus (simp only [Act.put, List.setIfInBounds_toArray, List.set_cons_zero, List.set_cons_succ, i64_w, i32_w]; rfl)
                        refine take_ (i := 14) (N := some 49) (v := ?_) (a' := ?_) #[true, true, true, true, true, true, true, true, true, true, true, true, true, true, true, false, false, false, false, false, false, false, false, false, false, false, false] rfl rfl (take_ofW HT_.out HW_.out (by kernel_rfl)) (fun _ _ _ h => h) (Or.inl ⟨by rfl, ?_⟩) hHeld ?_ ?_
                        rotate_left
                        · rintro w' ⟨s0, s1, s2, s3, s4, s5, s6, s7, s8, s9, s10, s11, s12, s13, s14, s15⟩
                          go_simp
                          with_reducible rfl
                        rotate_left; focus (simp only [Act.put, List.setIfInBounds_toArray, List.set_cons_zero, List.set_cons_succ, i64_w, i32_w]; rfl)
                        refine pure_ (i := 15) (N := some 50) (v := ?_) (a' := ?_) #[true, true, true, true, true, true, true, true, true, true, true, true, true, true, true, true, false, false, false, false, false, false, false, false, false, false, false] rfl rfl (any_of HT_.out (by kernel_rfl)) (fun _ _ _ h => h) (Or.inl ⟨by rfl, ?_⟩) ?_ ?_
                        rotate_left; focus (intro w'; go_simp; with_reducible rfl)
                        rotate_left; focus (simp only [Act.put, List.setIfInBounds_toArray, List.set_cons_zero, List.set_cons_succ, i64_w, i32_w]; rfl)
                        refine pure_ (i := 16) (N := some 51) (v := ?_) (a' := ?_) #[true, true, true, true, true, true, true, true, true, true, true, true, true, true, true, true, true, false, false, false, false, false, false, false, false, false, false] rfl rfl (any_of HT_.out (by kernel_rfl)) (fun _ _ _ h => h) (Or.inl ⟨by rfl, ?_⟩) ?_ ?_
                        rotate_left; focus (intro w'; go_simp; with_reducible rfl)
                        rotate_left; focus (simp only [Act.put, List.setIfInBounds_toArray, List.set_cons_zero, List.set_cons_succ, i64_w, i32_w]; rfl)
                        refine take_ (i := 17) (N := some 52) (v := ?_) (a' := ?_) #[true, true, true, true, true, true, true, true, true, true, true, true, true, true, true, true, true, true, false, false, false, false, false, false, false, false, false] rfl rfl (take_ofW HT_.out HW_.out (by kernel_rfl)) (fun _ _ _ h => h) (Or.inl ⟨by rfl, ?_⟩) hHeld ?_ ?_
                        rotate_left
                        · rintro w' ⟨s0, s1, s2, s3, s4, s5, s6, s7, s8, s9, s10, s11, s12, s13, s14, s15⟩
                          go_simp
                          with_reducible rfl
                        rotate_left; focus (simp only [Act.put, List.setIfInBounds_toArray, List.set_cons_zero, List.set_cons_succ, i64_w, i32_w]; rfl)
                        refine one_ (i := 18) (N := some 53) #[true, true, true, true, true, true, true, true, true, true, true, true, true, true, true, true, true, true, true, false, false, false, false, false, false, false, false] rfl rfl (one_of HT_.out (by kernel_rfl)) (by decide) (fun K hK => ?_)
                        refine goes_ Try.func11 (by kernel_rfl) rfl #[.agg #[.bool false, .int .i64 a1_1, .int .i64 a1_2, .int .i64 a1_3, .bool a1_4, .int .i64 a1_5, .int .i64 a1_6, .int .i64 a1_7]] (by rfl) rfl rfl (by (try simp only [List.map_toArray, List.map_cons, List.map_nil]); first | done | rfl | (simp only [List.length_drop, List.length_take]; rfl)) ?_
                        with_reducible refine (job_Left.calls false a1_1 a1_2 a1_3 a1_4 a1_5 a1_6 a1_7 t211 _ A98.out).mono ?_
                        rintro e w128 ⟨rfl, hb⟩
                        refine ⟨_, rfl, ?_⟩
                        have n0_ := bb BK188 hb
                        have n1_ := bb BK189 hb
                        have n2_ := bb BK192 hb
                        have n3_ := bs HB hb
                        clear BK188
                        clear BK189
                        clear BK192
                        clear HB
                        have BK188 := n0_
                        have BK189 := n1_
                        have BK192 := n2_
                        have HB := n3_
                        clear n0_ n1_ n2_ n3_
                        (try clear hb)
                        (try clear hb2)
                        (try clear hk)
                        (try clear hi)
                        refine hK.out _ _ ⟨(blk_cell BK192.out 0).trans rfl, (blk_cell BK192.out 1).trans rfl, (blk_cell BK192.out 2).trans rfl, (blk_cell BK192.out 3).trans rfl, (blk_cell BK192.out 4).trans rfl, (blk_cell BK192.out 5).trans rfl, (blk_cell BK192.out 6).trans rfl, (blk_cell BK192.out 7).trans rfl, (blk_cell BK189.out 0).trans rfl, (blk_cell BK189.out 1).trans rfl, (blk_cell BK189.out 2).trans rfl, (blk_cell BK189.out 3).trans rfl, (blk_cell BK189.out 4).trans rfl, (blk_cell BK189.out 5).trans rfl, (blk_cell BK189.out 6).trans rfl, (blk_cell BK189.out 7).trans rfl⟩ (fun hHeld => ?_)
                        clear hK K
                        refine norm_ (a' := ?_) ?_ ?_
                        rotate_left
                        · show Act.put _ (some 53) _ = _
                          simp only [Act.put, List.setIfInBounds_toArray, List.set_cons_zero, List.set_cons_succ, i64_w, i32_w]
                          rfl
                        refine pure_ (i := 19) (N := some 54) (v := ?_) (a' := ?_) #[true, true, true, true, true, true, true, true, true, true, true, true, true, true, true, true, true, true, true, true, false, false, false, false, false, false, false] rfl rfl (any_of HT_.out (by kernel_rfl)) (fun _ _ _ h => h) (Or.inl ⟨by rfl, ?_⟩) ?_ ?_
                        rotate_left; focus (intro w'; go_simp; with_reducible rfl)
                        rotate_left; focus (simp only [Act.put, List.setIfInBounds_toArray, List.set_cons_zero, List.set_cons_succ, i64_w, i32_w]; rfl)
                        refine pure_ (i := 20) (N := some 55) (v := ?_) (a' := ?_) #[true, true, true, true, true, true, true, true, true, true, true, true, true, true, true, true, true, true, true, true, true, false, false, false, false, false, false] rfl rfl (any_of HT_.out (by kernel_rfl)) (fun _ _ _ h => h) (Or.inl ⟨by rfl, ?_⟩) ?_ ?_
                        rotate_left; focus (intro w'; go_simp; with_reducible rfl)
                        rotate_left; focus (simp only [Act.put, List.setIfInBounds_toArray, List.set_cons_zero, List.set_cons_succ, i64_w, i32_w]; rfl)
                        refine take_ (i := 21) (N := some 56) (v := ?_) (a' := ?_) #[true, true, true, true, true, true, true, true, true, true, true, true, true, true, true, true, true, true, true, true, true, true, false, false, false, false, false] rfl rfl (take_ofW HT_.out HW_.out (by kernel_rfl)) (fun _ _ _ h => h) (Or.inl ⟨by rfl, ?_⟩) hHeld ?_ ?_
                        rotate_left
                        · rintro w' ⟨s0, s1, s2, s3, s4, s5, s6, s7, s8, s9, s10, s11, s12, s13, s14, s15⟩
                          go_simp
                          with_reducible rfl
                        rotate_left; focus (simp only [Act.put, List.setIfInBounds_toArray, List.set_cons_zero, List.set_cons_succ, i64_w, i32_w]; rfl)
                        refine one_ (i := 22) (N := some 57) #[true, true, true, true, true, true, true, true, true, true, true, true, true, true, true, true, true, true, true, true, true, true, true, false, false, false, false] rfl rfl (one_of HT_.out (by kernel_rfl)) (by decide) (fun K hK => ?_)
                        refine goes_ Try.func12 (by kernel_rfl) rfl #[.agg #[.bool false, .int .i64 a1_1, .int .i64 a1_2, .int .i64 a1_3, .bool a1_4, .int .i64 a1_5, .int .i64 a1_6, .int .i64 a1_7]] (by rfl) rfl rfl (by (try simp only [List.map_toArray, List.map_cons, List.map_nil]); first | done | rfl | (simp only [List.length_drop, List.length_take]; rfl)) ?_
                        with_reducible refine (job_Worst.calls false a1_1 a1_2 a1_3 a1_4 a1_5 a1_6 a1_7 t212 _ A100.out).mono ?_
                        rintro e w129 ⟨rfl, hb⟩
                        refine ⟨_, rfl, ?_⟩
                        have n0_ := bb BK188 hb
                        have n1_ := bb BK189 hb
                        have n2_ := bb BK192 hb
                        have n3_ := bs HB hb
                        clear BK188
                        clear BK189
                        clear BK192
                        clear HB
                        have BK188 := n0_
                        have BK189 := n1_
                        have BK192 := n2_
                        have HB := n3_
                        clear n0_ n1_ n2_ n3_
                        (try clear hb)
                        (try clear hb2)
                        (try clear hk)
                        (try clear hi)
                        refine hK.out _ _ ⟨(blk_cell BK192.out 0).trans rfl, (blk_cell BK192.out 1).trans rfl, (blk_cell BK192.out 2).trans rfl, (blk_cell BK192.out 3).trans rfl, (blk_cell BK192.out 4).trans rfl, (blk_cell BK192.out 5).trans rfl, (blk_cell BK192.out 6).trans rfl, (blk_cell BK192.out 7).trans rfl, (blk_cell BK189.out 0).trans rfl, (blk_cell BK189.out 1).trans rfl, (blk_cell BK189.out 2).trans rfl, (blk_cell BK189.out 3).trans rfl, (blk_cell BK189.out 4).trans rfl, (blk_cell BK189.out 5).trans rfl, (blk_cell BK189.out 6).trans rfl, (blk_cell BK189.out 7).trans rfl⟩ (fun hHeld => ?_)
                        clear hK K
                        refine norm_ (a' := ?_) ?_ ?_
                        rotate_left
                        · show Act.put _ (some 57) _ = _
                          simp only [Act.put, List.setIfInBounds_toArray, List.set_cons_zero, List.set_cons_succ, i64_w, i32_w]
                          rfl
                        refine pure_ (i := 23) (N := some 58) (v := ?_) (a' := ?_) #[true, true, true, true, true, true, true, true, true, true, true, true, true, true, true, true, true, true, true, true, true, true, true, true, false, false, false] rfl rfl (any_of HT_.out (by kernel_rfl)) (fun _ _ _ h => h) (Or.inl ⟨by rfl, ?_⟩) ?_ ?_
                        rotate_left; focus (intro w'; go_simp; with_reducible rfl)
                        rotate_left; focus (simp only [Act.put, List.setIfInBounds_toArray, List.set_cons_zero, List.set_cons_succ, i64_w, i32_w]; rfl)
                        refine pure_ (i := 24) (N := some 59) (v := ?_) (a' := ?_) #[true, true, true, true, true, true, true, true, true, true, true, true, true, true, true, true, true, true, true, true, true, true, true, true, true, false, false] rfl rfl (any_of HT_.out (by kernel_rfl)) (fun _ _ _ h => h) (Or.inl ⟨by rfl, ?_⟩) ?_ ?_
                        rotate_left; focus (intro w'; go_simp; with_reducible rfl)
                        rotate_left; focus (simp only [Act.put, List.setIfInBounds_toArray, List.set_cons_zero, List.set_cons_succ, i64_w, i32_w]; rfl)
                        refine pure_ (i := 25) (N := some 60) (v := ?_) (a' := ?_) #[true, true, true, true, true, true, true, true, true, true, true, true, true, true, true, true, true, true, true, true, true, true, true, true, true, true, false] rfl rfl (any_of HT_.out (by kernel_rfl)) (fun _ _ _ h => h) (Or.inl ⟨by rfl, ?_⟩) ?_ ?_
                        rotate_left; focus (intro w'; go_simp; with_reducible rfl)
                        rotate_left; focus (simp only [Act.put, List.setIfInBounds_toArray, List.set_cons_zero, List.set_cons_succ, i64_w, i32_w]; rfl)
                        refine pure_ (i := 26) (N := some 61) (v := ?_) (a' := ?_) #[true, true, true, true, true, true, true, true, true, true, true, true, true, true, true, true, true, true, true, true, true, true, true, true, true, true, true] rfl rfl (any_of HT_.out (by kernel_rfl)) (fun _ _ _ h => h) (Or.inl ⟨by rfl, ?_⟩) ?_ ?_
                        rotate_left; focus (intro w'; go_simp; with_reducible rfl)
                        rotate_left; focus (simp only [Act.put, List.setIfInBounds_toArray, List.set_cons_zero, List.set_cons_succ, i64_w, i32_w]; rfl)
                        refine done_ (done_of HT_.out (by kernel_rfl)) ?_
                        obtain ⟨hcz130_0, hcz130_1, hcz130_2, hcz130_3, hcz130_4, hcz130_5, hcz130_6, hcz130_7⟩ := cc8 BK189
                        obtain ⟨hfz130_0, hfz130_1, hfz130_2, hfz130_3, hfz130_4, hfz130_5, hfz130_6, hfz130_7⟩ := cf8 BK189
                        try go_wp2_with (first | ((with_reducible refine gate_callee (f := 13) rfl ?_); refine goesL_ (some 64) rfl rfl Try.func13 (by kernel_rfl) rfl #[.agg #[.bool false, .int .i64 a1_1, .int .i64 a1_2, .int .i64 a1_3, .bool a1_4, .int .i64 a1_5, .int .i64 a1_6, .int .i64 a1_7]] rfl (by (try simp only [List.map_toArray, List.map_cons, List.map_nil]); first | done | rfl | (simp only [List.length_drop, List.length_take]; rfl)) ?_; (with_reducible refine (job_Step.calls false a1_1 a1_2 a1_3 a1_4 a1_5 a1_6 a1_7 t213 t214 t215 t216 t217 t218 t219 t220 t221 _ A102.out).mono ?_); rintro e w131 ⟨rfl, hb⟩; refine ⟨_, rfl, ?_⟩; have n0_ := bb BK188 hb; have n1_ := bb BK189 hb; have n2_ := bb BK192 hb; have n3_ := bs HB hb; clear BK188; clear BK189; clear BK192; clear HB; have BK188 := n0_; have BK189 := n1_; have BK192 := n2_; have HB := n3_; clear n0_ n1_ n2_ n3_; (try clear hb); (try clear hb2); (try clear hk); (try clear hi)) | ((with_reducible refine gate_dst (N := 9) rfl ?_); refine box_event ?hg (N := 9) ?hd (cs := #[.bool false, .int .i64 0, .int .i64 0, .int .i64 0, .bool false, .int .i64 0, .int .i64 0, .int .i64 0]) (t := 25) ?hr ?_; (case hd => rfl); (case hg => rfl); (case hr => first | (go_simp; done) | (go_simp; rfl)); intro gb222 hg w132 hbox hb; have n0_ := bb BK188 hb; have n1_ := bb BK189 hb; have n2_ := bb BK192 hb; have n3_ := bs HB hb; have n4_ := Aside0.mk (hbox); have n5_ := bz HB hg; have n6_ := bz HB hg; have n7_ := bl BK188 hg; have n8_ := bg BK188 hg; have n9_ := bl BK189 hg; have n10_ := bg BK189 hg; have n11_ := bl BK192 hg; have n12_ := bg BK192 hg; clear BK188; clear BK189; clear BK192; clear HB; have BK188 := n0_; have BK189 := n1_; have BK192 := n2_; have HB := n3_; have BK222 := n4_; have GW222 := n5_; have GE222 := n6_; have NB188_222 := n7_; have NB222_188 := n8_; have NB189_222 := n9_; have NB222_189 := n10_; have NB192_222 := n11_; have NB222_192 := n12_; clear n0_ n1_ n2_ n3_ n4_ n5_ n6_ n7_ n8_ n9_ n10_ n11_ n12_; clear hb hbox hg; have hnb133 := NB222_188.out; have hnc133 := NB188_222.out; have hnb134 := NB222_189.out; have hnc134 := NB189_222.out; have hnb135 := NB222_192.out; have hnc135 := NB192_222.out; (try clear hcz130_0 hcz130_1 hcz130_2 hcz130_3 hcz130_4 hcz130_5 hcz130_6 hcz130_7 hfz130_0 hfz130_1 hfz130_2 hfz130_3 hfz130_4 hfz130_5 hfz130_6 hfz130_7); obtain ⟨hcz136_0, hcz136_1, hcz136_2, hcz136_3, hcz136_4, hcz136_5, hcz136_6, hcz136_7⟩ := cc8 BK222; obtain ⟨hfz136_0, hfz136_1, hfz136_2, hfz136_3, hfz136_4, hfz136_5, hfz136_6, hfz136_7⟩ := cf8 BK222))
                        have n0_ : Aside0 (((((((((w132.setCell ⟨gb222, 0, none⟩ (.bool t213)).setCell ⟨gb222, 1, none⟩ (.int .i64 t214)).setCell ⟨gb222, 2, none⟩ (.int .i64 t215)).setCell ⟨gb222, 3, none⟩ (.int .i64 t216)).setCell ⟨gb222, 4, none⟩ (.bool t217)).setCell ⟨gb222, 5, none⟩ (.int .i64 t218)).setCell ⟨gb222, 6, none⟩ (.int .i64 t219)).setCell ⟨gb222, 7, none⟩ (.int .i64 t220)).heap[gb188]? = some (.cells #[.int .i64 a0_0, .int .i64 a0_1, .int .i64 a0_2, .int .i64 a0_3, .int .i64 a0_4, .int .i64 a0_5] 23 (0, 0))) := ⟨by (with_reducible repeat (first | refine bN ?_ _ | refine bD ?_ | refine bA ?_ _ | refine blk_far ?_ NB188_222.out _)); exact BK188.out⟩
                        have n1_ : Aside0 (((((((((w132.setCell ⟨gb222, 0, none⟩ (.bool t213)).setCell ⟨gb222, 1, none⟩ (.int .i64 t214)).setCell ⟨gb222, 2, none⟩ (.int .i64 t215)).setCell ⟨gb222, 3, none⟩ (.int .i64 t216)).setCell ⟨gb222, 4, none⟩ (.bool t217)).setCell ⟨gb222, 5, none⟩ (.int .i64 t218)).setCell ⟨gb222, 6, none⟩ (.int .i64 t219)).setCell ⟨gb222, 7, none⟩ (.int .i64 t220)).heap[gb189]? = some (.cells #[.bool false, .int .i64 a1_1, .int .i64 a1_2, .int .i64 a1_3, .bool a1_4, .int .i64 a1_5, .int .i64 a1_6, .int .i64 a1_7] 25 (0, 0))) := ⟨by (with_reducible repeat (first | refine bN ?_ _ | refine bD ?_ | refine bA ?_ _ | refine blk_far ?_ NB189_222.out _)); exact BK189.out⟩
                        have n2_ : Aside0 (((((((((w132.setCell ⟨gb222, 0, none⟩ (.bool t213)).setCell ⟨gb222, 1, none⟩ (.int .i64 t214)).setCell ⟨gb222, 2, none⟩ (.int .i64 t215)).setCell ⟨gb222, 3, none⟩ (.int .i64 t216)).setCell ⟨gb222, 4, none⟩ (.bool t217)).setCell ⟨gb222, 5, none⟩ (.int .i64 t218)).setCell ⟨gb222, 6, none⟩ (.int .i64 t219)).setCell ⟨gb222, 7, none⟩ (.int .i64 t220)).heap[gb192]? = some (.cells #[.bool false, .int .i64 a1_1, .int .i64 a1_2, .int .i64 a1_3, .bool a1_4, .int .i64 a1_5, .int .i64 (wrap64 (a1_6 + a2)), .int .i64 a1_7] 25 (0, 0))) := ⟨by (with_reducible repeat (first | refine bN ?_ _ | refine bD ?_ | refine bA ?_ _ | refine blk_far ?_ NB192_222.out _)); exact BK192.out⟩
                        have n3_ : Aside0 (((((((((w132.setCell ⟨gb222, 0, none⟩ (.bool t213)).setCell ⟨gb222, 1, none⟩ (.int .i64 t214)).setCell ⟨gb222, 2, none⟩ (.int .i64 t215)).setCell ⟨gb222, 3, none⟩ (.int .i64 t216)).setCell ⟨gb222, 4, none⟩ (.bool t217)).setCell ⟨gb222, 5, none⟩ (.int .i64 t218)).setCell ⟨gb222, 6, none⟩ (.int .i64 t219)).setCell ⟨gb222, 7, none⟩ (.int .i64 t220)).heap[gb222]? = some (.cells #[.bool t213, .int .i64 t214, .int .i64 t215, .int .i64 t216, .bool t217, .int .i64 t218, .int .i64 t219, .int .i64 t220] 25 (0, 0))) := ⟨by (with_reducible repeat (first | refine bN ?_ _ | refine bD ?_ | refine bA ?_ _)); refine blk_put (cs := #[.bool t213, .int .i64 t214, .int .i64 t215, .int .i64 t216, .bool t217, .int .i64 t218, .int .i64 t219, .int .i64 0]) ?_ 7 _ rfl; (with_reducible repeat (first | refine bN ?_ _ | refine bD ?_ | refine bA ?_ _)); refine blk_put (cs := #[.bool t213, .int .i64 t214, .int .i64 t215, .int .i64 t216, .bool t217, .int .i64 t218, .int .i64 0, .int .i64 0]) ?_ 6 _ rfl; (with_reducible repeat (first | refine bN ?_ _ | refine bD ?_ | refine bA ?_ _)); refine blk_put (cs := #[.bool t213, .int .i64 t214, .int .i64 t215, .int .i64 t216, .bool t217, .int .i64 0, .int .i64 0, .int .i64 0]) ?_ 5 _ rfl; (with_reducible repeat (first | refine bN ?_ _ | refine bD ?_ | refine bA ?_ _)); refine blk_put (cs := #[.bool t213, .int .i64 t214, .int .i64 t215, .int .i64 t216, .bool false, .int .i64 0, .int .i64 0, .int .i64 0]) ?_ 4 _ rfl; (with_reducible repeat (first | refine bN ?_ _ | refine bD ?_ | refine bA ?_ _)); refine blk_put (cs := #[.bool t213, .int .i64 t214, .int .i64 t215, .int .i64 0, .bool false, .int .i64 0, .int .i64 0, .int .i64 0]) ?_ 3 _ rfl; (with_reducible repeat (first | refine bN ?_ _ | refine bD ?_ | refine bA ?_ _)); refine blk_put (cs := #[.bool t213, .int .i64 t214, .int .i64 0, .int .i64 0, .bool false, .int .i64 0, .int .i64 0, .int .i64 0]) ?_ 2 _ rfl; (with_reducible repeat (first | refine bN ?_ _ | refine bD ?_ | refine bA ?_ _)); refine blk_put (cs := #[.bool t213, .int .i64 0, .int .i64 0, .int .i64 0, .bool false, .int .i64 0, .int .i64 0, .int .i64 0]) ?_ 1 _ rfl; (with_reducible repeat (first | refine bN ?_ _ | refine bD ?_ | refine bA ?_ _)); refine blk_put (cs := #[.bool false, .int .i64 0, .int .i64 0, .int .i64 0, .bool false, .int .i64 0, .int .i64 0, .int .i64 0]) ?_ 0 _ rfl; (with_reducible repeat (first | refine bN ?_ _ | refine bD ?_ | refine bA ?_ _)); exact BK222.out⟩
                        have n4_ : Aside0 (Below w.heap.size w ((((((((w132.setCell ⟨gb222, 0, none⟩ (.bool t213)).setCell ⟨gb222, 1, none⟩ (.int .i64 t214)).setCell ⟨gb222, 2, none⟩ (.int .i64 t215)).setCell ⟨gb222, 3, none⟩ (.int .i64 t216)).setCell ⟨gb222, 4, none⟩ (.bool t217)).setCell ⟨gb222, 5, none⟩ (.int .i64 t218)).setCell ⟨gb222, 6, none⟩ (.int .i64 t219)).setCell ⟨gb222, 7, none⟩ (.int .i64 t220))) := ⟨by repeat (first | (with_reducible first | exact HB.out | apply below_alloc | apply pw_below_drewN | apply below_drew1 | refine below_set ?_ GE188.out | refine below_set ?_ GE189.out | refine below_set ?_ GE192.out | refine below_set ?_ GE222.out) | exact HB.out)⟩
                        (try clear BK188)
                        (try clear BK189)
                        (try clear BK192)
                        (try clear BK222)
                        (try clear HB)
                        generalize ((((((((w132.setCell ⟨gb222, 0, none⟩ (.bool t213)).setCell ⟨gb222, 1, none⟩ (.int .i64 t214)).setCell ⟨gb222, 2, none⟩ (.int .i64 t215)).setCell ⟨gb222, 3, none⟩ (.int .i64 t216)).setCell ⟨gb222, 4, none⟩ (.bool t217)).setCell ⟨gb222, 5, none⟩ (.int .i64 t218)).setCell ⟨gb222, 6, none⟩ (.int .i64 t219)).setCell ⟨gb222, 7, none⟩ (.int .i64 t220)) = w137 at n0_ n1_ n2_ n3_ n4_ ⊢
                        have BK188 := n0_
                        have BK189 := n1_
                        have BK192 := n2_
                        have BK222 := n3_
                        have HB := n4_
                        clear n0_ n1_ n2_ n3_ n4_
                        have n0_ := Aside0.mk (blk_drew BK188.out)
                        have n1_ := Aside0.mk (blk_drew BK189.out)
                        have n2_ := Aside0.mk (blk_drew BK192.out)
                        have n3_ := Aside0.mk (blk_drew BK222.out)
                        have n4_ := Aside0.mk (below_drew1 HB.out)
                        clear BK188
                        clear BK189
                        clear BK192
                        clear BK222
                        clear HB
                        have BK188 := n0_
                        have BK189 := n1_
                        have BK192 := n2_
                        have BK222 := n3_
                        have HB := n4_
                        clear n0_ n1_ n2_ n3_ n4_
                        refine start_ (n := 19) (S := fun w' => w'.cell? ⟨gb222, 0, none⟩ = some (.bool t213) ∧ w'.cell? ⟨gb222, 1, none⟩ = some (.int .i64 t214) ∧ w'.cell? ⟨gb222, 2, none⟩ = some (.int .i64 t215) ∧ w'.cell? ⟨gb222, 3, none⟩ = some (.int .i64 t216) ∧ w'.cell? ⟨gb222, 4, none⟩ = some (.bool t217) ∧ w'.cell? ⟨gb222, 5, none⟩ = some (.int .i64 t218) ∧ w'.cell? ⟨gb222, 6, none⟩ = some (.int .i64 t219) ∧ w'.cell? ⟨gb222, 7, none⟩ = some (.int .i64 t220) ∧ w'.cell? ⟨gb189, 0, none⟩ = some (.bool false) ∧ w'.cell? ⟨gb189, 1, none⟩ = some (.int .i64 a1_1) ∧ w'.cell? ⟨gb189, 2, none⟩ = some (.int .i64 a1_2) ∧ w'.cell? ⟨gb189, 3, none⟩ = some (.int .i64 a1_3) ∧ w'.cell? ⟨gb189, 4, none⟩ = some (.bool a1_4) ∧ w'.cell? ⟨gb189, 5, none⟩ = some (.int .i64 a1_5) ∧ w'.cell? ⟨gb189, 6, none⟩ = some (.int .i64 a1_6) ∧ w'.cell? ⟨gb189, 7, none⟩ = some (.int .i64 a1_7)) (ds := []) #[false, false, false, false, false, false, false, false, false, false, false, false, false, false, false, false, false, false, false] (by kernel_rfl) rfl rfl ⟨(blk_cell BK222.out 0).trans rfl, (blk_cell BK222.out 1).trans rfl, (blk_cell BK222.out 2).trans rfl, (blk_cell BK222.out 3).trans rfl, (blk_cell BK222.out 4).trans rfl, (blk_cell BK222.out 5).trans rfl, (blk_cell BK222.out 6).trans rfl, (blk_cell BK222.out 7).trans rfl, (blk_cell BK189.out 0).trans rfl, (blk_cell BK189.out 1).trans rfl, (blk_cell BK189.out 2).trans rfl, (blk_cell BK189.out 3).trans rfl, (blk_cell BK189.out 4).trans rfl, (blk_cell BK189.out 5).trans rfl, (blk_cell BK189.out 6).trans rfl, (blk_cell BK189.out 7).trans rfl⟩ (fun hHeld => ?_); refine with_tabW fuseelaw11_JobLong.tab9 fuseelaw11_JobLong.bits9 (fun HT_ HW_ => ?_)
                        generalize w137.drew = w138 at BK188 BK189 BK192 BK222 HB hHeld ⊢
                        refine pure_ (i := 0) (N := some 67) (v := ?_) (a' := ?_) #[true, false, false, false, false, false, false, false, false, false, false, false, false, false, false, false, false, false, false] rfl rfl (any_of HT_.out (by kernel_rfl)) (fun _ _ _ h => h) (Or.inl ⟨by rfl, ?_⟩) ?_ ?_
                        rotate_left; focus (intro w'; go_simp; with_reducible rfl)
                        rotate_left; focus (simp only [Act.put, List.setIfInBounds_toArray, List.set_cons_zero, List.set_cons_succ, i64_w, i32_w]; rfl)
                        refine pure_ (i := 1) (N := some 68) (v := ?_) (a' := ?_) #[true, true, false, false, false, false, false, false, false, false, false, false, false, false, false, false, false, false, false] rfl rfl (any_of HT_.out (by kernel_rfl)) (fun _ _ _ h => h) (Or.inl ⟨by rfl, ?_⟩) ?_ ?_
                        rotate_left; focus (intro w'; go_simp; with_reducible rfl)
                        rotate_left; focus (simp only [Act.put, List.setIfInBounds_toArray, List.set_cons_zero, List.set_cons_succ, i64_w, i32_w]; rfl)
                        refine pure_ (i := 2) (N := some 69) (v := ?_) (a' := ?_) #[true, true, true, false, false, false, false, false, false, false, false, false, false, false, false, false, false, false, false] rfl rfl (any_of HT_.out (by kernel_rfl)) (fun _ _ _ h => h) (Or.inl ⟨by rfl, ?_⟩) ?_ ?_
                        rotate_left; focus (intro w'; go_simp; with_reducible rfl)
                        rotate_left; focus (simp only [Act.put, List.setIfInBounds_toArray, List.set_cons_zero, List.set_cons_succ, i64_w, i32_w]; rfl)
                        refine take_ (i := 3) (N := some 70) (v := ?_) (a' := ?_) #[true, true, true, true, false, false, false, false, false, false, false, false, false, false, false, false, false, false, false] rfl rfl (take_ofW HT_.out HW_.out (by kernel_rfl)) (fun _ _ _ h => h) (Or.inl ⟨by rfl, ?_⟩) hHeld ?_ ?_
                        rotate_left
                        · rintro w' ⟨s0, s1, s2, s3, s4, s5, s6, s7, s8, s9, s10, s11, s12, s13, s14, s15⟩
                          go_simp
                          with_reducible rfl
                        rotate_left; focus (simp only [Act.put, List.setIfInBounds_toArray, List.set_cons_zero, List.set_cons_succ, i64_w, i32_w]; rfl)
                        refine take_ (i := 5) (N := some 72) (v := ?_) (a' := ?_) #[true, true, true, true, false, true, false, false, false, false, false, false, false, false, false, false, false, false, false] rfl rfl (take_ofW HT_.out HW_.out (by kernel_rfl)) (fun _ _ _ h => h) (Or.inl ⟨by rfl, ?_⟩) hHeld ?_ ?_
                        rotate_left
                        · rintro w' ⟨s0, s1, s2, s3, s4, s5, s6, s7, s8, s9, s10, s11, s12, s13, s14, s15⟩
                          go_simp
                          with_reducible rfl
                        rotate_left; focus (simp only [Act.put, List.setIfInBounds_toArray, List.set_cons_zero, List.set_cons_succ, i64_w, i32_w]; rfl)
                        refine one_ (i := 4) (N := some 71) #[true, true, true, true, true, true, false, false, false, false, false, false, false, false, false, false, false, false, false] rfl rfl (one_of HT_.out (by kernel_rfl)) (by decide) (fun K hK => ?_)
                        refine goes_ Try.func12 (by kernel_rfl) rfl #[.agg #[.bool t213, .int .i64 t214, .int .i64 t215, .int .i64 t216, .bool t217, .int .i64 t218, .int .i64 t219, .int .i64 t220]] (by rfl) rfl rfl (by (try simp only [List.map_toArray, List.map_cons, List.map_nil]); first | done | rfl | (simp only [List.length_drop, List.length_take]; rfl)) ?_
                        with_reducible refine (job_Worst.calls t213 t214 t215 t216 t217 t218 t219 t220 t223 _ A104.out).mono ?_
                        rintro e w139 ⟨rfl, hb⟩
                        refine ⟨_, rfl, ?_⟩
                        have n0_ := bb BK188 hb
                        have n1_ := bb BK189 hb
                        have n2_ := bb BK192 hb
                        have n3_ := bb BK222 hb
                        have n4_ := bs HB hb
                        clear BK188
                        clear BK189
                        clear BK192
                        clear BK222
                        clear HB
                        have BK188 := n0_
                        have BK189 := n1_
                        have BK192 := n2_
                        have BK222 := n3_
                        have HB := n4_
                        clear n0_ n1_ n2_ n3_ n4_
                        (try clear hb)
                        (try clear hb2)
                        (try clear hk)
                        (try clear hi)
                        refine hK.out _ _ ⟨(blk_cell BK222.out 0).trans rfl, (blk_cell BK222.out 1).trans rfl, (blk_cell BK222.out 2).trans rfl, (blk_cell BK222.out 3).trans rfl, (blk_cell BK222.out 4).trans rfl, (blk_cell BK222.out 5).trans rfl, (blk_cell BK222.out 6).trans rfl, (blk_cell BK222.out 7).trans rfl, (blk_cell BK189.out 0).trans rfl, (blk_cell BK189.out 1).trans rfl, (blk_cell BK189.out 2).trans rfl, (blk_cell BK189.out 3).trans rfl, (blk_cell BK189.out 4).trans rfl, (blk_cell BK189.out 5).trans rfl, (blk_cell BK189.out 6).trans rfl, (blk_cell BK189.out 7).trans rfl⟩ (fun hHeld => ?_)
                        clear hK K
                        refine norm_ (a' := ?_) ?_ ?_
                        rotate_left
                        · show Act.put _ (some 71) _ = _
                          simp only [Act.put, List.setIfInBounds_toArray, List.set_cons_zero, List.set_cons_succ, i64_w, i32_w]
                          rfl
                        refine one_ (i := 6) (N := some 73) #[true, true, true, true, true, true, true, false, false, false, false, false, false, false, false, false, false, false, false] rfl rfl (one_of HT_.out (by kernel_rfl)) (by decide) (fun K hK => ?_)
                        refine goes_ Try.func12 (by kernel_rfl) rfl #[.agg #[.bool false, .int .i64 a1_1, .int .i64 a1_2, .int .i64 a1_3, .bool a1_4, .int .i64 a1_5, .int .i64 a1_6, .int .i64 a1_7]] (by rfl) rfl rfl (by (try simp only [List.map_toArray, List.map_cons, List.map_nil]); first | done | rfl | (simp only [List.length_drop, List.length_take]; rfl)) ?_
                        with_reducible refine (job_Worst.calls false a1_1 a1_2 a1_3 a1_4 a1_5 a1_6 a1_7 t224 _ A105.out).mono ?_
                        rintro e w140 ⟨rfl, hb⟩
                        refine ⟨_, rfl, ?_⟩
                        have n0_ := bb BK188 hb
                        have n1_ := bb BK189 hb
                        have n2_ := bb BK192 hb
                        have n3_ := bb BK222 hb
                        have n4_ := bs HB hb
                        clear BK188
                        clear BK189
                        clear BK192
                        clear BK222
                        clear HB
                        have BK188 := n0_
                        have BK189 := n1_
                        have BK192 := n2_
                        have BK222 := n3_
                        have HB := n4_
                        clear n0_ n1_ n2_ n3_ n4_
                        (try clear hb)
                        (try clear hb2)
                        (try clear hk)
                        (try clear hi)
                        refine hK.out _ _ ⟨(blk_cell BK222.out 0).trans rfl, (blk_cell BK222.out 1).trans rfl, (blk_cell BK222.out 2).trans rfl, (blk_cell BK222.out 3).trans rfl, (blk_cell BK222.out 4).trans rfl, (blk_cell BK222.out 5).trans rfl, (blk_cell BK222.out 6).trans rfl, (blk_cell BK222.out 7).trans rfl, (blk_cell BK189.out 0).trans rfl, (blk_cell BK189.out 1).trans rfl, (blk_cell BK189.out 2).trans rfl, (blk_cell BK189.out 3).trans rfl, (blk_cell BK189.out 4).trans rfl, (blk_cell BK189.out 5).trans rfl, (blk_cell BK189.out 6).trans rfl, (blk_cell BK189.out 7).trans rfl⟩ (fun hHeld => ?_)
                        clear hK K
                        refine norm_ (a' := ?_) ?_ ?_
                        rotate_left
                        · show Act.put _ (some 73) _ = _
                          simp only [Act.put, List.setIfInBounds_toArray, List.set_cons_zero, List.set_cons_succ, i64_w, i32_w]
                          rfl
                        refine pure_ (i := 7) (N := some 74) (v := ?_) (a' := ?_) #[true, true, true, true, true, true, true, true, false, false, false, false, false, false, false, false, false, false, false] rfl rfl (any_of HT_.out (by kernel_rfl)) (fun _ _ _ h => h) (Or.inl ⟨by rfl, ?_⟩) ?_ ?_
                        rotate_left; focus (intro w'; go_simp; with_reducible rfl)
                        rotate_left; focus (simp only [Act.put, List.setIfInBounds_toArray, List.set_cons_zero, List.set_cons_succ, i64_w, i32_w]; rfl)
                        refine pure_ (i := 8) (N := some 75) (v := ?_) (a' := ?_) #[true, true, true, true, true, true, true, true, true, false, false, false, false, false, false, false, false, false, false] rfl rfl (any_of HT_.out (by kernel_rfl)) (fun _ _ _ h => h) (Or.inl ⟨by rfl, ?_⟩) ?_ ?_
                        rotate_left; focus (intro w'; go_simp; with_reducible rfl)
                        rotate_left; focus (simp only [Act.put, List.setIfInBounds_toArray, List.set_cons_zero, List.set_cons_succ, i64_w, i32_w]; rfl)
                        refine pure_ (i := 9) (N := some 76) (v := ?_) (a' := ?_) #[true, true, true, true, true, true, true, true, true, true, false, false, false, false, false, false, false, false, false] rfl rfl (any_of HT_.out (by kernel_rfl)) (fun _ _ _ h => h) (Or.inl ⟨by rfl, ?_⟩) ?_ ?_
                        rotate_left; focus (intro w'; go_simp; with_reducible rfl)
                        rotate_left; focus (simp only [Act.put, List.setIfInBounds_toArray, List.set_cons_zero, List.set_cons_succ, i64_w, i32_w]; rfl)
                        refine take_ (i := 10) (N := some 77) (v := ?_) (a' := ?_) #[true, true, true, true, true, true, true, true, true, true, true, false, false, false, false, false, false, false, false] rfl rfl (take_ofW HT_.out HW_.out (by kernel_rfl)) (fun _ _ _ h => h) (Or.inl ⟨by rfl, ?_⟩) hHeld ?_ ?_
                        rotate_left
                        · rintro w' ⟨s0, s1, s2, s3, s4, s5, s6, s7, s8, s9, s10, s11, s12, s13, s14, s15⟩
                          go_simp
                          with_reducible rfl
                        rotate_left; focus (simp only [Act.put, List.setIfInBounds_toArray, List.set_cons_zero, List.set_cons_succ, i64_w, i32_w]; rfl)
                        refine take_ (i := 12) (N := some 79) (v := ?_) (a' := ?_) #[true, true, true, true, true, true, true, true, true, true, true, false, true, false, false, false, false, false, false] rfl rfl (take_ofW HT_.out HW_.out (by kernel_rfl)) (fun _ _ _ h => h) (Or.inl ⟨by rfl, ?_⟩) hHeld ?_ ?_
                        rotate_left
                        · rintro w' ⟨s0, s1, s2, s3, s4, s5, s6, s7, s8, s9, s10, s11, s12, s13, s14, s15⟩
                          go_simp
                          with_reducible rfl
                        rotate_left; focus (simp only [Act.put, List.setIfInBounds_toArray, List.set_cons_zero, List.set_cons_succ, i64_w, i32_w]; rfl)
                        refine one_ (i := 11) (N := some 78) #[true, true, true, true, true, true, true, true, true, true, true, true, true, false, false, false, false, false, false] rfl rfl (one_of HT_.out (by kernel_rfl)) (by decide) (fun K hK => ?_)
                        refine goes_ Try.func11 (by kernel_rfl) rfl #[.agg #[.bool t213, .int .i64 t214, .int .i64 t215, .int .i64 t216, .bool t217, .int .i64 t218, .int .i64 t219, .int .i64 t220]] (by rfl) rfl rfl (by (try simp only [List.map_toArray, List.map_cons, List.map_nil]); first | done | rfl | (simp only [List.length_drop, List.length_take]; rfl)) ?_
                        with_reducible refine (job_Left.calls t213 t214 t215 t216 t217 t218 t219 t220 t225 _ A107.out).mono ?_
                        rintro e w141 ⟨rfl, hb⟩
                        refine ⟨_, rfl, ?_⟩
                        have n0_ := bb BK188 hb
                        have n1_ := bb BK189 hb
                        have n2_ := bb BK192 hb
                        have n3_ := bb BK222 hb
                        have n4_ := bs HB hb
                        clear BK188
                        clear BK189
                        clear BK192
                        clear BK222
                        clear HB
                        have BK188 := n0_
                        have BK189 := n1_
                        have BK192 := n2_
                        have BK222 := n3_
                        have HB := n4_
                        clear n0_ n1_ n2_ n3_ n4_
                        (try clear hb)
                        (try clear hb2)
                        (try clear hk)
                        (try clear hi)
                        refine hK.out _ _ ⟨(blk_cell BK222.out 0).trans rfl, (blk_cell BK222.out 1).trans rfl, (blk_cell BK222.out 2).trans rfl, (blk_cell BK222.out 3).trans rfl, (blk_cell BK222.out 4).trans rfl, (blk_cell BK222.out 5).trans rfl, (blk_cell BK222.out 6).trans rfl, (blk_cell BK222.out 7).trans rfl, (blk_cell BK189.out 0).trans rfl, (blk_cell BK189.out 1).trans rfl, (blk_cell BK189.out 2).trans rfl, (blk_cell BK189.out 3).trans rfl, (blk_cell BK189.out 4).trans rfl, (blk_cell BK189.out 5).trans rfl, (blk_cell BK189.out 6).trans rfl, (blk_cell BK189.out 7).trans rfl⟩ (fun hHeld => ?_)
                        clear hK K
                        refine norm_ (a' := ?_) ?_ ?_
                        rotate_left
                        · show Act.put _ (some 78) _ = _
                          simp only [Act.put, List.setIfInBounds_toArray, List.set_cons_zero, List.set_cons_succ, i64_w, i32_w]
                          rfl
                        refine one_ (i := 13) (N := some 80) #[true, true, true, true, true, true, true, true, true, true, true, true, true, true, false, false, false, false, false] rfl rfl (one_of HT_.out (by kernel_rfl)) (by decide) (fun K hK => ?_)
                        refine goes_ Try.func11 (by kernel_rfl) rfl #[.agg #[.bool false, .int .i64 a1_1, .int .i64 a1_2, .int .i64 a1_3, .bool a1_4, .int .i64 a1_5, .int .i64 a1_6, .int .i64 a1_7]] (by rfl) rfl rfl (by (try simp only [List.map_toArray, List.map_cons, List.map_nil]); first | done | rfl | (simp only [List.length_drop, List.length_take]; rfl)) ?_
                        with_reducible refine (job_Left.calls false a1_1 a1_2 a1_3 a1_4 a1_5 a1_6 a1_7 t226 _ A108.out).mono ?_
                        rintro e w142 ⟨rfl, hb⟩
                        refine ⟨_, rfl, ?_⟩
                        have n0_ := bb BK188 hb
                        have n1_ := bb BK189 hb
                        have n2_ := bb BK192 hb
                        have n3_ := bb BK222 hb
                        have n4_ := bs HB hb
                        clear BK188
                        clear BK189
                        clear BK192
                        clear BK222
                        clear HB
                        have BK188 := n0_
                        have BK189 := n1_
                        have BK192 := n2_
                        have BK222 := n3_
                        have HB := n4_
                        clear n0_ n1_ n2_ n3_ n4_
                        (try clear hb)
                        (try clear hb2)
                        (try clear hk)
                        (try clear hi)
                        refine hK.out _ _ ⟨(blk_cell BK222.out 0).trans rfl, (blk_cell BK222.out 1).trans rfl, (blk_cell BK222.out 2).trans rfl, (blk_cell BK222.out 3).trans rfl, (blk_cell BK222.out 4).trans rfl, (blk_cell BK222.out 5).trans rfl, (blk_cell BK222.out 6).trans rfl, (blk_cell BK222.out 7).trans rfl, (blk_cell BK189.out 0).trans rfl, (blk_cell BK189.out 1).trans rfl, (blk_cell BK189.out 2).trans rfl, (blk_cell BK189.out 3).trans rfl, (blk_cell BK189.out 4).trans rfl, (blk_cell BK189.out 5).trans rfl, (blk_cell BK189.out 6).trans rfl, (blk_cell BK189.out 7).trans rfl⟩ (fun hHeld => ?_)
                        clear hK K
                        refine norm_ (a' := ?_) ?_ ?_
                        rotate_left
                        · show Act.put _ (some 80) _ = _
                          simp only [Act.put, List.setIfInBounds_toArray, List.set_cons_zero, List.set_cons_succ, i64_w, i32_w]
                          rfl
                        refine pure_ (i := 14) (N := some 81) (v := ?_) (a' := ?_) #[true, true, true, true, true, true, true, true, true, true, true, true, true, true, true, false, false, false, false] rfl rfl (any_of HT_.out (by kernel_rfl)) (fun _ _ _ h => h) (Or.inl ⟨by rfl, ?_⟩) ?_ ?_
                        rotate_left; focus (intro w'; go_simp; with_reducible rfl)
                        rotate_left; focus (simp only [Act.put, List.setIfInBounds_toArray, List.set_cons_zero, List.set_cons_succ, i64_w, i32_w]; rfl)
                        refine pure_ (i := 15) (N := some 82) (v := ?_) (a' := ?_) #[true, true, true, true, true, true, true, true, true, true, true, true, true, true, true, true, false, false, false] rfl rfl (any_of HT_.out (by kernel_rfl)) (fun _ _ _ h => h) (Or.inl ⟨by rfl, ?_⟩) ?_ ?_
                        rotate_left; focus (intro w'; go_simp; with_reducible rfl)
                        rotate_left; focus (simp only [Act.put, List.setIfInBounds_toArray, List.set_cons_zero, List.set_cons_succ, i64_w, i32_w]; rfl)
                        refine pure_ (i := 16) (N := some 83) (v := ?_) (a' := ?_) #[true, true, true, true, true, true, true, true, true, true, true, true, true, true, true, true, true, false, false] rfl rfl (any_of HT_.out (by kernel_rfl)) (fun _ _ _ h => h) (Or.inl ⟨by rfl, ?_⟩) ?_ ?_
                        rotate_left; focus (intro w'; go_simp; with_reducible rfl)
                        rotate_left; focus (simp only [Act.put, List.setIfInBounds_toArray, List.set_cons_zero, List.set_cons_succ, i64_w, i32_w]; rfl)
                        refine pure_ (i := 17) (N := some 84) (v := ?_) (a' := ?_) #[true, true, true, true, true, true, true, true, true, true, true, true, true, true, true, true, true, true, false] rfl rfl (any_of HT_.out (by kernel_rfl)) (fun _ _ _ h => h) (Or.inl ⟨by rfl, ?_⟩) ?_ ?_
                        rotate_left; focus (intro w'; go_simp; with_reducible rfl)
                        rotate_left; focus (simp only [Act.put, List.setIfInBounds_toArray, List.set_cons_zero, List.set_cons_succ, i64_w, i32_w]; rfl)
                        refine pure_ (i := 18) (N := some 6) (v := ?_) (a' := ?_) #[true, true, true, true, true, true, true, true, true, true, true, true, true, true, true, true, true, true, true] rfl rfl (any_of HT_.out (by kernel_rfl)) (fun _ _ _ h => h) (Or.inl ⟨by rfl, ?_⟩) ?_ ?_
                        rotate_left; focus (intro w'; go_simp; with_reducible rfl)
                        rotate_left; focus (simp only [Act.put, List.setIfInBounds_toArray, List.set_cons_zero, List.set_cons_succ, i64_w, i32_w]; rfl)
                        refine done_ (done_of HT_.out (by kernel_rfl)) ?_
                        try go_wp2
                        go_ret
                        exact ⟨by first | rfl | (simp [errW_none, errW_some] <;> rfl) | (simp [*, errW_none, errW_some] <;> rfl) | (exfalso; contradiction), by repeat (first | (with_reducible first | exact HB.out | apply below_alloc | apply pw_below_drewN | apply below_drew1 | refine below_set ?_ GE188.out | refine below_set ?_ GE189.out | refine below_set ?_ GE192.out | refine below_set ?_ GE222.out) | exact HB.out)⟩
                      · rw [if_neg c106] at H
                        have c106b0 : (t223 == (wrap64 (t224 - 1))) = false := beq_eq_false_iff_ne.mpr c106
                        have c106b1 : (t223 != (wrap64 (t224 - 1))) = true := bne_iff_ne.mpr c106
                        exact absurd H (by simp)
                    · rw [if_neg c103] at H
                      have c103b0 : (t221 == 0) = false := beq_eq_false_iff_ne.mpr c103
                      have c103b1 : (t221 != 0) = true := bne_iff_ne.mpr c103
                      obtain rfl := Option.some.inj H
                      go_enter Try.func5, Try.ntmps5
                      try go_wp2_with (first | ((with_reducible refine gate_dst (N := 3) rfl ?_); refine box_event ?hg (N := 3) ?hd (cs := #[.int .i64 a0_0, .int .i64 a0_1, .int .i64 a0_2, .int .i64 a0_3, .int .i64 a0_4, .int .i64 a0_5]) (t := 23) ?hr ?_; (case hd => rfl); (case hg => rfl); (case hr => first | (go_simp; done) | (go_simp; rfl)); intro gb188 hg w143 hbox hb; have n0_ := bs HB hb; have n1_ := Aside0.mk (hbox); have n2_ := bz HB hg; have n3_ := bz HB hg; clear HB; have HB := n0_; have BK188 := n1_; have GW188 := n2_; have GE188 := n3_; clear n0_ n1_ n2_ n3_; clear hb hbox hg) | ((with_reducible refine gate_dst (N := 4) rfl ?_); refine box_event ?hg (N := 4) ?hd (cs := #[.bool false, .int .i64 a1_1, .int .i64 a1_2, .int .i64 a1_3, .bool a1_4, .int .i64 a1_5, .int .i64 a1_6, .int .i64 a1_7]) (t := 25) ?hr ?_; (case hd => rfl); (case hg => rfl); (case hr => first | (go_simp; done) | (go_simp; rfl)); intro gb189 hg w144 hbox hb; have n0_ := bb BK188 hb; have n1_ := bs HB hb; have n2_ := Aside0.mk (hbox); have n3_ := bz HB hg; have n4_ := bz HB hg; have n5_ := bl BK188 hg; have n6_ := bg BK188 hg; clear BK188; clear HB; have BK188 := n0_; have HB := n1_; have BK189 := n2_; have GW189 := n3_; have GE189 := n4_; have NB188_189 := n5_; have NB189_188 := n6_; clear n0_ n1_ n2_ n3_ n4_ n5_ n6_; clear hb hbox hg) | ((with_reducible refine gate_callee (f := 8) rfl ?_); refine goesL_ (some 11) rfl rfl Try.func8 (by kernel_rfl) rfl #[] rfl (by (try simp only [List.map_toArray, List.map_cons, List.map_nil]); first | done | rfl | (simp only [List.length_drop, List.length_take]; rfl)) ?_; (with_reducible refine (fuseelaw11_awake.calls  true _ A4.out).mono ?_); rintro e w145 ⟨rfl, hb⟩; refine ⟨_, rfl, ?_⟩; have n0_ := bb BK188 hb; have n1_ := bb BK189 hb; have n2_ := bs HB hb; clear BK188; clear BK189; clear HB; have BK188 := n0_; have BK189 := n1_; have HB := n2_; clear n0_ n1_ n2_; (try clear hb); (try clear hb2); (try clear hk); (try clear hi); have hnb146 := NB188_189.out; have hnc146 := NB189_188.out; obtain ⟨hcz147_0, hcz147_1, hcz147_2, hcz147_3, hcz147_4, hcz147_5⟩ := cc6 BK188; obtain ⟨hfz147_0, hfz147_1, hfz147_2, hfz147_3, hfz147_4, hfz147_5⟩ := cf6 BK188; obtain ⟨hcz148_0, hcz148_1, hcz148_2, hcz148_3, hcz148_4, hcz148_5, hcz148_6, hcz148_7⟩ := cc8 BK189; obtain ⟨hfz148_0, hfz148_1, hfz148_2, hfz148_3, hfz148_4, hfz148_5, hfz148_6, hfz148_7⟩ := cf8 BK189) | (go_at_call 9; (with_reducible refine (job_May.calls a0_0 a0_1 a0_2 a0_3 a0_4 a0_5 false a1_1 a1_2 a1_3 a1_4 a1_5 a1_6 a1_7 true _ A6.out).mono ?_); rintro e w149 ⟨rfl, hb⟩; have n0_ := bb BK188 hb; have n1_ := bb BK189 hb; have n2_ := bs HB hb; clear BK188; clear BK189; clear HB; have BK188 := n0_; have BK189 := n1_; have HB := n2_; clear n0_ n1_ n2_; (try clear hb); (try clear hb2); (try clear hk); (try clear hi); (try clear hcz147_0 hcz147_1 hcz147_2 hcz147_3 hcz147_4 hcz147_5 hfz147_0 hfz147_1 hfz147_2 hfz147_3 hfz147_4 hfz147_5); (try clear hcz148_0 hcz148_1 hcz148_2 hcz148_3 hcz148_4 hcz148_5 hcz148_6 hcz148_7 hfz148_0 hfz148_1 hfz148_2 hfz148_3 hfz148_4 hfz148_5 hfz148_6 hfz148_7); obtain ⟨hcz150_0, hcz150_1, hcz150_2, hcz150_3, hcz150_4, hcz150_5, hcz150_6, hcz150_7⟩ := cc8 BK189; obtain ⟨hfz150_0, hfz150_1, hfz150_2, hfz150_3, hfz150_4, hfz150_5, hfz150_6, hfz150_7⟩ := cf8 BK189) | ((with_reducible refine gate_dst (N := 8) rfl ?_); refine box_event ?hg (N := 8) ?hd (cs := #[.bool false, .int .i64 0, .int .i64 0, .int .i64 0, .bool false, .int .i64 0, .int .i64 0, .int .i64 0]) (t := 25) ?hr ?_; (case hd => rfl); (case hg => rfl); (case hr => first | (go_simp; done) | (go_simp; rfl)); intro gb192 hg w151 hbox hb; have n0_ := bb BK188 hb; have n1_ := bb BK189 hb; have n2_ := bs HB hb; have n3_ := Aside0.mk (hbox); have n4_ := bz HB hg; have n5_ := bz HB hg; have n6_ := bl BK188 hg; have n7_ := bg BK188 hg; have n8_ := bl BK189 hg; have n9_ := bg BK189 hg; clear BK188; clear BK189; clear HB; have BK188 := n0_; have BK189 := n1_; have HB := n2_; have BK192 := n3_; have GW192 := n4_; have GE192 := n5_; have NB188_192 := n6_; have NB192_188 := n7_; have NB189_192 := n8_; have NB192_189 := n9_; clear n0_ n1_ n2_ n3_ n4_ n5_ n6_ n7_ n8_ n9_; clear hb hbox hg; have hnb152 := NB192_188.out; have hnc152 := NB188_192.out; have hnb153 := NB192_189.out; have hnc153 := NB189_192.out; (try clear hcz147_0 hcz147_1 hcz147_2 hcz147_3 hcz147_4 hcz147_5 hfz147_0 hfz147_1 hfz147_2 hfz147_3 hfz147_4 hfz147_5); (try clear hcz148_0 hcz148_1 hcz148_2 hcz148_3 hcz148_4 hcz148_5 hcz148_6 hcz148_7 hfz148_0 hfz148_1 hfz148_2 hfz148_3 hfz148_4 hfz148_5 hfz148_6 hfz148_7); (try clear hcz150_0 hcz150_1 hcz150_2 hcz150_3 hcz150_4 hcz150_5 hcz150_6 hcz150_7 hfz150_0 hfz150_1 hfz150_2 hfz150_3 hfz150_4 hfz150_5 hfz150_6 hfz150_7); obtain ⟨hcz154_0, hcz154_1, hcz154_2, hcz154_3, hcz154_4, hcz154_5, hcz154_6, hcz154_7⟩ := cc8 BK192; obtain ⟨hfz154_0, hfz154_1, hfz154_2, hfz154_3, hfz154_4, hfz154_5, hfz154_6, hfz154_7⟩ := cf8 BK192; obtain ⟨hcz155_0, hcz155_1, hcz155_2, hcz155_3, hcz155_4, hcz155_5, hcz155_6, hcz155_7⟩ := cc8 BK189; obtain ⟨hfz155_0, hfz155_1, hfz155_2, hfz155_3, hfz155_4, hfz155_5, hfz155_6, hfz155_7⟩ := cf8 BK189))
                      have n0_ : Aside0 ((((((((((w151.setCell ⟨gb192, 0, none⟩ (.bool false)).setCell ⟨gb192, 1, none⟩ (.int .i64 a1_1)).setCell ⟨gb192, 2, none⟩ (.int .i64 a1_2)).setCell ⟨gb192, 3, none⟩ (.int .i64 a1_3)).setCell ⟨gb192, 4, none⟩ (.bool a1_4)).setCell ⟨gb192, 5, none⟩ (.int .i64 a1_5)).setCell ⟨gb192, 6, none⟩ (.int .i64 a1_6)).setCell ⟨gb192, 7, none⟩ (.int .i64 a1_7)).setCell ⟨gb192, 6, none⟩ (.int .i64 (wrap64 (a1_6 + a2)))).heap[gb188]? = some (.cells #[.int .i64 a0_0, .int .i64 a0_1, .int .i64 a0_2, .int .i64 a0_3, .int .i64 a0_4, .int .i64 a0_5] 23 (0, 0))) := ⟨by (with_reducible repeat (first | refine bN ?_ _ | refine bD ?_ | refine bA ?_ _ | refine blk_far ?_ NB188_192.out _)); exact BK188.out⟩
                      have n1_ : Aside0 ((((((((((w151.setCell ⟨gb192, 0, none⟩ (.bool false)).setCell ⟨gb192, 1, none⟩ (.int .i64 a1_1)).setCell ⟨gb192, 2, none⟩ (.int .i64 a1_2)).setCell ⟨gb192, 3, none⟩ (.int .i64 a1_3)).setCell ⟨gb192, 4, none⟩ (.bool a1_4)).setCell ⟨gb192, 5, none⟩ (.int .i64 a1_5)).setCell ⟨gb192, 6, none⟩ (.int .i64 a1_6)).setCell ⟨gb192, 7, none⟩ (.int .i64 a1_7)).setCell ⟨gb192, 6, none⟩ (.int .i64 (wrap64 (a1_6 + a2)))).heap[gb189]? = some (.cells #[.bool false, .int .i64 a1_1, .int .i64 a1_2, .int .i64 a1_3, .bool a1_4, .int .i64 a1_5, .int .i64 a1_6, .int .i64 a1_7] 25 (0, 0))) := ⟨by (with_reducible repeat (first | refine bN ?_ _ | refine bD ?_ | refine bA ?_ _ | refine blk_far ?_ NB189_192.out _)); exact BK189.out⟩
                      have n2_ : Aside0 ((((((((((w151.setCell ⟨gb192, 0, none⟩ (.bool false)).setCell ⟨gb192, 1, none⟩ (.int .i64 a1_1)).setCell ⟨gb192, 2, none⟩ (.int .i64 a1_2)).setCell ⟨gb192, 3, none⟩ (.int .i64 a1_3)).setCell ⟨gb192, 4, none⟩ (.bool a1_4)).setCell ⟨gb192, 5, none⟩ (.int .i64 a1_5)).setCell ⟨gb192, 6, none⟩ (.int .i64 a1_6)).setCell ⟨gb192, 7, none⟩ (.int .i64 a1_7)).setCell ⟨gb192, 6, none⟩ (.int .i64 (wrap64 (a1_6 + a2)))).heap[gb192]? = some (.cells #[.bool false, .int .i64 a1_1, .int .i64 a1_2, .int .i64 a1_3, .bool a1_4, .int .i64 a1_5, .int .i64 (wrap64 (a1_6 + a2)), .int .i64 a1_7] 25 (0, 0))) := ⟨by (with_reducible repeat (first | refine bN ?_ _ | refine bD ?_ | refine bA ?_ _)); refine blk_put (cs := #[.bool false, .int .i64 a1_1, .int .i64 a1_2, .int .i64 a1_3, .bool a1_4, .int .i64 a1_5, .int .i64 a1_6, .int .i64 a1_7]) ?_ 6 _ rfl; (with_reducible repeat (first | refine bN ?_ _ | refine bD ?_ | refine bA ?_ _)); refine blk_put (cs := #[.bool false, .int .i64 a1_1, .int .i64 a1_2, .int .i64 a1_3, .bool a1_4, .int .i64 a1_5, .int .i64 a1_6, .int .i64 0]) ?_ 7 _ rfl; (with_reducible repeat (first | refine bN ?_ _ | refine bD ?_ | refine bA ?_ _)); refine blk_put (cs := #[.bool false, .int .i64 a1_1, .int .i64 a1_2, .int .i64 a1_3, .bool a1_4, .int .i64 a1_5, .int .i64 0, .int .i64 0]) ?_ 6 _ rfl; (with_reducible repeat (first | refine bN ?_ _ | refine bD ?_ | refine bA ?_ _)); refine blk_put (cs := #[.bool false, .int .i64 a1_1, .int .i64 a1_2, .int .i64 a1_3, .bool a1_4, .int .i64 0, .int .i64 0, .int .i64 0]) ?_ 5 _ rfl; (with_reducible repeat (first | refine bN ?_ _ | refine bD ?_ | refine bA ?_ _)); refine blk_put (cs := #[.bool false, .int .i64 a1_1, .int .i64 a1_2, .int .i64 a1_3, .bool false, .int .i64 0, .int .i64 0, .int .i64 0]) ?_ 4 _ rfl; (with_reducible repeat (first | refine bN ?_ _ | refine bD ?_ | refine bA ?_ _)); refine blk_put (cs := #[.bool false, .int .i64 a1_1, .int .i64 a1_2, .int .i64 0, .bool false, .int .i64 0, .int .i64 0, .int .i64 0]) ?_ 3 _ rfl; (with_reducible repeat (first | refine bN ?_ _ | refine bD ?_ | refine bA ?_ _)); refine blk_put (cs := #[.bool false, .int .i64 a1_1, .int .i64 0, .int .i64 0, .bool false, .int .i64 0, .int .i64 0, .int .i64 0]) ?_ 2 _ rfl; (with_reducible repeat (first | refine bN ?_ _ | refine bD ?_ | refine bA ?_ _)); refine blk_put (cs := #[.bool false, .int .i64 0, .int .i64 0, .int .i64 0, .bool false, .int .i64 0, .int .i64 0, .int .i64 0]) ?_ 1 _ rfl; (with_reducible repeat (first | refine bN ?_ _ | refine bD ?_ | refine bA ?_ _)); refine blk_put (cs := #[.bool false, .int .i64 0, .int .i64 0, .int .i64 0, .bool false, .int .i64 0, .int .i64 0, .int .i64 0]) ?_ 0 _ rfl; (with_reducible repeat (first | refine bN ?_ _ | refine bD ?_ | refine bA ?_ _)); exact BK192.out⟩
                      have n3_ : Aside0 (Below w.heap.size w (((((((((w151.setCell ⟨gb192, 0, none⟩ (.bool false)).setCell ⟨gb192, 1, none⟩ (.int .i64 a1_1)).setCell ⟨gb192, 2, none⟩ (.int .i64 a1_2)).setCell ⟨gb192, 3, none⟩ (.int .i64 a1_3)).setCell ⟨gb192, 4, none⟩ (.bool a1_4)).setCell ⟨gb192, 5, none⟩ (.int .i64 a1_5)).setCell ⟨gb192, 6, none⟩ (.int .i64 a1_6)).setCell ⟨gb192, 7, none⟩ (.int .i64 a1_7)).setCell ⟨gb192, 6, none⟩ (.int .i64 (wrap64 (a1_6 + a2))))) := ⟨by repeat (first | (with_reducible first | exact HB.out | apply below_alloc | apply pw_below_drewN | apply below_drew1 | refine below_set ?_ GE188.out | refine below_set ?_ GE189.out | refine below_set ?_ GE192.out) | exact HB.out)⟩
                      (try clear BK188)
                      (try clear BK189)
                      (try clear BK192)
                      (try clear HB)
                      generalize (((((((((w151.setCell ⟨gb192, 0, none⟩ (.bool false)).setCell ⟨gb192, 1, none⟩ (.int .i64 a1_1)).setCell ⟨gb192, 2, none⟩ (.int .i64 a1_2)).setCell ⟨gb192, 3, none⟩ (.int .i64 a1_3)).setCell ⟨gb192, 4, none⟩ (.bool a1_4)).setCell ⟨gb192, 5, none⟩ (.int .i64 a1_5)).setCell ⟨gb192, 6, none⟩ (.int .i64 a1_6)).setCell ⟨gb192, 7, none⟩ (.int .i64 a1_7)).setCell ⟨gb192, 6, none⟩ (.int .i64 (wrap64 (a1_6 + a2)))) = w156 at n0_ n1_ n2_ n3_ ⊢
                      have BK188 := n0_
                      have BK189 := n1_
                      have BK192 := n2_
                      have HB := n3_
                      clear n0_ n1_ n2_ n3_
                      have n0_ := Aside0.mk (blk_drew BK188.out)
                      have n1_ := Aside0.mk (blk_drew BK189.out)
                      have n2_ := Aside0.mk (blk_drew BK192.out)
                      have n3_ := Aside0.mk (below_drew1 HB.out)
                      clear BK188
                      clear BK189
                      clear BK192
                      clear HB
                      have BK188 := n0_
                      have BK189 := n1_
                      have BK192 := n2_
                      have HB := n3_
                      clear n0_ n1_ n2_ n3_
                      refine start_ (n := 27) (S := fun w' => w'.cell? ⟨gb192, 0, none⟩ = some (.bool false) ∧ w'.cell? ⟨gb192, 1, none⟩ = some (.int .i64 a1_1) ∧ w'.cell? ⟨gb192, 2, none⟩ = some (.int .i64 a1_2) ∧ w'.cell? ⟨gb192, 3, none⟩ = some (.int .i64 a1_3) ∧ w'.cell? ⟨gb192, 4, none⟩ = some (.bool a1_4) ∧ w'.cell? ⟨gb192, 5, none⟩ = some (.int .i64 a1_5) ∧ w'.cell? ⟨gb192, 6, none⟩ = some (.int .i64 (wrap64 (a1_6 + a2))) ∧ w'.cell? ⟨gb192, 7, none⟩ = some (.int .i64 a1_7) ∧ w'.cell? ⟨gb189, 0, none⟩ = some (.bool false) ∧ w'.cell? ⟨gb189, 1, none⟩ = some (.int .i64 a1_1) ∧ w'.cell? ⟨gb189, 2, none⟩ = some (.int .i64 a1_2) ∧ w'.cell? ⟨gb189, 3, none⟩ = some (.int .i64 a1_3) ∧ w'.cell? ⟨gb189, 4, none⟩ = some (.bool a1_4) ∧ w'.cell? ⟨gb189, 5, none⟩ = some (.int .i64 a1_5) ∧ w'.cell? ⟨gb189, 6, none⟩ = some (.int .i64 a1_6) ∧ w'.cell? ⟨gb189, 7, none⟩ = some (.int .i64 a1_7)) (ds := []) #[false, false, false, false, false, false, false, false, false, false, false, false, false, false, false, false, false, false, false, false, false, false, false, false, false, false, false] (by kernel_rfl) rfl rfl ⟨(blk_cell BK192.out 0).trans rfl, (blk_cell BK192.out 1).trans rfl, (blk_cell BK192.out 2).trans rfl, (blk_cell BK192.out 3).trans rfl, (blk_cell BK192.out 4).trans rfl, (blk_cell BK192.out 5).trans rfl, (blk_cell BK192.out 6).trans rfl, (blk_cell BK192.out 7).trans rfl, (blk_cell BK189.out 0).trans rfl, (blk_cell BK189.out 1).trans rfl, (blk_cell BK189.out 2).trans rfl, (blk_cell BK189.out 3).trans rfl, (blk_cell BK189.out 4).trans rfl, (blk_cell BK189.out 5).trans rfl, (blk_cell BK189.out 6).trans rfl, (blk_cell BK189.out 7).trans rfl⟩ (fun hHeld => ?_); refine with_tabW fuseelaw11_JobLong.tab6 fuseelaw11_JobLong.bits6 (fun HT_ HW_ => ?_)
                      generalize w156.drew = w157 at BK188 BK189 BK192 HB hHeld ⊢
                      refine take_ (i := 0) (N := some 35) (v := ?_) (a' := ?_) #[true, false, false, false, false, false, false, false, false, false, false, false, false, false, false, false, false, false, false, false, false, false, false, false, false, false, false] rfl rfl (take_ofW HT_.out HW_.out (by kernel_rfl)) (fun _ _ _ h => h) (Or.inl ⟨by rfl, ?_⟩) hHeld ?_ ?_
                      rotate_left
                      · rintro w' ⟨s0, s1, s2, s3, s4, s5, s6, s7, s8, s9, s10, s11, s12, s13, s14, s15⟩
                        go_simp
                        with_reducible rfl
                      rotate_left; focus (simp only [Act.put, List.setIfInBounds_toArray, List.set_cons_zero, List.set_cons_succ, i64_w, i32_w]; rfl)
                      refine take_ (i := 2) (N := some 37) (v := ?_) (a' := ?_) #[true, false, true, false, false, false, false, false, false, false, false, false, false, false, false, false, false, false, false, false, false, false, false, false, false, false, false] rfl rfl (take_ofW HT_.out HW_.out (by kernel_rfl)) (fun _ _ _ h => h) (Or.inl ⟨by rfl, ?_⟩) hHeld ?_ ?_
                      rotate_left
                      · rintro w' ⟨s0, s1, s2, s3, s4, s5, s6, s7, s8, s9, s10, s11, s12, s13, s14, s15⟩
                        go_simp
                        with_reducible rfl
                      rotate_left; focus (simp only [Act.put, List.setIfInBounds_toArray, List.set_cons_zero, List.set_cons_succ, i64_w, i32_w]; rfl)
                      refine one_ (i := 1) (N := some 36) #[true, true, true, false, false, false, false, false, false, false, false, false, false, false, false, false, false, false, false, false, false, false, false, false, false, false, false] rfl rfl (one_of HT_.out (by kernel_rfl)) (by decide) (fun K hK => ?_)
                      refine goes_ Try.func11 (by kernel_rfl) rfl #[.agg #[.bool false, .int .i64 a1_1, .int .i64 a1_2, .int .i64 a1_3, .bool a1_4, .int .i64 a1_5, .int .i64 (wrap64 (a1_6 + a2)), .int .i64 a1_7]] (by rfl) rfl rfl (by (try simp only [List.map_toArray, List.map_cons, List.map_nil]); first | done | rfl | (simp only [List.length_drop, List.length_take]; rfl)) ?_
                      with_reducible refine (job_Left.calls false a1_1 a1_2 a1_3 a1_4 a1_5 (wrap64 (a1_6 + a2)) a1_7 t193 _ A24.out).mono ?_
                      rintro e w158 ⟨rfl, hb⟩
                      refine ⟨_, rfl, ?_⟩
                      have n0_ := bb BK188 hb
                      have n1_ := bb BK189 hb
                      have n2_ := bb BK192 hb
                      have n3_ := bs HB hb
                      clear BK188
                      clear BK189
                      clear BK192
                      clear HB
                      have BK188 := n0_
                      have BK189 := n1_
                      have BK192 := n2_
                      have HB := n3_
                      clear n0_ n1_ n2_ n3_
                      (try clear hb)
                      (try clear hb2)
                      (try clear hk)
                      (try clear hi)
                      refine hK.out _ _ ⟨(blk_cell BK192.out 0).trans rfl, (blk_cell BK192.out 1).trans rfl, (blk_cell BK192.out 2).trans rfl, (blk_cell BK192.out 3).trans rfl, (blk_cell BK192.out 4).trans rfl, (blk_cell BK192.out 5).trans rfl, (blk_cell BK192.out 6).trans rfl, (blk_cell BK192.out 7).trans rfl, (blk_cell BK189.out 0).trans rfl, (blk_cell BK189.out 1).trans rfl, (blk_cell BK189.out 2).trans rfl, (blk_cell BK189.out 3).trans rfl, (blk_cell BK189.out 4).trans rfl, (blk_cell BK189.out 5).trans rfl, (blk_cell BK189.out 6).trans rfl, (blk_cell BK189.out 7).trans rfl⟩ (fun hHeld => ?_)
                      clear hK K
                      refine norm_ (a' := ?_) ?_ ?_
                      rotate_left
                      · show Act.put _ (some 36) _ = _
                        simp only [Act.put, List.setIfInBounds_toArray, List.set_cons_zero, List.set_cons_succ, i64_w, i32_w]
                        rfl
                      refine one_ (i := 3) (N := some 38) #[true, true, true, true, false, false, false, false, false, false, false, false, false, false, false, false, false, false, false, false, false, false, false, false, false, false, false] rfl rfl (one_of HT_.out (by kernel_rfl)) (by decide) (fun K hK => ?_)
                      refine goes_ Try.func11 (by kernel_rfl) rfl #[.agg #[.bool false, .int .i64 a1_1, .int .i64 a1_2, .int .i64 a1_3, .bool a1_4, .int .i64 a1_5, .int .i64 a1_6, .int .i64 a1_7]] (by rfl) rfl rfl (by (try simp only [List.map_toArray, List.map_cons, List.map_nil]); first | done | rfl | (simp only [List.length_drop, List.length_take]; rfl)) ?_
                      with_reducible refine (job_Left.calls false a1_1 a1_2 a1_3 a1_4 a1_5 a1_6 a1_7 t194 _ A25.out).mono ?_
                      rintro e w159 ⟨rfl, hb⟩
                      refine ⟨_, rfl, ?_⟩
                      have n0_ := bb BK188 hb
                      have n1_ := bb BK189 hb
                      have n2_ := bb BK192 hb
                      have n3_ := bs HB hb
                      clear BK188
                      clear BK189
                      clear BK192
                      clear HB
                      have BK188 := n0_
                      have BK189 := n1_
                      have BK192 := n2_
                      have HB := n3_
                      clear n0_ n1_ n2_ n3_
                      (try clear hb)
                      (try clear hb2)
                      (try clear hk)
                      (try clear hi)
                      refine hK.out _ _ ⟨(blk_cell BK192.out 0).trans rfl, (blk_cell BK192.out 1).trans rfl, (blk_cell BK192.out 2).trans rfl, (blk_cell BK192.out 3).trans rfl, (blk_cell BK192.out 4).trans rfl, (blk_cell BK192.out 5).trans rfl, (blk_cell BK192.out 6).trans rfl, (blk_cell BK192.out 7).trans rfl, (blk_cell BK189.out 0).trans rfl, (blk_cell BK189.out 1).trans rfl, (blk_cell BK189.out 2).trans rfl, (blk_cell BK189.out 3).trans rfl, (blk_cell BK189.out 4).trans rfl, (blk_cell BK189.out 5).trans rfl, (blk_cell BK189.out 6).trans rfl, (blk_cell BK189.out 7).trans rfl⟩ (fun hHeld => ?_)
                      clear hK K
                      refine norm_ (a' := ?_) ?_ ?_
                      rotate_left
                      · show Act.put _ (some 38) _ = _
                        simp only [Act.put, List.setIfInBounds_toArray, List.set_cons_zero, List.set_cons_succ, i64_w, i32_w]
                        rfl
                      refine pure_ (i := 4) (N := some 39) (v := ?_) (a' := ?_) #[true, true, true, true, true, false, false, false, false, false, false, false, false, false, false, false, false, false, false, false, false, false, false, false, false, false, false] rfl rfl (any_of HT_.out (by kernel_rfl)) (fun _ _ _ h => h) (Or.inl ⟨by rfl, ?_⟩) ?_ ?_
                      rotate_left; focus (intro w'; go_simp; with_reducible rfl)
                      rotate_left; focus (simp only [Act.put, List.setIfInBounds_toArray, List.set_cons_zero, List.set_cons_succ, i64_w, i32_w]; rfl)
                      refine pure_ (i := 5) (N := some 40) (v := ?_) (a' := ?_) #[true, true, true, true, true, true, false, false, false, false, false, false, false, false, false, false, false, false, false, false, false, false, false, false, false, false, false] rfl rfl (any_of HT_.out (by kernel_rfl)) (fun _ _ _ h => h) (Or.inl ⟨by rfl, ?_⟩) ?_ ?_
                      rotate_left; focus (intro w'; go_simp; with_reducible rfl)
                      rotate_left; focus (simp only [Act.put, List.setIfInBounds_toArray, List.set_cons_zero, List.set_cons_succ, i64_w, i32_w]; rfl)
                      refine take_ (i := 6) (N := some 41) (v := ?_) (a' := ?_) #[true, true, true, true, true, true, true, false, false, false, false, false, false, false, false, false, false, false, false, false, false, false, false, false, false, false, false] rfl rfl (take_ofW HT_.out HW_.out (by kernel_rfl)) (fun _ _ _ h => h) (Or.inl ⟨by rfl, ?_⟩) hHeld ?_ ?_
                      rotate_left
                      · rintro w' ⟨s0, s1, s2, s3, s4, s5, s6, s7, s8, s9, s10, s11, s12, s13, s14, s15⟩
                        go_simp
                        with_reducible rfl
                      rotate_left; focus (simp only [Act.put, List.setIfInBounds_toArray, List.set_cons_zero, List.set_cons_succ, i64_w, i32_w]; rfl)
                      refine take_ (i := 8) (N := some 43) (v := ?_) (a' := ?_) #[true, true, true, true, true, true, true, false, true, false, false, false, false, false, false, false, false, false, false, false, false, false, false, false, false, false, false] rfl rfl (take_ofW HT_.out HW_.out (by kernel_rfl)) (fun _ _ _ h => h) (Or.inl ⟨by rfl, ?_⟩) hHeld ?_ ?_
                      rotate_left
                      · rintro w' ⟨s0, s1, s2, s3, s4, s5, s6, s7, s8, s9, s10, s11, s12, s13, s14, s15⟩
                        go_simp
                        with_reducible rfl
                      rotate_left; focus (simp only [Act.put, List.setIfInBounds_toArray, List.set_cons_zero, List.set_cons_succ, i64_w, i32_w]; rfl)
                      refine one_ (i := 7) (N := some 42) #[true, true, true, true, true, true, true, true, true, false, false, false, false, false, false, false, false, false, false, false, false, false, false, false, false, false, false] rfl rfl (one_of HT_.out (by kernel_rfl)) (by decide) (fun K hK => ?_)
                      refine goes_ Try.func11 (by kernel_rfl) rfl #[.agg #[.bool false, .int .i64 a1_1, .int .i64 a1_2, .int .i64 a1_3, .bool a1_4, .int .i64 a1_5, .int .i64 a1_6, .int .i64 a1_7]] (by rfl) rfl rfl (by (try simp only [List.map_toArray, List.map_cons, List.map_nil]); first | done | rfl | (simp only [List.length_drop, List.length_take]; rfl)) ?_
                      with_reducible refine (job_Left.calls false a1_1 a1_2 a1_3 a1_4 a1_5 a1_6 a1_7 t195 _ A27.out).mono ?_
                      rintro e w160 ⟨rfl, hb⟩
                      refine ⟨_, rfl, ?_⟩
                      have n0_ := bb BK188 hb
                      have n1_ := bb BK189 hb
                      have n2_ := bb BK192 hb
                      have n3_ := bs HB hb
                      clear BK188
                      clear BK189
                      clear BK192
                      clear HB
                      have BK188 := n0_
                      have BK189 := n1_
                      have BK192 := n2_
                      have HB := n3_
                      clear n0_ n1_ n2_ n3_
                      (try clear hb)
                      (try clear hb2)
                      (try clear hk)
                      (try clear hi)
                      refine hK.out _ _ ⟨(blk_cell BK192.out 0).trans rfl, (blk_cell BK192.out 1).trans rfl, (blk_cell BK192.out 2).trans rfl, (blk_cell BK192.out 3).trans rfl, (blk_cell BK192.out 4).trans rfl, (blk_cell BK192.out 5).trans rfl, (blk_cell BK192.out 6).trans rfl, (blk_cell BK192.out 7).trans rfl, (blk_cell BK189.out 0).trans rfl, (blk_cell BK189.out 1).trans rfl, (blk_cell BK189.out 2).trans rfl, (blk_cell BK189.out 3).trans rfl, (blk_cell BK189.out 4).trans rfl, (blk_cell BK189.out 5).trans rfl, (blk_cell BK189.out 6).trans rfl, (blk_cell BK189.out 7).trans rfl⟩ (fun hHeld => ?_)
                      clear hK K
                      refine norm_ (a' := ?_) ?_ ?_
                      rotate_left
                      · show Act.put _ (some 42) _ = _
                        simp only [Act.put, List.setIfInBounds_toArray, List.set_cons_zero, List.set_cons_succ, i64_w, i32_w]
                        rfl
                      refine one_ (i := 9) (N := some 44) #[true, true, true, true, true, true, true, true, true, true, false, false, false, false, false, false, false, false, false, false, false, false, false, false, false, false, false] rfl rfl (one_of HT_.out (by kernel_rfl)) (by decide) (fun K hK => ?_)
                      refine goes_ Try.func12 (by kernel_rfl) rfl #[.agg #[.bool false, .int .i64 a1_1, .int .i64 a1_2, .int .i64 a1_3, .bool a1_4, .int .i64 a1_5, .int .i64 a1_6, .int .i64 a1_7]] (by rfl) rfl rfl (by (try simp only [List.map_toArray, List.map_cons, List.map_nil]); first | done | rfl | (simp only [List.length_drop, List.length_take]; rfl)) ?_
                      with_reducible refine (job_Worst.calls false a1_1 a1_2 a1_3 a1_4 a1_5 a1_6 a1_7 t196 _ A28.out).mono ?_
                      rintro e w161 ⟨rfl, hb⟩
                      refine ⟨_, rfl, ?_⟩
                      have n0_ := bb BK188 hb
                      have n1_ := bb BK189 hb
                      have n2_ := bb BK192 hb
                      have n3_ := bs HB hb
                      clear BK188
                      clear BK189
                      clear BK192
                      clear HB
                      have BK188 := n0_
                      have BK189 := n1_
                      have BK192 := n2_
                      have HB := n3_
                      clear n0_ n1_ n2_ n3_
                      (try clear hb)
                      (try clear hb2)
                      (try clear hk)
                      (try clear hi)
                      refine hK.out _ _ ⟨(blk_cell BK192.out 0).trans rfl, (blk_cell BK192.out 1).trans rfl, (blk_cell BK192.out 2).trans rfl, (blk_cell BK192.out 3).trans rfl, (blk_cell BK192.out 4).trans rfl, (blk_cell BK192.out 5).trans rfl, (blk_cell BK192.out 6).trans rfl, (blk_cell BK192.out 7).trans rfl, (blk_cell BK189.out 0).trans rfl, (blk_cell BK189.out 1).trans rfl, (blk_cell BK189.out 2).trans rfl, (blk_cell BK189.out 3).trans rfl, (blk_cell BK189.out 4).trans rfl, (blk_cell BK189.out 5).trans rfl, (blk_cell BK189.out 6).trans rfl, (blk_cell BK189.out 7).trans rfl⟩ (fun hHeld => ?_)
                      clear hK K
                      refine norm_ (a' := ?_) ?_ ?_
                      rotate_left
                      · show Act.put _ (some 44) _ = _
                        simp only [Act.put, List.setIfInBounds_toArray, List.set_cons_zero, List.set_cons_succ, i64_w, i32_w]
                        rfl
                      refine pure_ (i := 10) (N := some 45) (v := ?_) (a' := ?_) #[true, true, true, true, true, true, true, true, true, true, true, false, false, false, false, false, false, false, false, false, false, false, false, false, false, false, false] rfl rfl (any_of HT_.out (by kernel_rfl)) (fun _ _ _ h => h) (Or.inl ⟨by rfl, ?_⟩) ?_ ?_
                      rotate_left; focus (intro w'; go_simp; with_reducible rfl)
                      rotate_left; focus (simp only [Act.put, List.setIfInBounds_toArray, List.set_cons_zero, List.set_cons_succ, i64_w, i32_w]; rfl)
                      refine pure_ (i := 11) (N := some 46) (v := ?_) (a' := ?_) #[true, true, true, true, true, true, true, true, true, true, true, true, false, false, false, false, false, false, false, false, false, false, false, false, false, false, false] rfl rfl (any_of HT_.out (by kernel_rfl)) (fun _ _ _ h => h) (Or.inl ⟨by rfl, ?_⟩) ?_ ?_
                      rotate_left; focus (intro w'; go_simp; with_reducible rfl)
                      rotate_left; focus (simp only [Act.put, List.setIfInBounds_toArray, List.set_cons_zero, List.set_cons_succ, i64_w, i32_w]; rfl)
                      refine pure_ (i := 12) (N := some 47) (v := ?_) (a' := ?_) #[true, true, true, true, true, true, true, true, true, true, true, true, true, false, false, false, false, false, false, false, false, false, false, false, false, false, false] rfl rfl (any_of HT_.out (by kernel_rfl)) (fun _ _ _ h => h) (Or.inl ⟨by rfl, ?_⟩) ?_ ?_
                      rotate_left; focus (intro w'; go_simp; with_reducible rfl)
                      rotate_left; focus (simp only [Act.put, List.setIfInBounds_toArray, List.set_cons_zero, List.set_cons_succ, i64_w, i32_w]; rfl)
                      refine pure_ (i := 13) (N := some 48) (v := ?_) (a' := ?_) #[true, true, true, true, true, true, true, true, true, true, true, true, true, true, false, false, false, false, false, false, false, false, false, false, false, false, false] rfl rfl (any_of HT_.out (by kernel_rfl)) (fun _ _ _ h => h) (Or.inl ⟨by rfl, ?_⟩) ?_ ?_
                      rotate_left; focus (intro w'; go_simp; with_reducible rfl)
                      rotate_left; focus (simp only [Act.put, List.setIfInBounds_toArray, List.set_cons_zero, List.set_cons_succ, i64_w, i32_w]; rfl)
                      refine take_ (i := 14) (N := some 49) (v := ?_) (a' := ?_) #[true, true, true, true, true, true, true, true, true, true, true, true, true, true, true, false, false, false, false, false, false, false, false, false, false, false, false] rfl rfl (take_ofW HT_.out HW_.out (by kernel_rfl)) (fun _ _ _ h => h) (Or.inl ⟨by rfl, ?_⟩) hHeld ?_ ?_
                      rotate_left
                      · rintro w' ⟨s0, s1, s2, s3, s4, s5, s6, s7, s8, s9, s10, s11, s12, s13, s14, s15⟩
                        go_simp
                        with_reducible rfl
                      rotate_left; focus (simp only [Act.put, List.setIfInBounds_toArray, List.set_cons_zero, List.set_cons_succ, i64_w, i32_w]; rfl)
                      refine pure_ (i := 15) (N := some 50) (v := ?_) (a' := ?_) #[true, true, true, true, true, true, true, true, true, true, true, true, true, true, true, true, false, false, false, false, false, false, false, false, false, false, false] rfl rfl (any_of HT_.out (by kernel_rfl)) (fun _ _ _ h => h) (Or.inl ⟨by rfl, ?_⟩) ?_ ?_
                      rotate_left; focus (intro w'; go_simp; with_reducible rfl)
                      rotate_left; focus (simp only [Act.put, List.setIfInBounds_toArray, List.set_cons_zero, List.set_cons_succ, i64_w, i32_w]; rfl)
                      refine pure_ (i := 16) (N := some 51) (v := ?_) (a' := ?_) #[true, true, true, true, true, true, true, true, true, true, true, true, true, true, true, true, true, false, false, false, false, false, false, false, false, false, false] rfl rfl (any_of HT_.out (by kernel_rfl)) (fun _ _ _ h => h) (Or.inl ⟨by rfl, ?_⟩) ?_ ?_
                      rotate_left; focus (intro w'; go_simp; with_reducible rfl)
                      rotate_left; focus (simp only [Act.put, List.setIfInBounds_toArray, List.set_cons_zero, List.set_cons_succ, i64_w, i32_w]; rfl)
                      refine take_ (i := 17) (N := some 52) (v := ?_) (a' := ?_) #[true, true, true, true, true, true, true, true, true, true, true, true, true, true, true, true, true, true, false, false, false, false, false, false, false, false, false] rfl rfl (take_ofW HT_.out HW_.out (by kernel_rfl)) (fun _ _ _ h => h) (Or.inl ⟨by rfl, ?_⟩) hHeld ?_ ?_
                      rotate_left
                      · rintro w' ⟨s0, s1, s2, s3, s4, s5, s6, s7, s8, s9, s10, s11, s12, s13, s14, s15⟩
                        go_simp
                        with_reducible rfl
                      rotate_left; focus (simp only [Act.put, List.setIfInBounds_toArray, List.set_cons_zero, List.set_cons_succ, i64_w, i32_w]; rfl)
                      refine one_ (i := 18) (N := some 53) #[true, true, true, true, true, true, true, true, true, true, true, true, true, true, true, true, true, true, true, false, false, false, false, false, false, false, false] rfl rfl (one_of HT_.out (by kernel_rfl)) (by decide) (fun K hK => ?_)
                      refine goes_ Try.func11 (by kernel_rfl) rfl #[.agg #[.bool false, .int .i64 a1_1, .int .i64 a1_2, .int .i64 a1_3, .bool a1_4, .int .i64 a1_5, .int .i64 a1_6, .int .i64 a1_7]] (by rfl) rfl rfl (by (try simp only [List.map_toArray, List.map_cons, List.map_nil]); first | done | rfl | (simp only [List.length_drop, List.length_take]; rfl)) ?_
                      with_reducible refine (job_Left.calls false a1_1 a1_2 a1_3 a1_4 a1_5 a1_6 a1_7 t211 _ A98.out).mono ?_
                      rintro e w162 ⟨rfl, hb⟩
                      refine ⟨_, rfl, ?_⟩
                      have n0_ := bb BK188 hb
                      have n1_ := bb BK189 hb
                      have n2_ := bb BK192 hb
                      have n3_ := bs HB hb
                      clear BK188
                      clear BK189
                      clear BK192
                      clear HB
                      have BK188 := n0_
                      have BK189 := n1_
                      have BK192 := n2_
                      have HB := n3_
                      clear n0_ n1_ n2_ n3_
                      (try clear hb)
                      (try clear hb2)
                      (try clear hk)
                      (try clear hi)
                      refine hK.out _ _ ⟨(blk_cell BK192.out 0).trans rfl, (blk_cell BK192.out 1).trans rfl, (blk_cell BK192.out 2).trans rfl, (blk_cell BK192.out 3).trans rfl, (blk_cell BK192.out 4).trans rfl, (blk_cell BK192.out 5).trans rfl, (blk_cell BK192.out 6).trans rfl, (blk_cell BK192.out 7).trans rfl, (blk_cell BK189.out 0).trans rfl, (blk_cell BK189.out 1).trans rfl, (blk_cell BK189.out 2).trans rfl, (blk_cell BK189.out 3).trans rfl, (blk_cell BK189.out 4).trans rfl, (blk_cell BK189.out 5).trans rfl, (blk_cell BK189.out 6).trans rfl, (blk_cell BK189.out 7).trans rfl⟩ (fun hHeld => ?_)
                      clear hK K
                      refine norm_ (a' := ?_) ?_ ?_
                      rotate_left
                      · show Act.put _ (some 53) _ = _
                        simp only [Act.put, List.setIfInBounds_toArray, List.set_cons_zero, List.set_cons_succ, i64_w, i32_w]
                        rfl
                      refine pure_ (i := 19) (N := some 54) (v := ?_) (a' := ?_) #[true, true, true, true, true, true, true, true, true, true, true, true, true, true, true, true, true, true, true, true, false, false, false, false, false, false, false] rfl rfl (any_of HT_.out (by kernel_rfl)) (fun _ _ _ h => h) (Or.inl ⟨by rfl, ?_⟩) ?_ ?_
                      rotate_left; focus (intro w'; go_simp; with_reducible rfl)
                      rotate_left; focus (simp only [Act.put, List.setIfInBounds_toArray, List.set_cons_zero, List.set_cons_succ, i64_w, i32_w]; rfl)
                      refine pure_ (i := 20) (N := some 55) (v := ?_) (a' := ?_) #[true, true, true, true, true, true, true, true, true, true, true, true, true, true, true, true, true, true, true, true, true, false, false, false, false, false, false] rfl rfl (any_of HT_.out (by kernel_rfl)) (fun _ _ _ h => h) (Or.inl ⟨by rfl, ?_⟩) ?_ ?_
                      rotate_left; focus (intro w'; go_simp; with_reducible rfl)
                      rotate_left; focus (simp only [Act.put, List.setIfInBounds_toArray, List.set_cons_zero, List.set_cons_succ, i64_w, i32_w]; rfl)
                      refine take_ (i := 21) (N := some 56) (v := ?_) (a' := ?_) #[true, true, true, true, true, true, true, true, true, true, true, true, true, true, true, true, true, true, true, true, true, true, false, false, false, false, false] rfl rfl (take_ofW HT_.out HW_.out (by kernel_rfl)) (fun _ _ _ h => h) (Or.inl ⟨by rfl, ?_⟩) hHeld ?_ ?_
                      rotate_left
                      · rintro w' ⟨s0, s1, s2, s3, s4, s5, s6, s7, s8, s9, s10, s11, s12, s13, s14, s15⟩
                        go_simp
                        with_reducible rfl
                      rotate_left; focus (simp only [Act.put, List.setIfInBounds_toArray, List.set_cons_zero, List.set_cons_succ, i64_w, i32_w]; rfl)
                      refine one_ (i := 22) (N := some 57) #[true, true, true, true, true, true, true, true, true, true, true, true, true, true, true, true, true, true, true, true, true, true, true, false, false, false, false] rfl rfl (one_of HT_.out (by kernel_rfl)) (by decide) (fun K hK => ?_)
                      refine goes_ Try.func12 (by kernel_rfl) rfl #[.agg #[.bool false, .int .i64 a1_1, .int .i64 a1_2, .int .i64 a1_3, .bool a1_4, .int .i64 a1_5, .int .i64 a1_6, .int .i64 a1_7]] (by rfl) rfl rfl (by (try simp only [List.map_toArray, List.map_cons, List.map_nil]); first | done | rfl | (simp only [List.length_drop, List.length_take]; rfl)) ?_
                      with_reducible refine (job_Worst.calls false a1_1 a1_2 a1_3 a1_4 a1_5 a1_6 a1_7 t212 _ A100.out).mono ?_
                      rintro e w163 ⟨rfl, hb⟩
                      refine ⟨_, rfl, ?_⟩
                      have n0_ := bb BK188 hb
                      have n1_ := bb BK189 hb
                      have n2_ := bb BK192 hb
                      have n3_ := bs HB hb
                      clear BK188
                      clear BK189
                      clear BK192
                      clear HB
                      have BK188 := n0_
                      have BK189 := n1_
                      have BK192 := n2_
                      have HB := n3_
                      clear n0_ n1_ n2_ n3_
                      (try clear hb)
                      (try clear hb2)
                      (try clear hk)
                      (try clear hi)
                      refine hK.out _ _ ⟨(blk_cell BK192.out 0).trans rfl, (blk_cell BK192.out 1).trans rfl, (blk_cell BK192.out 2).trans rfl, (blk_cell BK192.out 3).trans rfl, (blk_cell BK192.out 4).trans rfl, (blk_cell BK192.out 5).trans rfl, (blk_cell BK192.out 6).trans rfl, (blk_cell BK192.out 7).trans rfl, (blk_cell BK189.out 0).trans rfl, (blk_cell BK189.out 1).trans rfl, (blk_cell BK189.out 2).trans rfl, (blk_cell BK189.out 3).trans rfl, (blk_cell BK189.out 4).trans rfl, (blk_cell BK189.out 5).trans rfl, (blk_cell BK189.out 6).trans rfl, (blk_cell BK189.out 7).trans rfl⟩ (fun hHeld => ?_)
                      clear hK K
                      refine norm_ (a' := ?_) ?_ ?_
                      rotate_left
                      · show Act.put _ (some 57) _ = _
                        simp only [Act.put, List.setIfInBounds_toArray, List.set_cons_zero, List.set_cons_succ, i64_w, i32_w]
                        rfl
                      refine pure_ (i := 23) (N := some 58) (v := ?_) (a' := ?_) #[true, true, true, true, true, true, true, true, true, true, true, true, true, true, true, true, true, true, true, true, true, true, true, true, false, false, false] rfl rfl (any_of HT_.out (by kernel_rfl)) (fun _ _ _ h => h) (Or.inl ⟨by rfl, ?_⟩) ?_ ?_
                      rotate_left; focus (intro w'; go_simp; with_reducible rfl)
                      rotate_left; focus (simp only [Act.put, List.setIfInBounds_toArray, List.set_cons_zero, List.set_cons_succ, i64_w, i32_w]; rfl)
                      refine pure_ (i := 24) (N := some 59) (v := ?_) (a' := ?_) #[true, true, true, true, true, true, true, true, true, true, true, true, true, true, true, true, true, true, true, true, true, true, true, true, true, false, false] rfl rfl (any_of HT_.out (by kernel_rfl)) (fun _ _ _ h => h) (Or.inl ⟨by rfl, ?_⟩) ?_ ?_
                      rotate_left; focus (intro w'; go_simp; with_reducible rfl)
                      rotate_left; focus (simp only [Act.put, List.setIfInBounds_toArray, List.set_cons_zero, List.set_cons_succ, i64_w, i32_w]; rfl)
                      refine pure_ (i := 25) (N := some 60) (v := ?_) (a' := ?_) #[true, true, true, true, true, true, true, true, true, true, true, true, true, true, true, true, true, true, true, true, true, true, true, true, true, true, false] rfl rfl (any_of HT_.out (by kernel_rfl)) (fun _ _ _ h => h) (Or.inl ⟨by rfl, ?_⟩) ?_ ?_
                      rotate_left; focus (intro w'; go_simp; with_reducible rfl)
                      rotate_left; focus (simp only [Act.put, List.setIfInBounds_toArray, List.set_cons_zero, List.set_cons_succ, i64_w, i32_w]; rfl)
                      refine pure_ (i := 26) (N := some 61) (v := ?_) (a' := ?_) #[true, true, true, true, true, true, true, true, true, true, true, true, true, true, true, true, true, true, true, true, true, true, true, true, true, true, true] rfl rfl (any_of HT_.out (by kernel_rfl)) (fun _ _ _ h => h) (Or.inl ⟨by rfl, ?_⟩) ?_ ?_
                      rotate_left; focus (intro w'; go_simp; with_reducible rfl)
                      rotate_left; focus (simp only [Act.put, List.setIfInBounds_toArray, List.set_cons_zero, List.set_cons_succ, i64_w, i32_w]; rfl)
                      refine done_ (done_of HT_.out (by kernel_rfl)) ?_
                      obtain ⟨hcz164_0, hcz164_1, hcz164_2, hcz164_3, hcz164_4, hcz164_5, hcz164_6, hcz164_7⟩ := cc8 BK189
                      obtain ⟨hfz164_0, hfz164_1, hfz164_2, hfz164_3, hfz164_4, hfz164_5, hfz164_6, hfz164_7⟩ := cf8 BK189
                      try go_wp2_with (first | ((with_reducible refine gate_callee (f := 13) rfl ?_); refine goesL_ (some 64) rfl rfl Try.func13 (by kernel_rfl) rfl #[.agg #[.bool false, .int .i64 a1_1, .int .i64 a1_2, .int .i64 a1_3, .bool a1_4, .int .i64 a1_5, .int .i64 a1_6, .int .i64 a1_7]] rfl (by (try simp only [List.map_toArray, List.map_cons, List.map_nil]); first | done | rfl | (simp only [List.length_drop, List.length_take]; rfl)) ?_; (with_reducible refine (job_Step.calls false a1_1 a1_2 a1_3 a1_4 a1_5 a1_6 a1_7 t213 t214 t215 t216 t217 t218 t219 t220 t221 _ A102.out).mono ?_); rintro e w165 ⟨rfl, hb⟩; refine ⟨_, rfl, ?_⟩; have n0_ := bb BK188 hb; have n1_ := bb BK189 hb; have n2_ := bb BK192 hb; have n3_ := bs HB hb; clear BK188; clear BK189; clear BK192; clear HB; have BK188 := n0_; have BK189 := n1_; have BK192 := n2_; have HB := n3_; clear n0_ n1_ n2_ n3_; (try clear hb); (try clear hb2); (try clear hk); (try clear hi)) | ((with_reducible refine gate_dst (N := 9) rfl ?_); refine box_event ?hg (N := 9) ?hd (cs := #[.bool false, .int .i64 0, .int .i64 0, .int .i64 0, .bool false, .int .i64 0, .int .i64 0, .int .i64 0]) (t := 25) ?hr ?_; (case hd => rfl); (case hg => rfl); (case hr => first | (go_simp; done) | (go_simp; rfl)); intro gb222 hg w166 hbox hb; have n0_ := bb BK188 hb; have n1_ := bb BK189 hb; have n2_ := bb BK192 hb; have n3_ := bs HB hb; have n4_ := Aside0.mk (hbox); have n5_ := bz HB hg; have n6_ := bz HB hg; have n7_ := bl BK188 hg; have n8_ := bg BK188 hg; have n9_ := bl BK189 hg; have n10_ := bg BK189 hg; have n11_ := bl BK192 hg; have n12_ := bg BK192 hg; clear BK188; clear BK189; clear BK192; clear HB; have BK188 := n0_; have BK189 := n1_; have BK192 := n2_; have HB := n3_; have BK222 := n4_; have GW222 := n5_; have GE222 := n6_; have NB188_222 := n7_; have NB222_188 := n8_; have NB189_222 := n9_; have NB222_189 := n10_; have NB192_222 := n11_; have NB222_192 := n12_; clear n0_ n1_ n2_ n3_ n4_ n5_ n6_ n7_ n8_ n9_ n10_ n11_ n12_; clear hb hbox hg; have hnb167 := NB222_188.out; have hnc167 := NB188_222.out; have hnb168 := NB222_189.out; have hnc168 := NB189_222.out; have hnb169 := NB222_192.out; have hnc169 := NB192_222.out; (try clear hcz164_0 hcz164_1 hcz164_2 hcz164_3 hcz164_4 hcz164_5 hcz164_6 hcz164_7 hfz164_0 hfz164_1 hfz164_2 hfz164_3 hfz164_4 hfz164_5 hfz164_6 hfz164_7); obtain ⟨hcz170_0, hcz170_1, hcz170_2, hcz170_3, hcz170_4, hcz170_5, hcz170_6, hcz170_7⟩ := cc8 BK222; obtain ⟨hfz170_0, hfz170_1, hfz170_2, hfz170_3, hfz170_4, hfz170_5, hfz170_6, hfz170_7⟩ := cf8 BK222))
                      have n0_ : Aside0 (((((((((w166.setCell ⟨gb222, 0, none⟩ (.bool t213)).setCell ⟨gb222, 1, none⟩ (.int .i64 t214)).setCell ⟨gb222, 2, none⟩ (.int .i64 t215)).setCell ⟨gb222, 3, none⟩ (.int .i64 t216)).setCell ⟨gb222, 4, none⟩ (.bool t217)).setCell ⟨gb222, 5, none⟩ (.int .i64 t218)).setCell ⟨gb222, 6, none⟩ (.int .i64 t219)).setCell ⟨gb222, 7, none⟩ (.int .i64 t220)).heap[gb188]? = some (.cells #[.int .i64 a0_0, .int .i64 a0_1, .int .i64 a0_2, .int .i64 a0_3, .int .i64 a0_4, .int .i64 a0_5] 23 (0, 0))) := ⟨by (with_reducible repeat (first | refine bN ?_ _ | refine bD ?_ | refine bA ?_ _ | refine blk_far ?_ NB188_222.out _)); exact BK188.out⟩
                      have n1_ : Aside0 (((((((((w166.setCell ⟨gb222, 0, none⟩ (.bool t213)).setCell ⟨gb222, 1, none⟩ (.int .i64 t214)).setCell ⟨gb222, 2, none⟩ (.int .i64 t215)).setCell ⟨gb222, 3, none⟩ (.int .i64 t216)).setCell ⟨gb222, 4, none⟩ (.bool t217)).setCell ⟨gb222, 5, none⟩ (.int .i64 t218)).setCell ⟨gb222, 6, none⟩ (.int .i64 t219)).setCell ⟨gb222, 7, none⟩ (.int .i64 t220)).heap[gb189]? = some (.cells #[.bool false, .int .i64 a1_1, .int .i64 a1_2, .int .i64 a1_3, .bool a1_4, .int .i64 a1_5, .int .i64 a1_6, .int .i64 a1_7] 25 (0, 0))) := ⟨by (with_reducible repeat (first | refine bN ?_ _ | refine bD ?_ | refine bA ?_ _ | refine blk_far ?_ NB189_222.out _)); exact BK189.out⟩
                      have n2_ : Aside0 (((((((((w166.setCell ⟨gb222, 0, none⟩ (.bool t213)).setCell ⟨gb222, 1, none⟩ (.int .i64 t214)).setCell ⟨gb222, 2, none⟩ (.int .i64 t215)).setCell ⟨gb222, 3, none⟩ (.int .i64 t216)).setCell ⟨gb222, 4, none⟩ (.bool t217)).setCell ⟨gb222, 5, none⟩ (.int .i64 t218)).setCell ⟨gb222, 6, none⟩ (.int .i64 t219)).setCell ⟨gb222, 7, none⟩ (.int .i64 t220)).heap[gb192]? = some (.cells #[.bool false, .int .i64 a1_1, .int .i64 a1_2, .int .i64 a1_3, .bool a1_4, .int .i64 a1_5, .int .i64 (wrap64 (a1_6 + a2)), .int .i64 a1_7] 25 (0, 0))) := ⟨by (with_reducible repeat (first | refine bN ?_ _ | refine bD ?_ | refine bA ?_ _ | refine blk_far ?_ NB192_222.out _)); exact BK192.out⟩
                      have n3_ : Aside0 (((((((((w166.setCell ⟨gb222, 0, none⟩ (.bool t213)).setCell ⟨gb222, 1, none⟩ (.int .i64 t214)).setCell ⟨gb222, 2, none⟩ (.int .i64 t215)).setCell ⟨gb222, 3, none⟩ (.int .i64 t216)).setCell ⟨gb222, 4, none⟩ (.bool t217)).setCell ⟨gb222, 5, none⟩ (.int .i64 t218)).setCell ⟨gb222, 6, none⟩ (.int .i64 t219)).setCell ⟨gb222, 7, none⟩ (.int .i64 t220)).heap[gb222]? = some (.cells #[.bool t213, .int .i64 t214, .int .i64 t215, .int .i64 t216, .bool t217, .int .i64 t218, .int .i64 t219, .int .i64 t220] 25 (0, 0))) := ⟨by (with_reducible repeat (first | refine bN ?_ _ | refine bD ?_ | refine bA ?_ _)); refine blk_put (cs := #[.bool t213, .int .i64 t214, .int .i64 t215, .int .i64 t216, .bool t217, .int .i64 t218, .int .i64 t219, .int .i64 0]) ?_ 7 _ rfl; (with_reducible repeat (first | refine bN ?_ _ | refine bD ?_ | refine bA ?_ _)); refine blk_put (cs := #[.bool t213, .int .i64 t214, .int .i64 t215, .int .i64 t216, .bool t217, .int .i64 t218, .int .i64 0, .int .i64 0]) ?_ 6 _ rfl; (with_reducible repeat (first | refine bN ?_ _ | refine bD ?_ | refine bA ?_ _)); refine blk_put (cs := #[.bool t213, .int .i64 t214, .int .i64 t215, .int .i64 t216, .bool t217, .int .i64 0, .int .i64 0, .int .i64 0]) ?_ 5 _ rfl; (with_reducible repeat (first | refine bN ?_ _ | refine bD ?_ | refine bA ?_ _)); refine blk_put (cs := #[.bool t213, .int .i64 t214, .int .i64 t215, .int .i64 t216, .bool false, .int .i64 0, .int .i64 0, .int .i64 0]) ?_ 4 _ rfl; (with_reducible repeat (first | refine bN ?_ _ | refine bD ?_ | refine bA ?_ _)); refine blk_put (cs := #[.bool t213, .int .i64 t214, .int .i64 t215, .int .i64 0, .bool false, .int .i64 0, .int .i64 0, .int .i64 0]) ?_ 3 _ rfl; (with_reducible repeat (first | refine bN ?_ _ | refine bD ?_ | refine bA ?_ _)); refine blk_put (cs := #[.bool t213, .int .i64 t214, .int .i64 0, .int .i64 0, .bool false, .int .i64 0, .int .i64 0, .int .i64 0]) ?_ 2 _ rfl; (with_reducible repeat (first | refine bN ?_ _ | refine bD ?_ | refine bA ?_ _)); refine blk_put (cs := #[.bool t213, .int .i64 0, .int .i64 0, .int .i64 0, .bool false, .int .i64 0, .int .i64 0, .int .i64 0]) ?_ 1 _ rfl; (with_reducible repeat (first | refine bN ?_ _ | refine bD ?_ | refine bA ?_ _)); refine blk_put (cs := #[.bool false, .int .i64 0, .int .i64 0, .int .i64 0, .bool false, .int .i64 0, .int .i64 0, .int .i64 0]) ?_ 0 _ rfl; (with_reducible repeat (first | refine bN ?_ _ | refine bD ?_ | refine bA ?_ _)); exact BK222.out⟩
                      have n4_ : Aside0 (Below w.heap.size w ((((((((w166.setCell ⟨gb222, 0, none⟩ (.bool t213)).setCell ⟨gb222, 1, none⟩ (.int .i64 t214)).setCell ⟨gb222, 2, none⟩ (.int .i64 t215)).setCell ⟨gb222, 3, none⟩ (.int .i64 t216)).setCell ⟨gb222, 4, none⟩ (.bool t217)).setCell ⟨gb222, 5, none⟩ (.int .i64 t218)).setCell ⟨gb222, 6, none⟩ (.int .i64 t219)).setCell ⟨gb222, 7, none⟩ (.int .i64 t220))) := ⟨by repeat (first | (with_reducible first | exact HB.out | apply below_alloc | apply pw_below_drewN | apply below_drew1 | refine below_set ?_ GE188.out | refine below_set ?_ GE189.out | refine below_set ?_ GE192.out | refine below_set ?_ GE222.out) | exact HB.out)⟩
                      (try clear BK188)
                      (try clear BK189)
                      (try clear BK192)
                      (try clear BK222)
                      (try clear HB)
                      generalize ((((((((w166.setCell ⟨gb222, 0, none⟩ (.bool t213)).setCell ⟨gb222, 1, none⟩ (.int .i64 t214)).setCell ⟨gb222, 2, none⟩ (.int .i64 t215)).setCell ⟨gb222, 3, none⟩ (.int .i64 t216)).setCell ⟨gb222, 4, none⟩ (.bool t217)).setCell ⟨gb222, 5, none⟩ (.int .i64 t218)).setCell ⟨gb222, 6, none⟩ (.int .i64 t219)).setCell ⟨gb222, 7, none⟩ (.int .i64 t220)) = w171 at n0_ n1_ n2_ n3_ n4_ ⊢
                      have BK188 := n0_
                      have BK189 := n1_
                      have BK192 := n2_
                      have BK222 := n3_
                      have HB := n4_
                      clear n0_ n1_ n2_ n3_ n4_
                      have n0_ := Aside0.mk (blk_drew BK188.out)
                      have n1_ := Aside0.mk (blk_drew BK189.out)
                      have n2_ := Aside0.mk (blk_drew BK192.out)
                      have n3_ := Aside0.mk (blk_drew BK222.out)
                      have n4_ := Aside0.mk (below_drew1 HB.out)
                      clear BK188
                      clear BK189
                      clear BK192
                      clear BK222
                      clear HB
                      have BK188 := n0_
                      have BK189 := n1_
                      have BK192 := n2_
                      have BK222 := n3_
                      have HB := n4_
                      clear n0_ n1_ n2_ n3_ n4_
                      refine start_ (n := 19) (S := fun w' => True) (ds := []) #[false, false, false, false, false, false, false, false, false, false, false, false, false, false, false, false, false, false, false] (by kernel_rfl) rfl rfl trivial (fun hHeld => ?_); refine with_tabW fuseelaw11_JobLong.tab9 fuseelaw11_JobLong.bits9 (fun HT_ HW_ => ?_)
                      generalize w171.drew = w172 at BK188 BK189 BK192 BK222 HB hHeld ⊢
                      refine pure_ (i := 0) (N := some 67) (v := ?_) (a' := ?_) #[true, false, false, false, false, false, false, false, false, false, false, false, false, false, false, false, false, false, false] rfl rfl (any_of HT_.out (by kernel_rfl)) (fun _ _ _ h => h) (Or.inl ⟨by rfl, ?_⟩) ?_ ?_
                      rotate_left; focus (intro w'; go_simp; with_reducible rfl)
                      rotate_left; focus (simp only [Act.put, List.setIfInBounds_toArray, List.set_cons_zero, List.set_cons_succ, i64_w, i32_w]; rfl)
                      refine pure_ (i := 1) (N := some 68) (v := ?_) (a' := ?_) #[true, true, false, false, false, false, false, false, false, false, false, false, false, false, false, false, false, false, false] rfl rfl (any_of HT_.out (by kernel_rfl)) (fun _ _ _ h => h) (Or.inl ⟨by rfl, ?_⟩) ?_ ?_
                      rotate_left; focus (intro w'; go_simp; with_reducible rfl)
                      rotate_left; focus (simp only [Act.put, List.setIfInBounds_toArray, List.set_cons_zero, List.set_cons_succ, i64_w, i32_w]; rfl)
                      refine pure_ (i := 2) (N := some 69) (v := ?_) (a' := ?_) #[true, true, true, false, false, false, false, false, false, false, false, false, false, false, false, false, false, false, false] rfl rfl (any_of HT_.out (by kernel_rfl)) (fun _ _ _ h => h) (Or.inl ⟨by rfl, ?_⟩) ?_ ?_
                      rotate_left; focus (intro w'; go_simp; with_reducible rfl)
                      rotate_left; focus (simp only [Act.put, List.setIfInBounds_toArray, List.set_cons_zero, List.set_cons_succ, i64_w, i32_w]; rfl)
                      refine pure_ (i := 3) (N := some 70) (v := undef) (a' := ?_) #[true, true, true, true, false, false, false, false, false, false, false, false, false, false, false, false, false, false, false] rfl rfl (any_of HT_.out (by kernel_rfl)) (fun _ _ _ h => h) (Or.inr ⟨by rfl, rfl⟩) ?_ ?_
                      rotate_left; focus (simp only [Act.put, List.setIfInBounds_toArray, List.set_cons_zero, List.set_cons_succ, i64_w, i32_w]; rfl)
                      refine pure_ (i := 4) (N := some 71) (v := undef) (a' := ?_) #[true, true, true, true, true, false, false, false, false, false, false, false, false, false, false, false, false, false, false] rfl rfl (any_of HT_.out (by kernel_rfl)) (fun _ _ _ h => h) (Or.inr ⟨by rfl, rfl⟩) ?_ ?_
                      rotate_left; focus (simp only [Act.put, List.setIfInBounds_toArray, List.set_cons_zero, List.set_cons_succ, i64_w, i32_w]; rfl)
                      refine pure_ (i := 5) (N := some 72) (v := undef) (a' := ?_) #[true, true, true, true, true, true, false, false, false, false, false, false, false, false, false, false, false, false, false] rfl rfl (any_of HT_.out (by kernel_rfl)) (fun _ _ _ h => h) (Or.inr ⟨by rfl, rfl⟩) ?_ ?_
                      rotate_left; focus (simp only [Act.put, List.setIfInBounds_toArray, List.set_cons_zero, List.set_cons_succ, i64_w, i32_w]; rfl)
                      refine pure_ (i := 6) (N := some 73) (v := undef) (a' := ?_) #[true, true, true, true, true, true, true, false, false, false, false, false, false, false, false, false, false, false, false] rfl rfl (any_of HT_.out (by kernel_rfl)) (fun _ _ _ h => h) (Or.inr ⟨by rfl, rfl⟩) ?_ ?_
                      rotate_left; focus (simp only [Act.put, List.setIfInBounds_toArray, List.set_cons_zero, List.set_cons_succ, i64_w, i32_w]; rfl)
                      refine pure_ (i := 7) (N := some 74) (v := undef) (a' := ?_) #[true, true, true, true, true, true, true, true, false, false, false, false, false, false, false, false, false, false, false] rfl rfl (any_of HT_.out (by kernel_rfl)) (fun _ _ _ h => h) (Or.inr ⟨by rfl, rfl⟩) ?_ ?_
                      rotate_left; focus (simp only [Act.put, List.setIfInBounds_toArray, List.set_cons_zero, List.set_cons_succ, i64_w, i32_w]; rfl)
                      refine pure_ (i := 8) (N := some 75) (v := undef) (a' := ?_) #[true, true, true, true, true, true, true, true, true, false, false, false, false, false, false, false, false, false, false] rfl rfl (any_of HT_.out (by kernel_rfl)) (fun _ _ _ h => h) (Or.inr ⟨by rfl, rfl⟩) ?_ ?_
                      rotate_left; focus (simp only [Act.put, List.setIfInBounds_toArray, List.set_cons_zero, List.set_cons_succ, i64_w, i32_w]; rfl)
                      refine pure_ (i := 9) (N := some 76) (v := undef) (a' := ?_) #[true, true, true, true, true, true, true, true, true, true, false, false, false, false, false, false, false, false, false] rfl rfl (any_of HT_.out (by kernel_rfl)) (fun _ _ _ h => h) (Or.inr ⟨by rfl, rfl⟩) ?_ ?_
                      rotate_left; focus (simp only [Act.put, List.setIfInBounds_toArray, List.set_cons_zero, List.set_cons_succ, i64_w, i32_w]; rfl)
                      refine pure_ (i := 10) (N := some 77) (v := undef) (a' := ?_) #[true, true, true, true, true, true, true, true, true, true, true, false, false, false, false, false, false, false, false] rfl rfl (any_of HT_.out (by kernel_rfl)) (fun _ _ _ h => h) (Or.inr ⟨by rfl, rfl⟩) ?_ ?_
                      rotate_left; focus (simp only [Act.put, List.setIfInBounds_toArray, List.set_cons_zero, List.set_cons_succ, i64_w, i32_w]; rfl)
                      refine pure_ (i := 11) (N := some 78) (v := undef) (a' := ?_) #[true, true, true, true, true, true, true, true, true, true, true, true, false, false, false, false, false, false, false] rfl rfl (any_of HT_.out (by kernel_rfl)) (fun _ _ _ h => h) (Or.inr ⟨by rfl, rfl⟩) ?_ ?_
                      rotate_left; focus (simp only [Act.put, List.setIfInBounds_toArray, List.set_cons_zero, List.set_cons_succ, i64_w, i32_w]; rfl)
                      refine pure_ (i := 12) (N := some 79) (v := undef) (a' := ?_) #[true, true, true, true, true, true, true, true, true, true, true, true, true, false, false, false, false, false, false] rfl rfl (any_of HT_.out (by kernel_rfl)) (fun _ _ _ h => h) (Or.inr ⟨by rfl, rfl⟩) ?_ ?_
                      rotate_left; focus (simp only [Act.put, List.setIfInBounds_toArray, List.set_cons_zero, List.set_cons_succ, i64_w, i32_w]; rfl)
                      refine pure_ (i := 13) (N := some 80) (v := undef) (a' := ?_) #[true, true, true, true, true, true, true, true, true, true, true, true, true, true, false, false, false, false, false] rfl rfl (any_of HT_.out (by kernel_rfl)) (fun _ _ _ h => h) (Or.inr ⟨by rfl, rfl⟩) ?_ ?_
                      rotate_left; focus (simp only [Act.put, List.setIfInBounds_toArray, List.set_cons_zero, List.set_cons_succ, i64_w, i32_w]; rfl)
                      refine pure_ (i := 14) (N := some 81) (v := undef) (a' := ?_) #[true, true, true, true, true, true, true, true, true, true, true, true, true, true, true, false, false, false, false] rfl rfl (any_of HT_.out (by kernel_rfl)) (fun _ _ _ h => h) (Or.inr ⟨by rfl, rfl⟩) ?_ ?_
                      rotate_left; focus (simp only [Act.put, List.setIfInBounds_toArray, List.set_cons_zero, List.set_cons_succ, i64_w, i32_w]; rfl)
                      refine pure_ (i := 15) (N := some 82) (v := undef) (a' := ?_) #[true, true, true, true, true, true, true, true, true, true, true, true, true, true, true, true, false, false, false] rfl rfl (any_of HT_.out (by kernel_rfl)) (fun _ _ _ h => h) (Or.inr ⟨by rfl, rfl⟩) ?_ ?_
                      rotate_left; focus (simp only [Act.put, List.setIfInBounds_toArray, List.set_cons_zero, List.set_cons_succ, i64_w, i32_w]; rfl)
                      refine pure_ (i := 16) (N := some 83) (v := undef) (a' := ?_) #[true, true, true, true, true, true, true, true, true, true, true, true, true, true, true, true, true, false, false] rfl rfl (any_of HT_.out (by kernel_rfl)) (fun _ _ _ h => h) (Or.inr ⟨by rfl, rfl⟩) ?_ ?_
                      rotate_left; focus (simp only [Act.put, List.setIfInBounds_toArray, List.set_cons_zero, List.set_cons_succ, i64_w, i32_w]; rfl)
                      refine pure_ (i := 17) (N := some 84) (v := ?_) (a' := ?_) #[true, true, true, true, true, true, true, true, true, true, true, true, true, true, true, true, true, true, false] rfl rfl (any_of HT_.out (by kernel_rfl)) (fun _ _ _ h => h) (Or.inl ⟨by rfl, ?_⟩) ?_ ?_
                      rotate_left; focus (intro w'; go_simp; with_reducible rfl)
                      rotate_left; focus (simp only [Act.put, List.setIfInBounds_toArray, List.set_cons_zero, List.set_cons_succ, i64_w, i32_w]; rfl)
                      refine pure_ (i := 18) (N := some 6) (v := ?_) (a' := ?_) #[true, true, true, true, true, true, true, true, true, true, true, true, true, true, true, true, true, true, true] rfl rfl (any_of HT_.out (by kernel_rfl)) (fun _ _ _ h => h) (Or.inl ⟨by rfl, ?_⟩) ?_ ?_
                      rotate_left; focus (intro w'; go_simp; with_reducible rfl)
                      rotate_left; focus (simp only [Act.put, List.setIfInBounds_toArray, List.set_cons_zero, List.set_cons_succ, i64_w, i32_w]; rfl)
                      refine done_ (done_of HT_.out (by kernel_rfl)) ?_
                      try go_wp2
                      go_ret
                      exact ⟨by first | rfl | (simp [errW_none, errW_some] <;> rfl) | (simp [*, errW_none, errW_some] <;> rfl) | (exfalso; contradiction), by repeat (first | (with_reducible first | exact HB.out | apply below_alloc | apply pw_below_drewN | apply below_drew1 | refine below_set ?_ GE188.out | refine below_set ?_ GE189.out | refine below_set ?_ GE192.out | refine below_set ?_ GE222.out) | exact HB.out)⟩
                  · rw [if_neg c101] at H
                    exact absurd H (by simp)
                · rw [if_neg c99] at H
                  have c99b0 : (t211 == 0) = false := beq_eq_false_iff_ne.mpr c99
                  have c99b1 : (t211 != 0) = true := bne_iff_ne.mpr c99
                  exact absurd H (by simp)
    · replace c7 := Bool.eq_false_iff.mpr c7
      subst c7
      rw [if_neg (show ¬ (false = true) by decide)] at H
      obtain rfl := Option.some.inj H
      go_enter Try.func5, Try.ntmps5
      go_wp2_with (first | ((with_reducible refine gate_dst (N := 3) rfl ?_); refine box_event ?hg (N := 3) ?hd (cs := #[.int .i64 a0_0, .int .i64 a0_1, .int .i64 a0_2, .int .i64 a0_3, .int .i64 a0_4, .int .i64 a0_5]) (t := 23) ?hr ?_; (case hd => rfl); (case hg => rfl); (case hr => first | (go_simp; done) | (go_simp; rfl)); intro gb188 hg w173 hbox hb; have n0_ := bs HB hb; have n1_ := Aside0.mk (hbox); have n2_ := bz HB hg; have n3_ := bz HB hg; clear HB; have HB := n0_; have BK188 := n1_; have GW188 := n2_; have GE188 := n3_; clear n0_ n1_ n2_ n3_; clear hb hbox hg) | ((with_reducible refine gate_dst (N := 4) rfl ?_); refine box_event ?hg (N := 4) ?hd (cs := #[.bool a1_0, .int .i64 a1_1, .int .i64 a1_2, .int .i64 a1_3, .bool a1_4, .int .i64 a1_5, .int .i64 a1_6, .int .i64 a1_7]) (t := 25) ?hr ?_; (case hd => rfl); (case hg => rfl); (case hr => first | (go_simp; done) | (go_simp; rfl)); intro gb189 hg w174 hbox hb; have n0_ := bb BK188 hb; have n1_ := bs HB hb; have n2_ := Aside0.mk (hbox); have n3_ := bz HB hg; have n4_ := bz HB hg; have n5_ := bl BK188 hg; have n6_ := bg BK188 hg; clear BK188; clear HB; have BK188 := n0_; have HB := n1_; have BK189 := n2_; have GW189 := n3_; have GE189 := n4_; have NB188_189 := n5_; have NB189_188 := n6_; clear n0_ n1_ n2_ n3_ n4_ n5_ n6_; clear hb hbox hg) | ((with_reducible refine gate_callee (f := 8) rfl ?_); refine goesL_ (some 11) rfl rfl Try.func8 (by kernel_rfl) rfl #[] rfl (by (try simp only [List.map_toArray, List.map_cons, List.map_nil]); first | done | rfl | (simp only [List.length_drop, List.length_take]; rfl)) ?_; (with_reducible refine (fuseelaw11_awake.calls  true _ A4.out).mono ?_); rintro e w175 ⟨rfl, hb⟩; refine ⟨_, rfl, ?_⟩; have n0_ := bb BK188 hb; have n1_ := bb BK189 hb; have n2_ := bs HB hb; clear BK188; clear BK189; clear HB; have BK188 := n0_; have BK189 := n1_; have HB := n2_; clear n0_ n1_ n2_; (try clear hb); (try clear hb2); (try clear hk); (try clear hi); have hnb176 := NB188_189.out; have hnc176 := NB189_188.out; obtain ⟨hcz177_0, hcz177_1, hcz177_2, hcz177_3, hcz177_4, hcz177_5⟩ := cc6 BK188; obtain ⟨hfz177_0, hfz177_1, hfz177_2, hfz177_3, hfz177_4, hfz177_5⟩ := cf6 BK188; obtain ⟨hcz178_0, hcz178_1, hcz178_2, hcz178_3, hcz178_4, hcz178_5, hcz178_6, hcz178_7⟩ := cc8 BK189; obtain ⟨hfz178_0, hfz178_1, hfz178_2, hfz178_3, hfz178_4, hfz178_5, hfz178_6, hfz178_7⟩ := cf8 BK189) | (go_at_call 9; (with_reducible refine (job_May.calls a0_0 a0_1 a0_2 a0_3 a0_4 a0_5 a1_0 a1_1 a1_2 a1_3 a1_4 a1_5 a1_6 a1_7 false _ A6.out).mono ?_); rintro e w179 ⟨rfl, hb⟩; have n0_ := bb BK188 hb; have n1_ := bb BK189 hb; have n2_ := bs HB hb; clear BK188; clear BK189; clear HB; have BK188 := n0_; have BK189 := n1_; have HB := n2_; clear n0_ n1_ n2_; (try clear hb); (try clear hb2); (try clear hk); (try clear hi)))
      go_ret
      exact ⟨by first | rfl | (simp [errW_none, errW_some] <;> rfl) | (simp [*, errW_none, errW_some] <;> rfl) | (exfalso; contradiction), by repeat (first | (with_reducible first | exact HB.out | apply below_alloc | apply pw_below_drewN | apply below_drew1 | refine below_set ?_ GE188.out | refine below_set ?_ GE189.out) | exact HB.out)⟩
  · replace c5 := Bool.eq_false_iff.mpr c5
    subst c5
    rw [if_neg (show ¬ (false = true) by decide)] at H
    obtain rfl := Option.some.inj H
    go_enter Try.func5, Try.ntmps5
    go_wp2_with (first | ((with_reducible refine gate_dst (N := 3) rfl ?_); refine box_event ?hg (N := 3) ?hd (cs := #[.int .i64 a0_0, .int .i64 a0_1, .int .i64 a0_2, .int .i64 a0_3, .int .i64 a0_4, .int .i64 a0_5]) (t := 23) ?hr ?_; (case hd => rfl); (case hg => rfl); (case hr => first | (go_simp; done) | (go_simp; rfl)); intro gb188 hg w180 hbox hb; have n0_ := bs HB hb; have n1_ := Aside0.mk (hbox); have n2_ := bz HB hg; have n3_ := bz HB hg; clear HB; have HB := n0_; have BK188 := n1_; have GW188 := n2_; have GE188 := n3_; clear n0_ n1_ n2_ n3_; clear hb hbox hg) | ((with_reducible refine gate_dst (N := 4) rfl ?_); refine box_event ?hg (N := 4) ?hd (cs := #[.bool a1_0, .int .i64 a1_1, .int .i64 a1_2, .int .i64 a1_3, .bool a1_4, .int .i64 a1_5, .int .i64 a1_6, .int .i64 a1_7]) (t := 25) ?hr ?_; (case hd => rfl); (case hg => rfl); (case hr => first | (go_simp; done) | (go_simp; rfl)); intro gb189 hg w181 hbox hb; have n0_ := bb BK188 hb; have n1_ := bs HB hb; have n2_ := Aside0.mk (hbox); have n3_ := bz HB hg; have n4_ := bz HB hg; have n5_ := bl BK188 hg; have n6_ := bg BK188 hg; clear BK188; clear HB; have BK188 := n0_; have HB := n1_; have BK189 := n2_; have GW189 := n3_; have GE189 := n4_; have NB188_189 := n5_; have NB189_188 := n6_; clear n0_ n1_ n2_ n3_ n4_ n5_ n6_; clear hb hbox hg) | ((with_reducible refine gate_callee (f := 8) rfl ?_); refine goesL_ (some 11) rfl rfl Try.func8 (by kernel_rfl) rfl #[] rfl (by (try simp only [List.map_toArray, List.map_cons, List.map_nil]); first | done | rfl | (simp only [List.length_drop, List.length_take]; rfl)) ?_; (with_reducible refine (fuseelaw11_awake.calls  false _ A4.out).mono ?_); rintro e w182 ⟨rfl, hb⟩; refine ⟨_, rfl, ?_⟩; have n0_ := bb BK188 hb; have n1_ := bb BK189 hb; have n2_ := bs HB hb; clear BK188; clear BK189; clear HB; have BK188 := n0_; have BK189 := n1_; have HB := n2_; clear n0_ n1_ n2_; (try clear hb); (try clear hb2); (try clear hk); (try clear hi)))
    go_ret
    exact ⟨by first | rfl | (simp [errW_none, errW_some] <;> rfl) | (simp [*, errW_none, errW_some] <;> rfl) | (exfalso; contradiction), by repeat (first | (with_reducible first | exact HB.out | apply below_alloc | apply pw_below_drewN | apply below_drew1 | refine below_set ?_ GE188.out | refine below_set ?_ GE189.out) | exact HB.out)⟩

end Go.Proofs.Ytojjffafofjfiaa.P
