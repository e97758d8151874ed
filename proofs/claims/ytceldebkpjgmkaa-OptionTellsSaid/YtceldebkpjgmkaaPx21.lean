-- Written by a program of this session (hprint.py), out of the translation; functions that the print does not take are given by hand.
import Derived.Test.YtceldebkpjgmkaaPx0
import Derived.Test.YtceldebkpjgmkaaPx1
import Derived.Test.YtceldebkpjgmkaaPx3
import Derived.Test.YtceldebkpjgmkaaPx4
import Derived.Test.YtceldebkpjgmkaaPx5
import Derived.Test.YtceldebkpjgmkaaPx6
import Derived.Test.YtceldebkpjgmkaaPx16
import Derived.Test.YtceldebkpjgmkaaPx18
import Derived.Test.YtceldebkpjgmkaaPx19
import Derived.Test.YtceldebkpjgmkaaPx20
namespace Go.Proofs.Ytceldebkpjgmkaa.P
open Go.RowKit Go.Proofs.YtceldebkpjgmkaaM Go.Proofs.YtceldebkpjgmkaaW.PrintWords Go.Proofs.YtceldebkpjgmkaaW.PrintLast Go.Proofs.YtceldebkpjgmkaaW.PrintMore
attribute [local go_sem] max2_int min2_int max_two min_two max_three min_three max_four min_four   -- for this text's walks alone
set_option linter.unusedVariables false
set_option linter.unusedSimpArgs false

attribute [local go_sem high] eqA23
/-! ### fuseelaw14_OptionTells: function 5 -/
def fuseelaw14_OptionTells.f (k : Nat) (l0 : List (S23)) (a1_0 : Int) (a1_1 : Int) (a1_2 : Int) (a2_0 : Int) (a2_1 : Int) (a2_2 : Int) (a3 : Int) (a4_0 : Int) (a4_1 : Int) (a4_2 : Int) (a4_3 : Int) (a4_4 : Int) (a4_5 : Int) (a5_0 : Bool) (a5_1 : Int) (a5_2 : Int) (a5_3 : Int) (a5_4 : Bool) (a5_5 : Int) (a5_6 : Int) (a5_7 : Int) (a6_0 : Int) (a6_1 : Int) : Option (Bool) := (fuseelaw14_awake.f k).bind fun t270 => (if t270 = true then (if (l0.length : Int) > 100 then (some t270) else (if a5_5 > 1099511627776 then (some t270) else (if a5_5 < (-1099511627776) then (some t270) else (if a5_6 > 1099511627776 then (some t270) else (if a5_6 < (-1099511627776) then (some t270) else (if a5_7 > 1099511627776 then (some t270) else (if a5_7 < (-1099511627776) then (some t270) else (if a4_4 > 1000 then (some t270) else ((option_Of.f k a3 a4_0 a4_1 a4_2 a4_3 a4_4 a4_5 a5_0 a5_1 a5_2 a5_3 a5_4 a5_5 a5_6 a5_7 a6_0 a6_1).bind fun bt271 => ((fuseeref14_Of.f k a3 a4_0 a4_1 a4_2 a4_3 a4_4 a4_5 a5_0 a5_1 a5_2 a5_3 a5_4 a5_5 a5_6 a5_7 a6_0 a6_1).bind fun bt276 => ((option_Less.f a1_0 a1_1 a1_2 a2_0 a2_1 a2_2).bind fun t281 => ((fuseeref14_Less.f a1_0 a1_1 a1_2 a2_0 a2_1 a2_2).bind fun t282 => (if (t281 == t282) = true then ((option_Sort.f l0).bind fun t283 => ((fuseeref14_Sort.f k l0).bind fun t286 => ((fuseeref14_Same.f k t283 t286).bind fun t289 => (if t289 = true then ((option_First.f k l0).bind fun t290 => ((fuseeref14_First.f k l0).bind fun t291 => (if t290 = t291 then (if (bt271.1 == bt276.1 && (bt271.2.1 == bt276.2.1 && (bt271.2.2.1 == bt276.2.2.1))) = true then (some (bt271.2.2.2 == bt276.2.2.2)) else (none)) else (none)))) else (none))))) else (none)))))))))))))) else (some t270))
theorem fuseelaw14_OptionTells.mono : ∀ a0 a1 a2 a3 a4 a5 a6 a7 a8 a9 a10 a11 a12 a13 a14 a15 a16 a17 a18 a19 a20 a21 a22 a23 k, LeO (fuseelaw14_OptionTells.f k a0 a1 a2 a3 a4 a5 a6 a7 a8 a9 a10 a11 a12 a13 a14 a15 a16 a17 a18 a19 a20 a21 a22 a23) (fuseelaw14_OptionTells.f (k + 1) a0 a1 a2 a3 a4 a5 a6 a7 a8 a9 a10 a11 a12 a13 a14 a15 a16 a17 a18 a19 a20 a21 a22 a23) := by
  intro a0 a1 a2 a3 a4 a5 a6 a7 a8 a9 a10 a11 a12 a13 a14 a15 a16 a17 a18 a19 a20 a21 a22 a23 k
  unfold fuseelaw14_OptionTells.f
  repeat' first
      | (with_reducible exact fuseelaw14_awake.mono _)
      | (with_reducible exact fuseeref14_First.mono _ _)
      | (with_reducible exact fuseeref14_Of.mono _ _ _ _ _ _ _ _ _ _ _ _ _ _ _ _ _ _)
      | (with_reducible exact fuseeref14_Same.mono _ _ _)
      | (with_reducible exact fuseeref14_Sort.mono _ _)
      | (with_reducible exact option_First.mono _ _)
      | (with_reducible exact option_Of.mono _ _ _ _ _ _ _ _ _ _ _ _ _ _ _ _ _ _)
      | (with_reducible exact LeO.refl _)
      | (with_reducible exact LeO.none _)
      | (with_reducible refine LeO.ite ?_ ?_)
      | (with_reducible refine LeO.bind ?_ (fun _ => ?_))
      | exact fuseelaw14_awake.mono _
      | exact fuseeref14_First.mono _ _
      | exact fuseeref14_Of.mono _ _ _ _ _ _ _ _ _ _ _ _ _ _ _ _ _ _
      | exact fuseeref14_Same.mono _ _ _
      | exact fuseeref14_Sort.mono _ _
      | exact option_First.mono _ _
      | exact option_Of.mono _ _ _ _ _ _ _ _ _ _ _ _ _ _ _ _ _ _
      | exact LeO.none _
      | refine LeO.ite ?_ ?_
      | refine LeO.bind ?_ (fun _ => ?_)
def fuseelaw14_OptionTells.T6 : Bool × List (List Nat × List Nat) := (true, [([], []), ([], []), ([0, 1], [0, 1]), ([], []), ([], []), ([3, 4, 2], [3, 4]), ([2, 5], [2, 5]), ([6, 5], [6]), ([7], [7]), ([8, 7, 7], [7, 8]), ([7], [7]), ([10, 9, 7], [7, 10]), ([9, 11, 11, 7], [7, 9, 11]), ([7, 12], [7, 12]), ([13, 12], [13]), ([14], [14]), ([15, 14, 14], [14, 15]), ([14], [14]), ([17, 16, 14], [14, 17]), ([16, 18, 14], [14, 16, 18]), ([14, 19], [14, 19]), ([20, 18], [20]), ([21], [21]), ([21], [21]), ([22, 23, 21], [21, 22, 23]), ([21, 24], [21, 24]), ([25, 21], [25]), ([26], [26]), ([26], [26]), ([27, 28, 26], [26, 27, 28]), ([26, 29], [26, 29]), ([30, 26, 0, 1, 2, 3, 4, 5, 6, 7, 8, 9, 10, 11, 12, 13, 14, 15, 16, 17, 18, 19, 20, 21, 22, 23, 24, 25, 26, 27, 28, 29, 30], [30])])
def fuseelaw14_OptionTells.B6 : List Nat := [0, 0, 3, 0, 0, 31, 63, 127, 255, 511, 255, 2047, 4095, 8191, 16383, 32767, 65535, 32767, 262143, 524287, 1048575, 2097151, 4194303, 4194303, 16777215, 33554431, 67108863, 134217727, 134217727, 536870911, 1073741823, 2147483647]
theorem fuseelaw14_OptionTells.tab6 : rtab .any (opsOf Try.f5 6) = fuseelaw14_OptionTells.T6 := by kernel_rfl
theorem fuseelaw14_OptionTells.bits6 : waitsOk fuseelaw14_OptionTells.T6.2 fuseelaw14_OptionTells.B6 = true := by kernel_rfl
set_option maxHeartbeats 64000000 in
set_option maxRecDepth 100000 in
theorem fuseelaw14_OptionTells.calls (k : Nat) (A0 : Option Addr) (c0 : Nat) (l0 : List (S23)) (a1_0 : Int) (a1_1 : Int) (a1_2 : Int) (a2_0 : Int) (a2_1 : Int) (a2_2 : Int) (a3 : Int) (a4_0 : Int) (a4_1 : Int) (a4_2 : Int) (a4_3 : Int) (a4_4 : Int) (a4_5 : Int) (a5_0 : Bool) (a5_1 : Int) (a5_2 : Int) (a5_3 : Int) (a5_4 : Bool) (a5_5 : Int) (a5_6 : Int) (a5_7 : Int) (a6_0 : Int) (a6_1 : Int) (r : Bool) (w : World) (hr0 : Kd.C k23 w A0 l0.length l0) (hc0 : l0.length ≤ c0) (h : fuseelaw14_OptionTells.f k l0 a1_0 a1_1 a1_2 a2_0 a2_1 a2_2 a3 a4_0 a4_1 a4_2 a4_3 a4_4 a4_5 a5_0 a5_1 a5_2 a5_3 a5_4 a5_5 a5_6 a5_7 a6_0 a6_1 = some r) :
    Calls Try.prog 5 #[.slice A0 l0.length c0, .agg #[.int .i64 a1_0, .int .i64 a1_1, .int .i64 a1_2], .agg #[.int .i64 a2_0, .int .i64 a2_1, .int .i64 a2_2], .int .i64 a3, .agg #[.int .i64 a4_0, .int .i64 a4_1, .int .i64 a4_2, .int .i64 a4_3, .int .i64 a4_4, .int .i64 a4_5], .agg #[.bool a5_0, .int .i64 a5_1, .int .i64 a5_2, .int .i64 a5_3, .bool a5_4, .int .i64 a5_5, .int .i64 a5_6, .int .i64 a5_7], .agg #[.int .i64 a6_0, .int .u64 a6_1]] w fun e w' => e = .returned (.bool r) ∧ Below w.heap.size w w' := by
  have hu23 := Try.underlying23
  have hu28 := Try.underlying28
  have hu30 := Try.underlying30
  have hu33 := Try.underlying33
  have HR0 := Aside0.mk hr0
  have HC0 := Aside0.mk hc0
  clear hr0 hc0
  have HB := Aside0.mk (Below.refl w.heap.size w)
  have H : ((fuseelaw14_awake.f k).bind fun t270 => (if t270 = true then (if (l0.length : Int) > 100 then (some t270) else (if a5_5 > 1099511627776 then (some t270) else (if a5_5 < (-1099511627776) then (some t270) else (if a5_6 > 1099511627776 then (some t270) else (if a5_6 < (-1099511627776) then (some t270) else (if a5_7 > 1099511627776 then (some t270) else (if a5_7 < (-1099511627776) then (some t270) else (if a4_4 > 1000 then (some t270) else ((option_Of.f k a3 a4_0 a4_1 a4_2 a4_3 a4_4 a4_5 a5_0 a5_1 a5_2 a5_3 a5_4 a5_5 a5_6 a5_7 a6_0 a6_1).bind fun bt271 => ((fuseeref14_Of.f k a3 a4_0 a4_1 a4_2 a4_3 a4_4 a4_5 a5_0 a5_1 a5_2 a5_3 a5_4 a5_5 a5_6 a5_7 a6_0 a6_1).bind fun bt276 => ((option_Less.f a1_0 a1_1 a1_2 a2_0 a2_1 a2_2).bind fun t281 => ((fuseeref14_Less.f a1_0 a1_1 a1_2 a2_0 a2_1 a2_2).bind fun t282 => (if (t281 == t282) = true then ((option_Sort.f l0).bind fun t283 => ((fuseeref14_Sort.f k l0).bind fun t286 => ((fuseeref14_Same.f k t283 t286).bind fun t289 => (if t289 = true then ((option_First.f k l0).bind fun t290 => ((fuseeref14_First.f k l0).bind fun t291 => (if t290 = t291 then (if (bt271.1 == bt276.1 && (bt271.2.1 == bt276.2.1 && (bt271.2.2.1 == bt276.2.2.1))) = true then (some (bt271.2.2.2 == bt276.2.2.2)) else (none)) else (none)))) else (none))))) else (none)))))))))))))) else (some t270))) = some r := h
  clear h
  replace H := Option.bind_eq_some_iff.mp H
  obtain ⟨t270, A80, H⟩ := H
  try dsimp only at H
  have A8 := Aside0.mk A80
  clear A80
  by_cases c9 : t270 = true
  · subst c9
    rw [if_pos rfl] at H
    by_cases c10 : (l0.length : Int) > 100
    · rw [if_pos c10] at H
      have c10b0 : decide (100 < (l0.length : Int)) = true := decide_eq_true c10
      have c10b1 : decide (100 < l0.length) = true := decide_eq_true (by omega)
      clear c10
      obtain rfl := Option.some.inj H
      go_enter Try.func5, Try.ntmps5
      go_wp2_with (first | ((with_reducible refine gate_dst (N := 8) rfl ?_); (try (refine gate_guard (by rfl) ?_; dsimp only)); refine box_event ?hg (N := 8) ?hd (cs := #[.int .i64 a1_0, .int .i64 a1_1, .int .i64 a1_2]) (t := 23) ?hr ?_; (case hd => rfl); (case hg => rfl); (case hr => first | (go_simp; done) | (go_simp; rfl)); intro gb265 hg w11 hbox hb; have n0_ := bs HB hb; have n1_ := Aside0.mk (hbox); have n2_ := bz HB hg; have n3_ := bz HB hg; clear HB; have HB := n0_; have BK265 := n1_; have GW265 := n2_; have GE265 := n3_; clear n0_ n1_ n2_ n3_; clear hb hbox hg) | ((with_reducible refine gate_dst (N := 9) rfl ?_); (try (refine gate_guard (by rfl) ?_; dsimp only)); refine box_event ?hg (N := 9) ?hd (cs := #[.int .i64 a2_0, .int .i64 a2_1, .int .i64 a2_2]) (t := 23) ?hr ?_; (case hd => rfl); (case hg => rfl); (case hr => first | (go_simp; done) | (go_simp; rfl)); intro gb266 hg w12 hbox hb; have n0_ := bb BK265 hb; have n1_ := bs HB hb; have n2_ := Aside0.mk (hbox); have n3_ := bz HB hg; have n4_ := bz HB hg; have n5_ := bl BK265 hg; have n6_ := bg BK265 hg; clear BK265; clear HB; have BK265 := n0_; have HB := n1_; have BK266 := n2_; have GW266 := n3_; have GE266 := n4_; have NB265_266 := n5_; have NB266_265 := n6_; clear n0_ n1_ n2_ n3_ n4_ n5_ n6_; clear hb hbox hg) | ((with_reducible refine gate_dst (N := 11) rfl ?_); (try (refine gate_guard (by rfl) ?_; dsimp only)); refine box_event ?hg (N := 11) ?hd (cs := #[.int .i64 a4_0, .int .i64 a4_1, .int .i64 a4_2, .int .i64 a4_3, .int .i64 a4_4, .int .i64 a4_5]) (t := 28) ?hr ?_; (case hd => rfl); (case hg => rfl); (case hr => first | (go_simp; done) | (go_simp; rfl)); intro gb267 hg w13 hbox hb; have n0_ := bb BK265 hb; have n1_ := bb BK266 hb; have n2_ := bs HB hb; have n3_ := Aside0.mk (hbox); have n4_ := bz HB hg; have n5_ := bz HB hg; have n6_ := bl BK265 hg; have n7_ := bg BK265 hg; have n8_ := bl BK266 hg; have n9_ := bg BK266 hg; clear BK265; clear BK266; clear HB; have BK265 := n0_; have BK266 := n1_; have HB := n2_; have BK267 := n3_; have GW267 := n4_; have GE267 := n5_; have NB265_267 := n6_; have NB267_265 := n7_; have NB266_267 := n8_; have NB267_266 := n9_; clear n0_ n1_ n2_ n3_ n4_ n5_ n6_ n7_ n8_ n9_; clear hb hbox hg) | ((with_reducible refine gate_dst (N := 12) rfl ?_); (try (refine gate_guard (by rfl) ?_; dsimp only)); refine box_event ?hg (N := 12) ?hd (cs := #[.bool a5_0, .int .i64 a5_1, .int .i64 a5_2, .int .i64 a5_3, .bool a5_4, .int .i64 a5_5, .int .i64 a5_6, .int .i64 a5_7]) (t := 30) ?hr ?_; (case hd => rfl); (case hg => rfl); (case hr => first | (go_simp; done) | (go_simp; rfl)); intro gb268 hg w14 hbox hb; have n0_ := bb BK265 hb; have n1_ := bb BK266 hb; have n2_ := bb BK267 hb; have n3_ := bs HB hb; have n4_ := Aside0.mk (hbox); have n5_ := bz HB hg; have n6_ := bz HB hg; have n7_ := bl BK265 hg; have n8_ := bg BK265 hg; have n9_ := bl BK266 hg; have n10_ := bg BK266 hg; have n11_ := bl BK267 hg; have n12_ := bg BK267 hg; clear BK265; clear BK266; clear BK267; clear HB; have BK265 := n0_; have BK266 := n1_; have BK267 := n2_; have HB := n3_; have BK268 := n4_; have GW268 := n5_; have GE268 := n6_; have NB265_268 := n7_; have NB268_265 := n8_; have NB266_268 := n9_; have NB268_266 := n10_; have NB267_268 := n11_; have NB268_267 := n12_; clear n0_ n1_ n2_ n3_ n4_ n5_ n6_ n7_ n8_ n9_ n10_ n11_ n12_; clear hb hbox hg) | ((with_reducible refine gate_dst (N := 13) rfl ?_); (try (refine gate_guard (by rfl) ?_; dsimp only)); refine box_event ?hg (N := 13) ?hd (cs := #[.int .i64 a6_0, .int .u64 a6_1]) (t := 33) ?hr ?_; (case hd => rfl); (case hg => rfl); (case hr => first | (go_simp; done) | (go_simp; rfl)); intro gb269 hg w15 hbox hb; have n0_ := bb BK265 hb; have n1_ := bb BK266 hb; have n2_ := bb BK267 hb; have n3_ := bb BK268 hb; have n4_ := bs HB hb; have n5_ := Aside0.mk (hbox); have n6_ := bz HB hg; have n7_ := bz HB hg; have n8_ := bl BK265 hg; have n9_ := bg BK265 hg; have n10_ := bl BK266 hg; have n11_ := bg BK266 hg; have n12_ := bl BK267 hg; have n13_ := bg BK267 hg; have n14_ := bl BK268 hg; have n15_ := bg BK268 hg; clear BK265; clear BK266; clear BK267; clear BK268; clear HB; have BK265 := n0_; have BK266 := n1_; have BK267 := n2_; have BK268 := n3_; have HB := n4_; have BK269 := n5_; have GW269 := n6_; have GE269 := n7_; have NB265_269 := n8_; have NB269_265 := n9_; have NB266_269 := n10_; have NB269_266 := n11_; have NB267_269 := n12_; have NB269_267 := n13_; have NB268_269 := n14_; have NB269_268 := n15_; clear n0_ n1_ n2_ n3_ n4_ n5_ n6_ n7_ n8_ n9_ n10_ n11_ n12_ n13_ n14_ n15_; clear hb hbox hg) | ((with_reducible refine gate_callee (f := 8) rfl ?_); refine goesL_ (some 20) rfl rfl Try.func8 (by kernel_rfl) rfl #[] rfl (by (try simp only [List.map_toArray, List.map_cons, List.map_nil]); first | done | rfl | (simp only [List.length_drop, List.length_take]; rfl)) ?_; (with_reducible refine (fuseelaw14_awake.calls k  true _ A8.out).mono ?_); rintro e w16 ⟨rfl, hb⟩; refine ⟨_, rfl, ?_⟩; have n0_ := bb BK265 hb; have n1_ := bb BK266 hb; have n2_ := bb BK267 hb; have n3_ := bb BK268 hb; have n4_ := bb BK269 hb; have n5_ := bs HB hb; clear BK265; clear BK266; clear BK267; clear BK268; clear BK269; clear HB; have BK265 := n0_; have BK266 := n1_; have BK267 := n2_; have BK268 := n3_; have BK269 := n4_; have HB := n5_; clear n0_ n1_ n2_ n3_ n4_ n5_; (try clear hb); (try clear hb2); (try clear hk); (try clear hi)))
      go_ret
      exact ⟨by first | rfl | (simp [errW_none, errW_some] <;> rfl) | (simp [*, errW_none, errW_some] <;> rfl) | (exfalso; contradiction), by repeat (first | (with_reducible first | exact HB.out | apply below_alloc | apply pw_below_drewN | apply below_drew1 | refine below_set ?_ GE265.out | refine below_set ?_ GE266.out | refine below_set ?_ GE267.out | refine below_set ?_ GE268.out | refine below_set ?_ GE269.out) | exact HB.out)⟩
    · rw [if_neg c10] at H
      have c10b0 : decide (100 < (l0.length : Int)) = false := decide_eq_false c10
      have c10b1 : decide (100 < l0.length) = false := decide_eq_false (by omega)
      clear c10
      by_cases c17 : a5_5 > 1099511627776
      · rw [if_pos c17] at H
        have c17b0 : decide (1099511627776 < a5_5) = true := decide_eq_true c17
        clear c17
        obtain rfl := Option.some.inj H
        go_enter Try.func5, Try.ntmps5
        go_wp2_with (first | ((with_reducible refine gate_dst (N := 8) rfl ?_); (try (refine gate_guard (by rfl) ?_; dsimp only)); refine box_event ?hg (N := 8) ?hd (cs := #[.int .i64 a1_0, .int .i64 a1_1, .int .i64 a1_2]) (t := 23) ?hr ?_; (case hd => rfl); (case hg => rfl); (case hr => first | (go_simp; done) | (go_simp; rfl)); intro gb265 hg w18 hbox hb; have n0_ := bs HB hb; have n1_ := Aside0.mk (hbox); have n2_ := bz HB hg; have n3_ := bz HB hg; clear HB; have HB := n0_; have BK265 := n1_; have GW265 := n2_; have GE265 := n3_; clear n0_ n1_ n2_ n3_; clear hb hbox hg) | ((with_reducible refine gate_dst (N := 9) rfl ?_); (try (refine gate_guard (by rfl) ?_; dsimp only)); refine box_event ?hg (N := 9) ?hd (cs := #[.int .i64 a2_0, .int .i64 a2_1, .int .i64 a2_2]) (t := 23) ?hr ?_; (case hd => rfl); (case hg => rfl); (case hr => first | (go_simp; done) | (go_simp; rfl)); intro gb266 hg w19 hbox hb; have n0_ := bb BK265 hb; have n1_ := bs HB hb; have n2_ := Aside0.mk (hbox); have n3_ := bz HB hg; have n4_ := bz HB hg; have n5_ := bl BK265 hg; have n6_ := bg BK265 hg; clear BK265; clear HB; have BK265 := n0_; have HB := n1_; have BK266 := n2_; have GW266 := n3_; have GE266 := n4_; have NB265_266 := n5_; have NB266_265 := n6_; clear n0_ n1_ n2_ n3_ n4_ n5_ n6_; clear hb hbox hg) | ((with_reducible refine gate_dst (N := 11) rfl ?_); (try (refine gate_guard (by rfl) ?_; dsimp only)); refine box_event ?hg (N := 11) ?hd (cs := #[.int .i64 a4_0, .int .i64 a4_1, .int .i64 a4_2, .int .i64 a4_3, .int .i64 a4_4, .int .i64 a4_5]) (t := 28) ?hr ?_; (case hd => rfl); (case hg => rfl); (case hr => first | (go_simp; done) | (go_simp; rfl)); intro gb267 hg w20 hbox hb; have n0_ := bb BK265 hb; have n1_ := bb BK266 hb; have n2_ := bs HB hb; have n3_ := Aside0.mk (hbox); have n4_ := bz HB hg; have n5_ := bz HB hg; have n6_ := bl BK265 hg; have n7_ := bg BK265 hg; have n8_ := bl BK266 hg; have n9_ := bg BK266 hg; clear BK265; clear BK266; clear HB; have BK265 := n0_; have BK266 := n1_; have HB := n2_; have BK267 := n3_; have GW267 := n4_; have GE267 := n5_; have NB265_267 := n6_; have NB267_265 := n7_; have NB266_267 := n8_; have NB267_266 := n9_; clear n0_ n1_ n2_ n3_ n4_ n5_ n6_ n7_ n8_ n9_; clear hb hbox hg) | ((with_reducible refine gate_dst (N := 12) rfl ?_); (try (refine gate_guard (by rfl) ?_; dsimp only)); refine box_event ?hg (N := 12) ?hd (cs := #[.bool a5_0, .int .i64 a5_1, .int .i64 a5_2, .int .i64 a5_3, .bool a5_4, .int .i64 a5_5, .int .i64 a5_6, .int .i64 a5_7]) (t := 30) ?hr ?_; (case hd => rfl); (case hg => rfl); (case hr => first | (go_simp; done) | (go_simp; rfl)); intro gb268 hg w21 hbox hb; have n0_ := bb BK265 hb; have n1_ := bb BK266 hb; have n2_ := bb BK267 hb; have n3_ := bs HB hb; have n4_ := Aside0.mk (hbox); have n5_ := bz HB hg; have n6_ := bz HB hg; have n7_ := bl BK265 hg; have n8_ := bg BK265 hg; have n9_ := bl BK266 hg; have n10_ := bg BK266 hg; have n11_ := bl BK267 hg; have n12_ := bg BK267 hg; clear BK265; clear BK266; clear BK267; clear HB; have BK265 := n0_; have BK266 := n1_; have BK267 := n2_; have HB := n3_; have BK268 := n4_; have GW268 := n5_; have GE268 := n6_; have NB265_268 := n7_; have NB268_265 := n8_; have NB266_268 := n9_; have NB268_266 := n10_; have NB267_268 := n11_; have NB268_267 := n12_; clear n0_ n1_ n2_ n3_ n4_ n5_ n6_ n7_ n8_ n9_ n10_ n11_ n12_; clear hb hbox hg) | ((with_reducible refine gate_dst (N := 13) rfl ?_); (try (refine gate_guard (by rfl) ?_; dsimp only)); refine box_event ?hg (N := 13) ?hd (cs := #[.int .i64 a6_0, .int .u64 a6_1]) (t := 33) ?hr ?_; (case hd => rfl); (case hg => rfl); (case hr => first | (go_simp; done) | (go_simp; rfl)); intro gb269 hg w22 hbox hb; have n0_ := bb BK265 hb; have n1_ := bb BK266 hb; have n2_ := bb BK267 hb; have n3_ := bb BK268 hb; have n4_ := bs HB hb; have n5_ := Aside0.mk (hbox); have n6_ := bz HB hg; have n7_ := bz HB hg; have n8_ := bl BK265 hg; have n9_ := bg BK265 hg; have n10_ := bl BK266 hg; have n11_ := bg BK266 hg; have n12_ := bl BK267 hg; have n13_ := bg BK267 hg; have n14_ := bl BK268 hg; have n15_ := bg BK268 hg; clear BK265; clear BK266; clear BK267; clear BK268; clear HB; have BK265 := n0_; have BK266 := n1_; have BK267 := n2_; have BK268 := n3_; have HB := n4_; have BK269 := n5_; have GW269 := n6_; have GE269 := n7_; have NB265_269 := n8_; have NB269_265 := n9_; have NB266_269 := n10_; have NB269_266 := n11_; have NB267_269 := n12_; have NB269_267 := n13_; have NB268_269 := n14_; have NB269_268 := n15_; clear n0_ n1_ n2_ n3_ n4_ n5_ n6_ n7_ n8_ n9_ n10_ n11_ n12_ n13_ n14_ n15_; clear hb hbox hg) | ((with_reducible refine gate_callee (f := 8) rfl ?_); refine goesL_ (some 20) rfl rfl Try.func8 (by kernel_rfl) rfl #[] rfl (by (try simp only [List.map_toArray, List.map_cons, List.map_nil]); first | done | rfl | (simp only [List.length_drop, List.length_take]; rfl)) ?_; (with_reducible refine (fuseelaw14_awake.calls k  true _ A8.out).mono ?_); rintro e w23 ⟨rfl, hb⟩; refine ⟨_, rfl, ?_⟩; have n0_ := bb BK265 hb; have n1_ := bb BK266 hb; have n2_ := bb BK267 hb; have n3_ := bb BK268 hb; have n4_ := bb BK269 hb; have n5_ := bs HB hb; clear BK265; clear BK266; clear BK267; clear BK268; clear BK269; clear HB; have BK265 := n0_; have BK266 := n1_; have BK267 := n2_; have BK268 := n3_; have BK269 := n4_; have HB := n5_; clear n0_ n1_ n2_ n3_ n4_ n5_; (try clear hb); (try clear hb2); (try clear hk); (try clear hi); have hnb24 := NB268_265.out; have hnc24 := NB265_268.out; have hnb25 := NB268_266.out; have hnc25 := NB266_268.out; have hnb26 := NB268_267.out; have hnc26 := NB267_268.out; have hnb27 := NB268_269.out; have hnc27 := NB269_268.out; obtain ⟨hcz28_0, hcz28_1, hcz28_2, hcz28_3, hcz28_4, hcz28_5, hcz28_6, hcz28_7⟩ := cc8 BK268; obtain ⟨hfz28_0, hfz28_1, hfz28_2, hfz28_3, hfz28_4, hfz28_5, hfz28_6, hfz28_7⟩ := cf8 BK268))
        go_ret
        exact ⟨by first | rfl | (simp [errW_none, errW_some] <;> rfl) | (simp [*, errW_none, errW_some] <;> rfl) | (exfalso; contradiction), by repeat (first | (with_reducible first | exact HB.out | apply below_alloc | apply pw_below_drewN | apply below_drew1 | refine below_set ?_ GE265.out | refine below_set ?_ GE266.out | refine below_set ?_ GE267.out | refine below_set ?_ GE268.out | refine below_set ?_ GE269.out) | exact HB.out)⟩
      · rw [if_neg c17] at H
        have c17b0 : decide (1099511627776 < a5_5) = false := decide_eq_false c17
        clear c17
        by_cases c29 : a5_5 < (-1099511627776)
        · rw [if_pos c29] at H
          have c29b0 : decide (a5_5 < (-1099511627776)) = true := decide_eq_true c29
          clear c29
          obtain rfl := Option.some.inj H
          go_enter Try.func5, Try.ntmps5
          go_wp2_with (first | ((with_reducible refine gate_dst (N := 8) rfl ?_); (try (refine gate_guard (by rfl) ?_; dsimp only)); refine box_event ?hg (N := 8) ?hd (cs := #[.int .i64 a1_0, .int .i64 a1_1, .int .i64 a1_2]) (t := 23) ?hr ?_; (case hd => rfl); (case hg => rfl); (case hr => first | (go_simp; done) | (go_simp; rfl)); intro gb265 hg w30 hbox hb; have n0_ := bs HB hb; have n1_ := Aside0.mk (hbox); have n2_ := bz HB hg; have n3_ := bz HB hg; clear HB; have HB := n0_; have BK265 := n1_; have GW265 := n2_; have GE265 := n3_; clear n0_ n1_ n2_ n3_; clear hb hbox hg) | ((with_reducible refine gate_dst (N := 9) rfl ?_); (try (refine gate_guard (by rfl) ?_; dsimp only)); refine box_event ?hg (N := 9) ?hd (cs := #[.int .i64 a2_0, .int .i64 a2_1, .int .i64 a2_2]) (t := 23) ?hr ?_; (case hd => rfl); (case hg => rfl); (case hr => first | (go_simp; done) | (go_simp; rfl)); intro gb266 hg w31 hbox hb; have n0_ := bb BK265 hb; have n1_ := bs HB hb; have n2_ := Aside0.mk (hbox); have n3_ := bz HB hg; have n4_ := bz HB hg; have n5_ := bl BK265 hg; have n6_ := bg BK265 hg; clear BK265; clear HB; have BK265 := n0_; have HB := n1_; have BK266 := n2_; have GW266 := n3_; have GE266 := n4_; have NB265_266 := n5_; have NB266_265 := n6_; clear n0_ n1_ n2_ n3_ n4_ n5_ n6_; clear hb hbox hg) | ((with_reducible refine gate_dst (N := 11) rfl ?_); (try (refine gate_guard (by rfl) ?_; dsimp only)); refine box_event ?hg (N := 11) ?hd (cs := #[.int .i64 a4_0, .int .i64 a4_1, .int .i64 a4_2, .int .i64 a4_3, .int .i64 a4_4, .int .i64 a4_5]) (t := 28) ?hr ?_; (case hd => rfl); (case hg => rfl); (case hr => first | (go_simp; done) | (go_simp; rfl)); intro gb267 hg w32 hbox hb; have n0_ := bb BK265 hb; have n1_ := bb BK266 hb; have n2_ := bs HB hb; have n3_ := Aside0.mk (hbox); have n4_ := bz HB hg; have n5_ := bz HB hg; have n6_ := bl BK265 hg; have n7_ := bg BK265 hg; have n8_ := bl BK266 hg; have n9_ := bg BK266 hg; clear BK265; clear BK266; clear HB; have BK265 := n0_; have BK266 := n1_; have HB := n2_; have BK267 := n3_; have GW267 := n4_; have GE267 := n5_; have NB265_267 := n6_; have NB267_265 := n7_; have NB266_267 := n8_; have NB267_266 := n9_; clear n0_ n1_ n2_ n3_ n4_ n5_ n6_ n7_ n8_ n9_; clear hb hbox hg) | ((with_reducible refine gate_dst (N := 12) rfl ?_); (try (refine gate_guard (by rfl) ?_; dsimp only)); refine box_event ?hg (N := 12) ?hd (cs := #[.bool a5_0, .int .i64 a5_1, .int .i64 a5_2, .int .i64 a5_3, .bool a5_4, .int .i64 a5_5, .int .i64 a5_6, .int .i64 a5_7]) (t := 30) ?hr ?_; (case hd => rfl); (case hg => rfl); (case hr => first | (go_simp; done) | (go_simp; rfl)); intro gb268 hg w33 hbox hb; have n0_ := bb BK265 hb; have n1_ := bb BK266 hb; have n2_ := bb BK267 hb; have n3_ := bs HB hb; have n4_ := Aside0.mk (hbox); have n5_ := bz HB hg; have n6_ := bz HB hg; have n7_ := bl BK265 hg; have n8_ := bg BK265 hg; have n9_ := bl BK266 hg; have n10_ := bg BK266 hg; have n11_ := bl BK267 hg; have n12_ := bg BK267 hg; clear BK265; clear BK266; clear BK267; clear HB; have BK265 := n0_; have BK266 := n1_; have BK267 := n2_; have HB := n3_; have BK268 := n4_; have GW268 := n5_; have GE268 := n6_; have NB265_268 := n7_; have NB268_265 := n8_; have NB266_268 := n9_; have NB268_266 := n10_; have NB267_268 := n11_; have NB268_267 := n12_; clear n0_ n1_ n2_ n3_ n4_ n5_ n6_ n7_ n8_ n9_ n10_ n11_ n12_; clear hb hbox hg) | ((with_reducible refine gate_dst (N := 13) rfl ?_); (try (refine gate_guard (by rfl) ?_; dsimp only)); refine box_event ?hg (N := 13) ?hd (cs := #[.int .i64 a6_0, .int .u64 a6_1]) (t := 33) ?hr ?_; (case hd => rfl); (case hg => rfl); (case hr => first | (go_simp; done) | (go_simp; rfl)); intro gb269 hg w34 hbox hb; have n0_ := bb BK265 hb; have n1_ := bb BK266 hb; have n2_ := bb BK267 hb; have n3_ := bb BK268 hb; have n4_ := bs HB hb; have n5_ := Aside0.mk (hbox); have n6_ := bz HB hg; have n7_ := bz HB hg; have n8_ := bl BK265 hg; have n9_ := bg BK265 hg; have n10_ := bl BK266 hg; have n11_ := bg BK266 hg; have n12_ := bl BK267 hg; have n13_ := bg BK267 hg; have n14_ := bl BK268 hg; have n15_ := bg BK268 hg; clear BK265; clear BK266; clear BK267; clear BK268; clear HB; have BK265 := n0_; have BK266 := n1_; have BK267 := n2_; have BK268 := n3_; have HB := n4_; have BK269 := n5_; have GW269 := n6_; have GE269 := n7_; have NB265_269 := n8_; have NB269_265 := n9_; have NB266_269 := n10_; have NB269_266 := n11_; have NB267_269 := n12_; have NB269_267 := n13_; have NB268_269 := n14_; have NB269_268 := n15_; clear n0_ n1_ n2_ n3_ n4_ n5_ n6_ n7_ n8_ n9_ n10_ n11_ n12_ n13_ n14_ n15_; clear hb hbox hg) | ((with_reducible refine gate_callee (f := 8) rfl ?_); refine goesL_ (some 20) rfl rfl Try.func8 (by kernel_rfl) rfl #[] rfl (by (try simp only [List.map_toArray, List.map_cons, List.map_nil]); first | done | rfl | (simp only [List.length_drop, List.length_take]; rfl)) ?_; (with_reducible refine (fuseelaw14_awake.calls k  true _ A8.out).mono ?_); rintro e w35 ⟨rfl, hb⟩; refine ⟨_, rfl, ?_⟩; have n0_ := bb BK265 hb; have n1_ := bb BK266 hb; have n2_ := bb BK267 hb; have n3_ := bb BK268 hb; have n4_ := bb BK269 hb; have n5_ := bs HB hb; clear BK265; clear BK266; clear BK267; clear BK268; clear BK269; clear HB; have BK265 := n0_; have BK266 := n1_; have BK267 := n2_; have BK268 := n3_; have BK269 := n4_; have HB := n5_; clear n0_ n1_ n2_ n3_ n4_ n5_; (try clear hb); (try clear hb2); (try clear hk); (try clear hi); have hnb36 := NB268_265.out; have hnc36 := NB265_268.out; have hnb37 := NB268_266.out; have hnc37 := NB266_268.out; have hnb38 := NB268_267.out; have hnc38 := NB267_268.out; have hnb39 := NB268_269.out; have hnc39 := NB269_268.out; obtain ⟨hcz40_0, hcz40_1, hcz40_2, hcz40_3, hcz40_4, hcz40_5, hcz40_6, hcz40_7⟩ := cc8 BK268; obtain ⟨hfz40_0, hfz40_1, hfz40_2, hfz40_3, hfz40_4, hfz40_5, hfz40_6, hfz40_7⟩ := cf8 BK268))
          go_ret
          exact ⟨by first | rfl | (simp [errW_none, errW_some] <;> rfl) | (simp [*, errW_none, errW_some] <;> rfl) | (exfalso; contradiction), by repeat (first | (with_reducible first | exact HB.out | apply below_alloc | apply pw_below_drewN | apply below_drew1 | refine below_set ?_ GE265.out | refine below_set ?_ GE266.out | refine below_set ?_ GE267.out | refine below_set ?_ GE268.out | refine below_set ?_ GE269.out) | exact HB.out)⟩
        · rw [if_neg c29] at H
          have c29b0 : decide (a5_5 < (-1099511627776)) = false := decide_eq_false c29
          clear c29
          by_cases c41 : a5_6 > 1099511627776
          · rw [if_pos c41] at H
            have c41b0 : decide (1099511627776 < a5_6) = true := decide_eq_true c41
            clear c41
            obtain rfl := Option.some.inj H
            go_enter Try.func5, Try.ntmps5
            go_wp2_with (first | ((with_reducible refine gate_dst (N := 8) rfl ?_); (try (refine gate_guard (by rfl) ?_; dsimp only)); refine box_event ?hg (N := 8) ?hd (cs := #[.int .i64 a1_0, .int .i64 a1_1, .int .i64 a1_2]) (t := 23) ?hr ?_; (case hd => rfl); (case hg => rfl); (case hr => first | (go_simp; done) | (go_simp; rfl)); intro gb265 hg w42 hbox hb; have n0_ := bs HB hb; have n1_ := Aside0.mk (hbox); have n2_ := bz HB hg; have n3_ := bz HB hg; clear HB; have HB := n0_; have BK265 := n1_; have GW265 := n2_; have GE265 := n3_; clear n0_ n1_ n2_ n3_; clear hb hbox hg) | ((with_reducible refine gate_dst (N := 9) rfl ?_); (try (refine gate_guard (by rfl) ?_; dsimp only)); refine box_event ?hg (N := 9) ?hd (cs := #[.int .i64 a2_0, .int .i64 a2_1, .int .i64 a2_2]) (t := 23) ?hr ?_; (case hd => rfl); (case hg => rfl); (case hr => first | (go_simp; done) | (go_simp; rfl)); intro gb266 hg w43 hbox hb; have n0_ := bb BK265 hb; have n1_ := bs HB hb; have n2_ := Aside0.mk (hbox); have n3_ := bz HB hg; have n4_ := bz HB hg; have n5_ := bl BK265 hg; have n6_ := bg BK265 hg; clear BK265; clear HB; have BK265 := n0_; have HB := n1_; have BK266 := n2_; have GW266 := n3_; have GE266 := n4_; have NB265_266 := n5_; have NB266_265 := n6_; clear n0_ n1_ n2_ n3_ n4_ n5_ n6_; clear hb hbox hg) | ((with_reducible refine gate_dst (N := 11) rfl ?_); (try (refine gate_guard (by rfl) ?_; dsimp only)); refine box_event ?hg (N := 11) ?hd (cs := #[.int .i64 a4_0, .int .i64 a4_1, .int .i64 a4_2, .int .i64 a4_3, .int .i64 a4_4, .int .i64 a4_5]) (t := 28) ?hr ?_; (case hd => rfl); (case hg => rfl); (case hr => first | (go_simp; done) | (go_simp; rfl)); intro gb267 hg w44 hbox hb; have n0_ := bb BK265 hb; have n1_ := bb BK266 hb; have n2_ := bs HB hb; have n3_ := Aside0.mk (hbox); have n4_ := bz HB hg; have n5_ := bz HB hg; have n6_ := bl BK265 hg; have n7_ := bg BK265 hg; have n8_ := bl BK266 hg; have n9_ := bg BK266 hg; clear BK265; clear BK266; clear HB; have BK265 := n0_; have BK266 := n1_; have HB := n2_; have BK267 := n3_; have GW267 := n4_; have GE267 := n5_; have NB265_267 := n6_; have NB267_265 := n7_; have NB266_267 := n8_; have NB267_266 := n9_; clear n0_ n1_ n2_ n3_ n4_ n5_ n6_ n7_ n8_ n9_; clear hb hbox hg) | ((with_reducible refine gate_dst (N := 12) rfl ?_); (try (refine gate_guard (by rfl) ?_; dsimp only)); refine box_event ?hg (N := 12) ?hd (cs := #[.bool a5_0, .int .i64 a5_1, .int .i64 a5_2, .int .i64 a5_3, .bool a5_4, .int .i64 a5_5, .int .i64 a5_6, .int .i64 a5_7]) (t := 30) ?hr ?_; (case hd => rfl); (case hg => rfl); (case hr => first | (go_simp; done) | (go_simp; rfl)); intro gb268 hg w45 hbox hb; have n0_ := bb BK265 hb; have n1_ := bb BK266 hb; have n2_ := bb BK267 hb; have n3_ := bs HB hb; have n4_ := Aside0.mk (hbox); have n5_ := bz HB hg; have n6_ := bz HB hg; have n7_ := bl BK265 hg; have n8_ := bg BK265 hg; have n9_ := bl BK266 hg; have n10_ := bg BK266 hg; have n11_ := bl BK267 hg; have n12_ := bg BK267 hg; clear BK265; clear BK266; clear BK267; clear HB; have BK265 := n0_; have BK266 := n1_; have BK267 := n2_; have HB := n3_; have BK268 := n4_; have GW268 := n5_; have GE268 := n6_; have NB265_268 := n7_; have NB268_265 := n8_; have NB266_268 := n9_; have NB268_266 := n10_; have NB267_268 := n11_; have NB268_267 := n12_; clear n0_ n1_ n2_ n3_ n4_ n5_ n6_ n7_ n8_ n9_ n10_ n11_ n12_; clear hb hbox hg) | ((with_reducible refine gate_dst (N := 13) rfl ?_); (try (refine gate_guard (by rfl) ?_; dsimp only)); refine box_event ?hg (N := 13) ?hd (cs := #[.int .i64 a6_0, .int .u64 a6_1]) (t := 33) ?hr ?_; (case hd => rfl); (case hg => rfl); (case hr => first | (go_simp; done) | (go_simp; rfl)); intro gb269 hg w46 hbox hb; have n0_ := bb BK265 hb; have n1_ := bb BK266 hb; have n2_ := bb BK267 hb; have n3_ := bb BK268 hb; have n4_ := bs HB hb; have n5_ := Aside0.mk (hbox); have n6_ := bz HB hg; have n7_ := bz HB hg; have n8_ := bl BK265 hg; have n9_ := bg BK265 hg; have n10_ := bl BK266 hg; have n11_ := bg BK266 hg; have n12_ := bl BK267 hg; have n13_ := bg BK267 hg; have n14_ := bl BK268 hg; have n15_ := bg BK268 hg; clear BK265; clear BK266; clear BK267; clear BK268; clear HB; have BK265 := n0_; have BK266 := n1_; have BK267 := n2_; have BK268 := n3_; have HB := n4_; have BK269 := n5_; have GW269 := n6_; have GE269 := n7_; have NB265_269 := n8_; have NB269_265 := n9_; have NB266_269 := n10_; have NB269_266 := n11_; have NB267_269 := n12_; have NB269_267 := n13_; have NB268_269 := n14_; have NB269_268 := n15_; clear n0_ n1_ n2_ n3_ n4_ n5_ n6_ n7_ n8_ n9_ n10_ n11_ n12_ n13_ n14_ n15_; clear hb hbox hg) | ((with_reducible refine gate_callee (f := 8) rfl ?_); refine goesL_ (some 20) rfl rfl Try.func8 (by kernel_rfl) rfl #[] rfl (by (try simp only [List.map_toArray, List.map_cons, List.map_nil]); first | done | rfl | (simp only [List.length_drop, List.length_take]; rfl)) ?_; (with_reducible refine (fuseelaw14_awake.calls k  true _ A8.out).mono ?_); rintro e w47 ⟨rfl, hb⟩; refine ⟨_, rfl, ?_⟩; have n0_ := bb BK265 hb; have n1_ := bb BK266 hb; have n2_ := bb BK267 hb; have n3_ := bb BK268 hb; have n4_ := bb BK269 hb; have n5_ := bs HB hb; clear BK265; clear BK266; clear BK267; clear BK268; clear BK269; clear HB; have BK265 := n0_; have BK266 := n1_; have BK267 := n2_; have BK268 := n3_; have BK269 := n4_; have HB := n5_; clear n0_ n1_ n2_ n3_ n4_ n5_; (try clear hb); (try clear hb2); (try clear hk); (try clear hi); have hnb48 := NB268_265.out; have hnc48 := NB265_268.out; have hnb49 := NB268_266.out; have hnc49 := NB266_268.out; have hnb50 := NB268_267.out; have hnc50 := NB267_268.out; have hnb51 := NB268_269.out; have hnc51 := NB269_268.out; obtain ⟨hcz52_0, hcz52_1, hcz52_2, hcz52_3, hcz52_4, hcz52_5, hcz52_6, hcz52_7⟩ := cc8 BK268; obtain ⟨hfz52_0, hfz52_1, hfz52_2, hfz52_3, hfz52_4, hfz52_5, hfz52_6, hfz52_7⟩ := cf8 BK268))
            go_ret
            exact ⟨by first | rfl | (simp [errW_none, errW_some] <;> rfl) | (simp [*, errW_none, errW_some] <;> rfl) | (exfalso; contradiction), by repeat (first | (with_reducible first | exact HB.out | apply below_alloc | apply pw_below_drewN | apply below_drew1 | refine below_set ?_ GE265.out | refine below_set ?_ GE266.out | refine below_set ?_ GE267.out | refine below_set ?_ GE268.out | refine below_set ?_ GE269.out) | exact HB.out)⟩
          · rw [if_neg c41] at H
            have c41b0 : decide (1099511627776 < a5_6) = false := decide_eq_false c41
            clear c41
            by_cases c53 : a5_6 < (-1099511627776)
            · rw [if_pos c53] at H
              have c53b0 : decide (a5_6 < (-1099511627776)) = true := decide_eq_true c53
              clear c53
              obtain rfl := Option.some.inj H
              go_enter Try.func5, Try.ntmps5
              go_wp2_with (first | ((with_reducible refine gate_dst (N := 8) rfl ?_); (try (refine gate_guard (by rfl) ?_; dsimp only)); refine box_event ?hg (N := 8) ?hd (cs := #[.int .i64 a1_0, .int .i64 a1_1, .int .i64 a1_2]) (t := 23) ?hr ?_; (case hd => rfl); (case hg => rfl); (case hr => first | (go_simp; done) | (go_simp; rfl)); intro gb265 hg w54 hbox hb; have n0_ := bs HB hb; have n1_ := Aside0.mk (hbox); have n2_ := bz HB hg; have n3_ := bz HB hg; clear HB; have HB := n0_; have BK265 := n1_; have GW265 := n2_; have GE265 := n3_; clear n0_ n1_ n2_ n3_; clear hb hbox hg) | ((with_reducible refine gate_dst (N := 9) rfl ?_); (try (refine gate_guard (by rfl) ?_; dsimp only)); refine box_event ?hg (N := 9) ?hd (cs := #[.int .i64 a2_0, .int .i64 a2_1, .int .i64 a2_2]) (t := 23) ?hr ?_; (case hd => rfl); (case hg => rfl); (case hr => first | (go_simp; done) | (go_simp; rfl)); intro gb266 hg w55 hbox hb; have n0_ := bb BK265 hb; have n1_ := bs HB hb; have n2_ := Aside0.mk (hbox); have n3_ := bz HB hg; have n4_ := bz HB hg; have n5_ := bl BK265 hg; have n6_ := bg BK265 hg; clear BK265; clear HB; have BK265 := n0_; have HB := n1_; have BK266 := n2_; have GW266 := n3_; have GE266 := n4_; have NB265_266 := n5_; have NB266_265 := n6_; clear n0_ n1_ n2_ n3_ n4_ n5_ n6_; clear hb hbox hg) | ((with_reducible refine gate_dst (N := 11) rfl ?_); (try (refine gate_guard (by rfl) ?_; dsimp only)); refine box_event ?hg (N := 11) ?hd (cs := #[.int .i64 a4_0, .int .i64 a4_1, .int .i64 a4_2, .int .i64 a4_3, .int .i64 a4_4, .int .i64 a4_5]) (t := 28) ?hr ?_; (case hd => rfl); (case hg => rfl); (case hr => first | (go_simp; done) | (go_simp; rfl)); intro gb267 hg w56 hbox hb; have n0_ := bb BK265 hb; have n1_ := bb BK266 hb; have n2_ := bs HB hb; have n3_ := Aside0.mk (hbox); have n4_ := bz HB hg; have n5_ := bz HB hg; have n6_ := bl BK265 hg; have n7_ := bg BK265 hg; have n8_ := bl BK266 hg; have n9_ := bg BK266 hg; clear BK265; clear BK266; clear HB; have BK265 := n0_; have BK266 := n1_; have HB := n2_; have BK267 := n3_; have GW267 := n4_; have GE267 := n5_; have NB265_267 := n6_; have NB267_265 := n7_; have NB266_267 := n8_; have NB267_266 := n9_; clear n0_ n1_ n2_ n3_ n4_ n5_ n6_ n7_ n8_ n9_; clear hb hbox hg) | ((with_reducible refine gate_dst (N := 12) rfl ?_); (try (refine gate_guard (by rfl) ?_; dsimp only)); refine box_event ?hg (N := 12) ?hd (cs := #[.bool a5_0, .int .i64 a5_1, .int .i64 a5_2, .int .i64 a5_3, .bool a5_4, .int .i64 a5_5, .int .i64 a5_6, .int .i64 a5_7]) (t := 30) ?hr ?_; (case hd => rfl); (case hg => rfl); (case hr => first | (go_simp; done) | (go_simp; rfl)); intro gb268 hg w57 hbox hb; have n0_ := bb BK265 hb; have n1_ := bb BK266 hb; have n2_ := bb BK267 hb; have n3_ := bs HB hb; have n4_ := Aside0.mk (hbox); have n5_ := bz HB hg; have n6_ := bz HB hg; have n7_ := bl BK265 hg; have n8_ := bg BK265 hg; have n9_ := bl BK266 hg; have n10_ := bg BK266 hg; have n11_ := bl BK267 hg; have n12_ := bg BK267 hg; clear BK265; clear BK266; clear BK267; clear HB; have BK265 := n0_; have BK266 := n1_; have BK267 := n2_; have HB := n3_; have BK268 := n4_; have GW268 := n5_; have GE268 := n6_; have NB265_268 := n7_; have NB268_265 := n8_; have NB266_268 := n9_; have NB268_266 := n10_; have NB267_268 := n11_; have NB268_267 := n12_; clear n0_ n1_ n2_ n3_ n4_ n5_ n6_ n7_ n8_ n9_ n10_ n11_ n12_; clear hb hbox hg) | ((with_reducible refine gate_dst (N := 13) rfl ?_); (try (refine gate_guard (by rfl) ?_; dsimp only)); refine box_event ?hg (N := 13) ?hd (cs := #[.int .i64 a6_0, .int .u64 a6_1]) (t := 33) ?hr ?_; (case hd => rfl); (case hg => rfl); (case hr => first | (go_simp; done) | (go_simp; rfl)); intro gb269 hg w58 hbox hb; have n0_ := bb BK265 hb; have n1_ := bb BK266 hb; have n2_ := bb BK267 hb; have n3_ := bb BK268 hb; have n4_ := bs HB hb; have n5_ := Aside0.mk (hbox); have n6_ := bz HB hg; have n7_ := bz HB hg; have n8_ := bl BK265 hg; have n9_ := bg BK265 hg; have n10_ := bl BK266 hg; have n11_ := bg BK266 hg; have n12_ := bl BK267 hg; have n13_ := bg BK267 hg; have n14_ := bl BK268 hg; have n15_ := bg BK268 hg; clear BK265; clear BK266; clear BK267; clear BK268; clear HB; have BK265 := n0_; have BK266 := n1_; have BK267 := n2_; have BK268 := n3_; have HB := n4_; have BK269 := n5_; have GW269 := n6_; have GE269 := n7_; have NB265_269 := n8_; have NB269_265 := n9_; have NB266_269 := n10_; have NB269_266 := n11_; have NB267_269 := n12_; have NB269_267 := n13_; have NB268_269 := n14_; have NB269_268 := n15_; clear n0_ n1_ n2_ n3_ n4_ n5_ n6_ n7_ n8_ n9_ n10_ n11_ n12_ n13_ n14_ n15_; clear hb hbox hg) | ((with_reducible refine gate_callee (f := 8) rfl ?_); refine goesL_ (some 20) rfl rfl Try.func8 (by kernel_rfl) rfl #[] rfl (by (try simp only [List.map_toArray, List.map_cons, List.map_nil]); first | done | rfl | (simp only [List.length_drop, List.length_take]; rfl)) ?_; (with_reducible refine (fuseelaw14_awake.calls k  true _ A8.out).mono ?_); rintro e w59 ⟨rfl, hb⟩; refine ⟨_, rfl, ?_⟩; have n0_ := bb BK265 hb; have n1_ := bb BK266 hb; have n2_ := bb BK267 hb; have n3_ := bb BK268 hb; have n4_ := bb BK269 hb; have n5_ := bs HB hb; clear BK265; clear BK266; clear BK267; clear BK268; clear BK269; clear HB; have BK265 := n0_; have BK266 := n1_; have BK267 := n2_; have BK268 := n3_; have BK269 := n4_; have HB := n5_; clear n0_ n1_ n2_ n3_ n4_ n5_; (try clear hb); (try clear hb2); (try clear hk); (try clear hi); have hnb60 := NB268_265.out; have hnc60 := NB265_268.out; have hnb61 := NB268_266.out; have hnc61 := NB266_268.out; have hnb62 := NB268_267.out; have hnc62 := NB267_268.out; have hnb63 := NB268_269.out; have hnc63 := NB269_268.out; obtain ⟨hcz64_0, hcz64_1, hcz64_2, hcz64_3, hcz64_4, hcz64_5, hcz64_6, hcz64_7⟩ := cc8 BK268; obtain ⟨hfz64_0, hfz64_1, hfz64_2, hfz64_3, hfz64_4, hfz64_5, hfz64_6, hfz64_7⟩ := cf8 BK268))
              go_ret
              exact ⟨by first | rfl | (simp [errW_none, errW_some] <;> rfl) | (simp [*, errW_none, errW_some] <;> rfl) | (exfalso; contradiction), by repeat (first | (with_reducible first | exact HB.out | apply below_alloc | apply pw_below_drewN | apply below_drew1 | refine below_set ?_ GE265.out | refine below_set ?_ GE266.out | refine below_set ?_ GE267.out | refine below_set ?_ GE268.out | refine below_set ?_ GE269.out) | exact HB.out)⟩
            · rw [if_neg c53] at H
              have c53b0 : decide (a5_6 < (-1099511627776)) = false := decide_eq_false c53
              clear c53
              by_cases c65 : a5_7 > 1099511627776
              · rw [if_pos c65] at H
                have c65b0 : decide (1099511627776 < a5_7) = true := decide_eq_true c65
                clear c65
                obtain rfl := Option.some.inj H
                go_enter Try.func5, Try.ntmps5
                go_wp2_with (first | ((with_reducible refine gate_dst (N := 8) rfl ?_); (try (refine gate_guard (by rfl) ?_; dsimp only)); refine box_event ?hg (N := 8) ?hd (cs := #[.int .i64 a1_0, .int .i64 a1_1, .int .i64 a1_2]) (t := 23) ?hr ?_; (case hd => rfl); (case hg => rfl); (case hr => first | (go_simp; done) | (go_simp; rfl)); intro gb265 hg w66 hbox hb; have n0_ := bs HB hb; have n1_ := Aside0.mk (hbox); have n2_ := bz HB hg; have n3_ := bz HB hg; clear HB; have HB := n0_; have BK265 := n1_; have GW265 := n2_; have GE265 := n3_; clear n0_ n1_ n2_ n3_; clear hb hbox hg) | ((with_reducible refine gate_dst (N := 9) rfl ?_); (try (refine gate_guard (by rfl) ?_; dsimp only)); refine box_event ?hg (N := 9) ?hd (cs := #[.int .i64 a2_0, .int .i64 a2_1, .int .i64 a2_2]) (t := 23) ?hr ?_; (case hd => rfl); (case hg => rfl); (case hr => first | (go_simp; done) | (go_simp; rfl)); intro gb266 hg w67 hbox hb; have n0_ := bb BK265 hb; have n1_ := bs HB hb; have n2_ := Aside0.mk (hbox); have n3_ := bz HB hg; have n4_ := bz HB hg; have n5_ := bl BK265 hg; have n6_ := bg BK265 hg; clear BK265; clear HB; have BK265 := n0_; have HB := n1_; have BK266 := n2_; have GW266 := n3_; have GE266 := n4_; have NB265_266 := n5_; have NB266_265 := n6_; clear n0_ n1_ n2_ n3_ n4_ n5_ n6_; clear hb hbox hg) | ((with_reducible refine gate_dst (N := 11) rfl ?_); (try (refine gate_guard (by rfl) ?_; dsimp only)); refine box_event ?hg (N := 11) ?hd (cs := #[.int .i64 a4_0, .int .i64 a4_1, .int .i64 a4_2, .int .i64 a4_3, .int .i64 a4_4, .int .i64 a4_5]) (t := 28) ?hr ?_; (case hd => rfl); (case hg => rfl); (case hr => first | (go_simp; done) | (go_simp; rfl)); intro gb267 hg w68 hbox hb; have n0_ := bb BK265 hb; have n1_ := bb BK266 hb; have n2_ := bs HB hb; have n3_ := Aside0.mk (hbox); have n4_ := bz HB hg; have n5_ := bz HB hg; have n6_ := bl BK265 hg; have n7_ := bg BK265 hg; have n8_ := bl BK266 hg; have n9_ := bg BK266 hg; clear BK265; clear BK266; clear HB; have BK265 := n0_; have BK266 := n1_; have HB := n2_; have BK267 := n3_; have GW267 := n4_; have GE267 := n5_; have NB265_267 := n6_; have NB267_265 := n7_; have NB266_267 := n8_; have NB267_266 := n9_; clear n0_ n1_ n2_ n3_ n4_ n5_ n6_ n7_ n8_ n9_; clear hb hbox hg) | ((with_reducible refine gate_dst (N := 12) rfl ?_); (try (refine gate_guard (by rfl) ?_; dsimp only)); refine box_event ?hg (N := 12) ?hd (cs := #[.bool a5_0, .int .i64 a5_1, .int .i64 a5_2, .int .i64 a5_3, .bool a5_4, .int .i64 a5_5, .int .i64 a5_6, .int .i64 a5_7]) (t := 30) ?hr ?_; (case hd => rfl); (case hg => rfl); (case hr => first | (go_simp; done) | (go_simp; rfl)); intro gb268 hg w69 hbox hb; have n0_ := bb BK265 hb; have n1_ := bb BK266 hb; have n2_ := bb BK267 hb; have n3_ := bs HB hb; have n4_ := Aside0.mk (hbox); have n5_ := bz HB hg; have n6_ := bz HB hg; have n7_ := bl BK265 hg; have n8_ := bg BK265 hg; have n9_ := bl BK266 hg; have n10_ := bg BK266 hg; have n11_ := bl BK267 hg; have n12_ := bg BK267 hg; clear BK265; clear BK266; clear BK267; clear HB; have BK265 := n0_; have BK266 := n1_; have BK267 := n2_; have HB := n3_; have BK268 := n4_; have GW268 := n5_; have GE268 := n6_; have NB265_268 := n7_; have NB268_265 := n8_; have NB266_268 := n9_; have NB268_266 := n10_; have NB267_268 := n11_; have NB268_267 := n12_; clear n0_ n1_ n2_ n3_ n4_ n5_ n6_ n7_ n8_ n9_ n10_ n11_ n12_; clear hb hbox hg) | ((with_reducible refine gate_dst (N := 13) rfl ?_); (try (refine gate_guard (by rfl) ?_; dsimp only)); refine box_event ?hg (N := 13) ?hd (cs := #[.int .i64 a6_0, .int .u64 a6_1]) (t := 33) ?hr ?_; (case hd => rfl); (case hg => rfl); (case hr => first | (go_simp; done) | (go_simp; rfl)); intro gb269 hg w70 hbox hb; have n0_ := bb BK265 hb; have n1_ := bb BK266 hb; have n2_ := bb BK267 hb; have n3_ := bb BK268 hb; have n4_ := bs HB hb; have n5_ := Aside0.mk (hbox); have n6_ := bz HB hg; have n7_ := bz HB hg; have n8_ := bl BK265 hg; have n9_ := bg BK265 hg; have n10_ := bl BK266 hg; have n11_ := bg BK266 hg; have n12_ := bl BK267 hg; have n13_ := bg BK267 hg; have n14_ := bl BK268 hg; have n15_ := bg BK268 hg; clear BK265; clear BK266; clear BK267; clear BK268; clear HB; have BK265 := n0_; have BK266 := n1_; have BK267 := n2_; have BK268 := n3_; have HB := n4_; have BK269 := n5_; have GW269 := n6_; have GE269 := n7_; have NB265_269 := n8_; have NB269_265 := n9_; have NB266_269 := n10_; have NB269_266 := n11_; have NB267_269 := n12_; have NB269_267 := n13_; have NB268_269 := n14_; have NB269_268 := n15_; clear n0_ n1_ n2_ n3_ n4_ n5_ n6_ n7_ n8_ n9_ n10_ n11_ n12_ n13_ n14_ n15_; clear hb hbox hg) | ((with_reducible refine gate_callee (f := 8) rfl ?_); refine goesL_ (some 20) rfl rfl Try.func8 (by kernel_rfl) rfl #[] rfl (by (try simp only [List.map_toArray, List.map_cons, List.map_nil]); first | done | rfl | (simp only [List.length_drop, List.length_take]; rfl)) ?_; (with_reducible refine (fuseelaw14_awake.calls k  true _ A8.out).mono ?_); rintro e w71 ⟨rfl, hb⟩; refine ⟨_, rfl, ?_⟩; have n0_ := bb BK265 hb; have n1_ := bb BK266 hb; have n2_ := bb BK267 hb; have n3_ := bb BK268 hb; have n4_ := bb BK269 hb; have n5_ := bs HB hb; clear BK265; clear BK266; clear BK267; clear BK268; clear BK269; clear HB; have BK265 := n0_; have BK266 := n1_; have BK267 := n2_; have BK268 := n3_; have BK269 := n4_; have HB := n5_; clear n0_ n1_ n2_ n3_ n4_ n5_; (try clear hb); (try clear hb2); (try clear hk); (try clear hi); have hnb72 := NB268_265.out; have hnc72 := NB265_268.out; have hnb73 := NB268_266.out; have hnc73 := NB266_268.out; have hnb74 := NB268_267.out; have hnc74 := NB267_268.out; have hnb75 := NB268_269.out; have hnc75 := NB269_268.out; obtain ⟨hcz76_0, hcz76_1, hcz76_2, hcz76_3, hcz76_4, hcz76_5, hcz76_6, hcz76_7⟩ := cc8 BK268; obtain ⟨hfz76_0, hfz76_1, hfz76_2, hfz76_3, hfz76_4, hfz76_5, hfz76_6, hfz76_7⟩ := cf8 BK268))
                go_ret
                exact ⟨by first | rfl | (simp [errW_none, errW_some] <;> rfl) | (simp [*, errW_none, errW_some] <;> rfl) | (exfalso; contradiction), by repeat (first | (with_reducible first | exact HB.out | apply below_alloc | apply pw_below_drewN | apply below_drew1 | refine below_set ?_ GE265.out | refine below_set ?_ GE266.out | refine below_set ?_ GE267.out | refine below_set ?_ GE268.out | refine below_set ?_ GE269.out) | exact HB.out)⟩
              · rw [if_neg c65] at H
                have c65b0 : decide (1099511627776 < a5_7) = false := decide_eq_false c65
                clear c65
                by_cases c77 : a5_7 < (-1099511627776)
                · rw [if_pos c77] at H
                  have c77b0 : decide (a5_7 < (-1099511627776)) = true := decide_eq_true c77
                  clear c77
                  obtain rfl := Option.some.inj H
                  go_enter Try.func5, Try.ntmps5
                  go_wp2_with (first | ((with_reducible refine gate_dst (N := 8) rfl ?_); (try (refine gate_guard (by rfl) ?_; dsimp only)); refine box_event ?hg (N := 8) ?hd (cs := #[.int .i64 a1_0, .int .i64 a1_1, .int .i64 a1_2]) (t := 23) ?hr ?_; (case hd => rfl); (case hg => rfl); (case hr => first | (go_simp; done) | (go_simp; rfl)); intro gb265 hg w78 hbox hb; have n0_ := bs HB hb; have n1_ := Aside0.mk (hbox); have n2_ := bz HB hg; have n3_ := bz HB hg; clear HB; have HB := n0_; have BK265 := n1_; have GW265 := n2_; have GE265 := n3_; clear n0_ n1_ n2_ n3_; clear hb hbox hg) | ((with_reducible refine gate_dst (N := 9) rfl ?_); (try (refine gate_guard (by rfl) ?_; dsimp only)); refine box_event ?hg (N := 9) ?hd (cs := #[.int .i64 a2_0, .int .i64 a2_1, .int .i64 a2_2]) (t := 23) ?hr ?_; (case hd => rfl); (case hg => rfl); (case hr => first | (go_simp; done) | (go_simp; rfl)); intro gb266 hg w79 hbox hb; have n0_ := bb BK265 hb; have n1_ := bs HB hb; have n2_ := Aside0.mk (hbox); have n3_ := bz HB hg; have n4_ := bz HB hg; have n5_ := bl BK265 hg; have n6_ := bg BK265 hg; clear BK265; clear HB; have BK265 := n0_; have HB := n1_; have BK266 := n2_; have GW266 := n3_; have GE266 := n4_; have NB265_266 := n5_; have NB266_265 := n6_; clear n0_ n1_ n2_ n3_ n4_ n5_ n6_; clear hb hbox hg) | ((with_reducible refine gate_dst (N := 11) rfl ?_); (try (refine gate_guard (by rfl) ?_; dsimp only)); refine box_event ?hg (N := 11) ?hd (cs := #[.int .i64 a4_0, .int .i64 a4_1, .int .i64 a4_2, .int .i64 a4_3, .int .i64 a4_4, .int .i64 a4_5]) (t := 28) ?hr ?_; (case hd => rfl); (case hg => rfl); (case hr => first | (go_simp; done) | (go_simp; rfl)); intro gb267 hg w80 hbox hb; have n0_ := bb BK265 hb; have n1_ := bb BK266 hb; have n2_ := bs HB hb; have n3_ := Aside0.mk (hbox); have n4_ := bz HB hg; have n5_ := bz HB hg; have n6_ := bl BK265 hg; have n7_ := bg BK265 hg; have n8_ := bl BK266 hg; have n9_ := bg BK266 hg; clear BK265; clear BK266; clear HB; have BK265 := n0_; have BK266 := n1_; have HB := n2_; have BK267 := n3_; have GW267 := n4_; have GE267 := n5_; have NB265_267 := n6_; have NB267_265 := n7_; have NB266_267 := n8_; have NB267_266 := n9_; clear n0_ n1_ n2_ n3_ n4_ n5_ n6_ n7_ n8_ n9_; clear hb hbox hg) | ((with_reducible refine gate_dst (N := 12) rfl ?_); (try (refine gate_guard (by rfl) ?_; dsimp only)); refine box_event ?hg (N := 12) ?hd (cs := #[.bool a5_0, .int .i64 a5_1, .int .i64 a5_2, .int .i64 a5_3, .bool a5_4, .int .i64 a5_5, .int .i64 a5_6, .int .i64 a5_7]) (t := 30) ?hr ?_; (case hd => rfl); (case hg => rfl); (case hr => first | (go_simp; done) | (go_simp; rfl)); intro gb268 hg w81 hbox hb; have n0_ := bb BK265 hb; have n1_ := bb BK266 hb; have n2_ := bb BK267 hb; have n3_ := bs HB hb; have n4_ := Aside0.mk (hbox); have n5_ := bz HB hg; have n6_ := bz HB hg; have n7_ := bl BK265 hg; have n8_ := bg BK265 hg; have n9_ := bl BK266 hg; have n10_ := bg BK266 hg; have n11_ := bl BK267 hg; have n12_ := bg BK267 hg; clear BK265; clear BK266; clear BK267; clear HB; have BK265 := n0_; have BK266 := n1_; have BK267 := n2_; have HB := n3_; have BK268 := n4_; have GW268 := n5_; have GE268 := n6_; have NB265_268 := n7_; have NB268_265 := n8_; have NB266_268 := n9_; have NB268_266 := n10_; have NB267_268 := n11_; have NB268_267 := n12_; clear n0_ n1_ n2_ n3_ n4_ n5_ n6_ n7_ n8_ n9_ n10_ n11_ n12_; clear hb hbox hg) | ((with_reducible refine gate_dst (N := 13) rfl ?_); (try (refine gate_guard (by rfl) ?_; dsimp only)); refine box_event ?hg (N := 13) ?hd (cs := #[.int .i64 a6_0, .int .u64 a6_1]) (t := 33) ?hr ?_; (case hd => rfl); (case hg => rfl); (case hr => first | (go_simp; done) | (go_simp; rfl)); intro gb269 hg w82 hbox hb; have n0_ := bb BK265 hb; have n1_ := bb BK266 hb; have n2_ := bb BK267 hb; have n3_ := bb BK268 hb; have n4_ := bs HB hb; have n5_ := Aside0.mk (hbox); have n6_ := bz HB hg; have n7_ := bz HB hg; have n8_ := bl BK265 hg; have n9_ := bg BK265 hg; have n10_ := bl BK266 hg; have n11_ := bg BK266 hg; have n12_ := bl BK267 hg; have n13_ := bg BK267 hg; have n14_ := bl BK268 hg; have n15_ := bg BK268 hg; clear BK265; clear BK266; clear BK267; clear BK268; clear HB; have BK265 := n0_; have BK266 := n1_; have BK267 := n2_; have BK268 := n3_; have HB := n4_; have BK269 := n5_; have GW269 := n6_; have GE269 := n7_; have NB265_269 := n8_; have NB269_265 := n9_; have NB266_269 := n10_; have NB269_266 := n11_; have NB267_269 := n12_; have NB269_267 := n13_; have NB268_269 := n14_; have NB269_268 := n15_; clear n0_ n1_ n2_ n3_ n4_ n5_ n6_ n7_ n8_ n9_ n10_ n11_ n12_ n13_ n14_ n15_; clear hb hbox hg) | ((with_reducible refine gate_callee (f := 8) rfl ?_); refine goesL_ (some 20) rfl rfl Try.func8 (by kernel_rfl) rfl #[] rfl (by (try simp only [List.map_toArray, List.map_cons, List.map_nil]); first | done | rfl | (simp only [List.length_drop, List.length_take]; rfl)) ?_; (with_reducible refine (fuseelaw14_awake.calls k  true _ A8.out).mono ?_); rintro e w83 ⟨rfl, hb⟩; refine ⟨_, rfl, ?_⟩; have n0_ := bb BK265 hb; have n1_ := bb BK266 hb; have n2_ := bb BK267 hb; have n3_ := bb BK268 hb; have n4_ := bb BK269 hb; have n5_ := bs HB hb; clear BK265; clear BK266; clear BK267; clear BK268; clear BK269; clear HB; have BK265 := n0_; have BK266 := n1_; have BK267 := n2_; have BK268 := n3_; have BK269 := n4_; have HB := n5_; clear n0_ n1_ n2_ n3_ n4_ n5_; (try clear hb); (try clear hb2); (try clear hk); (try clear hi); have hnb84 := NB268_265.out; have hnc84 := NB265_268.out; have hnb85 := NB268_266.out; have hnc85 := NB266_268.out; have hnb86 := NB268_267.out; have hnc86 := NB267_268.out; have hnb87 := NB268_269.out; have hnc87 := NB269_268.out; obtain ⟨hcz88_0, hcz88_1, hcz88_2, hcz88_3, hcz88_4, hcz88_5, hcz88_6, hcz88_7⟩ := cc8 BK268; obtain ⟨hfz88_0, hfz88_1, hfz88_2, hfz88_3, hfz88_4, hfz88_5, hfz88_6, hfz88_7⟩ := cf8 BK268))
                  go_ret
                  exact ⟨by first | rfl | (simp [errW_none, errW_some] <;> rfl) | (simp [*, errW_none, errW_some] <;> rfl) | (exfalso; contradiction), by repeat (first | (with_reducible first | exact HB.out | apply below_alloc | apply pw_below_drewN | apply below_drew1 | refine below_set ?_ GE265.out | refine below_set ?_ GE266.out | refine below_set ?_ GE267.out | refine below_set ?_ GE268.out | refine below_set ?_ GE269.out) | exact HB.out)⟩
                · rw [if_neg c77] at H
                  have c77b0 : decide (a5_7 < (-1099511627776)) = false := decide_eq_false c77
                  clear c77
                  by_cases c89 : a4_4 > 1000
                  · rw [if_pos c89] at H
                    have c89b0 : decide (1000 < a4_4) = true := decide_eq_true c89
                    clear c89
                    obtain rfl := Option.some.inj H
                    go_enter Try.func5, Try.ntmps5
                    go_wp2_with (first | ((with_reducible refine gate_dst (N := 8) rfl ?_); (try (refine gate_guard (by rfl) ?_; dsimp only)); refine box_event ?hg (N := 8) ?hd (cs := #[.int .i64 a1_0, .int .i64 a1_1, .int .i64 a1_2]) (t := 23) ?hr ?_; (case hd => rfl); (case hg => rfl); (case hr => first | (go_simp; done) | (go_simp; rfl)); intro gb265 hg w90 hbox hb; have n0_ := bs HB hb; have n1_ := Aside0.mk (hbox); have n2_ := bz HB hg; have n3_ := bz HB hg; clear HB; have HB := n0_; have BK265 := n1_; have GW265 := n2_; have GE265 := n3_; clear n0_ n1_ n2_ n3_; clear hb hbox hg) | ((with_reducible refine gate_dst (N := 9) rfl ?_); (try (refine gate_guard (by rfl) ?_; dsimp only)); refine box_event ?hg (N := 9) ?hd (cs := #[.int .i64 a2_0, .int .i64 a2_1, .int .i64 a2_2]) (t := 23) ?hr ?_; (case hd => rfl); (case hg => rfl); (case hr => first | (go_simp; done) | (go_simp; rfl)); intro gb266 hg w91 hbox hb; have n0_ := bb BK265 hb; have n1_ := bs HB hb; have n2_ := Aside0.mk (hbox); have n3_ := bz HB hg; have n4_ := bz HB hg; have n5_ := bl BK265 hg; have n6_ := bg BK265 hg; clear BK265; clear HB; have BK265 := n0_; have HB := n1_; have BK266 := n2_; have GW266 := n3_; have GE266 := n4_; have NB265_266 := n5_; have NB266_265 := n6_; clear n0_ n1_ n2_ n3_ n4_ n5_ n6_; clear hb hbox hg) | ((with_reducible refine gate_dst (N := 11) rfl ?_); (try (refine gate_guard (by rfl) ?_; dsimp only)); refine box_event ?hg (N := 11) ?hd (cs := #[.int .i64 a4_0, .int .i64 a4_1, .int .i64 a4_2, .int .i64 a4_3, .int .i64 a4_4, .int .i64 a4_5]) (t := 28) ?hr ?_; (case hd => rfl); (case hg => rfl); (case hr => first | (go_simp; done) | (go_simp; rfl)); intro gb267 hg w92 hbox hb; have n0_ := bb BK265 hb; have n1_ := bb BK266 hb; have n2_ := bs HB hb; have n3_ := Aside0.mk (hbox); have n4_ := bz HB hg; have n5_ := bz HB hg; have n6_ := bl BK265 hg; have n7_ := bg BK265 hg; have n8_ := bl BK266 hg; have n9_ := bg BK266 hg; clear BK265; clear BK266; clear HB; have BK265 := n0_; have BK266 := n1_; have HB := n2_; have BK267 := n3_; have GW267 := n4_; have GE267 := n5_; have NB265_267 := n6_; have NB267_265 := n7_; have NB266_267 := n8_; have NB267_266 := n9_; clear n0_ n1_ n2_ n3_ n4_ n5_ n6_ n7_ n8_ n9_; clear hb hbox hg) | ((with_reducible refine gate_dst (N := 12) rfl ?_); (try (refine gate_guard (by rfl) ?_; dsimp only)); refine box_event ?hg (N := 12) ?hd (cs := #[.bool a5_0, .int .i64 a5_1, .int .i64 a5_2, .int .i64 a5_3, .bool a5_4, .int .i64 a5_5, .int .i64 a5_6, .int .i64 a5_7]) (t := 30) ?hr ?_; (case hd => rfl); (case hg => rfl); (case hr => first | (go_simp; done) | (go_simp; rfl)); intro gb268 hg w93 hbox hb; have n0_ := bb BK265 hb; have n1_ := bb BK266 hb; have n2_ := bb BK267 hb; have n3_ := bs HB hb; have n4_ := Aside0.mk (hbox); have n5_ := bz HB hg; have n6_ := bz HB hg; have n7_ := bl BK265 hg; have n8_ := bg BK265 hg; have n9_ := bl BK266 hg; have n10_ := bg BK266 hg; have n11_ := bl BK267 hg; have n12_ := bg BK267 hg; clear BK265; clear BK266; clear BK267; clear HB; have BK265 := n0_; have BK266 := n1_; have BK267 := n2_; have HB := n3_; have BK268 := n4_; have GW268 := n5_; have GE268 := n6_; have NB265_268 := n7_; have NB268_265 := n8_; have NB266_268 := n9_; have NB268_266 := n10_; have NB267_268 := n11_; have NB268_267 := n12_; clear n0_ n1_ n2_ n3_ n4_ n5_ n6_ n7_ n8_ n9_ n10_ n11_ n12_; clear hb hbox hg) | ((with_reducible refine gate_dst (N := 13) rfl ?_); (try (refine gate_guard (by rfl) ?_; dsimp only)); refine box_event ?hg (N := 13) ?hd (cs := #[.int .i64 a6_0, .int .u64 a6_1]) (t := 33) ?hr ?_; (case hd => rfl); (case hg => rfl); (case hr => first | (go_simp; done) | (go_simp; rfl)); intro gb269 hg w94 hbox hb; have n0_ := bb BK265 hb; have n1_ := bb BK266 hb; have n2_ := bb BK267 hb; have n3_ := bb BK268 hb; have n4_ := bs HB hb; have n5_ := Aside0.mk (hbox); have n6_ := bz HB hg; have n7_ := bz HB hg; have n8_ := bl BK265 hg; have n9_ := bg BK265 hg; have n10_ := bl BK266 hg; have n11_ := bg BK266 hg; have n12_ := bl BK267 hg; have n13_ := bg BK267 hg; have n14_ := bl BK268 hg; have n15_ := bg BK268 hg; clear BK265; clear BK266; clear BK267; clear BK268; clear HB; have BK265 := n0_; have BK266 := n1_; have BK267 := n2_; have BK268 := n3_; have HB := n4_; have BK269 := n5_; have GW269 := n6_; have GE269 := n7_; have NB265_269 := n8_; have NB269_265 := n9_; have NB266_269 := n10_; have NB269_266 := n11_; have NB267_269 := n12_; have NB269_267 := n13_; have NB268_269 := n14_; have NB269_268 := n15_; clear n0_ n1_ n2_ n3_ n4_ n5_ n6_ n7_ n8_ n9_ n10_ n11_ n12_ n13_ n14_ n15_; clear hb hbox hg) | ((with_reducible refine gate_callee (f := 8) rfl ?_); refine goesL_ (some 20) rfl rfl Try.func8 (by kernel_rfl) rfl #[] rfl (by (try simp only [List.map_toArray, List.map_cons, List.map_nil]); first | done | rfl | (simp only [List.length_drop, List.length_take]; rfl)) ?_; (with_reducible refine (fuseelaw14_awake.calls k  true _ A8.out).mono ?_); rintro e w95 ⟨rfl, hb⟩; refine ⟨_, rfl, ?_⟩; have n0_ := bb BK265 hb; have n1_ := bb BK266 hb; have n2_ := bb BK267 hb; have n3_ := bb BK268 hb; have n4_ := bb BK269 hb; have n5_ := bs HB hb; clear BK265; clear BK266; clear BK267; clear BK268; clear BK269; clear HB; have BK265 := n0_; have BK266 := n1_; have BK267 := n2_; have BK268 := n3_; have BK269 := n4_; have HB := n5_; clear n0_ n1_ n2_ n3_ n4_ n5_; (try clear hb); (try clear hb2); (try clear hk); (try clear hi); have hnb96 := NB268_265.out; have hnc96 := NB265_268.out; have hnb97 := NB268_266.out; have hnc97 := NB266_268.out; have hnb98 := NB268_267.out; have hnc98 := NB267_268.out; have hnb99 := NB268_269.out; have hnc99 := NB269_268.out; obtain ⟨hcz100_0, hcz100_1, hcz100_2, hcz100_3, hcz100_4, hcz100_5, hcz100_6, hcz100_7⟩ := cc8 BK268; obtain ⟨hfz100_0, hfz100_1, hfz100_2, hfz100_3, hfz100_4, hfz100_5, hfz100_6, hfz100_7⟩ := cf8 BK268; have hnb101 := NB267_265.out; have hnc101 := NB265_267.out; have hnb102 := NB267_266.out; have hnc102 := NB266_267.out; have hnb103 := NB267_269.out; have hnc103 := NB269_267.out; obtain ⟨hcz104_0, hcz104_1, hcz104_2, hcz104_3, hcz104_4, hcz104_5⟩ := cc6 BK267; obtain ⟨hfz104_0, hfz104_1, hfz104_2, hfz104_3, hfz104_4, hfz104_5⟩ := cf6 BK267))
                    go_ret
                    exact ⟨by first | rfl | (simp [errW_none, errW_some] <;> rfl) | (simp [*, errW_none, errW_some] <;> rfl) | (exfalso; contradiction), by repeat (first | (with_reducible first | exact HB.out | apply below_alloc | apply pw_below_drewN | apply below_drew1 | refine below_set ?_ GE265.out | refine below_set ?_ GE266.out | refine below_set ?_ GE267.out | refine below_set ?_ GE268.out | refine below_set ?_ GE269.out) | exact HB.out)⟩
                  · rw [if_neg c89] at H
                    have c89b0 : decide (1000 < a4_4) = false := decide_eq_false c89
                    clear c89
                    replace H := Option.bind_eq_some_iff.mp H
                    obtain ⟨⟨t271, t272, t273, t274⟩, A1050, H⟩ := H
                    try dsimp only at H
                    have A105 := Aside0.mk A1050
                    clear A1050
                    replace H := Option.bind_eq_some_iff.mp H
                    obtain ⟨⟨t276, t277, t278, t279⟩, A1060, H⟩ := H
                    try dsimp only at H
                    have A106 := Aside0.mk A1060
                    clear A1060
                    replace H := Option.bind_eq_some_iff.mp H
                    obtain ⟨t281, A1070, H⟩ := H
                    try dsimp only at H
                    have A107 := Aside0.mk A1070
                    clear A1070
                    replace H := Option.bind_eq_some_iff.mp H
                    obtain ⟨t282, A1080, H⟩ := H
                    try dsimp only at H
                    have A108 := Aside0.mk A1080
                    clear A1080
                    by_cases c109 : (t281 == t282) = true
                    · rw [if_pos c109] at H
                      have c109b0 : (t281 == t282) = true := c109
                      (try (have c109b1 : decide (t281 = t282) = true := by simpa using c109))
                      (try (have c109b2 : (t281 == t282) = true := by simpa using c109))
                      clear c109
                      replace H := Option.bind_eq_some_iff.mp H
                      obtain ⟨t283, A1100, H⟩ := H
                      try dsimp only at H
                      have A110 := Aside0.mk A1100
                      clear A1100
                      replace H := Option.bind_eq_some_iff.mp H
                      obtain ⟨t286, A1110, H⟩ := H
                      try dsimp only at H
                      have A111 := Aside0.mk A1110
                      clear A1110
                      replace H := Option.bind_eq_some_iff.mp H
                      obtain ⟨t289, A1120, H⟩ := H
                      try dsimp only at H
                      have A112 := Aside0.mk A1120
                      clear A1120
                      by_cases c113 : t289 = true
                      · subst c113
                        rw [if_pos rfl] at H
                        replace H := Option.bind_eq_some_iff.mp H
                        obtain ⟨t290, A1140, H⟩ := H
                        try dsimp only at H
                        have A114 := Aside0.mk A1140
                        clear A1140
                        replace H := Option.bind_eq_some_iff.mp H
                        obtain ⟨t291, A1150, H⟩ := H
                        try dsimp only at H
                        have A115 := Aside0.mk A1150
                        clear A1150
                        by_cases c116 : t290 = t291
                        · rw [if_pos c116] at H
                          have c116b0 : (t290 == t291) = true := beq_iff_eq.mpr c116
                          have c116b1 : (t290 != t291) = false := bne_eq_false_iff_eq.mpr c116
                          clear c116
                          by_cases c117 : (t271 == t276 && (t272 == t277 && (t273 == t278))) = true
                          · rw [if_pos c117] at H
                            have c117b0 : (t271 == t276 && (t272 == t277 && (t273 == t278))) = true := c117
                            (try (have c117b1 : decide (t271 = t276 && (t272 == t277 && (t273 == t278))) = true := by simpa using c117))
                            (try (have c117b2 : (t271 == t276 && (t272 == t277 && (t273 == t278))) = true := by simpa using c117))
                            clear c117
                            obtain rfl := Option.some.inj H
                            go_enter Try.func5, Try.ntmps5
                            try go_wp2_with (first | ((with_reducible refine gate_dst (N := 8) rfl ?_); (try (refine gate_guard (by rfl) ?_; dsimp only)); refine box_event ?hg (N := 8) ?hd (cs := #[.int .i64 a1_0, .int .i64 a1_1, .int .i64 a1_2]) (t := 23) ?hr ?_; (case hd => rfl); (case hg => rfl); (case hr => first | (go_simp; done) | (go_simp; rfl)); intro gb265 hg w118 hbox hb; have n0_ := bs HB hb; have n1_ := Aside0.mk (hbox); have n2_ := bz HB hg; have n3_ := bz HB hg; clear HB; have HB := n0_; have BK265 := n1_; have GW265 := n2_; have GE265 := n3_; clear n0_ n1_ n2_ n3_; clear hb hbox hg) | ((with_reducible refine gate_dst (N := 9) rfl ?_); (try (refine gate_guard (by rfl) ?_; dsimp only)); refine box_event ?hg (N := 9) ?hd (cs := #[.int .i64 a2_0, .int .i64 a2_1, .int .i64 a2_2]) (t := 23) ?hr ?_; (case hd => rfl); (case hg => rfl); (case hr => first | (go_simp; done) | (go_simp; rfl)); intro gb266 hg w119 hbox hb; have n0_ := bb BK265 hb; have n1_ := bs HB hb; have n2_ := Aside0.mk (hbox); have n3_ := bz HB hg; have n4_ := bz HB hg; have n5_ := bl BK265 hg; have n6_ := bg BK265 hg; clear BK265; clear HB; have BK265 := n0_; have HB := n1_; have BK266 := n2_; have GW266 := n3_; have GE266 := n4_; have NB265_266 := n5_; have NB266_265 := n6_; clear n0_ n1_ n2_ n3_ n4_ n5_ n6_; clear hb hbox hg) | ((with_reducible refine gate_dst (N := 11) rfl ?_); (try (refine gate_guard (by rfl) ?_; dsimp only)); refine box_event ?hg (N := 11) ?hd (cs := #[.int .i64 a4_0, .int .i64 a4_1, .int .i64 a4_2, .int .i64 a4_3, .int .i64 a4_4, .int .i64 a4_5]) (t := 28) ?hr ?_; (case hd => rfl); (case hg => rfl); (case hr => first | (go_simp; done) | (go_simp; rfl)); intro gb267 hg w120 hbox hb; have n0_ := bb BK265 hb; have n1_ := bb BK266 hb; have n2_ := bs HB hb; have n3_ := Aside0.mk (hbox); have n4_ := bz HB hg; have n5_ := bz HB hg; have n6_ := bl BK265 hg; have n7_ := bg BK265 hg; have n8_ := bl BK266 hg; have n9_ := bg BK266 hg; clear BK265; clear BK266; clear HB; have BK265 := n0_; have BK266 := n1_; have HB := n2_; have BK267 := n3_; have GW267 := n4_; have GE267 := n5_; have NB265_267 := n6_; have NB267_265 := n7_; have NB266_267 := n8_; have NB267_266 := n9_; clear n0_ n1_ n2_ n3_ n4_ n5_ n6_ n7_ n8_ n9_; clear hb hbox hg) | ((with_reducible refine gate_dst (N := 12) rfl ?_); (try (refine gate_guard (by rfl) ?_; dsimp only)); refine box_event ?hg (N := 12) ?hd (cs := #[.bool a5_0, .int .i64 a5_1, .int .i64 a5_2, .int .i64 a5_3, .bool a5_4, .int .i64 a5_5, .int .i64 a5_6, .int .i64 a5_7]) (t := 30) ?hr ?_; (case hd => rfl); (case hg => rfl); (case hr => first | (go_simp; done) | (go_simp; rfl)); intro gb268 hg w121 hbox hb; have n0_ := bb BK265 hb; have n1_ := bb BK266 hb; have n2_ := bb BK267 hb; have n3_ := bs HB hb; have n4_ := Aside0.mk (hbox); have n5_ := bz HB hg; have n6_ := bz HB hg; have n7_ := bl BK265 hg; have n8_ := bg BK265 hg; have n9_ := bl BK266 hg; have n10_ := bg BK266 hg; have n11_ := bl BK267 hg; have n12_ := bg BK267 hg; clear BK265; clear BK266; clear BK267; clear HB; have BK265 := n0_; have BK266 := n1_; have BK267 := n2_; have HB := n3_; have BK268 := n4_; have GW268 := n5_; have GE268 := n6_; have NB265_268 := n7_; have NB268_265 := n8_; have NB266_268 := n9_; have NB268_266 := n10_; have NB267_268 := n11_; have NB268_267 := n12_; clear n0_ n1_ n2_ n3_ n4_ n5_ n6_ n7_ n8_ n9_ n10_ n11_ n12_; clear hb hbox hg) | ((with_reducible refine gate_dst (N := 13) rfl ?_); (try (refine gate_guard (by rfl) ?_; dsimp only)); refine box_event ?hg (N := 13) ?hd (cs := #[.int .i64 a6_0, .int .u64 a6_1]) (t := 33) ?hr ?_; (case hd => rfl); (case hg => rfl); (case hr => first | (go_simp; done) | (go_simp; rfl)); intro gb269 hg w122 hbox hb; have n0_ := bb BK265 hb; have n1_ := bb BK266 hb; have n2_ := bb BK267 hb; have n3_ := bb BK268 hb; have n4_ := bs HB hb; have n5_ := Aside0.mk (hbox); have n6_ := bz HB hg; have n7_ := bz HB hg; have n8_ := bl BK265 hg; have n9_ := bg BK265 hg; have n10_ := bl BK266 hg; have n11_ := bg BK266 hg; have n12_ := bl BK267 hg; have n13_ := bg BK267 hg; have n14_ := bl BK268 hg; have n15_ := bg BK268 hg; clear BK265; clear BK266; clear BK267; clear BK268; clear HB; have BK265 := n0_; have BK266 := n1_; have BK267 := n2_; have BK268 := n3_; have HB := n4_; have BK269 := n5_; have GW269 := n6_; have GE269 := n7_; have NB265_269 := n8_; have NB269_265 := n9_; have NB266_269 := n10_; have NB269_266 := n11_; have NB267_269 := n12_; have NB269_267 := n13_; have NB268_269 := n14_; have NB269_268 := n15_; clear n0_ n1_ n2_ n3_ n4_ n5_ n6_ n7_ n8_ n9_ n10_ n11_ n12_ n13_ n14_ n15_; clear hb hbox hg) | ((with_reducible refine gate_callee (f := 8) rfl ?_); refine goesL_ (some 20) rfl rfl Try.func8 (by kernel_rfl) rfl #[] rfl (by (try simp only [List.map_toArray, List.map_cons, List.map_nil]); first | done | rfl | (simp only [List.length_drop, List.length_take]; rfl)) ?_; (with_reducible refine (fuseelaw14_awake.calls k  true _ A8.out).mono ?_); rintro e w123 ⟨rfl, hb⟩; refine ⟨_, rfl, ?_⟩; have n0_ := bb BK265 hb; have n1_ := bb BK266 hb; have n2_ := bb BK267 hb; have n3_ := bb BK268 hb; have n4_ := bb BK269 hb; have n5_ := bs HB hb; clear BK265; clear BK266; clear BK267; clear BK268; clear BK269; clear HB; have BK265 := n0_; have BK266 := n1_; have BK267 := n2_; have BK268 := n3_; have BK269 := n4_; have HB := n5_; clear n0_ n1_ n2_ n3_ n4_ n5_; (try clear hb); (try clear hb2); (try clear hk); (try clear hi); have hnb124 := NB268_265.out; have hnc124 := NB265_268.out; have hnb125 := NB268_266.out; have hnc125 := NB266_268.out; have hnb126 := NB268_267.out; have hnc126 := NB267_268.out; have hnb127 := NB268_269.out; have hnc127 := NB269_268.out; obtain ⟨hcz128_0, hcz128_1, hcz128_2, hcz128_3, hcz128_4, hcz128_5, hcz128_6, hcz128_7⟩ := cc8 BK268; obtain ⟨hfz128_0, hfz128_1, hfz128_2, hfz128_3, hfz128_4, hfz128_5, hfz128_6, hfz128_7⟩ := cf8 BK268; have hnb129 := NB267_265.out; have hnc129 := NB265_267.out; have hnb130 := NB267_266.out; have hnc130 := NB266_267.out; have hnb131 := NB267_269.out; have hnc131 := NB269_267.out; obtain ⟨hcz132_0, hcz132_1, hcz132_2, hcz132_3, hcz132_4, hcz132_5⟩ := cc6 BK267; obtain ⟨hfz132_0, hfz132_1, hfz132_2, hfz132_3, hfz132_4, hfz132_5⟩ := cf6 BK267; have hnb133 := NB269_265.out; have hnc133 := NB265_269.out; have hnb134 := NB269_266.out; have hnc134 := NB266_269.out; obtain ⟨hcz135_0, hcz135_1⟩ := cc2 BK269; obtain ⟨hfz135_0, hfz135_1⟩ := cf2 BK269) | ((with_reducible refine gate_callee (f := 12) rfl ?_); refine goesL_ (some 69) rfl rfl Try.func12 (by kernel_rfl) rfl #[.int .i64 a3, .agg #[.int .i64 a4_0, .int .i64 a4_1, .int .i64 a4_2, .int .i64 a4_3, .int .i64 a4_4, .int .i64 a4_5], .agg #[.bool a5_0, .int .i64 a5_1, .int .i64 a5_2, .int .i64 a5_3, .bool a5_4, .int .i64 a5_5, .int .i64 a5_6, .int .i64 a5_7], .agg #[.int .i64 a6_0, .int .u64 a6_1]] rfl (by (try simp only [List.map_toArray, List.map_cons, List.map_nil]); first | done | rfl | (simp only [List.length_drop, List.length_take]; rfl)) ?_; (with_reducible refine (option_Of.calls k a3 a4_0 a4_1 a4_2 a4_3 a4_4 a4_5 a5_0 a5_1 a5_2 a5_3 a5_4 a5_5 a5_6 a5_7 a6_0 a6_1 t271 t272 t273 t274 _ A105.out).mono ?_); rintro e w136 ⟨rfl, hb⟩; refine ⟨_, rfl, ?_⟩; have n0_ := bb BK265 hb; have n1_ := bb BK266 hb; have n2_ := bb BK267 hb; have n3_ := bb BK268 hb; have n4_ := bb BK269 hb; have n5_ := bs HB hb; clear BK265; clear BK266; clear BK267; clear BK268; clear BK269; clear HB; have BK265 := n0_; have BK266 := n1_; have BK267 := n2_; have BK268 := n3_; have BK269 := n4_; have HB := n5_; clear n0_ n1_ n2_ n3_ n4_ n5_; (try clear hb); (try clear hb2); (try clear hk); (try clear hi)) | ((with_reducible refine gate_dst (N := 16) rfl ?_); (try (refine gate_guard (by rfl) ?_; dsimp only)); refine box_event ?hg (N := 16) ?hd (cs := #[.int .i64 0, .int .i64 0, .int .i64 0]) (t := 23) ?hr ?_; (case hd => rfl); (case hg => rfl); (case hr => first | (go_simp; done) | (go_simp; rfl)); intro gb275 hg w137 hbox hb; have n0_ := bb BK265 hb; have n1_ := bb BK266 hb; have n2_ := bb BK267 hb; have n3_ := bb BK268 hb; have n4_ := bb BK269 hb; have n5_ := bs HB hb; have n6_ := Aside0.mk (hbox); have n7_ := bz HB hg; have n8_ := bz HB hg; have n9_ := bl BK265 hg; have n10_ := bg BK265 hg; have n11_ := bl BK266 hg; have n12_ := bg BK266 hg; have n13_ := bl BK267 hg; have n14_ := bg BK267 hg; have n15_ := bl BK268 hg; have n16_ := bg BK268 hg; have n17_ := bl BK269 hg; have n18_ := bg BK269 hg; clear BK265; clear BK266; clear BK267; clear BK268; clear BK269; clear HB; have BK265 := n0_; have BK266 := n1_; have BK267 := n2_; have BK268 := n3_; have BK269 := n4_; have HB := n5_; have BK275 := n6_; have GW275 := n7_; have GE275 := n8_; have NB265_275 := n9_; have NB275_265 := n10_; have NB266_275 := n11_; have NB275_266 := n12_; have NB267_275 := n13_; have NB275_267 := n14_; have NB268_275 := n15_; have NB275_268 := n16_; have NB269_275 := n17_; have NB275_269 := n18_; clear n0_ n1_ n2_ n3_ n4_ n5_ n6_ n7_ n8_ n9_ n10_ n11_ n12_ n13_ n14_ n15_ n16_ n17_ n18_; clear hb hbox hg; have hnb138 := NB275_265.out; have hnc138 := NB265_275.out; have hnb139 := NB275_266.out; have hnc139 := NB266_275.out; have hnb140 := NB275_267.out; have hnc140 := NB267_275.out; have hnb141 := NB275_268.out; have hnc141 := NB268_275.out; have hnb142 := NB275_269.out; have hnc142 := NB269_275.out; (try clear hcz128_0 hcz128_1 hcz128_2 hcz128_3 hcz128_4 hcz128_5 hcz128_6 hcz128_7 hfz128_0 hfz128_1 hfz128_2 hfz128_3 hfz128_4 hfz128_5 hfz128_6 hfz128_7); (try clear hcz132_0 hcz132_1 hcz132_2 hcz132_3 hcz132_4 hcz132_5 hfz132_0 hfz132_1 hfz132_2 hfz132_3 hfz132_4 hfz132_5); (try clear hcz135_0 hcz135_1 hfz135_0 hfz135_1); obtain ⟨hcz143_0, hcz143_1, hcz143_2⟩ := cc3 BK275; obtain ⟨hfz143_0, hfz143_1, hfz143_2⟩ := cf3 BK275; obtain ⟨hcz144_0, hcz144_1, hcz144_2, hcz144_3, hcz144_4, hcz144_5⟩ := cc6 BK267; obtain ⟨hfz144_0, hfz144_1, hfz144_2, hfz144_3, hfz144_4, hfz144_5⟩ := cf6 BK267; obtain ⟨hcz145_0, hcz145_1, hcz145_2, hcz145_3, hcz145_4, hcz145_5, hcz145_6, hcz145_7⟩ := cc8 BK268; obtain ⟨hfz145_0, hfz145_1, hfz145_2, hfz145_3, hfz145_4, hfz145_5, hfz145_6, hfz145_7⟩ := cf8 BK268; obtain ⟨hcz146_0, hcz146_1⟩ := cc2 BK269; obtain ⟨hfz146_0, hfz146_1⟩ := cf2 BK269) | ((with_reducible refine gate_callee (f := 14) rfl ?_); refine goesL_ (some 77) rfl rfl Try.func14 (by kernel_rfl) rfl #[.int .i64 a3, .agg #[.int .i64 a4_0, .int .i64 a4_1, .int .i64 a4_2, .int .i64 a4_3, .int .i64 a4_4, .int .i64 a4_5], .agg #[.bool a5_0, .int .i64 a5_1, .int .i64 a5_2, .int .i64 a5_3, .bool a5_4, .int .i64 a5_5, .int .i64 a5_6, .int .i64 a5_7], .agg #[.int .i64 a6_0, .int .u64 a6_1]] rfl (by (try simp only [List.map_toArray, List.map_cons, List.map_nil]); first | done | rfl | (simp only [List.length_drop, List.length_take]; rfl)) ?_; (with_reducible refine (fuseeref14_Of.calls k a3 a4_0 a4_1 a4_2 a4_3 a4_4 a4_5 a5_0 a5_1 a5_2 a5_3 a5_4 a5_5 a5_6 a5_7 a6_0 a6_1 t276 t277 t278 t279 _ A106.out).mono ?_); rintro e w147 ⟨rfl, hb⟩; refine ⟨_, rfl, ?_⟩; have n0_ := Aside0.mk (blk_below (g := gb265) (o := .cells #[.int .i64 a1_0, .int .i64 a1_1, .int .i64 a1_2] 23 (0, 0)) (by (with_reducible repeat (first | refine bN ?_ _ | refine bD ?_ | refine bA ?_ _ | refine blk_far ?_ NB265_275.out _)); exact BK265.out) hb); have n1_ := Aside0.mk (blk_below (g := gb266) (o := .cells #[.int .i64 a2_0, .int .i64 a2_1, .int .i64 a2_2] 23 (0, 0)) (by (with_reducible repeat (first | refine bN ?_ _ | refine bD ?_ | refine bA ?_ _ | refine blk_far ?_ NB266_275.out _)); exact BK266.out) hb); have n2_ := Aside0.mk (blk_below (g := gb267) (o := .cells #[.int .i64 a4_0, .int .i64 a4_1, .int .i64 a4_2, .int .i64 a4_3, .int .i64 a4_4, .int .i64 a4_5] 28 (0, 0)) (by (with_reducible repeat (first | refine bN ?_ _ | refine bD ?_ | refine bA ?_ _ | refine blk_far ?_ NB267_275.out _)); exact BK267.out) hb); have n3_ := Aside0.mk (blk_below (g := gb268) (o := .cells #[.bool a5_0, .int .i64 a5_1, .int .i64 a5_2, .int .i64 a5_3, .bool a5_4, .int .i64 a5_5, .int .i64 a5_6, .int .i64 a5_7] 30 (0, 0)) (by (with_reducible repeat (first | refine bN ?_ _ | refine bD ?_ | refine bA ?_ _ | refine blk_far ?_ NB268_275.out _)); exact BK268.out) hb); have n4_ := Aside0.mk (blk_below (g := gb269) (o := .cells #[.int .i64 a6_0, .int .u64 a6_1] 33 (0, 0)) (by (with_reducible repeat (first | refine bN ?_ _ | refine bD ?_ | refine bA ?_ _ | refine blk_far ?_ NB269_275.out _)); exact BK269.out) hb); have n5_ := Aside0.mk (blk_below (g := gb275) (o := .cells #[.int .i64 t271, .int .i64 t272, .int .i64 t273] 23 (0, 0)) (by (with_reducible repeat (first | refine bN ?_ _ | refine bD ?_ | refine bA ?_ _)); refine blk_put (cs := #[.int .i64 t271, .int .i64 t272, .int .i64 0]) ?_ 2 _ rfl; (with_reducible repeat (first | refine bN ?_ _ | refine bD ?_ | refine bA ?_ _)); refine blk_put (cs := #[.int .i64 t271, .int .i64 0, .int .i64 0]) ?_ 1 _ rfl; (with_reducible repeat (first | refine bN ?_ _ | refine bD ?_ | refine bA ?_ _)); refine blk_put (cs := #[.int .i64 0, .int .i64 0, .int .i64 0]) ?_ 0 _ rfl; (with_reducible repeat (first | refine bN ?_ _ | refine bD ?_ | refine bA ?_ _)); exact BK275.out) hb); have n6_ := bs HB hb; clear BK265; clear BK266; clear BK267; clear BK268; clear BK269; clear BK275; clear HB; have BK265 := n0_; have BK266 := n1_; have BK267 := n2_; have BK268 := n3_; have BK269 := n4_; have BK275 := n5_; have HB := n6_; clear n0_ n1_ n2_ n3_ n4_ n5_ n6_; (try clear hb); (try clear hb2); (try clear hk); (try clear hi)) | ((with_reducible refine gate_dst (N := 18) rfl ?_); (try (refine gate_guard (by rfl) ?_; dsimp only)); refine box_event ?hg (N := 18) ?hd (cs := #[.int .i64 0, .int .i64 0, .int .i64 0]) (t := 23) ?hr ?_; (case hd => rfl); (case hg => rfl); (case hr => first | (go_simp; done) | (go_simp; rfl)); intro gb280 hg w148 hbox hb; have n0_ := bb BK265 hb; have n1_ := bb BK266 hb; have n2_ := bb BK267 hb; have n3_ := bb BK268 hb; have n4_ := bb BK269 hb; have n5_ := bb BK275 hb; have n6_ := bs HB hb; have n7_ := Aside0.mk (hbox); have n8_ := bz HB hg; have n9_ := bz HB hg; have n10_ := bl BK265 hg; have n11_ := bg BK265 hg; have n12_ := bl BK266 hg; have n13_ := bg BK266 hg; have n14_ := bl BK267 hg; have n15_ := bg BK267 hg; have n16_ := bl BK268 hg; have n17_ := bg BK268 hg; have n18_ := bl BK269 hg; have n19_ := bg BK269 hg; have n20_ := bl BK275 hg; have n21_ := bg BK275 hg; clear BK265; clear BK266; clear BK267; clear BK268; clear BK269; clear BK275; clear HB; have BK265 := n0_; have BK266 := n1_; have BK267 := n2_; have BK268 := n3_; have BK269 := n4_; have BK275 := n5_; have HB := n6_; have BK280 := n7_; have GW280 := n8_; have GE280 := n9_; have NB265_280 := n10_; have NB280_265 := n11_; have NB266_280 := n12_; have NB280_266 := n13_; have NB267_280 := n14_; have NB280_267 := n15_; have NB268_280 := n16_; have NB280_268 := n17_; have NB269_280 := n18_; have NB280_269 := n19_; have NB275_280 := n20_; have NB280_275 := n21_; clear n0_ n1_ n2_ n3_ n4_ n5_ n6_ n7_ n8_ n9_ n10_ n11_ n12_ n13_ n14_ n15_ n16_ n17_ n18_ n19_ n20_ n21_; clear hb hbox hg; have hnb149 := NB280_265.out; have hnc149 := NB265_280.out; have hnb150 := NB280_266.out; have hnc150 := NB266_280.out; have hnb151 := NB280_267.out; have hnc151 := NB267_280.out; have hnb152 := NB280_268.out; have hnc152 := NB268_280.out; have hnb153 := NB280_269.out; have hnc153 := NB269_280.out; have hnb154 := NB280_275.out; have hnc154 := NB275_280.out; (try clear hcz128_0 hcz128_1 hcz128_2 hcz128_3 hcz128_4 hcz128_5 hcz128_6 hcz128_7 hfz128_0 hfz128_1 hfz128_2 hfz128_3 hfz128_4 hfz128_5 hfz128_6 hfz128_7); (try clear hcz132_0 hcz132_1 hcz132_2 hcz132_3 hcz132_4 hcz132_5 hfz132_0 hfz132_1 hfz132_2 hfz132_3 hfz132_4 hfz132_5); (try clear hcz135_0 hcz135_1 hfz135_0 hfz135_1); (try clear hcz143_0 hcz143_1 hcz143_2 hfz143_0 hfz143_1 hfz143_2); (try clear hcz144_0 hcz144_1 hcz144_2 hcz144_3 hcz144_4 hcz144_5 hfz144_0 hfz144_1 hfz144_2 hfz144_3 hfz144_4 hfz144_5); (try clear hcz145_0 hcz145_1 hcz145_2 hcz145_3 hcz145_4 hcz145_5 hcz145_6 hcz145_7 hfz145_0 hfz145_1 hfz145_2 hfz145_3 hfz145_4 hfz145_5 hfz145_6 hfz145_7); (try clear hcz146_0 hcz146_1 hfz146_0 hfz146_1); obtain ⟨hcz155_0, hcz155_1, hcz155_2⟩ := cc3 BK280; obtain ⟨hfz155_0, hfz155_1, hfz155_2⟩ := cf3 BK280))
                            have n0_ : Aside0 ((((w148.setCell ⟨gb280, 0, none⟩ (.int .i64 t276)).setCell ⟨gb280, 1, none⟩ (.int .i64 t277)).setCell ⟨gb280, 2, none⟩ (.int .i64 t278)).heap[gb265]? = some (.cells #[.int .i64 a1_0, .int .i64 a1_1, .int .i64 a1_2] 23 (0, 0))) := ⟨by (with_reducible repeat (first | refine bN ?_ _ | refine bD ?_ | refine bA ?_ _ | refine blk_far ?_ NB265_280.out _)); exact BK265.out⟩
                            have n1_ : Aside0 ((((w148.setCell ⟨gb280, 0, none⟩ (.int .i64 t276)).setCell ⟨gb280, 1, none⟩ (.int .i64 t277)).setCell ⟨gb280, 2, none⟩ (.int .i64 t278)).heap[gb266]? = some (.cells #[.int .i64 a2_0, .int .i64 a2_1, .int .i64 a2_2] 23 (0, 0))) := ⟨by (with_reducible repeat (first | refine bN ?_ _ | refine bD ?_ | refine bA ?_ _ | refine blk_far ?_ NB266_280.out _)); exact BK266.out⟩
                            have n2_ : Aside0 ((((w148.setCell ⟨gb280, 0, none⟩ (.int .i64 t276)).setCell ⟨gb280, 1, none⟩ (.int .i64 t277)).setCell ⟨gb280, 2, none⟩ (.int .i64 t278)).heap[gb267]? = some (.cells #[.int .i64 a4_0, .int .i64 a4_1, .int .i64 a4_2, .int .i64 a4_3, .int .i64 a4_4, .int .i64 a4_5] 28 (0, 0))) := ⟨by (with_reducible repeat (first | refine bN ?_ _ | refine bD ?_ | refine bA ?_ _ | refine blk_far ?_ NB267_280.out _)); exact BK267.out⟩
                            have n3_ : Aside0 ((((w148.setCell ⟨gb280, 0, none⟩ (.int .i64 t276)).setCell ⟨gb280, 1, none⟩ (.int .i64 t277)).setCell ⟨gb280, 2, none⟩ (.int .i64 t278)).heap[gb268]? = some (.cells #[.bool a5_0, .int .i64 a5_1, .int .i64 a5_2, .int .i64 a5_3, .bool a5_4, .int .i64 a5_5, .int .i64 a5_6, .int .i64 a5_7] 30 (0, 0))) := ⟨by (with_reducible repeat (first | refine bN ?_ _ | refine bD ?_ | refine bA ?_ _ | refine blk_far ?_ NB268_280.out _)); exact BK268.out⟩
                            have n4_ : Aside0 ((((w148.setCell ⟨gb280, 0, none⟩ (.int .i64 t276)).setCell ⟨gb280, 1, none⟩ (.int .i64 t277)).setCell ⟨gb280, 2, none⟩ (.int .i64 t278)).heap[gb269]? = some (.cells #[.int .i64 a6_0, .int .u64 a6_1] 33 (0, 0))) := ⟨by (with_reducible repeat (first | refine bN ?_ _ | refine bD ?_ | refine bA ?_ _ | refine blk_far ?_ NB269_280.out _)); exact BK269.out⟩
                            have n5_ : Aside0 ((((w148.setCell ⟨gb280, 0, none⟩ (.int .i64 t276)).setCell ⟨gb280, 1, none⟩ (.int .i64 t277)).setCell ⟨gb280, 2, none⟩ (.int .i64 t278)).heap[gb275]? = some (.cells #[.int .i64 t271, .int .i64 t272, .int .i64 t273] 23 (0, 0))) := ⟨by (with_reducible repeat (first | refine bN ?_ _ | refine bD ?_ | refine bA ?_ _ | refine blk_far ?_ NB275_280.out _)); exact BK275.out⟩
                            have n6_ : Aside0 ((((w148.setCell ⟨gb280, 0, none⟩ (.int .i64 t276)).setCell ⟨gb280, 1, none⟩ (.int .i64 t277)).setCell ⟨gb280, 2, none⟩ (.int .i64 t278)).heap[gb280]? = some (.cells #[.int .i64 t276, .int .i64 t277, .int .i64 t278] 23 (0, 0))) := ⟨by (with_reducible repeat (first | refine bN ?_ _ | refine bD ?_ | refine bA ?_ _)); refine blk_put (cs := #[.int .i64 t276, .int .i64 t277, .int .i64 0]) ?_ 2 _ rfl; (with_reducible repeat (first | refine bN ?_ _ | refine bD ?_ | refine bA ?_ _)); refine blk_put (cs := #[.int .i64 t276, .int .i64 0, .int .i64 0]) ?_ 1 _ rfl; (with_reducible repeat (first | refine bN ?_ _ | refine bD ?_ | refine bA ?_ _)); refine blk_put (cs := #[.int .i64 0, .int .i64 0, .int .i64 0]) ?_ 0 _ rfl; (with_reducible repeat (first | refine bN ?_ _ | refine bD ?_ | refine bA ?_ _)); exact BK280.out⟩
                            have n7_ : Aside0 (Below w.heap.size w (((w148.setCell ⟨gb280, 0, none⟩ (.int .i64 t276)).setCell ⟨gb280, 1, none⟩ (.int .i64 t277)).setCell ⟨gb280, 2, none⟩ (.int .i64 t278))) := ⟨by repeat (first | (with_reducible first | exact HB.out | apply below_alloc | apply pw_below_drewN | apply below_drew1 | refine below_set ?_ GE265.out | refine below_set ?_ GE266.out | refine below_set ?_ GE267.out | refine below_set ?_ GE268.out | refine below_set ?_ GE269.out | refine below_set ?_ GE275.out | refine below_set ?_ GE280.out) | exact HB.out)⟩
                            (try clear BK265)
                            (try clear BK266)
                            (try clear BK267)
                            (try clear BK268)
                            (try clear BK269)
                            (try clear BK275)
                            (try clear BK280)
                            (try clear HB)
                            generalize (((w148.setCell ⟨gb280, 0, none⟩ (.int .i64 t276)).setCell ⟨gb280, 1, none⟩ (.int .i64 t277)).setCell ⟨gb280, 2, none⟩ (.int .i64 t278)) = w156 at n0_ n1_ n2_ n3_ n4_ n5_ n6_ n7_ ⊢
                            have BK265 := n0_
                            have BK266 := n1_
                            have BK267 := n2_
                            have BK268 := n3_
                            have BK269 := n4_
                            have BK275 := n5_
                            have BK280 := n6_
                            have HB := n7_
                            clear n0_ n1_ n2_ n3_ n4_ n5_ n6_ n7_
                            have n0_ := Aside0.mk (blk_drew BK265.out)
                            have n1_ := Aside0.mk (blk_drew BK266.out)
                            have n2_ := Aside0.mk (blk_drew BK267.out)
                            have n3_ := Aside0.mk (blk_drew BK268.out)
                            have n4_ := Aside0.mk (blk_drew BK269.out)
                            have n5_ := Aside0.mk (blk_drew BK275.out)
                            have n6_ := Aside0.mk (blk_drew BK280.out)
                            have n7_ := Aside0.mk (below_drew1 HB.out)
                            clear BK265
                            clear BK266
                            clear BK267
                            clear BK268
                            clear BK269
                            clear BK275
                            clear BK280
                            clear HB
                            have BK265 := n0_
                            have BK266 := n1_
                            have BK267 := n2_
                            have BK268 := n3_
                            have BK269 := n4_
                            have BK275 := n5_
                            have BK280 := n6_
                            have HB := n7_
                            clear n0_ n1_ n2_ n3_ n4_ n5_ n6_ n7_
                            refine start_ (n := 32) (S := fun w' => w'.cell? ⟨gb265, 0, none⟩ = some (.int .i64 a1_0) ∧ w'.cell? ⟨gb265, 1, none⟩ = some (.int .i64 a1_1) ∧ w'.cell? ⟨gb265, 2, none⟩ = some (.int .i64 a1_2) ∧ w'.cell? ⟨gb266, 0, none⟩ = some (.int .i64 a2_0) ∧ w'.cell? ⟨gb266, 1, none⟩ = some (.int .i64 a2_1) ∧ w'.cell? ⟨gb266, 2, none⟩ = some (.int .i64 a2_2) ∧ w'.cell? ⟨gb275, 0, none⟩ = some (.int .i64 t271) ∧ w'.cell? ⟨gb275, 1, none⟩ = some (.int .i64 t272) ∧ w'.cell? ⟨gb275, 2, none⟩ = some (.int .i64 t273) ∧ w'.cell? ⟨gb280, 0, none⟩ = some (.int .i64 t276) ∧ w'.cell? ⟨gb280, 1, none⟩ = some (.int .i64 t277) ∧ w'.cell? ⟨gb280, 2, none⟩ = some (.int .i64 t278)) (ds := []) #[false, false, false, false, false, false, false, false, false, false, false, false, false, false, false, false, false, false, false, false, false, false, false, false, false, false, false, false, false, false, false, false] (by kernel_rfl) rfl rfl ⟨(blk_cell BK265.out 0).trans rfl, (blk_cell BK265.out 1).trans rfl, (blk_cell BK265.out 2).trans rfl, (blk_cell BK266.out 0).trans rfl, (blk_cell BK266.out 1).trans rfl, (blk_cell BK266.out 2).trans rfl, (blk_cell BK275.out 0).trans rfl, (blk_cell BK275.out 1).trans rfl, (blk_cell BK275.out 2).trans rfl, (blk_cell BK280.out 0).trans rfl, (blk_cell BK280.out 1).trans rfl, (blk_cell BK280.out 2).trans rfl⟩ (fun hHeld => ?_); refine with_tabW fuseelaw14_OptionTells.tab6 fuseelaw14_OptionTells.bits6 (fun HT_ HW_ => ?_)
                            generalize w156.drew = w157 at BK265 BK266 BK267 BK268 BK269 BK275 BK280 HB hHeld ⊢
                            refine take_ (i := 0) (N := some 80) (v := ?_) (a' := ?_) #[true, false, false, false, false, false, false, false, false, false, false, false, false, false, false, false, false, false, false, false, false, false, false, false, false, false, false, false, false, false, false, false] rfl rfl (take_ofW HT_.out HW_.out (by kernel_rfl)) (fun _ _ _ h => h) (Or.inl ⟨by rfl, ?_⟩) hHeld ?_ ?_
                            rotate_left
                            · rintro w' ⟨s0, s1, s2, s3, s4, s5, s6, s7, s8, s9, s10, s11⟩
                              go_simp
                              with_reducible rfl
                            rotate_left; focus (simp only [Act.put, List.setIfInBounds_toArray, List.set_cons_zero, List.set_cons_succ, i64_w, i32_w]; rfl)
                            refine take_ (i := 1) (N := some 81) (v := ?_) (a' := ?_) #[true, true, false, false, false, false, false, false, false, false, false, false, false, false, false, false, false, false, false, false, false, false, false, false, false, false, false, false, false, false, false, false] rfl rfl (take_ofW HT_.out HW_.out (by kernel_rfl)) (fun _ _ _ h => h) (Or.inl ⟨by rfl, ?_⟩) hHeld ?_ ?_
                            rotate_left
                            · rintro w' ⟨s0, s1, s2, s3, s4, s5, s6, s7, s8, s9, s10, s11⟩
                              go_simp
                              with_reducible rfl
                            rotate_left; focus (simp only [Act.put, List.setIfInBounds_toArray, List.set_cons_zero, List.set_cons_succ, i64_w, i32_w]; rfl)
                            refine take_ (i := 3) (N := some 83) (v := ?_) (a' := ?_) #[true, true, false, true, false, false, false, false, false, false, false, false, false, false, false, false, false, false, false, false, false, false, false, false, false, false, false, false, false, false, false, false] rfl rfl (take_ofW HT_.out HW_.out (by kernel_rfl)) (fun _ _ _ h => h) (Or.inl ⟨by rfl, ?_⟩) hHeld ?_ ?_
                            rotate_left
                            · rintro w' ⟨s0, s1, s2, s3, s4, s5, s6, s7, s8, s9, s10, s11⟩
                              go_simp
                              with_reducible rfl
                            rotate_left; focus (simp only [Act.put, List.setIfInBounds_toArray, List.set_cons_zero, List.set_cons_succ, i64_w, i32_w]; rfl)
                            refine take_ (i := 4) (N := some 84) (v := ?_) (a' := ?_) #[true, true, false, true, true, false, false, false, false, false, false, false, false, false, false, false, false, false, false, false, false, false, false, false, false, false, false, false, false, false, false, false] rfl rfl (take_ofW HT_.out HW_.out (by kernel_rfl)) (fun _ _ _ h => h) (Or.inl ⟨by rfl, ?_⟩) hHeld ?_ ?_
                            rotate_left
                            · rintro w' ⟨s0, s1, s2, s3, s4, s5, s6, s7, s8, s9, s10, s11⟩
                              go_simp
                              with_reducible rfl
                            rotate_left; focus (simp only [Act.put, List.setIfInBounds_toArray, List.set_cons_zero, List.set_cons_succ, i64_w, i32_w]; rfl)
                            refine one_ (i := 2) (N := some 82) #[true, true, true, true, true, false, false, false, false, false, false, false, false, false, false, false, false, false, false, false, false, false, false, false, false, false, false, false, false, false, false, false] rfl rfl (one_of HT_.out (by kernel_rfl)) (by decide) (fun K hK => ?_)
                            refine goes_ Try.func9 (by kernel_rfl) rfl #[.agg #[.int .i64 a1_0, .int .i64 a1_1, .int .i64 a1_2], .agg #[.int .i64 a2_0, .int .i64 a2_1, .int .i64 a2_2]] (by rfl) rfl rfl (by (try simp only [List.map_toArray, List.map_cons, List.map_nil]); first | done | rfl | (simp only [List.length_drop, List.length_take]; rfl)) ?_
                            with_reducible refine (option_Less.calls a1_0 a1_1 a1_2 a2_0 a2_1 a2_2 t281 _ A107.out).mono ?_
                            rintro e w158 ⟨rfl, hb⟩
                            refine ⟨_, rfl, ?_⟩
                            have n0_ := bb BK265 hb
                            have n1_ := bb BK266 hb
                            have n2_ := bb BK267 hb
                            have n3_ := bb BK268 hb
                            have n4_ := bb BK269 hb
                            have n5_ := bb BK275 hb
                            have n6_ := bb BK280 hb
                            have n7_ := bs HB hb
                            clear BK265
                            clear BK266
                            clear BK267
                            clear BK268
                            clear BK269
                            clear BK275
                            clear BK280
                            clear HB
                            have BK265 := n0_
                            have BK266 := n1_
                            have BK267 := n2_
                            have BK268 := n3_
                            have BK269 := n4_
                            have BK275 := n5_
                            have BK280 := n6_
                            have HB := n7_
                            clear n0_ n1_ n2_ n3_ n4_ n5_ n6_ n7_
                            (try clear hb)
                            (try clear hb2)
                            (try clear hk)
                            (try clear hi)
                            refine hK.out _ _ ⟨(blk_cell BK265.out 0).trans rfl, (blk_cell BK265.out 1).trans rfl, (blk_cell BK265.out 2).trans rfl, (blk_cell BK266.out 0).trans rfl, (blk_cell BK266.out 1).trans rfl, (blk_cell BK266.out 2).trans rfl, (blk_cell BK275.out 0).trans rfl, (blk_cell BK275.out 1).trans rfl, (blk_cell BK275.out 2).trans rfl, (blk_cell BK280.out 0).trans rfl, (blk_cell BK280.out 1).trans rfl, (blk_cell BK280.out 2).trans rfl⟩ (fun hHeld => ?_)
                            clear hK K
                            refine norm_ (a' := ?_) ?_ ?_
                            rotate_left
                            · show Act.put _ (some 82) _ = _
                              simp only [Act.put, List.setIfInBounds_toArray, List.set_cons_zero, List.set_cons_succ, i64_w, i32_w]
                              rfl
                            refine one_ (i := 5) (N := some 85) #[true, true, true, true, true, true, false, false, false, false, false, false, false, false, false, false, false, false, false, false, false, false, false, false, false, false, false, false, false, false, false, false] rfl rfl (one_of HT_.out (by kernel_rfl)) (by decide) (fun K hK => ?_)
                            refine goes_ Try.func15 (by kernel_rfl) rfl #[.agg #[.int .i64 a1_0, .int .i64 a1_1, .int .i64 a1_2], .agg #[.int .i64 a2_0, .int .i64 a2_1, .int .i64 a2_2]] (by rfl) rfl rfl (by (try simp only [List.map_toArray, List.map_cons, List.map_nil]); first | done | rfl | (simp only [List.length_drop, List.length_take]; rfl)) ?_
                            with_reducible refine (fuseeref14_Less.calls a1_0 a1_1 a1_2 a2_0 a2_1 a2_2 t282 _ A108.out).mono ?_
                            rintro e w159 ⟨rfl, hb⟩
                            refine ⟨_, rfl, ?_⟩
                            have n0_ := bb BK265 hb
                            have n1_ := bb BK266 hb
                            have n2_ := bb BK267 hb
                            have n3_ := bb BK268 hb
                            have n4_ := bb BK269 hb
                            have n5_ := bb BK275 hb
                            have n6_ := bb BK280 hb
                            have n7_ := bs HB hb
                            clear BK265
                            clear BK266
                            clear BK267
                            clear BK268
                            clear BK269
                            clear BK275
                            clear BK280
                            clear HB
                            have BK265 := n0_
                            have BK266 := n1_
                            have BK267 := n2_
                            have BK268 := n3_
                            have BK269 := n4_
                            have BK275 := n5_
                            have BK280 := n6_
                            have HB := n7_
                            clear n0_ n1_ n2_ n3_ n4_ n5_ n6_ n7_
                            (try clear hb)
                            (try clear hb2)
                            (try clear hk)
                            (try clear hi)
                            refine hK.out _ _ ⟨(blk_cell BK265.out 0).trans rfl, (blk_cell BK265.out 1).trans rfl, (blk_cell BK265.out 2).trans rfl, (blk_cell BK266.out 0).trans rfl, (blk_cell BK266.out 1).trans rfl, (blk_cell BK266.out 2).trans rfl, (blk_cell BK275.out 0).trans rfl, (blk_cell BK275.out 1).trans rfl, (blk_cell BK275.out 2).trans rfl, (blk_cell BK280.out 0).trans rfl, (blk_cell BK280.out 1).trans rfl, (blk_cell BK280.out 2).trans rfl⟩ (fun hHeld => ?_)
                            clear hK K
                            refine norm_ (a' := ?_) ?_ ?_
                            rotate_left
                            · show Act.put _ (some 85) _ = _
                              simp only [Act.put, List.setIfInBounds_toArray, List.set_cons_zero, List.set_cons_succ, i64_w, i32_w]
                              rfl
                            refine pure_ (i := 6) (N := some 86) (v := ?_) (a' := ?_) #[true, true, true, true, true, true, true, false, false, false, false, false, false, false, false, false, false, false, false, false, false, false, false, false, false, false, false, false, false, false, false, false] rfl rfl (any_of HT_.out (by kernel_rfl)) (fun _ _ _ h => h) (Or.inl ⟨by rfl, ?_⟩) ?_ ?_
                            rotate_left; focus (intro w'; go_simp; with_reducible rfl)
                            rotate_left; focus (simp only [Act.put, List.setIfInBounds_toArray, List.set_cons_zero, List.set_cons_succ, i64_w, i32_w]; rfl)
                            refine pure_ (i := 7) (N := some 87) (v := ?_) (a' := ?_) #[true, true, true, true, true, true, true, true, false, false, false, false, false, false, false, false, false, false, false, false, false, false, false, false, false, false, false, false, false, false, false, false] rfl rfl (any_of HT_.out (by kernel_rfl)) (fun _ _ _ h => h) (Or.inl ⟨by rfl, ?_⟩) ?_ ?_
                            rotate_left; focus (intro w'; go_simp; with_reducible rfl)
                            rotate_left; focus (simp only [Act.put, List.setIfInBounds_toArray, List.set_cons_zero, List.set_cons_succ, i64_w, i32_w]; rfl)
                            refine pure_ (i := 8) (N := some 88) (v := ?_) (a' := ?_) #[true, true, true, true, true, true, true, true, true, false, false, false, false, false, false, false, false, false, false, false, false, false, false, false, false, false, false, false, false, false, false, false] rfl rfl (any_of HT_.out (by kernel_rfl)) (fun _ _ _ h => h) (Or.inl ⟨by rfl, ?_⟩) ?_ ?_
                            rotate_left; focus (intro w'; go_simp; with_reducible rfl)
                            rotate_left; focus (simp only [Act.put, List.setIfInBounds_toArray, List.set_cons_zero, List.set_cons_succ, i64_w, i32_w]; rfl)
                            refine pure_ (i := 10) (N := some 90) (v := ?_) (a' := ?_) #[true, true, true, true, true, true, true, true, true, false, true, false, false, false, false, false, false, false, false, false, false, false, false, false, false, false, false, false, false, false, false, false] rfl rfl (any_of HT_.out (by kernel_rfl)) (fun _ _ _ h => h) (Or.inl ⟨by rfl, ?_⟩) ?_ ?_
                            rotate_left; focus (intro w'; go_simp; with_reducible rfl)
                            rotate_left; focus (simp only [Act.put, List.setIfInBounds_toArray, List.set_cons_zero, List.set_cons_succ, i64_w, i32_w]; rfl)
                            refine one_ (i := 9) (N := some 89) #[true, true, true, true, true, true, true, true, true, true, true, false, false, false, false, false, false, false, false, false, false, false, false, false, false, false, false, false, false, false, false, false] rfl rfl (one_of HT_.out (by kernel_rfl)) (by decide) (fun K hK => ?_)
                            refine goes_ Try.func17 (by kernel_rfl) rfl #[.slice A0 l0.length c0] (by rfl) rfl rfl (by (try simp only [List.map_toArray, List.map_cons, List.map_nil]); first | done | rfl | (simp only [List.length_drop, List.length_take]; rfl)) ?_
                            with_reducible refine (option_Sort.calls _ _ l0 t283 _ ?side1 ?side2 A110.out).mono ?_
                            (case side1 => repeat (first | exact (Kd.C_below HR0.out HB.out) | (with_reducible refine Kd.C_alloc ?_ _) | (with_reducible refine Kd.C_drewN ?_ _) | (with_reducible refine Kd.C_drew ?_)))
                            (case side2 => exact HC0.out)
                            rintro e w160 ⟨v284, rfl, ho0, hb⟩
                            refine ⟨_, rfl, ?_⟩
                            have n0_ := Aside0.mk (Kd.R_lower (Kd.R_newB (Kd.R_newB (Kd.R_newB (Kd.R_newB ho0 (g := gb265) (o := .cells #[.int .i64 a1_0, .int .i64 a1_1, .int .i64 a1_2] 23 (0, 0)) (by (with_reducible repeat (first | refine bN ?_ _ | refine bD ?_ | refine bA ?_ _)); exact BK265.out)) (g := gb266) (o := .cells #[.int .i64 a2_0, .int .i64 a2_1, .int .i64 a2_2] 23 (0, 0)) (by (with_reducible repeat (first | refine bN ?_ _ | refine bD ?_ | refine bA ?_ _)); exact BK266.out)) (g := gb275) (o := .cells #[.int .i64 t271, .int .i64 t272, .int .i64 t273] 23 (0, 0)) (by (with_reducible repeat (first | refine bN ?_ _ | refine bD ?_ | refine bA ?_ _)); exact BK275.out)) (g := gb280) (o := .cells #[.int .i64 t276, .int .i64 t277, .int .i64 t278] 23 (0, 0)) (by (with_reducible repeat (first | refine bN ?_ _ | refine bD ?_ | refine bA ?_ _)); exact BK280.out)) (below_size (by repeat (first | (with_reducible first | exact HB.out | apply below_alloc | apply pw_below_drewN | apply below_drew1 | refine below_set ?_ GE265.out | refine below_set ?_ GE266.out | refine below_set ?_ GE267.out | refine below_set ?_ GE268.out | refine below_set ?_ GE269.out | refine below_set ?_ GE275.out | refine below_set ?_ GE280.out) | exact HB.out))))
                            have n1_ := bb BK265 hb
                            have n2_ := bb BK266 hb
                            have n3_ := bb BK267 hb
                            have n4_ := bb BK268 hb
                            have n5_ := bb BK269 hb
                            have n6_ := bb BK275 hb
                            have n7_ := bb BK280 hb
                            have n8_ := bs HB hb
                            clear BK265
                            clear BK266
                            clear BK267
                            clear BK268
                            clear BK269
                            clear BK275
                            clear BK280
                            clear HB
                            have HO285 := n0_
                            have BK265 := n1_
                            have BK266 := n2_
                            have BK267 := n3_
                            have BK268 := n4_
                            have BK269 := n5_
                            have BK275 := n6_
                            have BK280 := n7_
                            have HB := n8_
                            clear n0_ n1_ n2_ n3_ n4_ n5_ n6_ n7_ n8_
                            (try clear hb)
                            (try clear hb2)
                            (try clear hk)
                            (try clear hi)
                            (try clear ho0)
                            refine hK.out _ _ ⟨(blk_cell BK265.out 0).trans rfl, (blk_cell BK265.out 1).trans rfl, (blk_cell BK265.out 2).trans rfl, (blk_cell BK266.out 0).trans rfl, (blk_cell BK266.out 1).trans rfl, (blk_cell BK266.out 2).trans rfl, (blk_cell BK275.out 0).trans rfl, (blk_cell BK275.out 1).trans rfl, (blk_cell BK275.out 2).trans rfl, (blk_cell BK280.out 0).trans rfl, (blk_cell BK280.out 1).trans rfl, (blk_cell BK280.out 2).trans rfl⟩ (fun hHeld => ?_)
                            clear hK K
                            refine norm_ (a' := ?_) ?_ ?_
                            rotate_left
                            · show Act.put _ (some 89) _ = _
                              simp only [Act.put, List.setIfInBounds_toArray, List.set_cons_zero, List.set_cons_succ, i64_w, i32_w]
                              rfl
                            refine one_ (i := 11) (N := some 91) #[true, true, true, true, true, true, true, true, true, true, true, true, false, false, false, false, false, false, false, false, false, false, false, false, false, false, false, false, false, false, false, false] rfl rfl (one_of HT_.out (by kernel_rfl)) (by decide) (fun K hK => ?_)
                            refine goes_ Try.func18 (by kernel_rfl) rfl #[.slice A0 l0.length c0] (by rfl) rfl rfl (by (try simp only [List.map_toArray, List.map_cons, List.map_nil]); first | done | rfl | (simp only [List.length_drop, List.length_take]; rfl)) ?_
                            with_reducible refine (fuseeref14_Sort.calls k _ _ l0 t286 _ ?side1 ?side2 A111.out).mono ?_
                            (case side1 => repeat (first | exact (Kd.C_below HR0.out HB.out) | (with_reducible refine Kd.C_alloc ?_ _) | (with_reducible refine Kd.C_drewN ?_ _) | (with_reducible refine Kd.C_drew ?_)))
                            (case side2 => exact HC0.out)
                            rintro e w161 ⟨v287, rfl, ho0, hb⟩
                            refine ⟨_, rfl, ?_⟩
                            have n0_ := Aside0.mk (Kd.R_elder' (by (with_reducible repeat (first | apply Kd.R_alloc | apply Kd.R_drewN | apply Kd.R_drew)); exact HO285.out) (Kd.R_base ho0) hb)
                            have n1_ := Aside0.mk (Kd.R_lower (Kd.R_newB (Kd.R_newB (Kd.R_newB (Kd.R_newB (Kd.R_new' ho0 (Kd.R_lt (by (with_reducible repeat (first | apply Kd.R_alloc | apply Kd.R_drewN | apply Kd.R_drew)); exact HO285.out))) (g := gb265) (o := .cells #[.int .i64 a1_0, .int .i64 a1_1, .int .i64 a1_2] 23 (0, 0)) (by (with_reducible repeat (first | refine bN ?_ _ | refine bD ?_ | refine bA ?_ _)); exact BK265.out)) (g := gb266) (o := .cells #[.int .i64 a2_0, .int .i64 a2_1, .int .i64 a2_2] 23 (0, 0)) (by (with_reducible repeat (first | refine bN ?_ _ | refine bD ?_ | refine bA ?_ _)); exact BK266.out)) (g := gb275) (o := .cells #[.int .i64 t271, .int .i64 t272, .int .i64 t273] 23 (0, 0)) (by (with_reducible repeat (first | refine bN ?_ _ | refine bD ?_ | refine bA ?_ _)); exact BK275.out)) (g := gb280) (o := .cells #[.int .i64 t276, .int .i64 t277, .int .i64 t278] 23 (0, 0)) (by (with_reducible repeat (first | refine bN ?_ _ | refine bD ?_ | refine bA ?_ _)); exact BK280.out)) (below_size (by repeat (first | (with_reducible first | exact HB.out | apply below_alloc | apply pw_below_drewN | apply below_drew1 | refine below_set ?_ GE265.out | refine below_set ?_ GE266.out | refine below_set ?_ GE267.out | refine below_set ?_ GE268.out | refine below_set ?_ GE269.out | refine below_set ?_ GE275.out | refine below_set ?_ GE280.out) | exact HB.out))))
                            have n2_ := bb BK265 hb
                            have n3_ := bb BK266 hb
                            have n4_ := bb BK267 hb
                            have n5_ := bb BK268 hb
                            have n6_ := bb BK269 hb
                            have n7_ := bb BK275 hb
                            have n8_ := bb BK280 hb
                            have n9_ := bs HB hb
                            clear HO285
                            clear BK265
                            clear BK266
                            clear BK267
                            clear BK268
                            clear BK269
                            clear BK275
                            clear BK280
                            clear HB
                            have HO285 := n0_
                            have HO288 := n1_
                            have BK265 := n2_
                            have BK266 := n3_
                            have BK267 := n4_
                            have BK268 := n5_
                            have BK269 := n6_
                            have BK275 := n7_
                            have BK280 := n8_
                            have HB := n9_
                            clear n0_ n1_ n2_ n3_ n4_ n5_ n6_ n7_ n8_ n9_
                            (try clear hb)
                            (try clear hb2)
                            (try clear hk)
                            (try clear hi)
                            (try clear ho0)
                            obtain ⟨Ao162, co162, eo162⟩ := Kd.R_slice HO285.out
                            (first | subst eo162 | (injection eo162 with f1_ f2_ f3_; have f4_ := f1_.symm; have f5_ := f3_.symm; clear f1_ f2_ f3_; subst f4_; subst f5_))
                            obtain ⟨Ao163, co163, eo163⟩ := Kd.R_slice HO288.out
                            (first | subst eo163 | (injection eo163 with f1_ f2_ f3_; have f4_ := f1_.symm; have f5_ := f3_.symm; clear f1_ f2_ f3_; subst f4_; subst f5_))
                            refine hK.out _ _ ⟨(blk_cell BK265.out 0).trans rfl, (blk_cell BK265.out 1).trans rfl, (blk_cell BK265.out 2).trans rfl, (blk_cell BK266.out 0).trans rfl, (blk_cell BK266.out 1).trans rfl, (blk_cell BK266.out 2).trans rfl, (blk_cell BK275.out 0).trans rfl, (blk_cell BK275.out 1).trans rfl, (blk_cell BK275.out 2).trans rfl, (blk_cell BK280.out 0).trans rfl, (blk_cell BK280.out 1).trans rfl, (blk_cell BK280.out 2).trans rfl⟩ (fun hHeld => ?_)
                            clear hK K
                            refine norm_ (a' := ?_) ?_ ?_
                            rotate_left
                            · show Act.put _ (some 91) _ = _
                              simp only [Act.put, List.setIfInBounds_toArray, List.set_cons_zero, List.set_cons_succ, i64_w, i32_w]
                              rfl
                            refine one_ (i := 12) (N := some 92) #[true, true, true, true, true, true, true, true, true, true, true, true, true, false, false, false, false, false, false, false, false, false, false, false, false, false, false, false, false, false, false, false] rfl rfl (one_of HT_.out (by kernel_rfl)) (by decide) (fun K hK => ?_)
                            refine goes_ Try.func16 (by kernel_rfl) rfl #[.slice Ao162 t283.length co162, .slice Ao163 t286.length co163] (by rfl) rfl rfl (by (try simp only [List.map_toArray, List.map_cons, List.map_nil]); first | done | rfl | (simp only [List.length_drop, List.length_take]; rfl)) ?_
                            with_reducible refine (fuseeref14_Same.calls k _ _ t283 _ _ t286 true _ ?side1 ?side2 ?side3 ?side4 A112.out).mono ?_
                            (case side1 => repeat (first | exact (Kd.R_reads' HO285.out).2.2 | (with_reducible refine Kd.C_alloc ?_ _) | (with_reducible refine Kd.C_drewN ?_ _) | (with_reducible refine Kd.C_drew ?_)))
                            (case side2 => exact (Kd.R_reads' HO285.out).2.1)
                            (case side3 => repeat (first | exact (Kd.R_reads' HO288.out).2.2 | (with_reducible refine Kd.C_alloc ?_ _) | (with_reducible refine Kd.C_drewN ?_ _) | (with_reducible refine Kd.C_drew ?_)))
                            (case side4 => exact (Kd.R_reads' HO288.out).2.1)
                            rintro e w' ⟨rfl, ⟨nd, rfl⟩⟩
                            refine ⟨_, rfl, ?_⟩
                            refine hK.out _ _ ⟨(blk_cell BK265.out 0).trans rfl, (blk_cell BK265.out 1).trans rfl, (blk_cell BK265.out 2).trans rfl, (blk_cell BK266.out 0).trans rfl, (blk_cell BK266.out 1).trans rfl, (blk_cell BK266.out 2).trans rfl, (blk_cell BK275.out 0).trans rfl, (blk_cell BK275.out 1).trans rfl, (blk_cell BK275.out 2).trans rfl, (blk_cell BK280.out 0).trans rfl, (blk_cell BK280.out 1).trans rfl, (blk_cell BK280.out 2).trans rfl⟩ (fun hHeld => ?_)
                            clear hK K
                            refine norm_ (a' := ?_) ?_ ?_
                            rotate_left
                            · show Act.put _ (some 92) _ = _
                              simp only [Act.put, List.setIfInBounds_toArray, List.set_cons_zero, List.set_cons_succ, i64_w, i32_w]
                              rfl
                            refine pure_ (i := 13) (N := some 93) (v := ?_) (a' := ?_) #[true, true, true, true, true, true, true, true, true, true, true, true, true, true, false, false, false, false, false, false, false, false, false, false, false, false, false, false, false, false, false, false] rfl rfl (any_of HT_.out (by kernel_rfl)) (fun _ _ _ h => h) (Or.inl ⟨by rfl, ?_⟩) ?_ ?_
                            rotate_left; focus (intro w'; go_simp; with_reducible rfl)
                            rotate_left; focus (simp only [Act.put, List.setIfInBounds_toArray, List.set_cons_zero, List.set_cons_succ, i64_w, i32_w]; rfl)
                            refine pure_ (i := 14) (N := some 94) (v := ?_) (a' := ?_) #[true, true, true, true, true, true, true, true, true, true, true, true, true, true, true, false, false, false, false, false, false, false, false, false, false, false, false, false, false, false, false, false] rfl rfl (any_of HT_.out (by kernel_rfl)) (fun _ _ _ h => h) (Or.inl ⟨by rfl, ?_⟩) ?_ ?_
                            rotate_left; focus (intro w'; go_simp; with_reducible rfl)
                            rotate_left; focus (simp only [Act.put, List.setIfInBounds_toArray, List.set_cons_zero, List.set_cons_succ, i64_w, i32_w]; rfl)
                            refine pure_ (i := 15) (N := some 95) (v := ?_) (a' := ?_) #[true, true, true, true, true, true, true, true, true, true, true, true, true, true, true, true, false, false, false, false, false, false, false, false, false, false, false, false, false, false, false, false] rfl rfl (any_of HT_.out (by kernel_rfl)) (fun _ _ _ h => h) (Or.inl ⟨by rfl, ?_⟩) ?_ ?_
                            rotate_left; focus (intro w'; go_simp; with_reducible rfl)
                            rotate_left; focus (simp only [Act.put, List.setIfInBounds_toArray, List.set_cons_zero, List.set_cons_succ, i64_w, i32_w]; rfl)
                            refine pure_ (i := 17) (N := some 97) (v := ?_) (a' := ?_) #[true, true, true, true, true, true, true, true, true, true, true, true, true, true, true, true, false, true, false, false, false, false, false, false, false, false, false, false, false, false, false, false] rfl rfl (any_of HT_.out (by kernel_rfl)) (fun _ _ _ h => h) (Or.inl ⟨by rfl, ?_⟩) ?_ ?_
                            rotate_left; focus (intro w'; go_simp; with_reducible rfl)
                            rotate_left; focus (simp only [Act.put, List.setIfInBounds_toArray, List.set_cons_zero, List.set_cons_succ, i64_w, i32_w]; rfl)
                            refine one_ (i := 16) (N := some 96) #[true, true, true, true, true, true, true, true, true, true, true, true, true, true, true, true, true, true, false, false, false, false, false, false, false, false, false, false, false, false, false, false] rfl rfl (one_of HT_.out (by kernel_rfl)) (by decide) (fun K hK => ?_)
                            refine goes_ Try.func19 (by kernel_rfl) rfl #[.slice A0 l0.length c0] (by rfl) rfl rfl (by (try simp only [List.map_toArray, List.map_cons, List.map_nil]); first | done | rfl | (simp only [List.length_drop, List.length_take]; rfl)) ?_
                            with_reducible refine (option_First.calls k _ _ l0 t290 _ ?side1 ?side2 A114.out).mono ?_
                            (case side1 => repeat (first | exact (Kd.C_below HR0.out (by repeat (first | (with_reducible first | exact HB.out | apply below_alloc | apply pw_below_drewN | apply below_drew1 | refine below_set ?_ GE265.out | refine below_set ?_ GE266.out | refine below_set ?_ GE267.out | refine below_set ?_ GE268.out | refine below_set ?_ GE269.out | refine below_set ?_ GE275.out | refine below_set ?_ GE280.out) | exact HB.out))) | (with_reducible refine Kd.C_alloc ?_ _) | (with_reducible refine Kd.C_drewN ?_ _) | (with_reducible refine Kd.C_drew ?_)))
                            (case side2 => exact HC0.out)
                            rintro e w164 ⟨rfl, hb⟩
                            refine ⟨_, rfl, ?_⟩
                            have n0_ := Aside0.mk (Kd.R_below (by (with_reducible repeat (first | apply Kd.R_alloc | apply Kd.R_drewN | apply Kd.R_drew)); exact HO285.out) hb)
                            have n1_ := Aside0.mk (Kd.R_below (by (with_reducible repeat (first | apply Kd.R_alloc | apply Kd.R_drewN | apply Kd.R_drew)); exact HO288.out) hb)
                            have n2_ := bb BK265 hb
                            have n3_ := bb BK266 hb
                            have n4_ := bb BK267 hb
                            have n5_ := bb BK268 hb
                            have n6_ := bb BK269 hb
                            have n7_ := bb BK275 hb
                            have n8_ := bb BK280 hb
                            have n9_ := bs HB hb
                            clear HO285
                            clear HO288
                            clear BK265
                            clear BK266
                            clear BK267
                            clear BK268
                            clear BK269
                            clear BK275
                            clear BK280
                            clear HB
                            have HO285 := n0_
                            have HO288 := n1_
                            have BK265 := n2_
                            have BK266 := n3_
                            have BK267 := n4_
                            have BK268 := n5_
                            have BK269 := n6_
                            have BK275 := n7_
                            have BK280 := n8_
                            have HB := n9_
                            clear n0_ n1_ n2_ n3_ n4_ n5_ n6_ n7_ n8_ n9_
                            (try clear hb)
                            (try clear hb2)
                            (try clear hk)
                            (try clear hi)
                            refine hK.out _ _ ⟨(blk_cell BK265.out 0).trans rfl, (blk_cell BK265.out 1).trans rfl, (blk_cell BK265.out 2).trans rfl, (blk_cell BK266.out 0).trans rfl, (blk_cell BK266.out 1).trans rfl, (blk_cell BK266.out 2).trans rfl, (blk_cell BK275.out 0).trans rfl, (blk_cell BK275.out 1).trans rfl, (blk_cell BK275.out 2).trans rfl, (blk_cell BK280.out 0).trans rfl, (blk_cell BK280.out 1).trans rfl, (blk_cell BK280.out 2).trans rfl⟩ (fun hHeld => ?_)
                            clear hK K
                            refine norm_ (a' := ?_) ?_ ?_
                            rotate_left
                            · show Act.put _ (some 96) _ = _
                              simp only [Act.put, List.setIfInBounds_toArray, List.set_cons_zero, List.set_cons_succ, i64_w, i32_w]
                              rfl
                            refine one_ (i := 18) (N := some 98) #[true, true, true, true, true, true, true, true, true, true, true, true, true, true, true, true, true, true, true, false, false, false, false, false, false, false, false, false, false, false, false, false] rfl rfl (one_of HT_.out (by kernel_rfl)) (by decide) (fun K hK => ?_)
                            refine goes_ Try.func20 (by kernel_rfl) rfl #[.slice A0 l0.length c0] (by rfl) rfl rfl (by (try simp only [List.map_toArray, List.map_cons, List.map_nil]); first | done | rfl | (simp only [List.length_drop, List.length_take]; rfl)) ?_
                            with_reducible refine (fuseeref14_First.calls k _ _ l0 t291 _ ?side1 ?side2 A115.out).mono ?_
                            (case side1 => repeat (first | exact (Kd.C_below HR0.out HB.out) | (with_reducible refine Kd.C_alloc ?_ _) | (with_reducible refine Kd.C_drewN ?_ _) | (with_reducible refine Kd.C_drew ?_)))
                            (case side2 => exact HC0.out)
                            rintro e w165 ⟨rfl, hb⟩
                            refine ⟨_, rfl, ?_⟩
                            have n0_ := Aside0.mk (Kd.R_below (by (with_reducible repeat (first | apply Kd.R_alloc | apply Kd.R_drewN | apply Kd.R_drew)); exact HO285.out) hb)
                            have n1_ := Aside0.mk (Kd.R_below (by (with_reducible repeat (first | apply Kd.R_alloc | apply Kd.R_drewN | apply Kd.R_drew)); exact HO288.out) hb)
                            have n2_ := bb BK265 hb
                            have n3_ := bb BK266 hb
                            have n4_ := bb BK267 hb
                            have n5_ := bb BK268 hb
                            have n6_ := bb BK269 hb
                            have n7_ := bb BK275 hb
                            have n8_ := bb BK280 hb
                            have n9_ := bs HB hb
                            clear HO285
                            clear HO288
                            clear BK265
                            clear BK266
                            clear BK267
                            clear BK268
                            clear BK269
                            clear BK275
                            clear BK280
                            clear HB
                            have HO285 := n0_
                            have HO288 := n1_
                            have BK265 := n2_
                            have BK266 := n3_
                            have BK267 := n4_
                            have BK268 := n5_
                            have BK269 := n6_
                            have BK275 := n7_
                            have BK280 := n8_
                            have HB := n9_
                            clear n0_ n1_ n2_ n3_ n4_ n5_ n6_ n7_ n8_ n9_
                            (try clear hb)
                            (try clear hb2)
                            (try clear hk)
                            (try clear hi)
                            refine hK.out _ _ ⟨(blk_cell BK265.out 0).trans rfl, (blk_cell BK265.out 1).trans rfl, (blk_cell BK265.out 2).trans rfl, (blk_cell BK266.out 0).trans rfl, (blk_cell BK266.out 1).trans rfl, (blk_cell BK266.out 2).trans rfl, (blk_cell BK275.out 0).trans rfl, (blk_cell BK275.out 1).trans rfl, (blk_cell BK275.out 2).trans rfl, (blk_cell BK280.out 0).trans rfl, (blk_cell BK280.out 1).trans rfl, (blk_cell BK280.out 2).trans rfl⟩ (fun hHeld => ?_)
                            clear hK K
                            refine norm_ (a' := ?_) ?_ ?_
                            rotate_left
                            · show Act.put _ (some 98) _ = _
                              simp only [Act.put, List.setIfInBounds_toArray, List.set_cons_zero, List.set_cons_succ, i64_w, i32_w]
                              rfl
                            refine pure_ (i := 19) (N := some 99) (v := ?_) (a' := ?_) #[true, true, true, true, true, true, true, true, true, true, true, true, true, true, true, true, true, true, true, true, false, false, false, false, false, false, false, false, false, false, false, false] rfl rfl (any_of HT_.out (by kernel_rfl)) (fun _ _ _ h => h) (Or.inl ⟨by rfl, ?_⟩) ?_ ?_
                            rotate_left; focus (intro w'; go_simp; with_reducible rfl)
                            rotate_left; focus (simp only [Act.put, List.setIfInBounds_toArray, List.set_cons_zero, List.set_cons_succ, i64_w, i32_w]; rfl)
                            refine pure_ (i := 20) (N := some 100) (v := ?_) (a' := ?_) #[true, true, true, true, true, true, true, true, true, true, true, true, true, true, true, true, true, true, true, true, true, false, false, false, false, false, false, false, false, false, false, false] rfl rfl (any_of HT_.out (by kernel_rfl)) (fun _ _ _ h => h) (Or.inl ⟨by rfl, ?_⟩) ?_ ?_
                            rotate_left; focus (intro w'; go_simp; with_reducible rfl)
                            rotate_left; focus (simp only [Act.put, List.setIfInBounds_toArray, List.set_cons_zero, List.set_cons_succ, i64_w, i32_w]; rfl)
                            refine pure_ (i := 21) (N := some 101) (v := ?_) (a' := ?_) #[true, true, true, true, true, true, true, true, true, true, true, true, true, true, true, true, true, true, true, true, true, true, false, false, false, false, false, false, false, false, false, false] rfl rfl (any_of HT_.out (by kernel_rfl)) (fun _ _ _ h => h) (Or.inl ⟨by rfl, ?_⟩) ?_ ?_
                            rotate_left; focus (intro w'; go_simp; with_reducible rfl)
                            rotate_left; focus (simp only [Act.put, List.setIfInBounds_toArray, List.set_cons_zero, List.set_cons_succ, i64_w, i32_w]; rfl)
                            refine take_ (i := 22) (N := some 102) (v := ?_) (a' := ?_) #[true, true, true, true, true, true, true, true, true, true, true, true, true, true, true, true, true, true, true, true, true, true, true, false, false, false, false, false, false, false, false, false] rfl rfl (take_ofW HT_.out HW_.out (by kernel_rfl)) (fun _ _ _ h => h) (Or.inl ⟨by rfl, ?_⟩) hHeld ?_ ?_
                            rotate_left
                            · rintro w' ⟨s0, s1, s2, s3, s4, s5, s6, s7, s8, s9, s10, s11⟩
                              go_simp
                              with_reducible rfl
                            rotate_left; focus (simp only [Act.put, List.setIfInBounds_toArray, List.set_cons_zero, List.set_cons_succ, i64_w, i32_w]; rfl)
                            refine take_ (i := 23) (N := some 103) (v := ?_) (a' := ?_) #[true, true, true, true, true, true, true, true, true, true, true, true, true, true, true, true, true, true, true, true, true, true, true, true, false, false, false, false, false, false, false, false] rfl rfl (take_ofW HT_.out HW_.out (by kernel_rfl)) (fun _ _ _ h => h) (Or.inl ⟨by rfl, ?_⟩) hHeld ?_ ?_
                            rotate_left
                            · rintro w' ⟨s0, s1, s2, s3, s4, s5, s6, s7, s8, s9, s10, s11⟩
                              go_simp
                              with_reducible rfl
                            rotate_left; focus (simp only [Act.put, List.setIfInBounds_toArray, List.set_cons_zero, List.set_cons_succ, i64_w, i32_w]; rfl)
                            refine pure_ (i := 24) (N := some 104) (v := ?_) (a' := ?_) #[true, true, true, true, true, true, true, true, true, true, true, true, true, true, true, true, true, true, true, true, true, true, true, true, true, false, false, false, false, false, false, false] rfl rfl (any_of HT_.out (by kernel_rfl)) (fun _ _ _ h => h) (Or.inl ⟨by rfl, ?_⟩) ?_ ?_
                            rotate_left; focus (intro w'; go_simp; with_reducible rfl)
                            rotate_left; focus (simp only [Act.put, List.setIfInBounds_toArray, List.set_cons_zero, List.set_cons_succ, i64_w, i32_w]; rfl)
                            refine pure_ (i := 25) (N := some 105) (v := ?_) (a' := ?_) #[true, true, true, true, true, true, true, true, true, true, true, true, true, true, true, true, true, true, true, true, true, true, true, true, true, true, false, false, false, false, false, false] rfl rfl (any_of HT_.out (by kernel_rfl)) (fun _ _ _ h => h) (Or.inl ⟨by rfl, ?_⟩) ?_ ?_
                            rotate_left; focus (intro w'; go_simp; with_reducible rfl)
                            rotate_left; focus (simp only [Act.put, List.setIfInBounds_toArray, List.set_cons_zero, List.set_cons_succ, i64_w, i32_w]; rfl)
                            refine pure_ (i := 26) (N := some 106) (v := ?_) (a' := ?_) #[true, true, true, true, true, true, true, true, true, true, true, true, true, true, true, true, true, true, true, true, true, true, true, true, true, true, true, false, false, false, false, false] rfl rfl (any_of HT_.out (by kernel_rfl)) (fun _ _ _ h => h) (Or.inl ⟨by rfl, ?_⟩) ?_ ?_
                            rotate_left; focus (intro w'; go_simp; with_reducible rfl)
                            rotate_left; focus (simp only [Act.put, List.setIfInBounds_toArray, List.set_cons_zero, List.set_cons_succ, i64_w, i32_w]; rfl)
                            refine pure_ (i := 27) (N := some 107) (v := ?_) (a' := ?_) #[true, true, true, true, true, true, true, true, true, true, true, true, true, true, true, true, true, true, true, true, true, true, true, true, true, true, true, true, false, false, false, false] rfl rfl (any_of HT_.out (by kernel_rfl)) (fun _ _ _ h => h) (Or.inl ⟨by rfl, ?_⟩) ?_ ?_
                            rotate_left; focus (intro w'; go_simp; with_reducible rfl)
                            rotate_left; focus (simp only [Act.put, List.setIfInBounds_toArray, List.set_cons_zero, List.set_cons_succ, i64_w, i32_w]; rfl)
                            refine pure_ (i := 28) (N := some 108) (v := ?_) (a' := ?_) #[true, true, true, true, true, true, true, true, true, true, true, true, true, true, true, true, true, true, true, true, true, true, true, true, true, true, true, true, true, false, false, false] rfl rfl (any_of HT_.out (by kernel_rfl)) (fun _ _ _ h => h) (Or.inl ⟨by rfl, ?_⟩) ?_ ?_
                            rotate_left; focus (intro w'; go_simp; with_reducible rfl)
                            rotate_left; focus (simp only [Act.put, List.setIfInBounds_toArray, List.set_cons_zero, List.set_cons_succ, i64_w, i32_w]; rfl)
                            refine pure_ (i := 29) (N := some 109) (v := ?_) (a' := ?_) #[true, true, true, true, true, true, true, true, true, true, true, true, true, true, true, true, true, true, true, true, true, true, true, true, true, true, true, true, true, true, false, false] rfl rfl (any_of HT_.out (by kernel_rfl)) (fun _ _ _ h => h) (Or.inl ⟨by rfl, ?_⟩) ?_ ?_
                            rotate_left; focus (intro w'; go_simp; with_reducible rfl)
                            rotate_left; focus (simp only [Act.put, List.setIfInBounds_toArray, List.set_cons_zero, List.set_cons_succ, i64_w, i32_w]; rfl)
                            refine pure_ (i := 30) (N := some 110) (v := ?_) (a' := ?_) #[true, true, true, true, true, true, true, true, true, true, true, true, true, true, true, true, true, true, true, true, true, true, true, true, true, true, true, true, true, true, true, false] rfl rfl (any_of HT_.out (by kernel_rfl)) (fun _ _ _ h => h) (Or.inl ⟨by rfl, ?_⟩) ?_ ?_
                            rotate_left; focus (intro w'; go_simp; with_reducible rfl)
                            rotate_left; focus (simp only [Act.put, List.setIfInBounds_toArray, List.set_cons_zero, List.set_cons_succ, i64_w, i32_w]; rfl)
                            refine pure_ (i := 31) (N := some 14) (v := ?_) (a' := ?_) #[true, true, true, true, true, true, true, true, true, true, true, true, true, true, true, true, true, true, true, true, true, true, true, true, true, true, true, true, true, true, true, true] rfl rfl (any_of HT_.out (by kernel_rfl)) (fun _ _ _ h => h) (Or.inl ⟨by rfl, ?_⟩) ?_ ?_
                            rotate_left; focus (intro w'; go_simp; with_reducible rfl)
                            rotate_left; focus (simp only [Act.put, List.setIfInBounds_toArray, List.set_cons_zero, List.set_cons_succ, i64_w, i32_w]; rfl)
                            refine done_ (done_of HT_.out (by kernel_rfl)) ?_
                            try go_wp2
                            go_ret
                            exact ⟨by first | rfl | (simp [errW_none, errW_some] <;> rfl) | (simp [*, errW_none, errW_some] <;> rfl) | (exfalso; first | contradiction | (revert c109b0 c116b0 c117b0; simp +contextual; done)), by repeat (first | (with_reducible first | exact HB.out | apply below_alloc | apply pw_below_drewN | apply below_drew1 | refine below_set ?_ GE265.out | refine below_set ?_ GE266.out | refine below_set ?_ GE267.out | refine below_set ?_ GE268.out | refine below_set ?_ GE269.out | refine below_set ?_ GE275.out | refine below_set ?_ GE280.out) | exact HB.out)⟩
                          · rw [if_neg c117] at H
                            have c117b0 : (t271 == t276 && (t272 == t277 && (t273 == t278))) = false := by simpa using c117
                            (try (have c117b1 : decide (t271 = t276 && (t272 == t277 && (t273 == t278))) = false := by simpa using c117))
                            (try (have c117b2 : (t271 == t276 && (t272 == t277 && (t273 == t278))) = false := by simpa using c117))
                            (try (have c117b3 : ¬ (t271 = t276 && (t272 == t277 && (t273 == t278))) := by simpa using c117))
                            clear c117
                            exact absurd H (by simp)
                        · rw [if_neg c116] at H
                          have c116b0 : (t290 == t291) = false := beq_eq_false_iff_ne.mpr c116
                          have c116b1 : (t290 != t291) = true := bne_iff_ne.mpr c116
                          exact absurd H (by simp)
                      · replace c113 := Bool.eq_false_iff.mpr c113
                        subst c113
                        rw [if_neg (show ¬ (false = true) by decide)] at H
                        exact absurd H (by simp)
                    · rw [if_neg c109] at H
                      have c109b0 : (t281 == t282) = false := by simpa using c109
                      (try (have c109b1 : decide (t281 = t282) = false := by simpa using c109))
                      (try (have c109b2 : (t281 == t282) = false := by simpa using c109))
                      (try (have c109b3 : ¬ (t281 = t282) := by simpa using c109))
                      clear c109
                      exact absurd H (by simp)
  · replace c9 := Bool.eq_false_iff.mpr c9
    subst c9
    rw [if_neg (show ¬ (false = true) by decide)] at H
    obtain rfl := Option.some.inj H
    go_enter Try.func5, Try.ntmps5
    go_wp2_with (first | ((with_reducible refine gate_dst (N := 8) rfl ?_); (try (refine gate_guard (by rfl) ?_; dsimp only)); refine box_event ?hg (N := 8) ?hd (cs := #[.int .i64 a1_0, .int .i64 a1_1, .int .i64 a1_2]) (t := 23) ?hr ?_; (case hd => rfl); (case hg => rfl); (case hr => first | (go_simp; done) | (go_simp; rfl)); intro gb265 hg w166 hbox hb; have n0_ := bs HB hb; have n1_ := Aside0.mk (hbox); have n2_ := bz HB hg; have n3_ := bz HB hg; clear HB; have HB := n0_; have BK265 := n1_; have GW265 := n2_; have GE265 := n3_; clear n0_ n1_ n2_ n3_; clear hb hbox hg) | ((with_reducible refine gate_dst (N := 9) rfl ?_); (try (refine gate_guard (by rfl) ?_; dsimp only)); refine box_event ?hg (N := 9) ?hd (cs := #[.int .i64 a2_0, .int .i64 a2_1, .int .i64 a2_2]) (t := 23) ?hr ?_; (case hd => rfl); (case hg => rfl); (case hr => first | (go_simp; done) | (go_simp; rfl)); intro gb266 hg w167 hbox hb; have n0_ := bb BK265 hb; have n1_ := bs HB hb; have n2_ := Aside0.mk (hbox); have n3_ := bz HB hg; have n4_ := bz HB hg; have n5_ := bl BK265 hg; have n6_ := bg BK265 hg; clear BK265; clear HB; have BK265 := n0_; have HB := n1_; have BK266 := n2_; have GW266 := n3_; have GE266 := n4_; have NB265_266 := n5_; have NB266_265 := n6_; clear n0_ n1_ n2_ n3_ n4_ n5_ n6_; clear hb hbox hg) | ((with_reducible refine gate_dst (N := 11) rfl ?_); (try (refine gate_guard (by rfl) ?_; dsimp only)); refine box_event ?hg (N := 11) ?hd (cs := #[.int .i64 a4_0, .int .i64 a4_1, .int .i64 a4_2, .int .i64 a4_3, .int .i64 a4_4, .int .i64 a4_5]) (t := 28) ?hr ?_; (case hd => rfl); (case hg => rfl); (case hr => first | (go_simp; done) | (go_simp; rfl)); intro gb267 hg w168 hbox hb; have n0_ := bb BK265 hb; have n1_ := bb BK266 hb; have n2_ := bs HB hb; have n3_ := Aside0.mk (hbox); have n4_ := bz HB hg; have n5_ := bz HB hg; have n6_ := bl BK265 hg; have n7_ := bg BK265 hg; have n8_ := bl BK266 hg; have n9_ := bg BK266 hg; clear BK265; clear BK266; clear HB; have BK265 := n0_; have BK266 := n1_; have HB := n2_; have BK267 := n3_; have GW267 := n4_; have GE267 := n5_; have NB265_267 := n6_; have NB267_265 := n7_; have NB266_267 := n8_; have NB267_266 := n9_; clear n0_ n1_ n2_ n3_ n4_ n5_ n6_ n7_ n8_ n9_; clear hb hbox hg) | ((with_reducible refine gate_dst (N := 12) rfl ?_); (try (refine gate_guard (by rfl) ?_; dsimp only)); refine box_event ?hg (N := 12) ?hd (cs := #[.bool a5_0, .int .i64 a5_1, .int .i64 a5_2, .int .i64 a5_3, .bool a5_4, .int .i64 a5_5, .int .i64 a5_6, .int .i64 a5_7]) (t := 30) ?hr ?_; (case hd => rfl); (case hg => rfl); (case hr => first | (go_simp; done) | (go_simp; rfl)); intro gb268 hg w169 hbox hb; have n0_ := bb BK265 hb; have n1_ := bb BK266 hb; have n2_ := bb BK267 hb; have n3_ := bs HB hb; have n4_ := Aside0.mk (hbox); have n5_ := bz HB hg; have n6_ := bz HB hg; have n7_ := bl BK265 hg; have n8_ := bg BK265 hg; have n9_ := bl BK266 hg; have n10_ := bg BK266 hg; have n11_ := bl BK267 hg; have n12_ := bg BK267 hg; clear BK265; clear BK266; clear BK267; clear HB; have BK265 := n0_; have BK266 := n1_; have BK267 := n2_; have HB := n3_; have BK268 := n4_; have GW268 := n5_; have GE268 := n6_; have NB265_268 := n7_; have NB268_265 := n8_; have NB266_268 := n9_; have NB268_266 := n10_; have NB267_268 := n11_; have NB268_267 := n12_; clear n0_ n1_ n2_ n3_ n4_ n5_ n6_ n7_ n8_ n9_ n10_ n11_ n12_; clear hb hbox hg) | ((with_reducible refine gate_dst (N := 13) rfl ?_); (try (refine gate_guard (by rfl) ?_; dsimp only)); refine box_event ?hg (N := 13) ?hd (cs := #[.int .i64 a6_0, .int .u64 a6_1]) (t := 33) ?hr ?_; (case hd => rfl); (case hg => rfl); (case hr => first | (go_simp; done) | (go_simp; rfl)); intro gb269 hg w170 hbox hb; have n0_ := bb BK265 hb; have n1_ := bb BK266 hb; have n2_ := bb BK267 hb; have n3_ := bb BK268 hb; have n4_ := bs HB hb; have n5_ := Aside0.mk (hbox); have n6_ := bz HB hg; have n7_ := bz HB hg; have n8_ := bl BK265 hg; have n9_ := bg BK265 hg; have n10_ := bl BK266 hg; have n11_ := bg BK266 hg; have n12_ := bl BK267 hg; have n13_ := bg BK267 hg; have n14_ := bl BK268 hg; have n15_ := bg BK268 hg; clear BK265; clear BK266; clear BK267; clear BK268; clear HB; have BK265 := n0_; have BK266 := n1_; have BK267 := n2_; have BK268 := n3_; have HB := n4_; have BK269 := n5_; have GW269 := n6_; have GE269 := n7_; have NB265_269 := n8_; have NB269_265 := n9_; have NB266_269 := n10_; have NB269_266 := n11_; have NB267_269 := n12_; have NB269_267 := n13_; have NB268_269 := n14_; have NB269_268 := n15_; clear n0_ n1_ n2_ n3_ n4_ n5_ n6_ n7_ n8_ n9_ n10_ n11_ n12_ n13_ n14_ n15_; clear hb hbox hg) | ((with_reducible refine gate_callee (f := 8) rfl ?_); refine goesL_ (some 20) rfl rfl Try.func8 (by kernel_rfl) rfl #[] rfl (by (try simp only [List.map_toArray, List.map_cons, List.map_nil]); first | done | rfl | (simp only [List.length_drop, List.length_take]; rfl)) ?_; (with_reducible refine (fuseelaw14_awake.calls k  false _ A8.out).mono ?_); rintro e w171 ⟨rfl, hb⟩; refine ⟨_, rfl, ?_⟩; have n0_ := bb BK265 hb; have n1_ := bb BK266 hb; have n2_ := bb BK267 hb; have n3_ := bb BK268 hb; have n4_ := bb BK269 hb; have n5_ := bs HB hb; clear BK265; clear BK266; clear BK267; clear BK268; clear BK269; clear HB; have BK265 := n0_; have BK266 := n1_; have BK267 := n2_; have BK268 := n3_; have BK269 := n4_; have HB := n5_; clear n0_ n1_ n2_ n3_ n4_ n5_; (try clear hb); (try clear hb2); (try clear hk); (try clear hi)))
    go_ret
    exact ⟨by first | rfl | (simp [errW_none, errW_some] <;> rfl) | (simp [*, errW_none, errW_some] <;> rfl) | (exfalso; contradiction), by repeat (first | (with_reducible first | exact HB.out | apply below_alloc | apply pw_below_drewN | apply below_drew1 | refine below_set ?_ GE265.out | refine below_set ?_ GE266.out | refine below_set ?_ GE267.out | refine below_set ?_ GE268.out | refine below_set ?_ GE269.out) | exact HB.out)⟩

end Go.Proofs.Ytceldebkpjgmkaa.P
