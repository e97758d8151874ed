-- Written by a program of this session (hprint.py), out of the translation; functions that the print does not take are given by hand.
import Derived.Test.YtceldebkpjgmkaaPx0
import Derived.Test.YtceldebkpjgmkaaPx3
import Derived.Test.YtceldebkpjgmkaaPx4
import Derived.Test.YtceldebkpjgmkaaPx6
import Derived.Test.YtceldebkpjgmkaaPx11
import Derived.Test.YtceldebkpjgmkaaPx12
namespace Go.Proofs.Ytceldebkpjgmkaa.P
open Go.RowKit Go.Proofs.YtceldebkpjgmkaaM Go.Proofs.YtceldebkpjgmkaaW.PrintWords Go.Proofs.YtceldebkpjgmkaaW.PrintLast Go.Proofs.YtceldebkpjgmkaaW.PrintMore
attribute [local go_sem] max2_int min2_int max_two min_two max_three min_three max_four min_four   -- for this text's walks alone
set_option linter.unusedVariables false
set_option linter.unusedSimpArgs false

/-! ### fuseelaw14_OptionFar: function 4 -/
def fuseelaw14_OptionFar.f (k : Nat) (a0 : Int) (a1_0 : Int) (a1_1 : Int) (a1_2 : Int) (a1_3 : Int) (a1_4 : Int) (a1_5 : Int) (a2_0 : Bool) (a2_1 : Int) (a2_2 : Int) (a2_3 : Int) (a2_4 : Bool) (a2_5 : Int) (a2_6 : Int) (a2_7 : Int) (a3_0 : Int) (a3_1 : Int) : Option (Bool) := (fuseelaw14_awake.f k).bind fun t172 => (if t172 = true then ((job_May.f a1_0 a1_1 a1_2 a1_3 a1_4 a1_5 a2_0 a2_1 a2_2 a2_3 a2_4 a2_5 a2_6 a2_7).bind fun t173 => (if t173 = true then ((ring_May.f a3_0 a3_1).bind fun t174 => (if t174 = true then ((option_Of.f k a0 a1_0 a1_1 a1_2 a1_3 a1_4 a1_5 a2_0 a2_1 a2_2 a2_3 a2_4 a2_5 a2_6 a2_7 a3_0 a3_1).bind fun bt175 => ((ring_Put.f a3_0 a3_1 true).bind fun bt180 => ((option_Of.f k a0 a1_0 a1_1 a1_2 a1_3 a1_4 a1_5 a2_0 a2_1 a2_2 a2_3 a2_4 a2_5 a2_6 a2_7 bt180.1 bt180.2).bind fun bt182 => (if (bt175.2.2.2 != bt182.2.2.2) = true then (none) else (if a2_0 = true then (if (bt175.2.2.2 != (!a2_4)) = true then (none) else (if bt175.2.2.2 = true then (if bt175.1 ≤ bt182.1 then (if bt175.2.1 = a2_3 then (if bt175.2.2.1 = a0 then (if bt182.2.1 = a2_3 then (if bt175.1 ≥ 0 then (some (decide (bt175.1 ≤ a1_4))) else (none)) else (none)) else (none)) else (none)) else (none)) else (some true))) else (if (bt175.2.2.2 != false) = true then (none) else (if bt175.2.2.2 = true then (if bt175.1 ≤ bt182.1 then (if bt175.2.1 = a2_3 then (if bt175.2.2.1 = a0 then (if bt182.2.1 = a2_3 then (if bt175.1 ≥ 0 then (some (decide (bt175.1 ≤ a1_4))) else (none)) else (none)) else (none)) else (none)) else (none)) else (some true)))))))) else (some t172))) else (some t172))) else (some t172))
theorem fuseelaw14_OptionFar.mono : ∀ a0 a1 a2 a3 a4 a5 a6 a7 a8 a9 a10 a11 a12 a13 a14 a15 a16 k, LeO (fuseelaw14_OptionFar.f k a0 a1 a2 a3 a4 a5 a6 a7 a8 a9 a10 a11 a12 a13 a14 a15 a16) (fuseelaw14_OptionFar.f (k + 1) a0 a1 a2 a3 a4 a5 a6 a7 a8 a9 a10 a11 a12 a13 a14 a15 a16) := by
  intro a0 a1 a2 a3 a4 a5 a6 a7 a8 a9 a10 a11 a12 a13 a14 a15 a16 k
  unfold fuseelaw14_OptionFar.f
  repeat' first
      | (with_reducible exact fuseelaw14_awake.mono _)
      | (with_reducible exact option_Of.mono _ _ _ _ _ _ _ _ _ _ _ _ _ _ _ _ _ _)
      | (with_reducible exact LeO.refl _)
      | (with_reducible exact LeO.none _)
      | (with_reducible refine LeO.ite ?_ ?_)
      | (with_reducible refine LeO.bind ?_ (fun _ => ?_))
      | exact fuseelaw14_awake.mono _
      | exact option_Of.mono _ _ _ _ _ _ _ _ _ _ _ _ _ _ _ _ _ _
      | exact LeO.none _
      | refine LeO.ite ?_ ?_
      | refine LeO.bind ?_ (fun _ => ?_)
def fuseelaw14_OptionFar.T5 : Bool × List (List Nat × List Nat) := (true, [([], []), ([], []), ([], []), ([], []), ([3], [3]), ([0, 1, 2, 4, 4], [0, 1, 2, 4]), ([5], [5]), ([6], [6]), ([6], [6]), ([], []), ([9, 7, 5, 0, 1, 2, 3, 4, 5, 6, 7, 9], [7, 9]), ([8, 10, 0, 1, 2, 3, 4, 5, 6, 7, 8, 9, 10], [8])])
def fuseelaw14_OptionFar.B5 : List Nat := [0, 0, 0, 0, 8, 31, 63, 127, 127, 0, 767, 2047]
theorem fuseelaw14_OptionFar.tab5 : rtab .any (opsOf Try.f4 5) = fuseelaw14_OptionFar.T5 := by kernel_rfl
theorem fuseelaw14_OptionFar.bits5 : waitsOk fuseelaw14_OptionFar.T5.2 fuseelaw14_OptionFar.B5 = true := by kernel_rfl
set_option maxHeartbeats 64000000 in
set_option maxRecDepth 100000 in
theorem fuseelaw14_OptionFar.calls (k : Nat) (a0 : Int) (a1_0 : Int) (a1_1 : Int) (a1_2 : Int) (a1_3 : Int) (a1_4 : Int) (a1_5 : Int) (a2_0 : Bool) (a2_1 : Int) (a2_2 : Int) (a2_3 : Int) (a2_4 : Bool) (a2_5 : Int) (a2_6 : Int) (a2_7 : Int) (a3_0 : Int) (a3_1 : Int) (r : Bool) (w : World) (h : fuseelaw14_OptionFar.f k a0 a1_0 a1_1 a1_2 a1_3 a1_4 a1_5 a2_0 a2_1 a2_2 a2_3 a2_4 a2_5 a2_6 a2_7 a3_0 a3_1 = some r) :
    Calls Try.prog 4 #[.int .i64 a0, .agg #[.int .i64 a1_0, .int .i64 a1_1, .int .i64 a1_2, .int .i64 a1_3, .int .i64 a1_4, .int .i64 a1_5], .agg #[.bool a2_0, .int .i64 a2_1, .int .i64 a2_2, .int .i64 a2_3, .bool a2_4, .int .i64 a2_5, .int .i64 a2_6, .int .i64 a2_7], .agg #[.int .i64 a3_0, .int .u64 a3_1]] w fun e w' => e = .returned (.bool r) ∧ Below w.heap.size w w' := by
  have hu28 := Try.underlying28
  have hu30 := Try.underlying30
  have hu33 := Try.underlying33
  have hu23 := Try.underlying23
  have HB := Aside0.mk (Below.refl w.heap.size w)
  have H : ((fuseelaw14_awake.f k).bind fun t172 => (if t172 = true then ((job_May.f a1_0 a1_1 a1_2 a1_3 a1_4 a1_5 a2_0 a2_1 a2_2 a2_3 a2_4 a2_5 a2_6 a2_7).bind fun t173 => (if t173 = true then ((ring_May.f a3_0 a3_1).bind fun t174 => (if t174 = true then ((option_Of.f k a0 a1_0 a1_1 a1_2 a1_3 a1_4 a1_5 a2_0 a2_1 a2_2 a2_3 a2_4 a2_5 a2_6 a2_7 a3_0 a3_1).bind fun bt175 => ((ring_Put.f a3_0 a3_1 true).bind fun bt180 => ((option_Of.f k a0 a1_0 a1_1 a1_2 a1_3 a1_4 a1_5 a2_0 a2_1 a2_2 a2_3 a2_4 a2_5 a2_6 a2_7 bt180.1 bt180.2).bind fun bt182 => (if (bt175.2.2.2 != bt182.2.2.2) = true then (none) else (if a2_0 = true then (if (bt175.2.2.2 != (!a2_4)) = true then (none) else (if bt175.2.2.2 = true then (if bt175.1 ≤ bt182.1 then (if bt175.2.1 = a2_3 then (if bt175.2.2.1 = a0 then (if bt182.2.1 = a2_3 then (if bt175.1 ≥ 0 then (some (decide (bt175.1 ≤ a1_4))) else (none)) else (none)) else (none)) else (none)) else (none)) else (some true))) else (if (bt175.2.2.2 != false) = true then (none) else (if bt175.2.2.2 = true then (if bt175.1 ≤ bt182.1 then (if bt175.2.1 = a2_3 then (if bt175.2.2.1 = a0 then (if bt182.2.1 = a2_3 then (if bt175.1 ≥ 0 then (some (decide (bt175.1 ≤ a1_4))) else (none)) else (none)) else (none)) else (none)) else (none)) else (some true)))))))) else (some t172))) else (some t172))) else (some t172))) = some r := h
  clear h
  replace H := Option.bind_eq_some_iff.mp H
  obtain ⟨t172, A50, H⟩ := H
  try dsimp only at H
  have A5 := Aside0.mk A50
  clear A50
  by_cases c6 : t172 = true
  · subst c6
    rw [if_pos rfl] at H
    replace H := Option.bind_eq_some_iff.mp H
    obtain ⟨t173, A70, H⟩ := H
    try dsimp only at H
    have A7 := Aside0.mk A70
    clear A70
    by_cases c8 : t173 = true
    · subst c8
      rw [if_pos rfl] at H
      replace H := Option.bind_eq_some_iff.mp H
      obtain ⟨t174, A90, H⟩ := H
      try dsimp only at H
      have A9 := Aside0.mk A90
      clear A90
      by_cases c10 : t174 = true
      · subst c10
        rw [if_pos rfl] at H
        replace H := Option.bind_eq_some_iff.mp H
        obtain ⟨⟨t175, t176, t177, t178⟩, A110, H⟩ := H
        try dsimp only at H
        have A11 := Aside0.mk A110
        clear A110
        replace H := Option.bind_eq_some_iff.mp H
        obtain ⟨⟨t180, t181⟩, A120, H⟩ := H
        try dsimp only at H
        have A12 := Aside0.mk A120
        clear A120
        replace H := Option.bind_eq_some_iff.mp H
        obtain ⟨⟨t182, t183, t184, t185⟩, A130, H⟩ := H
        try dsimp only at H
        have A13 := Aside0.mk A130
        clear A130
        by_cases c14 : (t178 != t185) = true
        · rw [if_pos c14] at H
          exact absurd H (by simp)
        · rw [if_neg c14] at H
          have c14b0 : (t178 != t185) = false := by simpa using c14
          (try (have c14b1 : decide (t178 = t185) = true := by simpa using c14))
          (try (have c14b2 : (t178 == t185) = true := by simpa using c14))
          clear c14
          by_cases c15 : a2_0 = true
          · subst c15
            rw [if_pos rfl] at H
            by_cases c16 : (t178 != (!a2_4)) = true
            · rw [if_pos c16] at H
              exact absurd H (by simp)
            · rw [if_neg c16] at H
              have c16b0 : (t178 != (!a2_4)) = false := by simpa using c16
              (try (have c16b1 : decide (t178 = (!a2_4)) = true := by simpa using c16))
              (try (have c16b2 : (t178 == (!a2_4)) = true := by simpa using c16))
              clear c16
              by_cases c17 : t178 = true
              · subst c17
                obtain rfl : t185 = true := by simpa using c14b0
                obtain rfl : a2_4 = false := by simpa using c16b0
                rw [if_pos rfl] at H
                by_cases c18 : t175 ≤ t182
                · rw [if_pos c18] at H
                  have c18b0 : decide (t175 ≤ t182) = true := decide_eq_true c18
                  clear c18
                  by_cases c19 : t176 = a2_3
                  · rw [if_pos c19] at H
                    have c19b0 : (t176 == a2_3) = true := beq_iff_eq.mpr c19
                    have c19b1 : (t176 != a2_3) = false := bne_eq_false_iff_eq.mpr c19
                    clear c19
                    by_cases c20 : t177 = a0
                    · rw [if_pos c20] at H
                      have c20b0 : (t177 == a0) = true := beq_iff_eq.mpr c20
                      have c20b1 : (t177 != a0) = false := bne_eq_false_iff_eq.mpr c20
                      clear c20
                      by_cases c21 : t183 = a2_3
                      · rw [if_pos c21] at H
                        have c21b0 : (t183 == a2_3) = true := beq_iff_eq.mpr c21
                        have c21b1 : (t183 != a2_3) = false := bne_eq_false_iff_eq.mpr c21
                        clear c21
                        by_cases c22 : t175 ≥ 0
                        · rw [if_pos c22] at H
                          have c22b0 : decide (0 ≤ t175) = true := decide_eq_true c22
                          clear c22
                          obtain rfl := Option.some.inj H
                          go_enter Try.func4, Try.ntmps4
                          try go_wp2_with (first | ((with_reducible refine gate_dst (N := 5) rfl ?_); refine box_event ?hg (N := 5) ?hd (cs := #[.int .i64 a1_0, .int .i64 a1_1, .int .i64 a1_2, .int .i64 a1_3, .int .i64 a1_4, .int .i64 a1_5]) (t := 28) ?hr ?_; (case hd => rfl); (case hg => rfl); (case hr => first | (go_simp; done) | (go_simp; rfl)); intro gb169 hg w23 hbox hb; have n0_ := bs HB hb; have n1_ := Aside0.mk (hbox); have n2_ := bz HB hg; have n3_ := bz HB hg; clear HB; have HB := n0_; have BK169 := n1_; have GW169 := n2_; have GE169 := n3_; clear n0_ n1_ n2_ n3_; clear hb hbox hg) | ((with_reducible refine gate_dst (N := 6) rfl ?_); refine box_event ?hg (N := 6) ?hd (cs := #[.bool true, .int .i64 a2_1, .int .i64 a2_2, .int .i64 a2_3, .bool false, .int .i64 a2_5, .int .i64 a2_6, .int .i64 a2_7]) (t := 30) ?hr ?_; (case hd => rfl); (case hg => rfl); (case hr => first | (go_simp; done) | (go_simp; rfl)); intro gb170 hg w24 hbox hb; have n0_ := bb BK169 hb; have n1_ := bs HB hb; have n2_ := Aside0.mk (hbox); have n3_ := bz HB hg; have n4_ := bz HB hg; have n5_ := bl BK169 hg; have n6_ := bg BK169 hg; clear BK169; clear HB; have BK169 := n0_; have HB := n1_; have BK170 := n2_; have GW170 := n3_; have GE170 := n4_; have NB169_170 := n5_; have NB170_169 := n6_; clear n0_ n1_ n2_ n3_ n4_ n5_ n6_; clear hb hbox hg) | ((with_reducible refine gate_dst (N := 7) rfl ?_); refine box_event ?hg (N := 7) ?hd (cs := #[.int .i64 a3_0, .int .u64 a3_1]) (t := 33) ?hr ?_; (case hd => rfl); (case hg => rfl); (case hr => first | (go_simp; done) | (go_simp; rfl)); intro gb171 hg w25 hbox hb; have n0_ := bb BK169 hb; have n1_ := bb BK170 hb; have n2_ := bs HB hb; have n3_ := Aside0.mk (hbox); have n4_ := bz HB hg; have n5_ := bz HB hg; have n6_ := bl BK169 hg; have n7_ := bg BK169 hg; have n8_ := bl BK170 hg; have n9_ := bg BK170 hg; clear BK169; clear BK170; clear HB; have BK169 := n0_; have BK170 := n1_; have HB := n2_; have BK171 := n3_; have GW171 := n4_; have GE171 := n5_; have NB169_171 := n6_; have NB171_169 := n7_; have NB170_171 := n8_; have NB171_170 := n9_; clear n0_ n1_ n2_ n3_ n4_ n5_ n6_ n7_ n8_ n9_; clear hb hbox hg) | ((with_reducible refine gate_callee (f := 8) rfl ?_); refine goesL_ (some 14) rfl rfl Try.func8 (by kernel_rfl) rfl #[] rfl (by (try simp only [List.map_toArray, List.map_cons, List.map_nil]); first | done | rfl | (simp only [List.length_drop, List.length_take]; rfl)) ?_; (with_reducible refine (fuseelaw14_awake.calls k  true _ A5.out).mono ?_); rintro e w26 ⟨rfl, hb⟩; refine ⟨_, rfl, ?_⟩; have n0_ := bb BK169 hb; have n1_ := bb BK170 hb; have n2_ := bb BK171 hb; have n3_ := bs HB hb; clear BK169; clear BK170; clear BK171; clear HB; have BK169 := n0_; have BK170 := n1_; have BK171 := n2_; have HB := n3_; clear n0_ n1_ n2_ n3_; (try clear hb); (try clear hb2); (try clear hk); (try clear hi); have hnb27 := NB169_170.out; have hnc27 := NB170_169.out; have hnb28 := NB169_171.out; have hnc28 := NB171_169.out; obtain ⟨hcz29_0, hcz29_1, hcz29_2, hcz29_3, hcz29_4, hcz29_5⟩ := cc6 BK169; obtain ⟨hfz29_0, hfz29_1, hfz29_2, hfz29_3, hfz29_4, hfz29_5⟩ := cf6 BK169; have hnb30 := NB170_171.out; have hnc30 := NB171_170.out; obtain ⟨hcz31_0, hcz31_1, hcz31_2, hcz31_3, hcz31_4, hcz31_5, hcz31_6, hcz31_7⟩ := cc8 BK170; obtain ⟨hfz31_0, hfz31_1, hfz31_2, hfz31_3, hfz31_4, hfz31_5, hfz31_6, hfz31_7⟩ := cf8 BK170) | (go_at_call 10; (with_reducible refine (job_May.calls a1_0 a1_1 a1_2 a1_3 a1_4 a1_5 true a2_1 a2_2 a2_3 false a2_5 a2_6 a2_7 true _ A7.out).mono ?_); rintro e w32 ⟨rfl, hb⟩; have n0_ := bb BK169 hb; have n1_ := bb BK170 hb; have n2_ := bb BK171 hb; have n3_ := bs HB hb; clear BK169; clear BK170; clear BK171; clear HB; have BK169 := n0_; have BK170 := n1_; have BK171 := n2_; have HB := n3_; clear n0_ n1_ n2_ n3_; (try clear hb); (try clear hb2); (try clear hk); (try clear hi); (try clear hcz29_0 hcz29_1 hcz29_2 hcz29_3 hcz29_4 hcz29_5 hfz29_0 hfz29_1 hfz29_2 hfz29_3 hfz29_4 hfz29_5); (try clear hcz31_0 hcz31_1 hcz31_2 hcz31_3 hcz31_4 hcz31_5 hcz31_6 hcz31_7 hfz31_0 hfz31_1 hfz31_2 hfz31_3 hfz31_4 hfz31_5 hfz31_6 hfz31_7); obtain ⟨hcz33_0, hcz33_1⟩ := cc2 BK171; obtain ⟨hfz33_0, hfz33_1⟩ := cf2 BK171) | (go_at_call 11; (with_reducible refine (ring_May.calls a3_0 a3_1 true _ A9.out).mono ?_); rintro e w34 ⟨rfl, hb⟩; have n0_ := bb BK169 hb; have n1_ := bb BK170 hb; have n2_ := bb BK171 hb; have n3_ := bs HB hb; clear BK169; clear BK170; clear BK171; clear HB; have BK169 := n0_; have BK170 := n1_; have BK171 := n2_; have HB := n3_; clear n0_ n1_ n2_ n3_; (try clear hb); (try clear hb2); (try clear hk); (try clear hi); (try clear hcz29_0 hcz29_1 hcz29_2 hcz29_3 hcz29_4 hcz29_5 hfz29_0 hfz29_1 hfz29_2 hfz29_3 hfz29_4 hfz29_5); (try clear hcz31_0 hcz31_1 hcz31_2 hcz31_3 hcz31_4 hcz31_5 hcz31_6 hcz31_7 hfz31_0 hfz31_1 hfz31_2 hfz31_3 hfz31_4 hfz31_5 hfz31_6 hfz31_7); (try clear hcz33_0 hcz33_1 hfz33_0 hfz33_1); obtain ⟨hcz35_0, hcz35_1, hcz35_2, hcz35_3, hcz35_4, hcz35_5⟩ := cc6 BK169; obtain ⟨hfz35_0, hfz35_1, hfz35_2, hfz35_3, hfz35_4, hfz35_5⟩ := cf6 BK169; obtain ⟨hcz36_0, hcz36_1, hcz36_2, hcz36_3, hcz36_4, hcz36_5, hcz36_6, hcz36_7⟩ := cc8 BK170; obtain ⟨hfz36_0, hfz36_1, hfz36_2, hfz36_3, hfz36_4, hfz36_5, hfz36_6, hfz36_7⟩ := cf8 BK170; obtain ⟨hcz37_0, hcz37_1⟩ := cc2 BK171; obtain ⟨hfz37_0, hfz37_1⟩ := cf2 BK171) | ((with_reducible refine gate_callee (f := 12) rfl ?_); refine goesL_ (some 34) rfl rfl Try.func12 (by kernel_rfl) rfl #[.int .i64 a0, .agg #[.int .i64 a1_0, .int .i64 a1_1, .int .i64 a1_2, .int .i64 a1_3, .int .i64 a1_4, .int .i64 a1_5], .agg #[.bool true, .int .i64 a2_1, .int .i64 a2_2, .int .i64 a2_3, .bool false, .int .i64 a2_5, .int .i64 a2_6, .int .i64 a2_7], .agg #[.int .i64 a3_0, .int .u64 a3_1]] rfl (by (try simp only [List.map_toArray, List.map_cons, List.map_nil]); first | done | rfl | (simp only [List.length_drop, List.length_take]; rfl)) ?_; (with_reducible refine (option_Of.calls k a0 a1_0 a1_1 a1_2 a1_3 a1_4 a1_5 true a2_1 a2_2 a2_3 false a2_5 a2_6 a2_7 a3_0 a3_1 t175 t176 t177 true _ A11.out).mono ?_); rintro e w38 ⟨rfl, hb⟩; refine ⟨_, rfl, ?_⟩; have n0_ := bb BK169 hb; have n1_ := bb BK170 hb; have n2_ := bb BK171 hb; have n3_ := bs HB hb; clear BK169; clear BK170; clear BK171; clear HB; have BK169 := n0_; have BK170 := n1_; have BK171 := n2_; have HB := n3_; clear n0_ n1_ n2_ n3_; (try clear hb); (try clear hb2); (try clear hk); (try clear hi)) | ((with_reducible refine gate_dst (N := 10) rfl ?_); refine box_event ?hg (N := 10) ?hd (cs := #[.int .i64 0, .int .i64 0, .int .i64 0]) (t := 23) ?hr ?_; (case hd => rfl); (case hg => rfl); (case hr => first | (go_simp; done) | (go_simp; rfl)); intro gb179 hg w39 hbox hb; have n0_ := bb BK169 hb; have n1_ := bb BK170 hb; have n2_ := bb BK171 hb; have n3_ := bs HB hb; have n4_ := Aside0.mk (hbox); have n5_ := bz HB hg; have n6_ := bz HB hg; have n7_ := bl BK169 hg; have n8_ := bg BK169 hg; have n9_ := bl BK170 hg; have n10_ := bg BK170 hg; have n11_ := bl BK171 hg; have n12_ := bg BK171 hg; clear BK169; clear BK170; clear BK171; clear HB; have BK169 := n0_; have BK170 := n1_; have BK171 := n2_; have HB := n3_; have BK179 := n4_; have GW179 := n5_; have GE179 := n6_; have NB169_179 := n7_; have NB179_169 := n8_; have NB170_179 := n9_; have NB179_170 := n10_; have NB171_179 := n11_; have NB179_171 := n12_; clear n0_ n1_ n2_ n3_ n4_ n5_ n6_ n7_ n8_ n9_ n10_ n11_ n12_; clear hb hbox hg; have hnb40 := NB179_169.out; have hnc40 := NB169_179.out; have hnb41 := NB179_170.out; have hnc41 := NB170_179.out; have hnb42 := NB179_171.out; have hnc42 := NB171_179.out; (try clear hcz29_0 hcz29_1 hcz29_2 hcz29_3 hcz29_4 hcz29_5 hfz29_0 hfz29_1 hfz29_2 hfz29_3 hfz29_4 hfz29_5); (try clear hcz31_0 hcz31_1 hcz31_2 hcz31_3 hcz31_4 hcz31_5 hcz31_6 hcz31_7 hfz31_0 hfz31_1 hfz31_2 hfz31_3 hfz31_4 hfz31_5 hfz31_6 hfz31_7); (try clear hcz33_0 hcz33_1 hfz33_0 hfz33_1); (try clear hcz35_0 hcz35_1 hcz35_2 hcz35_3 hcz35_4 hcz35_5 hfz35_0 hfz35_1 hfz35_2 hfz35_3 hfz35_4 hfz35_5); (try clear hcz36_0 hcz36_1 hcz36_2 hcz36_3 hcz36_4 hcz36_5 hcz36_6 hcz36_7 hfz36_0 hfz36_1 hfz36_2 hfz36_3 hfz36_4 hfz36_5 hfz36_6 hfz36_7); (try clear hcz37_0 hcz37_1 hfz37_0 hfz37_1); obtain ⟨hcz43_0, hcz43_1, hcz43_2⟩ := cc3 BK179; obtain ⟨hfz43_0, hfz43_1, hfz43_2⟩ := cf3 BK179))
                          have n0_ : Aside0 ((((w39.setCell ⟨gb179, 0, none⟩ (.int .i64 t175)).setCell ⟨gb179, 1, none⟩ (.int .i64 t176)).setCell ⟨gb179, 2, none⟩ (.int .i64 t177)).heap[gb169]? = some (.cells #[.int .i64 a1_0, .int .i64 a1_1, .int .i64 a1_2, .int .i64 a1_3, .int .i64 a1_4, .int .i64 a1_5] 28 (0, 0))) := ⟨by (with_reducible repeat (first | refine bN ?_ _ | refine bD ?_ | refine bA ?_ _ | refine blk_far ?_ NB169_179.out _)); exact BK169.out⟩
                          have n1_ : Aside0 ((((w39.setCell ⟨gb179, 0, none⟩ (.int .i64 t175)).setCell ⟨gb179, 1, none⟩ (.int .i64 t176)).setCell ⟨gb179, 2, none⟩ (.int .i64 t177)).heap[gb170]? = some (.cells #[.bool true, .int .i64 a2_1, .int .i64 a2_2, .int .i64 a2_3, .bool false, .int .i64 a2_5, .int .i64 a2_6, .int .i64 a2_7] 30 (0, 0))) := ⟨by (with_reducible repeat (first | refine bN ?_ _ | refine bD ?_ | refine bA ?_ _ | refine blk_far ?_ NB170_179.out _)); exact BK170.out⟩
                          have n2_ : Aside0 ((((w39.setCell ⟨gb179, 0, none⟩ (.int .i64 t175)).setCell ⟨gb179, 1, none⟩ (.int .i64 t176)).setCell ⟨gb179, 2, none⟩ (.int .i64 t177)).heap[gb171]? = some (.cells #[.int .i64 a3_0, .int .u64 a3_1] 33 (0, 0))) := ⟨by (with_reducible repeat (first | refine bN ?_ _ | refine bD ?_ | refine bA ?_ _ | refine blk_far ?_ NB171_179.out _)); exact BK171.out⟩
                          have n3_ : Aside0 ((((w39.setCell ⟨gb179, 0, none⟩ (.int .i64 t175)).setCell ⟨gb179, 1, none⟩ (.int .i64 t176)).setCell ⟨gb179, 2, none⟩ (.int .i64 t177)).heap[gb179]? = some (.cells #[.int .i64 t175, .int .i64 t176, .int .i64 t177] 23 (0, 0))) := ⟨by (with_reducible repeat (first | refine bN ?_ _ | refine bD ?_ | refine bA ?_ _)); refine blk_put (cs := #[.int .i64 t175, .int .i64 t176, .int .i64 0]) ?_ 2 _ rfl; (with_reducible repeat (first | refine bN ?_ _ | refine bD ?_ | refine bA ?_ _)); refine blk_put (cs := #[.int .i64 t175, .int .i64 0, .int .i64 0]) ?_ 1 _ rfl; (with_reducible repeat (first | refine bN ?_ _ | refine bD ?_ | refine bA ?_ _)); refine blk_put (cs := #[.int .i64 0, .int .i64 0, .int .i64 0]) ?_ 0 _ rfl; (with_reducible repeat (first | refine bN ?_ _ | refine bD ?_ | refine bA ?_ _)); exact BK179.out⟩
                          have n4_ : Aside0 (Below w.heap.size w (((w39.setCell ⟨gb179, 0, none⟩ (.int .i64 t175)).setCell ⟨gb179, 1, none⟩ (.int .i64 t176)).setCell ⟨gb179, 2, none⟩ (.int .i64 t177))) := ⟨by repeat (first | (with_reducible first | exact HB.out | apply below_alloc | apply pw_below_drewN | apply below_drew1 | refine below_set ?_ GE169.out | refine below_set ?_ GE170.out | refine below_set ?_ GE171.out | refine below_set ?_ GE179.out) | exact HB.out)⟩
                          (try clear BK169)
                          (try clear BK170)
                          (try clear BK171)
                          (try clear BK179)
                          (try clear HB)
                          generalize (((w39.setCell ⟨gb179, 0, none⟩ (.int .i64 t175)).setCell ⟨gb179, 1, none⟩ (.int .i64 t176)).setCell ⟨gb179, 2, none⟩ (.int .i64 t177)) = w44 at n0_ n1_ n2_ n3_ n4_ ⊢
                          have BK169 := n0_
                          have BK170 := n1_
                          have BK171 := n2_
                          have BK179 := n3_
                          have HB := n4_
                          clear n0_ n1_ n2_ n3_ n4_
                          have n0_ := Aside0.mk (blk_drew BK169.out)
                          have n1_ := Aside0.mk (blk_drew BK170.out)
                          have n2_ := Aside0.mk (blk_drew BK171.out)
                          have n3_ := Aside0.mk (blk_drew BK179.out)
                          have n4_ := Aside0.mk (below_drew1 HB.out)
                          clear BK169
                          clear BK170
                          clear BK171
                          clear BK179
                          clear HB
                          have BK169 := n0_
                          have BK170 := n1_
                          have BK171 := n2_
                          have BK179 := n3_
                          have HB := n4_
                          clear n0_ n1_ n2_ n3_ n4_
                          refine start_ (n := 12) (S := fun w' => w'.cell? ⟨gb169, 0, none⟩ = some (.int .i64 a1_0) ∧ w'.cell? ⟨gb169, 1, none⟩ = some (.int .i64 a1_1) ∧ w'.cell? ⟨gb169, 2, none⟩ = some (.int .i64 a1_2) ∧ w'.cell? ⟨gb169, 3, none⟩ = some (.int .i64 a1_3) ∧ w'.cell? ⟨gb169, 4, none⟩ = some (.int .i64 a1_4) ∧ w'.cell? ⟨gb169, 5, none⟩ = some (.int .i64 a1_5) ∧ w'.cell? ⟨gb170, 0, none⟩ = some (.bool true) ∧ w'.cell? ⟨gb170, 1, none⟩ = some (.int .i64 a2_1) ∧ w'.cell? ⟨gb170, 2, none⟩ = some (.int .i64 a2_2) ∧ w'.cell? ⟨gb170, 3, none⟩ = some (.int .i64 a2_3) ∧ w'.cell? ⟨gb170, 4, none⟩ = some (.bool false) ∧ w'.cell? ⟨gb170, 5, none⟩ = some (.int .i64 a2_5) ∧ w'.cell? ⟨gb170, 6, none⟩ = some (.int .i64 a2_6) ∧ w'.cell? ⟨gb170, 7, none⟩ = some (.int .i64 a2_7) ∧ w'.cell? ⟨gb171, 0, none⟩ = some (.int .i64 a3_0) ∧ w'.cell? ⟨gb171, 1, none⟩ = some (.int .u64 a3_1)) (ds := []) #[false, false, false, false, false, false, false, false, false, false, false, false] (by kernel_rfl) rfl rfl ⟨(blk_cell BK169.out 0).trans rfl, (blk_cell BK169.out 1).trans rfl, (blk_cell BK169.out 2).trans rfl, (blk_cell BK169.out 3).trans rfl, (blk_cell BK169.out 4).trans rfl, (blk_cell BK169.out 5).trans rfl, (blk_cell BK170.out 0).trans rfl, (blk_cell BK170.out 1).trans rfl, (blk_cell BK170.out 2).trans rfl, (blk_cell BK170.out 3).trans rfl, (blk_cell BK170.out 4).trans rfl, (blk_cell BK170.out 5).trans rfl, (blk_cell BK170.out 6).trans rfl, (blk_cell BK170.out 7).trans rfl, (blk_cell BK171.out 0).trans rfl, (blk_cell BK171.out 1).trans rfl⟩ (fun hHeld => ?_); refine with_tabW fuseelaw14_OptionFar.tab5 fuseelaw14_OptionFar.bits5 (fun HT_ HW_ => ?_)
                          generalize w44.drew = w45 at BK169 BK170 BK171 BK179 HB hHeld ⊢
                          refine pure_ (i := 0) (N := some 38) (v := ?_) (a' := ?_) #[true, false, false, false, false, false, false, false, false, false, false, false] rfl rfl (any_of HT_.out (by kernel_rfl)) (fun _ _ _ h => h) (Or.inl ⟨by rfl, ?_⟩) ?_ ?_
                          rotate_left; focus (intro w'; go_simp; with_reducible rfl)
                          rotate_left; focus (simp only [Act.put, List.setIfInBounds_toArray, List.set_cons_zero, List.set_cons_succ, i64_w, i32_w]; rfl)
                          refine take_ (i := 1) (N := some 39) (v := ?_) (a' := ?_) #[true, true, false, false, false, false, false, false, false, false, false, false] rfl rfl (take_ofW HT_.out HW_.out (by kernel_rfl)) (fun _ _ _ h => h) (Or.inl ⟨by rfl, ?_⟩) hHeld ?_ ?_
                          rotate_left
                          · rintro w' ⟨s0, s1, s2, s3, s4, s5, s6, s7, s8, s9, s10, s11, s12, s13, s14, s15⟩
                            go_simp
                            with_reducible rfl
                          rotate_left; focus (simp only [Act.put, List.setIfInBounds_toArray, List.set_cons_zero, List.set_cons_succ, i64_w, i32_w]; rfl)
                          refine take_ (i := 2) (N := some 40) (v := ?_) (a' := ?_) #[true, true, true, false, false, false, false, false, false, false, false, false] rfl rfl (take_ofW HT_.out HW_.out (by kernel_rfl)) (fun _ _ _ h => h) (Or.inl ⟨by rfl, ?_⟩) hHeld ?_ ?_
                          rotate_left
                          · rintro w' ⟨s0, s1, s2, s3, s4, s5, s6, s7, s8, s9, s10, s11, s12, s13, s14, s15⟩
                            go_simp
                            with_reducible rfl
                          rotate_left; focus (simp only [Act.put, List.setIfInBounds_toArray, List.set_cons_zero, List.set_cons_succ, i64_w, i32_w]; rfl)
                          refine take_ (i := 3) (N := some 41) (v := ?_) (a' := ?_) #[true, true, true, true, false, false, false, false, false, false, false, false] rfl rfl (take_ofW HT_.out HW_.out (by kernel_rfl)) (fun _ _ _ h => h) (Or.inl ⟨by rfl, ?_⟩) hHeld ?_ ?_
                          rotate_left
                          · rintro w' ⟨s0, s1, s2, s3, s4, s5, s6, s7, s8, s9, s10, s11, s12, s13, s14, s15⟩
                            go_simp
                            with_reducible rfl
                          rotate_left; focus (simp only [Act.put, List.setIfInBounds_toArray, List.set_cons_zero, List.set_cons_succ, i64_w, i32_w]; rfl)
                          refine join_ (σ := Nat) 2 #[true, true, true, true, true, true, true, true, true, true, false, false] (fun s_ => [(42, .agg #[.int .i64 t180, .int .u64 t181]), (43, .tuple #[.agg #[.int .i64 t182, .int .i64 t183, .int .i64 t184], .bool true]), (12, .pointer (some ⟨s_, 0, none⟩)), (37, .tuple #[.agg #[.int .i64 t182, .int .i64 t183, .int .i64 t184], .bool true]), (44, .agg #[.int .i64 t182, .int .i64 t183, .int .i64 t184]), (45, .bool true)]) (fun s_ w' => (w'.cell? ⟨gb169, 0, none⟩ = some (.int .i64 a1_0) ∧ w'.cell? ⟨gb169, 1, none⟩ = some (.int .i64 a1_1) ∧ w'.cell? ⟨gb169, 2, none⟩ = some (.int .i64 a1_2) ∧ w'.cell? ⟨gb169, 3, none⟩ = some (.int .i64 a1_3) ∧ w'.cell? ⟨gb169, 4, none⟩ = some (.int .i64 a1_4) ∧ w'.cell? ⟨gb169, 5, none⟩ = some (.int .i64 a1_5) ∧ w'.cell? ⟨gb170, 0, none⟩ = some (.bool true) ∧ w'.cell? ⟨gb170, 1, none⟩ = some (.int .i64 a2_1) ∧ w'.cell? ⟨gb170, 2, none⟩ = some (.int .i64 a2_2) ∧ w'.cell? ⟨gb170, 3, none⟩ = some (.int .i64 a2_3) ∧ w'.cell? ⟨gb170, 4, none⟩ = some (.bool false) ∧ w'.cell? ⟨gb170, 5, none⟩ = some (.int .i64 a2_5) ∧ w'.cell? ⟨gb170, 6, none⟩ = some (.int .i64 a2_6) ∧ w'.cell? ⟨gb170, 7, none⟩ = some (.int .i64 a2_7) ∧ w'.cell? ⟨gb171, 0, none⟩ = some (.int .i64 a3_0) ∧ w'.cell? ⟨gb171, 1, none⟩ = some (.int .u64 a3_1)) ∧ (w'.heap[gb169]? = some (.cells #[.int .i64 a1_0, .int .i64 a1_1, .int .i64 a1_2, .int .i64 a1_3, .int .i64 a1_4, .int .i64 a1_5] 28 (0, 0))) ∧ (w'.heap[gb170]? = some (.cells #[.bool true, .int .i64 a2_1, .int .i64 a2_2, .int .i64 a2_3, .bool false, .int .i64 a2_5, .int .i64 a2_6, .int .i64 a2_7] 30 (0, 0))) ∧ (w'.heap[gb171]? = some (.cells #[.int .i64 a3_0, .int .u64 a3_1] 33 (0, 0))) ∧ (w'.heap[gb179]? = some (.cells #[.int .i64 t175, .int .i64 t176, .int .i64 t177] 23 (0, 0))) ∧ (w'.heap[s_]? = some (.cells #[.int .i64 0, .int .i64 0, .int .i64 0] 23 (0, 0))) ∧ (w.heap.size ≤ s_) ∧ (w.heap.size ≤ s_) ∧ (gb169 ≠ s_) ∧ (s_ ≠ gb169) ∧ (gb170 ≠ s_) ∧ (s_ ≠ gb170) ∧ (gb171 ≠ s_) ∧ (s_ ≠ gb171) ∧ (gb179 ≠ s_) ∧ (s_ ≠ gb179) ∧ (Below w.heap.size w w')) ?_ ?_
                          rotate_left
                          · intro hCont
                            refine two_ (i := 4) (j := 9) (Ni := some 42) (Nj := some 12) #[true, true, true, true, true, false, false, false, false, false, false, false] #[true, true, true, true, false, false, false, false, false, true, false, false] rfl rfl rfl rfl (two_of HT_.out (by kernel_rfl)) (by decide) (by decide) (fun K hK => ?_) (fun K hK => ?_)
                            · skip
                              refine goes_ Try.func13 (by kernel_rfl) rfl #[.agg #[.int .i64 a3_0, .int .u64 a3_1], .bool true] (by rfl) rfl rfl (by (try simp only [List.map_toArray, List.map_cons, List.map_nil]); first | done | rfl | (simp only [List.length_drop, List.length_take]; rfl)) ?_
                              with_reducible refine (ring_Put.calls a3_0 a3_1 true t180 t181 _ A12.out).mono ?_
                              rintro e w46 ⟨rfl, hb⟩
                              refine ⟨_, rfl, ?_⟩
                              have n0_ := bb BK169 hb
                              have n1_ := bb BK170 hb
                              have n2_ := bb BK171 hb
                              have n3_ := bb BK179 hb
                              have n4_ := bs HB hb
                              clear BK169
                              clear BK170
                              clear BK171
                              clear BK179
                              clear HB
                              have BK169 := n0_
                              have BK170 := n1_
                              have BK171 := n2_
                              have BK179 := n3_
                              have HB := n4_
                              clear n0_ n1_ n2_ n3_ n4_
                              (try clear hb)
                              (try clear hb2)
                              (try clear hk)
                              (try clear hi)
                              refine hK.out _ _ ⟨(blk_cell BK169.out 0).trans rfl, (blk_cell BK169.out 1).trans rfl, (blk_cell BK169.out 2).trans rfl, (blk_cell BK169.out 3).trans rfl, (blk_cell BK169.out 4).trans rfl, (blk_cell BK169.out 5).trans rfl, (blk_cell BK170.out 0).trans rfl, (blk_cell BK170.out 1).trans rfl, (blk_cell BK170.out 2).trans rfl, (blk_cell BK170.out 3).trans rfl, (blk_cell BK170.out 4).trans rfl, (blk_cell BK170.out 5).trans rfl, (blk_cell BK170.out 6).trans rfl, (blk_cell BK170.out 7).trans rfl, (blk_cell BK171.out 0).trans rfl, (blk_cell BK171.out 1).trans rfl⟩ (fun hHeld => ?_)
                              clear hK K
                              refine norm_ (a' := ?_) ?_ ?_
                              rotate_left
                              · show Act.put _ (some 42) _ = _
                                simp only [Act.put, List.setIfInBounds_toArray, List.set_cons_zero, List.set_cons_succ, i64_w, i32_w]
                                rfl
                              refine two_ (i := 5) (j := 9) (Ni := some 43) (Nj := some 12) #[true, true, true, true, true, true, false, false, false, false, false, false] #[true, true, true, true, true, false, false, false, false, true, false, false] rfl rfl rfl rfl (two_of HT_.out (by kernel_rfl)) (by decide) (by decide) (fun K hK => ?_) (fun K hK => ?_)
                              · skip
                                refine goes_ Try.func12 (by kernel_rfl) rfl #[.int .i64 a0, .agg #[.int .i64 a1_0, .int .i64 a1_1, .int .i64 a1_2, .int .i64 a1_3, .int .i64 a1_4, .int .i64 a1_5], .agg #[.bool true, .int .i64 a2_1, .int .i64 a2_2, .int .i64 a2_3, .bool false, .int .i64 a2_5, .int .i64 a2_6, .int .i64 a2_7], .agg #[.int .i64 t180, .int .u64 t181]] (by rfl) rfl rfl (by (try simp only [List.map_toArray, List.map_cons, List.map_nil]); first | done | rfl | (simp only [List.length_drop, List.length_take]; rfl)) ?_
                                with_reducible refine (option_Of.calls k a0 a1_0 a1_1 a1_2 a1_3 a1_4 a1_5 true a2_1 a2_2 a2_3 false a2_5 a2_6 a2_7 t180 t181 t182 t183 t184 true _ A13.out).mono ?_
                                rintro e w47 ⟨rfl, hb⟩
                                refine ⟨_, rfl, ?_⟩
                                have n0_ := bb BK169 hb
                                have n1_ := bb BK170 hb
                                have n2_ := bb BK171 hb
                                have n3_ := bb BK179 hb
                                have n4_ := bs HB hb
                                clear BK169
                                clear BK170
                                clear BK171
                                clear BK179
                                clear HB
                                have BK169 := n0_
                                have BK170 := n1_
                                have BK171 := n2_
                                have BK179 := n3_
                                have HB := n4_
                                clear n0_ n1_ n2_ n3_ n4_
                                (try clear hb)
                                (try clear hb2)
                                (try clear hk)
                                (try clear hi)
                                refine hK.out _ _ ⟨(blk_cell BK169.out 0).trans rfl, (blk_cell BK169.out 1).trans rfl, (blk_cell BK169.out 2).trans rfl, (blk_cell BK169.out 3).trans rfl, (blk_cell BK169.out 4).trans rfl, (blk_cell BK169.out 5).trans rfl, (blk_cell BK170.out 0).trans rfl, (blk_cell BK170.out 1).trans rfl, (blk_cell BK170.out 2).trans rfl, (blk_cell BK170.out 3).trans rfl, (blk_cell BK170.out 4).trans rfl, (blk_cell BK170.out 5).trans rfl, (blk_cell BK170.out 6).trans rfl, (blk_cell BK170.out 7).trans rfl, (blk_cell BK171.out 0).trans rfl, (blk_cell BK171.out 1).trans rfl⟩ (fun hHeld => ?_)
                                clear hK K
                                refine norm_ (a' := ?_) ?_ ?_
                                rotate_left
                                · show Act.put _ (some 43) _ = _
                                  simp only [Act.put, List.setIfInBounds_toArray, List.set_cons_zero, List.set_cons_succ, i64_w, i32_w]
                                  rfl
                                refine pure_ (i := 6) (N := some 37) (v := ?_) (a' := ?_) #[true, true, true, true, true, true, true, false, false, false, false, false] rfl rfl (any_of HT_.out (by kernel_rfl)) (fun _ _ _ h => h) (Or.inl ⟨by rfl, ?_⟩) ?_ ?_
                                rotate_left; focus (intro w'; go_simp; with_reducible rfl)
                                rotate_left; focus (simp only [Act.put, List.setIfInBounds_toArray, List.set_cons_zero, List.set_cons_succ, i64_w, i32_w]; rfl)
                                refine pure_ (i := 7) (N := some 44) (v := ?_) (a' := ?_) #[true, true, true, true, true, true, true, true, false, false, false, false] rfl rfl (any_of HT_.out (by kernel_rfl)) (fun _ _ _ h => h) (Or.inl ⟨by rfl, ?_⟩) ?_ ?_
                                rotate_left; focus (intro w'; go_simp; with_reducible rfl)
                                rotate_left; focus (simp only [Act.put, List.setIfInBounds_toArray, List.set_cons_zero, List.set_cons_succ, i64_w, i32_w]; rfl)
                                refine pure_ (i := 8) (N := some 45) (v := ?_) (a' := ?_) #[true, true, true, true, true, true, true, true, true, false, false, false] rfl rfl (any_of HT_.out (by kernel_rfl)) (fun _ _ _ h => h) (Or.inl ⟨by rfl, ?_⟩) ?_ ?_
                                rotate_left; focus (intro w'; go_simp; with_reducible rfl)
                                rotate_left; focus (simp only [Act.put, List.setIfInBounds_toArray, List.set_cons_zero, List.set_cons_succ, i64_w, i32_w]; rfl)
                                refine one_ (i := 9) (N := some 12) #[true, true, true, true, true, true, true, true, true, true, false, false] rfl rfl (one_of HT_.out (by kernel_rfl)) (by decide) (fun K hK => ?_)
                                refine box_step ?hg (N := 12) ?hd (cs := #[.int .i64 0, .int .i64 0, .int .i64 0]) (t := 23) ?hr ?_; (case hd => rfl); (case hg => rfl); (case hr => first | (go_simp; done) | (go_simp; rfl))
                                intro gb186 hg w48 hbox hb
                                have n0_ := bb BK169 hb
                                have n1_ := bb BK170 hb
                                have n2_ := bb BK171 hb
                                have n3_ := bb BK179 hb
                                have n4_ := bs HB hb
                                have n5_ := Aside0.mk (hbox)
                                have n6_ := bz HB hg
                                have n7_ := bz HB hg
                                have n8_ := bl BK169 hg
                                have n9_ := bg BK169 hg
                                have n10_ := bl BK170 hg
                                have n11_ := bg BK170 hg
                                have n12_ := bl BK171 hg
                                have n13_ := bg BK171 hg
                                have n14_ := bl BK179 hg
                                have n15_ := bg BK179 hg
                                clear BK169
                                clear BK170
                                clear BK171
                                clear BK179
                                clear HB
                                have BK169 := n0_
                                have BK170 := n1_
                                have BK171 := n2_
                                have BK179 := n3_
                                have HB := n4_
                                have BK186 := n5_
                                have GW186 := n6_
                                have GE186 := n7_
                                have NB169_186 := n8_
                                have NB186_169 := n9_
                                have NB170_186 := n10_
                                have NB186_170 := n11_
                                have NB171_186 := n12_
                                have NB186_171 := n13_
                                have NB179_186 := n14_
                                have NB186_179 := n15_
                                clear n0_ n1_ n2_ n3_ n4_ n5_ n6_ n7_ n8_ n9_ n10_ n11_ n12_ n13_ n14_ n15_
                                clear hb hbox hg
                                refine hK.out _ _ ⟨(blk_cell BK169.out 0).trans rfl, (blk_cell BK169.out 1).trans rfl, (blk_cell BK169.out 2).trans rfl, (blk_cell BK169.out 3).trans rfl, (blk_cell BK169.out 4).trans rfl, (blk_cell BK169.out 5).trans rfl, (blk_cell BK170.out 0).trans rfl, (blk_cell BK170.out 1).trans rfl, (blk_cell BK170.out 2).trans rfl, (blk_cell BK170.out 3).trans rfl, (blk_cell BK170.out 4).trans rfl, (blk_cell BK170.out 5).trans rfl, (blk_cell BK170.out 6).trans rfl, (blk_cell BK170.out 7).trans rfl, (blk_cell BK171.out 0).trans rfl, (blk_cell BK171.out 1).trans rfl⟩ (fun hHeld => ?_)
                                clear hK K
                                refine norm_ (a' := ?_) ?_ ?_
                                rotate_left
                                · show Act.put _ (some 12) _ = _
                                  simp only [Act.put, List.setIfInBounds_toArray, List.set_cons_zero, List.set_cons_succ, i64_w, i32_w]
                                  rfl
                                exact norm_ (by simp only [putAll, Act.put, List.setIfInBounds_toArray, List.set_cons_zero, List.set_cons_succ]) (hCont (gb186) _ ⟨hHeld, (by (with_reducible repeat (first | refine bN ?_ _ | refine bD ?_ | refine bA ?_ _)); exact BK169.out), (by (with_reducible repeat (first | refine bN ?_ _ | refine bD ?_ | refine bA ?_ _)); exact BK170.out), (by (with_reducible repeat (first | refine bN ?_ _ | refine bD ?_ | refine bA ?_ _)); exact BK171.out), (by (with_reducible repeat (first | refine bN ?_ _ | refine bD ?_ | refine bA ?_ _)); exact BK179.out), (by (with_reducible repeat (first | refine bN ?_ _ | refine bD ?_ | refine bA ?_ _)); exact BK186.out), GW186.out, GE186.out, NB169_186.out, NB186_169.out, NB170_186.out, NB186_170.out, NB171_186.out, NB186_171.out, NB179_186.out, NB186_179.out, (by repeat (first | (with_reducible first | exact HB.out | apply below_alloc | apply pw_below_drewN | apply below_drew1 | refine below_set ?_ GE169.out | refine below_set ?_ GE170.out | refine below_set ?_ GE171.out | refine below_set ?_ GE179.out | refine below_set ?_ GE186.out) | exact HB.out))⟩)
                              · skip
                                refine box_step ?hg (N := 12) ?hd (cs := #[.int .i64 0, .int .i64 0, .int .i64 0]) (t := 23) ?hr ?_; (case hd => rfl); (case hg => rfl); (case hr => first | (go_simp; done) | (go_simp; rfl))
                                intro gb186 hg w47 hbox hb
                                have n0_ := bb BK169 hb
                                have n1_ := bb BK170 hb
                                have n2_ := bb BK171 hb
                                have n3_ := bb BK179 hb
                                have n4_ := bs HB hb
                                have n5_ := Aside0.mk (hbox)
                                have n6_ := bz HB hg
                                have n7_ := bz HB hg
                                have n8_ := bl BK169 hg
                                have n9_ := bg BK169 hg
                                have n10_ := bl BK170 hg
                                have n11_ := bg BK170 hg
                                have n12_ := bl BK171 hg
                                have n13_ := bg BK171 hg
                                have n14_ := bl BK179 hg
                                have n15_ := bg BK179 hg
                                clear BK169
                                clear BK170
                                clear BK171
                                clear BK179
                                clear HB
                                have BK169 := n0_
                                have BK170 := n1_
                                have BK171 := n2_
                                have BK179 := n3_
                                have HB := n4_
                                have BK186 := n5_
                                have GW186 := n6_
                                have GE186 := n7_
                                have NB169_186 := n8_
                                have NB186_169 := n9_
                                have NB170_186 := n10_
                                have NB186_170 := n11_
                                have NB171_186 := n12_
                                have NB186_171 := n13_
                                have NB179_186 := n14_
                                have NB186_179 := n15_
                                clear n0_ n1_ n2_ n3_ n4_ n5_ n6_ n7_ n8_ n9_ n10_ n11_ n12_ n13_ n14_ n15_
                                clear hb hbox hg
                                refine hK.out _ _ ⟨(blk_cell BK169.out 0).trans rfl, (blk_cell BK169.out 1).trans rfl, (blk_cell BK169.out 2).trans rfl, (blk_cell BK169.out 3).trans rfl, (blk_cell BK169.out 4).trans rfl, (blk_cell BK169.out 5).trans rfl, (blk_cell BK170.out 0).trans rfl, (blk_cell BK170.out 1).trans rfl, (blk_cell BK170.out 2).trans rfl, (blk_cell BK170.out 3).trans rfl, (blk_cell BK170.out 4).trans rfl, (blk_cell BK170.out 5).trans rfl, (blk_cell BK170.out 6).trans rfl, (blk_cell BK170.out 7).trans rfl, (blk_cell BK171.out 0).trans rfl, (blk_cell BK171.out 1).trans rfl⟩ (fun hHeld => ?_)
                                clear hK K
                                refine norm_ (a' := ?_) ?_ ?_
                                rotate_left
                                · show Act.put _ (some 12) _ = _
                                  simp only [Act.put, List.setIfInBounds_toArray, List.set_cons_zero, List.set_cons_succ, i64_w, i32_w]
                                  rfl
                                refine one_ (i := 5) (N := some 43) #[true, true, true, true, true, true, false, false, false, true, false, false] rfl rfl (one_of HT_.out (by kernel_rfl)) (by decide) (fun K hK => ?_)
                                refine goes_ Try.func12 (by kernel_rfl) rfl #[.int .i64 a0, .agg #[.int .i64 a1_0, .int .i64 a1_1, .int .i64 a1_2, .int .i64 a1_3, .int .i64 a1_4, .int .i64 a1_5], .agg #[.bool true, .int .i64 a2_1, .int .i64 a2_2, .int .i64 a2_3, .bool false, .int .i64 a2_5, .int .i64 a2_6, .int .i64 a2_7], .agg #[.int .i64 t180, .int .u64 t181]] (by rfl) rfl rfl (by (try simp only [List.map_toArray, List.map_cons, List.map_nil]); first | done | rfl | (simp only [List.length_drop, List.length_take]; rfl)) ?_
                                with_reducible refine (option_Of.calls k a0 a1_0 a1_1 a1_2 a1_3 a1_4 a1_5 true a2_1 a2_2 a2_3 false a2_5 a2_6 a2_7 t180 t181 t182 t183 t184 true _ A13.out).mono ?_
                                rintro e w48 ⟨rfl, hb⟩
                                refine ⟨_, rfl, ?_⟩
                                have n0_ := bb BK169 hb
                                have n1_ := bb BK170 hb
                                have n2_ := bb BK171 hb
                                have n3_ := bb BK179 hb
                                have n4_ := bb BK186 hb
                                have n5_ := bs HB hb
                                clear BK169
                                clear BK170
                                clear BK171
                                clear BK179
                                clear BK186
                                clear HB
                                have BK169 := n0_
                                have BK170 := n1_
                                have BK171 := n2_
                                have BK179 := n3_
                                have BK186 := n4_
                                have HB := n5_
                                clear n0_ n1_ n2_ n3_ n4_ n5_
                                (try clear hb)
                                (try clear hb2)
                                (try clear hk)
                                (try clear hi)
                                refine hK.out _ _ ⟨(blk_cell BK169.out 0).trans rfl, (blk_cell BK169.out 1).trans rfl, (blk_cell BK169.out 2).trans rfl, (blk_cell BK169.out 3).trans rfl, (blk_cell BK169.out 4).trans rfl, (blk_cell BK169.out 5).trans rfl, (blk_cell BK170.out 0).trans rfl, (blk_cell BK170.out 1).trans rfl, (blk_cell BK170.out 2).trans rfl, (blk_cell BK170.out 3).trans rfl, (blk_cell BK170.out 4).trans rfl, (blk_cell BK170.out 5).trans rfl, (blk_cell BK170.out 6).trans rfl, (blk_cell BK170.out 7).trans rfl, (blk_cell BK171.out 0).trans rfl, (blk_cell BK171.out 1).trans rfl⟩ (fun hHeld => ?_)
                                clear hK K
                                refine norm_ (a' := ?_) ?_ ?_
                                rotate_left
                                · show Act.put _ (some 43) _ = _
                                  simp only [Act.put, List.setIfInBounds_toArray, List.set_cons_zero, List.set_cons_succ, i64_w, i32_w]
                                  rfl
                                refine pure_ (i := 6) (N := some 37) (v := ?_) (a' := ?_) #[true, true, true, true, true, true, true, false, false, true, false, false] rfl rfl (any_of HT_.out (by kernel_rfl)) (fun _ _ _ h => h) (Or.inl ⟨by rfl, ?_⟩) ?_ ?_
                                rotate_left; focus (intro w'; go_simp; with_reducible rfl)
                                rotate_left; focus (simp only [Act.put, List.setIfInBounds_toArray, List.set_cons_zero, List.set_cons_succ, i64_w, i32_w]; rfl)
                                refine pure_ (i := 7) (N := some 44) (v := ?_) (a' := ?_) #[true, true, true, true, true, true, true, true, false, true, false, false] rfl rfl (any_of HT_.out (by kernel_rfl)) (fun _ _ _ h => h) (Or.inl ⟨by rfl, ?_⟩) ?_ ?_
                                rotate_left; focus (intro w'; go_simp; with_reducible rfl)
                                rotate_left; focus (simp only [Act.put, List.setIfInBounds_toArray, List.set_cons_zero, List.set_cons_succ, i64_w, i32_w]; rfl)
                                refine pure_ (i := 8) (N := some 45) (v := ?_) (a' := ?_) #[true, true, true, true, true, true, true, true, true, true, false, false] rfl rfl (any_of HT_.out (by kernel_rfl)) (fun _ _ _ h => h) (Or.inl ⟨by rfl, ?_⟩) ?_ ?_
                                rotate_left; focus (intro w'; go_simp; with_reducible rfl)
                                rotate_left; focus (simp only [Act.put, List.setIfInBounds_toArray, List.set_cons_zero, List.set_cons_succ, i64_w, i32_w]; rfl)
                                exact norm_ (by simp only [putAll, Act.put, List.setIfInBounds_toArray, List.set_cons_zero, List.set_cons_succ]) (hCont (gb186) _ ⟨hHeld, (by (with_reducible repeat (first | refine bN ?_ _ | refine bD ?_ | refine bA ?_ _)); exact BK169.out), (by (with_reducible repeat (first | refine bN ?_ _ | refine bD ?_ | refine bA ?_ _)); exact BK170.out), (by (with_reducible repeat (first | refine bN ?_ _ | refine bD ?_ | refine bA ?_ _)); exact BK171.out), (by (with_reducible repeat (first | refine bN ?_ _ | refine bD ?_ | refine bA ?_ _)); exact BK179.out), (by (with_reducible repeat (first | refine bN ?_ _ | refine bD ?_ | refine bA ?_ _)); exact BK186.out), GW186.out, GE186.out, NB169_186.out, NB186_169.out, NB170_186.out, NB186_170.out, NB171_186.out, NB186_171.out, NB179_186.out, NB186_179.out, (by repeat (first | (with_reducible first | exact HB.out | apply below_alloc | apply pw_below_drewN | apply below_drew1 | refine below_set ?_ GE169.out | refine below_set ?_ GE170.out | refine below_set ?_ GE171.out | refine below_set ?_ GE179.out | refine below_set ?_ GE186.out) | exact HB.out))⟩)
                            · skip
                              refine box_step ?hg (N := 12) ?hd (cs := #[.int .i64 0, .int .i64 0, .int .i64 0]) (t := 23) ?hr ?_; (case hd => rfl); (case hg => rfl); (case hr => first | (go_simp; done) | (go_simp; rfl))
                              intro gb186 hg w46 hbox hb
                              have n0_ := bb BK169 hb
                              have n1_ := bb BK170 hb
                              have n2_ := bb BK171 hb
                              have n3_ := bb BK179 hb
                              have n4_ := bs HB hb
                              have n5_ := Aside0.mk (hbox)
                              have n6_ := bz HB hg
                              have n7_ := bz HB hg
                              have n8_ := bl BK169 hg
                              have n9_ := bg BK169 hg
                              have n10_ := bl BK170 hg
                              have n11_ := bg BK170 hg
                              have n12_ := bl BK171 hg
                              have n13_ := bg BK171 hg
                              have n14_ := bl BK179 hg
                              have n15_ := bg BK179 hg
                              clear BK169
                              clear BK170
                              clear BK171
                              clear BK179
                              clear HB
                              have BK169 := n0_
                              have BK170 := n1_
                              have BK171 := n2_
                              have BK179 := n3_
                              have HB := n4_
                              have BK186 := n5_
                              have GW186 := n6_
                              have GE186 := n7_
                              have NB169_186 := n8_
                              have NB186_169 := n9_
                              have NB170_186 := n10_
                              have NB186_170 := n11_
                              have NB171_186 := n12_
                              have NB186_171 := n13_
                              have NB179_186 := n14_
                              have NB186_179 := n15_
                              clear n0_ n1_ n2_ n3_ n4_ n5_ n6_ n7_ n8_ n9_ n10_ n11_ n12_ n13_ n14_ n15_
                              clear hb hbox hg
                              refine hK.out _ _ ⟨(blk_cell BK169.out 0).trans rfl, (blk_cell BK169.out 1).trans rfl, (blk_cell BK169.out 2).trans rfl, (blk_cell BK169.out 3).trans rfl, (blk_cell BK169.out 4).trans rfl, (blk_cell BK169.out 5).trans rfl, (blk_cell BK170.out 0).trans rfl, (blk_cell BK170.out 1).trans rfl, (blk_cell BK170.out 2).trans rfl, (blk_cell BK170.out 3).trans rfl, (blk_cell BK170.out 4).trans rfl, (blk_cell BK170.out 5).trans rfl, (blk_cell BK170.out 6).trans rfl, (blk_cell BK170.out 7).trans rfl, (blk_cell BK171.out 0).trans rfl, (blk_cell BK171.out 1).trans rfl⟩ (fun hHeld => ?_)
                              clear hK K
                              refine norm_ (a' := ?_) ?_ ?_
                              rotate_left
                              · show Act.put _ (some 12) _ = _
                                simp only [Act.put, List.setIfInBounds_toArray, List.set_cons_zero, List.set_cons_succ, i64_w, i32_w]
                                rfl
                              refine one_ (i := 4) (N := some 42) #[true, true, true, true, true, false, false, false, false, true, false, false] rfl rfl (one_of HT_.out (by kernel_rfl)) (by decide) (fun K hK => ?_)
                              refine goes_ Try.func13 (by kernel_rfl) rfl #[.agg #[.int .i64 a3_0, .int .u64 a3_1], .bool true] (by rfl) rfl rfl (by (try simp only [List.map_toArray, List.map_cons, List.map_nil]); first | done | rfl | (simp only [List.length_drop, List.length_take]; rfl)) ?_
                              with_reducible refine (ring_Put.calls a3_0 a3_1 true t180 t181 _ A12.out).mono ?_
                              rintro e w47 ⟨rfl, hb⟩
                              refine ⟨_, rfl, ?_⟩
                              have n0_ := bb BK169 hb
                              have n1_ := bb BK170 hb
                              have n2_ := bb BK171 hb
                              have n3_ := bb BK179 hb
                              have n4_ := bb BK186 hb
                              have n5_ := bs HB hb
                              clear BK169
                              clear BK170
                              clear BK171
                              clear BK179
                              clear BK186
                              clear HB
                              have BK169 := n0_
                              have BK170 := n1_
                              have BK171 := n2_
                              have BK179 := n3_
                              have BK186 := n4_
                              have HB := n5_
                              clear n0_ n1_ n2_ n3_ n4_ n5_
                              (try clear hb)
                              (try clear hb2)
                              (try clear hk)
                              (try clear hi)
                              refine hK.out _ _ ⟨(blk_cell BK169.out 0).trans rfl, (blk_cell BK169.out 1).trans rfl, (blk_cell BK169.out 2).trans rfl, (blk_cell BK169.out 3).trans rfl, (blk_cell BK169.out 4).trans rfl, (blk_cell BK169.out 5).trans rfl, (blk_cell BK170.out 0).trans rfl, (blk_cell BK170.out 1).trans rfl, (blk_cell BK170.out 2).trans rfl, (blk_cell BK170.out 3).trans rfl, (blk_cell BK170.out 4).trans rfl, (blk_cell BK170.out 5).trans rfl, (blk_cell BK170.out 6).trans rfl, (blk_cell BK170.out 7).trans rfl, (blk_cell BK171.out 0).trans rfl, (blk_cell BK171.out 1).trans rfl⟩ (fun hHeld => ?_)
                              clear hK K
                              refine norm_ (a' := ?_) ?_ ?_
                              rotate_left
                              · show Act.put _ (some 42) _ = _
                                simp only [Act.put, List.setIfInBounds_toArray, List.set_cons_zero, List.set_cons_succ, i64_w, i32_w]
                                rfl
                              refine one_ (i := 5) (N := some 43) #[true, true, true, true, true, true, false, false, false, true, false, false] rfl rfl (one_of HT_.out (by kernel_rfl)) (by decide) (fun K hK => ?_)
                              refine goes_ Try.func12 (by kernel_rfl) rfl #[.int .i64 a0, .agg #[.int .i64 a1_0, .int .i64 a1_1, .int .i64 a1_2, .int .i64 a1_3, .int .i64 a1_4, .int .i64 a1_5], .agg #[.bool true, .int .i64 a2_1, .int .i64 a2_2, .int .i64 a2_3, .bool false, .int .i64 a2_5, .int .i64 a2_6, .int .i64 a2_7], .agg #[.int .i64 t180, .int .u64 t181]] (by rfl) rfl rfl (by (try simp only [List.map_toArray, List.map_cons, List.map_nil]); first | done | rfl | (simp only [List.length_drop, List.length_take]; rfl)) ?_
                              with_reducible refine (option_Of.calls k a0 a1_0 a1_1 a1_2 a1_3 a1_4 a1_5 true a2_1 a2_2 a2_3 false a2_5 a2_6 a2_7 t180 t181 t182 t183 t184 true _ A13.out).mono ?_
                              rintro e w48 ⟨rfl, hb⟩
                              refine ⟨_, rfl, ?_⟩
                              have n0_ := bb BK169 hb
                              have n1_ := bb BK170 hb
                              have n2_ := bb BK171 hb
                              have n3_ := bb BK179 hb
                              have n4_ := bb BK186 hb
                              have n5_ := bs HB hb
                              clear BK169
                              clear BK170
                              clear BK171
                              clear BK179
                              clear BK186
                              clear HB
                              have BK169 := n0_
                              have BK170 := n1_
                              have BK171 := n2_
                              have BK179 := n3_
                              have BK186 := n4_
                              have HB := n5_
                              clear n0_ n1_ n2_ n3_ n4_ n5_
                              (try clear hb)
                              (try clear hb2)
                              (try clear hk)
                              (try clear hi)
                              refine hK.out _ _ ⟨(blk_cell BK169.out 0).trans rfl, (blk_cell BK169.out 1).trans rfl, (blk_cell BK169.out 2).trans rfl, (blk_cell BK169.out 3).trans rfl, (blk_cell BK169.out 4).trans rfl, (blk_cell BK169.out 5).trans rfl, (blk_cell BK170.out 0).trans rfl, (blk_cell BK170.out 1).trans rfl, (blk_cell BK170.out 2).trans rfl, (blk_cell BK170.out 3).trans rfl, (blk_cell BK170.out 4).trans rfl, (blk_cell BK170.out 5).trans rfl, (blk_cell BK170.out 6).trans rfl, (blk_cell BK170.out 7).trans rfl, (blk_cell BK171.out 0).trans rfl, (blk_cell BK171.out 1).trans rfl⟩ (fun hHeld => ?_)
                              clear hK K
                              refine norm_ (a' := ?_) ?_ ?_
                              rotate_left
                              · show Act.put _ (some 43) _ = _
                                simp only [Act.put, List.setIfInBounds_toArray, List.set_cons_zero, List.set_cons_succ, i64_w, i32_w]
                                rfl
                              refine pure_ (i := 6) (N := some 37) (v := ?_) (a' := ?_) #[true, true, true, true, true, true, true, false, false, true, false, false] rfl rfl (any_of HT_.out (by kernel_rfl)) (fun _ _ _ h => h) (Or.inl ⟨by rfl, ?_⟩) ?_ ?_
                              rotate_left; focus (intro w'; go_simp; with_reducible rfl)
                              rotate_left; focus (simp only [Act.put, List.setIfInBounds_toArray, List.set_cons_zero, List.set_cons_succ, i64_w, i32_w]; rfl)
                              refine pure_ (i := 7) (N := some 44) (v := ?_) (a' := ?_) #[true, true, true, true, true, true, true, true, false, true, false, false] rfl rfl (any_of HT_.out (by kernel_rfl)) (fun _ _ _ h => h) (Or.inl ⟨by rfl, ?_⟩) ?_ ?_
                              rotate_left; focus (intro w'; go_simp; with_reducible rfl)
                              rotate_left; focus (simp only [Act.put, List.setIfInBounds_toArray, List.set_cons_zero, List.set_cons_succ, i64_w, i32_w]; rfl)
                              refine pure_ (i := 8) (N := some 45) (v := ?_) (a' := ?_) #[true, true, true, true, true, true, true, true, true, true, false, false] rfl rfl (any_of HT_.out (by kernel_rfl)) (fun _ _ _ h => h) (Or.inl ⟨by rfl, ?_⟩) ?_ ?_
                              rotate_left; focus (intro w'; go_simp; with_reducible rfl)
                              rotate_left; focus (simp only [Act.put, List.setIfInBounds_toArray, List.set_cons_zero, List.set_cons_succ, i64_w, i32_w]; rfl)
                              exact norm_ (by simp only [putAll, Act.put, List.setIfInBounds_toArray, List.set_cons_zero, List.set_cons_succ]) (hCont (gb186) _ ⟨hHeld, (by (with_reducible repeat (first | refine bN ?_ _ | refine bD ?_ | refine bA ?_ _)); exact BK169.out), (by (with_reducible repeat (first | refine bN ?_ _ | refine bD ?_ | refine bA ?_ _)); exact BK170.out), (by (with_reducible repeat (first | refine bN ?_ _ | refine bD ?_ | refine bA ?_ _)); exact BK171.out), (by (with_reducible repeat (first | refine bN ?_ _ | refine bD ?_ | refine bA ?_ _)); exact BK179.out), (by (with_reducible repeat (first | refine bN ?_ _ | refine bD ?_ | refine bA ?_ _)); exact BK186.out), GW186.out, GE186.out, NB169_186.out, NB186_169.out, NB170_186.out, NB186_170.out, NB171_186.out, NB186_171.out, NB179_186.out, NB186_179.out, (by repeat (first | (with_reducible first | exact HB.out | apply below_alloc | apply pw_below_drewN | apply below_drew1 | refine below_set ?_ GE169.out | refine below_set ?_ GE170.out | refine below_set ?_ GE171.out | refine below_set ?_ GE179.out | refine below_set ?_ GE186.out) | exact HB.out))⟩)
                          rintro gb186 w49 ⟨hS_, h0_, h1_, h2_, h3_, h4_, h5_, h6_, h7_, h8_, h9_, h10_, h11_, h12_, h13_, h14_, h15_⟩
                          have n0_ : Aside0 (w49.heap[gb169]? = some (.cells #[.int .i64 a1_0, .int .i64 a1_1, .int .i64 a1_2, .int .i64 a1_3, .int .i64 a1_4, .int .i64 a1_5] 28 (0, 0))) := ⟨h0_⟩
                          have n1_ : Aside0 (w49.heap[gb170]? = some (.cells #[.bool true, .int .i64 a2_1, .int .i64 a2_2, .int .i64 a2_3, .bool false, .int .i64 a2_5, .int .i64 a2_6, .int .i64 a2_7] 30 (0, 0))) := ⟨h1_⟩
                          have n2_ : Aside0 (w49.heap[gb171]? = some (.cells #[.int .i64 a3_0, .int .u64 a3_1] 33 (0, 0))) := ⟨h2_⟩
                          have n3_ : Aside0 (w49.heap[gb179]? = some (.cells #[.int .i64 t175, .int .i64 t176, .int .i64 t177] 23 (0, 0))) := ⟨h3_⟩
                          have n4_ : Aside0 (w49.heap[gb186]? = some (.cells #[.int .i64 0, .int .i64 0, .int .i64 0] 23 (0, 0))) := ⟨h4_⟩
                          have n5_ : Aside0 (w.heap.size ≤ gb186) := ⟨h5_⟩
                          have n6_ : Aside0 (w.heap.size ≤ gb186) := ⟨h6_⟩
                          have n7_ : Aside0 (gb169 ≠ gb186) := ⟨h7_⟩
                          have n8_ : Aside0 (gb186 ≠ gb169) := ⟨h8_⟩
                          have n9_ : Aside0 (gb170 ≠ gb186) := ⟨h9_⟩
                          have n10_ : Aside0 (gb186 ≠ gb170) := ⟨h10_⟩
                          have n11_ : Aside0 (gb171 ≠ gb186) := ⟨h11_⟩
                          have n12_ : Aside0 (gb186 ≠ gb171) := ⟨h12_⟩
                          have n13_ : Aside0 (gb179 ≠ gb186) := ⟨h13_⟩
                          have n14_ : Aside0 (gb186 ≠ gb179) := ⟨h14_⟩
                          have n15_ : Aside0 (Below w.heap.size w w49) := ⟨h15_⟩
                          clear BK169
                          clear BK170
                          clear BK171
                          clear BK179
                          clear HB
                          clear h0_ h1_ h2_ h3_ h4_ h5_ h6_ h7_ h8_ h9_ h10_ h11_ h12_ h13_ h14_ h15_
                          have BK169 := n0_
                          have BK170 := n1_
                          have BK171 := n2_
                          have BK179 := n3_
                          have BK186 := n4_
                          have GW186 := n5_
                          have GE186 := n6_
                          have NB169_186 := n7_
                          have NB186_169 := n8_
                          have NB170_186 := n9_
                          have NB186_170 := n10_
                          have NB171_186 := n11_
                          have NB186_171 := n12_
                          have NB179_186 := n13_
                          have NB186_179 := n14_
                          have HB := n15_
                          clear n0_ n1_ n2_ n3_ n4_ n5_ n6_ n7_ n8_ n9_ n10_ n11_ n12_ n13_ n14_ n15_
                          have hHeld : w49.cell? ⟨gb169, 0, none⟩ = some (.int .i64 a1_0) ∧ w49.cell? ⟨gb169, 1, none⟩ = some (.int .i64 a1_1) ∧ w49.cell? ⟨gb169, 2, none⟩ = some (.int .i64 a1_2) ∧ w49.cell? ⟨gb169, 3, none⟩ = some (.int .i64 a1_3) ∧ w49.cell? ⟨gb169, 4, none⟩ = some (.int .i64 a1_4) ∧ w49.cell? ⟨gb169, 5, none⟩ = some (.int .i64 a1_5) ∧ w49.cell? ⟨gb170, 0, none⟩ = some (.bool true) ∧ w49.cell? ⟨gb170, 1, none⟩ = some (.int .i64 a2_1) ∧ w49.cell? ⟨gb170, 2, none⟩ = some (.int .i64 a2_2) ∧ w49.cell? ⟨gb170, 3, none⟩ = some (.int .i64 a2_3) ∧ w49.cell? ⟨gb170, 4, none⟩ = some (.bool false) ∧ w49.cell? ⟨gb170, 5, none⟩ = some (.int .i64 a2_5) ∧ w49.cell? ⟨gb170, 6, none⟩ = some (.int .i64 a2_6) ∧ w49.cell? ⟨gb170, 7, none⟩ = some (.int .i64 a2_7) ∧ w49.cell? ⟨gb171, 0, none⟩ = some (.int .i64 a3_0) ∧ w49.cell? ⟨gb171, 1, none⟩ = some (.int .u64 a3_1) := hS_
                          refine norm_ (a' := ?_) ?_ ?_
                          rotate_left
                          · simp only [putAll, Act.put, List.setIfInBounds_toArray, List.set_cons_zero, List.set_cons_succ]
                            rfl
                          refine one_ (i := 10) (N := none) #[true, true, true, true, true, true, true, true, true, true, true, false] rfl rfl (one_of HT_.out (by kernel_rfl)) (by decide) (fun K hK => ?_)
                          have hs50 : w49.cell? ⟨gb186, 0, none⟩ = some (.int .i64 0) := (blk_cell BK186.out 0).trans rfl
                          have hfs50 := blk_frozen BK186.out 0
                          have hns50_0 := NB169_186.out
                          have hns50_1 := NB170_186.out
                          have hns50_2 := NB171_186.out
                          have hns50_3 := NB179_186.out
                          have hms50_0 := NB186_169.out
                          have hms50_1 := NB186_170.out
                          have hms50_2 := NB186_171.out
                          have hms50_3 := NB186_179.out
                          have hs51 : w49.cell? ⟨gb186, 1, none⟩ = some (.int .i64 0) := (blk_cell BK186.out 1).trans rfl
                          have hfs51 := blk_frozen BK186.out 1
                          have hns51_0 := NB169_186.out
                          have hns51_1 := NB170_186.out
                          have hns51_2 := NB171_186.out
                          have hns51_3 := NB179_186.out
                          have hms51_0 := NB186_169.out
                          have hms51_1 := NB186_170.out
                          have hms51_2 := NB186_171.out
                          have hms51_3 := NB186_179.out
                          have hs52 : w49.cell? ⟨gb186, 2, none⟩ = some (.int .i64 0) := (blk_cell BK186.out 2).trans rfl
                          have hfs52 := blk_frozen BK186.out 2
                          have hns52_0 := NB169_186.out
                          have hns52_1 := NB170_186.out
                          have hns52_2 := NB171_186.out
                          have hns52_3 := NB179_186.out
                          have hms52_0 := NB186_169.out
                          have hms52_1 := NB186_170.out
                          have hms52_2 := NB186_171.out
                          have hms52_3 := NB186_179.out
                          refine skip_ (w1 := ?_) (by rfl) rfl ?_ ?_
                          rotate_left
                          · go_simp
                            rfl
                          refine hK.out _ _ ⟨((cell_far (p := ⟨gb186, _, none⟩) NB169_186.out _).trans (((cell_far (p := ⟨gb186, _, none⟩) NB169_186.out _).trans (((cell_far (p := ⟨gb186, _, none⟩) NB169_186.out _).trans (hHeld.1)))))), ((cell_far (p := ⟨gb186, _, none⟩) NB169_186.out _).trans (((cell_far (p := ⟨gb186, _, none⟩) NB169_186.out _).trans (((cell_far (p := ⟨gb186, _, none⟩) NB169_186.out _).trans (hHeld.2.1)))))), ((cell_far (p := ⟨gb186, _, none⟩) NB169_186.out _).trans (((cell_far (p := ⟨gb186, _, none⟩) NB169_186.out _).trans (((cell_far (p := ⟨gb186, _, none⟩) NB169_186.out _).trans (hHeld.2.2.1)))))), ((cell_far (p := ⟨gb186, _, none⟩) NB169_186.out _).trans (((cell_far (p := ⟨gb186, _, none⟩) NB169_186.out _).trans (((cell_far (p := ⟨gb186, _, none⟩) NB169_186.out _).trans (hHeld.2.2.2.1)))))), ((cell_far (p := ⟨gb186, _, none⟩) NB169_186.out _).trans (((cell_far (p := ⟨gb186, _, none⟩) NB169_186.out _).trans (((cell_far (p := ⟨gb186, _, none⟩) NB169_186.out _).trans (hHeld.2.2.2.2.1)))))), ((cell_far (p := ⟨gb186, _, none⟩) NB169_186.out _).trans (((cell_far (p := ⟨gb186, _, none⟩) NB169_186.out _).trans (((cell_far (p := ⟨gb186, _, none⟩) NB169_186.out _).trans (hHeld.2.2.2.2.2.1)))))), ((cell_far (p := ⟨gb186, _, none⟩) NB170_186.out _).trans (((cell_far (p := ⟨gb186, _, none⟩) NB170_186.out _).trans (((cell_far (p := ⟨gb186, _, none⟩) NB170_186.out _).trans (hHeld.2.2.2.2.2.2.1)))))), ((cell_far (p := ⟨gb186, _, none⟩) NB170_186.out _).trans (((cell_far (p := ⟨gb186, _, none⟩) NB170_186.out _).trans (((cell_far (p := ⟨gb186, _, none⟩) NB170_186.out _).trans (hHeld.2.2.2.2.2.2.2.1)))))), ((cell_far (p := ⟨gb186, _, none⟩) NB170_186.out _).trans (((cell_far (p := ⟨gb186, _, none⟩) NB170_186.out _).trans (((cell_far (p := ⟨gb186, _, none⟩) NB170_186.out _).trans (hHeld.2.2.2.2.2.2.2.2.1)))))), ((cell_far (p := ⟨gb186, _, none⟩) NB170_186.out _).trans (((cell_far (p := ⟨gb186, _, none⟩) NB170_186.out _).trans (((cell_far (p := ⟨gb186, _, none⟩) NB170_186.out _).trans (hHeld.2.2.2.2.2.2.2.2.2.1)))))), ((cell_far (p := ⟨gb186, _, none⟩) NB170_186.out _).trans (((cell_far (p := ⟨gb186, _, none⟩) NB170_186.out _).trans (((cell_far (p := ⟨gb186, _, none⟩) NB170_186.out _).trans (hHeld.2.2.2.2.2.2.2.2.2.2.1)))))), ((cell_far (p := ⟨gb186, _, none⟩) NB170_186.out _).trans (((cell_far (p := ⟨gb186, _, none⟩) NB170_186.out _).trans (((cell_far (p := ⟨gb186, _, none⟩) NB170_186.out _).trans (hHeld.2.2.2.2.2.2.2.2.2.2.2.1)))))), ((cell_far (p := ⟨gb186, _, none⟩) NB170_186.out _).trans (((cell_far (p := ⟨gb186, _, none⟩) NB170_186.out _).trans (((cell_far (p := ⟨gb186, _, none⟩) NB170_186.out _).trans (hHeld.2.2.2.2.2.2.2.2.2.2.2.2.1)))))), ((cell_far (p := ⟨gb186, _, none⟩) NB170_186.out _).trans (((cell_far (p := ⟨gb186, _, none⟩) NB170_186.out _).trans (((cell_far (p := ⟨gb186, _, none⟩) NB170_186.out _).trans (hHeld.2.2.2.2.2.2.2.2.2.2.2.2.2.1)))))), ((cell_far (p := ⟨gb186, _, none⟩) NB171_186.out _).trans (((cell_far (p := ⟨gb186, _, none⟩) NB171_186.out _).trans (((cell_far (p := ⟨gb186, _, none⟩) NB171_186.out _).trans (hHeld.2.2.2.2.2.2.2.2.2.2.2.2.2.2.1)))))), ((cell_far (p := ⟨gb186, _, none⟩) NB171_186.out _).trans (((cell_far (p := ⟨gb186, _, none⟩) NB171_186.out _).trans (((cell_far (p := ⟨gb186, _, none⟩) NB171_186.out _).trans (hHeld.2.2.2.2.2.2.2.2.2.2.2.2.2.2.2))))))⟩ (fun hHeld => ?_)
                          clear hK K
                          refine pure_ (i := 11) (N := some 13) (v := ?_) (a' := ?_) #[true, true, true, true, true, true, true, true, true, true, true, true] rfl rfl (any_of HT_.out (by kernel_rfl)) (fun _ _ _ h => h) (Or.inl ⟨by rfl, ?_⟩) ?_ ?_
                          rotate_left; focus (intro w'; go_simp; with_reducible rfl)
                          rotate_left; focus (simp only [Act.put, List.setIfInBounds_toArray, List.set_cons_zero, List.set_cons_succ, i64_w, i32_w]; rfl)
                          refine done_ (done_of HT_.out (by kernel_rfl)) ?_
                          have hnb53 := NB170_186.out
                          have hnc53 := NB186_170.out
                          obtain ⟨hcz54_0, hcz54_1, hcz54_2, hcz54_3, hcz54_4, hcz54_5, hcz54_6, hcz54_7⟩ := cc8 BK170
                          obtain ⟨hfz54_0, hfz54_1, hfz54_2, hfz54_3, hfz54_4, hfz54_5, hfz54_6, hfz54_7⟩ := cf8 BK170
                          have hnb55 := NB179_186.out
                          have hnc55 := NB186_179.out
                          obtain ⟨hcz56_0, hcz56_1, hcz56_2⟩ := cc3 BK179
                          obtain ⟨hfz56_0, hfz56_1, hfz56_2⟩ := cf3 BK179
                          have hnb57 := NB186_169.out
                          have hnc57 := NB169_186.out
                          have hnb58 := NB186_171.out
                          have hnc58 := NB171_186.out
                          obtain ⟨hcz59_0, hcz59_1, hcz59_2⟩ := cc3 BK186
                          obtain ⟨hfz59_0, hfz59_1, hfz59_2⟩ := cf3 BK186
                          obtain ⟨hcz60_0, hcz60_1, hcz60_2, hcz60_3, hcz60_4, hcz60_5⟩ := cc6 BK169
                          obtain ⟨hfz60_0, hfz60_1, hfz60_2, hfz60_3, hfz60_4, hfz60_5⟩ := cf6 BK169
                          try go_wp2
                          go_ret
                          exact ⟨by first | rfl | (simp [errW_none, errW_some] <;> rfl) | (simp [*, errW_none, errW_some] <;> rfl) | (exfalso; first | contradiction | (revert c14b0 c16b0 c19b0 c20b0 c21b0; simp +contextual; done)), by repeat (first | (with_reducible first | exact HB.out | apply below_alloc | apply pw_below_drewN | apply below_drew1 | refine below_set ?_ GE169.out | refine below_set ?_ GE170.out | refine below_set ?_ GE171.out | refine below_set ?_ GE179.out | refine below_set ?_ GE186.out) | exact HB.out)⟩
                        · rw [if_neg c22] at H
                          exact absurd H (by simp)
                      · rw [if_neg c21] at H
                        exact absurd H (by simp)
                    · rw [if_neg c20] at H
                      exact absurd H (by simp)
                  · rw [if_neg c19] at H
                    exact absurd H (by simp)
                · rw [if_neg c18] at H
                  exact absurd H (by simp)
              · replace c17 := Bool.eq_false_iff.mpr c17
                subst c17
                obtain rfl : t185 = false := by simpa using c14b0
                obtain rfl : a2_4 = true := by simpa using c16b0
                rw [if_neg (show ¬ (false = true) by decide)] at H
                obtain rfl := Option.some.inj H
                go_enter Try.func4, Try.ntmps4
                try go_wp2_with (first | ((with_reducible refine gate_dst (N := 5) rfl ?_); refine box_event ?hg (N := 5) ?hd (cs := #[.int .i64 a1_0, .int .i64 a1_1, .int .i64 a1_2, .int .i64 a1_3, .int .i64 a1_4, .int .i64 a1_5]) (t := 28) ?hr ?_; (case hd => rfl); (case hg => rfl); (case hr => first | (go_simp; done) | (go_simp; rfl)); intro gb169 hg w61 hbox hb; have n0_ := bs HB hb; have n1_ := Aside0.mk (hbox); have n2_ := bz HB hg; have n3_ := bz HB hg; clear HB; have HB := n0_; have BK169 := n1_; have GW169 := n2_; have GE169 := n3_; clear n0_ n1_ n2_ n3_; clear hb hbox hg) | ((with_reducible refine gate_dst (N := 6) rfl ?_); refine box_event ?hg (N := 6) ?hd (cs := #[.bool true, .int .i64 a2_1, .int .i64 a2_2, .int .i64 a2_3, .bool true, .int .i64 a2_5, .int .i64 a2_6, .int .i64 a2_7]) (t := 30) ?hr ?_; (case hd => rfl); (case hg => rfl); (case hr => first | (go_simp; done) | (go_simp; rfl)); intro gb170 hg w62 hbox hb; have n0_ := bb BK169 hb; have n1_ := bs HB hb; have n2_ := Aside0.mk (hbox); have n3_ := bz HB hg; have n4_ := bz HB hg; have n5_ := bl BK169 hg; have n6_ := bg BK169 hg; clear BK169; clear HB; have BK169 := n0_; have HB := n1_; have BK170 := n2_; have GW170 := n3_; have GE170 := n4_; have NB169_170 := n5_; have NB170_169 := n6_; clear n0_ n1_ n2_ n3_ n4_ n5_ n6_; clear hb hbox hg) | ((with_reducible refine gate_dst (N := 7) rfl ?_); refine box_event ?hg (N := 7) ?hd (cs := #[.int .i64 a3_0, .int .u64 a3_1]) (t := 33) ?hr ?_; (case hd => rfl); (case hg => rfl); (case hr => first | (go_simp; done) | (go_simp; rfl)); intro gb171 hg w63 hbox hb; have n0_ := bb BK169 hb; have n1_ := bb BK170 hb; have n2_ := bs HB hb; have n3_ := Aside0.mk (hbox); have n4_ := bz HB hg; have n5_ := bz HB hg; have n6_ := bl BK169 hg; have n7_ := bg BK169 hg; have n8_ := bl BK170 hg; have n9_ := bg BK170 hg; clear BK169; clear BK170; clear HB; have BK169 := n0_; have BK170 := n1_; have HB := n2_; have BK171 := n3_; have GW171 := n4_; have GE171 := n5_; have NB169_171 := n6_; have NB171_169 := n7_; have NB170_171 := n8_; have NB171_170 := n9_; clear n0_ n1_ n2_ n3_ n4_ n5_ n6_ n7_ n8_ n9_; clear hb hbox hg) | ((with_reducible refine gate_callee (f := 8) rfl ?_); refine goesL_ (some 14) rfl rfl Try.func8 (by kernel_rfl) rfl #[] rfl (by (try simp only [List.map_toArray, List.map_cons, List.map_nil]); first | done | rfl | (simp only [List.length_drop, List.length_take]; rfl)) ?_; (with_reducible refine (fuseelaw14_awake.calls k  true _ A5.out).mono ?_); rintro e w64 ⟨rfl, hb⟩; refine ⟨_, rfl, ?_⟩; have n0_ := bb BK169 hb; have n1_ := bb BK170 hb; have n2_ := bb BK171 hb; have n3_ := bs HB hb; clear BK169; clear BK170; clear BK171; clear HB; have BK169 := n0_; have BK170 := n1_; have BK171 := n2_; have HB := n3_; clear n0_ n1_ n2_ n3_; (try clear hb); (try clear hb2); (try clear hk); (try clear hi); have hnb65 := NB169_170.out; have hnc65 := NB170_169.out; have hnb66 := NB169_171.out; have hnc66 := NB171_169.out; obtain ⟨hcz67_0, hcz67_1, hcz67_2, hcz67_3, hcz67_4, hcz67_5⟩ := cc6 BK169; obtain ⟨hfz67_0, hfz67_1, hfz67_2, hfz67_3, hfz67_4, hfz67_5⟩ := cf6 BK169; have hnb68 := NB170_171.out; have hnc68 := NB171_170.out; obtain ⟨hcz69_0, hcz69_1, hcz69_2, hcz69_3, hcz69_4, hcz69_5, hcz69_6, hcz69_7⟩ := cc8 BK170; obtain ⟨hfz69_0, hfz69_1, hfz69_2, hfz69_3, hfz69_4, hfz69_5, hfz69_6, hfz69_7⟩ := cf8 BK170) | (go_at_call 10; (with_reducible refine (job_May.calls a1_0 a1_1 a1_2 a1_3 a1_4 a1_5 true a2_1 a2_2 a2_3 true a2_5 a2_6 a2_7 true _ A7.out).mono ?_); rintro e w70 ⟨rfl, hb⟩; have n0_ := bb BK169 hb; have n1_ := bb BK170 hb; have n2_ := bb BK171 hb; have n3_ := bs HB hb; clear BK169; clear BK170; clear BK171; clear HB; have BK169 := n0_; have BK170 := n1_; have BK171 := n2_; have HB := n3_; clear n0_ n1_ n2_ n3_; (try clear hb); (try clear hb2); (try clear hk); (try clear hi); (try clear hcz67_0 hcz67_1 hcz67_2 hcz67_3 hcz67_4 hcz67_5 hfz67_0 hfz67_1 hfz67_2 hfz67_3 hfz67_4 hfz67_5); (try clear hcz69_0 hcz69_1 hcz69_2 hcz69_3 hcz69_4 hcz69_5 hcz69_6 hcz69_7 hfz69_0 hfz69_1 hfz69_2 hfz69_3 hfz69_4 hfz69_5 hfz69_6 hfz69_7); obtain ⟨hcz71_0, hcz71_1⟩ := cc2 BK171; obtain ⟨hfz71_0, hfz71_1⟩ := cf2 BK171) | (go_at_call 11; (with_reducible refine (ring_May.calls a3_0 a3_1 true _ A9.out).mono ?_); rintro e w72 ⟨rfl, hb⟩; have n0_ := bb BK169 hb; have n1_ := bb BK170 hb; have n2_ := bb BK171 hb; have n3_ := bs HB hb; clear BK169; clear BK170; clear BK171; clear HB; have BK169 := n0_; have BK170 := n1_; have BK171 := n2_; have HB := n3_; clear n0_ n1_ n2_ n3_; (try clear hb); (try clear hb2); (try clear hk); (try clear hi); (try clear hcz67_0 hcz67_1 hcz67_2 hcz67_3 hcz67_4 hcz67_5 hfz67_0 hfz67_1 hfz67_2 hfz67_3 hfz67_4 hfz67_5); (try clear hcz69_0 hcz69_1 hcz69_2 hcz69_3 hcz69_4 hcz69_5 hcz69_6 hcz69_7 hfz69_0 hfz69_1 hfz69_2 hfz69_3 hfz69_4 hfz69_5 hfz69_6 hfz69_7); (try clear hcz71_0 hcz71_1 hfz71_0 hfz71_1); obtain ⟨hcz73_0, hcz73_1, hcz73_2, hcz73_3, hcz73_4, hcz73_5⟩ := cc6 BK169; obtain ⟨hfz73_0, hfz73_1, hfz73_2, hfz73_3, hfz73_4, hfz73_5⟩ := cf6 BK169; obtain ⟨hcz74_0, hcz74_1, hcz74_2, hcz74_3, hcz74_4, hcz74_5, hcz74_6, hcz74_7⟩ := cc8 BK170; obtain ⟨hfz74_0, hfz74_1, hfz74_2, hfz74_3, hfz74_4, hfz74_5, hfz74_6, hfz74_7⟩ := cf8 BK170; obtain ⟨hcz75_0, hcz75_1⟩ := cc2 BK171; obtain ⟨hfz75_0, hfz75_1⟩ := cf2 BK171) | ((with_reducible refine gate_callee (f := 12) rfl ?_); refine goesL_ (some 34) rfl rfl Try.func12 (by kernel_rfl) rfl #[.int .i64 a0, .agg #[.int .i64 a1_0, .int .i64 a1_1, .int .i64 a1_2, .int .i64 a1_3, .int .i64 a1_4, .int .i64 a1_5], .agg #[.bool true, .int .i64 a2_1, .int .i64 a2_2, .int .i64 a2_3, .bool true, .int .i64 a2_5, .int .i64 a2_6, .int .i64 a2_7], .agg #[.int .i64 a3_0, .int .u64 a3_1]] rfl (by (try simp only [List.map_toArray, List.map_cons, List.map_nil]); first | done | rfl | (simp only [List.length_drop, List.length_take]; rfl)) ?_; (with_reducible refine (option_Of.calls k a0 a1_0 a1_1 a1_2 a1_3 a1_4 a1_5 true a2_1 a2_2 a2_3 true a2_5 a2_6 a2_7 a3_0 a3_1 t175 t176 t177 false _ A11.out).mono ?_); rintro e w76 ⟨rfl, hb⟩; refine ⟨_, rfl, ?_⟩; have n0_ := bb BK169 hb; have n1_ := bb BK170 hb; have n2_ := bb BK171 hb; have n3_ := bs HB hb; clear BK169; clear BK170; clear BK171; clear HB; have BK169 := n0_; have BK170 := n1_; have BK171 := n2_; have HB := n3_; clear n0_ n1_ n2_ n3_; (try clear hb); (try clear hb2); (try clear hk); (try clear hi)) | ((with_reducible refine gate_dst (N := 10) rfl ?_); refine box_event ?hg (N := 10) ?hd (cs := #[.int .i64 0, .int .i64 0, .int .i64 0]) (t := 23) ?hr ?_; (case hd => rfl); (case hg => rfl); (case hr => first | (go_simp; done) | (go_simp; rfl)); intro gb179 hg w77 hbox hb; have n0_ := bb BK169 hb; have n1_ := bb BK170 hb; have n2_ := bb BK171 hb; have n3_ := bs HB hb; have n4_ := Aside0.mk (hbox); have n5_ := bz HB hg; have n6_ := bz HB hg; have n7_ := bl BK169 hg; have n8_ := bg BK169 hg; have n9_ := bl BK170 hg; have n10_ := bg BK170 hg; have n11_ := bl BK171 hg; have n12_ := bg BK171 hg; clear BK169; clear BK170; clear BK171; clear HB; have BK169 := n0_; have BK170 := n1_; have BK171 := n2_; have HB := n3_; have BK179 := n4_; have GW179 := n5_; have GE179 := n6_; have NB169_179 := n7_; have NB179_169 := n8_; have NB170_179 := n9_; have NB179_170 := n10_; have NB171_179 := n11_; have NB179_171 := n12_; clear n0_ n1_ n2_ n3_ n4_ n5_ n6_ n7_ n8_ n9_ n10_ n11_ n12_; clear hb hbox hg; have hnb78 := NB179_169.out; have hnc78 := NB169_179.out; have hnb79 := NB179_170.out; have hnc79 := NB170_179.out; have hnb80 := NB179_171.out; have hnc80 := NB171_179.out; (try clear hcz67_0 hcz67_1 hcz67_2 hcz67_3 hcz67_4 hcz67_5 hfz67_0 hfz67_1 hfz67_2 hfz67_3 hfz67_4 hfz67_5); (try clear hcz69_0 hcz69_1 hcz69_2 hcz69_3 hcz69_4 hcz69_5 hcz69_6 hcz69_7 hfz69_0 hfz69_1 hfz69_2 hfz69_3 hfz69_4 hfz69_5 hfz69_6 hfz69_7); (try clear hcz71_0 hcz71_1 hfz71_0 hfz71_1); (try clear hcz73_0 hcz73_1 hcz73_2 hcz73_3 hcz73_4 hcz73_5 hfz73_0 hfz73_1 hfz73_2 hfz73_3 hfz73_4 hfz73_5); (try clear hcz74_0 hcz74_1 hcz74_2 hcz74_3 hcz74_4 hcz74_5 hcz74_6 hcz74_7 hfz74_0 hfz74_1 hfz74_2 hfz74_3 hfz74_4 hfz74_5 hfz74_6 hfz74_7); (try clear hcz75_0 hcz75_1 hfz75_0 hfz75_1); obtain ⟨hcz81_0, hcz81_1, hcz81_2⟩ := cc3 BK179; obtain ⟨hfz81_0, hfz81_1, hfz81_2⟩ := cf3 BK179))
                have n0_ : Aside0 ((((w77.setCell ⟨gb179, 0, none⟩ (.int .i64 t175)).setCell ⟨gb179, 1, none⟩ (.int .i64 t176)).setCell ⟨gb179, 2, none⟩ (.int .i64 t177)).heap[gb169]? = some (.cells #[.int .i64 a1_0, .int .i64 a1_1, .int .i64 a1_2, .int .i64 a1_3, .int .i64 a1_4, .int .i64 a1_5] 28 (0, 0))) := ⟨by (with_reducible repeat (first | refine bN ?_ _ | refine bD ?_ | refine bA ?_ _ | refine blk_far ?_ NB169_179.out _)); exact BK169.out⟩
                have n1_ : Aside0 ((((w77.setCell ⟨gb179, 0, none⟩ (.int .i64 t175)).setCell ⟨gb179, 1, none⟩ (.int .i64 t176)).setCell ⟨gb179, 2, none⟩ (.int .i64 t177)).heap[gb170]? = some (.cells #[.bool true, .int .i64 a2_1, .int .i64 a2_2, .int .i64 a2_3, .bool true, .int .i64 a2_5, .int .i64 a2_6, .int .i64 a2_7] 30 (0, 0))) := ⟨by (with_reducible repeat (first | refine bN ?_ _ | refine bD ?_ | refine bA ?_ _ | refine blk_far ?_ NB170_179.out _)); exact BK170.out⟩
                have n2_ : Aside0 ((((w77.setCell ⟨gb179, 0, none⟩ (.int .i64 t175)).setCell ⟨gb179, 1, none⟩ (.int .i64 t176)).setCell ⟨gb179, 2, none⟩ (.int .i64 t177)).heap[gb171]? = some (.cells #[.int .i64 a3_0, .int .u64 a3_1] 33 (0, 0))) := ⟨by (with_reducible repeat (first | refine bN ?_ _ | refine bD ?_ | refine bA ?_ _ | refine blk_far ?_ NB171_179.out _)); exact BK171.out⟩
                have n3_ : Aside0 ((((w77.setCell ⟨gb179, 0, none⟩ (.int .i64 t175)).setCell ⟨gb179, 1, none⟩ (.int .i64 t176)).setCell ⟨gb179, 2, none⟩ (.int .i64 t177)).heap[gb179]? = some (.cells #[.int .i64 t175, .int .i64 t176, .int .i64 t177] 23 (0, 0))) := ⟨by (with_reducible repeat (first | refine bN ?_ _ | refine bD ?_ | refine bA ?_ _)); refine blk_put (cs := #[.int .i64 t175, .int .i64 t176, .int .i64 0]) ?_ 2 _ rfl; (with_reducible repeat (first | refine bN ?_ _ | refine bD ?_ | refine bA ?_ _)); refine blk_put (cs := #[.int .i64 t175, .int .i64 0, .int .i64 0]) ?_ 1 _ rfl; (with_reducible repeat (first | refine bN ?_ _ | refine bD ?_ | refine bA ?_ _)); refine blk_put (cs := #[.int .i64 0, .int .i64 0, .int .i64 0]) ?_ 0 _ rfl; (with_reducible repeat (first | refine bN ?_ _ | refine bD ?_ | refine bA ?_ _)); exact BK179.out⟩
                have n4_ : Aside0 (Below w.heap.size w (((w77.setCell ⟨gb179, 0, none⟩ (.int .i64 t175)).setCell ⟨gb179, 1, none⟩ (.int .i64 t176)).setCell ⟨gb179, 2, none⟩ (.int .i64 t177))) := ⟨by repeat (first | (with_reducible first | exact HB.out | apply below_alloc | apply pw_below_drewN | apply below_drew1 | refine below_set ?_ GE169.out | refine below_set ?_ GE170.out | refine below_set ?_ GE171.out | refine below_set ?_ GE179.out) | exact HB.out)⟩
                (try clear BK169)
                (try clear BK170)
                (try clear BK171)
                (try clear BK179)
                (try clear HB)
                generalize (((w77.setCell ⟨gb179, 0, none⟩ (.int .i64 t175)).setCell ⟨gb179, 1, none⟩ (.int .i64 t176)).setCell ⟨gb179, 2, none⟩ (.int .i64 t177)) = w82 at n0_ n1_ n2_ n3_ n4_ ⊢
                have BK169 := n0_
                have BK170 := n1_
                have BK171 := n2_
                have BK179 := n3_
                have HB := n4_
                clear n0_ n1_ n2_ n3_ n4_
                have n0_ := Aside0.mk (blk_drew BK169.out)
                have n1_ := Aside0.mk (blk_drew BK170.out)
                have n2_ := Aside0.mk (blk_drew BK171.out)
                have n3_ := Aside0.mk (blk_drew BK179.out)
                have n4_ := Aside0.mk (below_drew1 HB.out)
                clear BK169
                clear BK170
                clear BK171
                clear BK179
                clear HB
                have BK169 := n0_
                have BK170 := n1_
                have BK171 := n2_
                have BK179 := n3_
                have HB := n4_
                clear n0_ n1_ n2_ n3_ n4_
                refine start_ (n := 12) (S := fun w' => w'.cell? ⟨gb169, 0, none⟩ = some (.int .i64 a1_0) ∧ w'.cell? ⟨gb169, 1, none⟩ = some (.int .i64 a1_1) ∧ w'.cell? ⟨gb169, 2, none⟩ = some (.int .i64 a1_2) ∧ w'.cell? ⟨gb169, 3, none⟩ = some (.int .i64 a1_3) ∧ w'.cell? ⟨gb169, 4, none⟩ = some (.int .i64 a1_4) ∧ w'.cell? ⟨gb169, 5, none⟩ = some (.int .i64 a1_5) ∧ w'.cell? ⟨gb170, 0, none⟩ = some (.bool true) ∧ w'.cell? ⟨gb170, 1, none⟩ = some (.int .i64 a2_1) ∧ w'.cell? ⟨gb170, 2, none⟩ = some (.int .i64 a2_2) ∧ w'.cell? ⟨gb170, 3, none⟩ = some (.int .i64 a2_3) ∧ w'.cell? ⟨gb170, 4, none⟩ = some (.bool true) ∧ w'.cell? ⟨gb170, 5, none⟩ = some (.int .i64 a2_5) ∧ w'.cell? ⟨gb170, 6, none⟩ = some (.int .i64 a2_6) ∧ w'.cell? ⟨gb170, 7, none⟩ = some (.int .i64 a2_7) ∧ w'.cell? ⟨gb171, 0, none⟩ = some (.int .i64 a3_0) ∧ w'.cell? ⟨gb171, 1, none⟩ = some (.int .u64 a3_1)) (ds := []) #[false, false, false, false, false, false, false, false, false, false, false, false] (by kernel_rfl) rfl rfl ⟨(blk_cell BK169.out 0).trans rfl, (blk_cell BK169.out 1).trans rfl, (blk_cell BK169.out 2).trans rfl, (blk_cell BK169.out 3).trans rfl, (blk_cell BK169.out 4).trans rfl, (blk_cell BK169.out 5).trans rfl, (blk_cell BK170.out 0).trans rfl, (blk_cell BK170.out 1).trans rfl, (blk_cell BK170.out 2).trans rfl, (blk_cell BK170.out 3).trans rfl, (blk_cell BK170.out 4).trans rfl, (blk_cell BK170.out 5).trans rfl, (blk_cell BK170.out 6).trans rfl, (blk_cell BK170.out 7).trans rfl, (blk_cell BK171.out 0).trans rfl, (blk_cell BK171.out 1).trans rfl⟩ (fun hHeld => ?_); refine with_tabW fuseelaw14_OptionFar.tab5 fuseelaw14_OptionFar.bits5 (fun HT_ HW_ => ?_)
                generalize w82.drew = w83 at BK169 BK170 BK171 BK179 HB hHeld ⊢
                refine pure_ (i := 0) (N := some 38) (v := ?_) (a' := ?_) #[true, false, false, false, false, false, false, false, false, false, false, false] rfl rfl (any_of HT_.out (by kernel_rfl)) (fun _ _ _ h => h) (Or.inl ⟨by rfl, ?_⟩) ?_ ?_
                rotate_left; focus (intro w'; go_simp; with_reducible rfl)
                rotate_left; focus (simp only [Act.put, List.setIfInBounds_toArray, List.set_cons_zero, List.set_cons_succ, i64_w, i32_w]; rfl)
                refine take_ (i := 1) (N := some 39) (v := ?_) (a' := ?_) #[true, true, false, false, false, false, false, false, false, false, false, false] rfl rfl (take_ofW HT_.out HW_.out (by kernel_rfl)) (fun _ _ _ h => h) (Or.inl ⟨by rfl, ?_⟩) hHeld ?_ ?_
                rotate_left
                · rintro w' ⟨s0, s1, s2, s3, s4, s5, s6, s7, s8, s9, s10, s11, s12, s13, s14, s15⟩
                  go_simp
                  with_reducible rfl
                rotate_left; focus (simp only [Act.put, List.setIfInBounds_toArray, List.set_cons_zero, List.set_cons_succ, i64_w, i32_w]; rfl)
                refine take_ (i := 2) (N := some 40) (v := ?_) (a' := ?_) #[true, true, true, false, false, false, false, false, false, false, false, false] rfl rfl (take_ofW HT_.out HW_.out (by kernel_rfl)) (fun _ _ _ h => h) (Or.inl ⟨by rfl, ?_⟩) hHeld ?_ ?_
                rotate_left
                · rintro w' ⟨s0, s1, s2, s3, s4, s5, s6, s7, s8, s9, s10, s11, s12, s13, s14, s15⟩
                  go_simp
                  with_reducible rfl
                rotate_left; focus (simp only [Act.put, List.setIfInBounds_toArray, List.set_cons_zero, List.set_cons_succ, i64_w, i32_w]; rfl)
                refine take_ (i := 3) (N := some 41) (v := ?_) (a' := ?_) #[true, true, true, true, false, false, false, false, false, false, false, false] rfl rfl (take_ofW HT_.out HW_.out (by kernel_rfl)) (fun _ _ _ h => h) (Or.inl ⟨by rfl, ?_⟩) hHeld ?_ ?_
                rotate_left
                · rintro w' ⟨s0, s1, s2, s3, s4, s5, s6, s7, s8, s9, s10, s11, s12, s13, s14, s15⟩
                  go_simp
                  with_reducible rfl
                rotate_left; focus (simp only [Act.put, List.setIfInBounds_toArray, List.set_cons_zero, List.set_cons_succ, i64_w, i32_w]; rfl)
                refine join_ (σ := Nat) 2 #[true, true, true, true, true, true, true, true, true, true, false, false] (fun s_ => [(42, .agg #[.int .i64 t180, .int .u64 t181]), (43, .tuple #[.agg #[.int .i64 t182, .int .i64 t183, .int .i64 t184], .bool false]), (12, .pointer (some ⟨s_, 0, none⟩)), (37, .tuple #[.agg #[.int .i64 t182, .int .i64 t183, .int .i64 t184], .bool false]), (44, .agg #[.int .i64 t182, .int .i64 t183, .int .i64 t184]), (45, .bool false)]) (fun s_ w' => (w'.cell? ⟨gb169, 0, none⟩ = some (.int .i64 a1_0) ∧ w'.cell? ⟨gb169, 1, none⟩ = some (.int .i64 a1_1) ∧ w'.cell? ⟨gb169, 2, none⟩ = some (.int .i64 a1_2) ∧ w'.cell? ⟨gb169, 3, none⟩ = some (.int .i64 a1_3) ∧ w'.cell? ⟨gb169, 4, none⟩ = some (.int .i64 a1_4) ∧ w'.cell? ⟨gb169, 5, none⟩ = some (.int .i64 a1_5) ∧ w'.cell? ⟨gb170, 0, none⟩ = some (.bool true) ∧ w'.cell? ⟨gb170, 1, none⟩ = some (.int .i64 a2_1) ∧ w'.cell? ⟨gb170, 2, none⟩ = some (.int .i64 a2_2) ∧ w'.cell? ⟨gb170, 3, none⟩ = some (.int .i64 a2_3) ∧ w'.cell? ⟨gb170, 4, none⟩ = some (.bool true) ∧ w'.cell? ⟨gb170, 5, none⟩ = some (.int .i64 a2_5) ∧ w'.cell? ⟨gb170, 6, none⟩ = some (.int .i64 a2_6) ∧ w'.cell? ⟨gb170, 7, none⟩ = some (.int .i64 a2_7) ∧ w'.cell? ⟨gb171, 0, none⟩ = some (.int .i64 a3_0) ∧ w'.cell? ⟨gb171, 1, none⟩ = some (.int .u64 a3_1)) ∧ (w'.heap[gb169]? = some (.cells #[.int .i64 a1_0, .int .i64 a1_1, .int .i64 a1_2, .int .i64 a1_3, .int .i64 a1_4, .int .i64 a1_5] 28 (0, 0))) ∧ (w'.heap[gb170]? = some (.cells #[.bool true, .int .i64 a2_1, .int .i64 a2_2, .int .i64 a2_3, .bool true, .int .i64 a2_5, .int .i64 a2_6, .int .i64 a2_7] 30 (0, 0))) ∧ (w'.heap[gb171]? = some (.cells #[.int .i64 a3_0, .int .u64 a3_1] 33 (0, 0))) ∧ (w'.heap[gb179]? = some (.cells #[.int .i64 t175, .int .i64 t176, .int .i64 t177] 23 (0, 0))) ∧ (w'.heap[s_]? = some (.cells #[.int .i64 0, .int .i64 0, .int .i64 0] 23 (0, 0))) ∧ (w.heap.size ≤ s_) ∧ (w.heap.size ≤ s_) ∧ (gb169 ≠ s_) ∧ (s_ ≠ gb169) ∧ (gb170 ≠ s_) ∧ (s_ ≠ gb170) ∧ (gb171 ≠ s_) ∧ (s_ ≠ gb171) ∧ (gb179 ≠ s_) ∧ (s_ ≠ gb179) ∧ (Below w.heap.size w w')) ?_ ?_
                rotate_left
                · intro hCont
                  refine two_ (i := 4) (j := 9) (Ni := some 42) (Nj := some 12) #[true, true, true, true, true, false, false, false, false, false, false, false] #[true, true, true, true, false, false, false, false, false, true, false, false] rfl rfl rfl rfl (two_of HT_.out (by kernel_rfl)) (by decide) (by decide) (fun K hK => ?_) (fun K hK => ?_)
                  · skip
                    refine goes_ Try.func13 (by kernel_rfl) rfl #[.agg #[.int .i64 a3_0, .int .u64 a3_1], .bool true] (by rfl) rfl rfl (by (try simp only [List.map_toArray, List.map_cons, List.map_nil]); first | done | rfl | (simp only [List.length_drop, List.length_take]; rfl)) ?_
                    with_reducible refine (ring_Put.calls a3_0 a3_1 true t180 t181 _ A12.out).mono ?_
                    rintro e w84 ⟨rfl, hb⟩
                    refine ⟨_, rfl, ?_⟩
                    have n0_ := bb BK169 hb
                    have n1_ := bb BK170 hb
                    have n2_ := bb BK171 hb
                    have n3_ := bb BK179 hb
                    have n4_ := bs HB hb
                    clear BK169
                    clear BK170
                    clear BK171
                    clear BK179
                    clear HB
                    have BK169 := n0_
                    have BK170 := n1_
                    have BK171 := n2_
                    have BK179 := n3_
                    have HB := n4_
                    clear n0_ n1_ n2_ n3_ n4_
                    (try clear hb)
                    (try clear hb2)
                    (try clear hk)
                    (try clear hi)
                    refine hK.out _ _ ⟨(blk_cell BK169.out 0).trans rfl, (blk_cell BK169.out 1).trans rfl, (blk_cell BK169.out 2).trans rfl, (blk_cell BK169.out 3).trans rfl, (blk_cell BK169.out 4).trans rfl, (blk_cell BK169.out 5).trans rfl, (blk_cell BK170.out 0).trans rfl, (blk_cell BK170.out 1).trans rfl, (blk_cell BK170.out 2).trans rfl, (blk_cell BK170.out 3).trans rfl, (blk_cell BK170.out 4).trans rfl, (blk_cell BK170.out 5).trans rfl, (blk_cell BK170.out 6).trans rfl, (blk_cell BK170.out 7).trans rfl, (blk_cell BK171.out 0).trans rfl, (blk_cell BK171.out 1).trans rfl⟩ (fun hHeld => ?_)
                    clear hK K
                    refine norm_ (a' := ?_) ?_ ?_
                    rotate_left
                    · show Act.put _ (some 42) _ = _
                      simp only [Act.put, List.setIfInBounds_toArray, List.set_cons_zero, List.set_cons_succ, i64_w, i32_w]
                      rfl
                    refine two_ (i := 5) (j := 9) (Ni := some 43) (Nj := some 12) #[true, true, true, true, true, true, false, false, false, false, false, false] #[true, true, true, true, true, false, false, false, false, true, false, false] rfl rfl rfl rfl (two_of HT_.out (by kernel_rfl)) (by decide) (by decide) (fun K hK => ?_) (fun K hK => ?_)
                    · skip
                      refine goes_ Try.func12 (by kernel_rfl) rfl #[.int .i64 a0, .agg #[.int .i64 a1_0, .int .i64 a1_1, .int .i64 a1_2, .int .i64 a1_3, .int .i64 a1_4, .int .i64 a1_5], .agg #[.bool true, .int .i64 a2_1, .int .i64 a2_2, .int .i64 a2_3, .bool true, .int .i64 a2_5, .int .i64 a2_6, .int .i64 a2_7], .agg #[.int .i64 t180, .int .u64 t181]] (by rfl) rfl rfl (by (try simp only [List.map_toArray, List.map_cons, List.map_nil]); first | done | rfl | (simp only [List.length_drop, List.length_take]; rfl)) ?_
                      with_reducible refine (option_Of.calls k a0 a1_0 a1_1 a1_2 a1_3 a1_4 a1_5 true a2_1 a2_2 a2_3 true a2_5 a2_6 a2_7 t180 t181 t182 t183 t184 false _ A13.out).mono ?_
                      rintro e w85 ⟨rfl, hb⟩
                      refine ⟨_, rfl, ?_⟩
                      have n0_ := bb BK169 hb
                      have n1_ := bb BK170 hb
                      have n2_ := bb BK171 hb
                      have n3_ := bb BK179 hb
                      have n4_ := bs HB hb
                      clear BK169
                      clear BK170
                      clear BK171
                      clear BK179
                      clear HB
                      have BK169 := n0_
                      have BK170 := n1_
                      have BK171 := n2_
                      have BK179 := n3_
                      have HB := n4_
                      clear n0_ n1_ n2_ n3_ n4_
                      (try clear hb)
                      (try clear hb2)
                      (try clear hk)
                      (try clear hi)
                      refine hK.out _ _ ⟨(blk_cell BK169.out 0).trans rfl, (blk_cell BK169.out 1).trans rfl, (blk_cell BK169.out 2).trans rfl, (blk_cell BK169.out 3).trans rfl, (blk_cell BK169.out 4).trans rfl, (blk_cell BK169.out 5).trans rfl, (blk_cell BK170.out 0).trans rfl, (blk_cell BK170.out 1).trans rfl, (blk_cell BK170.out 2).trans rfl, (blk_cell BK170.out 3).trans rfl, (blk_cell BK170.out 4).trans rfl, (blk_cell BK170.out 5).trans rfl, (blk_cell BK170.out 6).trans rfl, (blk_cell BK170.out 7).trans rfl, (blk_cell BK171.out 0).trans rfl, (blk_cell BK171.out 1).trans rfl⟩ (fun hHeld => ?_)
                      clear hK K
                      refine norm_ (a' := ?_) ?_ ?_
                      rotate_left
                      · show Act.put _ (some 43) _ = _
                        simp only [Act.put, List.setIfInBounds_toArray, List.set_cons_zero, List.set_cons_succ, i64_w, i32_w]
                        rfl
                      refine pure_ (i := 6) (N := some 37) (v := ?_) (a' := ?_) #[true, true, true, true, true, true, true, false, false, false, false, false] rfl rfl (any_of HT_.out (by kernel_rfl)) (fun _ _ _ h => h) (Or.inl ⟨by rfl, ?_⟩) ?_ ?_
                      rotate_left; focus (intro w'; go_simp; with_reducible rfl)
                      rotate_left; focus (simp only [Act.put, List.setIfInBounds_toArray, List.set_cons_zero, List.set_cons_succ, i64_w, i32_w]; rfl)
                      refine pure_ (i := 7) (N := some 44) (v := ?_) (a' := ?_) #[true, true, true, true, true, true, true, true, false, false, false, false] rfl rfl (any_of HT_.out (by kernel_rfl)) (fun _ _ _ h => h) (Or.inl ⟨by rfl, ?_⟩) ?_ ?_
                      rotate_left; focus (intro w'; go_simp; with_reducible rfl)
                      rotate_left; focus (simp only [Act.put, List.setIfInBounds_toArray, List.set_cons_zero, List.set_cons_succ, i64_w, i32_w]; rfl)
                      refine pure_ (i := 8) (N := some 45) (v := ?_) (a' := ?_) #[true, true, true, true, true, true, true, true, true, false, false, false] rfl rfl (any_of HT_.out (by kernel_rfl)) (fun _ _ _ h => h) (Or.inl ⟨by rfl, ?_⟩) ?_ ?_
                      rotate_left; focus (intro w'; go_simp; with_reducible rfl)
                      rotate_left; focus (simp only [Act.put, List.setIfInBounds_toArray, List.set_cons_zero, List.set_cons_succ, i64_w, i32_w]; rfl)
                      refine one_ (i := 9) (N := some 12) #[true, true, true, true, true, true, true, true, true, true, false, false] rfl rfl (one_of HT_.out (by kernel_rfl)) (by decide) (fun K hK => ?_)
                      refine box_step ?hg (N := 12) ?hd (cs := #[.int .i64 0, .int .i64 0, .int .i64 0]) (t := 23) ?hr ?_; (case hd => rfl); (case hg => rfl); (case hr => first | (go_simp; done) | (go_simp; rfl))
                      intro gb186 hg w86 hbox hb
                      have n0_ := bb BK169 hb
                      have n1_ := bb BK170 hb
                      have n2_ := bb BK171 hb
                      have n3_ := bb BK179 hb
                      have n4_ := bs HB hb
                      have n5_ := Aside0.mk (hbox)
                      have n6_ := bz HB hg
                      have n7_ := bz HB hg
                      have n8_ := bl BK169 hg
                      have n9_ := bg BK169 hg
                      have n10_ := bl BK170 hg
                      have n11_ := bg BK170 hg
                      have n12_ := bl BK171 hg
                      have n13_ := bg BK171 hg
                      have n14_ := bl BK179 hg
                      have n15_ := bg BK179 hg
                      clear BK169
                      clear BK170
                      clear BK171
                      clear BK179
                      clear HB
                      have BK169 := n0_
                      have BK170 := n1_
                      have BK171 := n2_
                      have BK179 := n3_
                      have HB := n4_
                      have BK186 := n5_
                      have GW186 := n6_
                      have GE186 := n7_
                      have NB169_186 := n8_
                      have NB186_169 := n9_
                      have NB170_186 := n10_
                      have NB186_170 := n11_
                      have NB171_186 := n12_
                      have NB186_171 := n13_
                      have NB179_186 := n14_
                      have NB186_179 := n15_
                      clear n0_ n1_ n2_ n3_ n4_ n5_ n6_ n7_ n8_ n9_ n10_ n11_ n12_ n13_ n14_ n15_
                      clear hb hbox hg
                      refine hK.out _ _ ⟨(blk_cell BK169.out 0).trans rfl, (blk_cell BK169.out 1).trans rfl, (blk_cell BK169.out 2).trans rfl, (blk_cell BK169.out 3).trans rfl, (blk_cell BK169.out 4).trans rfl, (blk_cell BK169.out 5).trans rfl, (blk_cell BK170.out 0).trans rfl, (blk_cell BK170.out 1).trans rfl, (blk_cell BK170.out 2).trans rfl, (blk_cell BK170.out 3).trans rfl, (blk_cell BK170.out 4).trans rfl, (blk_cell BK170.out 5).trans rfl, (blk_cell BK170.out 6).trans rfl, (blk_cell BK170.out 7).trans rfl, (blk_cell BK171.out 0).trans rfl, (blk_cell BK171.out 1).trans rfl⟩ (fun hHeld => ?_)
                      clear hK K
                      refine norm_ (a' := ?_) ?_ ?_
                      rotate_left
                      · show Act.put _ (some 12) _ = _
                        simp only [Act.put, List.setIfInBounds_toArray, List.set_cons_zero, List.set_cons_succ, i64_w, i32_w]
                        rfl
                      exact norm_ (by simp only [putAll, Act.put, List.setIfInBounds_toArray, List.set_cons_zero, List.set_cons_succ]) (hCont (gb186) _ ⟨hHeld, (by (with_reducible repeat (first | refine bN ?_ _ | refine bD ?_ | refine bA ?_ _)); exact BK169.out), (by (with_reducible repeat (first | refine bN ?_ _ | refine bD ?_ | refine bA ?_ _)); exact BK170.out), (by (with_reducible repeat (first | refine bN ?_ _ | refine bD ?_ | refine bA ?_ _)); exact BK171.out), (by (with_reducible repeat (first | refine bN ?_ _ | refine bD ?_ | refine bA ?_ _)); exact BK179.out), (by (with_reducible repeat (first | refine bN ?_ _ | refine bD ?_ | refine bA ?_ _)); exact BK186.out), GW186.out, GE186.out, NB169_186.out, NB186_169.out, NB170_186.out, NB186_170.out, NB171_186.out, NB186_171.out, NB179_186.out, NB186_179.out, (by repeat (first | (with_reducible first | exact HB.out | apply below_alloc | apply pw_below_drewN | apply below_drew1 | refine below_set ?_ GE169.out | refine below_set ?_ GE170.out | refine below_set ?_ GE171.out | refine below_set ?_ GE179.out | refine below_set ?_ GE186.out) | exact HB.out))⟩)
                    · skip
                      refine box_step ?hg (N := 12) ?hd (cs := #[.int .i64 0, .int .i64 0, .int .i64 0]) (t := 23) ?hr ?_; (case hd => rfl); (case hg => rfl); (case hr => first | (go_simp; done) | (go_simp; rfl))
                      intro gb186 hg w85 hbox hb
                      have n0_ := bb BK169 hb
                      have n1_ := bb BK170 hb
                      have n2_ := bb BK171 hb
                      have n3_ := bb BK179 hb
                      have n4_ := bs HB hb
                      have n5_ := Aside0.mk (hbox)
                      have n6_ := bz HB hg
                      have n7_ := bz HB hg
                      have n8_ := bl BK169 hg
                      have n9_ := bg BK169 hg
                      have n10_ := bl BK170 hg
                      have n11_ := bg BK170 hg
                      have n12_ := bl BK171 hg
                      have n13_ := bg BK171 hg
                      have n14_ := bl BK179 hg
                      have n15_ := bg BK179 hg
                      clear BK169
                      clear BK170
                      clear BK171
                      clear BK179
                      clear HB
                      have BK169 := n0_
                      have BK170 := n1_
                      have BK171 := n2_
                      have BK179 := n3_
                      have HB := n4_
                      have BK186 := n5_
                      have GW186 := n6_
                      have GE186 := n7_
                      have NB169_186 := n8_
                      have NB186_169 := n9_
                      have NB170_186 := n10_
                      have NB186_170 := n11_
                      have NB171_186 := n12_
                      have NB186_171 := n13_
                      have NB179_186 := n14_
                      have NB186_179 := n15_
                      clear n0_ n1_ n2_ n3_ n4_ n5_ n6_ n7_ n8_ n9_ n10_ n11_ n12_ n13_ n14_ n15_
                      clear hb hbox hg
                      refine hK.out _ _ ⟨(blk_cell BK169.out 0).trans rfl, (blk_cell BK169.out 1).trans rfl, (blk_cell BK169.out 2).trans rfl, (blk_cell BK169.out 3).trans rfl, (blk_cell BK169.out 4).trans rfl, (blk_cell BK169.out 5).trans rfl, (blk_cell BK170.out 0).trans rfl, (blk_cell BK170.out 1).trans rfl, (blk_cell BK170.out 2).trans rfl, (blk_cell BK170.out 3).trans rfl, (blk_cell BK170.out 4).trans rfl, (blk_cell BK170.out 5).trans rfl, (blk_cell BK170.out 6).trans rfl, (blk_cell BK170.out 7).trans rfl, (blk_cell BK171.out 0).trans rfl, (blk_cell BK171.out 1).trans rfl⟩ (fun hHeld => ?_)
                      clear hK K
                      refine norm_ (a' := ?_) ?_ ?_
                      rotate_left
                      · show Act.put _ (some 12) _ = _
                        simp only [Act.put, List.setIfInBounds_toArray, List.set_cons_zero, List.set_cons_succ, i64_w, i32_w]
                        rfl
                      refine one_ (i := 5) (N := some 43) #[true, true, true, true, true, true, false, false, false, true, false, false] rfl rfl (one_of HT_.out (by kernel_rfl)) (by decide) (fun K hK => ?_)
                      refine goes_ Try.func12 (by kernel_rfl) rfl #[.int .i64 a0, .agg #[.int .i64 a1_0, .int .i64 a1_1, .int .i64 a1_2, .int .i64 a1_3, .int .i64 a1_4, .int .i64 a1_5], .agg #[.bool true, .int .i64 a2_1, .int .i64 a2_2, .int .i64 a2_3, .bool true, .int .i64 a2_5, .int .i64 a2_6, .int .i64 a2_7], .agg #[.int .i64 t180, .int .u64 t181]] (by rfl) rfl rfl (by (try simp only [List.map_toArray, List.map_cons, List.map_nil]); first | done | rfl | (simp only [List.length_drop, List.length_take]; rfl)) ?_
                      with_reducible refine (option_Of.calls k a0 a1_0 a1_1 a1_2 a1_3 a1_4 a1_5 true a2_1 a2_2 a2_3 true a2_5 a2_6 a2_7 t180 t181 t182 t183 t184 false _ A13.out).mono ?_
                      rintro e w86 ⟨rfl, hb⟩
                      refine ⟨_, rfl, ?_⟩
                      have n0_ := bb BK169 hb
                      have n1_ := bb BK170 hb
                      have n2_ := bb BK171 hb
                      have n3_ := bb BK179 hb
                      have n4_ := bb BK186 hb
                      have n5_ := bs HB hb
                      clear BK169
                      clear BK170
                      clear BK171
                      clear BK179
                      clear BK186
                      clear HB
                      have BK169 := n0_
                      have BK170 := n1_
                      have BK171 := n2_
                      have BK179 := n3_
                      have BK186 := n4_
                      have HB := n5_
                      clear n0_ n1_ n2_ n3_ n4_ n5_
                      (try clear hb)
                      (try clear hb2)
                      (try clear hk)
                      (try clear hi)
                      refine hK.out _ _ ⟨(blk_cell BK169.out 0).trans rfl, (blk_cell BK169.out 1).trans rfl, (blk_cell BK169.out 2).trans rfl, (blk_cell BK169.out 3).trans rfl, (blk_cell BK169.out 4).trans rfl, (blk_cell BK169.out 5).trans rfl, (blk_cell BK170.out 0).trans rfl, (blk_cell BK170.out 1).trans rfl, (blk_cell BK170.out 2).trans rfl, (blk_cell BK170.out 3).trans rfl, (blk_cell BK170.out 4).trans rfl, (blk_cell BK170.out 5).trans rfl, (blk_cell BK170.out 6).trans rfl, (blk_cell BK170.out 7).trans rfl, (blk_cell BK171.out 0).trans rfl, (blk_cell BK171.out 1).trans rfl⟩ (fun hHeld => ?_)
                      clear hK K
                      refine norm_ (a' := ?_) ?_ ?_
                      rotate_left
                      · show Act.put _ (some 43) _ = _
                        simp only [Act.put, List.setIfInBounds_toArray, List.set_cons_zero, List.set_cons_succ, i64_w, i32_w]
                        rfl
                      refine pure_ (i := 6) (N := some 37) (v := ?_) (a' := ?_) #[true, true, true, true, true, true, true, false, false, true, false, false] rfl rfl (any_of HT_.out (by kernel_rfl)) (fun _ _ _ h => h) (Or.inl ⟨by rfl, ?_⟩) ?_ ?_
                      rotate_left; focus (intro w'; go_simp; with_reducible rfl)
                      rotate_left; focus (simp only [Act.put, List.setIfInBounds_toArray, List.set_cons_zero, List.set_cons_succ, i64_w, i32_w]; rfl)
                      refine pure_ (i := 7) (N := some 44) (v := ?_) (a' := ?_) #[true, true, true, true, true, true, true, true, false, true, false, false] rfl rfl (any_of HT_.out (by kernel_rfl)) (fun _ _ _ h => h) (Or.inl ⟨by rfl, ?_⟩) ?_ ?_
                      rotate_left; focus (intro w'; go_simp; with_reducible rfl)
                      rotate_left; focus (simp only [Act.put, List.setIfInBounds_toArray, List.set_cons_zero, List.set_cons_succ, i64_w, i32_w]; rfl)
                      refine pure_ (i := 8) (N := some 45) (v := ?_) (a' := ?_) #[true, true, true, true, true, true, true, true, true, true, false, false] rfl rfl (any_of HT_.out (by kernel_rfl)) (fun _ _ _ h => h) (Or.inl ⟨by rfl, ?_⟩) ?_ ?_
                      rotate_left; focus (intro w'; go_simp; with_reducible rfl)
                      rotate_left; focus (simp only [Act.put, List.setIfInBounds_toArray, List.set_cons_zero, List.set_cons_succ, i64_w, i32_w]; rfl)
                      exact norm_ (by simp only [putAll, Act.put, List.setIfInBounds_toArray, List.set_cons_zero, List.set_cons_succ]) (hCont (gb186) _ ⟨hHeld, (by (with_reducible repeat (first | refine bN ?_ _ | refine bD ?_ | refine bA ?_ _)); exact BK169.out), (by (with_reducible repeat (first | refine bN ?_ _ | refine bD ?_ | refine bA ?_ _)); exact BK170.out), (by (with_reducible repeat (first | refine bN ?_ _ | refine bD ?_ | refine bA ?_ _)); exact BK171.out), (by (with_reducible repeat (first | refine bN ?_ _ | refine bD ?_ | refine bA ?_ _)); exact BK179.out), (by (with_reducible repeat (first | refine bN ?_ _ | refine bD ?_ | refine bA ?_ _)); exact BK186.out), GW186.out, GE186.out, NB169_186.out, NB186_169.out, NB170_186.out, NB186_170.out, NB171_186.out, NB186_171.out, NB179_186.out, NB186_179.out, (by repeat (first | (with_reducible first | exact HB.out | apply below_alloc | apply pw_below_drewN | apply below_drew1 | refine below_set ?_ GE169.out | refine below_set ?_ GE170.out | refine below_set ?_ GE171.out | refine below_set ?_ GE179.out | refine below_set ?_ GE186.out) | exact HB.out))⟩)
                  · skip
                    refine box_step ?hg (N := 12) ?hd (cs := #[.int .i64 0, .int .i64 0, .int .i64 0]) (t := 23) ?hr ?_; (case hd => rfl); (case hg => rfl); (case hr => first | (go_simp; done) | (go_simp; rfl))
                    intro gb186 hg w84 hbox hb
                    have n0_ := bb BK169 hb
                    have n1_ := bb BK170 hb
                    have n2_ := bb BK171 hb
                    have n3_ := bb BK179 hb
                    have n4_ := bs HB hb
                    have n5_ := Aside0.mk (hbox)
                    have n6_ := bz HB hg
                    have n7_ := bz HB hg
                    have n8_ := bl BK169 hg
                    have n9_ := bg BK169 hg
                    have n10_ := bl BK170 hg
                    have n11_ := bg BK170 hg
                    have n12_ := bl BK171 hg
                    have n13_ := bg BK171 hg
                    have n14_ := bl BK179 hg
                    have n15_ := bg BK179 hg
                    clear BK169
                    clear BK170
                    clear BK171
                    clear BK179
                    clear HB
                    have BK169 := n0_
                    have BK170 := n1_
                    have BK171 := n2_
                    have BK179 := n3_
                    have HB := n4_
                    have BK186 := n5_
                    have GW186 := n6_
                    have GE186 := n7_
                    have NB169_186 := n8_
                    have NB186_169 := n9_
                    have NB170_186 := n10_
                    have NB186_170 := n11_
                    have NB171_186 := n12_
                    have NB186_171 := n13_
                    have NB179_186 := n14_
                    have NB186_179 := n15_
                    clear n0_ n1_ n2_ n3_ n4_ n5_ n6_ n7_ n8_ n9_ n10_ n11_ n12_ n13_ n14_ n15_
                    clear hb hbox hg
                    refine hK.out _ _ ⟨(blk_cell BK169.out 0).trans rfl, (blk_cell BK169.out 1).trans rfl, (blk_cell BK169.out 2).trans rfl, (blk_cell BK169.out 3).trans rfl, (blk_cell BK169.out 4).trans rfl, (blk_cell BK169.out 5).trans rfl, (blk_cell BK170.out 0).trans rfl, (blk_cell BK170.out 1).trans rfl, (blk_cell BK170.out 2).trans rfl, (blk_cell BK170.out 3).trans rfl, (blk_cell BK170.out 4).trans rfl, (blk_cell BK170.out 5).trans rfl, (blk_cell BK170.out 6).trans rfl, (blk_cell BK170.out 7).trans rfl, (blk_cell BK171.out 0).trans rfl, (blk_cell BK171.out 1).trans rfl⟩ (fun hHeld => ?_)
                    clear hK K
                    refine norm_ (a' := ?_) ?_ ?_
                    rotate_left
                    · show Act.put _ (some 12) _ = _
                      simp only [Act.put, List.setIfInBounds_toArray, List.set_cons_zero, List.set_cons_succ, i64_w, i32_w]
                      rfl
                    refine one_ (i := 4) (N := some 42) #[true, true, true, true, true, false, false, false, false, true, false, false] rfl rfl (one_of HT_.out (by kernel_rfl)) (by decide) (fun K hK => ?_)
                    refine goes_ Try.func13 (by kernel_rfl) rfl #[.agg #[.int .i64 a3_0, .int .u64 a3_1], .bool true] (by rfl) rfl rfl (by (try simp only [List.map_toArray, List.map_cons, List.map_nil]); first | done | rfl | (simp only [List.length_drop, List.length_take]; rfl)) ?_
                    with_reducible refine (ring_Put.calls a3_0 a3_1 true t180 t181 _ A12.out).mono ?_
                    rintro e w85 ⟨rfl, hb⟩
                    refine ⟨_, rfl, ?_⟩
                    have n0_ := bb BK169 hb
                    have n1_ := bb BK170 hb
                    have n2_ := bb BK171 hb
                    have n3_ := bb BK179 hb
                    have n4_ := bb BK186 hb
                    have n5_ := bs HB hb
                    clear BK169
                    clear BK170
                    clear BK171
                    clear BK179
                    clear BK186
                    clear HB
                    have BK169 := n0_
                    have BK170 := n1_
                    have BK171 := n2_
                    have BK179 := n3_
                    have BK186 := n4_
                    have HB := n5_
                    clear n0_ n1_ n2_ n3_ n4_ n5_
                    (try clear hb)
                    (try clear hb2)
                    (try clear hk)
                    (try clear hi)
                    refine hK.out _ _ ⟨(blk_cell BK169.out 0).trans rfl, (blk_cell BK169.out 1).trans rfl, (blk_cell BK169.out 2).trans rfl, (blk_cell BK169.out 3).trans rfl, (blk_cell BK169.out 4).trans rfl, (blk_cell BK169.out 5).trans rfl, (blk_cell BK170.out 0).trans rfl, (blk_cell BK170.out 1).trans rfl, (blk_cell BK170.out 2).trans rfl, (blk_cell BK170.out 3).trans rfl, (blk_cell BK170.out 4).trans rfl, (blk_cell BK170.out 5).trans rfl, (blk_cell BK170.out 6).trans rfl, (blk_cell BK170.out 7).trans rfl, (blk_cell BK171.out 0).trans rfl, (blk_cell BK171.out 1).trans rfl⟩ (fun hHeld => ?_)
                    clear hK K
                    refine norm_ (a' := ?_) ?_ ?_
                    rotate_left
                    · show Act.put _ (some 42) _ = _
                      simp only [Act.put, List.setIfInBounds_toArray, List.set_cons_zero, List.set_cons_succ, i64_w, i32_w]
                      rfl
                    refine one_ (i := 5) (N := some 43) #[true, true, true, true, true, true, false, false, false, true, false, false] rfl rfl (one_of HT_.out (by kernel_rfl)) (by decide) (fun K hK => ?_)
                    refine goes_ Try.func12 (by kernel_rfl) rfl #[.int .i64 a0, .agg #[.int .i64 a1_0, .int .i64 a1_1, .int .i64 a1_2, .int .i64 a1_3, .int .i64 a1_4, .int .i64 a1_5], .agg #[.bool true, .int .i64 a2_1, .int .i64 a2_2, .int .i64 a2_3, .bool true, .int .i64 a2_5, .int .i64 a2_6, .int .i64 a2_7], .agg #[.int .i64 t180, .int .u64 t181]] (by rfl) rfl rfl (by (try simp only [List.map_toArray, List.map_cons, List.map_nil]); first | done | rfl | (simp only [List.length_drop, List.length_take]; rfl)) ?_
                    with_reducible refine (option_Of.calls k a0 a1_0 a1_1 a1_2 a1_3 a1_4 a1_5 true a2_1 a2_2 a2_3 true a2_5 a2_6 a2_7 t180 t181 t182 t183 t184 false _ A13.out).mono ?_
                    rintro e w86 ⟨rfl, hb⟩
                    refine ⟨_, rfl, ?_⟩
                    have n0_ := bb BK169 hb
                    have n1_ := bb BK170 hb
                    have n2_ := bb BK171 hb
                    have n3_ := bb BK179 hb
                    have n4_ := bb BK186 hb
                    have n5_ := bs HB hb
                    clear BK169
                    clear BK170
                    clear BK171
                    clear BK179
                    clear BK186
                    clear HB
                    have BK169 := n0_
                    have BK170 := n1_
                    have BK171 := n2_
                    have BK179 := n3_
                    have BK186 := n4_
                    have HB := n5_
                    clear n0_ n1_ n2_ n3_ n4_ n5_
                    (try clear hb)
                    (try clear hb2)
                    (try clear hk)
                    (try clear hi)
                    refine hK.out _ _ ⟨(blk_cell BK169.out 0).trans rfl, (blk_cell BK169.out 1).trans rfl, (blk_cell BK169.out 2).trans rfl, (blk_cell BK169.out 3).trans rfl, (blk_cell BK169.out 4).trans rfl, (blk_cell BK169.out 5).trans rfl, (blk_cell BK170.out 0).trans rfl, (blk_cell BK170.out 1).trans rfl, (blk_cell BK170.out 2).trans rfl, (blk_cell BK170.out 3).trans rfl, (blk_cell BK170.out 4).trans rfl, (blk_cell BK170.out 5).trans rfl, (blk_cell BK170.out 6).trans rfl, (blk_cell BK170.out 7).trans rfl, (blk_cell BK171.out 0).trans rfl, (blk_cell BK171.out 1).trans rfl⟩ (fun hHeld => ?_)
                    clear hK K
                    refine norm_ (a' := ?_) ?_ ?_
                    rotate_left
                    · show Act.put _ (some 43) _ = _
                      simp only [Act.put, List.setIfInBounds_toArray, List.set_cons_zero, List.set_cons_succ, i64_w, i32_w]
                      rfl
                    refine pure_ (i := 6) (N := some 37) (v := ?_) (a' := ?_) #[true, true, true, true, true, true, true, false, false, true, false, false] rfl rfl (any_of HT_.out (by kernel_rfl)) (fun _ _ _ h => h) (Or.inl ⟨by rfl, ?_⟩) ?_ ?_
                    rotate_left; focus (intro w'; go_simp; with_reducible rfl)
                    rotate_left; focus (simp only [Act.put, List.setIfInBounds_toArray, List.set_cons_zero, List.set_cons_succ, i64_w, i32_w]; rfl)
                    refine pure_ (i := 7) (N := some 44) (v := ?_) (a' := ?_) #[true, true, true, true, true, true, true, true, false, true, false, false] rfl rfl (any_of HT_.out (by kernel_rfl)) (fun _ _ _ h => h) (Or.inl ⟨by rfl, ?_⟩) ?_ ?_
                    rotate_left; focus (intro w'; go_simp; with_reducible rfl)
                    rotate_left; focus (simp only [Act.put, List.setIfInBounds_toArray, List.set_cons_zero, List.set_cons_succ, i64_w, i32_w]; rfl)
                    refine pure_ (i := 8) (N := some 45) (v := ?_) (a' := ?_) #[true, true, true, true, true, true, true, true, true, true, false, false] rfl rfl (any_of HT_.out (by kernel_rfl)) (fun _ _ _ h => h) (Or.inl ⟨by rfl, ?_⟩) ?_ ?_
                    rotate_left; focus (intro w'; go_simp; with_reducible rfl)
                    rotate_left; focus (simp only [Act.put, List.setIfInBounds_toArray, List.set_cons_zero, List.set_cons_succ, i64_w, i32_w]; rfl)
                    exact norm_ (by simp only [putAll, Act.put, List.setIfInBounds_toArray, List.set_cons_zero, List.set_cons_succ]) (hCont (gb186) _ ⟨hHeld, (by (with_reducible repeat (first | refine bN ?_ _ | refine bD ?_ | refine bA ?_ _)); exact BK169.out), (by (with_reducible repeat (first | refine bN ?_ _ | refine bD ?_ | refine bA ?_ _)); exact BK170.out), (by (with_reducible repeat (first | refine bN ?_ _ | refine bD ?_ | refine bA ?_ _)); exact BK171.out), (by (with_reducible repeat (first | refine bN ?_ _ | refine bD ?_ | refine bA ?_ _)); exact BK179.out), (by (with_reducible repeat (first | refine bN ?_ _ | refine bD ?_ | refine bA ?_ _)); exact BK186.out), GW186.out, GE186.out, NB169_186.out, NB186_169.out, NB170_186.out, NB186_170.out, NB171_186.out, NB186_171.out, NB179_186.out, NB186_179.out, (by repeat (first | (with_reducible first | exact HB.out | apply below_alloc | apply pw_below_drewN | apply below_drew1 | refine below_set ?_ GE169.out | refine below_set ?_ GE170.out | refine below_set ?_ GE171.out | refine below_set ?_ GE179.out | refine below_set ?_ GE186.out) | exact HB.out))⟩)
                rintro gb186 w87 ⟨hS_, h0_, h1_, h2_, h3_, h4_, h5_, h6_, h7_, h8_, h9_, h10_, h11_, h12_, h13_, h14_, h15_⟩
                have n0_ : Aside0 (w87.heap[gb169]? = some (.cells #[.int .i64 a1_0, .int .i64 a1_1, .int .i64 a1_2, .int .i64 a1_3, .int .i64 a1_4, .int .i64 a1_5] 28 (0, 0))) := ⟨h0_⟩
                have n1_ : Aside0 (w87.heap[gb170]? = some (.cells #[.bool true, .int .i64 a2_1, .int .i64 a2_2, .int .i64 a2_3, .bool true, .int .i64 a2_5, .int .i64 a2_6, .int .i64 a2_7] 30 (0, 0))) := ⟨h1_⟩
                have n2_ : Aside0 (w87.heap[gb171]? = some (.cells #[.int .i64 a3_0, .int .u64 a3_1] 33 (0, 0))) := ⟨h2_⟩
                have n3_ : Aside0 (w87.heap[gb179]? = some (.cells #[.int .i64 t175, .int .i64 t176, .int .i64 t177] 23 (0, 0))) := ⟨h3_⟩
                have n4_ : Aside0 (w87.heap[gb186]? = some (.cells #[.int .i64 0, .int .i64 0, .int .i64 0] 23 (0, 0))) := ⟨h4_⟩
                have n5_ : Aside0 (w.heap.size ≤ gb186) := ⟨h5_⟩
                have n6_ : Aside0 (w.heap.size ≤ gb186) := ⟨h6_⟩
                have n7_ : Aside0 (gb169 ≠ gb186) := ⟨h7_⟩
                have n8_ : Aside0 (gb186 ≠ gb169) := ⟨h8_⟩
                have n9_ : Aside0 (gb170 ≠ gb186) := ⟨h9_⟩
                have n10_ : Aside0 (gb186 ≠ gb170) := ⟨h10_⟩
                have n11_ : Aside0 (gb171 ≠ gb186) := ⟨h11_⟩
                have n12_ : Aside0 (gb186 ≠ gb171) := ⟨h12_⟩
                have n13_ : Aside0 (gb179 ≠ gb186) := ⟨h13_⟩
                have n14_ : Aside0 (gb186 ≠ gb179) := ⟨h14_⟩
                have n15_ : Aside0 (Below w.heap.size w w87) := ⟨h15_⟩
                clear BK169
                clear BK170
                clear BK171
                clear BK179
                clear HB
                clear h0_ h1_ h2_ h3_ h4_ h5_ h6_ h7_ h8_ h9_ h10_ h11_ h12_ h13_ h14_ h15_
                have BK169 := n0_
                have BK170 := n1_
                have BK171 := n2_
                have BK179 := n3_
                have BK186 := n4_
                have GW186 := n5_
                have GE186 := n6_
                have NB169_186 := n7_
                have NB186_169 := n8_
                have NB170_186 := n9_
                have NB186_170 := n10_
                have NB171_186 := n11_
                have NB186_171 := n12_
                have NB179_186 := n13_
                have NB186_179 := n14_
                have HB := n15_
                clear n0_ n1_ n2_ n3_ n4_ n5_ n6_ n7_ n8_ n9_ n10_ n11_ n12_ n13_ n14_ n15_
                have hHeld : w87.cell? ⟨gb169, 0, none⟩ = some (.int .i64 a1_0) ∧ w87.cell? ⟨gb169, 1, none⟩ = some (.int .i64 a1_1) ∧ w87.cell? ⟨gb169, 2, none⟩ = some (.int .i64 a1_2) ∧ w87.cell? ⟨gb169, 3, none⟩ = some (.int .i64 a1_3) ∧ w87.cell? ⟨gb169, 4, none⟩ = some (.int .i64 a1_4) ∧ w87.cell? ⟨gb169, 5, none⟩ = some (.int .i64 a1_5) ∧ w87.cell? ⟨gb170, 0, none⟩ = some (.bool true) ∧ w87.cell? ⟨gb170, 1, none⟩ = some (.int .i64 a2_1) ∧ w87.cell? ⟨gb170, 2, none⟩ = some (.int .i64 a2_2) ∧ w87.cell? ⟨gb170, 3, none⟩ = some (.int .i64 a2_3) ∧ w87.cell? ⟨gb170, 4, none⟩ = some (.bool true) ∧ w87.cell? ⟨gb170, 5, none⟩ = some (.int .i64 a2_5) ∧ w87.cell? ⟨gb170, 6, none⟩ = some (.int .i64 a2_6) ∧ w87.cell? ⟨gb170, 7, none⟩ = some (.int .i64 a2_7) ∧ w87.cell? ⟨gb171, 0, none⟩ = some (.int .i64 a3_0) ∧ w87.cell? ⟨gb171, 1, none⟩ = some (.int .u64 a3_1) := hS_
                refine norm_ (a' := ?_) ?_ ?_
                rotate_left
                · simp only [putAll, Act.put, List.setIfInBounds_toArray, List.set_cons_zero, List.set_cons_succ]
                  rfl
                refine one_ (i := 10) (N := none) #[true, true, true, true, true, true, true, true, true, true, true, false] rfl rfl (one_of HT_.out (by kernel_rfl)) (by decide) (fun K hK => ?_)
                have hs88 : w87.cell? ⟨gb186, 0, none⟩ = some (.int .i64 0) := (blk_cell BK186.out 0).trans rfl
                have hfs88 := blk_frozen BK186.out 0
                have hns88_0 := NB169_186.out
                have hns88_1 := NB170_186.out
                have hns88_2 := NB171_186.out
                have hns88_3 := NB179_186.out
                have hms88_0 := NB186_169.out
                have hms88_1 := NB186_170.out
                have hms88_2 := NB186_171.out
                have hms88_3 := NB186_179.out
                have hs89 : w87.cell? ⟨gb186, 1, none⟩ = some (.int .i64 0) := (blk_cell BK186.out 1).trans rfl
                have hfs89 := blk_frozen BK186.out 1
                have hns89_0 := NB169_186.out
                have hns89_1 := NB170_186.out
                have hns89_2 := NB171_186.out
                have hns89_3 := NB179_186.out
                have hms89_0 := NB186_169.out
                have hms89_1 := NB186_170.out
                have hms89_2 := NB186_171.out
                have hms89_3 := NB186_179.out
                have hs90 : w87.cell? ⟨gb186, 2, none⟩ = some (.int .i64 0) := (blk_cell BK186.out 2).trans rfl
                have hfs90 := blk_frozen BK186.out 2
                have hns90_0 := NB169_186.out
                have hns90_1 := NB170_186.out
                have hns90_2 := NB171_186.out
                have hns90_3 := NB179_186.out
                have hms90_0 := NB186_169.out
                have hms90_1 := NB186_170.out
                have hms90_2 := NB186_171.out
                have hms90_3 := NB186_179.out
                refine skip_ (w1 := ?_) (by rfl) rfl ?_ ?_
                rotate_left
                · go_simp
                  rfl
                refine hK.out _ _ ⟨((cell_far (p := ⟨gb186, _, none⟩) NB169_186.out _).trans (((cell_far (p := ⟨gb186, _, none⟩) NB169_186.out _).trans (((cell_far (p := ⟨gb186, _, none⟩) NB169_186.out _).trans (hHeld.1)))))), ((cell_far (p := ⟨gb186, _, none⟩) NB169_186.out _).trans (((cell_far (p := ⟨gb186, _, none⟩) NB169_186.out _).trans (((cell_far (p := ⟨gb186, _, none⟩) NB169_186.out _).trans (hHeld.2.1)))))), ((cell_far (p := ⟨gb186, _, none⟩) NB169_186.out _).trans (((cell_far (p := ⟨gb186, _, none⟩) NB169_186.out _).trans (((cell_far (p := ⟨gb186, _, none⟩) NB169_186.out _).trans (hHeld.2.2.1)))))), ((cell_far (p := ⟨gb186, _, none⟩) NB169_186.out _).trans (((cell_far (p := ⟨gb186, _, none⟩) NB169_186.out _).trans (((cell_far (p := ⟨gb186, _, none⟩) NB169_186.out _).trans (hHeld.2.2.2.1)))))), ((cell_far (p := ⟨gb186, _, none⟩) NB169_186.out _).trans (((cell_far (p := ⟨gb186, _, none⟩) NB169_186.out _).trans (((cell_far (p := ⟨gb186, _, none⟩) NB169_186.out _).trans (hHeld.2.2.2.2.1)))))), ((cell_far (p := ⟨gb186, _, none⟩) NB169_186.out _).trans (((cell_far (p := ⟨gb186, _, none⟩) NB169_186.out _).trans (((cell_far (p := ⟨gb186, _, none⟩) NB169_186.out _).trans (hHeld.2.2.2.2.2.1)))))), ((cell_far (p := ⟨gb186, _, none⟩) NB170_186.out _).trans (((cell_far (p := ⟨gb186, _, none⟩) NB170_186.out _).trans (((cell_far (p := ⟨gb186, _, none⟩) NB170_186.out _).trans (hHeld.2.2.2.2.2.2.1)))))), ((cell_far (p := ⟨gb186, _, none⟩) NB170_186.out _).trans (((cell_far (p := ⟨gb186, _, none⟩) NB170_186.out _).trans (((cell_far (p := ⟨gb186, _, none⟩) NB170_186.out _).trans (hHeld.2.2.2.2.2.2.2.1)))))), ((cell_far (p := ⟨gb186, _, none⟩) NB170_186.out _).trans (((cell_far (p := ⟨gb186, _, none⟩) NB170_186.out _).trans (((cell_far (p := ⟨gb186, _, none⟩) NB170_186.out _).trans (hHeld.2.2.2.2.2.2.2.2.1)))))), ((cell_far (p := ⟨gb186, _, none⟩) NB170_186.out _).trans (((cell_far (p := ⟨gb186, _, none⟩) NB170_186.out _).trans (((cell_far (p := ⟨gb186, _, none⟩) NB170_186.out _).trans (hHeld.2.2.2.2.2.2.2.2.2.1)))))), ((cell_far (p := ⟨gb186, _, none⟩) NB170_186.out _).trans (((cell_far (p := ⟨gb186, _, none⟩) NB170_186.out _).trans (((cell_far (p := ⟨gb186, _, none⟩) NB170_186.out _).trans (hHeld.2.2.2.2.2.2.2.2.2.2.1)))))), ((cell_far (p := ⟨gb186, _, none⟩) NB170_186.out _).trans (((cell_far (p := ⟨gb186, _, none⟩) NB170_186.out _).trans (((cell_far (p := ⟨gb186, _, none⟩) NB170_186.out _).trans (hHeld.2.2.2.2.2.2.2.2.2.2.2.1)))))), ((cell_far (p := ⟨gb186, _, none⟩) NB170_186.out _).trans (((cell_far (p := ⟨gb186, _, none⟩) NB170_186.out _).trans (((cell_far (p := ⟨gb186, _, none⟩) NB170_186.out _).trans (hHeld.2.2.2.2.2.2.2.2.2.2.2.2.1)))))), ((cell_far (p := ⟨gb186, _, none⟩) NB170_186.out _).trans (((cell_far (p := ⟨gb186, _, none⟩) NB170_186.out _).trans (((cell_far (p := ⟨gb186, _, none⟩) NB170_186.out _).trans (hHeld.2.2.2.2.2.2.2.2.2.2.2.2.2.1)))))), ((cell_far (p := ⟨gb186, _, none⟩) NB171_186.out _).trans (((cell_far (p := ⟨gb186, _, none⟩) NB171_186.out _).trans (((cell_far (p := ⟨gb186, _, none⟩) NB171_186.out _).trans (hHeld.2.2.2.2.2.2.2.2.2.2.2.2.2.2.1)))))), ((cell_far (p := ⟨gb186, _, none⟩) NB171_186.out _).trans (((cell_far (p := ⟨gb186, _, none⟩) NB171_186.out _).trans (((cell_far (p := ⟨gb186, _, none⟩) NB171_186.out _).trans (hHeld.2.2.2.2.2.2.2.2.2.2.2.2.2.2.2))))))⟩ (fun hHeld => ?_)
                clear hK K
                refine pure_ (i := 11) (N := some 13) (v := ?_) (a' := ?_) #[true, true, true, true, true, true, true, true, true, true, true, true] rfl rfl (any_of HT_.out (by kernel_rfl)) (fun _ _ _ h => h) (Or.inl ⟨by rfl, ?_⟩) ?_ ?_
                rotate_left; focus (intro w'; go_simp; with_reducible rfl)
                rotate_left; focus (simp only [Act.put, List.setIfInBounds_toArray, List.set_cons_zero, List.set_cons_succ, i64_w, i32_w]; rfl)
                refine done_ (done_of HT_.out (by kernel_rfl)) ?_
                have hnb91 := NB170_186.out
                have hnc91 := NB186_170.out
                obtain ⟨hcz92_0, hcz92_1, hcz92_2, hcz92_3, hcz92_4, hcz92_5, hcz92_6, hcz92_7⟩ := cc8 BK170
                obtain ⟨hfz92_0, hfz92_1, hfz92_2, hfz92_3, hfz92_4, hfz92_5, hfz92_6, hfz92_7⟩ := cf8 BK170
                try go_wp2
                go_ret
                exact ⟨by first | rfl | (simp [errW_none, errW_some] <;> rfl) | (simp [*, errW_none, errW_some] <;> rfl) | (exfalso; first | contradiction | (revert c14b0 c16b0; simp +contextual; done)), by repeat (first | (with_reducible first | exact HB.out | apply below_alloc | apply pw_below_drewN | apply below_drew1 | refine below_set ?_ GE169.out | refine below_set ?_ GE170.out | refine below_set ?_ GE171.out | refine below_set ?_ GE179.out | refine below_set ?_ GE186.out) | exact HB.out)⟩
          · replace c15 := Bool.eq_false_iff.mpr c15
            subst c15
            rw [if_neg (show ¬ (false = true) by decide)] at H
            by_cases c93 : (t178 != false) = true
            · rw [if_pos c93] at H
              exact absurd H (by simp)
            · rw [if_neg c93] at H
              have c93b0 : (t178 != false) = false := by simpa using c93
              (try (have c93b1 : decide (t178 = false) = true := by simpa using c93))
              (try (have c93b2 : (t178 == false) = true := by simpa using c93))
              clear c93
              by_cases c94 : t178 = true
              · subst c94
                obtain rfl : t185 = true := by simpa using c14b0
                rw [if_pos rfl] at H
                by_cases c95 : t175 ≤ t182
                · rw [if_pos c95] at H
                  have c95b0 : decide (t175 ≤ t182) = true := decide_eq_true c95
                  clear c95
                  by_cases c96 : t176 = a2_3
                  · rw [if_pos c96] at H
                    have c96b0 : (t176 == a2_3) = true := beq_iff_eq.mpr c96
                    have c96b1 : (t176 != a2_3) = false := bne_eq_false_iff_eq.mpr c96
                    clear c96
                    by_cases c97 : t177 = a0
                    · rw [if_pos c97] at H
                      have c97b0 : (t177 == a0) = true := beq_iff_eq.mpr c97
                      have c97b1 : (t177 != a0) = false := bne_eq_false_iff_eq.mpr c97
                      clear c97
                      by_cases c98 : t183 = a2_3
                      · rw [if_pos c98] at H
                        have c98b0 : (t183 == a2_3) = true := beq_iff_eq.mpr c98
                        have c98b1 : (t183 != a2_3) = false := bne_eq_false_iff_eq.mpr c98
                        clear c98
                        by_cases c99 : t175 ≥ 0
                        · rw [if_pos c99] at H
                          have c99b0 : decide (0 ≤ t175) = true := decide_eq_true c99
                          clear c99
                          obtain rfl := Option.some.inj H
                          go_enter Try.func4, Try.ntmps4
                          try go_wp2_with (first | ((with_reducible refine gate_dst (N := 5) rfl ?_); refine box_event ?hg (N := 5) ?hd (cs := #[.int .i64 a1_0, .int .i64 a1_1, .int .i64 a1_2, .int .i64 a1_3, .int .i64 a1_4, .int .i64 a1_5]) (t := 28) ?hr ?_; (case hd => rfl); (case hg => rfl); (case hr => first | (go_simp; done) | (go_simp; rfl)); intro gb169 hg w100 hbox hb; have n0_ := bs HB hb; have n1_ := Aside0.mk (hbox); have n2_ := bz HB hg; have n3_ := bz HB hg; clear HB; have HB := n0_; have BK169 := n1_; have GW169 := n2_; have GE169 := n3_; clear n0_ n1_ n2_ n3_; clear hb hbox hg) | ((with_reducible refine gate_dst (N := 6) rfl ?_); refine box_event ?hg (N := 6) ?hd (cs := #[.bool false, .int .i64 a2_1, .int .i64 a2_2, .int .i64 a2_3, .bool a2_4, .int .i64 a2_5, .int .i64 a2_6, .int .i64 a2_7]) (t := 30) ?hr ?_; (case hd => rfl); (case hg => rfl); (case hr => first | (go_simp; done) | (go_simp; rfl)); intro gb170 hg w101 hbox hb; have n0_ := bb BK169 hb; have n1_ := bs HB hb; have n2_ := Aside0.mk (hbox); have n3_ := bz HB hg; have n4_ := bz HB hg; have n5_ := bl BK169 hg; have n6_ := bg BK169 hg; clear BK169; clear HB; have BK169 := n0_; have HB := n1_; have BK170 := n2_; have GW170 := n3_; have GE170 := n4_; have NB169_170 := n5_; have NB170_169 := n6_; clear n0_ n1_ n2_ n3_ n4_ n5_ n6_; clear hb hbox hg) | ((with_reducible refine gate_dst (N := 7) rfl ?_); refine box_event ?hg (N := 7) ?hd (cs := #[.int .i64 a3_0, .int .u64 a3_1]) (t := 33) ?hr ?_; (case hd => rfl); (case hg => rfl); (case hr => first | (go_simp; done) | (go_simp; rfl)); intro gb171 hg w102 hbox hb; have n0_ := bb BK169 hb; have n1_ := bb BK170 hb; have n2_ := bs HB hb; have n3_ := Aside0.mk (hbox); have n4_ := bz HB hg; have n5_ := bz HB hg; have n6_ := bl BK169 hg; have n7_ := bg BK169 hg; have n8_ := bl BK170 hg; have n9_ := bg BK170 hg; clear BK169; clear BK170; clear HB; have BK169 := n0_; have BK170 := n1_; have HB := n2_; have BK171 := n3_; have GW171 := n4_; have GE171 := n5_; have NB169_171 := n6_; have NB171_169 := n7_; have NB170_171 := n8_; have NB171_170 := n9_; clear n0_ n1_ n2_ n3_ n4_ n5_ n6_ n7_ n8_ n9_; clear hb hbox hg) | ((with_reducible refine gate_callee (f := 8) rfl ?_); refine goesL_ (some 14) rfl rfl Try.func8 (by kernel_rfl) rfl #[] rfl (by (try simp only [List.map_toArray, List.map_cons, List.map_nil]); first | done | rfl | (simp only [List.length_drop, List.length_take]; rfl)) ?_; (with_reducible refine (fuseelaw14_awake.calls k  true _ A5.out).mono ?_); rintro e w103 ⟨rfl, hb⟩; refine ⟨_, rfl, ?_⟩; have n0_ := bb BK169 hb; have n1_ := bb BK170 hb; have n2_ := bb BK171 hb; have n3_ := bs HB hb; clear BK169; clear BK170; clear BK171; clear HB; have BK169 := n0_; have BK170 := n1_; have BK171 := n2_; have HB := n3_; clear n0_ n1_ n2_ n3_; (try clear hb); (try clear hb2); (try clear hk); (try clear hi); have hnb104 := NB169_170.out; have hnc104 := NB170_169.out; have hnb105 := NB169_171.out; have hnc105 := NB171_169.out; obtain ⟨hcz106_0, hcz106_1, hcz106_2, hcz106_3, hcz106_4, hcz106_5⟩ := cc6 BK169; obtain ⟨hfz106_0, hfz106_1, hfz106_2, hfz106_3, hfz106_4, hfz106_5⟩ := cf6 BK169; have hnb107 := NB170_171.out; have hnc107 := NB171_170.out; obtain ⟨hcz108_0, hcz108_1, hcz108_2, hcz108_3, hcz108_4, hcz108_5, hcz108_6, hcz108_7⟩ := cc8 BK170; obtain ⟨hfz108_0, hfz108_1, hfz108_2, hfz108_3, hfz108_4, hfz108_5, hfz108_6, hfz108_7⟩ := cf8 BK170) | (go_at_call 10; (with_reducible refine (job_May.calls a1_0 a1_1 a1_2 a1_3 a1_4 a1_5 false a2_1 a2_2 a2_3 a2_4 a2_5 a2_6 a2_7 true _ A7.out).mono ?_); rintro e w109 ⟨rfl, hb⟩; have n0_ := bb BK169 hb; have n1_ := bb BK170 hb; have n2_ := bb BK171 hb; have n3_ := bs HB hb; clear BK169; clear BK170; clear BK171; clear HB; have BK169 := n0_; have BK170 := n1_; have BK171 := n2_; have HB := n3_; clear n0_ n1_ n2_ n3_; (try clear hb); (try clear hb2); (try clear hk); (try clear hi); (try clear hcz106_0 hcz106_1 hcz106_2 hcz106_3 hcz106_4 hcz106_5 hfz106_0 hfz106_1 hfz106_2 hfz106_3 hfz106_4 hfz106_5); (try clear hcz108_0 hcz108_1 hcz108_2 hcz108_3 hcz108_4 hcz108_5 hcz108_6 hcz108_7 hfz108_0 hfz108_1 hfz108_2 hfz108_3 hfz108_4 hfz108_5 hfz108_6 hfz108_7); obtain ⟨hcz110_0, hcz110_1⟩ := cc2 BK171; obtain ⟨hfz110_0, hfz110_1⟩ := cf2 BK171) | (go_at_call 11; (with_reducible refine (ring_May.calls a3_0 a3_1 true _ A9.out).mono ?_); rintro e w111 ⟨rfl, hb⟩; have n0_ := bb BK169 hb; have n1_ := bb BK170 hb; have n2_ := bb BK171 hb; have n3_ := bs HB hb; clear BK169; clear BK170; clear BK171; clear HB; have BK169 := n0_; have BK170 := n1_; have BK171 := n2_; have HB := n3_; clear n0_ n1_ n2_ n3_; (try clear hb); (try clear hb2); (try clear hk); (try clear hi); (try clear hcz106_0 hcz106_1 hcz106_2 hcz106_3 hcz106_4 hcz106_5 hfz106_0 hfz106_1 hfz106_2 hfz106_3 hfz106_4 hfz106_5); (try clear hcz108_0 hcz108_1 hcz108_2 hcz108_3 hcz108_4 hcz108_5 hcz108_6 hcz108_7 hfz108_0 hfz108_1 hfz108_2 hfz108_3 hfz108_4 hfz108_5 hfz108_6 hfz108_7); (try clear hcz110_0 hcz110_1 hfz110_0 hfz110_1); obtain ⟨hcz112_0, hcz112_1, hcz112_2, hcz112_3, hcz112_4, hcz112_5⟩ := cc6 BK169; obtain ⟨hfz112_0, hfz112_1, hfz112_2, hfz112_3, hfz112_4, hfz112_5⟩ := cf6 BK169; obtain ⟨hcz113_0, hcz113_1, hcz113_2, hcz113_3, hcz113_4, hcz113_5, hcz113_6, hcz113_7⟩ := cc8 BK170; obtain ⟨hfz113_0, hfz113_1, hfz113_2, hfz113_3, hfz113_4, hfz113_5, hfz113_6, hfz113_7⟩ := cf8 BK170; obtain ⟨hcz114_0, hcz114_1⟩ := cc2 BK171; obtain ⟨hfz114_0, hfz114_1⟩ := cf2 BK171) | ((with_reducible refine gate_callee (f := 12) rfl ?_); refine goesL_ (some 34) rfl rfl Try.func12 (by kernel_rfl) rfl #[.int .i64 a0, .agg #[.int .i64 a1_0, .int .i64 a1_1, .int .i64 a1_2, .int .i64 a1_3, .int .i64 a1_4, .int .i64 a1_5], .agg #[.bool false, .int .i64 a2_1, .int .i64 a2_2, .int .i64 a2_3, .bool a2_4, .int .i64 a2_5, .int .i64 a2_6, .int .i64 a2_7], .agg #[.int .i64 a3_0, .int .u64 a3_1]] rfl (by (try simp only [List.map_toArray, List.map_cons, List.map_nil]); first | done | rfl | (simp only [List.length_drop, List.length_take]; rfl)) ?_; (with_reducible refine (option_Of.calls k a0 a1_0 a1_1 a1_2 a1_3 a1_4 a1_5 false a2_1 a2_2 a2_3 a2_4 a2_5 a2_6 a2_7 a3_0 a3_1 t175 t176 t177 true _ A11.out).mono ?_); rintro e w115 ⟨rfl, hb⟩; refine ⟨_, rfl, ?_⟩; have n0_ := bb BK169 hb; have n1_ := bb BK170 hb; have n2_ := bb BK171 hb; have n3_ := bs HB hb; clear BK169; clear BK170; clear BK171; clear HB; have BK169 := n0_; have BK170 := n1_; have BK171 := n2_; have HB := n3_; clear n0_ n1_ n2_ n3_; (try clear hb); (try clear hb2); (try clear hk); (try clear hi)) | ((with_reducible refine gate_dst (N := 10) rfl ?_); refine box_event ?hg (N := 10) ?hd (cs := #[.int .i64 0, .int .i64 0, .int .i64 0]) (t := 23) ?hr ?_; (case hd => rfl); (case hg => rfl); (case hr => first | (go_simp; done) | (go_simp; rfl)); intro gb179 hg w116 hbox hb; have n0_ := bb BK169 hb; have n1_ := bb BK170 hb; have n2_ := bb BK171 hb; have n3_ := bs HB hb; have n4_ := Aside0.mk (hbox); have n5_ := bz HB hg; have n6_ := bz HB hg; have n7_ := bl BK169 hg; have n8_ := bg BK169 hg; have n9_ := bl BK170 hg; have n10_ := bg BK170 hg; have n11_ := bl BK171 hg; have n12_ := bg BK171 hg; clear BK169; clear BK170; clear BK171; clear HB; have BK169 := n0_; have BK170 := n1_; have BK171 := n2_; have HB := n3_; have BK179 := n4_; have GW179 := n5_; have GE179 := n6_; have NB169_179 := n7_; have NB179_169 := n8_; have NB170_179 := n9_; have NB179_170 := n10_; have NB171_179 := n11_; have NB179_171 := n12_; clear n0_ n1_ n2_ n3_ n4_ n5_ n6_ n7_ n8_ n9_ n10_ n11_ n12_; clear hb hbox hg; have hnb117 := NB179_169.out; have hnc117 := NB169_179.out; have hnb118 := NB179_170.out; have hnc118 := NB170_179.out; have hnb119 := NB179_171.out; have hnc119 := NB171_179.out; (try clear hcz106_0 hcz106_1 hcz106_2 hcz106_3 hcz106_4 hcz106_5 hfz106_0 hfz106_1 hfz106_2 hfz106_3 hfz106_4 hfz106_5); (try clear hcz108_0 hcz108_1 hcz108_2 hcz108_3 hcz108_4 hcz108_5 hcz108_6 hcz108_7 hfz108_0 hfz108_1 hfz108_2 hfz108_3 hfz108_4 hfz108_5 hfz108_6 hfz108_7); (try clear hcz110_0 hcz110_1 hfz110_0 hfz110_1); (try clear hcz112_0 hcz112_1 hcz112_2 hcz112_3 hcz112_4 hcz112_5 hfz112_0 hfz112_1 hfz112_2 hfz112_3 hfz112_4 hfz112_5); (try clear hcz113_0 hcz113_1 hcz113_2 hcz113_3 hcz113_4 hcz113_5 hcz113_6 hcz113_7 hfz113_0 hfz113_1 hfz113_2 hfz113_3 hfz113_4 hfz113_5 hfz113_6 hfz113_7); (try clear hcz114_0 hcz114_1 hfz114_0 hfz114_1); obtain ⟨hcz120_0, hcz120_1, hcz120_2⟩ := cc3 BK179; obtain ⟨hfz120_0, hfz120_1, hfz120_2⟩ := cf3 BK179))
                          have n0_ : Aside0 ((((w116.setCell ⟨gb179, 0, none⟩ (.int .i64 t175)).setCell ⟨gb179, 1, none⟩ (.int .i64 t176)).setCell ⟨gb179, 2, none⟩ (.int .i64 t177)).heap[gb169]? = some (.cells #[.int .i64 a1_0, .int .i64 a1_1, .int .i64 a1_2, .int .i64 a1_3, .int .i64 a1_4, .int .i64 a1_5] 28 (0, 0))) := ⟨by (with_reducible repeat (first | refine bN ?_ _ | refine bD ?_ | refine bA ?_ _ | refine blk_far ?_ NB169_179.out _)); exact BK169.out⟩
                          have n1_ : Aside0 ((((w116.setCell ⟨gb179, 0, none⟩ (.int .i64 t175)).setCell ⟨gb179, 1, none⟩ (.int .i64 t176)).setCell ⟨gb179, 2, none⟩ (.int .i64 t177)).heap[gb170]? = some (.cells #[.bool false, .int .i64 a2_1, .int .i64 a2_2, .int .i64 a2_3, .bool a2_4, .int .i64 a2_5, .int .i64 a2_6, .int .i64 a2_7] 30 (0, 0))) := ⟨by (with_reducible repeat (first | refine bN ?_ _ | refine bD ?_ | refine bA ?_ _ | refine blk_far ?_ NB170_179.out _)); exact BK170.out⟩
                          have n2_ : Aside0 ((((w116.setCell ⟨gb179, 0, none⟩ (.int .i64 t175)).setCell ⟨gb179, 1, none⟩ (.int .i64 t176)).setCell ⟨gb179, 2, none⟩ (.int .i64 t177)).heap[gb171]? = some (.cells #[.int .i64 a3_0, .int .u64 a3_1] 33 (0, 0))) := ⟨by (with_reducible repeat (first | refine bN ?_ _ | refine bD ?_ | refine bA ?_ _ | refine blk_far ?_ NB171_179.out _)); exact BK171.out⟩
                          have n3_ : Aside0 ((((w116.setCell ⟨gb179, 0, none⟩ (.int .i64 t175)).setCell ⟨gb179, 1, none⟩ (.int .i64 t176)).setCell ⟨gb179, 2, none⟩ (.int .i64 t177)).heap[gb179]? = some (.cells #[.int .i64 t175, .int .i64 t176, .int .i64 t177] 23 (0, 0))) := ⟨by (with_reducible repeat (first | refine bN ?_ _ | refine bD ?_ | refine bA ?_ _)); refine blk_put (cs := #[.int .i64 t175, .int .i64 t176, .int .i64 0]) ?_ 2 _ rfl; (with_reducible repeat (first | refine bN ?_ _ | refine bD ?_ | refine bA ?_ _)); refine blk_put (cs := #[.int .i64 t175, .int .i64 0, .int .i64 0]) ?_ 1 _ rfl; (with_reducible repeat (first | refine bN ?_ _ | refine bD ?_ | refine bA ?_ _)); refine blk_put (cs := #[.int .i64 0, .int .i64 0, .int .i64 0]) ?_ 0 _ rfl; (with_reducible repeat (first | refine bN ?_ _ | refine bD ?_ | refine bA ?_ _)); exact BK179.out⟩
                          have n4_ : Aside0 (Below w.heap.size w (((w116.setCell ⟨gb179, 0, none⟩ (.int .i64 t175)).setCell ⟨gb179, 1, none⟩ (.int .i64 t176)).setCell ⟨gb179, 2, none⟩ (.int .i64 t177))) := ⟨by repeat (first | (with_reducible first | exact HB.out | apply below_alloc | apply pw_below_drewN | apply below_drew1 | refine below_set ?_ GE169.out | refine below_set ?_ GE170.out | refine below_set ?_ GE171.out | refine below_set ?_ GE179.out) | exact HB.out)⟩
                          (try clear BK169)
                          (try clear BK170)
                          (try clear BK171)
                          (try clear BK179)
                          (try clear HB)
                          generalize (((w116.setCell ⟨gb179, 0, none⟩ (.int .i64 t175)).setCell ⟨gb179, 1, none⟩ (.int .i64 t176)).setCell ⟨gb179, 2, none⟩ (.int .i64 t177)) = w121 at n0_ n1_ n2_ n3_ n4_ ⊢
                          have BK169 := n0_
                          have BK170 := n1_
                          have BK171 := n2_
                          have BK179 := n3_
                          have HB := n4_
                          clear n0_ n1_ n2_ n3_ n4_
                          have n0_ := Aside0.mk (blk_drew BK169.out)
                          have n1_ := Aside0.mk (blk_drew BK170.out)
                          have n2_ := Aside0.mk (blk_drew BK171.out)
                          have n3_ := Aside0.mk (blk_drew BK179.out)
                          have n4_ := Aside0.mk (below_drew1 HB.out)
                          clear BK169
                          clear BK170
                          clear BK171
                          clear BK179
                          clear HB
                          have BK169 := n0_
                          have BK170 := n1_
                          have BK171 := n2_
                          have BK179 := n3_
                          have HB := n4_
                          clear n0_ n1_ n2_ n3_ n4_
                          refine start_ (n := 12) (S := fun w' => w'.cell? ⟨gb169, 0, none⟩ = some (.int .i64 a1_0) ∧ w'.cell? ⟨gb169, 1, none⟩ = some (.int .i64 a1_1) ∧ w'.cell? ⟨gb169, 2, none⟩ = some (.int .i64 a1_2) ∧ w'.cell? ⟨gb169, 3, none⟩ = some (.int .i64 a1_3) ∧ w'.cell? ⟨gb169, 4, none⟩ = some (.int .i64 a1_4) ∧ w'.cell? ⟨gb169, 5, none⟩ = some (.int .i64 a1_5) ∧ w'.cell? ⟨gb170, 0, none⟩ = some (.bool false) ∧ w'.cell? ⟨gb170, 1, none⟩ = some (.int .i64 a2_1) ∧ w'.cell? ⟨gb170, 2, none⟩ = some (.int .i64 a2_2) ∧ w'.cell? ⟨gb170, 3, none⟩ = some (.int .i64 a2_3) ∧ w'.cell? ⟨gb170, 4, none⟩ = some (.bool a2_4) ∧ w'.cell? ⟨gb170, 5, none⟩ = some (.int .i64 a2_5) ∧ w'.cell? ⟨gb170, 6, none⟩ = some (.int .i64 a2_6) ∧ w'.cell? ⟨gb170, 7, none⟩ = some (.int .i64 a2_7) ∧ w'.cell? ⟨gb171, 0, none⟩ = some (.int .i64 a3_0) ∧ w'.cell? ⟨gb171, 1, none⟩ = some (.int .u64 a3_1)) (ds := []) #[false, false, false, false, false, false, false, false, false, false, false, false] (by kernel_rfl) rfl rfl ⟨(blk_cell BK169.out 0).trans rfl, (blk_cell BK169.out 1).trans rfl, (blk_cell BK169.out 2).trans rfl, (blk_cell BK169.out 3).trans rfl, (blk_cell BK169.out 4).trans rfl, (blk_cell BK169.out 5).trans rfl, (blk_cell BK170.out 0).trans rfl, (blk_cell BK170.out 1).trans rfl, (blk_cell BK170.out 2).trans rfl, (blk_cell BK170.out 3).trans rfl, (blk_cell BK170.out 4).trans rfl, (blk_cell BK170.out 5).trans rfl, (blk_cell BK170.out 6).trans rfl, (blk_cell BK170.out 7).trans rfl, (blk_cell BK171.out 0).trans rfl, (blk_cell BK171.out 1).trans rfl⟩ (fun hHeld => ?_); refine with_tabW fuseelaw14_OptionFar.tab5 fuseelaw14_OptionFar.bits5 (fun HT_ HW_ => ?_)
                          generalize w121.drew = w122 at BK169 BK170 BK171 BK179 HB hHeld ⊢
                          refine pure_ (i := 0) (N := some 38) (v := ?_) (a' := ?_) #[true, false, false, false, false, false, false, false, false, false, false, false] rfl rfl (any_of HT_.out (by kernel_rfl)) (fun _ _ _ h => h) (Or.inl ⟨by rfl, ?_⟩) ?_ ?_
                          rotate_left; focus (intro w'; go_simp; with_reducible rfl)
                          rotate_left; focus (simp only [Act.put, List.setIfInBounds_toArray, List.set_cons_zero, List.set_cons_succ, i64_w, i32_w]; rfl)
                          refine take_ (i := 1) (N := some 39) (v := ?_) (a' := ?_) #[true, true, false, false, false, false, false, false, false, false, false, false] rfl rfl (take_ofW HT_.out HW_.out (by kernel_rfl)) (fun _ _ _ h => h) (Or.inl ⟨by rfl, ?_⟩) hHeld ?_ ?_
                          rotate_left
                          · rintro w' ⟨s0, s1, s2, s3, s4, s5, s6, s7, s8, s9, s10, s11, s12, s13, s14, s15⟩
                            go_simp
                            with_reducible rfl
                          rotate_left; focus (simp only [Act.put, List.setIfInBounds_toArray, List.set_cons_zero, List.set_cons_succ, i64_w, i32_w]; rfl)
                          refine take_ (i := 2) (N := some 40) (v := ?_) (a' := ?_) #[true, true, true, false, false, false, false, false, false, false, false, false] rfl rfl (take_ofW HT_.out HW_.out (by kernel_rfl)) (fun _ _ _ h => h) (Or.inl ⟨by rfl, ?_⟩) hHeld ?_ ?_
                          rotate_left
                          · rintro w' ⟨s0, s1, s2, s3, s4, s5, s6, s7, s8, s9, s10, s11, s12, s13, s14, s15⟩
                            go_simp
                            with_reducible rfl
                          rotate_left; focus (simp only [Act.put, List.setIfInBounds_toArray, List.set_cons_zero, List.set_cons_succ, i64_w, i32_w]; rfl)
                          refine take_ (i := 3) (N := some 41) (v := ?_) (a' := ?_) #[true, true, true, true, false, false, false, false, false, false, false, false] rfl rfl (take_ofW HT_.out HW_.out (by kernel_rfl)) (fun _ _ _ h => h) (Or.inl ⟨by rfl, ?_⟩) hHeld ?_ ?_
                          rotate_left
                          · rintro w' ⟨s0, s1, s2, s3, s4, s5, s6, s7, s8, s9, s10, s11, s12, s13, s14, s15⟩
                            go_simp
                            with_reducible rfl
                          rotate_left; focus (simp only [Act.put, List.setIfInBounds_toArray, List.set_cons_zero, List.set_cons_succ, i64_w, i32_w]; rfl)
                          refine join_ (σ := Nat) 2 #[true, true, true, true, true, true, true, true, true, true, false, false] (fun s_ => [(42, .agg #[.int .i64 t180, .int .u64 t181]), (43, .tuple #[.agg #[.int .i64 t182, .int .i64 t183, .int .i64 t184], .bool true]), (12, .pointer (some ⟨s_, 0, none⟩)), (37, .tuple #[.agg #[.int .i64 t182, .int .i64 t183, .int .i64 t184], .bool true]), (44, .agg #[.int .i64 t182, .int .i64 t183, .int .i64 t184]), (45, .bool true)]) (fun s_ w' => (w'.cell? ⟨gb169, 0, none⟩ = some (.int .i64 a1_0) ∧ w'.cell? ⟨gb169, 1, none⟩ = some (.int .i64 a1_1) ∧ w'.cell? ⟨gb169, 2, none⟩ = some (.int .i64 a1_2) ∧ w'.cell? ⟨gb169, 3, none⟩ = some (.int .i64 a1_3) ∧ w'.cell? ⟨gb169, 4, none⟩ = some (.int .i64 a1_4) ∧ w'.cell? ⟨gb169, 5, none⟩ = some (.int .i64 a1_5) ∧ w'.cell? ⟨gb170, 0, none⟩ = some (.bool false) ∧ w'.cell? ⟨gb170, 1, none⟩ = some (.int .i64 a2_1) ∧ w'.cell? ⟨gb170, 2, none⟩ = some (.int .i64 a2_2) ∧ w'.cell? ⟨gb170, 3, none⟩ = some (.int .i64 a2_3) ∧ w'.cell? ⟨gb170, 4, none⟩ = some (.bool a2_4) ∧ w'.cell? ⟨gb170, 5, none⟩ = some (.int .i64 a2_5) ∧ w'.cell? ⟨gb170, 6, none⟩ = some (.int .i64 a2_6) ∧ w'.cell? ⟨gb170, 7, none⟩ = some (.int .i64 a2_7) ∧ w'.cell? ⟨gb171, 0, none⟩ = some (.int .i64 a3_0) ∧ w'.cell? ⟨gb171, 1, none⟩ = some (.int .u64 a3_1)) ∧ (w'.heap[gb169]? = some (.cells #[.int .i64 a1_0, .int .i64 a1_1, .int .i64 a1_2, .int .i64 a1_3, .int .i64 a1_4, .int .i64 a1_5] 28 (0, 0))) ∧ (w'.heap[gb170]? = some (.cells #[.bool false, .int .i64 a2_1, .int .i64 a2_2, .int .i64 a2_3, .bool a2_4, .int .i64 a2_5, .int .i64 a2_6, .int .i64 a2_7] 30 (0, 0))) ∧ (w'.heap[gb171]? = some (.cells #[.int .i64 a3_0, .int .u64 a3_1] 33 (0, 0))) ∧ (w'.heap[gb179]? = some (.cells #[.int .i64 t175, .int .i64 t176, .int .i64 t177] 23 (0, 0))) ∧ (w'.heap[s_]? = some (.cells #[.int .i64 0, .int .i64 0, .int .i64 0] 23 (0, 0))) ∧ (w.heap.size ≤ s_) ∧ (w.heap.size ≤ s_) ∧ (gb169 ≠ s_) ∧ (s_ ≠ gb169) ∧ (gb170 ≠ s_) ∧ (s_ ≠ gb170) ∧ (gb171 ≠ s_) ∧ (s_ ≠ gb171) ∧ (gb179 ≠ s_) ∧ (s_ ≠ gb179) ∧ (Below w.heap.size w w')) ?_ ?_
                          rotate_left
                          · intro hCont
                            refine two_ (i := 4) (j := 9) (Ni := some 42) (Nj := some 12) #[true, true, true, true, true, false, false, false, false, false, false, false] #[true, true, true, true, false, false, false, false, false, true, false, false] rfl rfl rfl rfl (two_of HT_.out (by kernel_rfl)) (by decide) (by decide) (fun K hK => ?_) (fun K hK => ?_)
                            · skip
                              refine goes_ Try.func13 (by kernel_rfl) rfl #[.agg #[.int .i64 a3_0, .int .u64 a3_1], .bool true] (by rfl) rfl rfl (by (try simp only [List.map_toArray, List.map_cons, List.map_nil]); first | done | rfl | (simp only [List.length_drop, List.length_take]; rfl)) ?_
                              with_reducible refine (ring_Put.calls a3_0 a3_1 true t180 t181 _ A12.out).mono ?_
                              rintro e w123 ⟨rfl, hb⟩
                              refine ⟨_, rfl, ?_⟩
                              have n0_ := bb BK169 hb
                              have n1_ := bb BK170 hb
                              have n2_ := bb BK171 hb
                              have n3_ := bb BK179 hb
                              have n4_ := bs HB hb
                              clear BK169
                              clear BK170
                              clear BK171
                              clear BK179
                              clear HB
                              have BK169 := n0_
                              have BK170 := n1_
                              have BK171 := n2_
                              have BK179 := n3_
                              have HB := n4_
                              clear n0_ n1_ n2_ n3_ n4_
                              (try clear hb)
                              (try clear hb2)
                              (try clear hk)
                              (try clear hi)
                              refine hK.out _ _ ⟨(blk_cell BK169.out 0).trans rfl, (blk_cell BK169.out 1).trans rfl, (blk_cell BK169.out 2).trans rfl, (blk_cell BK169.out 3).trans rfl, (blk_cell BK169.out 4).trans rfl, (blk_cell BK169.out 5).trans rfl, (blk_cell BK170.out 0).trans rfl, (blk_cell BK170.out 1).trans rfl, (blk_cell BK170.out 2).trans rfl, (blk_cell BK170.out 3).trans rfl, (blk_cell BK170.out 4).trans rfl, (blk_cell BK170.out 5).trans rfl, (blk_cell BK170.out 6).trans rfl, (blk_cell BK170.out 7).trans rfl, (blk_cell BK171.out 0).trans rfl, (blk_cell BK171.out 1).trans rfl⟩ (fun hHeld => ?_)
                              clear hK K
                              refine norm_ (a' := ?_) ?_ ?_
                              rotate_left
                              · show Act.put _ (some 42) _ = _
                                simp only [Act.put, List.setIfInBounds_toArray, List.set_cons_zero, List.set_cons_succ, i64_w, i32_w]
                                rfl
                              refine two_ (i := 5) (j := 9) (Ni := some 43) (Nj := some 12) #[true, true, true, true, true, true, false, false, false, false, false, false] #[true, true, true, true, true, false, false, false, false, true, false, false] rfl rfl rfl rfl (two_of HT_.out (by kernel_rfl)) (by decide) (by decide) (fun K hK => ?_) (fun K hK => ?_)
                              · skip
                                refine goes_ Try.func12 (by kernel_rfl) rfl #[.int .i64 a0, .agg #[.int .i64 a1_0, .int .i64 a1_1, .int .i64 a1_2, .int .i64 a1_3, .int .i64 a1_4, .int .i64 a1_5], .agg #[.bool false, .int .i64 a2_1, .int .i64 a2_2, .int .i64 a2_3, .bool a2_4, .int .i64 a2_5, .int .i64 a2_6, .int .i64 a2_7], .agg #[.int .i64 t180, .int .u64 t181]] (by rfl) rfl rfl (by (try simp only [List.map_toArray, List.map_cons, List.map_nil]); first | done | rfl | (simp only [List.length_drop, List.length_take]; rfl)) ?_
                                with_reducible refine (option_Of.calls k a0 a1_0 a1_1 a1_2 a1_3 a1_4 a1_5 false a2_1 a2_2 a2_3 a2_4 a2_5 a2_6 a2_7 t180 t181 t182 t183 t184 true _ A13.out).mono ?_
                                rintro e w124 ⟨rfl, hb⟩
                                refine ⟨_, rfl, ?_⟩
                                have n0_ := bb BK169 hb
                                have n1_ := bb BK170 hb
                                have n2_ := bb BK171 hb
                                have n3_ := bb BK179 hb
                                have n4_ := bs HB hb
                                clear BK169
                                clear BK170
                                clear BK171
                                clear BK179
                                clear HB
                                have BK169 := n0_
                                have BK170 := n1_
                                have BK171 := n2_
                                have BK179 := n3_
                                have HB := n4_
                                clear n0_ n1_ n2_ n3_ n4_
                                (try clear hb)
                                (try clear hb2)
                                (try clear hk)
                                (try clear hi)
                                refine hK.out _ _ ⟨(blk_cell BK169.out 0).trans rfl, (blk_cell BK169.out 1).trans rfl, (blk_cell BK169.out 2).trans rfl, (blk_cell BK169.out 3).trans rfl, (blk_cell BK169.out 4).trans rfl, (blk_cell BK169.out 5).trans rfl, (blk_cell BK170.out 0).trans rfl, (blk_cell BK170.out 1).trans rfl, (blk_cell BK170.out 2).trans rfl, (blk_cell BK170.out 3).trans rfl, (blk_cell BK170.out 4).trans rfl, (blk_cell BK170.out 5).trans rfl, (blk_cell BK170.out 6).trans rfl, (blk_cell BK170.out 7).trans rfl, (blk_cell BK171.out 0).trans rfl, (blk_cell BK171.out 1).trans rfl⟩ (fun hHeld => ?_)
                                clear hK K
                                refine norm_ (a' := ?_) ?_ ?_
                                rotate_left
                                · show Act.put _ (some 43) _ = _
                                  simp only [Act.put, List.setIfInBounds_toArray, List.set_cons_zero, List.set_cons_succ, i64_w, i32_w]
                                  rfl
                                refine pure_ (i := 6) (N := some 37) (v := ?_) (a' := ?_) #[true, true, true, true, true, true, true, false, false, false, false, false] rfl rfl (any_of HT_.out (by kernel_rfl)) (fun _ _ _ h => h) (Or.inl ⟨by rfl, ?_⟩) ?_ ?_
                                rotate_left; focus (intro w'; go_simp; with_reducible rfl)
                                rotate_left; focus (simp only [Act.put, List.setIfInBounds_toArray, List.set_cons_zero, List.set_cons_succ, i64_w, i32_w]; rfl)
                                refine pure_ (i := 7) (N := some 44) (v := ?_) (a' := ?_) #[true, true, true, true, true, true, true, true, false, false, false, false] rfl rfl (any_of HT_.out (by kernel_rfl)) (fun _ _ _ h => h) (Or.inl ⟨by rfl, ?_⟩) ?_ ?_
                                rotate_left; focus (intro w'; go_simp; with_reducible rfl)
                                rotate_left; focus (simp only [Act.put, List.setIfInBounds_toArray, List.set_cons_zero, List.set_cons_succ, i64_w, i32_w]; rfl)
                                refine pure_ (i := 8) (N := some 45) (v := ?_) (a' := ?_) #[true, true, true, true, true, true, true, true, true, false, false, false] rfl rfl (any_of HT_.out (by kernel_rfl)) (fun _ _ _ h => h) (Or.inl ⟨by rfl, ?_⟩) ?_ ?_
                                rotate_left; focus (intro w'; go_simp; with_reducible rfl)
                                rotate_left; focus (simp only [Act.put, List.setIfInBounds_toArray, List.set_cons_zero, List.set_cons_succ, i64_w, i32_w]; rfl)
                                refine one_ (i := 9) (N := some 12) #[true, true, true, true, true, true, true, true, true, true, false, false] rfl rfl (one_of HT_.out (by kernel_rfl)) (by decide) (fun K hK => ?_)
                                refine box_step ?hg (N := 12) ?hd (cs := #[.int .i64 0, .int .i64 0, .int .i64 0]) (t := 23) ?hr ?_; (case hd => rfl); (case hg => rfl); (case hr => first | (go_simp; done) | (go_simp; rfl))
                                intro gb186 hg w125 hbox hb
                                have n0_ := bb BK169 hb
                                have n1_ := bb BK170 hb
                                have n2_ := bb BK171 hb
                                have n3_ := bb BK179 hb
                                have n4_ := bs HB hb
                                have n5_ := Aside0.mk (hbox)
                                have n6_ := bz HB hg
                                have n7_ := bz HB hg
                                have n8_ := bl BK169 hg
                                have n9_ := bg BK169 hg
                                have n10_ := bl BK170 hg
                                have n11_ := bg BK170 hg
                                have n12_ := bl BK171 hg
                                have n13_ := bg BK171 hg
                                have n14_ := bl BK179 hg
                                have n15_ := bg BK179 hg
                                clear BK169
                                clear BK170
                                clear BK171
                                clear BK179
                                clear HB
                                have BK169 := n0_
                                have BK170 := n1_
                                have BK171 := n2_
                                have BK179 := n3_
                                have HB := n4_
                                have BK186 := n5_
                                have GW186 := n6_
                                have GE186 := n7_
                                have NB169_186 := n8_
                                have NB186_169 := n9_
                                have NB170_186 := n10_
                                have NB186_170 := n11_
                                have NB171_186 := n12_
                                have NB186_171 := n13_
                                have NB179_186 := n14_
                                have NB186_179 := n15_
                                clear n0_ n1_ n2_ n3_ n4_ n5_ n6_ n7_ n8_ n9_ n10_ n11_ n12_ n13_ n14_ n15_
                                clear hb hbox hg
                                refine hK.out _ _ ⟨(blk_cell BK169.out 0).trans rfl, (blk_cell BK169.out 1).trans rfl, (blk_cell BK169.out 2).trans rfl, (blk_cell BK169.out 3).trans rfl, (blk_cell BK169.out 4).trans rfl, (blk_cell BK169.out 5).trans rfl, (blk_cell BK170.out 0).trans rfl, (blk_cell BK170.out 1).trans rfl, (blk_cell BK170.out 2).trans rfl, (blk_cell BK170.out 3).trans rfl, (blk_cell BK170.out 4).trans rfl, (blk_cell BK170.out 5).trans rfl, (blk_cell BK170.out 6).trans rfl, (blk_cell BK170.out 7).trans rfl, (blk_cell BK171.out 0).trans rfl, (blk_cell BK171.out 1).trans rfl⟩ (fun hHeld => ?_)
                                clear hK K
                                refine norm_ (a' := ?_) ?_ ?_
                                rotate_left
                                · show Act.put _ (some 12) _ = _
                                  simp only [Act.put, List.setIfInBounds_toArray, List.set_cons_zero, List.set_cons_succ, i64_w, i32_w]
                                  rfl
                                exact norm_ (by simp only [putAll, Act.put, List.setIfInBounds_toArray, List.set_cons_zero, List.set_cons_succ]) (hCont (gb186) _ ⟨hHeld, (by (with_reducible repeat (first | refine bN ?_ _ | refine bD ?_ | refine bA ?_ _)); exact BK169.out), (by (with_reducible repeat (first | refine bN ?_ _ | refine bD ?_ | refine bA ?_ _)); exact BK170.out), (by (with_reducible repeat (first | refine bN ?_ _ | refine bD ?_ | refine bA ?_ _)); exact BK171.out), (by (with_reducible repeat (first | refine bN ?_ _ | refine bD ?_ | refine bA ?_ _)); exact BK179.out), (by (with_reducible repeat (first | refine bN ?_ _ | refine bD ?_ | refine bA ?_ _)); exact BK186.out), GW186.out, GE186.out, NB169_186.out, NB186_169.out, NB170_186.out, NB186_170.out, NB171_186.out, NB186_171.out, NB179_186.out, NB186_179.out, (by repeat (first | (with_reducible first | exact HB.out | apply below_alloc | apply pw_below_drewN | apply below_drew1 | refine below_set ?_ GE169.out | refine below_set ?_ GE170.out | refine below_set ?_ GE171.out | refine below_set ?_ GE179.out | refine below_set ?_ GE186.out) | exact HB.out))⟩)
                              · skip
                                refine box_step ?hg (N := 12) ?hd (cs := #[.int .i64 0, .int .i64 0, .int .i64 0]) (t := 23) ?hr ?_; (case hd => rfl); (case hg => rfl); (case hr => first | (go_simp; done) | (go_simp; rfl))
                                intro gb186 hg w124 hbox hb
                                have n0_ := bb BK169 hb
                                have n1_ := bb BK170 hb
                                have n2_ := bb BK171 hb
                                have n3_ := bb BK179 hb
                                have n4_ := bs HB hb
                                have n5_ := Aside0.mk (hbox)
                                have n6_ := bz HB hg
                                have n7_ := bz HB hg
                                have n8_ := bl BK169 hg
                                have n9_ := bg BK169 hg
                                have n10_ := bl BK170 hg
                                have n11_ := bg BK170 hg
                                have n12_ := bl BK171 hg
                                have n13_ := bg BK171 hg
                                have n14_ := bl BK179 hg
                                have n15_ := bg BK179 hg
                                clear BK169
                                clear BK170
                                clear BK171
                                clear BK179
                                clear HB
                                have BK169 := n0_
                                have BK170 := n1_
                                have BK171 := n2_
                                have BK179 := n3_
                                have HB := n4_
                                have BK186 := n5_
                                have GW186 := n6_
                                have GE186 := n7_
                                have NB169_186 := n8_
                                have NB186_169 := n9_
                                have NB170_186 := n10_
                                have NB186_170 := n11_
                                have NB171_186 := n12_
                                have NB186_171 := n13_
                                have NB179_186 := n14_
                                have NB186_179 := n15_
                                clear n0_ n1_ n2_ n3_ n4_ n5_ n6_ n7_ n8_ n9_ n10_ n11_ n12_ n13_ n14_ n15_
                                clear hb hbox hg
                                refine hK.out _ _ ⟨(blk_cell BK169.out 0).trans rfl, (blk_cell BK169.out 1).trans rfl, (blk_cell BK169.out 2).trans rfl, (blk_cell BK169.out 3).trans rfl, (blk_cell BK169.out 4).trans rfl, (blk_cell BK169.out 5).trans rfl, (blk_cell BK170.out 0).trans rfl, (blk_cell BK170.out 1).trans rfl, (blk_cell BK170.out 2).trans rfl, (blk_cell BK170.out 3).trans rfl, (blk_cell BK170.out 4).trans rfl, (blk_cell BK170.out 5).trans rfl, (blk_cell BK170.out 6).trans rfl, (blk_cell BK170.out 7).trans rfl, (blk_cell BK171.out 0).trans rfl, (blk_cell BK171.out 1).trans rfl⟩ (fun hHeld => ?_)
                                clear hK K
                                refine norm_ (a' := ?_) ?_ ?_
                                rotate_left
                                · show Act.put _ (some 12) _ = _
                                  simp only [Act.put, List.setIfInBounds_toArray, List.set_cons_zero, List.set_cons_succ, i64_w, i32_w]
                                  rfl
                                refine one_ (i := 5) (N := some 43) #[true, true, true, true, true, true, false, false, false, true, false, false] rfl rfl (one_of HT_.out (by kernel_rfl)) (by decide) (fun K hK => ?_)
                                refine goes_ Try.func12 (by kernel_rfl) rfl #[.int .i64 a0, .agg #[.int .i64 a1_0, .int .i64 a1_1, .int .i64 a1_2, .int .i64 a1_3, .int .i64 a1_4, .int .i64 a1_5], .agg #[.bool false, .int .i64 a2_1, .int .i64 a2_2, .int .i64 a2_3, .bool a2_4, .int .i64 a2_5, .int .i64 a2_6, .int .i64 a2_7], .agg #[.int .i64 t180, .int .u64 t181]] (by rfl) rfl rfl (by (try simp only [List.map_toArray, List.map_cons, List.map_nil]); first | done | rfl | (simp only [List.length_drop, List.length_take]; rfl)) ?_
                                with_reducible refine (option_Of.calls k a0 a1_0 a1_1 a1_2 a1_3 a1_4 a1_5 false a2_1 a2_2 a2_3 a2_4 a2_5 a2_6 a2_7 t180 t181 t182 t183 t184 true _ A13.out).mono ?_
                                rintro e w125 ⟨rfl, hb⟩
                                refine ⟨_, rfl, ?_⟩
                                have n0_ := bb BK169 hb
                                have n1_ := bb BK170 hb
                                have n2_ := bb BK171 hb
                                have n3_ := bb BK179 hb
                                have n4_ := bb BK186 hb
                                have n5_ := bs HB hb
                                clear BK169
                                clear BK170
                                clear BK171
                                clear BK179
                                clear BK186
                                clear HB
                                have BK169 := n0_
                                have BK170 := n1_
                                have BK171 := n2_
                                have BK179 := n3_
                                have BK186 := n4_
                                have HB := n5_
                                clear n0_ n1_ n2_ n3_ n4_ n5_
                                (try clear hb)
                                (try clear hb2)
                                (try clear hk)
                                (try clear hi)
                                refine hK.out _ _ ⟨(blk_cell BK169.out 0).trans rfl, (blk_cell BK169.out 1).trans rfl, (blk_cell BK169.out 2).trans rfl, (blk_cell BK169.out 3).trans rfl, (blk_cell BK169.out 4).trans rfl, (blk_cell BK169.out 5).trans rfl, (blk_cell BK170.out 0).trans rfl, (blk_cell BK170.out 1).trans rfl, (blk_cell BK170.out 2).trans rfl, (blk_cell BK170.out 3).trans rfl, (blk_cell BK170.out 4).trans rfl, (blk_cell BK170.out 5).trans rfl, (blk_cell BK170.out 6).trans rfl, (blk_cell BK170.out 7).trans rfl, (blk_cell BK171.out 0).trans rfl, (blk_cell BK171.out 1).trans rfl⟩ (fun hHeld => ?_)
                                clear hK K
                                refine norm_ (a' := ?_) ?_ ?_
                                rotate_left
                                · show Act.put _ (some 43) _ = _
                                  simp only [Act.put, List.setIfInBounds_toArray, List.set_cons_zero, List.set_cons_succ, i64_w, i32_w]
                                  rfl
                                refine pure_ (i := 6) (N := some 37) (v := ?_) (a' := ?_) #[true, true, true, true, true, true, true, false, false, true, false, false] rfl rfl (any_of HT_.out (by kernel_rfl)) (fun _ _ _ h => h) (Or.inl ⟨by rfl, ?_⟩) ?_ ?_
                                rotate_left; focus (intro w'; go_simp; with_reducible rfl)
                                rotate_left; focus (simp only [Act.put, List.setIfInBounds_toArray, List.set_cons_zero, List.set_cons_succ, i64_w, i32_w]; rfl)
                                refine pure_ (i := 7) (N := some 44) (v := ?_) (a' := ?_) #[true, true, true, true, true, true, true, true, false, true, false, false] rfl rfl (any_of HT_.out (by kernel_rfl)) (fun _ _ _ h => h) (Or.inl ⟨by rfl, ?_⟩) ?_ ?_
                                rotate_left; focus (intro w'; go_simp; with_reducible rfl)
                                rotate_left; focus (simp only [Act.put, List.setIfInBounds_toArray, List.set_cons_zero, List.set_cons_succ, i64_w, i32_w]; rfl)
                                refine pure_ (i := 8) (N := some 45) (v := ?_) (a' := ?_) #[true, true, true, true, true, true, true, true, true, true, false, false] rfl rfl (any_of HT_.out (by kernel_rfl)) (fun _ _ _ h => h) (Or.inl ⟨by rfl, ?_⟩) ?_ ?_
                                rotate_left; focus (intro w'; go_simp; with_reducible rfl)
                                rotate_left; focus (simp only [Act.put, List.setIfInBounds_toArray, List.set_cons_zero, List.set_cons_succ, i64_w, i32_w]; rfl)
                                exact norm_ (by simp only [putAll, Act.put, List.setIfInBounds_toArray, List.set_cons_zero, List.set_cons_succ]) (hCont (gb186) _ ⟨hHeld, (by (with_reducible repeat (first | refine bN ?_ _ | refine bD ?_ | refine bA ?_ _)); exact BK169.out), (by (with_reducible repeat (first | refine bN ?_ _ | refine bD ?_ | refine bA ?_ _)); exact BK170.out), (by (with_reducible repeat (first | refine bN ?_ _ | refine bD ?_ | refine bA ?_ _)); exact BK171.out), (by (with_reducible repeat (first | refine bN ?_ _ | refine bD ?_ | refine bA ?_ _)); exact BK179.out), (by (with_reducible repeat (first | refine bN ?_ _ | refine bD ?_ | refine bA ?_ _)); exact BK186.out), GW186.out, GE186.out, NB169_186.out, NB186_169.out, NB170_186.out, NB186_170.out, NB171_186.out, NB186_171.out, NB179_186.out, NB186_179.out, (by repeat (first | (with_reducible first | exact HB.out | apply below_alloc | apply pw_below_drewN | apply below_drew1 | refine below_set ?_ GE169.out | refine below_set ?_ GE170.out | refine below_set ?_ GE171.out | refine below_set ?_ GE179.out | refine below_set ?_ GE186.out) | exact HB.out))⟩)
                            · skip
                              refine box_step ?hg (N := 12) ?hd (cs := #[.int .i64 0, .int .i64 0, .int .i64 0]) (t := 23) ?hr ?_; (case hd => rfl); (case hg => rfl); (case hr => first | (go_simp; done) | (go_simp; rfl))
                              intro gb186 hg w123 hbox hb
                              have n0_ := bb BK169 hb
                              have n1_ := bb BK170 hb
                              have n2_ := bb BK171 hb
                              have n3_ := bb BK179 hb
                              have n4_ := bs HB hb
                              have n5_ := Aside0.mk (hbox)
                              have n6_ := bz HB hg
                              have n7_ := bz HB hg
                              have n8_ := bl BK169 hg
                              have n9_ := bg BK169 hg
                              have n10_ := bl BK170 hg
                              have n11_ := bg BK170 hg
                              have n12_ := bl BK171 hg
                              have n13_ := bg BK171 hg
                              have n14_ := bl BK179 hg
                              have n15_ := bg BK179 hg
                              clear BK169
                              clear BK170
                              clear BK171
                              clear BK179
                              clear HB
                              have BK169 := n0_
                              have BK170 := n1_
                              have BK171 := n2_
                              have BK179 := n3_
                              have HB := n4_
                              have BK186 := n5_
                              have GW186 := n6_
                              have GE186 := n7_
                              have NB169_186 := n8_
                              have NB186_169 := n9_
                              have NB170_186 := n10_
                              have NB186_170 := n11_
                              have NB171_186 := n12_
                              have NB186_171 := n13_
                              have NB179_186 := n14_
                              have NB186_179 := n15_
                              clear n0_ n1_ n2_ n3_ n4_ n5_ n6_ n7_ n8_ n9_ n10_ n11_ n12_ n13_ n14_ n15_
                              clear hb hbox hg
                              refine hK.out _ _ ⟨(blk_cell BK169.out 0).trans rfl, (blk_cell BK169.out 1).trans rfl, (blk_cell BK169.out 2).trans rfl, (blk_cell BK169.out 3).trans rfl, (blk_cell BK169.out 4).trans rfl, (blk_cell BK169.out 5).trans rfl, (blk_cell BK170.out 0).trans rfl, (blk_cell BK170.out 1).trans rfl, (blk_cell BK170.out 2).trans rfl, (blk_cell BK170.out 3).trans rfl, (blk_cell BK170.out 4).trans rfl, (blk_cell BK170.out 5).trans rfl, (blk_cell BK170.out 6).trans rfl, (blk_cell BK170.out 7).trans rfl, (blk_cell BK171.out 0).trans rfl, (blk_cell BK171.out 1).trans rfl⟩ (fun hHeld => ?_)
                              clear hK K
                              refine norm_ (a' := ?_) ?_ ?_
                              rotate_left
                              · show Act.put _ (some 12) _ = _
                                simp only [Act.put, List.setIfInBounds_toArray, List.set_cons_zero, List.set_cons_succ, i64_w, i32_w]
                                rfl
                              refine one_ (i := 4) (N := some 42) #[true, true, true, true, true, false, false, false, false, true, false, false] rfl rfl (one_of HT_.out (by kernel_rfl)) (by decide) (fun K hK => ?_)
                              refine goes_ Try.func13 (by kernel_rfl) rfl #[.agg #[.int .i64 a3_0, .int .u64 a3_1], .bool true] (by rfl) rfl rfl (by (try simp only [List.map_toArray, List.map_cons, List.map_nil]); first | done | rfl | (simp only [List.length_drop, List.length_take]; rfl)) ?_
                              with_reducible refine (ring_Put.calls a3_0 a3_1 true t180 t181 _ A12.out).mono ?_
                              rintro e w124 ⟨rfl, hb⟩
                              refine ⟨_, rfl, ?_⟩
                              have n0_ := bb BK169 hb
                              have n1_ := bb BK170 hb
                              have n2_ := bb BK171 hb
                              have n3_ := bb BK179 hb
                              have n4_ := bb BK186 hb
                              have n5_ := bs HB hb
                              clear BK169
                              clear BK170
                              clear BK171
                              clear BK179
                              clear BK186
                              clear HB
                              have BK169 := n0_
                              have BK170 := n1_
                              have BK171 := n2_
                              have BK179 := n3_
                              have BK186 := n4_
                              have HB := n5_
                              clear n0_ n1_ n2_ n3_ n4_ n5_
                              (try clear hb)
                              (try clear hb2)
                              (try clear hk)
                              (try clear hi)
                              refine hK.out _ _ ⟨(blk_cell BK169.out 0).trans rfl, (blk_cell BK169.out 1).trans rfl, (blk_cell BK169.out 2).trans rfl, (blk_cell BK169.out 3).trans rfl, (blk_cell BK169.out 4).trans rfl, (blk_cell BK169.out 5).trans rfl, (blk_cell BK170.out 0).trans rfl, (blk_cell BK170.out 1).trans rfl, (blk_cell BK170.out 2).trans rfl, (blk_cell BK170.out 3).trans rfl, (blk_cell BK170.out 4).trans rfl, (blk_cell BK170.out 5).trans rfl, (blk_cell BK170.out 6).trans rfl, (blk_cell BK170.out 7).trans rfl, (blk_cell BK171.out 0).trans rfl, (blk_cell BK171.out 1).trans rfl⟩ (fun hHeld => ?_)
                              clear hK K
                              refine norm_ (a' := ?_) ?_ ?_
                              rotate_left
                              · show Act.put _ (some 42) _ = _
                                simp only [Act.put, List.setIfInBounds_toArray, List.set_cons_zero, List.set_cons_succ, i64_w, i32_w]
                                rfl
                              refine one_ (i := 5) (N := some 43) #[true, true, true, true, true, true, false, false, false, true, false, false] rfl rfl (one_of HT_.out (by kernel_rfl)) (by decide) (fun K hK => ?_)
                              refine goes_ Try.func12 (by kernel_rfl) rfl #[.int .i64 a0, .agg #[.int .i64 a1_0, .int .i64 a1_1, .int .i64 a1_2, .int .i64 a1_3, .int .i64 a1_4, .int .i64 a1_5], .agg #[.bool false, .int .i64 a2_1, .int .i64 a2_2, .int .i64 a2_3, .bool a2_4, .int .i64 a2_5, .int .i64 a2_6, .int .i64 a2_7], .agg #[.int .i64 t180, .int .u64 t181]] (by rfl) rfl rfl (by (try simp only [List.map_toArray, List.map_cons, List.map_nil]); first | done | rfl | (simp only [List.length_drop, List.length_take]; rfl)) ?_
                              with_reducible refine (option_Of.calls k a0 a1_0 a1_1 a1_2 a1_3 a1_4 a1_5 false a2_1 a2_2 a2_3 a2_4 a2_5 a2_6 a2_7 t180 t181 t182 t183 t184 true _ A13.out).mono ?_
                              rintro e w125 ⟨rfl, hb⟩
                              refine ⟨_, rfl, ?_⟩
                              have n0_ := bb BK169 hb
                              have n1_ := bb BK170 hb
                              have n2_ := bb BK171 hb
                              have n3_ := bb BK179 hb
                              have n4_ := bb BK186 hb
                              have n5_ := bs HB hb
                              clear BK169
                              clear BK170
                              clear BK171
                              clear BK179
                              clear BK186
                              clear HB
                              have BK169 := n0_
                              have BK170 := n1_
                              have BK171 := n2_
                              have BK179 := n3_
                              have BK186 := n4_
                              have HB := n5_
                              clear n0_ n1_ n2_ n3_ n4_ n5_
                              (try clear hb)
                              (try clear hb2)
                              (try clear hk)
                              (try clear hi)
                              refine hK.out _ _ ⟨(blk_cell BK169.out 0).trans rfl, (blk_cell BK169.out 1).trans rfl, (blk_cell BK169.out 2).trans rfl, (blk_cell BK169.out 3).trans rfl, (blk_cell BK169.out 4).trans rfl, (blk_cell BK169.out 5).trans rfl, (blk_cell BK170.out 0).trans rfl, (blk_cell BK170.out 1).trans rfl, (blk_cell BK170.out 2).trans rfl, (blk_cell BK170.out 3).trans rfl, (blk_cell BK170.out 4).trans rfl, (blk_cell BK170.out 5).trans rfl, (blk_cell BK170.out 6).trans rfl, (blk_cell BK170.out 7).trans rfl, (blk_cell BK171.out 0).trans rfl, (blk_cell BK171.out 1).trans rfl⟩ (fun hHeld => ?_)
                              clear hK K
                              refine norm_ (a' := ?_) ?_ ?_
                              rotate_left
                              · show Act.put _ (some 43) _ = _
                                simp only [Act.put, List.setIfInBounds_toArray, List.set_cons_zero, List.set_cons_succ, i64_w, i32_w]
                                rfl
                              refine pure_ (i := 6) (N := some 37) (v := ?_) (a' := ?_) #[true, true, true, true, true, true, true, false, false, true, false, false] rfl rfl (any_of HT_.out (by kernel_rfl)) (fun _ _ _ h => h) (Or.inl ⟨by rfl, ?_⟩) ?_ ?_
                              rotate_left; focus (intro w'; go_simp; with_reducible rfl)
                              rotate_left; focus (simp only [Act.put, List.setIfInBounds_toArray, List.set_cons_zero, List.set_cons_succ, i64_w, i32_w]; rfl)
                              refine pure_ (i := 7) (N := some 44) (v := ?_) (a' := ?_) #[true, true, true, true, true, true, true, true, false, true, false, false] rfl rfl (any_of HT_.out (by kernel_rfl)) (fun _ _ _ h => h) (Or.inl ⟨by rfl, ?_⟩) ?_ ?_
                              rotate_left; focus (intro w'; go_simp; with_reducible rfl)
                              rotate_left; focus (simp only [Act.put, List.setIfInBounds_toArray, List.set_cons_zero, List.set_cons_succ, i64_w, i32_w]; rfl)
                              refine pure_ (i := 8) (N := some 45) (v := ?_) (a' := ?_) #[true, true, true, true, true, true, true, true, true, true, false, false] rfl rfl (any_of HT_.out (by kernel_rfl)) (fun _ _ _ h => h) (Or.inl ⟨by rfl, ?_⟩) ?_ ?_
                              rotate_left; focus (intro w'; go_simp; with_reducible rfl)
                              rotate_left; focus (simp only [Act.put, List.setIfInBounds_toArray, List.set_cons_zero, List.set_cons_succ, i64_w, i32_w]; rfl)
                              exact norm_ (by simp only [putAll, Act.put, List.setIfInBounds_toArray, List.set_cons_zero, List.set_cons_succ]) (hCont (gb186) _ ⟨hHeld, (by (with_reducible repeat (first | refine bN ?_ _ | refine bD ?_ | refine bA ?_ _)); exact BK169.out), (by (with_reducible repeat (first | refine bN ?_ _ | refine bD ?_ | refine bA ?_ _)); exact BK170.out), (by (with_reducible repeat (first | refine bN ?_ _ | refine bD ?_ | refine bA ?_ _)); exact BK171.out), (by (with_reducible repeat (first | refine bN ?_ _ | refine bD ?_ | refine bA ?_ _)); exact BK179.out), (by (with_reducible repeat (first | refine bN ?_ _ | refine bD ?_ | refine bA ?_ _)); exact BK186.out), GW186.out, GE186.out, NB169_186.out, NB186_169.out, NB170_186.out, NB186_170.out, NB171_186.out, NB186_171.out, NB179_186.out, NB186_179.out, (by repeat (first | (with_reducible first | exact HB.out | apply below_alloc | apply pw_below_drewN | apply below_drew1 | refine below_set ?_ GE169.out | refine below_set ?_ GE170.out | refine below_set ?_ GE171.out | refine below_set ?_ GE179.out | refine below_set ?_ GE186.out) | exact HB.out))⟩)
                          rintro gb186 w126 ⟨hS_, h0_, h1_, h2_, h3_, h4_, h5_, h6_, h7_, h8_, h9_, h10_, h11_, h12_, h13_, h14_, h15_⟩
                          have n0_ : Aside0 (w126.heap[gb169]? = some (.cells #[.int .i64 a1_0, .int .i64 a1_1, .int .i64 a1_2, .int .i64 a1_3, .int .i64 a1_4, .int .i64 a1_5] 28 (0, 0))) := ⟨h0_⟩
                          have n1_ : Aside0 (w126.heap[gb170]? = some (.cells #[.bool false, .int .i64 a2_1, .int .i64 a2_2, .int .i64 a2_3, .bool a2_4, .int .i64 a2_5, .int .i64 a2_6, .int .i64 a2_7] 30 (0, 0))) := ⟨h1_⟩
                          have n2_ : Aside0 (w126.heap[gb171]? = some (.cells #[.int .i64 a3_0, .int .u64 a3_1] 33 (0, 0))) := ⟨h2_⟩
                          have n3_ : Aside0 (w126.heap[gb179]? = some (.cells #[.int .i64 t175, .int .i64 t176, .int .i64 t177] 23 (0, 0))) := ⟨h3_⟩
                          have n4_ : Aside0 (w126.heap[gb186]? = some (.cells #[.int .i64 0, .int .i64 0, .int .i64 0] 23 (0, 0))) := ⟨h4_⟩
                          have n5_ : Aside0 (w.heap.size ≤ gb186) := ⟨h5_⟩
                          have n6_ : Aside0 (w.heap.size ≤ gb186) := ⟨h6_⟩
                          have n7_ : Aside0 (gb169 ≠ gb186) := ⟨h7_⟩
                          have n8_ : Aside0 (gb186 ≠ gb169) := ⟨h8_⟩
                          have n9_ : Aside0 (gb170 ≠ gb186) := ⟨h9_⟩
                          have n10_ : Aside0 (gb186 ≠ gb170) := ⟨h10_⟩
                          have n11_ : Aside0 (gb171 ≠ gb186) := ⟨h11_⟩
                          have n12_ : Aside0 (gb186 ≠ gb171) := ⟨h12_⟩
                          have n13_ : Aside0 (gb179 ≠ gb186) := ⟨h13_⟩
                          have n14_ : Aside0 (gb186 ≠ gb179) := ⟨h14_⟩
                          have n15_ : Aside0 (Below w.heap.size w w126) := ⟨h15_⟩
                          clear BK169
                          clear BK170
                          clear BK171
                          clear BK179
                          clear HB
                          clear h0_ h1_ h2_ h3_ h4_ h5_ h6_ h7_ h8_ h9_ h10_ h11_ h12_ h13_ h14_ h15_
                          have BK169 := n0_
                          have BK170 := n1_
                          have BK171 := n2_
                          have BK179 := n3_
                          have BK186 := n4_
                          have GW186 := n5_
                          have GE186 := n6_
                          have NB169_186 := n7_
                          have NB186_169 := n8_
                          have NB170_186 := n9_
                          have NB186_170 := n10_
                          have NB171_186 := n11_
                          have NB186_171 := n12_
                          have NB179_186 := n13_
                          have NB186_179 := n14_
                          have HB := n15_
                          clear n0_ n1_ n2_ n3_ n4_ n5_ n6_ n7_ n8_ n9_ n10_ n11_ n12_ n13_ n14_ n15_
                          have hHeld : w126.cell? ⟨gb169, 0, none⟩ = some (.int .i64 a1_0) ∧ w126.cell? ⟨gb169, 1, none⟩ = some (.int .i64 a1_1) ∧ w126.cell? ⟨gb169, 2, none⟩ = some (.int .i64 a1_2) ∧ w126.cell? ⟨gb169, 3, none⟩ = some (.int .i64 a1_3) ∧ w126.cell? ⟨gb169, 4, none⟩ = some (.int .i64 a1_4) ∧ w126.cell? ⟨gb169, 5, none⟩ = some (.int .i64 a1_5) ∧ w126.cell? ⟨gb170, 0, none⟩ = some (.bool false) ∧ w126.cell? ⟨gb170, 1, none⟩ = some (.int .i64 a2_1) ∧ w126.cell? ⟨gb170, 2, none⟩ = some (.int .i64 a2_2) ∧ w126.cell? ⟨gb170, 3, none⟩ = some (.int .i64 a2_3) ∧ w126.cell? ⟨gb170, 4, none⟩ = some (.bool a2_4) ∧ w126.cell? ⟨gb170, 5, none⟩ = some (.int .i64 a2_5) ∧ w126.cell? ⟨gb170, 6, none⟩ = some (.int .i64 a2_6) ∧ w126.cell? ⟨gb170, 7, none⟩ = some (.int .i64 a2_7) ∧ w126.cell? ⟨gb171, 0, none⟩ = some (.int .i64 a3_0) ∧ w126.cell? ⟨gb171, 1, none⟩ = some (.int .u64 a3_1) := hS_
                          refine norm_ (a' := ?_) ?_ ?_
                          rotate_left
                          · simp only [putAll, Act.put, List.setIfInBounds_toArray, List.set_cons_zero, List.set_cons_succ]
                            rfl
                          refine one_ (i := 10) (N := none) #[true, true, true, true, true, true, true, true, true, true, true, false] rfl rfl (one_of HT_.out (by kernel_rfl)) (by decide) (fun K hK => ?_)
                          have hs127 : w126.cell? ⟨gb186, 0, none⟩ = some (.int .i64 0) := (blk_cell BK186.out 0).trans rfl
                          have hfs127 := blk_frozen BK186.out 0
                          have hns127_0 := NB169_186.out
                          have hns127_1 := NB170_186.out
                          have hns127_2 := NB171_186.out
                          have hns127_3 := NB179_186.out
                          have hms127_0 := NB186_169.out
                          have hms127_1 := NB186_170.out
                          have hms127_2 := NB186_171.out
                          have hms127_3 := NB186_179.out
                          have hs128 : w126.cell? ⟨gb186, 1, none⟩ = some (.int .i64 0) := (blk_cell BK186.out 1).trans rfl
                          have hfs128 := blk_frozen BK186.out 1
                          have hns128_0 := NB169_186.out
                          have hns128_1 := NB170_186.out
                          have hns128_2 := NB171_186.out
                          have hns128_3 := NB179_186.out
                          have hms128_0 := NB186_169.out
                          have hms128_1 := NB186_170.out
                          have hms128_2 := NB186_171.out
                          have hms128_3 := NB186_179.out
                          have hs129 : w126.cell? ⟨gb186, 2, none⟩ = some (.int .i64 0) := (blk_cell BK186.out 2).trans rfl
                          have hfs129 := blk_frozen BK186.out 2
                          have hns129_0 := NB169_186.out
                          have hns129_1 := NB170_186.out
                          have hns129_2 := NB171_186.out
                          have hns129_3 := NB179_186.out
                          have hms129_0 := NB186_169.out
                          have hms129_1 := NB186_170.out
                          have hms129_2 := NB186_171.out
                          have hms129_3 := NB186_179.out
                          refine skip_ (w1 := ?_) (by rfl) rfl ?_ ?_
                          rotate_left
                          · go_simp
                            rfl
                          refine hK.out _ _ ⟨((cell_far (p := ⟨gb186, _, none⟩) NB169_186.out _).trans (((cell_far (p := ⟨gb186, _, none⟩) NB169_186.out _).trans (((cell_far (p := ⟨gb186, _, none⟩) NB169_186.out _).trans (hHeld.1)))))), ((cell_far (p := ⟨gb186, _, none⟩) NB169_186.out _).trans (((cell_far (p := ⟨gb186, _, none⟩) NB169_186.out _).trans (((cell_far (p := ⟨gb186, _, none⟩) NB169_186.out _).trans (hHeld.2.1)))))), ((cell_far (p := ⟨gb186, _, none⟩) NB169_186.out _).trans (((cell_far (p := ⟨gb186, _, none⟩) NB169_186.out _).trans (((cell_far (p := ⟨gb186, _, none⟩) NB169_186.out _).trans (hHeld.2.2.1)))))), ((cell_far (p := ⟨gb186, _, none⟩) NB169_186.out _).trans (((cell_far (p := ⟨gb186, _, none⟩) NB169_186.out _).trans (((cell_far (p := ⟨gb186, _, none⟩) NB169_186.out _).trans (hHeld.2.2.2.1)))))), ((cell_far (p := ⟨gb186, _, none⟩) NB169_186.out _).trans (((cell_far (p := ⟨gb186, _, none⟩) NB169_186.out _).trans (((cell_far (p := ⟨gb186, _, none⟩) NB169_186.out _).trans (hHeld.2.2.2.2.1)))))), ((cell_far (p := ⟨gb186, _, none⟩) NB169_186.out _).trans (((cell_far (p := ⟨gb186, _, none⟩) NB169_186.out _).trans (((cell_far (p := ⟨gb186, _, none⟩) NB169_186.out _).trans (hHeld.2.2.2.2.2.1)))))), ((cell_far (p := ⟨gb186, _, none⟩) NB170_186.out _).trans (((cell_far (p := ⟨gb186, _, none⟩) NB170_186.out _).trans (((cell_far (p := ⟨gb186, _, none⟩) NB170_186.out _).trans (hHeld.2.2.2.2.2.2.1)))))), ((cell_far (p := ⟨gb186, _, none⟩) NB170_186.out _).trans (((cell_far (p := ⟨gb186, _, none⟩) NB170_186.out _).trans (((cell_far (p := ⟨gb186, _, none⟩) NB170_186.out _).trans (hHeld.2.2.2.2.2.2.2.1)))))), ((cell_far (p := ⟨gb186, _, none⟩) NB170_186.out _).trans (((cell_far (p := ⟨gb186, _, none⟩) NB170_186.out _).trans (((cell_far (p := ⟨gb186, _, none⟩) NB170_186.out _).trans (hHeld.2.2.2.2.2.2.2.2.1)))))), ((cell_far (p := ⟨gb186, _, none⟩) NB170_186.out _).trans (((cell_far (p := ⟨gb186, _, none⟩) NB170_186.out _).trans (((cell_far (p := ⟨gb186, _, none⟩) NB170_186.out _).trans (hHeld.2.2.2.2.2.2.2.2.2.1)))))), ((cell_far (p := ⟨gb186, _, none⟩) NB170_186.out _).trans (((cell_far (p := ⟨gb186, _, none⟩) NB170_186.out _).trans (((cell_far (p := ⟨gb186, _, none⟩) NB170_186.out _).trans (hHeld.2.2.2.2.2.2.2.2.2.2.1)))))), ((cell_far (p := ⟨gb186, _, none⟩) NB170_186.out _).trans (((cell_far (p := ⟨gb186, _, none⟩) NB170_186.out _).trans (((cell_far (p := ⟨gb186, _, none⟩) NB170_186.out _).trans (hHeld.2.2.2.2.2.2.2.2.2.2.2.1)))))), ((cell_far (p := ⟨gb186, _, none⟩) NB170_186.out _).trans (((cell_far (p := ⟨gb186, _, none⟩) NB170_186.out _).trans (((cell_far (p := ⟨gb186, _, none⟩) NB170_186.out _).trans (hHeld.2.2.2.2.2.2.2.2.2.2.2.2.1)))))), ((cell_far (p := ⟨gb186, _, none⟩) NB170_186.out _).trans (((cell_far (p := ⟨gb186, _, none⟩) NB170_186.out _).trans (((cell_far (p := ⟨gb186, _, none⟩) NB170_186.out _).trans (hHeld.2.2.2.2.2.2.2.2.2.2.2.2.2.1)))))), ((cell_far (p := ⟨gb186, _, none⟩) NB171_186.out _).trans (((cell_far (p := ⟨gb186, _, none⟩) NB171_186.out _).trans (((cell_far (p := ⟨gb186, _, none⟩) NB171_186.out _).trans (hHeld.2.2.2.2.2.2.2.2.2.2.2.2.2.2.1)))))), ((cell_far (p := ⟨gb186, _, none⟩) NB171_186.out _).trans (((cell_far (p := ⟨gb186, _, none⟩) NB171_186.out _).trans (((cell_far (p := ⟨gb186, _, none⟩) NB171_186.out _).trans (hHeld.2.2.2.2.2.2.2.2.2.2.2.2.2.2.2))))))⟩ (fun hHeld => ?_)
                          clear hK K
                          refine pure_ (i := 11) (N := some 13) (v := ?_) (a' := ?_) #[true, true, true, true, true, true, true, true, true, true, true, true] rfl rfl (any_of HT_.out (by kernel_rfl)) (fun _ _ _ h => h) (Or.inl ⟨by rfl, ?_⟩) ?_ ?_
                          rotate_left; focus (intro w'; go_simp; with_reducible rfl)
                          rotate_left; focus (simp only [Act.put, List.setIfInBounds_toArray, List.set_cons_zero, List.set_cons_succ, i64_w, i32_w]; rfl)
                          refine done_ (done_of HT_.out (by kernel_rfl)) ?_
                          have hnb130 := NB170_186.out
                          have hnc130 := NB186_170.out
                          obtain ⟨hcz131_0, hcz131_1, hcz131_2, hcz131_3, hcz131_4, hcz131_5, hcz131_6, hcz131_7⟩ := cc8 BK170
                          obtain ⟨hfz131_0, hfz131_1, hfz131_2, hfz131_3, hfz131_4, hfz131_5, hfz131_6, hfz131_7⟩ := cf8 BK170
                          have hnb132 := NB179_186.out
                          have hnc132 := NB186_179.out
                          obtain ⟨hcz133_0, hcz133_1, hcz133_2⟩ := cc3 BK179
                          obtain ⟨hfz133_0, hfz133_1, hfz133_2⟩ := cf3 BK179
                          have hnb134 := NB186_169.out
                          have hnc134 := NB169_186.out
                          have hnb135 := NB186_171.out
                          have hnc135 := NB171_186.out
                          obtain ⟨hcz136_0, hcz136_1, hcz136_2⟩ := cc3 BK186
                          obtain ⟨hfz136_0, hfz136_1, hfz136_2⟩ := cf3 BK186
                          obtain ⟨hcz137_0, hcz137_1, hcz137_2, hcz137_3, hcz137_4, hcz137_5⟩ := cc6 BK169
                          obtain ⟨hfz137_0, hfz137_1, hfz137_2, hfz137_3, hfz137_4, hfz137_5⟩ := cf6 BK169
                          try go_wp2
                          go_ret
                          exact ⟨by first | rfl | (simp [errW_none, errW_some] <;> rfl) | (simp [*, errW_none, errW_some] <;> rfl) | (exfalso; first | contradiction | (revert c14b0 c93b0 c96b0 c97b0 c98b0; simp +contextual; done)), by repeat (first | (with_reducible first | exact HB.out | apply below_alloc | apply pw_below_drewN | apply below_drew1 | refine below_set ?_ GE169.out | refine below_set ?_ GE170.out | refine below_set ?_ GE171.out | refine below_set ?_ GE179.out | refine below_set ?_ GE186.out) | exact HB.out)⟩
                        · rw [if_neg c99] at H
                          exact absurd H (by simp)
                      · rw [if_neg c98] at H
                        exact absurd H (by simp)
                    · rw [if_neg c97] at H
                      exact absurd H (by simp)
                  · rw [if_neg c96] at H
                    exact absurd H (by simp)
                · rw [if_neg c95] at H
                  exact absurd H (by simp)
              · replace c94 := Bool.eq_false_iff.mpr c94
                subst c94
                obtain rfl : t185 = false := by simpa using c14b0
                rw [if_neg (show ¬ (false = true) by decide)] at H
                obtain rfl := Option.some.inj H
                go_enter Try.func4, Try.ntmps4
                try go_wp2_with (first | ((with_reducible refine gate_dst (N := 5) rfl ?_); refine box_event ?hg (N := 5) ?hd (cs := #[.int .i64 a1_0, .int .i64 a1_1, .int .i64 a1_2, .int .i64 a1_3, .int .i64 a1_4, .int .i64 a1_5]) (t := 28) ?hr ?_; (case hd => rfl); (case hg => rfl); (case hr => first | (go_simp; done) | (go_simp; rfl)); intro gb169 hg w138 hbox hb; have n0_ := bs HB hb; have n1_ := Aside0.mk (hbox); have n2_ := bz HB hg; have n3_ := bz HB hg; clear HB; have HB := n0_; have BK169 := n1_; have GW169 := n2_; have GE169 := n3_; clear n0_ n1_ n2_ n3_; clear hb hbox hg) | ((with_reducible refine gate_dst (N := 6) rfl ?_); refine box_event ?hg (N := 6) ?hd (cs := #[.bool false, .int .i64 a2_1, .int .i64 a2_2, .int .i64 a2_3, .bool a2_4, .int .i64 a2_5, .int .i64 a2_6, .int .i64 a2_7]) (t := 30) ?hr ?_; (case hd => rfl); (case hg => rfl); (case hr => first | (go_simp; done) | (go_simp; rfl)); intro gb170 hg w139 hbox hb; have n0_ := bb BK169 hb; have n1_ := bs HB hb; have n2_ := Aside0.mk (hbox); have n3_ := bz HB hg; have n4_ := bz HB hg; have n5_ := bl BK169 hg; have n6_ := bg BK169 hg; clear BK169; clear HB; have BK169 := n0_; have HB := n1_; have BK170 := n2_; have GW170 := n3_; have GE170 := n4_; have NB169_170 := n5_; have NB170_169 := n6_; clear n0_ n1_ n2_ n3_ n4_ n5_ n6_; clear hb hbox hg) | ((with_reducible refine gate_dst (N := 7) rfl ?_); refine box_event ?hg (N := 7) ?hd (cs := #[.int .i64 a3_0, .int .u64 a3_1]) (t := 33) ?hr ?_; (case hd => rfl); (case hg => rfl); (case hr => first | (go_simp; done) | (go_simp; rfl)); intro gb171 hg w140 hbox hb; have n0_ := bb BK169 hb; have n1_ := bb BK170 hb; have n2_ := bs HB hb; have n3_ := Aside0.mk (hbox); have n4_ := bz HB hg; have n5_ := bz HB hg; have n6_ := bl BK169 hg; have n7_ := bg BK169 hg; have n8_ := bl BK170 hg; have n9_ := bg BK170 hg; clear BK169; clear BK170; clear HB; have BK169 := n0_; have BK170 := n1_; have HB := n2_; have BK171 := n3_; have GW171 := n4_; have GE171 := n5_; have NB169_171 := n6_; have NB171_169 := n7_; have NB170_171 := n8_; have NB171_170 := n9_; clear n0_ n1_ n2_ n3_ n4_ n5_ n6_ n7_ n8_ n9_; clear hb hbox hg) | ((with_reducible refine gate_callee (f := 8) rfl ?_); refine goesL_ (some 14) rfl rfl Try.func8 (by kernel_rfl) rfl #[] rfl (by (try simp only [List.map_toArray, List.map_cons, List.map_nil]); first | done | rfl | (simp only [List.length_drop, List.length_take]; rfl)) ?_; (with_reducible refine (fuseelaw14_awake.calls k  true _ A5.out).mono ?_); rintro e w141 ⟨rfl, hb⟩; refine ⟨_, rfl, ?_⟩; have n0_ := bb BK169 hb; have n1_ := bb BK170 hb; have n2_ := bb BK171 hb; have n3_ := bs HB hb; clear BK169; clear BK170; clear BK171; clear HB; have BK169 := n0_; have BK170 := n1_; have BK171 := n2_; have HB := n3_; clear n0_ n1_ n2_ n3_; (try clear hb); (try clear hb2); (try clear hk); (try clear hi); have hnb142 := NB169_170.out; have hnc142 := NB170_169.out; have hnb143 := NB169_171.out; have hnc143 := NB171_169.out; obtain ⟨hcz144_0, hcz144_1, hcz144_2, hcz144_3, hcz144_4, hcz144_5⟩ := cc6 BK169; obtain ⟨hfz144_0, hfz144_1, hfz144_2, hfz144_3, hfz144_4, hfz144_5⟩ := cf6 BK169; have hnb145 := NB170_171.out; have hnc145 := NB171_170.out; obtain ⟨hcz146_0, hcz146_1, hcz146_2, hcz146_3, hcz146_4, hcz146_5, hcz146_6, hcz146_7⟩ := cc8 BK170; obtain ⟨hfz146_0, hfz146_1, hfz146_2, hfz146_3, hfz146_4, hfz146_5, hfz146_6, hfz146_7⟩ := cf8 BK170) | (go_at_call 10; (with_reducible refine (job_May.calls a1_0 a1_1 a1_2 a1_3 a1_4 a1_5 false a2_1 a2_2 a2_3 a2_4 a2_5 a2_6 a2_7 true _ A7.out).mono ?_); rintro e w147 ⟨rfl, hb⟩; have n0_ := bb BK169 hb; have n1_ := bb BK170 hb; have n2_ := bb BK171 hb; have n3_ := bs HB hb; clear BK169; clear BK170; clear BK171; clear HB; have BK169 := n0_; have BK170 := n1_; have BK171 := n2_; have HB := n3_; clear n0_ n1_ n2_ n3_; (try clear hb); (try clear hb2); (try clear hk); (try clear hi); (try clear hcz144_0 hcz144_1 hcz144_2 hcz144_3 hcz144_4 hcz144_5 hfz144_0 hfz144_1 hfz144_2 hfz144_3 hfz144_4 hfz144_5); (try clear hcz146_0 hcz146_1 hcz146_2 hcz146_3 hcz146_4 hcz146_5 hcz146_6 hcz146_7 hfz146_0 hfz146_1 hfz146_2 hfz146_3 hfz146_4 hfz146_5 hfz146_6 hfz146_7); obtain ⟨hcz148_0, hcz148_1⟩ := cc2 BK171; obtain ⟨hfz148_0, hfz148_1⟩ := cf2 BK171) | (go_at_call 11; (with_reducible refine (ring_May.calls a3_0 a3_1 true _ A9.out).mono ?_); rintro e w149 ⟨rfl, hb⟩; have n0_ := bb BK169 hb; have n1_ := bb BK170 hb; have n2_ := bb BK171 hb; have n3_ := bs HB hb; clear BK169; clear BK170; clear BK171; clear HB; have BK169 := n0_; have BK170 := n1_; have BK171 := n2_; have HB := n3_; clear n0_ n1_ n2_ n3_; (try clear hb); (try clear hb2); (try clear hk); (try clear hi); (try clear hcz144_0 hcz144_1 hcz144_2 hcz144_3 hcz144_4 hcz144_5 hfz144_0 hfz144_1 hfz144_2 hfz144_3 hfz144_4 hfz144_5); (try clear hcz146_0 hcz146_1 hcz146_2 hcz146_3 hcz146_4 hcz146_5 hcz146_6 hcz146_7 hfz146_0 hfz146_1 hfz146_2 hfz146_3 hfz146_4 hfz146_5 hfz146_6 hfz146_7); (try clear hcz148_0 hcz148_1 hfz148_0 hfz148_1); obtain ⟨hcz150_0, hcz150_1, hcz150_2, hcz150_3, hcz150_4, hcz150_5⟩ := cc6 BK169; obtain ⟨hfz150_0, hfz150_1, hfz150_2, hfz150_3, hfz150_4, hfz150_5⟩ := cf6 BK169; obtain ⟨hcz151_0, hcz151_1, hcz151_2, hcz151_3, hcz151_4, hcz151_5, hcz151_6, hcz151_7⟩ := cc8 BK170; obtain ⟨hfz151_0, hfz151_1, hfz151_2, hfz151_3, hfz151_4, hfz151_5, hfz151_6, hfz151_7⟩ := cf8 BK170; obtain ⟨hcz152_0, hcz152_1⟩ := cc2 BK171; obtain ⟨hfz152_0, hfz152_1⟩ := cf2 BK171) | ((with_reducible refine gate_callee (f := 12) rfl ?_); refine goesL_ (some 34) rfl rfl Try.func12 (by kernel_rfl) rfl #[.int .i64 a0, .agg #[.int .i64 a1_0, .int .i64 a1_1, .int .i64 a1_2, .int .i64 a1_3, .int .i64 a1_4, .int .i64 a1_5], .agg #[.bool false, .int .i64 a2_1, .int .i64 a2_2, .int .i64 a2_3, .bool a2_4, .int .i64 a2_5, .int .i64 a2_6, .int .i64 a2_7], .agg #[.int .i64 a3_0, .int .u64 a3_1]] rfl (by (try simp only [List.map_toArray, List.map_cons, List.map_nil]); first | done | rfl | (simp only [List.length_drop, List.length_take]; rfl)) ?_; (with_reducible refine (option_Of.calls k a0 a1_0 a1_1 a1_2 a1_3 a1_4 a1_5 false a2_1 a2_2 a2_3 a2_4 a2_5 a2_6 a2_7 a3_0 a3_1 t175 t176 t177 false _ A11.out).mono ?_); rintro e w153 ⟨rfl, hb⟩; refine ⟨_, rfl, ?_⟩; have n0_ := bb BK169 hb; have n1_ := bb BK170 hb; have n2_ := bb BK171 hb; have n3_ := bs HB hb; clear BK169; clear BK170; clear BK171; clear HB; have BK169 := n0_; have BK170 := n1_; have BK171 := n2_; have HB := n3_; clear n0_ n1_ n2_ n3_; (try clear hb); (try clear hb2); (try clear hk); (try clear hi)) | ((with_reducible refine gate_dst (N := 10) rfl ?_); refine box_event ?hg (N := 10) ?hd (cs := #[.int .i64 0, .int .i64 0, .int .i64 0]) (t := 23) ?hr ?_; (case hd => rfl); (case hg => rfl); (case hr => first | (go_simp; done) | (go_simp; rfl)); intro gb179 hg w154 hbox hb; have n0_ := bb BK169 hb; have n1_ := bb BK170 hb; have n2_ := bb BK171 hb; have n3_ := bs HB hb; have n4_ := Aside0.mk (hbox); have n5_ := bz HB hg; have n6_ := bz HB hg; have n7_ := bl BK169 hg; have n8_ := bg BK169 hg; have n9_ := bl BK170 hg; have n10_ := bg BK170 hg; have n11_ := bl BK171 hg; have n12_ := bg BK171 hg; clear BK169; clear BK170; clear BK171; clear HB; have BK169 := n0_; have BK170 := n1_; have BK171 := n2_; have HB := n3_; have BK179 := n4_; have GW179 := n5_; have GE179 := n6_; have NB169_179 := n7_; have NB179_169 := n8_; have NB170_179 := n9_; have NB179_170 := n10_; have NB171_179 := n11_; have NB179_171 := n12_; clear n0_ n1_ n2_ n3_ n4_ n5_ n6_ n7_ n8_ n9_ n10_ n11_ n12_; clear hb hbox hg; have hnb155 := NB179_169.out; have hnc155 := NB169_179.out; have hnb156 := NB179_170.out; have hnc156 := NB170_179.out; have hnb157 := NB179_171.out; have hnc157 := NB171_179.out; (try clear hcz144_0 hcz144_1 hcz144_2 hcz144_3 hcz144_4 hcz144_5 hfz144_0 hfz144_1 hfz144_2 hfz144_3 hfz144_4 hfz144_5); (try clear hcz146_0 hcz146_1 hcz146_2 hcz146_3 hcz146_4 hcz146_5 hcz146_6 hcz146_7 hfz146_0 hfz146_1 hfz146_2 hfz146_3 hfz146_4 hfz146_5 hfz146_6 hfz146_7); (try clear hcz148_0 hcz148_1 hfz148_0 hfz148_1); (try clear hcz150_0 hcz150_1 hcz150_2 hcz150_3 hcz150_4 hcz150_5 hfz150_0 hfz150_1 hfz150_2 hfz150_3 hfz150_4 hfz150_5); (try clear hcz151_0 hcz151_1 hcz151_2 hcz151_3 hcz151_4 hcz151_5 hcz151_6 hcz151_7 hfz151_0 hfz151_1 hfz151_2 hfz151_3 hfz151_4 hfz151_5 hfz151_6 hfz151_7); (try clear hcz152_0 hcz152_1 hfz152_0 hfz152_1); obtain ⟨hcz158_0, hcz158_1, hcz158_2⟩ := cc3 BK179; obtain ⟨hfz158_0, hfz158_1, hfz158_2⟩ := cf3 BK179))
                have n0_ : Aside0 ((((w154.setCell ⟨gb179, 0, none⟩ (.int .i64 t175)).setCell ⟨gb179, 1, none⟩ (.int .i64 t176)).setCell ⟨gb179, 2, none⟩ (.int .i64 t177)).heap[gb169]? = some (.cells #[.int .i64 a1_0, .int .i64 a1_1, .int .i64 a1_2, .int .i64 a1_3, .int .i64 a1_4, .int .i64 a1_5] 28 (0, 0))) := ⟨by (with_reducible repeat (first | refine bN ?_ _ | refine bD ?_ | refine bA ?_ _ | refine blk_far ?_ NB169_179.out _)); exact BK169.out⟩
                have n1_ : Aside0 ((((w154.setCell ⟨gb179, 0, none⟩ (.int .i64 t175)).setCell ⟨gb179, 1, none⟩ (.int .i64 t176)).setCell ⟨gb179, 2, none⟩ (.int .i64 t177)).heap[gb170]? = some (.cells #[.bool false, .int .i64 a2_1, .int .i64 a2_2, .int .i64 a2_3, .bool a2_4, .int .i64 a2_5, .int .i64 a2_6, .int .i64 a2_7] 30 (0, 0))) := ⟨by (with_reducible repeat (first | refine bN ?_ _ | refine bD ?_ | refine bA ?_ _ | refine blk_far ?_ NB170_179.out _)); exact BK170.out⟩
                have n2_ : Aside0 ((((w154.setCell ⟨gb179, 0, none⟩ (.int .i64 t175)).setCell ⟨gb179, 1, none⟩ (.int .i64 t176)).setCell ⟨gb179, 2, none⟩ (.int .i64 t177)).heap[gb171]? = some (.cells #[.int .i64 a3_0, .int .u64 a3_1] 33 (0, 0))) := ⟨by (with_reducible repeat (first | refine bN ?_ _ | refine bD ?_ | refine bA ?_ _ | refine blk_far ?_ NB171_179.out _)); exact BK171.out⟩
                have n3_ : Aside0 ((((w154.setCell ⟨gb179, 0, none⟩ (.int .i64 t175)).setCell ⟨gb179, 1, none⟩ (.int .i64 t176)).setCell ⟨gb179, 2, none⟩ (.int .i64 t177)).heap[gb179]? = some (.cells #[.int .i64 t175, .int .i64 t176, .int .i64 t177] 23 (0, 0))) := ⟨by (with_reducible repeat (first | refine bN ?_ _ | refine bD ?_ | refine bA ?_ _)); refine blk_put (cs := #[.int .i64 t175, .int .i64 t176, .int .i64 0]) ?_ 2 _ rfl; (with_reducible repeat (first | refine bN ?_ _ | refine bD ?_ | refine bA ?_ _)); refine blk_put (cs := #[.int .i64 t175, .int .i64 0, .int .i64 0]) ?_ 1 _ rfl; (with_reducible repeat (first | refine bN ?_ _ | refine bD ?_ | refine bA ?_ _)); refine blk_put (cs := #[.int .i64 0, .int .i64 0, .int .i64 0]) ?_ 0 _ rfl; (with_reducible repeat (first | refine bN ?_ _ | refine bD ?_ | refine bA ?_ _)); exact BK179.out⟩
                have n4_ : Aside0 (Below w.heap.size w (((w154.setCell ⟨gb179, 0, none⟩ (.int .i64 t175)).setCell ⟨gb179, 1, none⟩ (.int .i64 t176)).setCell ⟨gb179, 2, none⟩ (.int .i64 t177))) := ⟨by repeat (first | (with_reducible first | exact HB.out | apply below_alloc | apply pw_below_drewN | apply below_drew1 | refine below_set ?_ GE169.out | refine below_set ?_ GE170.out | refine below_set ?_ GE171.out | refine below_set ?_ GE179.out) | exact HB.out)⟩
                (try clear BK169)
                (try clear BK170)
                (try clear BK171)
                (try clear BK179)
                (try clear HB)
                generalize (((w154.setCell ⟨gb179, 0, none⟩ (.int .i64 t175)).setCell ⟨gb179, 1, none⟩ (.int .i64 t176)).setCell ⟨gb179, 2, none⟩ (.int .i64 t177)) = w159 at n0_ n1_ n2_ n3_ n4_ ⊢
                have BK169 := n0_
                have BK170 := n1_
                have BK171 := n2_
                have BK179 := n3_
                have HB := n4_
                clear n0_ n1_ n2_ n3_ n4_
                have n0_ := Aside0.mk (blk_drew BK169.out)
                have n1_ := Aside0.mk (blk_drew BK170.out)
                have n2_ := Aside0.mk (blk_drew BK171.out)
                have n3_ := Aside0.mk (blk_drew BK179.out)
                have n4_ := Aside0.mk (below_drew1 HB.out)
                clear BK169
                clear BK170
                clear BK171
                clear BK179
                clear HB
                have BK169 := n0_
                have BK170 := n1_
                have BK171 := n2_
                have BK179 := n3_
                have HB := n4_
                clear n0_ n1_ n2_ n3_ n4_
                refine start_ (n := 12) (S := fun w' => w'.cell? ⟨gb169, 0, none⟩ = some (.int .i64 a1_0) ∧ w'.cell? ⟨gb169, 1, none⟩ = some (.int .i64 a1_1) ∧ w'.cell? ⟨gb169, 2, none⟩ = some (.int .i64 a1_2) ∧ w'.cell? ⟨gb169, 3, none⟩ = some (.int .i64 a1_3) ∧ w'.cell? ⟨gb169, 4, none⟩ = some (.int .i64 a1_4) ∧ w'.cell? ⟨gb169, 5, none⟩ = some (.int .i64 a1_5) ∧ w'.cell? ⟨gb170, 0, none⟩ = some (.bool false) ∧ w'.cell? ⟨gb170, 1, none⟩ = some (.int .i64 a2_1) ∧ w'.cell? ⟨gb170, 2, none⟩ = some (.int .i64 a2_2) ∧ w'.cell? ⟨gb170, 3, none⟩ = some (.int .i64 a2_3) ∧ w'.cell? ⟨gb170, 4, none⟩ = some (.bool a2_4) ∧ w'.cell? ⟨gb170, 5, none⟩ = some (.int .i64 a2_5) ∧ w'.cell? ⟨gb170, 6, none⟩ = some (.int .i64 a2_6) ∧ w'.cell? ⟨gb170, 7, none⟩ = some (.int .i64 a2_7) ∧ w'.cell? ⟨gb171, 0, none⟩ = some (.int .i64 a3_0) ∧ w'.cell? ⟨gb171, 1, none⟩ = some (.int .u64 a3_1)) (ds := []) #[false, false, false, false, false, false, false, false, false, false, false, false] (by kernel_rfl) rfl rfl ⟨(blk_cell BK169.out 0).trans rfl, (blk_cell BK169.out 1).trans rfl, (blk_cell BK169.out 2).trans rfl, (blk_cell BK169.out 3).trans rfl, (blk_cell BK169.out 4).trans rfl, (blk_cell BK169.out 5).trans rfl, (blk_cell BK170.out 0).trans rfl, (blk_cell BK170.out 1).trans rfl, (blk_cell BK170.out 2).trans rfl, (blk_cell BK170.out 3).trans rfl, (blk_cell BK170.out 4).trans rfl, (blk_cell BK170.out 5).trans rfl, (blk_cell BK170.out 6).trans rfl, (blk_cell BK170.out 7).trans rfl, (blk_cell BK171.out 0).trans rfl, (blk_cell BK171.out 1).trans rfl⟩ (fun hHeld => ?_); refine with_tabW fuseelaw14_OptionFar.tab5 fuseelaw14_OptionFar.bits5 (fun HT_ HW_ => ?_)
                generalize w159.drew = w160 at BK169 BK170 BK171 BK179 HB hHeld ⊢
                refine pure_ (i := 0) (N := some 38) (v := ?_) (a' := ?_) #[true, false, false, false, false, false, false, false, false, false, false, false] rfl rfl (any_of HT_.out (by kernel_rfl)) (fun _ _ _ h => h) (Or.inl ⟨by rfl, ?_⟩) ?_ ?_
                rotate_left; focus (intro w'; go_simp; with_reducible rfl)
                rotate_left; focus (simp only [Act.put, List.setIfInBounds_toArray, List.set_cons_zero, List.set_cons_succ, i64_w, i32_w]; rfl)
                refine take_ (i := 1) (N := some 39) (v := ?_) (a' := ?_) #[true, true, false, false, false, false, false, false, false, false, false, false] rfl rfl (take_ofW HT_.out HW_.out (by kernel_rfl)) (fun _ _ _ h => h) (Or.inl ⟨by rfl, ?_⟩) hHeld ?_ ?_
                rotate_left
                · rintro w' ⟨s0, s1, s2, s3, s4, s5, s6, s7, s8, s9, s10, s11, s12, s13, s14, s15⟩
                  go_simp
                  with_reducible rfl
                rotate_left; focus (simp only [Act.put, List.setIfInBounds_toArray, List.set_cons_zero, List.set_cons_succ, i64_w, i32_w]; rfl)
                refine take_ (i := 2) (N := some 40) (v := ?_) (a' := ?_) #[true, true, true, false, false, false, false, false, false, false, false, false] rfl rfl (take_ofW HT_.out HW_.out (by kernel_rfl)) (fun _ _ _ h => h) (Or.inl ⟨by rfl, ?_⟩) hHeld ?_ ?_
                rotate_left
                · rintro w' ⟨s0, s1, s2, s3, s4, s5, s6, s7, s8, s9, s10, s11, s12, s13, s14, s15⟩
                  go_simp
                  with_reducible rfl
                rotate_left; focus (simp only [Act.put, List.setIfInBounds_toArray, List.set_cons_zero, List.set_cons_succ, i64_w, i32_w]; rfl)
                refine take_ (i := 3) (N := some 41) (v := ?_) (a' := ?_) #[true, true, true, true, false, false, false, false, false, false, false, false] rfl rfl (take_ofW HT_.out HW_.out (by kernel_rfl)) (fun _ _ _ h => h) (Or.inl ⟨by rfl, ?_⟩) hHeld ?_ ?_
                rotate_left
                · rintro w' ⟨s0, s1, s2, s3, s4, s5, s6, s7, s8, s9, s10, s11, s12, s13, s14, s15⟩
                  go_simp
                  with_reducible rfl
                rotate_left; focus (simp only [Act.put, List.setIfInBounds_toArray, List.set_cons_zero, List.set_cons_succ, i64_w, i32_w]; rfl)
                refine join_ (σ := Nat) 2 #[true, true, true, true, true, true, true, true, true, true, false, false] (fun s_ => [(42, .agg #[.int .i64 t180, .int .u64 t181]), (43, .tuple #[.agg #[.int .i64 t182, .int .i64 t183, .int .i64 t184], .bool false]), (12, .pointer (some ⟨s_, 0, none⟩)), (37, .tuple #[.agg #[.int .i64 t182, .int .i64 t183, .int .i64 t184], .bool false]), (44, .agg #[.int .i64 t182, .int .i64 t183, .int .i64 t184]), (45, .bool false)]) (fun s_ w' => (w'.cell? ⟨gb169, 0, none⟩ = some (.int .i64 a1_0) ∧ w'.cell? ⟨gb169, 1, none⟩ = some (.int .i64 a1_1) ∧ w'.cell? ⟨gb169, 2, none⟩ = some (.int .i64 a1_2) ∧ w'.cell? ⟨gb169, 3, none⟩ = some (.int .i64 a1_3) ∧ w'.cell? ⟨gb169, 4, none⟩ = some (.int .i64 a1_4) ∧ w'.cell? ⟨gb169, 5, none⟩ = some (.int .i64 a1_5) ∧ w'.cell? ⟨gb170, 0, none⟩ = some (.bool false) ∧ w'.cell? ⟨gb170, 1, none⟩ = some (.int .i64 a2_1) ∧ w'.cell? ⟨gb170, 2, none⟩ = some (.int .i64 a2_2) ∧ w'.cell? ⟨gb170, 3, none⟩ = some (.int .i64 a2_3) ∧ w'.cell? ⟨gb170, 4, none⟩ = some (.bool a2_4) ∧ w'.cell? ⟨gb170, 5, none⟩ = some (.int .i64 a2_5) ∧ w'.cell? ⟨gb170, 6, none⟩ = some (.int .i64 a2_6) ∧ w'.cell? ⟨gb170, 7, none⟩ = some (.int .i64 a2_7) ∧ w'.cell? ⟨gb171, 0, none⟩ = some (.int .i64 a3_0) ∧ w'.cell? ⟨gb171, 1, none⟩ = some (.int .u64 a3_1)) ∧ (w'.heap[gb169]? = some (.cells #[.int .i64 a1_0, .int .i64 a1_1, .int .i64 a1_2, .int .i64 a1_3, .int .i64 a1_4, .int .i64 a1_5] 28 (0, 0))) ∧ (w'.heap[gb170]? = some (.cells #[.bool false, .int .i64 a2_1, .int .i64 a2_2, .int .i64 a2_3, .bool a2_4, .int .i64 a2_5, .int .i64 a2_6, .int .i64 a2_7] 30 (0, 0))) ∧ (w'.heap[gb171]? = some (.cells #[.int .i64 a3_0, .int .u64 a3_1] 33 (0, 0))) ∧ (w'.heap[gb179]? = some (.cells #[.int .i64 t175, .int .i64 t176, .int .i64 t177] 23 (0, 0))) ∧ (w'.heap[s_]? = some (.cells #[.int .i64 0, .int .i64 0, .int .i64 0] 23 (0, 0))) ∧ (w.heap.size ≤ s_) ∧ (w.heap.size ≤ s_) ∧ (gb169 ≠ s_) ∧ (s_ ≠ gb169) ∧ (gb170 ≠ s_) ∧ (s_ ≠ gb170) ∧ (gb171 ≠ s_) ∧ (s_ ≠ gb171) ∧ (gb179 ≠ s_) ∧ (s_ ≠ gb179) ∧ (Below w.heap.size w w')) ?_ ?_
                rotate_left
                · intro hCont
                  refine two_ (i := 4) (j := 9) (Ni := some 42) (Nj := some 12) #[true, true, true, true, true, false, false, false, false, false, false, false] #[true, true, true, true, false, false, false, false, false, true, false, false] rfl rfl rfl rfl (two_of HT_.out (by kernel_rfl)) (by decide) (by decide) (fun K hK => ?_) (fun K hK => ?_)
                  · skip
                    refine goes_ Try.func13 (by kernel_rfl) rfl #[.agg #[.int .i64 a3_0, .int .u64 a3_1], .bool true] (by rfl) rfl rfl (by (try simp only [List.map_toArray, List.map_cons, List.map_nil]); first | done | rfl | (simp only [List.length_drop, List.length_take]; rfl)) ?_
                    with_reducible refine (ring_Put.calls a3_0 a3_1 true t180 t181 _ A12.out).mono ?_
                    rintro e w161 ⟨rfl, hb⟩
                    refine ⟨_, rfl, ?_⟩
                    have n0_ := bb BK169 hb
                    have n1_ := bb BK170 hb
                    have n2_ := bb BK171 hb
                    have n3_ := bb BK179 hb
                    have n4_ := bs HB hb
                    clear BK169
                    clear BK170
                    clear BK171
                    clear BK179
                    clear HB
                    have BK169 := n0_
                    have BK170 := n1_
                    have BK171 := n2_
                    have BK179 := n3_
                    have HB := n4_
                    clear n0_ n1_ n2_ n3_ n4_
                    (try clear hb)
                    (try clear hb2)
                    (try clear hk)
                    (try clear hi)
                    refine hK.out _ _ ⟨(blk_cell BK169.out 0).trans rfl, (blk_cell BK169.out 1).trans rfl, (blk_cell BK169.out 2).trans rfl, (blk_cell BK169.out 3).trans rfl, (blk_cell BK169.out 4).trans rfl, (blk_cell BK169.out 5).trans rfl, (blk_cell BK170.out 0).trans rfl, (blk_cell BK170.out 1).trans rfl, (blk_cell BK170.out 2).trans rfl, (blk_cell BK170.out 3).trans rfl, (blk_cell BK170.out 4).trans rfl, (blk_cell BK170.out 5).trans rfl, (blk_cell BK170.out 6).trans rfl, (blk_cell BK170.out 7).trans rfl, (blk_cell BK171.out 0).trans rfl, (blk_cell BK171.out 1).trans rfl⟩ (fun hHeld => ?_)
                    clear hK K
                    refine norm_ (a' := ?_) ?_ ?_
                    rotate_left
                    · show Act.put _ (some 42) _ = _
                      simp only [Act.put, List.setIfInBounds_toArray, List.set_cons_zero, List.set_cons_succ, i64_w, i32_w]
                      rfl
                    refine two_ (i := 5) (j := 9) (Ni := some 43) (Nj := some 12) #[true, true, true, true, true, true, false, false, false, false, false, false] #[true, true, true, true, true, false, false, false, false, true, false, false] rfl rfl rfl rfl (two_of HT_.out (by kernel_rfl)) (by decide) (by decide) (fun K hK => ?_) (fun K hK => ?_)
                    · skip
                      refine goes_ Try.func12 (by kernel_rfl) rfl #[.int .i64 a0, .agg #[.int .i64 a1_0, .int .i64 a1_1, .int .i64 a1_2, .int .i64 a1_3, .int .i64 a1_4, .int .i64 a1_5], .agg #[.bool false, .int .i64 a2_1, .int .i64 a2_2, .int .i64 a2_3, .bool a2_4, .int .i64 a2_5, .int .i64 a2_6, .int .i64 a2_7], .agg #[.int .i64 t180, .int .u64 t181]] (by rfl) rfl rfl (by (try simp only [List.map_toArray, List.map_cons, List.map_nil]); first | done | rfl | (simp only [List.length_drop, List.length_take]; rfl)) ?_
                      with_reducible refine (option_Of.calls k a0 a1_0 a1_1 a1_2 a1_3 a1_4 a1_5 false a2_1 a2_2 a2_3 a2_4 a2_5 a2_6 a2_7 t180 t181 t182 t183 t184 false _ A13.out).mono ?_
                      rintro e w162 ⟨rfl, hb⟩
                      refine ⟨_, rfl, ?_⟩
                      have n0_ := bb BK169 hb
                      have n1_ := bb BK170 hb
                      have n2_ := bb BK171 hb
                      have n3_ := bb BK179 hb
                      have n4_ := bs HB hb
                      clear BK169
                      clear BK170
                      clear BK171
                      clear BK179
                      clear HB
                      have BK169 := n0_
                      have BK170 := n1_
                      have BK171 := n2_
                      have BK179 := n3_
                      have HB := n4_
                      clear n0_ n1_ n2_ n3_ n4_
                      (try clear hb)
                      (try clear hb2)
                      (try clear hk)
                      (try clear hi)
                      refine hK.out _ _ ⟨(blk_cell BK169.out 0).trans rfl, (blk_cell BK169.out 1).trans rfl, (blk_cell BK169.out 2).trans rfl, (blk_cell BK169.out 3).trans rfl, (blk_cell BK169.out 4).trans rfl, (blk_cell BK169.out 5).trans rfl, (blk_cell BK170.out 0).trans rfl, (blk_cell BK170.out 1).trans rfl, (blk_cell BK170.out 2).trans rfl, (blk_cell BK170.out 3).trans rfl, (blk_cell BK170.out 4).trans rfl, (blk_cell BK170.out 5).trans rfl, (blk_cell BK170.out 6).trans rfl, (blk_cell BK170.out 7).trans rfl, (blk_cell BK171.out 0).trans rfl, (blk_cell BK171.out 1).trans rfl⟩ (fun hHeld => ?_)
                      clear hK K
                      refine norm_ (a' := ?_) ?_ ?_
                      rotate_left
                      · show Act.put _ (some 43) _ = _
                        simp only [Act.put, List.setIfInBounds_toArray, List.set_cons_zero, List.set_cons_succ, i64_w, i32_w]
                        rfl
                      refine pure_ (i := 6) (N := some 37) (v := ?_) (a' := ?_) #[true, true, true, true, true, true, true, false, false, false, false, false] rfl rfl (any_of HT_.out (by kernel_rfl)) (fun _ _ _ h => h) (Or.inl ⟨by rfl, ?_⟩) ?_ ?_
                      rotate_left; focus (intro w'; go_simp; with_reducible rfl)
                      rotate_left; focus (simp only [Act.put, List.setIfInBounds_toArray, List.set_cons_zero, List.set_cons_succ, i64_w, i32_w]; rfl)
                      refine pure_ (i := 7) (N := some 44) (v := ?_) (a' := ?_) #[true, true, true, true, true, true, true, true, false, false, false, false] rfl rfl (any_of HT_.out (by kernel_rfl)) (fun _ _ _ h => h) (Or.inl ⟨by rfl, ?_⟩) ?_ ?_
                      rotate_left; focus (intro w'; go_simp; with_reducible rfl)
                      rotate_left; focus (simp only [Act.put, List.setIfInBounds_toArray, List.set_cons_zero, List.set_cons_succ, i64_w, i32_w]; rfl)
                      refine pure_ (i := 8) (N := some 45) (v := ?_) (a' := ?_) #[true, true, true, true, true, true, true, true, true, false, false, false] rfl rfl (any_of HT_.out (by kernel_rfl)) (fun _ _ _ h => h) (Or.inl ⟨by rfl, ?_⟩) ?_ ?_
                      rotate_left; focus (intro w'; go_simp; with_reducible rfl)
                      rotate_left; focus (simp only [Act.put, List.setIfInBounds_toArray, List.set_cons_zero, List.set_cons_succ, i64_w, i32_w]; rfl)
                      refine one_ (i := 9) (N := some 12) #[true, true, true, true, true, true, true, true, true, true, false, false] rfl rfl (one_of HT_.out (by kernel_rfl)) (by decide) (fun K hK => ?_)
                      refine box_step ?hg (N := 12) ?hd (cs := #[.int .i64 0, .int .i64 0, .int .i64 0]) (t := 23) ?hr ?_; (case hd => rfl); (case hg => rfl); (case hr => first | (go_simp; done) | (go_simp; rfl))
                      intro gb186 hg w163 hbox hb
                      have n0_ := bb BK169 hb
                      have n1_ := bb BK170 hb
                      have n2_ := bb BK171 hb
                      have n3_ := bb BK179 hb
                      have n4_ := bs HB hb
                      have n5_ := Aside0.mk (hbox)
                      have n6_ := bz HB hg
                      have n7_ := bz HB hg
                      have n8_ := bl BK169 hg
                      have n9_ := bg BK169 hg
                      have n10_ := bl BK170 hg
                      have n11_ := bg BK170 hg
                      have n12_ := bl BK171 hg
                      have n13_ := bg BK171 hg
                      have n14_ := bl BK179 hg
                      have n15_ := bg BK179 hg
                      clear BK169
                      clear BK170
                      clear BK171
                      clear BK179
                      clear HB
                      have BK169 := n0_
                      have BK170 := n1_
                      have BK171 := n2_
                      have BK179 := n3_
                      have HB := n4_
                      have BK186 := n5_
                      have GW186 := n6_
                      have GE186 := n7_
                      have NB169_186 := n8_
                      have NB186_169 := n9_
                      have NB170_186 := n10_
                      have NB186_170 := n11_
                      have NB171_186 := n12_
                      have NB186_171 := n13_
                      have NB179_186 := n14_
                      have NB186_179 := n15_
                      clear n0_ n1_ n2_ n3_ n4_ n5_ n6_ n7_ n8_ n9_ n10_ n11_ n12_ n13_ n14_ n15_
                      clear hb hbox hg
                      refine hK.out _ _ ⟨(blk_cell BK169.out 0).trans rfl, (blk_cell BK169.out 1).trans rfl, (blk_cell BK169.out 2).trans rfl, (blk_cell BK169.out 3).trans rfl, (blk_cell BK169.out 4).trans rfl, (blk_cell BK169.out 5).trans rfl, (blk_cell BK170.out 0).trans rfl, (blk_cell BK170.out 1).trans rfl, (blk_cell BK170.out 2).trans rfl, (blk_cell BK170.out 3).trans rfl, (blk_cell BK170.out 4).trans rfl, (blk_cell BK170.out 5).trans rfl, (blk_cell BK170.out 6).trans rfl, (blk_cell BK170.out 7).trans rfl, (blk_cell BK171.out 0).trans rfl, (blk_cell BK171.out 1).trans rfl⟩ (fun hHeld => ?_)
                      clear hK K
                      refine norm_ (a' := ?_) ?_ ?_
                      rotate_left
                      · show Act.put _ (some 12) _ = _
                        simp only [Act.put, List.setIfInBounds_toArray, List.set_cons_zero, List.set_cons_succ, i64_w, i32_w]
                        rfl
                      exact norm_ (by simp only [putAll, Act.put, List.setIfInBounds_toArray, List.set_cons_zero, List.set_cons_succ]) (hCont (gb186) _ ⟨hHeld, (by (with_reducible repeat (first | refine bN ?_ _ | refine bD ?_ | refine bA ?_ _)); exact BK169.out), (by (with_reducible repeat (first | refine bN ?_ _ | refine bD ?_ | refine bA ?_ _)); exact BK170.out), (by (with_reducible repeat (first | refine bN ?_ _ | refine bD ?_ | refine bA ?_ _)); exact BK171.out), (by (with_reducible repeat (first | refine bN ?_ _ | refine bD ?_ | refine bA ?_ _)); exact BK179.out), (by (with_reducible repeat (first | refine bN ?_ _ | refine bD ?_ | refine bA ?_ _)); exact BK186.out), GW186.out, GE186.out, NB169_186.out, NB186_169.out, NB170_186.out, NB186_170.out, NB171_186.out, NB186_171.out, NB179_186.out, NB186_179.out, (by repeat (first | (with_reducible first | exact HB.out | apply below_alloc | apply pw_below_drewN | apply below_drew1 | refine below_set ?_ GE169.out | refine below_set ?_ GE170.out | refine below_set ?_ GE171.out | refine below_set ?_ GE179.out | refine below_set ?_ GE186.out) | exact HB.out))⟩)
                    · skip
                      refine box_step ?hg (N := 12) ?hd (cs := #[.int .i64 0, .int .i64 0, .int .i64 0]) (t := 23) ?hr ?_; (case hd => rfl); (case hg => rfl); (case hr => first | (go_simp; done) | (go_simp; rfl))
                      intro gb186 hg w162 hbox hb
                      have n0_ := bb BK169 hb
                      have n1_ := bb BK170 hb
                      have n2_ := bb BK171 hb
                      have n3_ := bb BK179 hb
                      have n4_ := bs HB hb
                      have n5_ := Aside0.mk (hbox)
                      have n6_ := bz HB hg
                      have n7_ := bz HB hg
                      have n8_ := bl BK169 hg
                      have n9_ := bg BK169 hg
                      have n10_ := bl BK170 hg
                      have n11_ := bg BK170 hg
                      have n12_ := bl BK171 hg
                      have n13_ := bg BK171 hg
                      have n14_ := bl BK179 hg
                      have n15_ := bg BK179 hg
                      clear BK169
                      clear BK170
                      clear BK171
                      clear BK179
                      clear HB
                      have BK169 := n0_
                      have BK170 := n1_
                      have BK171 := n2_
                      have BK179 := n3_
                      have HB := n4_
                      have BK186 := n5_
                      have GW186 := n6_
                      have GE186 := n7_
                      have NB169_186 := n8_
                      have NB186_169 := n9_
                      have NB170_186 := n10_
                      have NB186_170 := n11_
                      have NB171_186 := n12_
                      have NB186_171 := n13_
                      have NB179_186 := n14_
                      have NB186_179 := n15_
                      clear n0_ n1_ n2_ n3_ n4_ n5_ n6_ n7_ n8_ n9_ n10_ n11_ n12_ n13_ n14_ n15_
                      clear hb hbox hg
                      refine hK.out _ _ ⟨(blk_cell BK169.out 0).trans rfl, (blk_cell BK169.out 1).trans rfl, (blk_cell BK169.out 2).trans rfl, (blk_cell BK169.out 3).trans rfl, (blk_cell BK169.out 4).trans rfl, (blk_cell BK169.out 5).trans rfl, (blk_cell BK170.out 0).trans rfl, (blk_cell BK170.out 1).trans rfl, (blk_cell BK170.out 2).trans rfl, (blk_cell BK170.out 3).trans rfl, (blk_cell BK170.out 4).trans rfl, (blk_cell BK170.out 5).trans rfl, (blk_cell BK170.out 6).trans rfl, (blk_cell BK170.out 7).trans rfl, (blk_cell BK171.out 0).trans rfl, (blk_cell BK171.out 1).trans rfl⟩ (fun hHeld => ?_)
                      clear hK K
                      refine norm_ (a' := ?_) ?_ ?_
                      rotate_left
                      · show Act.put _ (some 12) _ = _
                        simp only [Act.put, List.setIfInBounds_toArray, List.set_cons_zero, List.set_cons_succ, i64_w, i32_w]
                        rfl
                      refine one_ (i := 5) (N := some 43) #[true, true, true, true, true, true, false, false, false, true, false, false] rfl rfl (one_of HT_.out (by kernel_rfl)) (by decide) (fun K hK => ?_)
                      refine goes_ Try.func12 (by kernel_rfl) rfl #[.int .i64 a0, .agg #[.int .i64 a1_0, .int .i64 a1_1, .int .i64 a1_2, .int .i64 a1_3, .int .i64 a1_4, .int .i64 a1_5], .agg #[.bool false, .int .i64 a2_1, .int .i64 a2_2, .int .i64 a2_3, .bool a2_4, .int .i64 a2_5, .int .i64 a2_6, .int .i64 a2_7], .agg #[.int .i64 t180, .int .u64 t181]] (by rfl) rfl rfl (by (try simp only [List.map_toArray, List.map_cons, List.map_nil]); first | done | rfl | (simp only [List.length_drop, List.length_take]; rfl)) ?_
                      with_reducible refine (option_Of.calls k a0 a1_0 a1_1 a1_2 a1_3 a1_4 a1_5 false a2_1 a2_2 a2_3 a2_4 a2_5 a2_6 a2_7 t180 t181 t182 t183 t184 false _ A13.out).mono ?_
                      rintro e w163 ⟨rfl, hb⟩
                      refine ⟨_, rfl, ?_⟩
                      have n0_ := bb BK169 hb
                      have n1_ := bb BK170 hb
                      have n2_ := bb BK171 hb
                      have n3_ := bb BK179 hb
                      have n4_ := bb BK186 hb
                      have n5_ := bs HB hb
                      clear BK169
                      clear BK170
                      clear BK171
                      clear BK179
                      clear BK186
                      clear HB
                      have BK169 := n0_
                      have BK170 := n1_
                      have BK171 := n2_
                      have BK179 := n3_
                      have BK186 := n4_
                      have HB := n5_
                      clear n0_ n1_ n2_ n3_ n4_ n5_
                      (try clear hb)
                      (try clear hb2)
                      (try clear hk)
                      (try clear hi)
                      refine hK.out _ _ ⟨(blk_cell BK169.out 0).trans rfl, (blk_cell BK169.out 1).trans rfl, (blk_cell BK169.out 2).trans rfl, (blk_cell BK169.out 3).trans rfl, (blk_cell BK169.out 4).trans rfl, (blk_cell BK169.out 5).trans rfl, (blk_cell BK170.out 0).trans rfl, (blk_cell BK170.out 1).trans rfl, (blk_cell BK170.out 2).trans rfl, (blk_cell BK170.out 3).trans rfl, (blk_cell BK170.out 4).trans rfl, (blk_cell BK170.out 5).trans rfl, (blk_cell BK170.out 6).trans rfl, (blk_cell BK170.out 7).trans rfl, (blk_cell BK171.out 0).trans rfl, (blk_cell BK171.out 1).trans rfl⟩ (fun hHeld => ?_)
                      clear hK K
                      refine norm_ (a' := ?_) ?_ ?_
                      rotate_left
                      · show Act.put _ (some 43) _ = _
                        simp only [Act.put, List.setIfInBounds_toArray, List.set_cons_zero, List.set_cons_succ, i64_w, i32_w]
                        rfl
                      refine pure_ (i := 6) (N := some 37) (v := ?_) (a' := ?_) #[true, true, true, true, true, true, true, false, false, true, false, false] rfl rfl (any_of HT_.out (by kernel_rfl)) (fun _ _ _ h => h) (Or.inl ⟨by rfl, ?_⟩) ?_ ?_
                      rotate_left; focus (intro w'; go_simp; with_reducible rfl)
                      rotate_left; focus (simp only [Act.put, List.setIfInBounds_toArray, List.set_cons_zero, List.set_cons_succ, i64_w, i32_w]; rfl)
                      refine pure_ (i := 7) (N := some 44) (v := ?_) (a' := ?_) #[true, true, true, true, true, true, true, true, false, true, false, false] rfl rfl (any_of HT_.out (by kernel_rfl)) (fun _ _ _ h => h) (Or.inl ⟨by rfl, ?_⟩) ?_ ?_
                      rotate_left; focus (intro w'; go_simp; with_reducible rfl)
                      rotate_left; focus (simp only [Act.put, List.setIfInBounds_toArray, List.set_cons_zero, List.set_cons_succ, i64_w, i32_w]; rfl)
                      refine pure_ (i := 8) (N := some 45) (v := ?_) (a' := ?_) #[true, true, true, true, true, true, true, true, true, true, false, false] rfl rfl (any_of HT_.out (by kernel_rfl)) (fun _ _ _ h => h) (Or.inl ⟨by rfl, ?_⟩) ?_ ?_
                      rotate_left; focus (intro w'; go_simp; with_reducible rfl)
                      rotate_left; focus (simp only [Act.put, List.setIfInBounds_toArray, List.set_cons_zero, List.set_cons_succ, i64_w, i32_w]; rfl)
                      exact norm_ (by simp only [putAll, Act.put, List.setIfInBounds_toArray, List.set_cons_zero, List.set_cons_succ]) (hCont (gb186) _ ⟨hHeld, (by (with_reducible repeat (first | refine bN ?_ _ | refine bD ?_ | refine bA ?_ _)); exact BK169.out), (by (with_reducible repeat (first | refine bN ?_ _ | refine bD ?_ | refine bA ?_ _)); exact BK170.out), (by (with_reducible repeat (first | refine bN ?_ _ | refine bD ?_ | refine bA ?_ _)); exact BK171.out), (by (with_reducible repeat (first | refine bN ?_ _ | refine bD ?_ | refine bA ?_ _)); exact BK179.out), (by (with_reducible repeat (first | refine bN ?_ _ | refine bD ?_ | refine bA ?_ _)); exact BK186.out), GW186.out, GE186.out, NB169_186.out, NB186_169.out, NB170_186.out, NB186_170.out, NB171_186.out, NB186_171.out, NB179_186.out, NB186_179.out, (by repeat (first | (with_reducible first | exact HB.out | apply below_alloc | apply pw_below_drewN | apply below_drew1 | refine below_set ?_ GE169.out | refine below_set ?_ GE170.out | refine below_set ?_ GE171.out | refine below_set ?_ GE179.out | refine below_set ?_ GE186.out) | exact HB.out))⟩)
                  · skip
                    refine box_step ?hg (N := 12) ?hd (cs := #[.int .i64 0, .int .i64 0, .int .i64 0]) (t := 23) ?hr ?_; (case hd => rfl); (case hg => rfl); (case hr => first | (go_simp; done) | (go_simp; rfl))
                    intro gb186 hg w161 hbox hb
                    have n0_ := bb BK169 hb
                    have n1_ := bb BK170 hb
                    have n2_ := bb BK171 hb
                    have n3_ := bb BK179 hb
                    have n4_ := bs HB hb
                    have n5_ := Aside0.mk (hbox)
                    have n6_ := bz HB hg
                    have n7_ := bz HB hg
                    have n8_ := bl BK169 hg
                    have n9_ := bg BK169 hg
                    have n10_ := bl BK170 hg
                    have n11_ := bg BK170 hg
                    have n12_ := bl BK171 hg
                    have n13_ := bg BK171 hg
                    have n14_ := bl BK179 hg
                    have n15_ := bg BK179 hg
                    clear BK169
                    clear BK170
                    clear BK171
                    clear BK179
                    clear HB
                    have BK169 := n0_
                    have BK170 := n1_
                    have BK171 := n2_
                    have BK179 := n3_
                    have HB := n4_
                    have BK186 := n5_
                    have GW186 := n6_
                    have GE186 := n7_
                    have NB169_186 := n8_
                    have NB186_169 := n9_
                    have NB170_186 := n10_
                    have NB186_170 := n11_
                    have NB171_186 := n12_
                    have NB186_171 := n13_
                    have NB179_186 := n14_
                    have NB186_179 := n15_
                    clear n0_ n1_ n2_ n3_ n4_ n5_ n6_ n7_ n8_ n9_ n10_ n11_ n12_ n13_ n14_ n15_
                    clear hb hbox hg
                    refine hK.out _ _ ⟨(blk_cell BK169.out 0).trans rfl, (blk_cell BK169.out 1).trans rfl, (blk_cell BK169.out 2).trans rfl, (blk_cell BK169.out 3).trans rfl, (blk_cell BK169.out 4).trans rfl, (blk_cell BK169.out 5).trans rfl, (blk_cell BK170.out 0).trans rfl, (blk_cell BK170.out 1).trans rfl, (blk_cell BK170.out 2).trans rfl, (blk_cell BK170.out 3).trans rfl, (blk_cell BK170.out 4).trans rfl, (blk_cell BK170.out 5).trans rfl, (blk_cell BK170.out 6).trans rfl, (blk_cell BK170.out 7).trans rfl, (blk_cell BK171.out 0).trans rfl, (blk_cell BK171.out 1).trans rfl⟩ (fun hHeld => ?_)
                    clear hK K
                    refine norm_ (a' := ?_) ?_ ?_
                    rotate_left
                    · show Act.put _ (some 12) _ = _
                      simp only [Act.put, List.setIfInBounds_toArray, List.set_cons_zero, List.set_cons_succ, i64_w, i32_w]
                      rfl
                    refine one_ (i := 4) (N := some 42) #[true, true, true, true, true, false, false, false, false, true, false, false] rfl rfl (one_of HT_.out (by kernel_rfl)) (by decide) (fun K hK => ?_)
                    refine goes_ Try.func13 (by kernel_rfl) rfl #[.agg #[.int .i64 a3_0, .int .u64 a3_1], .bool true] (by rfl) rfl rfl (by (try simp only [List.map_toArray, List.map_cons, List.map_nil]); first | done | rfl | (simp only [List.length_drop, List.length_take]; rfl)) ?_
                    with_reducible refine (ring_Put.calls a3_0 a3_1 true t180 t181 _ A12.out).mono ?_
                    rintro e w162 ⟨rfl, hb⟩
                    refine ⟨_, rfl, ?_⟩
                    have n0_ := bb BK169 hb
                    have n1_ := bb BK170 hb
                    have n2_ := bb BK171 hb
                    have n3_ := bb BK179 hb
                    have n4_ := bb BK186 hb
                    have n5_ := bs HB hb
                    clear BK169
                    clear BK170
                    clear BK171
                    clear BK179
                    clear BK186
                    clear HB
                    have BK169 := n0_
                    have BK170 := n1_
                    have BK171 := n2_
                    have BK179 := n3_
                    have BK186 := n4_
                    have HB := n5_
                    clear n0_ n1_ n2_ n3_ n4_ n5_
                    (try clear hb)
                    (try clear hb2)
                    (try clear hk)
                    (try clear hi)
                    refine hK.out _ _ ⟨(blk_cell BK169.out 0).trans rfl, (blk_cell BK169.out 1).trans rfl, (blk_cell BK169.out 2).trans rfl, (blk_cell BK169.out 3).trans rfl, (blk_cell BK169.out 4).trans rfl, (blk_cell BK169.out 5).trans rfl, (blk_cell BK170.out 0).trans rfl, (blk_cell BK170.out 1).trans rfl, (blk_cell BK170.out 2).trans rfl, (blk_cell BK170.out 3).trans rfl, (blk_cell BK170.out 4).trans rfl, (blk_cell BK170.out 5).trans rfl, (blk_cell BK170.out 6).trans rfl, (blk_cell BK170.out 7).trans rfl, (blk_cell BK171.out 0).trans rfl, (blk_cell BK171.out 1).trans rfl⟩ (fun hHeld => ?_)
                    clear hK K
                    refine norm_ (a' := ?_) ?_ ?_
                    rotate_left
                    · show Act.put _ (some 42) _ = _
                      simp only [Act.put, List.setIfInBounds_toArray, List.set_cons_zero, List.set_cons_succ, i64_w, i32_w]
                      rfl
                    refine one_ (i := 5) (N := some 43) #[true, true, true, true, true, true, false, false, false, true, false, false] rfl rfl (one_of HT_.out (by kernel_rfl)) (by decide) (fun K hK => ?_)
                    refine goes_ Try.func12 (by kernel_rfl) rfl #[.int .i64 a0, .agg #[.int .i64 a1_0, .int .i64 a1_1, .int .i64 a1_2, .int .i64 a1_3, .int .i64 a1_4, .int .i64 a1_5], .agg #[.bool false, .int .i64 a2_1, .int .i64 a2_2, .int .i64 a2_3, .bool a2_4, .int .i64 a2_5, .int .i64 a2_6, .int .i64 a2_7], .agg #[.int .i64 t180, .int .u64 t181]] (by rfl) rfl rfl (by (try simp only [List.map_toArray, List.map_cons, List.map_nil]); first | done | rfl | (simp only [List.length_drop, List.length_take]; rfl)) ?_
                    with_reducible refine (option_Of.calls k a0 a1_0 a1_1 a1_2 a1_3 a1_4 a1_5 false a2_1 a2_2 a2_3 a2_4 a2_5 a2_6 a2_7 t180 t181 t182 t183 t184 false _ A13.out).mono ?_
                    rintro e w163 ⟨rfl, hb⟩
                    refine ⟨_, rfl, ?_⟩
                    have n0_ := bb BK169 hb
                    have n1_ := bb BK170 hb
                    have n2_ := bb BK171 hb
                    have n3_ := bb BK179 hb
                    have n4_ := bb BK186 hb
                    have n5_ := bs HB hb
                    clear BK169
                    clear BK170
                    clear BK171
                    clear BK179
                    clear BK186
                    clear HB
                    have BK169 := n0_
                    have BK170 := n1_
                    have BK171 := n2_
                    have BK179 := n3_
                    have BK186 := n4_
                    have HB := n5_
                    clear n0_ n1_ n2_ n3_ n4_ n5_
                    (try clear hb)
                    (try clear hb2)
                    (try clear hk)
                    (try clear hi)
                    refine hK.out _ _ ⟨(blk_cell BK169.out 0).trans rfl, (blk_cell BK169.out 1).trans rfl, (blk_cell BK169.out 2).trans rfl, (blk_cell BK169.out 3).trans rfl, (blk_cell BK169.out 4).trans rfl, (blk_cell BK169.out 5).trans rfl, (blk_cell BK170.out 0).trans rfl, (blk_cell BK170.out 1).trans rfl, (blk_cell BK170.out 2).trans rfl, (blk_cell BK170.out 3).trans rfl, (blk_cell BK170.out 4).trans rfl, (blk_cell BK170.out 5).trans rfl, (blk_cell BK170.out 6).trans rfl, (blk_cell BK170.out 7).trans rfl, (blk_cell BK171.out 0).trans rfl, (blk_cell BK171.out 1).trans rfl⟩ (fun hHeld => ?_)
                    clear hK K
                    refine norm_ (a' := ?_) ?_ ?_
                    rotate_left
                    · show Act.put _ (some 43) _ = _
                      simp only [Act.put, List.setIfInBounds_toArray, List.set_cons_zero, List.set_cons_succ, i64_w, i32_w]
                      rfl
                    refine pure_ (i := 6) (N := some 37) (v := ?_) (a' := ?_) #[true, true, true, true, true, true, true, false, false, true, false, false] rfl rfl (any_of HT_.out (by kernel_rfl)) (fun _ _ _ h => h) (Or.inl ⟨by rfl, ?_⟩) ?_ ?_
                    rotate_left; focus (intro w'; go_simp; with_reducible rfl)
                    rotate_left; focus (simp only [Act.put, List.setIfInBounds_toArray, List.set_cons_zero, List.set_cons_succ, i64_w, i32_w]; rfl)
                    refine pure_ (i := 7) (N := some 44) (v := ?_) (a' := ?_) #[true, true, true, true, true, true, true, true, false, true, false, false] rfl rfl (any_of HT_.out (by kernel_rfl)) (fun _ _ _ h => h) (Or.inl ⟨by rfl, ?_⟩) ?_ ?_
                    rotate_left; focus (intro w'; go_simp; with_reducible rfl)
                    rotate_left; focus (simp only [Act.put, List.setIfInBounds_toArray, List.set_cons_zero, List.set_cons_succ, i64_w, i32_w]; rfl)
                    refine pure_ (i := 8) (N := some 45) (v := ?_) (a' := ?_) #[true, true, true, true, true, true, true, true, true, true, false, false] rfl rfl (any_of HT_.out (by kernel_rfl)) (fun _ _ _ h => h) (Or.inl ⟨by rfl, ?_⟩) ?_ ?_
                    rotate_left; focus (intro w'; go_simp; with_reducible rfl)
                    rotate_left; focus (simp only [Act.put, List.setIfInBounds_toArray, List.set_cons_zero, List.set_cons_succ, i64_w, i32_w]; rfl)
                    exact norm_ (by simp only [putAll, Act.put, List.setIfInBounds_toArray, List.set_cons_zero, List.set_cons_succ]) (hCont (gb186) _ ⟨hHeld, (by (with_reducible repeat (first | refine bN ?_ _ | refine bD ?_ | refine bA ?_ _)); exact BK169.out), (by (with_reducible repeat (first | refine bN ?_ _ | refine bD ?_ | refine bA ?_ _)); exact BK170.out), (by (with_reducible repeat (first | refine bN ?_ _ | refine bD ?_ | refine bA ?_ _)); exact BK171.out), (by (with_reducible repeat (first | refine bN ?_ _ | refine bD ?_ | refine bA ?_ _)); exact BK179.out), (by (with_reducible repeat (first | refine bN ?_ _ | refine bD ?_ | refine bA ?_ _)); exact BK186.out), GW186.out, GE186.out, NB169_186.out, NB186_169.out, NB170_186.out, NB186_170.out, NB171_186.out, NB186_171.out, NB179_186.out, NB186_179.out, (by repeat (first | (with_reducible first | exact HB.out | apply below_alloc | apply pw_below_drewN | apply below_drew1 | refine below_set ?_ GE169.out | refine below_set ?_ GE170.out | refine below_set ?_ GE171.out | refine below_set ?_ GE179.out | refine below_set ?_ GE186.out) | exact HB.out))⟩)
                rintro gb186 w164 ⟨hS_, h0_, h1_, h2_, h3_, h4_, h5_, h6_, h7_, h8_, h9_, h10_, h11_, h12_, h13_, h14_, h15_⟩
                have n0_ : Aside0 (w164.heap[gb169]? = some (.cells #[.int .i64 a1_0, .int .i64 a1_1, .int .i64 a1_2, .int .i64 a1_3, .int .i64 a1_4, .int .i64 a1_5] 28 (0, 0))) := ⟨h0_⟩
                have n1_ : Aside0 (w164.heap[gb170]? = some (.cells #[.bool false, .int .i64 a2_1, .int .i64 a2_2, .int .i64 a2_3, .bool a2_4, .int .i64 a2_5, .int .i64 a2_6, .int .i64 a2_7] 30 (0, 0))) := ⟨h1_⟩
                have n2_ : Aside0 (w164.heap[gb171]? = some (.cells #[.int .i64 a3_0, .int .u64 a3_1] 33 (0, 0))) := ⟨h2_⟩
                have n3_ : Aside0 (w164.heap[gb179]? = some (.cells #[.int .i64 t175, .int .i64 t176, .int .i64 t177] 23 (0, 0))) := ⟨h3_⟩
                have n4_ : Aside0 (w164.heap[gb186]? = some (.cells #[.int .i64 0, .int .i64 0, .int .i64 0] 23 (0, 0))) := ⟨h4_⟩
                have n5_ : Aside0 (w.heap.size ≤ gb186) := ⟨h5_⟩
                have n6_ : Aside0 (w.heap.size ≤ gb186) := ⟨h6_⟩
                have n7_ : Aside0 (gb169 ≠ gb186) := ⟨h7_⟩
                have n8_ : Aside0 (gb186 ≠ gb169) := ⟨h8_⟩
                have n9_ : Aside0 (gb170 ≠ gb186) := ⟨h9_⟩
                have n10_ : Aside0 (gb186 ≠ gb170) := ⟨h10_⟩
                have n11_ : Aside0 (gb171 ≠ gb186) := ⟨h11_⟩
                have n12_ : Aside0 (gb186 ≠ gb171) := ⟨h12_⟩
                have n13_ : Aside0 (gb179 ≠ gb186) := ⟨h13_⟩
                have n14_ : Aside0 (gb186 ≠ gb179) := ⟨h14_⟩
                have n15_ : Aside0 (Below w.heap.size w w164) := ⟨h15_⟩
                clear BK169
                clear BK170
                clear BK171
                clear BK179
                clear HB
                clear h0_ h1_ h2_ h3_ h4_ h5_ h6_ h7_ h8_ h9_ h10_ h11_ h12_ h13_ h14_ h15_
                have BK169 := n0_
                have BK170 := n1_
                have BK171 := n2_
                have BK179 := n3_
                have BK186 := n4_
                have GW186 := n5_
                have GE186 := n6_
                have NB169_186 := n7_
                have NB186_169 := n8_
                have NB170_186 := n9_
                have NB186_170 := n10_
                have NB171_186 := n11_
                have NB186_171 := n12_
                have NB179_186 := n13_
                have NB186_179 := n14_
                have HB := n15_
                clear n0_ n1_ n2_ n3_ n4_ n5_ n6_ n7_ n8_ n9_ n10_ n11_ n12_ n13_ n14_ n15_
                have hHeld : w164.cell? ⟨gb169, 0, none⟩ = some (.int .i64 a1_0) ∧ w164.cell? ⟨gb169, 1, none⟩ = some (.int .i64 a1_1) ∧ w164.cell? ⟨gb169, 2, none⟩ = some (.int .i64 a1_2) ∧ w164.cell? ⟨gb169, 3, none⟩ = some (.int .i64 a1_3) ∧ w164.cell? ⟨gb169, 4, none⟩ = some (.int .i64 a1_4) ∧ w164.cell? ⟨gb169, 5, none⟩ = some (.int .i64 a1_5) ∧ w164.cell? ⟨gb170, 0, none⟩ = some (.bool false) ∧ w164.cell? ⟨gb170, 1, none⟩ = some (.int .i64 a2_1) ∧ w164.cell? ⟨gb170, 2, none⟩ = some (.int .i64 a2_2) ∧ w164.cell? ⟨gb170, 3, none⟩ = some (.int .i64 a2_3) ∧ w164.cell? ⟨gb170, 4, none⟩ = some (.bool a2_4) ∧ w164.cell? ⟨gb170, 5, none⟩ = some (.int .i64 a2_5) ∧ w164.cell? ⟨gb170, 6, none⟩ = some (.int .i64 a2_6) ∧ w164.cell? ⟨gb170, 7, none⟩ = some (.int .i64 a2_7) ∧ w164.cell? ⟨gb171, 0, none⟩ = some (.int .i64 a3_0) ∧ w164.cell? ⟨gb171, 1, none⟩ = some (.int .u64 a3_1) := hS_
                refine norm_ (a' := ?_) ?_ ?_
                rotate_left
                · simp only [putAll, Act.put, List.setIfInBounds_toArray, List.set_cons_zero, List.set_cons_succ]
                  rfl
                refine one_ (i := 10) (N := none) #[true, true, true, true, true, true, true, true, true, true, true, false] rfl rfl (one_of HT_.out (by kernel_rfl)) (by decide) (fun K hK => ?_)
                have hs165 : w164.cell? ⟨gb186, 0, none⟩ = some (.int .i64 0) := (blk_cell BK186.out 0).trans rfl
                have hfs165 := blk_frozen BK186.out 0
                have hns165_0 := NB169_186.out
                have hns165_1 := NB170_186.out
                have hns165_2 := NB171_186.out
                have hns165_3 := NB179_186.out
                have hms165_0 := NB186_169.out
                have hms165_1 := NB186_170.out
                have hms165_2 := NB186_171.out
                have hms165_3 := NB186_179.out
                have hs166 : w164.cell? ⟨gb186, 1, none⟩ = some (.int .i64 0) := (blk_cell BK186.out 1).trans rfl
                have hfs166 := blk_frozen BK186.out 1
                have hns166_0 := NB169_186.out
                have hns166_1 := NB170_186.out
                have hns166_2 := NB171_186.out
                have hns166_3 := NB179_186.out
                have hms166_0 := NB186_169.out
                have hms166_1 := NB186_170.out
                have hms166_2 := NB186_171.out
                have hms166_3 := NB186_179.out
                have hs167 : w164.cell? ⟨gb186, 2, none⟩ = some (.int .i64 0) := (blk_cell BK186.out 2).trans rfl
                have hfs167 := blk_frozen BK186.out 2
                have hns167_0 := NB169_186.out
                have hns167_1 := NB170_186.out
                have hns167_2 := NB171_186.out
                have hns167_3 := NB179_186.out
                have hms167_0 := NB186_169.out
                have hms167_1 := NB186_170.out
                have hms167_2 := NB186_171.out
                have hms167_3 := NB186_179.out
                refine skip_ (w1 := ?_) (by rfl) rfl ?_ ?_
                rotate_left
                · go_simp
                  rfl
                refine hK.out _ _ ⟨((cell_far (p := ⟨gb186, _, none⟩) NB169_186.out _).trans (((cell_far (p := ⟨gb186, _, none⟩) NB169_186.out _).trans (((cell_far (p := ⟨gb186, _, none⟩) NB169_186.out _).trans (hHeld.1)))))), ((cell_far (p := ⟨gb186, _, none⟩) NB169_186.out _).trans (((cell_far (p := ⟨gb186, _, none⟩) NB169_186.out _).trans (((cell_far (p := ⟨gb186, _, none⟩) NB169_186.out _).trans (hHeld.2.1)))))), ((cell_far (p := ⟨gb186, _, none⟩) NB169_186.out _).trans (((cell_far (p := ⟨gb186, _, none⟩) NB169_186.out _).trans (((cell_far (p := ⟨gb186, _, none⟩) NB169_186.out _).trans (hHeld.2.2.1)))))), ((cell_far (p := ⟨gb186, _, none⟩) NB169_186.out _).trans (((cell_far (p := ⟨gb186, _, none⟩) NB169_186.out _).trans (((cell_far (p := ⟨gb186, _, none⟩) NB169_186.out _).trans (hHeld.2.2.2.1)))))), ((cell_far (p := ⟨gb186, _, none⟩) NB169_186.out _).trans (((cell_far (p := ⟨gb186, _, none⟩) NB169_186.out _).trans (((cell_far (p := ⟨gb186, _, none⟩) NB169_186.out _).trans (hHeld.2.2.2.2.1)))))), ((cell_far (p := ⟨gb186, _, none⟩) NB169_186.out _).trans (((cell_far (p := ⟨gb186, _, none⟩) NB169_186.out _).trans (((cell_far (p := ⟨gb186, _, none⟩) NB169_186.out _).trans (hHeld.2.2.2.2.2.1)))))), ((cell_far (p := ⟨gb186, _, none⟩) NB170_186.out _).trans (((cell_far (p := ⟨gb186, _, none⟩) NB170_186.out _).trans (((cell_far (p := ⟨gb186, _, none⟩) NB170_186.out _).trans (hHeld.2.2.2.2.2.2.1)))))), ((cell_far (p := ⟨gb186, _, none⟩) NB170_186.out _).trans (((cell_far (p := ⟨gb186, _, none⟩) NB170_186.out _).trans (((cell_far (p := ⟨gb186, _, none⟩) NB170_186.out _).trans (hHeld.2.2.2.2.2.2.2.1)))))), ((cell_far (p := ⟨gb186, _, none⟩) NB170_186.out _).trans (((cell_far (p := ⟨gb186, _, none⟩) NB170_186.out _).trans (((cell_far (p := ⟨gb186, _, none⟩) NB170_186.out _).trans (hHeld.2.2.2.2.2.2.2.2.1)))))), ((cell_far (p := ⟨gb186, _, none⟩) NB170_186.out _).trans (((cell_far (p := ⟨gb186, _, none⟩) NB170_186.out _).trans (((cell_far (p := ⟨gb186, _, none⟩) NB170_186.out _).trans (hHeld.2.2.2.2.2.2.2.2.2.1)))))), ((cell_far (p := ⟨gb186, _, none⟩) NB170_186.out _).trans (((cell_far (p := ⟨gb186, _, none⟩) NB170_186.out _).trans (((cell_far (p := ⟨gb186, _, none⟩) NB170_186.out _).trans (hHeld.2.2.2.2.2.2.2.2.2.2.1)))))), ((cell_far (p := ⟨gb186, _, none⟩) NB170_186.out _).trans (((cell_far (p := ⟨gb186, _, none⟩) NB170_186.out _).trans (((cell_far (p := ⟨gb186, _, none⟩) NB170_186.out _).trans (hHeld.2.2.2.2.2.2.2.2.2.2.2.1)))))), ((cell_far (p := ⟨gb186, _, none⟩) NB170_186.out _).trans (((cell_far (p := ⟨gb186, _, none⟩) NB170_186.out _).trans (((cell_far (p := ⟨gb186, _, none⟩) NB170_186.out _).trans (hHeld.2.2.2.2.2.2.2.2.2.2.2.2.1)))))), ((cell_far (p := ⟨gb186, _, none⟩) NB170_186.out _).trans (((cell_far (p := ⟨gb186, _, none⟩) NB170_186.out _).trans (((cell_far (p := ⟨gb186, _, none⟩) NB170_186.out _).trans (hHeld.2.2.2.2.2.2.2.2.2.2.2.2.2.1)))))), ((cell_far (p := ⟨gb186, _, none⟩) NB171_186.out _).trans (((cell_far (p := ⟨gb186, _, none⟩) NB171_186.out _).trans (((cell_far (p := ⟨gb186, _, none⟩) NB171_186.out _).trans (hHeld.2.2.2.2.2.2.2.2.2.2.2.2.2.2.1)))))), ((cell_far (p := ⟨gb186, _, none⟩) NB171_186.out _).trans (((cell_far (p := ⟨gb186, _, none⟩) NB171_186.out _).trans (((cell_far (p := ⟨gb186, _, none⟩) NB171_186.out _).trans (hHeld.2.2.2.2.2.2.2.2.2.2.2.2.2.2.2))))))⟩ (fun hHeld => ?_)
                clear hK K
                refine pure_ (i := 11) (N := some 13) (v := ?_) (a' := ?_) #[true, true, true, true, true, true, true, true, true, true, true, true] rfl rfl (any_of HT_.out (by kernel_rfl)) (fun _ _ _ h => h) (Or.inl ⟨by rfl, ?_⟩) ?_ ?_
                rotate_left; focus (intro w'; go_simp; with_reducible rfl)
                rotate_left; focus (simp only [Act.put, List.setIfInBounds_toArray, List.set_cons_zero, List.set_cons_succ, i64_w, i32_w]; rfl)
                refine done_ (done_of HT_.out (by kernel_rfl)) ?_
                have hnb168 := NB170_186.out
                have hnc168 := NB186_170.out
                obtain ⟨hcz169_0, hcz169_1, hcz169_2, hcz169_3, hcz169_4, hcz169_5, hcz169_6, hcz169_7⟩ := cc8 BK170
                obtain ⟨hfz169_0, hfz169_1, hfz169_2, hfz169_3, hfz169_4, hfz169_5, hfz169_6, hfz169_7⟩ := cf8 BK170
                try go_wp2
                go_ret
                exact ⟨by first | rfl | (simp [errW_none, errW_some] <;> rfl) | (simp [*, errW_none, errW_some] <;> rfl) | (exfalso; first | contradiction | (revert c14b0 c93b0; simp +contextual; done)), by repeat (first | (with_reducible first | exact HB.out | apply below_alloc | apply pw_below_drewN | apply below_drew1 | refine below_set ?_ GE169.out | refine below_set ?_ GE170.out | refine below_set ?_ GE171.out | refine below_set ?_ GE179.out | refine below_set ?_ GE186.out) | exact HB.out)⟩
      · replace c10 := Bool.eq_false_iff.mpr c10
        subst c10
        rw [if_neg (show ¬ (false = true) by decide)] at H
        obtain rfl := Option.some.inj H
        go_enter Try.func4, Try.ntmps4
        go_wp2_with (first | ((with_reducible refine gate_dst (N := 5) rfl ?_); refine box_event ?hg (N := 5) ?hd (cs := #[.int .i64 a1_0, .int .i64 a1_1, .int .i64 a1_2, .int .i64 a1_3, .int .i64 a1_4, .int .i64 a1_5]) (t := 28) ?hr ?_; (case hd => rfl); (case hg => rfl); (case hr => first | (go_simp; done) | (go_simp; rfl)); intro gb169 hg w170 hbox hb; have n0_ := bs HB hb; have n1_ := Aside0.mk (hbox); have n2_ := bz HB hg; have n3_ := bz HB hg; clear HB; have HB := n0_; have BK169 := n1_; have GW169 := n2_; have GE169 := n3_; clear n0_ n1_ n2_ n3_; clear hb hbox hg) | ((with_reducible refine gate_dst (N := 6) rfl ?_); refine box_event ?hg (N := 6) ?hd (cs := #[.bool a2_0, .int .i64 a2_1, .int .i64 a2_2, .int .i64 a2_3, .bool a2_4, .int .i64 a2_5, .int .i64 a2_6, .int .i64 a2_7]) (t := 30) ?hr ?_; (case hd => rfl); (case hg => rfl); (case hr => first | (go_simp; done) | (go_simp; rfl)); intro gb170 hg w171 hbox hb; have n0_ := bb BK169 hb; have n1_ := bs HB hb; have n2_ := Aside0.mk (hbox); have n3_ := bz HB hg; have n4_ := bz HB hg; have n5_ := bl BK169 hg; have n6_ := bg BK169 hg; clear BK169; clear HB; have BK169 := n0_; have HB := n1_; have BK170 := n2_; have GW170 := n3_; have GE170 := n4_; have NB169_170 := n5_; have NB170_169 := n6_; clear n0_ n1_ n2_ n3_ n4_ n5_ n6_; clear hb hbox hg) | ((with_reducible refine gate_dst (N := 7) rfl ?_); refine box_event ?hg (N := 7) ?hd (cs := #[.int .i64 a3_0, .int .u64 a3_1]) (t := 33) ?hr ?_; (case hd => rfl); (case hg => rfl); (case hr => first | (go_simp; done) | (go_simp; rfl)); intro gb171 hg w172 hbox hb; have n0_ := bb BK169 hb; have n1_ := bb BK170 hb; have n2_ := bs HB hb; have n3_ := Aside0.mk (hbox); have n4_ := bz HB hg; have n5_ := bz HB hg; have n6_ := bl BK169 hg; have n7_ := bg BK169 hg; have n8_ := bl BK170 hg; have n9_ := bg BK170 hg; clear BK169; clear BK170; clear HB; have BK169 := n0_; have BK170 := n1_; have HB := n2_; have BK171 := n3_; have GW171 := n4_; have GE171 := n5_; have NB169_171 := n6_; have NB171_169 := n7_; have NB170_171 := n8_; have NB171_170 := n9_; clear n0_ n1_ n2_ n3_ n4_ n5_ n6_ n7_ n8_ n9_; clear hb hbox hg) | ((with_reducible refine gate_callee (f := 8) rfl ?_); refine goesL_ (some 14) rfl rfl Try.func8 (by kernel_rfl) rfl #[] rfl (by (try simp only [List.map_toArray, List.map_cons, List.map_nil]); first | done | rfl | (simp only [List.length_drop, List.length_take]; rfl)) ?_; (with_reducible refine (fuseelaw14_awake.calls k  true _ A5.out).mono ?_); rintro e w173 ⟨rfl, hb⟩; refine ⟨_, rfl, ?_⟩; have n0_ := bb BK169 hb; have n1_ := bb BK170 hb; have n2_ := bb BK171 hb; have n3_ := bs HB hb; clear BK169; clear BK170; clear BK171; clear HB; have BK169 := n0_; have BK170 := n1_; have BK171 := n2_; have HB := n3_; clear n0_ n1_ n2_ n3_; (try clear hb); (try clear hb2); (try clear hk); (try clear hi); have hnb174 := NB169_170.out; have hnc174 := NB170_169.out; have hnb175 := NB169_171.out; have hnc175 := NB171_169.out; obtain ⟨hcz176_0, hcz176_1, hcz176_2, hcz176_3, hcz176_4, hcz176_5⟩ := cc6 BK169; obtain ⟨hfz176_0, hfz176_1, hfz176_2, hfz176_3, hfz176_4, hfz176_5⟩ := cf6 BK169; have hnb177 := NB170_171.out; have hnc177 := NB171_170.out; obtain ⟨hcz178_0, hcz178_1, hcz178_2, hcz178_3, hcz178_4, hcz178_5, hcz178_6, hcz178_7⟩ := cc8 BK170; obtain ⟨hfz178_0, hfz178_1, hfz178_2, hfz178_3, hfz178_4, hfz178_5, hfz178_6, hfz178_7⟩ := cf8 BK170) | (go_at_call 10; (with_reducible refine (job_May.calls a1_0 a1_1 a1_2 a1_3 a1_4 a1_5 a2_0 a2_1 a2_2 a2_3 a2_4 a2_5 a2_6 a2_7 true _ A7.out).mono ?_); rintro e w179 ⟨rfl, hb⟩; have n0_ := bb BK169 hb; have n1_ := bb BK170 hb; have n2_ := bb BK171 hb; have n3_ := bs HB hb; clear BK169; clear BK170; clear BK171; clear HB; have BK169 := n0_; have BK170 := n1_; have BK171 := n2_; have HB := n3_; clear n0_ n1_ n2_ n3_; (try clear hb); (try clear hb2); (try clear hk); (try clear hi); (try clear hcz176_0 hcz176_1 hcz176_2 hcz176_3 hcz176_4 hcz176_5 hfz176_0 hfz176_1 hfz176_2 hfz176_3 hfz176_4 hfz176_5); (try clear hcz178_0 hcz178_1 hcz178_2 hcz178_3 hcz178_4 hcz178_5 hcz178_6 hcz178_7 hfz178_0 hfz178_1 hfz178_2 hfz178_3 hfz178_4 hfz178_5 hfz178_6 hfz178_7); obtain ⟨hcz180_0, hcz180_1⟩ := cc2 BK171; obtain ⟨hfz180_0, hfz180_1⟩ := cf2 BK171) | (go_at_call 11; (with_reducible refine (ring_May.calls a3_0 a3_1 false _ A9.out).mono ?_); rintro e w181 ⟨rfl, hb⟩; have n0_ := bb BK169 hb; have n1_ := bb BK170 hb; have n2_ := bb BK171 hb; have n3_ := bs HB hb; clear BK169; clear BK170; clear BK171; clear HB; have BK169 := n0_; have BK170 := n1_; have BK171 := n2_; have HB := n3_; clear n0_ n1_ n2_ n3_; (try clear hb); (try clear hb2); (try clear hk); (try clear hi)))
        go_ret
        exact ⟨by first | rfl | (simp [errW_none, errW_some] <;> rfl) | (simp [*, errW_none, errW_some] <;> rfl) | (exfalso; contradiction), by repeat (first | (with_reducible first | exact HB.out | apply below_alloc | apply pw_below_drewN | apply below_drew1 | refine below_set ?_ GE169.out | refine below_set ?_ GE170.out | refine below_set ?_ GE171.out) | exact HB.out)⟩
    · replace c8 := Bool.eq_false_iff.mpr c8
      subst c8
      rw [if_neg (show ¬ (false = true) by decide)] at H
      obtain rfl := Option.some.inj H
      go_enter Try.func4, Try.ntmps4
      go_wp2_with (first | ((with_reducible refine gate_dst (N := 5) rfl ?_); refine box_event ?hg (N := 5) ?hd (cs := #[.int .i64 a1_0, .int .i64 a1_1, .int .i64 a1_2, .int .i64 a1_3, .int .i64 a1_4, .int .i64 a1_5]) (t := 28) ?hr ?_; (case hd => rfl); (case hg => rfl); (case hr => first | (go_simp; done) | (go_simp; rfl)); intro gb169 hg w182 hbox hb; have n0_ := bs HB hb; have n1_ := Aside0.mk (hbox); have n2_ := bz HB hg; have n3_ := bz HB hg; clear HB; have HB := n0_; have BK169 := n1_; have GW169 := n2_; have GE169 := n3_; clear n0_ n1_ n2_ n3_; clear hb hbox hg) | ((with_reducible refine gate_dst (N := 6) rfl ?_); refine box_event ?hg (N := 6) ?hd (cs := #[.bool a2_0, .int .i64 a2_1, .int .i64 a2_2, .int .i64 a2_3, .bool a2_4, .int .i64 a2_5, .int .i64 a2_6, .int .i64 a2_7]) (t := 30) ?hr ?_; (case hd => rfl); (case hg => rfl); (case hr => first | (go_simp; done) | (go_simp; rfl)); intro gb170 hg w183 hbox hb; have n0_ := bb BK169 hb; have n1_ := bs HB hb; have n2_ := Aside0.mk (hbox); have n3_ := bz HB hg; have n4_ := bz HB hg; have n5_ := bl BK169 hg; have n6_ := bg BK169 hg; clear BK169; clear HB; have BK169 := n0_; have HB := n1_; have BK170 := n2_; have GW170 := n3_; have GE170 := n4_; have NB169_170 := n5_; have NB170_169 := n6_; clear n0_ n1_ n2_ n3_ n4_ n5_ n6_; clear hb hbox hg) | ((with_reducible refine gate_dst (N := 7) rfl ?_); refine box_event ?hg (N := 7) ?hd (cs := #[.int .i64 a3_0, .int .u64 a3_1]) (t := 33) ?hr ?_; (case hd => rfl); (case hg => rfl); (case hr => first | (go_simp; done) | (go_simp; rfl)); intro gb171 hg w184 hbox hb; have n0_ := bb BK169 hb; have n1_ := bb BK170 hb; have n2_ := bs HB hb; have n3_ := Aside0.mk (hbox); have n4_ := bz HB hg; have n5_ := bz HB hg; have n6_ := bl BK169 hg; have n7_ := bg BK169 hg; have n8_ := bl BK170 hg; have n9_ := bg BK170 hg; clear BK169; clear BK170; clear HB; have BK169 := n0_; have BK170 := n1_; have HB := n2_; have BK171 := n3_; have GW171 := n4_; have GE171 := n5_; have NB169_171 := n6_; have NB171_169 := n7_; have NB170_171 := n8_; have NB171_170 := n9_; clear n0_ n1_ n2_ n3_ n4_ n5_ n6_ n7_ n8_ n9_; clear hb hbox hg) | ((with_reducible refine gate_callee (f := 8) rfl ?_); refine goesL_ (some 14) rfl rfl Try.func8 (by kernel_rfl) rfl #[] rfl (by (try simp only [List.map_toArray, List.map_cons, List.map_nil]); first | done | rfl | (simp only [List.length_drop, List.length_take]; rfl)) ?_; (with_reducible refine (fuseelaw14_awake.calls k  true _ A5.out).mono ?_); rintro e w185 ⟨rfl, hb⟩; refine ⟨_, rfl, ?_⟩; have n0_ := bb BK169 hb; have n1_ := bb BK170 hb; have n2_ := bb BK171 hb; have n3_ := bs HB hb; clear BK169; clear BK170; clear BK171; clear HB; have BK169 := n0_; have BK170 := n1_; have BK171 := n2_; have HB := n3_; clear n0_ n1_ n2_ n3_; (try clear hb); (try clear hb2); (try clear hk); (try clear hi); have hnb186 := NB169_170.out; have hnc186 := NB170_169.out; have hnb187 := NB169_171.out; have hnc187 := NB171_169.out; obtain ⟨hcz188_0, hcz188_1, hcz188_2, hcz188_3, hcz188_4, hcz188_5⟩ := cc6 BK169; obtain ⟨hfz188_0, hfz188_1, hfz188_2, hfz188_3, hfz188_4, hfz188_5⟩ := cf6 BK169; have hnb189 := NB170_171.out; have hnc189 := NB171_170.out; obtain ⟨hcz190_0, hcz190_1, hcz190_2, hcz190_3, hcz190_4, hcz190_5, hcz190_6, hcz190_7⟩ := cc8 BK170; obtain ⟨hfz190_0, hfz190_1, hfz190_2, hfz190_3, hfz190_4, hfz190_5, hfz190_6, hfz190_7⟩ := cf8 BK170) | (go_at_call 10; (with_reducible refine (job_May.calls a1_0 a1_1 a1_2 a1_3 a1_4 a1_5 a2_0 a2_1 a2_2 a2_3 a2_4 a2_5 a2_6 a2_7 false _ A7.out).mono ?_); rintro e w191 ⟨rfl, hb⟩; have n0_ := bb BK169 hb; have n1_ := bb BK170 hb; have n2_ := bb BK171 hb; have n3_ := bs HB hb; clear BK169; clear BK170; clear BK171; clear HB; have BK169 := n0_; have BK170 := n1_; have BK171 := n2_; have HB := n3_; clear n0_ n1_ n2_ n3_; (try clear hb); (try clear hb2); (try clear hk); (try clear hi)))
      go_ret
      exact ⟨by first | rfl | (simp [errW_none, errW_some] <;> rfl) | (simp [*, errW_none, errW_some] <;> rfl) | (exfalso; contradiction), by repeat (first | (with_reducible first | exact HB.out | apply below_alloc | apply pw_below_drewN | apply below_drew1 | refine below_set ?_ GE169.out | refine below_set ?_ GE170.out | refine below_set ?_ GE171.out) | exact HB.out)⟩
  · replace c6 := Bool.eq_false_iff.mpr c6
    subst c6
    rw [if_neg (show ¬ (false = true) by decide)] at H
    obtain rfl := Option.some.inj H
    go_enter Try.func4, Try.ntmps4
    go_wp2_with (first | ((with_reducible refine gate_dst (N := 5) rfl ?_); refine box_event ?hg (N := 5) ?hd (cs := #[.int .i64 a1_0, .int .i64 a1_1, .int .i64 a1_2, .int .i64 a1_3, .int .i64 a1_4, .int .i64 a1_5]) (t := 28) ?hr ?_; (case hd => rfl); (case hg => rfl); (case hr => first | (go_simp; done) | (go_simp; rfl)); intro gb169 hg w192 hbox hb; have n0_ := bs HB hb; have n1_ := Aside0.mk (hbox); have n2_ := bz HB hg; have n3_ := bz HB hg; clear HB; have HB := n0_; have BK169 := n1_; have GW169 := n2_; have GE169 := n3_; clear n0_ n1_ n2_ n3_; clear hb hbox hg) | ((with_reducible refine gate_dst (N := 6) rfl ?_); refine box_event ?hg (N := 6) ?hd (cs := #[.bool a2_0, .int .i64 a2_1, .int .i64 a2_2, .int .i64 a2_3, .bool a2_4, .int .i64 a2_5, .int .i64 a2_6, .int .i64 a2_7]) (t := 30) ?hr ?_; (case hd => rfl); (case hg => rfl); (case hr => first | (go_simp; done) | (go_simp; rfl)); intro gb170 hg w193 hbox hb; have n0_ := bb BK169 hb; have n1_ := bs HB hb; have n2_ := Aside0.mk (hbox); have n3_ := bz HB hg; have n4_ := bz HB hg; have n5_ := bl BK169 hg; have n6_ := bg BK169 hg; clear BK169; clear HB; have BK169 := n0_; have HB := n1_; have BK170 := n2_; have GW170 := n3_; have GE170 := n4_; have NB169_170 := n5_; have NB170_169 := n6_; clear n0_ n1_ n2_ n3_ n4_ n5_ n6_; clear hb hbox hg) | ((with_reducible refine gate_dst (N := 7) rfl ?_); refine box_event ?hg (N := 7) ?hd (cs := #[.int .i64 a3_0, .int .u64 a3_1]) (t := 33) ?hr ?_; (case hd => rfl); (case hg => rfl); (case hr => first | (go_simp; done) | (go_simp; rfl)); intro gb171 hg w194 hbox hb; have n0_ := bb BK169 hb; have n1_ := bb BK170 hb; have n2_ := bs HB hb; have n3_ := Aside0.mk (hbox); have n4_ := bz HB hg; have n5_ := bz HB hg; have n6_ := bl BK169 hg; have n7_ := bg BK169 hg; have n8_ := bl BK170 hg; have n9_ := bg BK170 hg; clear BK169; clear BK170; clear HB; have BK169 := n0_; have BK170 := n1_; have HB := n2_; have BK171 := n3_; have GW171 := n4_; have GE171 := n5_; have NB169_171 := n6_; have NB171_169 := n7_; have NB170_171 := n8_; have NB171_170 := n9_; clear n0_ n1_ n2_ n3_ n4_ n5_ n6_ n7_ n8_ n9_; clear hb hbox hg) | ((with_reducible refine gate_callee (f := 8) rfl ?_); refine goesL_ (some 14) rfl rfl Try.func8 (by kernel_rfl) rfl #[] rfl (by (try simp only [List.map_toArray, List.map_cons, List.map_nil]); first | done | rfl | (simp only [List.length_drop, List.length_take]; rfl)) ?_; (with_reducible refine (fuseelaw14_awake.calls k  false _ A5.out).mono ?_); rintro e w195 ⟨rfl, hb⟩; refine ⟨_, rfl, ?_⟩; have n0_ := bb BK169 hb; have n1_ := bb BK170 hb; have n2_ := bb BK171 hb; have n3_ := bs HB hb; clear BK169; clear BK170; clear BK171; clear HB; have BK169 := n0_; have BK170 := n1_; have BK171 := n2_; have HB := n3_; clear n0_ n1_ n2_ n3_; (try clear hb); (try clear hb2); (try clear hk); (try clear hi)))
    go_ret
    exact ⟨by first | rfl | (simp [errW_none, errW_some] <;> rfl) | (simp [*, errW_none, errW_some] <;> rfl) | (exfalso; contradiction), by repeat (first | (with_reducible first | exact HB.out | apply below_alloc | apply pw_below_drewN | apply below_drew1 | refine below_set ?_ GE169.out | refine below_set ?_ GE170.out | refine below_set ?_ GE171.out) | exact HB.out)⟩

end Go.Proofs.Ytceldebkpjgmkaa.P
