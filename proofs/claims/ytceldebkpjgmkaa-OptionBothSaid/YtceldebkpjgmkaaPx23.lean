-- Written by a program of this session (hprint.py), out of the translation; functions that the print does not take are given by hand.
import Derived.Test.YtceldebkpjgmkaaPx0
import Derived.Test.YtceldebkpjgmkaaPx1
import Derived.Test.YtceldebkpjgmkaaPx3
import Derived.Test.YtceldebkpjgmkaaPx5
import Derived.Test.YtceldebkpjgmkaaPx6
import Derived.Test.YtceldebkpjgmkaaPx16
import Derived.Test.YtceldebkpjgmkaaPx18
namespace Go.Proofs.Ytceldebkpjgmkaa.P
open Go.RowKit Go.Proofs.YtceldebkpjgmkaaM Go.Proofs.YtceldebkpjgmkaaW.PrintWords Go.Proofs.YtceldebkpjgmkaaW.PrintLast Go.Proofs.YtceldebkpjgmkaaW.PrintMore
attribute [local go_sem] max2_int min2_int max_two min_two max_three min_three max_four min_four   -- for this text's walks alone
set_option linter.unusedVariables false
set_option linter.unusedSimpArgs false

attribute [local go_sem high] eqA23
/-! ### fuseelaw14_OptionBoth: function 7 -/
def fuseelaw14_OptionBoth.f (k : Nat) (l0 : List (S23)) (l1 : List (S23)) : Option (Bool) := (fuseelaw14_awake.f k).bind fun t314 => (if t314 = true then (if (l0.length : Int) > 60 then (some t314) else (if (l1.length : Int) > 60 then (some t314) else (if (l0.length : Int) = 0 then (some t314) else (if ([] : List (S23)).length + l0.length < 5864062014805 then ((some (([] : List (S23)) ++ l0 : List (S23))).bind fun y315 => (if y315.length + l1.length < 5864062014805 then ((some (y315 ++ l1 : List (S23))).bind fun y318 => ((option_Sort.f y318).bind fun t321 => ((option_First.f k y318).bind fun t324 => ((option_Sort.f l0).bind fun t325 => ((option_Sort.f l1).bind fun t328 => (if (t321.length : Int) = (y318.length : Int) then (if t324 < 0 then (none) else (if t324 ≥ (y318.length : Int) then (none) else (if (t325.length : Int) = (l0.length : Int) then (if (t328.length : Int) = (l1.length : Int) then (if 0 ≤ t324 then (if t324 < (y318.length : Int) then (if 0 < (t325.length : Int) then (if (((rd_T23 y318 t324).f0) == ((rd_T23 t325 0).f0) && (((rd_T23 y318 t324).f1) == ((rd_T23 t325 0).f1) && (((rd_T23 y318 t324).f2) == ((rd_T23 t325 0).f2)))) = true then ((option_Less.f ((rd_T23 t325 0).f0) ((rd_T23 t325 0).f1) ((rd_T23 t325 0).f2) ((rd_T23 y318 t324).f0) ((rd_T23 y318 t324).f1) ((rd_T23 y318 t324).f2)).bind fun t335 => (if t335 = true then (none) else (if 1 ≤ (t321.length : Int) then ((option_Sort.f (t321.drop 1)).bind fun t340 => ((fuseeref14_Same.f k t340 (t321.drop 1)).bind fun t347 => (some t347))) else (none)))) else (if (t328.length : Int) > 0 then (if 0 < (t328.length : Int) then (if (((rd_T23 y318 t324).f0) == ((rd_T23 t328 0).f0) && (((rd_T23 y318 t324).f1) == ((rd_T23 t328 0).f1) && (((rd_T23 y318 t324).f2) == ((rd_T23 t328 0).f2)))) = true then ((option_Less.f ((rd_T23 t325 0).f0) ((rd_T23 t325 0).f1) ((rd_T23 t325 0).f2) ((rd_T23 y318 t324).f0) ((rd_T23 y318 t324).f1) ((rd_T23 y318 t324).f2)).bind fun t352 => (if t352 = true then (none) else (if 1 ≤ (t321.length : Int) then ((option_Sort.f (t321.drop 1)).bind fun t357 => ((fuseeref14_Same.f k t357 (t321.drop 1)).bind fun t364 => (some t364))) else (none)))) else (none)) else (none)) else (none))) else (none)) else (none)) else (none)) else (none)) else (none)))) else (none))))))) else (none))) else (none))))) else (some t314))
theorem fuseelaw14_OptionBoth.mono : ∀ a0 a1 k, LeO (fuseelaw14_OptionBoth.f k a0 a1) (fuseelaw14_OptionBoth.f (k + 1) a0 a1) := by
  intro a0 a1 k
  unfold fuseelaw14_OptionBoth.f
  repeat' first
      | (with_reducible exact fuseelaw14_awake.mono _)
      | (with_reducible exact fuseeref14_Same.mono _ _ _)
      | (with_reducible exact option_First.mono _ _)
      | (with_reducible exact LeO.refl _)
      | (with_reducible exact LeO.none _)
      | (with_reducible refine LeO.ite ?_ ?_)
      | (with_reducible refine LeO.bind ?_ (fun _ => ?_))
      | exact fuseelaw14_awake.mono _
      | exact fuseeref14_Same.mono _ _ _
      | exact option_First.mono _ _
      | exact LeO.none _
      | refine LeO.ite ?_ ?_
      | refine LeO.bind ?_ (fun _ => ?_)
def fuseelaw14_OptionBoth.T11 : Bool × List (List Nat × List Nat) := (true, [([], []), ([], []), ([0, 1], [0, 1]), ([2], [2]), ([], []), ([4], [4]), ([5], [5]), ([3, 6], [3, 6]), ([7], [7]), ([8], [8]), ([9, 8], [8, 9]), ([10, 8], [8, 10]), ([11, 8, 8], [8, 11]), ([12], [12]), ([12], [12]), ([13, 14, 12], [12, 13, 14]), ([15, 12], [12, 15]), ([12], [12]), ([17, 12], [12, 17]), ([18, 12], [12, 18]), ([16, 19, 12], [12, 16, 19]), ([12, 20, 8], [8, 12, 20]), ([8, 21], [8, 21]), ([22, 12, 0, 1, 2, 3, 4, 5, 6, 7, 8, 9, 10, 11, 12, 13, 14, 15, 16, 17, 18, 19, 20, 21, 22], [22])])
def fuseelaw14_OptionBoth.B11 : List Nat := [0, 0, 3, 7, 0, 16, 48, 127, 255, 511, 1023, 2047, 4095, 8191, 8191, 32767, 65535, 8191, 139263, 401407, 1048575, 2097151, 4194303, 8388607]
theorem fuseelaw14_OptionBoth.tab11 : rtab .any (opsOf Try.f7 11) = fuseelaw14_OptionBoth.T11 := by kernel_rfl
theorem fuseelaw14_OptionBoth.bits11 : waitsOk fuseelaw14_OptionBoth.T11.2 fuseelaw14_OptionBoth.B11 = true := by kernel_rfl
def fuseelaw14_OptionBoth.T12 : Bool × List (List Nat × List Nat) := (true, [([], []), ([0], [0]), ([1], [1]), ([2, 1], [1, 2]), ([3, 1], [1, 3]), ([1], [1]), ([1], [1]), ([5, 6, 1], [1, 5, 6]), ([7, 1], [1, 7]), ([4, 8, 1, 1], [1, 4, 8]), ([9, 1], [1, 9]), ([1, 10], [1, 10]), ([11, 9], [11]), ([12], [12]), ([13, 12], [12, 13]), ([14, 12, 12], [12, 14]), ([12], [12]), ([16, 12], [12, 16]), ([15, 17, 15, 12], [12, 15, 17]), ([12, 18], [12, 18]), ([19, 18, 0, 1, 2, 3, 4, 5, 6, 7, 8, 9, 10, 11, 12, 13, 14, 15, 16, 17, 18, 19], [19])])
def fuseelaw14_OptionBoth.B12 : List Nat := [0, 1, 3, 7, 15, 3, 3, 99, 227, 511, 1023, 2047, 4095, 8191, 16383, 32767, 8191, 73727, 262143, 524287, 1048575]
theorem fuseelaw14_OptionBoth.tab12 : rtab .any (opsOf Try.f7 12) = fuseelaw14_OptionBoth.T12 := by kernel_rfl
theorem fuseelaw14_OptionBoth.bits12 : waitsOk fuseelaw14_OptionBoth.T12.2 fuseelaw14_OptionBoth.B12 = true := by kernel_rfl
set_option maxHeartbeats 64000000 in
set_option maxRecDepth 100000 in
theorem fuseelaw14_OptionBoth.calls (k : Nat) (A0 : Option Addr) (c0 : Nat) (l0 : List (S23)) (A1 : Option Addr) (c1 : Nat) (l1 : List (S23)) (r : Bool) (w : World) (hr0 : Kd.C k23 w A0 l0.length l0) (hc0 : l0.length ≤ c0) (hr1 : Kd.C k23 w A1 l1.length l1) (hc1 : l1.length ≤ c1) (h : fuseelaw14_OptionBoth.f k l0 l1 = some r) :
    Calls Try.prog 7 #[.slice A0 l0.length c0, .slice A1 l1.length c1] w fun e w' => e = .returned (.bool r) ∧ Below w.heap.size w w' := by
  have hu23 := Try.underlying23
  have HR0 := Aside0.mk hr0
  have HC0 := Aside0.mk hc0
  clear hr0 hc0
  have HR1 := Aside0.mk hr1
  have HC1 := Aside0.mk hc1
  clear hr1 hc1
  have HB := Aside0.mk (Below.refl w.heap.size w)
  have H : ((fuseelaw14_awake.f k).bind fun t314 => (if t314 = true then (if (l0.length : Int) > 60 then (some t314) else (if (l1.length : Int) > 60 then (some t314) else (if (l0.length : Int) = 0 then (some t314) else (if ([] : List (S23)).length + l0.length < 5864062014805 then ((some (([] : List (S23)) ++ l0 : List (S23))).bind fun y315 => (if y315.length + l1.length < 5864062014805 then ((some (y315 ++ l1 : List (S23))).bind fun y318 => ((option_Sort.f y318).bind fun t321 => ((option_First.f k y318).bind fun t324 => ((option_Sort.f l0).bind fun t325 => ((option_Sort.f l1).bind fun t328 => (if (t321.length : Int) = (y318.length : Int) then (if t324 < 0 then (none) else (if t324 ≥ (y318.length : Int) then (none) else (if (t325.length : Int) = (l0.length : Int) then (if (t328.length : Int) = (l1.length : Int) then (if 0 ≤ t324 then (if t324 < (y318.length : Int) then (if 0 < (t325.length : Int) then (if (((rd_T23 y318 t324).f0) == ((rd_T23 t325 0).f0) && (((rd_T23 y318 t324).f1) == ((rd_T23 t325 0).f1) && (((rd_T23 y318 t324).f2) == ((rd_T23 t325 0).f2)))) = true then ((option_Less.f ((rd_T23 t325 0).f0) ((rd_T23 t325 0).f1) ((rd_T23 t325 0).f2) ((rd_T23 y318 t324).f0) ((rd_T23 y318 t324).f1) ((rd_T23 y318 t324).f2)).bind fun t335 => (if t335 = true then (none) else (if 1 ≤ (t321.length : Int) then ((option_Sort.f (t321.drop 1)).bind fun t340 => ((fuseeref14_Same.f k t340 (t321.drop 1)).bind fun t347 => (some t347))) else (none)))) else (if (t328.length : Int) > 0 then (if 0 < (t328.length : Int) then (if (((rd_T23 y318 t324).f0) == ((rd_T23 t328 0).f0) && (((rd_T23 y318 t324).f1) == ((rd_T23 t328 0).f1) && (((rd_T23 y318 t324).f2) == ((rd_T23 t328 0).f2)))) = true then ((option_Less.f ((rd_T23 t325 0).f0) ((rd_T23 t325 0).f1) ((rd_T23 t325 0).f2) ((rd_T23 y318 t324).f0) ((rd_T23 y318 t324).f1) ((rd_T23 y318 t324).f2)).bind fun t352 => (if t352 = true then (none) else (if 1 ≤ (t321.length : Int) then ((option_Sort.f (t321.drop 1)).bind fun t357 => ((fuseeref14_Same.f k t357 (t321.drop 1)).bind fun t364 => (some t364))) else (none)))) else (none)) else (none)) else (none))) else (none)) else (none)) else (none)) else (none)) else (none)))) else (none))))))) else (none))) else (none))))) else (some t314))) = some r := h
  clear h
  replace H := Option.bind_eq_some_iff.mp H
  obtain ⟨t314, A30, H⟩ := H
  try dsimp only at H
  have A3 := Aside0.mk A30
  clear A30
  by_cases c4 : t314 = true
  · subst c4
    rw [if_pos rfl] at H
    by_cases c5 : (l0.length : Int) > 60
    · rw [if_pos c5] at H
      have c5b0 : decide (60 < (l0.length : Int)) = true := decide_eq_true c5
      have c5b1 : decide (60 < l0.length) = true := decide_eq_true (by omega)
      clear c5
      obtain rfl := Option.some.inj H
      go_enter Try.func7, Try.ntmps7
      go_wp2_with (first | ((with_reducible refine gate_callee (f := 8) rfl ?_); refine goesL_ (some 12) rfl rfl Try.func8 (by kernel_rfl) rfl #[] rfl (by (try simp only [List.map_toArray, List.map_cons, List.map_nil]); first | done | rfl | (simp only [List.length_drop, List.length_take]; rfl)) ?_; (with_reducible refine (fuseelaw14_awake.calls k  true _ A3.out).mono ?_); rintro e w6 ⟨rfl, hb⟩; refine ⟨_, rfl, ?_⟩; have n0_ := bs HB hb; clear HB; have HB := n0_; clear n0_; (try clear hb); (try clear hb2); (try clear hk); (try clear hi)))
      go_ret
      exact ⟨by first | rfl | (simp [errW_none, errW_some] <;> rfl) | (simp [*, errW_none, errW_some] <;> rfl) | (exfalso; contradiction), by repeat (first | (with_reducible first | exact HB.out | apply below_alloc | apply pw_below_drewN | apply below_drew1) | exact HB.out)⟩
    · rw [if_neg c5] at H
      have c5b0 : decide (60 < (l0.length : Int)) = false := decide_eq_false c5
      have c5b1 : decide (60 < l0.length) = false := decide_eq_false (by omega)
      clear c5
      by_cases c7 : (l1.length : Int) > 60
      · rw [if_pos c7] at H
        have c7b0 : decide (60 < (l1.length : Int)) = true := decide_eq_true c7
        have c7b1 : decide (60 < l1.length) = true := decide_eq_true (by omega)
        clear c7
        obtain rfl := Option.some.inj H
        go_enter Try.func7, Try.ntmps7
        go_wp2_with (first | ((with_reducible refine gate_callee (f := 8) rfl ?_); refine goesL_ (some 12) rfl rfl Try.func8 (by kernel_rfl) rfl #[] rfl (by (try simp only [List.map_toArray, List.map_cons, List.map_nil]); first | done | rfl | (simp only [List.length_drop, List.length_take]; rfl)) ?_; (with_reducible refine (fuseelaw14_awake.calls k  true _ A3.out).mono ?_); rintro e w8 ⟨rfl, hb⟩; refine ⟨_, rfl, ?_⟩; have n0_ := bs HB hb; clear HB; have HB := n0_; clear n0_; (try clear hb); (try clear hb2); (try clear hk); (try clear hi)))
        go_ret
        exact ⟨by first | rfl | (simp [errW_none, errW_some] <;> rfl) | (simp [*, errW_none, errW_some] <;> rfl) | (exfalso; contradiction), by repeat (first | (with_reducible first | exact HB.out | apply below_alloc | apply pw_below_drewN | apply below_drew1) | exact HB.out)⟩
      · rw [if_neg c7] at H
        have c7b0 : decide (60 < (l1.length : Int)) = false := decide_eq_false c7
        have c7b1 : decide (60 < l1.length) = false := decide_eq_false (by omega)
        clear c7
        by_cases c9 : (l0.length : Int) = 0
        · rw [if_pos c9] at H
          have c9b0 : ((l0.length : Int) == 0) = true := beq_iff_eq.mpr c9
          have c9b1 : ((l0.length : Int) != 0) = false := bne_eq_false_iff_eq.mpr c9
          clear c9
          obtain rfl := Option.some.inj H
          go_enter Try.func7, Try.ntmps7
          go_wp2_with (first | ((with_reducible refine gate_callee (f := 8) rfl ?_); refine goesL_ (some 12) rfl rfl Try.func8 (by kernel_rfl) rfl #[] rfl (by (try simp only [List.map_toArray, List.map_cons, List.map_nil]); first | done | rfl | (simp only [List.length_drop, List.length_take]; rfl)) ?_; (with_reducible refine (fuseelaw14_awake.calls k  true _ A3.out).mono ?_); rintro e w10 ⟨rfl, hb⟩; refine ⟨_, rfl, ?_⟩; have n0_ := bs HB hb; clear HB; have HB := n0_; clear n0_; (try clear hb); (try clear hb2); (try clear hk); (try clear hi)))
          go_ret
          exact ⟨by first | rfl | (simp [errW_none, errW_some] <;> rfl) | (simp [*, errW_none, errW_some] <;> rfl) | (exfalso; contradiction), by repeat (first | (with_reducible first | exact HB.out | apply below_alloc | apply pw_below_drewN | apply below_drew1) | exact HB.out)⟩
        · rw [if_neg c9] at H
          have c9b0 : ((l0.length : Int) == 0) = false := beq_eq_false_iff_ne.mpr c9
          have c9b1 : ((l0.length : Int) != 0) = true := bne_iff_ne.mpr c9
          have c9b2 : ¬ (l0 = []) := fun h_ => c9 (by rw [h_]; rfl)
          by_cases c11 : ([] : List (S23)).length + l0.length < 5864062014805
          · rw [if_pos c11] at H
            have LMc11 := Aside0.mk c11
            clear c11
            obtain ⟨y315, hy315⟩ : ∃ y_ : List (S23), y_ = (([] : List (S23)) ++ l0) := ⟨_, rfl⟩
            replace H : (if y315.length + l1.length < 5864062014805 then ((some (y315 ++ l1 : List (S23))).bind fun y318 => ((option_Sort.f y318).bind fun t321 => ((option_First.f k y318).bind fun t324 => ((option_Sort.f l0).bind fun t325 => ((option_Sort.f l1).bind fun t328 => (if (t321.length : Int) = (y318.length : Int) then (if t324 < 0 then (none) else (if t324 ≥ (y318.length : Int) then (none) else (if (t325.length : Int) = (l0.length : Int) then (if (t328.length : Int) = (l1.length : Int) then (if 0 ≤ t324 then (if t324 < (y318.length : Int) then (if 0 < (t325.length : Int) then (if (((rd_T23 y318 t324).f0) == ((rd_T23 t325 0).f0) && (((rd_T23 y318 t324).f1) == ((rd_T23 t325 0).f1) && (((rd_T23 y318 t324).f2) == ((rd_T23 t325 0).f2)))) = true then ((option_Less.f ((rd_T23 t325 0).f0) ((rd_T23 t325 0).f1) ((rd_T23 t325 0).f2) ((rd_T23 y318 t324).f0) ((rd_T23 y318 t324).f1) ((rd_T23 y318 t324).f2)).bind fun t335 => (if t335 = true then (none) else (if 1 ≤ (t321.length : Int) then ((option_Sort.f (t321.drop 1)).bind fun t340 => ((fuseeref14_Same.f k t340 (t321.drop 1)).bind fun t347 => (some t347))) else (none)))) else (if (t328.length : Int) > 0 then (if 0 < (t328.length : Int) then (if (((rd_T23 y318 t324).f0) == ((rd_T23 t328 0).f0) && (((rd_T23 y318 t324).f1) == ((rd_T23 t328 0).f1) && (((rd_T23 y318 t324).f2) == ((rd_T23 t328 0).f2)))) = true then ((option_Less.f ((rd_T23 t325 0).f0) ((rd_T23 t325 0).f1) ((rd_T23 t325 0).f2) ((rd_T23 y318 t324).f0) ((rd_T23 y318 t324).f1) ((rd_T23 y318 t324).f2)).bind fun t352 => (if t352 = true then (none) else (if 1 ≤ (t321.length : Int) then ((option_Sort.f (t321.drop 1)).bind fun t357 => ((fuseeref14_Same.f k t357 (t321.drop 1)).bind fun t364 => (some t364))) else (none)))) else (none)) else (none)) else (none))) else (none)) else (none)) else (none)) else (none)) else (none)))) else (none))))))) else (none)) = some r := by first | (rw [hy315]; with_reducible exact H) | (have H2_ := (Option.bind_some _ _).symm.trans H; rw [hy315]; with_reducible exact H2_) | (have H2_ := (Option.bind_some _ _).symm.trans H; with_reducible exact H2_) | with_reducible exact H | (rw [hy315]; exact H) | exact H
            have Ny315 := Aside0.mk hy315
            clear hy315
            by_cases c12 : y315.length + l1.length < 5864062014805
            · rw [if_pos c12] at H
              have LMc12 := Aside0.mk c12
              clear c12
              obtain ⟨y318, hy318⟩ : ∃ y_ : List (S23), y_ = (y315 ++ l1) := ⟨_, rfl⟩
              replace H : ((option_Sort.f y318).bind fun t321 => ((option_First.f k y318).bind fun t324 => ((option_Sort.f l0).bind fun t325 => ((option_Sort.f l1).bind fun t328 => (if (t321.length : Int) = (y318.length : Int) then (if t324 < 0 then (none) else (if t324 ≥ (y318.length : Int) then (none) else (if (t325.length : Int) = (l0.length : Int) then (if (t328.length : Int) = (l1.length : Int) then (if 0 ≤ t324 then (if t324 < (y318.length : Int) then (if 0 < (t325.length : Int) then (if (((rd_T23 y318 t324).f0) == ((rd_T23 t325 0).f0) && (((rd_T23 y318 t324).f1) == ((rd_T23 t325 0).f1) && (((rd_T23 y318 t324).f2) == ((rd_T23 t325 0).f2)))) = true then ((option_Less.f ((rd_T23 t325 0).f0) ((rd_T23 t325 0).f1) ((rd_T23 t325 0).f2) ((rd_T23 y318 t324).f0) ((rd_T23 y318 t324).f1) ((rd_T23 y318 t324).f2)).bind fun t335 => (if t335 = true then (none) else (if 1 ≤ (t321.length : Int) then ((option_Sort.f (t321.drop 1)).bind fun t340 => ((fuseeref14_Same.f k t340 (t321.drop 1)).bind fun t347 => (some t347))) else (none)))) else (if (t328.length : Int) > 0 then (if 0 < (t328.length : Int) then (if (((rd_T23 y318 t324).f0) == ((rd_T23 t328 0).f0) && (((rd_T23 y318 t324).f1) == ((rd_T23 t328 0).f1) && (((rd_T23 y318 t324).f2) == ((rd_T23 t328 0).f2)))) = true then ((option_Less.f ((rd_T23 t325 0).f0) ((rd_T23 t325 0).f1) ((rd_T23 t325 0).f2) ((rd_T23 y318 t324).f0) ((rd_T23 y318 t324).f1) ((rd_T23 y318 t324).f2)).bind fun t352 => (if t352 = true then (none) else (if 1 ≤ (t321.length : Int) then ((option_Sort.f (t321.drop 1)).bind fun t357 => ((fuseeref14_Same.f k t357 (t321.drop 1)).bind fun t364 => (some t364))) else (none)))) else (none)) else (none)) else (none))) else (none)) else (none)) else (none)) else (none)) else (none)))) else (none)))))) = some r := by first | (rw [hy318]; with_reducible exact H) | (have H2_ := (Option.bind_some _ _).symm.trans H; rw [hy318]; with_reducible exact H2_) | (have H2_ := (Option.bind_some _ _).symm.trans H; with_reducible exact H2_) | with_reducible exact H | (rw [hy318]; exact H) | exact H
              have Ny318 := Aside0.mk hy318
              clear hy318
              replace H := Option.bind_eq_some_iff.mp H
              obtain ⟨t321, A130, H⟩ := H
              try dsimp only at H
              have A13 := Aside0.mk A130
              clear A130
              replace H := Option.bind_eq_some_iff.mp H
              obtain ⟨t324, A140, H⟩ := H
              try dsimp only at H
              have A14 := Aside0.mk A140
              clear A140
              replace H := Option.bind_eq_some_iff.mp H
              obtain ⟨t325, A150, H⟩ := H
              try dsimp only at H
              have A15 := Aside0.mk A150
              clear A150
              replace H := Option.bind_eq_some_iff.mp H
              obtain ⟨t328, A160, H⟩ := H
              try dsimp only at H
              have A16 := Aside0.mk A160
              clear A160
              by_cases c17 : (t321.length : Int) = (y318.length : Int)
              · rw [if_pos c17] at H
                have c17b0 : ((t321.length : Int) == (y318.length : Int)) = true := beq_iff_eq.mpr c17
                have c17b1 : ((t321.length : Int) != (y318.length : Int)) = false := bne_eq_false_iff_eq.mpr c17
                have c17b2 : (t321.length == y318.length) = true := by first | simpa using c17 | (simp at c17 ⊢; omega)
                clear c17
                by_cases c18 : t324 < 0
                · rw [if_pos c18] at H
                  exact absurd H (by simp)
                · rw [if_neg c18] at H
                  have c18b0 : decide (t324 < 0) = false := decide_eq_false c18
                  clear c18
                  by_cases c19 : t324 ≥ (y318.length : Int)
                  · rw [if_pos c19] at H
                    exact absurd H (by simp)
                  · rw [if_neg c19] at H
                    have c19b0 : decide ((y318.length : Int) ≤ t324) = false := decide_eq_false c19
                    clear c19
                    by_cases c20 : (t325.length : Int) = (l0.length : Int)
                    · rw [if_pos c20] at H
                      have c20b0 : ((t325.length : Int) == (l0.length : Int)) = true := beq_iff_eq.mpr c20
                      have c20b1 : ((t325.length : Int) != (l0.length : Int)) = false := bne_eq_false_iff_eq.mpr c20
                      have c20b2 : (t325.length == l0.length) = true := by first | simpa using c20 | (simp at c20 ⊢; omega)
                      clear c20
                      by_cases c21 : (t328.length : Int) = (l1.length : Int)
                      · rw [if_pos c21] at H
                        have c21b0 : ((t328.length : Int) == (l1.length : Int)) = true := beq_iff_eq.mpr c21
                        have c21b1 : ((t328.length : Int) != (l1.length : Int)) = false := bne_eq_false_iff_eq.mpr c21
                        have c21b2 : (t328.length == l1.length) = true := by first | simpa using c21 | (simp at c21 ⊢; omega)
                        clear c21
                        by_cases c22 : 0 ≤ t324
                        · rw [if_pos c22] at H
                          have c22b0 : decide (0 ≤ t324) = true := decide_eq_true c22
                          clear c22
                          by_cases c23 : t324 < (y318.length : Int)
                          · rw [if_pos c23] at H
                            have c23b0 : decide (t324 < (y318.length : Int)) = true := decide_eq_true c23
                            clear c23
                            by_cases c24 : 0 < (t325.length : Int)
                            · rw [if_pos c24] at H
                              have c24b0 : decide (0 < (t325.length : Int)) = true := decide_eq_true c24
                              have c24b1 : decide (0 < t325.length) = true := decide_eq_true (by omega)
                              clear c24
                              by_cases c25 : (((rd_T23 y318 t324).f0) == ((rd_T23 t325 0).f0) && (((rd_T23 y318 t324).f1) == ((rd_T23 t325 0).f1) && (((rd_T23 y318 t324).f2) == ((rd_T23 t325 0).f2)))) = true
                              · rw [if_pos c25] at H
                                have c25b0 : (((rd_T23 y318 t324).f0) == ((rd_T23 t325 0).f0) && (((rd_T23 y318 t324).f1) == ((rd_T23 t325 0).f1) && (((rd_T23 y318 t324).f2) == ((rd_T23 t325 0).f2)))) = true := c25
                                (try (have c25b1 : decide (((rd_T23 y318 t324).f0) = ((rd_T23 t325 0).f0) && (((rd_T23 y318 t324).f1) == ((rd_T23 t325 0).f1) && (((rd_T23 y318 t324).f2) == ((rd_T23 t325 0).f2)))) = true := by simpa using c25))
                                (try (have c25b2 : (((rd_T23 y318 t324).f0) == ((rd_T23 t325 0).f0) && (((rd_T23 y318 t324).f1) == ((rd_T23 t325 0).f1) && (((rd_T23 y318 t324).f2) == ((rd_T23 t325 0).f2)))) = true := by simpa using c25))
                                clear c25
                                replace H := Option.bind_eq_some_iff.mp H
                                obtain ⟨t335, A260, H⟩ := H
                                try dsimp only at H
                                have A26 := Aside0.mk A260
                                clear A260
                                by_cases c27 : t335 = true
                                · subst c27
                                  rw [if_pos rfl] at H
                                  exact absurd H (by simp)
                                · replace c27 := Bool.eq_false_iff.mpr c27
                                  subst c27
                                  rw [if_neg (show ¬ (false = true) by decide)] at H
                                  by_cases c28 : 1 ≤ (t321.length : Int)
                                  · rw [if_pos c28] at H
                                    have c28b0 := eq_true c28
                                    have c28b1 : decide (1 ≤ (t321.length : Int)) = true := decide_eq_true c28
                                    clear c28
                                    obtain ⟨y336, hy336⟩ : ∃ y_ : List (S23), y_ = (t321.drop 1) := ⟨_, rfl⟩
                                    replace H : ((option_Sort.f y336).bind fun t340 => ((fuseeref14_Same.f k t340 (t321.drop 1)).bind fun t347 => (some t347))) = some r := by first | (rw [hy336]; with_reducible exact H) | (have H2_ := (Option.bind_some _ _).symm.trans H; rw [hy336]; with_reducible exact H2_) | (have H2_ := (Option.bind_some _ _).symm.trans H; with_reducible exact H2_) | with_reducible exact H | (rw [hy336]; exact H) | exact H
                                    have Ny336 := Aside0.mk hy336
                                    clear hy336
                                    replace H := Option.bind_eq_some_iff.mp H
                                    obtain ⟨t340, A290, H⟩ := H
                                    try dsimp only at H
                                    have A29 := Aside0.mk A290
                                    clear A290
                                    have c30b0 := eq_true (of_decide_eq_true (by first | (with_reducible assumption) | assumption) : 1 ≤ (t321.length : Int))
                                    obtain ⟨y343, hy343⟩ : ∃ y_ : List (S23), y_ = (t321.drop 1) := ⟨_, rfl⟩
                                    replace H : ((fuseeref14_Same.f k t340 y343).bind fun t347 => (some t347)) = some r := by first | (rw [hy343]; with_reducible exact H) | (have H2_ := (Option.bind_some _ _).symm.trans H; rw [hy343]; with_reducible exact H2_) | (have H2_ := (Option.bind_some _ _).symm.trans H; with_reducible exact H2_) | with_reducible exact H | (rw [hy343]; exact H) | exact H
                                    have Ny343 := Aside0.mk hy343
                                    obtain rfl : y336 = y343 := Ny336.out.trans Ny343.out.symm
                                    clear hy343
                                    replace H := Option.bind_eq_some_iff.mp H
                                    obtain ⟨t347, A310, H⟩ := H
                                    try dsimp only at H
                                    have A31 := Aside0.mk A310
                                    clear A310
                                    obtain rfl := Option.some.inj H
                                    go_enter Try.func7, Try.ntmps7
                                    try go_wp2_with (first | ((with_reducible refine gate_callee (f := 8) rfl ?_); refine goesL_ (some 12) rfl rfl Try.func8 (by kernel_rfl) rfl #[] rfl (by (try simp only [List.map_toArray, List.map_cons, List.map_nil]); first | done | rfl | (simp only [List.length_drop, List.length_take]; rfl)) ?_; (with_reducible refine (fuseelaw14_awake.calls k  true _ A3.out).mono ?_); rintro e w32 ⟨rfl, hb⟩; refine ⟨_, rfl, ?_⟩; have n0_ := bs HB hb; clear HB; have HB := n0_; clear n0_; (try clear hb); (try clear hb2); (try clear hk); (try clear hi)) | ((with_reducible refine gate_builtin (b := .append) (xs := #[.const (.slice none 0 0), .tmp 31]) rfl ?_); (try (refine gate_guard (by rfl) ?_; dsimp only)); at_builtin; refine Kd.R_append_rows k23 (w0 := w) w.heap.size rfl (.const (.slice none 0 0)) (.tmp 31) 40 23 (.agg #[(.int .i64 0), (.int .i64 0), (.int .i64 0)]) 24 rfl Try.underlying40 info23 rfl (by decide) (by omega) (.slice none 0 0) ([] : List (S23)) l0 _ _ _ (fun _ => True) (fun _ => False) rfl rfl ?aO ?aR (fun _ _ h => h) (fun _ h => h.elim) ?aF ?aB ?aS ?aL ?_; (case aR => repeat (first | exact (Kd.C_below HR0.out HB.out) | (with_reducible refine Kd.C_alloc ?_ _) | (with_reducible refine Kd.C_drewN ?_ _) | (with_reducible refine Kd.C_drew ?_))); (case aB => exact (by repeat (first | (with_reducible first | exact HB.out | apply below_alloc | apply pw_below_drewN | apply below_drew1) | exact HB.out))); (case aF => exact (fun _ _ => trivial)); (case aO => exact ((Kd.R_nil _ _ _ _ (fun _ => True)))); (case aS => exact (below_size (by repeat (first | (with_reducible first | exact HB.out | apply below_alloc | apply pw_below_drewN | apply below_drew1) | exact HB.out)))); (case aL => have := LMc11.out; omega); intro v316 w33 ho hb hg hat; rw [← Ny315.out] at ho; have n0_ := Aside0.mk (hb); have n1_ := Aside0.mk (ho); clear HB; have HB := n0_; have HO317 := n1_; clear n0_ n1_; clear ho hb hg hat) | ((with_reducible refine gate_builtin (b := .append) (xs := #[.tmp 32, .tmp 33]) rfl ?_); (try (refine gate_guard (by rfl) ?_; dsimp only)); at_builtin; refine Kd.R_append_rows k23 (w0 := w) w.heap.size rfl (.tmp 32) (.tmp 33) 40 23 (.agg #[(.int .i64 0), (.int .i64 0), (.int .i64 0)]) 24 rfl Try.underlying40 info23 rfl (by decide) (by omega) v316 y315 l1 _ _ _ (fun _ => True) (fun _ => False) rfl rfl ?aO ?aR (fun _ _ h => h) (fun _ h => h.elim) ?aF ?aB ?aS ?aL ?_; (case aR => repeat (first | exact (Kd.C_below HR1.out HB.out) | (with_reducible refine Kd.C_alloc ?_ _) | (with_reducible refine Kd.C_drewN ?_ _) | (with_reducible refine Kd.C_drew ?_))); (case aB => exact (by repeat (first | (with_reducible first | exact HB.out | apply below_alloc | apply pw_below_drewN | apply below_drew1) | exact HB.out))); (case aF => exact (fun _ _ => trivial)); (case aO => exact (by (with_reducible repeat (first | apply Kd.R_alloc | apply Kd.R_drewN | apply Kd.R_drew)); exact HO317.out)); (case aS => exact (below_size (by repeat (first | (with_reducible first | exact HB.out | apply below_alloc | apply pw_below_drewN | apply below_drew1) | exact HB.out)))); (case aL => have := LMc12.out; omega); intro v319 w34 ho hb hg hat; rw [← Ny318.out] at ho; have n0_ := Aside0.mk (hb); have n1_ := Aside0.mk (ho); clear HB; clear HO317; have HB := n0_; have HO320 := n1_; clear n0_ n1_; clear ho hb hg hat; obtain ⟨Ao35, co35, eo35⟩ := Kd.R_slice HO320.out; subst eo35) | ((with_reducible refine gate_callee (f := 17) rfl ?_); refine goesL_ (some 36) rfl rfl Try.func17 (by kernel_rfl) rfl #[.slice Ao35 y318.length co35] rfl (by (try simp only [List.map_toArray, List.map_cons, List.map_nil]); first | done | rfl | (simp only [List.length_drop, List.length_take]; rfl)) ?_; (with_reducible refine (option_Sort.calls _ _ y318 t321 _ ?side1 ?side2 A13.out).mono ?_); (case side1 => repeat (first | exact (Kd.R_reads' HO320.out).2.2 | (with_reducible refine Kd.C_alloc ?_ _) | (with_reducible refine Kd.C_drewN ?_ _) | (with_reducible refine Kd.C_drew ?_))); (case side2 => exact (Kd.R_reads' HO320.out).2.1); rintro e w36 ⟨v322, rfl, ho0, hb⟩; refine ⟨_, rfl, ?_⟩; have n0_ := Aside0.mk (Kd.R_elder' (by (with_reducible repeat (first | apply Kd.R_alloc | apply Kd.R_drewN | apply Kd.R_drew)); exact HO320.out) (Kd.R_base ho0) hb); have n1_ := Aside0.mk (Kd.R_lower (Kd.R_new' ho0 (Kd.R_lt (by (with_reducible repeat (first | apply Kd.R_alloc | apply Kd.R_drewN | apply Kd.R_drew)); exact HO320.out))) (below_size (by repeat (first | (with_reducible first | exact HB.out | apply below_alloc | apply pw_below_drewN | apply below_drew1) | exact HB.out)))); have n2_ := bs HB hb; clear HO320; clear HB; have HO320 := n0_; have HO323 := n1_; have HB := n2_; clear n0_ n1_ n2_; (try clear hb); (try clear hb2); (try clear hk); (try clear hi); (try clear ho0)) | ((with_reducible refine gate_callee (f := 19) rfl ?_); refine goesL_ (some 38) rfl rfl Try.func19 (by kernel_rfl) rfl #[.slice Ao35 y318.length co35] rfl (by (try simp only [List.map_toArray, List.map_cons, List.map_nil]); first | done | rfl | (simp only [List.length_drop, List.length_take]; rfl)) ?_; (with_reducible refine (option_First.calls k _ _ y318 t324 _ ?side1 ?side2 A14.out).mono ?_); (case side1 => repeat (first | exact (Kd.R_reads' HO320.out).2.2 | (with_reducible refine Kd.C_alloc ?_ _) | (with_reducible refine Kd.C_drewN ?_ _) | (with_reducible refine Kd.C_drew ?_))); (case side2 => exact (Kd.R_reads' HO320.out).2.1); rintro e w37 ⟨rfl, hb⟩; refine ⟨_, rfl, ?_⟩; have n0_ := Aside0.mk (Kd.R_below (by (with_reducible repeat (first | apply Kd.R_alloc | apply Kd.R_drewN | apply Kd.R_drew)); exact HO320.out) hb); have n1_ := Aside0.mk (Kd.R_below (by (with_reducible repeat (first | apply Kd.R_alloc | apply Kd.R_drewN | apply Kd.R_drew)); exact HO323.out) hb); have n2_ := bs HB hb; clear HO320; clear HO323; clear HB; have HO320 := n0_; have HO323 := n1_; have HB := n2_; clear n0_ n1_ n2_; (try clear hb); (try clear hb2); (try clear hk); (try clear hi)) | ((with_reducible refine gate_callee (f := 17) rfl ?_); refine goesL_ (some 40) rfl rfl Try.func17 (by kernel_rfl) rfl #[.slice A0 l0.length c0] rfl (by (try simp only [List.map_toArray, List.map_cons, List.map_nil]); first | done | rfl | (simp only [List.length_drop, List.length_take]; rfl)) ?_; (with_reducible refine (option_Sort.calls _ _ l0 t325 _ ?side1 ?side2 A15.out).mono ?_); (case side1 => repeat (first | exact (Kd.C_below HR0.out HB.out) | (with_reducible refine Kd.C_alloc ?_ _) | (with_reducible refine Kd.C_drewN ?_ _) | (with_reducible refine Kd.C_drew ?_))); (case side2 => exact HC0.out); rintro e w38 ⟨v326, rfl, ho0, hb⟩; refine ⟨_, rfl, ?_⟩; have n0_ := Aside0.mk (Kd.R_elder' (by (with_reducible repeat (first | apply Kd.R_alloc | apply Kd.R_drewN | apply Kd.R_drew)); exact HO320.out) (Kd.R_base ho0) hb); have n1_ := Aside0.mk (Kd.R_elder' (by (with_reducible repeat (first | apply Kd.R_alloc | apply Kd.R_drewN | apply Kd.R_drew)); exact HO323.out) (Kd.R_base ho0) hb); have n2_ := Aside0.mk (Kd.R_lower (Kd.R_new' (Kd.R_new' ho0 (Kd.R_lt (by (with_reducible repeat (first | apply Kd.R_alloc | apply Kd.R_drewN | apply Kd.R_drew)); exact HO320.out))) (Kd.R_lt (by (with_reducible repeat (first | apply Kd.R_alloc | apply Kd.R_drewN | apply Kd.R_drew)); exact HO323.out))) (below_size (by repeat (first | (with_reducible first | exact HB.out | apply below_alloc | apply pw_below_drewN | apply below_drew1) | exact HB.out)))); have n3_ := bs HB hb; clear HO320; clear HO323; clear HB; have HO320 := n0_; have HO323 := n1_; have HO327 := n2_; have HB := n3_; clear n0_ n1_ n2_ n3_; (try clear hb); (try clear hb2); (try clear hk); (try clear hi); (try clear ho0)) | ((with_reducible refine gate_callee (f := 17) rfl ?_); refine goesL_ (some 42) rfl rfl Try.func17 (by kernel_rfl) rfl #[.slice A1 l1.length c1] rfl (by (try simp only [List.map_toArray, List.map_cons, List.map_nil]); first | done | rfl | (simp only [List.length_drop, List.length_take]; rfl)) ?_; (with_reducible refine (option_Sort.calls _ _ l1 t328 _ ?side1 ?side2 A16.out).mono ?_); (case side1 => repeat (first | exact (Kd.C_below HR1.out HB.out) | (with_reducible refine Kd.C_alloc ?_ _) | (with_reducible refine Kd.C_drewN ?_ _) | (with_reducible refine Kd.C_drew ?_))); (case side2 => exact HC1.out); rintro e w39 ⟨v329, rfl, ho0, hb⟩; refine ⟨_, rfl, ?_⟩; have n0_ := Aside0.mk (Kd.R_elder' (by (with_reducible repeat (first | apply Kd.R_alloc | apply Kd.R_drewN | apply Kd.R_drew)); exact HO320.out) (Kd.R_base ho0) hb); have n1_ := Aside0.mk (Kd.R_elder' (by (with_reducible repeat (first | apply Kd.R_alloc | apply Kd.R_drewN | apply Kd.R_drew)); exact HO323.out) (Kd.R_base ho0) hb); have n2_ := Aside0.mk (Kd.R_elder' (by (with_reducible repeat (first | apply Kd.R_alloc | apply Kd.R_drewN | apply Kd.R_drew)); exact HO327.out) (Kd.R_base ho0) hb); have n3_ := Aside0.mk (Kd.R_lower (Kd.R_new' (Kd.R_new' (Kd.R_new' ho0 (Kd.R_lt (by (with_reducible repeat (first | apply Kd.R_alloc | apply Kd.R_drewN | apply Kd.R_drew)); exact HO320.out))) (Kd.R_lt (by (with_reducible repeat (first | apply Kd.R_alloc | apply Kd.R_drewN | apply Kd.R_drew)); exact HO323.out))) (Kd.R_lt (by (with_reducible repeat (first | apply Kd.R_alloc | apply Kd.R_drewN | apply Kd.R_drew)); exact HO327.out))) (below_size (by repeat (first | (with_reducible first | exact HB.out | apply below_alloc | apply pw_below_drewN | apply below_drew1) | exact HB.out)))); have n4_ := bs HB hb; clear HO320; clear HO323; clear HO327; clear HB; have HO320 := n0_; have HO323 := n1_; have HO327 := n2_; have HO330 := n3_; have HB := n4_; clear n0_ n1_ n2_ n3_ n4_; (try clear hb); (try clear hb2); (try clear hk); (try clear hi); (try clear ho0); obtain ⟨Ao40, co40, eo40⟩ := Kd.R_slice HO323.out; subst eo40; obtain ⟨Ao41, co41, eo41⟩ := Kd.R_slice HO327.out; subst eo41; obtain ⟨Ao42, co42, eo42⟩ := Kd.R_slice HO330.out; subst eo42))
                                    have n0_ := Aside0.mk (Kd.R_drew HO320.out)
                                    have n1_ := Aside0.mk (Kd.R_drew HO323.out)
                                    have n2_ := Aside0.mk (Kd.R_drew HO327.out)
                                    have n3_ := Aside0.mk (Kd.R_drew HO330.out)
                                    have n4_ := Aside0.mk (below_drew1 HB.out)
                                    clear HO320
                                    clear HO323
                                    clear HO327
                                    clear HO330
                                    clear HB
                                    have HO320 := n0_
                                    have HO323 := n1_
                                    have HO327 := n2_
                                    have HO330 := n3_
                                    have HB := n4_
                                    clear n0_ n1_ n2_ n3_ n4_
                                    have p331 : 0 ≤ (t324 : Int) := of_decide_eq_true (by first | (with_reducible assumption) | assumption)
                                    have q331 : t324 < (y318.length : Int) := of_decide_eq_true (by first | (with_reducible assumption) | assumption)
                                    obtain ⟨ad331, e331, hx331_0, hx331_1, hx331_2⟩ := at_T23 (Kd.R_reads' HO320.out).2.2 t324 p331 q331
                                    cases e331
                                    replace p331 := eq_true p331
                                    replace q331 := eq_true q331
                                    have p332 : 0 ≤ (0 : Int) := (by omega)
                                    have q332 : 0 < (t325.length : Int) := of_decide_eq_true (by first | (with_reducible assumption) | assumption)
                                    obtain ⟨ad332, e332, hx332_0, hx332_1, hx332_2⟩ := at_T23 (Kd.R_reads' HO327.out).2.2 0 p332 q332
                                    cases e332
                                    have qi332 : (0 < t325.length) = True := eq_true (by omega)
                                    (try rw [show ((0 : Int)).toNat = 0 from rfl] at hx332_0)
                                    (try rw [show 0 * 3 = 0 from rfl] at hx332_0)
                                    (try rw [Addr.add_zero'] at hx332_0)
                                    (try rw [show ((0 : Int)).toNat = 0 from rfl] at hx332_1)
                                    (try rw [show 0 * 3 = 0 from rfl] at hx332_1)
                                    (try rw [Addr.add_zero'] at hx332_1)
                                    (try rw [show ((0 : Int)).toNat = 0 from rfl] at hx332_2)
                                    (try rw [show 0 * 3 = 0 from rfl] at hx332_2)
                                    (try rw [Addr.add_zero'] at hx332_2)
                                    replace p332 := eq_true p332
                                    replace q332 := eq_true q332
                                    refine start_ (n := 24) (S := fun w' => w'.cell? (ad331.add ((t324).toNat * 3)) = some (.int .i64 ((rd_T23 y318 t324).f0)) ∧ w'.cell? ⟨(ad331.add ((t324).toNat * 3)).block, (ad331.add ((t324).toNat * 3)).off + 1, none⟩ = some (.int .i64 ((rd_T23 y318 t324).f1)) ∧ w'.cell? ⟨(ad331.add ((t324).toNat * 3)).block, (ad331.add ((t324).toNat * 3)).off + 2, none⟩ = some (.int .i64 ((rd_T23 y318 t324).f2)) ∧ w'.cell? ad332 = some (.int .i64 ((rd_T23 t325 0).f0)) ∧ w'.cell? ⟨ad332.block, ad332.off + 1, none⟩ = some (.int .i64 ((rd_T23 t325 0).f1)) ∧ w'.cell? ⟨ad332.block, ad332.off + 2, none⟩ = some (.int .i64 ((rd_T23 t325 0).f2))) (ds := []) #[false, false, false, false, false, false, false, false, false, false, false, false, false, false, false, false, false, false, false, false, false, false, false, false] (by kernel_rfl) rfl rfl ⟨hx331_0, hx331_1, hx331_2, hx332_0, hx332_1, hx332_2⟩ (fun hHeld => ?_); refine with_tabW fuseelaw14_OptionBoth.tab11 fuseelaw14_OptionBoth.bits11 (fun HT_ HW_ => ?_)
                                    generalize w39.drew = w43 at HO320 HO323 HO327 HO330 HB hx331_0 hx331_1 hx331_2 hx332_0 hx332_1 hx332_2 hHeld ⊢
                                    refine pure_ (i := 0) (N := some 72) (v := ?_) (a' := ?_) #[true, false, false, false, false, false, false, false, false, false, false, false, false, false, false, false, false, false, false, false, false, false, false, false] rfl rfl (any_of HT_.out (by kernel_rfl)) (fun _ _ _ h => h) (Or.inl ⟨by rfl, ?_⟩) ?_ ?_
                                    rotate_left; focus (intro w'; go_simp; with_reducible rfl)
                                    rotate_left; focus (simp only [Act.put, List.setIfInBounds_toArray, List.set_cons_zero, List.set_cons_succ, i64_w, i32_w]; rfl)
                                    refine pure_ (i := 1) (N := some 73) (v := ?_) (a' := ?_) #[true, true, false, false, false, false, false, false, false, false, false, false, false, false, false, false, false, false, false, false, false, false, false, false] rfl rfl (any_of HT_.out (by kernel_rfl)) (fun _ _ _ h => h) (Or.inl ⟨by rfl, ?_⟩) ?_ ?_
                                    rotate_left; focus (intro w'; go_simp; with_reducible rfl)
                                    rotate_left; focus (simp only [Act.put, List.setIfInBounds_toArray, List.set_cons_zero, List.set_cons_succ, i64_w, i32_w]; rfl)
                                    refine pure_ (i := 2) (N := some 74) (v := ?_) (a' := ?_) #[true, true, true, false, false, false, false, false, false, false, false, false, false, false, false, false, false, false, false, false, false, false, false, false] rfl rfl (any_of HT_.out (by kernel_rfl)) (fun _ _ _ h => h) (Or.inl ⟨by rfl, ?_⟩) ?_ ?_
                                    rotate_left; focus (intro w'; go_simp; with_reducible rfl)
                                    rotate_left; focus (simp only [Act.put, List.setIfInBounds_toArray, List.set_cons_zero, List.set_cons_succ, i64_w, i32_w]; rfl)
                                    refine pure_ (i := 4) (N := some 76) (v := ?_) (a' := ?_) #[true, true, true, false, true, false, false, false, false, false, false, false, false, false, false, false, false, false, false, false, false, false, false, false] rfl rfl (any_of HT_.out (by kernel_rfl)) (fun _ _ _ h => h) (Or.inl ⟨by rfl, ?_⟩) ?_ ?_
                                    rotate_left; focus (intro w'; go_simp; with_reducible rfl)
                                    rotate_left; focus (simp only [Act.put, List.setIfInBounds_toArray, List.set_cons_zero, List.set_cons_succ, i64_w, i32_w]; rfl)
                                    refine pure_ (i := 5) (N := some 77) (v := ?_) (a' := ?_) #[true, true, true, false, true, true, false, false, false, false, false, false, false, false, false, false, false, false, false, false, false, false, false, false] rfl rfl (any_of HT_.out (by kernel_rfl)) (fun _ _ _ h => h) (Or.inl ⟨by rfl, ?_⟩) ?_ ?_
                                    rotate_left; focus (intro w'; go_simp; with_reducible rfl)
                                    rotate_left; focus (simp only [Act.put, List.setIfInBounds_toArray, List.set_cons_zero, List.set_cons_succ, i64_w, i32_w]; rfl)
                                    refine take_ (i := 3) (N := some 75) (v := ?_) (a' := ?_) #[true, true, true, true, true, true, false, false, false, false, false, false, false, false, false, false, false, false, false, false, false, false, false, false] rfl rfl (take_ofW HT_.out HW_.out (by kernel_rfl)) (fun _ _ _ h => h) (Or.inl ⟨by rfl, ?_⟩) hHeld ?_ ?_
                                    rotate_left
                                    · rintro w' ⟨s0, s1, s2, s3, s4, s5⟩
                                      go_simp
                                      with_reducible rfl
                                    rotate_left; focus (simp only [Act.put, List.setIfInBounds_toArray, List.set_cons_zero, List.set_cons_succ, i64_w, i32_w]; rfl)
                                    refine take_ (i := 6) (N := some 78) (v := ?_) (a' := ?_) #[true, true, true, true, true, true, true, false, false, false, false, false, false, false, false, false, false, false, false, false, false, false, false, false] rfl rfl (take_ofW HT_.out HW_.out (by kernel_rfl)) (fun _ _ _ h => h) (Or.inl ⟨by rfl, ?_⟩) hHeld ?_ ?_
                                    rotate_left
                                    · rintro w' ⟨s0, s1, s2, s3, s4, s5⟩
                                      go_simp
                                      with_reducible rfl
                                    rotate_left; focus (simp only [Act.put, List.setIfInBounds_toArray, List.set_cons_zero, List.set_cons_succ, i64_w, i32_w]; rfl)
                                    refine pure_ (i := 7) (N := some 79) (v := ?_) (a' := ?_) #[true, true, true, true, true, true, true, true, false, false, false, false, false, false, false, false, false, false, false, false, false, false, false, false] rfl rfl (any_of HT_.out (by kernel_rfl)) (fun _ _ _ h => h) (Or.inl ⟨by rfl, ?_⟩) ?_ ?_
                                    rotate_left; focus (intro w'; go_simp; with_reducible rfl)
                                    rotate_left; focus (simp only [Act.put, List.setIfInBounds_toArray, List.set_cons_zero, List.set_cons_succ, i64_w, i32_w]; rfl)
                                    refine pure_ (i := 8) (N := some 80) (v := ?_) (a' := ?_) #[true, true, true, true, true, true, true, true, true, false, false, false, false, false, false, false, false, false, false, false, false, false, false, false] rfl rfl (any_of HT_.out (by kernel_rfl)) (fun _ _ _ h => h) (Or.inl ⟨by rfl, ?_⟩) ?_ ?_
                                    rotate_left; focus (intro w'; go_simp; with_reducible rfl)
                                    rotate_left; focus (simp only [Act.put, List.setIfInBounds_toArray, List.set_cons_zero, List.set_cons_succ, i64_w, i32_w]; rfl)
                                    refine pure_ (i := 9) (N := some 81) (v := undef) (a' := ?_) #[true, true, true, true, true, true, true, true, true, true, false, false, false, false, false, false, false, false, false, false, false, false, false, false] rfl rfl (any_of HT_.out (by kernel_rfl)) (fun _ _ _ h => h) (Or.inr ⟨by rfl, rfl⟩) ?_ ?_
                                    rotate_left; focus (simp only [Act.put, List.setIfInBounds_toArray, List.set_cons_zero, List.set_cons_succ, i64_w, i32_w]; rfl)
                                    refine pure_ (i := 10) (N := some 82) (v := undef) (a' := ?_) #[true, true, true, true, true, true, true, true, true, true, true, false, false, false, false, false, false, false, false, false, false, false, false, false] rfl rfl (any_of HT_.out (by kernel_rfl)) (fun _ _ _ h => h) (Or.inr ⟨by rfl, rfl⟩) ?_ ?_
                                    rotate_left; focus (simp only [Act.put, List.setIfInBounds_toArray, List.set_cons_zero, List.set_cons_succ, i64_w, i32_w]; rfl)
                                    refine pure_ (i := 11) (N := some 83) (v := undef) (a' := ?_) #[true, true, true, true, true, true, true, true, true, true, true, true, false, false, false, false, false, false, false, false, false, false, false, false] rfl rfl (any_of HT_.out (by kernel_rfl)) (fun _ _ _ h => h) (Or.inr ⟨by rfl, rfl⟩) ?_ ?_
                                    rotate_left; focus (simp only [Act.put, List.setIfInBounds_toArray, List.set_cons_zero, List.set_cons_succ, i64_w, i32_w]; rfl)
                                    refine pure_ (i := 12) (N := some 84) (v := undef) (a' := ?_) #[true, true, true, true, true, true, true, true, true, true, true, true, true, false, false, false, false, false, false, false, false, false, false, false] rfl rfl (any_of HT_.out (by kernel_rfl)) (fun _ _ _ h => h) (Or.inr ⟨by rfl, rfl⟩) ?_ ?_
                                    rotate_left; focus (simp only [Act.put, List.setIfInBounds_toArray, List.set_cons_zero, List.set_cons_succ, i64_w, i32_w]; rfl)
                                    refine pure_ (i := 13) (N := some 85) (v := undef) (a' := ?_) #[true, true, true, true, true, true, true, true, true, true, true, true, true, true, false, false, false, false, false, false, false, false, false, false] rfl rfl (any_of HT_.out (by kernel_rfl)) (fun _ _ _ h => h) (Or.inr ⟨by rfl, rfl⟩) ?_ ?_
                                    rotate_left; focus (simp only [Act.put, List.setIfInBounds_toArray, List.set_cons_zero, List.set_cons_succ, i64_w, i32_w]; rfl)
                                    refine pure_ (i := 14) (N := some 86) (v := undef) (a' := ?_) #[true, true, true, true, true, true, true, true, true, true, true, true, true, true, true, false, false, false, false, false, false, false, false, false] rfl rfl (any_of HT_.out (by kernel_rfl)) (fun _ _ _ h => h) (Or.inr ⟨by rfl, rfl⟩) ?_ ?_
                                    rotate_left; focus (simp only [Act.put, List.setIfInBounds_toArray, List.set_cons_zero, List.set_cons_succ, i64_w, i32_w]; rfl)
                                    refine pure_ (i := 15) (N := some 87) (v := undef) (a' := ?_) #[true, true, true, true, true, true, true, true, true, true, true, true, true, true, true, true, false, false, false, false, false, false, false, false] rfl rfl (any_of HT_.out (by kernel_rfl)) (fun _ _ _ h => h) (Or.inr ⟨by rfl, rfl⟩) ?_ ?_
                                    rotate_left; focus (simp only [Act.put, List.setIfInBounds_toArray, List.set_cons_zero, List.set_cons_succ, i64_w, i32_w]; rfl)
                                    refine pure_ (i := 16) (N := some 88) (v := undef) (a' := ?_) #[true, true, true, true, true, true, true, true, true, true, true, true, true, true, true, true, true, false, false, false, false, false, false, false] rfl rfl (any_of HT_.out (by kernel_rfl)) (fun _ _ _ h => h) (Or.inr ⟨by rfl, rfl⟩) ?_ ?_
                                    rotate_left; focus (simp only [Act.put, List.setIfInBounds_toArray, List.set_cons_zero, List.set_cons_succ, i64_w, i32_w]; rfl)
                                    refine pure_ (i := 17) (N := some 89) (v := undef) (a' := ?_) #[true, true, true, true, true, true, true, true, true, true, true, true, true, true, true, true, true, true, false, false, false, false, false, false] rfl rfl (any_of HT_.out (by kernel_rfl)) (fun _ _ _ h => h) (Or.inr ⟨by rfl, rfl⟩) ?_ ?_
                                    rotate_left; focus (simp only [Act.put, List.setIfInBounds_toArray, List.set_cons_zero, List.set_cons_succ, i64_w, i32_w]; rfl)
                                    refine pure_ (i := 18) (N := some 90) (v := undef) (a' := ?_) #[true, true, true, true, true, true, true, true, true, true, true, true, true, true, true, true, true, true, true, false, false, false, false, false] rfl rfl (any_of HT_.out (by kernel_rfl)) (fun _ _ _ h => h) (Or.inr ⟨by rfl, rfl⟩) ?_ ?_
                                    rotate_left; focus (simp only [Act.put, List.setIfInBounds_toArray, List.set_cons_zero, List.set_cons_succ, i64_w, i32_w]; rfl)
                                    refine pure_ (i := 19) (N := some 91) (v := undef) (a' := ?_) #[true, true, true, true, true, true, true, true, true, true, true, true, true, true, true, true, true, true, true, true, false, false, false, false] rfl rfl (any_of HT_.out (by kernel_rfl)) (fun _ _ _ h => h) (Or.inr ⟨by rfl, rfl⟩) ?_ ?_
                                    rotate_left; focus (simp only [Act.put, List.setIfInBounds_toArray, List.set_cons_zero, List.set_cons_succ, i64_w, i32_w]; rfl)
                                    refine pure_ (i := 20) (N := some 92) (v := undef) (a' := ?_) #[true, true, true, true, true, true, true, true, true, true, true, true, true, true, true, true, true, true, true, true, true, false, false, false] rfl rfl (any_of HT_.out (by kernel_rfl)) (fun _ _ _ h => h) (Or.inr ⟨by rfl, rfl⟩) ?_ ?_
                                    rotate_left; focus (simp only [Act.put, List.setIfInBounds_toArray, List.set_cons_zero, List.set_cons_succ, i64_w, i32_w]; rfl)
                                    refine pure_ (i := 21) (N := some 93) (v := undef) (a' := ?_) #[true, true, true, true, true, true, true, true, true, true, true, true, true, true, true, true, true, true, true, true, true, true, false, false] rfl rfl (any_of HT_.out (by kernel_rfl)) (fun _ _ _ h => h) (Or.inr ⟨by rfl, rfl⟩) ?_ ?_
                                    rotate_left; focus (simp only [Act.put, List.setIfInBounds_toArray, List.set_cons_zero, List.set_cons_succ, i64_w, i32_w]; rfl)
                                    refine pure_ (i := 22) (N := some 94) (v := ?_) (a' := ?_) #[true, true, true, true, true, true, true, true, true, true, true, true, true, true, true, true, true, true, true, true, true, true, true, false] rfl rfl (any_of HT_.out (by kernel_rfl)) (fun _ _ _ h => h) (Or.inl ⟨by rfl, ?_⟩) ?_ ?_
                                    rotate_left; focus (intro w'; go_simp; with_reducible rfl)
                                    rotate_left; focus (simp only [Act.put, List.setIfInBounds_toArray, List.set_cons_zero, List.set_cons_succ, i64_w, i32_w]; rfl)
                                    refine pure_ (i := 23) (N := some 11) (v := ?_) (a' := ?_) #[true, true, true, true, true, true, true, true, true, true, true, true, true, true, true, true, true, true, true, true, true, true, true, true] rfl rfl (any_of HT_.out (by kernel_rfl)) (fun _ _ _ h => h) (Or.inl ⟨by rfl, ?_⟩) ?_ ?_
                                    rotate_left; focus (intro w'; go_simp; with_reducible rfl)
                                    rotate_left; focus (simp only [Act.put, List.setIfInBounds_toArray, List.set_cons_zero, List.set_cons_succ, i64_w, i32_w]; rfl)
                                    refine done_ (done_of HT_.out (by kernel_rfl)) ?_
                                    try go_wp2
                                    have n0_ := Aside0.mk (Kd.R_drew HO320.out)
                                    have n1_ := Aside0.mk (Kd.R_drew HO323.out)
                                    have n2_ := Aside0.mk (Kd.R_drew HO327.out)
                                    have n3_ := Aside0.mk (Kd.R_drew HO330.out)
                                    have n4_ := Aside0.mk (below_drew1 HB.out)
                                    clear HO320
                                    clear HO323
                                    clear HO327
                                    clear HO330
                                    clear HB
                                    have HO320 := n0_
                                    have HO323 := n1_
                                    have HO327 := n2_
                                    have HO330 := n3_
                                    have HB := n4_
                                    clear n0_ n1_ n2_ n3_ n4_
                                    have p333 : 0 ≤ (0 : Int) := (by omega)
                                    have q333 : 0 < (t325.length : Int) := of_decide_eq_true (by first | (with_reducible assumption) | assumption)
                                    obtain ⟨ad333, e333, hx333_0, hx333_1, hx333_2⟩ := at_T23 (Kd.R_reads' HO327.out).2.2 0 p333 q333
                                    obtain rfl : ad332 = ad333 := (by injection e333)
                                    have qi333 : (0 < t325.length) = True := eq_true (by omega)
                                    (try rw [show ((0 : Int)).toNat = 0 from rfl] at hx333_0)
                                    (try rw [show 0 * 3 = 0 from rfl] at hx333_0)
                                    (try rw [Addr.add_zero'] at hx333_0)
                                    (try rw [show ((0 : Int)).toNat = 0 from rfl] at hx333_1)
                                    (try rw [show 0 * 3 = 0 from rfl] at hx333_1)
                                    (try rw [Addr.add_zero'] at hx333_1)
                                    (try rw [show ((0 : Int)).toNat = 0 from rfl] at hx333_2)
                                    (try rw [show 0 * 3 = 0 from rfl] at hx333_2)
                                    (try rw [Addr.add_zero'] at hx333_2)
                                    replace p333 := eq_true p333
                                    replace q333 := eq_true q333
                                    have p334 : 0 ≤ (t324 : Int) := of_decide_eq_true (by first | (with_reducible assumption) | assumption)
                                    have q334 : t324 < (y318.length : Int) := of_decide_eq_true (by first | (with_reducible assumption) | assumption)
                                    obtain ⟨ad334, e334, hx334_0, hx334_1, hx334_2⟩ := at_T23 (Kd.R_reads' HO320.out).2.2 t324 p334 q334
                                    obtain rfl : ad331 = ad334 := (by injection e334)
                                    replace p334 := eq_true p334
                                    replace q334 := eq_true q334
                                    refine start_ (n := 21) (S := fun w' => w'.cell? ad332 = some (.int .i64 ((rd_T23 t325 0).f0)) ∧ w'.cell? ⟨ad332.block, ad332.off + 1, none⟩ = some (.int .i64 ((rd_T23 t325 0).f1)) ∧ w'.cell? ⟨ad332.block, ad332.off + 2, none⟩ = some (.int .i64 ((rd_T23 t325 0).f2)) ∧ w'.cell? (ad331.add ((t324).toNat * 3)) = some (.int .i64 ((rd_T23 y318 t324).f0)) ∧ w'.cell? ⟨(ad331.add ((t324).toNat * 3)).block, (ad331.add ((t324).toNat * 3)).off + 1, none⟩ = some (.int .i64 ((rd_T23 y318 t324).f1)) ∧ w'.cell? ⟨(ad331.add ((t324).toNat * 3)).block, (ad331.add ((t324).toNat * 3)).off + 2, none⟩ = some (.int .i64 ((rd_T23 y318 t324).f2))) (ds := []) #[false, false, false, false, false, false, false, false, false, false, false, false, false, false, false, false, false, false, false, false, false] (by kernel_rfl) rfl rfl ⟨hx333_0, hx333_1, hx333_2, hx334_0, hx334_1, hx334_2⟩ (fun hHeld => ?_); refine with_tabW fuseelaw14_OptionBoth.tab12 fuseelaw14_OptionBoth.bits12 (fun HT_ HW_ => ?_)
                                    generalize w43.drew = w44 at HO320 HO323 HO327 HO330 HB hx333_0 hx333_1 hx333_2 hx334_0 hx334_1 hx334_2 hHeld ⊢
                                    refine pure_ (i := 0) (N := some 95) (v := ?_) (a' := ?_) #[true, false, false, false, false, false, false, false, false, false, false, false, false, false, false, false, false, false, false, false, false] rfl rfl (any_of HT_.out (by kernel_rfl)) (fun _ _ _ h => h) (Or.inl ⟨by rfl, ?_⟩) ?_ ?_
                                    rotate_left; focus (intro w'; go_simp; with_reducible rfl)
                                    rotate_left; focus (simp only [Act.put, List.setIfInBounds_toArray, List.set_cons_zero, List.set_cons_succ, i64_w, i32_w]; rfl)
                                    refine pure_ (i := 1) (N := some 96) (v := ?_) (a' := ?_) #[true, true, false, false, false, false, false, false, false, false, false, false, false, false, false, false, false, false, false, false, false] rfl rfl (any_of HT_.out (by kernel_rfl)) (fun _ _ _ h => h) (Or.inl ⟨by rfl, ?_⟩) ?_ ?_
                                    rotate_left; focus (intro w'; go_simp; with_reducible rfl)
                                    rotate_left; focus (simp only [Act.put, List.setIfInBounds_toArray, List.set_cons_zero, List.set_cons_succ, i64_w, i32_w]; rfl)
                                    refine pure_ (i := 2) (N := some 97) (v := ?_) (a' := ?_) #[true, true, true, false, false, false, false, false, false, false, false, false, false, false, false, false, false, false, false, false, false] rfl rfl (any_of HT_.out (by kernel_rfl)) (fun _ _ _ h => h) (Or.inl ⟨by rfl, ?_⟩) ?_ ?_
                                    rotate_left; focus (intro w'; go_simp; with_reducible rfl)
                                    rotate_left; focus (simp only [Act.put, List.setIfInBounds_toArray, List.set_cons_zero, List.set_cons_succ, i64_w, i32_w]; rfl)
                                    refine pure_ (i := 3) (N := some 98) (v := ?_) (a' := ?_) #[true, true, true, true, false, false, false, false, false, false, false, false, false, false, false, false, false, false, false, false, false] rfl rfl (any_of HT_.out (by kernel_rfl)) (fun _ _ _ h => h) (Or.inl ⟨by rfl, ?_⟩) ?_ ?_
                                    rotate_left; focus (intro w'; go_simp; with_reducible rfl)
                                    rotate_left; focus (simp only [Act.put, List.setIfInBounds_toArray, List.set_cons_zero, List.set_cons_succ, i64_w, i32_w]; rfl)
                                    refine pure_ (i := 5) (N := some 100) (v := ?_) (a' := ?_) #[true, true, true, true, false, true, false, false, false, false, false, false, false, false, false, false, false, false, false, false, false] rfl rfl (any_of HT_.out (by kernel_rfl)) (fun _ _ _ h => h) (Or.inl ⟨by rfl, ?_⟩) ?_ ?_
                                    rotate_left; focus (intro w'; go_simp; with_reducible rfl)
                                    rotate_left; focus (simp only [Act.put, List.setIfInBounds_toArray, List.set_cons_zero, List.set_cons_succ, i64_w, i32_w]; rfl)
                                    refine pure_ (i := 6) (N := some 101) (v := ?_) (a' := ?_) #[true, true, true, true, false, true, true, false, false, false, false, false, false, false, false, false, false, false, false, false, false] rfl rfl (any_of HT_.out (by kernel_rfl)) (fun _ _ _ h => h) (Or.inl ⟨by rfl, ?_⟩) ?_ ?_
                                    rotate_left; focus (intro w'; go_simp; with_reducible rfl)
                                    rotate_left; focus (simp only [Act.put, List.setIfInBounds_toArray, List.set_cons_zero, List.set_cons_succ, i64_w, i32_w]; rfl)
                                    refine pure_ (i := 7) (N := some 102) (v := ?_) (a' := ?_) #[true, true, true, true, false, true, true, true, false, false, false, false, false, false, false, false, false, false, false, false, false] rfl rfl (any_of HT_.out (by kernel_rfl)) (fun _ _ _ h => h) (Or.inl ⟨by rfl, ?_⟩) ?_ ?_
                                    rotate_left; focus (intro w'; go_simp; with_reducible rfl)
                                    rotate_left; focus (simp only [Act.put, List.setIfInBounds_toArray, List.set_cons_zero, List.set_cons_succ, i64_w, i32_w]; rfl)
                                    refine take_ (i := 4) (N := some 99) (v := ?_) (a' := ?_) #[true, true, true, true, true, true, true, true, false, false, false, false, false, false, false, false, false, false, false, false, false] rfl rfl (take_ofW HT_.out HW_.out (by kernel_rfl)) (fun _ _ _ h => h) (Or.inl ⟨by rfl, ?_⟩) hHeld ?_ ?_
                                    rotate_left
                                    · rintro w' ⟨s0, s1, s2, s3, s4, s5⟩
                                      go_simp
                                      with_reducible rfl
                                    rotate_left; focus (simp only [Act.put, List.setIfInBounds_toArray, List.set_cons_zero, List.set_cons_succ, i64_w, i32_w]; rfl)
                                    refine take_ (i := 8) (N := some 103) (v := ?_) (a' := ?_) #[true, true, true, true, true, true, true, true, true, false, false, false, false, false, false, false, false, false, false, false, false] rfl rfl (take_ofW HT_.out HW_.out (by kernel_rfl)) (fun _ _ _ h => h) (Or.inl ⟨by rfl, ?_⟩) hHeld ?_ ?_
                                    rotate_left
                                    · rintro w' ⟨s0, s1, s2, s3, s4, s5⟩
                                      go_simp
                                      with_reducible rfl
                                    rotate_left; focus (simp only [Act.put, List.setIfInBounds_toArray, List.set_cons_zero, List.set_cons_succ, i64_w, i32_w]; rfl)
                                    refine one_ (i := 9) (N := some 104) #[true, true, true, true, true, true, true, true, true, true, false, false, false, false, false, false, false, false, false, false, false] rfl rfl (one_of HT_.out (by kernel_rfl)) (by decide) (fun K hK => ?_)
                                    refine goes_ Try.func9 (by kernel_rfl) rfl #[.agg #[.int .i64 ((rd_T23 t325 0).f0), .int .i64 ((rd_T23 t325 0).f1), .int .i64 ((rd_T23 t325 0).f2)], .agg #[.int .i64 ((rd_T23 y318 t324).f0), .int .i64 ((rd_T23 y318 t324).f1), .int .i64 ((rd_T23 y318 t324).f2)]] (by rfl) rfl rfl (by (try simp only [List.map_toArray, List.map_cons, List.map_nil]); first | done | rfl | (simp only [List.length_drop, List.length_take]; rfl)) ?_
                                    with_reducible refine (option_Less.calls ((rd_T23 t325 0).f0) ((rd_T23 t325 0).f1) ((rd_T23 t325 0).f2) ((rd_T23 y318 t324).f0) ((rd_T23 y318 t324).f1) ((rd_T23 y318 t324).f2) false _ A26.out).mono ?_
                                    rintro e w45 ⟨rfl, hb⟩
                                    have HS0_ := (hb.cell (World.block_lt_of_cell? _ _ (hHeld.1))).trans (hHeld.1)
                                    have HS1_ := (hb.cell (World.block_lt_of_cell? _ _ (hHeld.2.1))).trans (hHeld.2.1)
                                    have HS2_ := (hb.cell (World.block_lt_of_cell? _ _ (hHeld.2.2.1))).trans (hHeld.2.2.1)
                                    have HS3_ := (hb.cell (World.block_lt_of_cell? _ _ (hHeld.2.2.2.1))).trans (hHeld.2.2.2.1)
                                    have HS4_ := (hb.cell (World.block_lt_of_cell? _ _ (hHeld.2.2.2.2.1))).trans (hHeld.2.2.2.2.1)
                                    have HS5_ := (hb.cell (World.block_lt_of_cell? _ _ (hHeld.2.2.2.2.2))).trans (hHeld.2.2.2.2.2)
                                    refine ⟨_, rfl, ?_⟩
                                    have n0_ := Aside0.mk (Kd.R_below (by (with_reducible repeat (first | apply Kd.R_alloc | apply Kd.R_drewN | apply Kd.R_drew)); exact HO320.out) hb)
                                    have n1_ := Aside0.mk (Kd.R_below (by (with_reducible repeat (first | apply Kd.R_alloc | apply Kd.R_drewN | apply Kd.R_drew)); exact HO323.out) hb)
                                    have n2_ := Aside0.mk (Kd.R_below (by (with_reducible repeat (first | apply Kd.R_alloc | apply Kd.R_drewN | apply Kd.R_drew)); exact HO327.out) hb)
                                    have n3_ := Aside0.mk (Kd.R_below (by (with_reducible repeat (first | apply Kd.R_alloc | apply Kd.R_drewN | apply Kd.R_drew)); exact HO330.out) hb)
                                    have n4_ := bs HB hb
                                    clear HO320
                                    clear HO323
                                    clear HO327
                                    clear HO330
                                    clear HB
                                    have HO320 := n0_
                                    have HO323 := n1_
                                    have HO327 := n2_
                                    have HO330 := n3_
                                    have HB := n4_
                                    clear n0_ n1_ n2_ n3_ n4_
                                    (try clear hb)
                                    (try clear hb2)
                                    (try clear hk)
                                    (try clear hi)
                                    have q46 : (1 : Int) ≤ ((t321.length : Int) : Int) := of_decide_eq_true (by first | (with_reducible assumption) | assumption)
                                    obtain ⟨i046, hi046, _, hsz46, _⟩ := info_parts info23
                                    have hroom46 : t321.length ≤ co40 := (Kd.R_reads' HO323.out).2.1
                                    have hC46 : Kd.C k23 _ Ao40 t321.length t321 := (Kd.R_reads' HO323.out).2.2
                                    have hcut46 := cut_from (P := Try.prog) 40 23 .i64 Try.underlying40 hi046 3 hsz46 Ao40 t321.length co40 1 (by omega) q46
                                    have hr46 := Kd.C_drop (m := (1 : Int).toNat) (c := co40) hC46 (by omega) hroom46
                                    obtain ⟨A46, hA46⟩ : ∃ A1, A1 = (if co40 = (1 : Int).toNat then Ao40 else (Ao40 : Option Addr).map (·.add ((1 : Int).toNat * 3))) := ⟨_, rfl⟩
                                    obtain ⟨c46, hc46⟩ : ∃ c1, c1 = co40 - (1 : Int).toNat := ⟨_, rfl⟩
                                    have hy46 : y336.length = t321.length - (1 : Int).toNat := (by rw [Ny336.out, List.length_drop] <;> omega)
                                    rw [show (t321).drop (1 : Int).toNat = y336 from Ny336.out.symm] at hr46
                                    replace hr46 : Kd.C k23 _ A46 y336.length y336 := (by rw [hA46]; exact hr46)
                                    rw [← hy46, ← hA46, ← hc46] at hcut46
                                    have HR339 := Aside0.mk hr46
                                    have HC339 := Aside0.mk (show y336.length ≤ c46 from by rw [hy46, hc46]; exact Nat.sub_le_sub_right hroom46 _)
                                    clear hr46 hC46 hroom46 hi046 hsz46 hc46
                                    have KY46 := Aside0.mk hy46
                                    have KA46 := Aside0.mk hA46
                                    clear hy46 hA46
                                    have KL46 := Aside0.mk (show 1 ≤ t321.length from by omega)
                                    replace q46 := eq_true q46
                                    refine hK.out _ _ ⟨HS0_, HS1_, HS2_, HS3_, HS4_, HS5_⟩ (fun hHeld => ?_)
                                    clear hK K
                                    refine norm_ (a' := ?_) ?_ ?_
                                    rotate_left
                                    · show Act.put _ (some 104) _ = _
                                      simp only [Act.put, List.setIfInBounds_toArray, List.set_cons_zero, List.set_cons_succ, i64_w, i32_w]
                                      rfl
                                    refine pure_ (i := 10) (N := some 105) (v := ?_) (a' := ?_) #[true, true, true, true, true, true, true, true, true, true, true, false, false, false, false, false, false, false, false, false, false] rfl rfl (any_of HT_.out (by kernel_rfl)) (fun _ _ _ h => h) (Or.inl ⟨by rfl, ?_⟩) ?_ ?_
                                    rotate_left; focus (intro w'; go_simp; with_reducible rfl)
                                    rotate_left; focus (simp only [Act.put, List.setIfInBounds_toArray, List.set_cons_zero, List.set_cons_succ, i64_w, i32_w]; rfl)
                                    refine pure_ (i := 11) (N := some 106) (v := ?_) (a' := ?_) #[true, true, true, true, true, true, true, true, true, true, true, true, false, false, false, false, false, false, false, false, false] rfl rfl (any_of HT_.out (by kernel_rfl)) (fun _ _ _ h => h) (Or.inl ⟨by rfl, ?_⟩) ?_ ?_
                                    rotate_left; focus (intro w'; go_simp; with_reducible rfl)
                                    rotate_left; focus (simp only [Act.put, List.setIfInBounds_toArray, List.set_cons_zero, List.set_cons_succ, i64_w, i32_w]; rfl)
                                    refine pure_ (i := 12) (N := some 107) (v := ?_) (a' := ?_) #[true, true, true, true, true, true, true, true, true, true, true, true, true, false, false, false, false, false, false, false, false] rfl rfl (any_of HT_.out (by kernel_rfl)) (fun _ _ _ h => h) (Or.inl ⟨by rfl, ?_⟩) ?_ ?_
                                    rotate_left; focus (intro w'; go_simp; with_reducible rfl)
                                    rotate_left; focus (simp only [Act.put, List.setIfInBounds_toArray, List.set_cons_zero, List.set_cons_succ, i64_w, i32_w]; rfl)
                                    refine pure_ (i := 13) (N := some 108) (v := ?_) (a' := ?_) #[true, true, true, true, true, true, true, true, true, true, true, true, true, true, false, false, false, false, false, false, false] rfl rfl (any_of HT_.out (by kernel_rfl)) (fun _ _ _ h => h) (Or.inl ⟨by rfl, ?_⟩) ?_ ?_
                                    rotate_left; focus (intro w'; go_simp; with_reducible rfl)
                                    rotate_left; focus (simp only [Act.put, List.setIfInBounds_toArray, List.set_cons_zero, List.set_cons_succ, i64_w, i32_w]; rfl)
                                    refine pure_ (i := 14) (N := some 109) (v := ?_) (a' := ?_) #[true, true, true, true, true, true, true, true, true, true, true, true, true, true, true, false, false, false, false, false, false] rfl rfl (any_of HT_.out (by kernel_rfl)) (fun _ _ _ h => h) (Or.inl ⟨by rfl, ?_⟩) ?_ ?_
                                    rotate_left; focus (intro w'; go_simp; with_reducible rfl)
                                    rotate_left; focus (simp only [Act.put, List.setIfInBounds_toArray, List.set_cons_zero, List.set_cons_succ, i64_w, i32_w]; rfl)
                                    refine pure_ (i := 16) (N := some 111) (v := ?_) (a' := ?_) #[true, true, true, true, true, true, true, true, true, true, true, true, true, true, true, false, true, false, false, false, false] rfl rfl (any_of HT_.out (by kernel_rfl)) (fun _ _ _ h => h) (Or.inl ⟨by rfl, ?_⟩) ?_ ?_
                                    rotate_left; focus (intro w'; go_simp; with_reducible rfl)
                                    rotate_left; focus (simp only [Act.put, List.setIfInBounds_toArray, List.set_cons_zero, List.set_cons_succ, i64_w, i32_w]; rfl)
                                    refine pure_ (i := 17) (N := some 112) (v := ?_) (a' := ?_) #[true, true, true, true, true, true, true, true, true, true, true, true, true, true, true, false, true, true, false, false, false] rfl rfl (any_of HT_.out (by kernel_rfl)) (fun _ _ _ h => h) (Or.inl ⟨by rfl, ?_⟩) ?_ ?_
                                    rotate_left; focus (intro w'; go_simp; with_reducible rfl)
                                    rotate_left; focus (simp only [Act.put, List.setIfInBounds_toArray, List.set_cons_zero, List.set_cons_succ, i64_w, i32_w]; rfl)
                                    refine one_ (i := 15) (N := some 110) #[true, true, true, true, true, true, true, true, true, true, true, true, true, true, true, true, true, true, false, false, false] rfl rfl (one_of HT_.out (by kernel_rfl)) (by decide) (fun K hK => ?_)
                                    refine goes_ Try.func17 (by kernel_rfl) rfl #[.slice A46 y336.length c46] (by rfl) rfl rfl (by (try simp only [List.map_toArray, List.map_cons, List.map_nil]); first | done | rfl | (simp only [List.length_drop, List.length_take]; rfl)) ?_
                                    with_reducible refine (option_Sort.calls _ _ y336 t340 _ ?side1 ?side2 A29.out).mono ?_
                                    (case side1 => repeat (first | exact (by repeat (first | (with_reducible exact HR339.out) | (with_reducible refine Kd.C_alloc ?_ _) | (with_reducible refine Kd.C_drewN ?_ _) | (with_reducible refine Kd.C_drew ?_) | exact HR339.out)) | (with_reducible refine Kd.C_alloc ?_ _) | (with_reducible refine Kd.C_drewN ?_ _) | (with_reducible refine Kd.C_drew ?_)))
                                    (case side2 => exact HC339.out)
                                    rintro e w47 ⟨v341, rfl, ho0, hb⟩
                                    have HS0_ := (hb.cell (World.block_lt_of_cell? _ _ (hHeld.1))).trans (hHeld.1)
                                    have HS1_ := (hb.cell (World.block_lt_of_cell? _ _ (hHeld.2.1))).trans (hHeld.2.1)
                                    have HS2_ := (hb.cell (World.block_lt_of_cell? _ _ (hHeld.2.2.1))).trans (hHeld.2.2.1)
                                    have HS3_ := (hb.cell (World.block_lt_of_cell? _ _ (hHeld.2.2.2.1))).trans (hHeld.2.2.2.1)
                                    have HS4_ := (hb.cell (World.block_lt_of_cell? _ _ (hHeld.2.2.2.2.1))).trans (hHeld.2.2.2.2.1)
                                    have HS5_ := (hb.cell (World.block_lt_of_cell? _ _ (hHeld.2.2.2.2.2))).trans (hHeld.2.2.2.2.2)
                                    refine ⟨_, rfl, ?_⟩
                                    have n0_ := Aside0.mk (Kd.R_elder' (by (with_reducible repeat (first | apply Kd.R_alloc | apply Kd.R_drewN | apply Kd.R_drew)); exact HO320.out) (Kd.R_base ho0) hb)
                                    have n1_ := Aside0.mk (Kd.R_elder' (by (with_reducible repeat (first | apply Kd.R_alloc | apply Kd.R_drewN | apply Kd.R_drew)); exact HO323.out) (Kd.R_base ho0) hb)
                                    have n2_ := Aside0.mk (Kd.R_elder' (by (with_reducible repeat (first | apply Kd.R_alloc | apply Kd.R_drewN | apply Kd.R_drew)); exact HO327.out) (Kd.R_base ho0) hb)
                                    have n3_ := Aside0.mk (Kd.R_elder' (by (with_reducible repeat (first | apply Kd.R_alloc | apply Kd.R_drewN | apply Kd.R_drew)); exact HO330.out) (Kd.R_base ho0) hb)
                                    have n4_ := Aside0.mk (Kd.R_lower (Kd.R_new' (Kd.R_new' (Kd.R_new' (Kd.R_new' ho0 (Kd.R_lt (by (with_reducible repeat (first | apply Kd.R_alloc | apply Kd.R_drewN | apply Kd.R_drew)); exact HO320.out))) (Kd.R_lt (by (with_reducible repeat (first | apply Kd.R_alloc | apply Kd.R_drewN | apply Kd.R_drew)); exact HO323.out))) (Kd.R_lt (by (with_reducible repeat (first | apply Kd.R_alloc | apply Kd.R_drewN | apply Kd.R_drew)); exact HO327.out))) (Kd.R_lt (by (with_reducible repeat (first | apply Kd.R_alloc | apply Kd.R_drewN | apply Kd.R_drew)); exact HO330.out))) (below_size (by repeat (first | (with_reducible first | exact HB.out | apply below_alloc | apply pw_below_drewN | apply below_drew1) | exact HB.out))))
                                    have n5_ := Aside0.mk (Kd.C_below (by repeat (first | (with_reducible exact HR339.out) | (with_reducible refine Kd.C_alloc ?_ _) | (with_reducible refine Kd.C_drewN ?_ _) | (with_reducible refine Kd.C_drew ?_) | exact HR339.out)) hb)
                                    have n6_ := bs HB hb
                                    clear HO320
                                    clear HO323
                                    clear HO327
                                    clear HO330
                                    clear HR339
                                    clear HB
                                    have HO320 := n0_
                                    have HO323 := n1_
                                    have HO327 := n2_
                                    have HO330 := n3_
                                    have HO342 := n4_
                                    have HR339 := n5_
                                    have HB := n6_
                                    clear n0_ n1_ n2_ n3_ n4_ n5_ n6_
                                    (try clear hb)
                                    (try clear hb2)
                                    (try clear hk)
                                    (try clear hi)
                                    (try clear ho0)
                                    obtain ⟨Ao49, co49, eo49⟩ := Kd.R_slice HO342.out
                                    (first | subst eo49 | (injection eo49 with f1_ f2_ f3_; have f4_ := f1_.symm; have f5_ := f3_.symm; clear f1_ f2_ f3_; subst f4_; subst f5_))
                                    refine hK.out _ _ ⟨HS0_, HS1_, HS2_, HS3_, HS4_, HS5_⟩ (fun hHeld => ?_)
                                    clear hK K
                                    refine norm_ (a' := ?_) ?_ ?_
                                    rotate_left
                                    · show Act.put _ (some 110) _ = _
                                      simp only [Act.put, List.setIfInBounds_toArray, List.set_cons_zero, List.set_cons_succ, i64_w, i32_w]
                                      rfl
                                    refine one_ (i := 18) (N := some 113) #[true, true, true, true, true, true, true, true, true, true, true, true, true, true, true, true, true, true, true, false, false] rfl rfl (one_of HT_.out (by kernel_rfl)) (by decide) (fun K hK => ?_)
                                    refine goes_ Try.func16 (by kernel_rfl) rfl #[.slice Ao49 t340.length co49, .slice A46 y336.length c46] (by rfl) rfl rfl (by (try simp only [List.map_toArray, List.map_cons, List.map_nil]); first | done | rfl | (simp only [List.length_drop, List.length_take]; rfl)) ?_
                                    with_reducible refine (fuseeref14_Same.calls k _ _ t340 _ _ y336 t347 _ ?side1 ?side2 ?side3 ?side4 A31.out).mono ?_
                                    (case side1 => repeat (first | exact (Kd.R_reads' HO342.out).2.2 | (with_reducible refine Kd.C_alloc ?_ _) | (with_reducible refine Kd.C_drewN ?_ _) | (with_reducible refine Kd.C_drew ?_)))
                                    (case side2 => exact (Kd.R_reads' HO342.out).2.1)
                                    (case side3 => repeat (first | exact (by repeat (first | (with_reducible exact HR339.out) | (with_reducible refine Kd.C_alloc ?_ _) | (with_reducible refine Kd.C_drewN ?_ _) | (with_reducible refine Kd.C_drew ?_) | exact HR339.out)) | (with_reducible refine Kd.C_alloc ?_ _) | (with_reducible refine Kd.C_drewN ?_ _) | (with_reducible refine Kd.C_drew ?_)))
                                    (case side4 => exact HC339.out)
                                    rintro e w' ⟨rfl, ⟨nd, rfl⟩⟩
                                    refine ⟨_, rfl, ?_⟩
                                    refine hK.out _ _ ⟨hHeld.1, hHeld.2.1, hHeld.2.2.1, hHeld.2.2.2.1, hHeld.2.2.2.2.1, hHeld.2.2.2.2.2⟩ (fun hHeld => ?_)
                                    clear hK K
                                    refine norm_ (a' := ?_) ?_ ?_
                                    rotate_left
                                    · show Act.put _ (some 113) _ = _
                                      simp only [Act.put, List.setIfInBounds_toArray, List.set_cons_zero, List.set_cons_succ, i64_w, i32_w]
                                      rfl
                                    refine pure_ (i := 19) (N := some 114) (v := ?_) (a' := ?_) #[true, true, true, true, true, true, true, true, true, true, true, true, true, true, true, true, true, true, true, true, false] rfl rfl (any_of HT_.out (by kernel_rfl)) (fun _ _ _ h => h) (Or.inl ⟨by rfl, ?_⟩) ?_ ?_
                                    rotate_left; focus (intro w'; go_simp; with_reducible rfl)
                                    rotate_left; focus (simp only [Act.put, List.setIfInBounds_toArray, List.set_cons_zero, List.set_cons_succ, i64_w, i32_w]; rfl)
                                    refine pure_ (i := 20) (N := some 4) (v := ?_) (a' := ?_) #[true, true, true, true, true, true, true, true, true, true, true, true, true, true, true, true, true, true, true, true, true] rfl rfl (any_of HT_.out (by kernel_rfl)) (fun _ _ _ h => h) (Or.inl ⟨by rfl, ?_⟩) ?_ ?_
                                    rotate_left; focus (intro w'; go_simp; with_reducible rfl)
                                    rotate_left; focus (simp only [Act.put, List.setIfInBounds_toArray, List.set_cons_zero, List.set_cons_succ, i64_w, i32_w]; rfl)
                                    refine done_ (done_of HT_.out (by kernel_rfl)) ?_
                                    try go_wp2
                                    go_ret
                                    exact ⟨by first | rfl | (simp [errW_none, errW_some] <;> rfl) | (simp [*, errW_none, errW_some] <;> rfl) | (exfalso; first | contradiction | (revert c9b0 c17b0 c20b0 c21b0 c25b0; simp +contextual; done)), by repeat (first | (with_reducible first | exact HB.out | apply below_alloc | apply pw_below_drewN | apply below_drew1) | exact HB.out)⟩
                                  · rw [if_neg c28] at H
                                    exact absurd H (by simp)
                              · rw [if_neg c25] at H
                                have c25b0 : (((rd_T23 y318 t324).f0) == ((rd_T23 t325 0).f0) && (((rd_T23 y318 t324).f1) == ((rd_T23 t325 0).f1) && (((rd_T23 y318 t324).f2) == ((rd_T23 t325 0).f2)))) = false := by simpa using c25
                                (try (have c25b1 : decide (((rd_T23 y318 t324).f0) = ((rd_T23 t325 0).f0) && (((rd_T23 y318 t324).f1) == ((rd_T23 t325 0).f1) && (((rd_T23 y318 t324).f2) == ((rd_T23 t325 0).f2)))) = false := by simpa using c25))
                                (try (have c25b2 : (((rd_T23 y318 t324).f0) == ((rd_T23 t325 0).f0) && (((rd_T23 y318 t324).f1) == ((rd_T23 t325 0).f1) && (((rd_T23 y318 t324).f2) == ((rd_T23 t325 0).f2)))) = false := by simpa using c25))
                                (try (have c25b3 : ¬ (((rd_T23 y318 t324).f0) = ((rd_T23 t325 0).f0) && (((rd_T23 y318 t324).f1) == ((rd_T23 t325 0).f1) && (((rd_T23 y318 t324).f2) == ((rd_T23 t325 0).f2)))) := by simpa using c25))
                                clear c25
                                by_cases c50 : (t328.length : Int) > 0
                                · rw [if_pos c50] at H
                                  have c50b0 : decide (0 < (t328.length : Int)) = true := decide_eq_true c50
                                  have c50b1 : decide (0 < t328.length) = true := decide_eq_true (by omega)
                                  clear c50
                                  by_cases c51 : 0 < (t328.length : Int)
                                  · rw [if_pos c51] at H
                                    have c51b0 : decide (0 < (t328.length : Int)) = true := decide_eq_true c51
                                    have c51b1 : decide (0 < t328.length) = true := decide_eq_true (by omega)
                                    clear c51
                                    by_cases c52 : (((rd_T23 y318 t324).f0) == ((rd_T23 t328 0).f0) && (((rd_T23 y318 t324).f1) == ((rd_T23 t328 0).f1) && (((rd_T23 y318 t324).f2) == ((rd_T23 t328 0).f2)))) = true
                                    · rw [if_pos c52] at H
                                      have c52b0 : (((rd_T23 y318 t324).f0) == ((rd_T23 t328 0).f0) && (((rd_T23 y318 t324).f1) == ((rd_T23 t328 0).f1) && (((rd_T23 y318 t324).f2) == ((rd_T23 t328 0).f2)))) = true := c52
                                      (try (have c52b1 : decide (((rd_T23 y318 t324).f0) = ((rd_T23 t328 0).f0) && (((rd_T23 y318 t324).f1) == ((rd_T23 t328 0).f1) && (((rd_T23 y318 t324).f2) == ((rd_T23 t328 0).f2)))) = true := by simpa using c52))
                                      (try (have c52b2 : (((rd_T23 y318 t324).f0) == ((rd_T23 t328 0).f0) && (((rd_T23 y318 t324).f1) == ((rd_T23 t328 0).f1) && (((rd_T23 y318 t324).f2) == ((rd_T23 t328 0).f2)))) = true := by simpa using c52))
                                      clear c52
                                      replace H := Option.bind_eq_some_iff.mp H
                                      obtain ⟨t352, A530, H⟩ := H
                                      try dsimp only at H
                                      have A53 := Aside0.mk A530
                                      clear A530
                                      by_cases c54 : t352 = true
                                      · subst c54
                                        rw [if_pos rfl] at H
                                        exact absurd H (by simp)
                                      · replace c54 := Bool.eq_false_iff.mpr c54
                                        subst c54
                                        rw [if_neg (show ¬ (false = true) by decide)] at H
                                        by_cases c55 : 1 ≤ (t321.length : Int)
                                        · rw [if_pos c55] at H
                                          have c55b0 := eq_true c55
                                          have c55b1 : decide (1 ≤ (t321.length : Int)) = true := decide_eq_true c55
                                          clear c55
                                          obtain ⟨y353, hy353⟩ : ∃ y_ : List (S23), y_ = (t321.drop 1) := ⟨_, rfl⟩
                                          replace H : ((option_Sort.f y353).bind fun t357 => ((fuseeref14_Same.f k t357 (t321.drop 1)).bind fun t364 => (some t364))) = some r := by first | (rw [hy353]; with_reducible exact H) | (have H2_ := (Option.bind_some _ _).symm.trans H; rw [hy353]; with_reducible exact H2_) | (have H2_ := (Option.bind_some _ _).symm.trans H; with_reducible exact H2_) | with_reducible exact H | (rw [hy353]; exact H) | exact H
                                          have Ny353 := Aside0.mk hy353
                                          clear hy353
                                          replace H := Option.bind_eq_some_iff.mp H
                                          obtain ⟨t357, A560, H⟩ := H
                                          try dsimp only at H
                                          have A56 := Aside0.mk A560
                                          clear A560
                                          have c57b0 := eq_true (of_decide_eq_true (by first | (with_reducible assumption) | assumption) : 1 ≤ (t321.length : Int))
                                          obtain ⟨y360, hy360⟩ : ∃ y_ : List (S23), y_ = (t321.drop 1) := ⟨_, rfl⟩
                                          replace H : ((fuseeref14_Same.f k t357 y360).bind fun t364 => (some t364)) = some r := by first | (rw [hy360]; with_reducible exact H) | (have H2_ := (Option.bind_some _ _).symm.trans H; rw [hy360]; with_reducible exact H2_) | (have H2_ := (Option.bind_some _ _).symm.trans H; with_reducible exact H2_) | with_reducible exact H | (rw [hy360]; exact H) | exact H
                                          have Ny360 := Aside0.mk hy360
                                          obtain rfl : y353 = y360 := Ny353.out.trans Ny360.out.symm
                                          clear hy360
                                          replace H := Option.bind_eq_some_iff.mp H
                                          obtain ⟨t364, A580, H⟩ := H
                                          try dsimp only at H
                                          have A58 := Aside0.mk A580
                                          clear A580
                                          obtain rfl := Option.some.inj H
                                          go_enter Try.func7, Try.ntmps7
                                          try go_wp2_with (first | ((with_reducible refine gate_callee (f := 8) rfl ?_); refine goesL_ (some 12) rfl rfl Try.func8 (by kernel_rfl) rfl #[] rfl (by (try simp only [List.map_toArray, List.map_cons, List.map_nil]); first | done | rfl | (simp only [List.length_drop, List.length_take]; rfl)) ?_; (with_reducible refine (fuseelaw14_awake.calls k  true _ A3.out).mono ?_); rintro e w59 ⟨rfl, hb⟩; refine ⟨_, rfl, ?_⟩; have n0_ := bs HB hb; clear HB; have HB := n0_; clear n0_; (try clear hb); (try clear hb2); (try clear hk); (try clear hi)) | ((with_reducible refine gate_builtin (b := .append) (xs := #[.const (.slice none 0 0), .tmp 31]) rfl ?_); (try (refine gate_guard (by rfl) ?_; dsimp only)); at_builtin; refine Kd.R_append_rows k23 (w0 := w) w.heap.size rfl (.const (.slice none 0 0)) (.tmp 31) 40 23 (.agg #[(.int .i64 0), (.int .i64 0), (.int .i64 0)]) 24 rfl Try.underlying40 info23 rfl (by decide) (by omega) (.slice none 0 0) ([] : List (S23)) l0 _ _ _ (fun _ => True) (fun _ => False) rfl rfl ?aO ?aR (fun _ _ h => h) (fun _ h => h.elim) ?aF ?aB ?aS ?aL ?_; (case aR => repeat (first | exact (Kd.C_below HR0.out HB.out) | (with_reducible refine Kd.C_alloc ?_ _) | (with_reducible refine Kd.C_drewN ?_ _) | (with_reducible refine Kd.C_drew ?_))); (case aB => exact (by repeat (first | (with_reducible first | exact HB.out | apply below_alloc | apply pw_below_drewN | apply below_drew1) | exact HB.out))); (case aF => exact (fun _ _ => trivial)); (case aO => exact ((Kd.R_nil _ _ _ _ (fun _ => True)))); (case aS => exact (below_size (by repeat (first | (with_reducible first | exact HB.out | apply below_alloc | apply pw_below_drewN | apply below_drew1) | exact HB.out)))); (case aL => have := LMc11.out; omega); intro v316 w60 ho hb hg hat; rw [← Ny315.out] at ho; have n0_ := Aside0.mk (hb); have n1_ := Aside0.mk (ho); clear HB; have HB := n0_; have HO317 := n1_; clear n0_ n1_; clear ho hb hg hat) | ((with_reducible refine gate_builtin (b := .append) (xs := #[.tmp 32, .tmp 33]) rfl ?_); (try (refine gate_guard (by rfl) ?_; dsimp only)); at_builtin; refine Kd.R_append_rows k23 (w0 := w) w.heap.size rfl (.tmp 32) (.tmp 33) 40 23 (.agg #[(.int .i64 0), (.int .i64 0), (.int .i64 0)]) 24 rfl Try.underlying40 info23 rfl (by decide) (by omega) v316 y315 l1 _ _ _ (fun _ => True) (fun _ => False) rfl rfl ?aO ?aR (fun _ _ h => h) (fun _ h => h.elim) ?aF ?aB ?aS ?aL ?_; (case aR => repeat (first | exact (Kd.C_below HR1.out HB.out) | (with_reducible refine Kd.C_alloc ?_ _) | (with_reducible refine Kd.C_drewN ?_ _) | (with_reducible refine Kd.C_drew ?_))); (case aB => exact (by repeat (first | (with_reducible first | exact HB.out | apply below_alloc | apply pw_below_drewN | apply below_drew1) | exact HB.out))); (case aF => exact (fun _ _ => trivial)); (case aO => exact (by (with_reducible repeat (first | apply Kd.R_alloc | apply Kd.R_drewN | apply Kd.R_drew)); exact HO317.out)); (case aS => exact (below_size (by repeat (first | (with_reducible first | exact HB.out | apply below_alloc | apply pw_below_drewN | apply below_drew1) | exact HB.out)))); (case aL => have := LMc12.out; omega); intro v319 w61 ho hb hg hat; rw [← Ny318.out] at ho; have n0_ := Aside0.mk (hb); have n1_ := Aside0.mk (ho); clear HB; clear HO317; have HB := n0_; have HO320 := n1_; clear n0_ n1_; clear ho hb hg hat; obtain ⟨Ao62, co62, eo62⟩ := Kd.R_slice HO320.out; subst eo62) | ((with_reducible refine gate_callee (f := 17) rfl ?_); refine goesL_ (some 36) rfl rfl Try.func17 (by kernel_rfl) rfl #[.slice Ao62 y318.length co62] rfl (by (try simp only [List.map_toArray, List.map_cons, List.map_nil]); first | done | rfl | (simp only [List.length_drop, List.length_take]; rfl)) ?_; (with_reducible refine (option_Sort.calls _ _ y318 t321 _ ?side1 ?side2 A13.out).mono ?_); (case side1 => repeat (first | exact (Kd.R_reads' HO320.out).2.2 | (with_reducible refine Kd.C_alloc ?_ _) | (with_reducible refine Kd.C_drewN ?_ _) | (with_reducible refine Kd.C_drew ?_))); (case side2 => exact (Kd.R_reads' HO320.out).2.1); rintro e w63 ⟨v322, rfl, ho0, hb⟩; refine ⟨_, rfl, ?_⟩; have n0_ := Aside0.mk (Kd.R_elder' (by (with_reducible repeat (first | apply Kd.R_alloc | apply Kd.R_drewN | apply Kd.R_drew)); exact HO320.out) (Kd.R_base ho0) hb); have n1_ := Aside0.mk (Kd.R_lower (Kd.R_new' ho0 (Kd.R_lt (by (with_reducible repeat (first | apply Kd.R_alloc | apply Kd.R_drewN | apply Kd.R_drew)); exact HO320.out))) (below_size (by repeat (first | (with_reducible first | exact HB.out | apply below_alloc | apply pw_below_drewN | apply below_drew1) | exact HB.out)))); have n2_ := bs HB hb; clear HO320; clear HB; have HO320 := n0_; have HO323 := n1_; have HB := n2_; clear n0_ n1_ n2_; (try clear hb); (try clear hb2); (try clear hk); (try clear hi); (try clear ho0)) | ((with_reducible refine gate_callee (f := 19) rfl ?_); refine goesL_ (some 38) rfl rfl Try.func19 (by kernel_rfl) rfl #[.slice Ao62 y318.length co62] rfl (by (try simp only [List.map_toArray, List.map_cons, List.map_nil]); first | done | rfl | (simp only [List.length_drop, List.length_take]; rfl)) ?_; (with_reducible refine (option_First.calls k _ _ y318 t324 _ ?side1 ?side2 A14.out).mono ?_); (case side1 => repeat (first | exact (Kd.R_reads' HO320.out).2.2 | (with_reducible refine Kd.C_alloc ?_ _) | (with_reducible refine Kd.C_drewN ?_ _) | (with_reducible refine Kd.C_drew ?_))); (case side2 => exact (Kd.R_reads' HO320.out).2.1); rintro e w64 ⟨rfl, hb⟩; refine ⟨_, rfl, ?_⟩; have n0_ := Aside0.mk (Kd.R_below (by (with_reducible repeat (first | apply Kd.R_alloc | apply Kd.R_drewN | apply Kd.R_drew)); exact HO320.out) hb); have n1_ := Aside0.mk (Kd.R_below (by (with_reducible repeat (first | apply Kd.R_alloc | apply Kd.R_drewN | apply Kd.R_drew)); exact HO323.out) hb); have n2_ := bs HB hb; clear HO320; clear HO323; clear HB; have HO320 := n0_; have HO323 := n1_; have HB := n2_; clear n0_ n1_ n2_; (try clear hb); (try clear hb2); (try clear hk); (try clear hi)) | ((with_reducible refine gate_callee (f := 17) rfl ?_); refine goesL_ (some 40) rfl rfl Try.func17 (by kernel_rfl) rfl #[.slice A0 l0.length c0] rfl (by (try simp only [List.map_toArray, List.map_cons, List.map_nil]); first | done | rfl | (simp only [List.length_drop, List.length_take]; rfl)) ?_; (with_reducible refine (option_Sort.calls _ _ l0 t325 _ ?side1 ?side2 A15.out).mono ?_); (case side1 => repeat (first | exact (Kd.C_below HR0.out HB.out) | (with_reducible refine Kd.C_alloc ?_ _) | (with_reducible refine Kd.C_drewN ?_ _) | (with_reducible refine Kd.C_drew ?_))); (case side2 => exact HC0.out); rintro e w65 ⟨v326, rfl, ho0, hb⟩; refine ⟨_, rfl, ?_⟩; have n0_ := Aside0.mk (Kd.R_elder' (by (with_reducible repeat (first | apply Kd.R_alloc | apply Kd.R_drewN | apply Kd.R_drew)); exact HO320.out) (Kd.R_base ho0) hb); have n1_ := Aside0.mk (Kd.R_elder' (by (with_reducible repeat (first | apply Kd.R_alloc | apply Kd.R_drewN | apply Kd.R_drew)); exact HO323.out) (Kd.R_base ho0) hb); have n2_ := Aside0.mk (Kd.R_lower (Kd.R_new' (Kd.R_new' ho0 (Kd.R_lt (by (with_reducible repeat (first | apply Kd.R_alloc | apply Kd.R_drewN | apply Kd.R_drew)); exact HO320.out))) (Kd.R_lt (by (with_reducible repeat (first | apply Kd.R_alloc | apply Kd.R_drewN | apply Kd.R_drew)); exact HO323.out))) (below_size (by repeat (first | (with_reducible first | exact HB.out | apply below_alloc | apply pw_below_drewN | apply below_drew1) | exact HB.out)))); have n3_ := bs HB hb; clear HO320; clear HO323; clear HB; have HO320 := n0_; have HO323 := n1_; have HO327 := n2_; have HB := n3_; clear n0_ n1_ n2_ n3_; (try clear hb); (try clear hb2); (try clear hk); (try clear hi); (try clear ho0)) | ((with_reducible refine gate_callee (f := 17) rfl ?_); refine goesL_ (some 42) rfl rfl Try.func17 (by kernel_rfl) rfl #[.slice A1 l1.length c1] rfl (by (try simp only [List.map_toArray, List.map_cons, List.map_nil]); first | done | rfl | (simp only [List.length_drop, List.length_take]; rfl)) ?_; (with_reducible refine (option_Sort.calls _ _ l1 t328 _ ?side1 ?side2 A16.out).mono ?_); (case side1 => repeat (first | exact (Kd.C_below HR1.out HB.out) | (with_reducible refine Kd.C_alloc ?_ _) | (with_reducible refine Kd.C_drewN ?_ _) | (with_reducible refine Kd.C_drew ?_))); (case side2 => exact HC1.out); rintro e w66 ⟨v329, rfl, ho0, hb⟩; refine ⟨_, rfl, ?_⟩; have n0_ := Aside0.mk (Kd.R_elder' (by (with_reducible repeat (first | apply Kd.R_alloc | apply Kd.R_drewN | apply Kd.R_drew)); exact HO320.out) (Kd.R_base ho0) hb); have n1_ := Aside0.mk (Kd.R_elder' (by (with_reducible repeat (first | apply Kd.R_alloc | apply Kd.R_drewN | apply Kd.R_drew)); exact HO323.out) (Kd.R_base ho0) hb); have n2_ := Aside0.mk (Kd.R_elder' (by (with_reducible repeat (first | apply Kd.R_alloc | apply Kd.R_drewN | apply Kd.R_drew)); exact HO327.out) (Kd.R_base ho0) hb); have n3_ := Aside0.mk (Kd.R_lower (Kd.R_new' (Kd.R_new' (Kd.R_new' ho0 (Kd.R_lt (by (with_reducible repeat (first | apply Kd.R_alloc | apply Kd.R_drewN | apply Kd.R_drew)); exact HO320.out))) (Kd.R_lt (by (with_reducible repeat (first | apply Kd.R_alloc | apply Kd.R_drewN | apply Kd.R_drew)); exact HO323.out))) (Kd.R_lt (by (with_reducible repeat (first | apply Kd.R_alloc | apply Kd.R_drewN | apply Kd.R_drew)); exact HO327.out))) (below_size (by repeat (first | (with_reducible first | exact HB.out | apply below_alloc | apply pw_below_drewN | apply below_drew1) | exact HB.out)))); have n4_ := bs HB hb; clear HO320; clear HO323; clear HO327; clear HB; have HO320 := n0_; have HO323 := n1_; have HO327 := n2_; have HO330 := n3_; have HB := n4_; clear n0_ n1_ n2_ n3_ n4_; (try clear hb); (try clear hb2); (try clear hk); (try clear hi); (try clear ho0); obtain ⟨Ao67, co67, eo67⟩ := Kd.R_slice HO323.out; subst eo67; obtain ⟨Ao68, co68, eo68⟩ := Kd.R_slice HO327.out; subst eo68; obtain ⟨Ao69, co69, eo69⟩ := Kd.R_slice HO330.out; subst eo69))
                                          have n0_ := Aside0.mk (Kd.R_drew HO320.out)
                                          have n1_ := Aside0.mk (Kd.R_drew HO323.out)
                                          have n2_ := Aside0.mk (Kd.R_drew HO327.out)
                                          have n3_ := Aside0.mk (Kd.R_drew HO330.out)
                                          have n4_ := Aside0.mk (below_drew1 HB.out)
                                          clear HO320
                                          clear HO323
                                          clear HO327
                                          clear HO330
                                          clear HB
                                          have HO320 := n0_
                                          have HO323 := n1_
                                          have HO327 := n2_
                                          have HO330 := n3_
                                          have HB := n4_
                                          clear n0_ n1_ n2_ n3_ n4_
                                          have p331 : 0 ≤ (t324 : Int) := of_decide_eq_true (by first | (with_reducible assumption) | assumption)
                                          have q331 : t324 < (y318.length : Int) := of_decide_eq_true (by first | (with_reducible assumption) | assumption)
                                          obtain ⟨ad331, e331, hx331_0, hx331_1, hx331_2⟩ := at_T23 (Kd.R_reads' HO320.out).2.2 t324 p331 q331
                                          cases e331
                                          replace p331 := eq_true p331
                                          replace q331 := eq_true q331
                                          have p332 : 0 ≤ (0 : Int) := (by omega)
                                          have q332 : 0 < (t325.length : Int) := of_decide_eq_true (by first | (with_reducible assumption) | assumption)
                                          obtain ⟨ad332, e332, hx332_0, hx332_1, hx332_2⟩ := at_T23 (Kd.R_reads' HO327.out).2.2 0 p332 q332
                                          cases e332
                                          have qi332 : (0 < t325.length) = True := eq_true (by omega)
                                          (try rw [show ((0 : Int)).toNat = 0 from rfl] at hx332_0)
                                          (try rw [show 0 * 3 = 0 from rfl] at hx332_0)
                                          (try rw [Addr.add_zero'] at hx332_0)
                                          (try rw [show ((0 : Int)).toNat = 0 from rfl] at hx332_1)
                                          (try rw [show 0 * 3 = 0 from rfl] at hx332_1)
                                          (try rw [Addr.add_zero'] at hx332_1)
                                          (try rw [show ((0 : Int)).toNat = 0 from rfl] at hx332_2)
                                          (try rw [show 0 * 3 = 0 from rfl] at hx332_2)
                                          (try rw [Addr.add_zero'] at hx332_2)
                                          replace p332 := eq_true p332
                                          replace q332 := eq_true q332
                                          have p348 : 0 ≤ (t324 : Int) := of_decide_eq_true (by first | (with_reducible assumption) | assumption)
                                          have q348 : t324 < (y318.length : Int) := of_decide_eq_true (by first | (with_reducible assumption) | assumption)
                                          obtain ⟨ad348, e348, hx348_0, hx348_1, hx348_2⟩ := at_T23 (Kd.R_reads' HO320.out).2.2 t324 p348 q348
                                          obtain rfl : ad331 = ad348 := (by injection e348)
                                          replace p348 := eq_true p348
                                          replace q348 := eq_true q348
                                          have p349 : 0 ≤ (0 : Int) := (by omega)
                                          have q349 : 0 < (t328.length : Int) := of_decide_eq_true (by first | (with_reducible assumption) | assumption)
                                          obtain ⟨ad349, e349, hx349_0, hx349_1, hx349_2⟩ := at_T23 (Kd.R_reads' HO330.out).2.2 0 p349 q349
                                          cases e349
                                          have qi349 : (0 < t328.length) = True := eq_true (by omega)
                                          (try rw [show ((0 : Int)).toNat = 0 from rfl] at hx349_0)
                                          (try rw [show 0 * 3 = 0 from rfl] at hx349_0)
                                          (try rw [Addr.add_zero'] at hx349_0)
                                          (try rw [show ((0 : Int)).toNat = 0 from rfl] at hx349_1)
                                          (try rw [show 0 * 3 = 0 from rfl] at hx349_1)
                                          (try rw [Addr.add_zero'] at hx349_1)
                                          (try rw [show ((0 : Int)).toNat = 0 from rfl] at hx349_2)
                                          (try rw [show 0 * 3 = 0 from rfl] at hx349_2)
                                          (try rw [Addr.add_zero'] at hx349_2)
                                          replace p349 := eq_true p349
                                          replace q349 := eq_true q349
                                          refine start_ (n := 24) (S := fun w' => w'.cell? (ad331.add ((t324).toNat * 3)) = some (.int .i64 ((rd_T23 y318 t324).f0)) ∧ w'.cell? ⟨(ad331.add ((t324).toNat * 3)).block, (ad331.add ((t324).toNat * 3)).off + 1, none⟩ = some (.int .i64 ((rd_T23 y318 t324).f1)) ∧ w'.cell? ⟨(ad331.add ((t324).toNat * 3)).block, (ad331.add ((t324).toNat * 3)).off + 2, none⟩ = some (.int .i64 ((rd_T23 y318 t324).f2)) ∧ w'.cell? ad332 = some (.int .i64 ((rd_T23 t325 0).f0)) ∧ w'.cell? ⟨ad332.block, ad332.off + 1, none⟩ = some (.int .i64 ((rd_T23 t325 0).f1)) ∧ w'.cell? ⟨ad332.block, ad332.off + 2, none⟩ = some (.int .i64 ((rd_T23 t325 0).f2)) ∧ w'.cell? (ad331.add ((t324).toNat * 3)) = some (.int .i64 ((rd_T23 y318 t324).f0)) ∧ w'.cell? ⟨(ad331.add ((t324).toNat * 3)).block, (ad331.add ((t324).toNat * 3)).off + 1, none⟩ = some (.int .i64 ((rd_T23 y318 t324).f1)) ∧ w'.cell? ⟨(ad331.add ((t324).toNat * 3)).block, (ad331.add ((t324).toNat * 3)).off + 2, none⟩ = some (.int .i64 ((rd_T23 y318 t324).f2)) ∧ w'.cell? ad349 = some (.int .i64 ((rd_T23 t328 0).f0)) ∧ w'.cell? ⟨ad349.block, ad349.off + 1, none⟩ = some (.int .i64 ((rd_T23 t328 0).f1)) ∧ w'.cell? ⟨ad349.block, ad349.off + 2, none⟩ = some (.int .i64 ((rd_T23 t328 0).f2))) (ds := []) #[false, false, false, false, false, false, false, false, false, false, false, false, false, false, false, false, false, false, false, false, false, false, false, false] (by kernel_rfl) rfl rfl ⟨hx331_0, hx331_1, hx331_2, hx332_0, hx332_1, hx332_2, hx348_0, hx348_1, hx348_2, hx349_0, hx349_1, hx349_2⟩ (fun hHeld => ?_); refine with_tabW fuseelaw14_OptionBoth.tab11 fuseelaw14_OptionBoth.bits11 (fun HT_ HW_ => ?_)
                                          generalize w66.drew = w70 at HO320 HO323 HO327 HO330 HB hx331_0 hx331_1 hx331_2 hx332_0 hx332_1 hx332_2 hx348_0 hx348_1 hx348_2 hx349_0 hx349_1 hx349_2 hHeld ⊢
                                          refine pure_ (i := 0) (N := some 72) (v := ?_) (a' := ?_) #[true, false, false, false, false, false, false, false, false, false, false, false, false, false, false, false, false, false, false, false, false, false, false, false] rfl rfl (any_of HT_.out (by kernel_rfl)) (fun _ _ _ h => h) (Or.inl ⟨by rfl, ?_⟩) ?_ ?_
                                          rotate_left; focus (intro w'; go_simp; with_reducible rfl)
                                          rotate_left; focus (simp only [Act.put, List.setIfInBounds_toArray, List.set_cons_zero, List.set_cons_succ, i64_w, i32_w]; rfl)
                                          refine pure_ (i := 1) (N := some 73) (v := ?_) (a' := ?_) #[true, true, false, false, false, false, false, false, false, false, false, false, false, false, false, false, false, false, false, false, false, false, false, false] rfl rfl (any_of HT_.out (by kernel_rfl)) (fun _ _ _ h => h) (Or.inl ⟨by rfl, ?_⟩) ?_ ?_
                                          rotate_left; focus (intro w'; go_simp; with_reducible rfl)
                                          rotate_left; focus (simp only [Act.put, List.setIfInBounds_toArray, List.set_cons_zero, List.set_cons_succ, i64_w, i32_w]; rfl)
                                          refine pure_ (i := 2) (N := some 74) (v := ?_) (a' := ?_) #[true, true, true, false, false, false, false, false, false, false, false, false, false, false, false, false, false, false, false, false, false, false, false, false] rfl rfl (any_of HT_.out (by kernel_rfl)) (fun _ _ _ h => h) (Or.inl ⟨by rfl, ?_⟩) ?_ ?_
                                          rotate_left; focus (intro w'; go_simp; with_reducible rfl)
                                          rotate_left; focus (simp only [Act.put, List.setIfInBounds_toArray, List.set_cons_zero, List.set_cons_succ, i64_w, i32_w]; rfl)
                                          refine pure_ (i := 4) (N := some 76) (v := ?_) (a' := ?_) #[true, true, true, false, true, false, false, false, false, false, false, false, false, false, false, false, false, false, false, false, false, false, false, false] rfl rfl (any_of HT_.out (by kernel_rfl)) (fun _ _ _ h => h) (Or.inl ⟨by rfl, ?_⟩) ?_ ?_
                                          rotate_left; focus (intro w'; go_simp; with_reducible rfl)
                                          rotate_left; focus (simp only [Act.put, List.setIfInBounds_toArray, List.set_cons_zero, List.set_cons_succ, i64_w, i32_w]; rfl)
                                          refine pure_ (i := 5) (N := some 77) (v := ?_) (a' := ?_) #[true, true, true, false, true, true, false, false, false, false, false, false, false, false, false, false, false, false, false, false, false, false, false, false] rfl rfl (any_of HT_.out (by kernel_rfl)) (fun _ _ _ h => h) (Or.inl ⟨by rfl, ?_⟩) ?_ ?_
                                          rotate_left; focus (intro w'; go_simp; with_reducible rfl)
                                          rotate_left; focus (simp only [Act.put, List.setIfInBounds_toArray, List.set_cons_zero, List.set_cons_succ, i64_w, i32_w]; rfl)
                                          refine take_ (i := 3) (N := some 75) (v := ?_) (a' := ?_) #[true, true, true, true, true, true, false, false, false, false, false, false, false, false, false, false, false, false, false, false, false, false, false, false] rfl rfl (take_ofW HT_.out HW_.out (by kernel_rfl)) (fun _ _ _ h => h) (Or.inl ⟨by rfl, ?_⟩) hHeld ?_ ?_
                                          rotate_left
                                          · rintro w' ⟨s0, s1, s2, s3, s4, s5, s6, s7, s8, s9, s10, s11⟩
                                            go_simp
                                            with_reducible rfl
                                          rotate_left; focus (simp only [Act.put, List.setIfInBounds_toArray, List.set_cons_zero, List.set_cons_succ, i64_w, i32_w]; rfl)
                                          refine take_ (i := 6) (N := some 78) (v := ?_) (a' := ?_) #[true, true, true, true, true, true, true, false, false, false, false, false, false, false, false, false, false, false, false, false, false, false, false, false] rfl rfl (take_ofW HT_.out HW_.out (by kernel_rfl)) (fun _ _ _ h => h) (Or.inl ⟨by rfl, ?_⟩) hHeld ?_ ?_
                                          rotate_left
                                          · rintro w' ⟨s0, s1, s2, s3, s4, s5, s6, s7, s8, s9, s10, s11⟩
                                            go_simp
                                            with_reducible rfl
                                          rotate_left; focus (simp only [Act.put, List.setIfInBounds_toArray, List.set_cons_zero, List.set_cons_succ, i64_w, i32_w]; rfl)
                                          refine pure_ (i := 7) (N := some 79) (v := ?_) (a' := ?_) #[true, true, true, true, true, true, true, true, false, false, false, false, false, false, false, false, false, false, false, false, false, false, false, false] rfl rfl (any_of HT_.out (by kernel_rfl)) (fun _ _ _ h => h) (Or.inl ⟨by rfl, ?_⟩) ?_ ?_
                                          rotate_left; focus (intro w'; go_simp; with_reducible rfl)
                                          rotate_left; focus (simp only [Act.put, List.setIfInBounds_toArray, List.set_cons_zero, List.set_cons_succ, i64_w, i32_w]; rfl)
                                          refine pure_ (i := 8) (N := some 80) (v := ?_) (a' := ?_) #[true, true, true, true, true, true, true, true, true, false, false, false, false, false, false, false, false, false, false, false, false, false, false, false] rfl rfl (any_of HT_.out (by kernel_rfl)) (fun _ _ _ h => h) (Or.inl ⟨by rfl, ?_⟩) ?_ ?_
                                          rotate_left; focus (intro w'; go_simp; with_reducible rfl)
                                          rotate_left; focus (simp only [Act.put, List.setIfInBounds_toArray, List.set_cons_zero, List.set_cons_succ, i64_w, i32_w]; rfl)
                                          refine pure_ (i := 9) (N := some 81) (v := ?_) (a' := ?_) #[true, true, true, true, true, true, true, true, true, true, false, false, false, false, false, false, false, false, false, false, false, false, false, false] rfl rfl (any_of HT_.out (by kernel_rfl)) (fun _ _ _ h => h) (Or.inl ⟨by rfl, ?_⟩) ?_ ?_
                                          rotate_left; focus (intro w'; go_simp; with_reducible rfl)
                                          rotate_left; focus (simp only [Act.put, List.setIfInBounds_toArray, List.set_cons_zero, List.set_cons_succ, i64_w, i32_w]; rfl)
                                          refine pure_ (i := 10) (N := some 82) (v := ?_) (a' := ?_) #[true, true, true, true, true, true, true, true, true, true, true, false, false, false, false, false, false, false, false, false, false, false, false, false] rfl rfl (any_of HT_.out (by kernel_rfl)) (fun _ _ _ h => h) (Or.inl ⟨by rfl, ?_⟩) ?_ ?_
                                          rotate_left; focus (intro w'; go_simp; with_reducible rfl)
                                          rotate_left; focus (simp only [Act.put, List.setIfInBounds_toArray, List.set_cons_zero, List.set_cons_succ, i64_w, i32_w]; rfl)
                                          refine pure_ (i := 11) (N := some 83) (v := ?_) (a' := ?_) #[true, true, true, true, true, true, true, true, true, true, true, true, false, false, false, false, false, false, false, false, false, false, false, false] rfl rfl (any_of HT_.out (by kernel_rfl)) (fun _ _ _ h => h) (Or.inl ⟨by rfl, ?_⟩) ?_ ?_
                                          rotate_left; focus (intro w'; go_simp; with_reducible rfl)
                                          rotate_left; focus (simp only [Act.put, List.setIfInBounds_toArray, List.set_cons_zero, List.set_cons_succ, i64_w, i32_w]; rfl)
                                          refine pure_ (i := 12) (N := some 84) (v := ?_) (a' := ?_) #[true, true, true, true, true, true, true, true, true, true, true, true, true, false, false, false, false, false, false, false, false, false, false, false] rfl rfl (any_of HT_.out (by kernel_rfl)) (fun _ _ _ h => h) (Or.inl ⟨by rfl, ?_⟩) ?_ ?_
                                          rotate_left; focus (intro w'; go_simp; with_reducible rfl)
                                          rotate_left; focus (simp only [Act.put, List.setIfInBounds_toArray, List.set_cons_zero, List.set_cons_succ, i64_w, i32_w]; rfl)
                                          refine pure_ (i := 13) (N := some 85) (v := ?_) (a' := ?_) #[true, true, true, true, true, true, true, true, true, true, true, true, true, true, false, false, false, false, false, false, false, false, false, false] rfl rfl (any_of HT_.out (by kernel_rfl)) (fun _ _ _ h => h) (Or.inl ⟨by rfl, ?_⟩) ?_ ?_
                                          rotate_left; focus (intro w'; go_simp; with_reducible rfl)
                                          rotate_left; focus (simp only [Act.put, List.setIfInBounds_toArray, List.set_cons_zero, List.set_cons_succ, i64_w, i32_w]; rfl)
                                          refine pure_ (i := 14) (N := some 86) (v := ?_) (a' := ?_) #[true, true, true, true, true, true, true, true, true, true, true, true, true, true, true, false, false, false, false, false, false, false, false, false] rfl rfl (any_of HT_.out (by kernel_rfl)) (fun _ _ _ h => h) (Or.inl ⟨by rfl, ?_⟩) ?_ ?_
                                          rotate_left; focus (intro w'; go_simp; with_reducible rfl)
                                          rotate_left; focus (simp only [Act.put, List.setIfInBounds_toArray, List.set_cons_zero, List.set_cons_succ, i64_w, i32_w]; rfl)
                                          refine pure_ (i := 15) (N := some 87) (v := ?_) (a' := ?_) #[true, true, true, true, true, true, true, true, true, true, true, true, true, true, true, true, false, false, false, false, false, false, false, false] rfl rfl (any_of HT_.out (by kernel_rfl)) (fun _ _ _ h => h) (Or.inl ⟨by rfl, ?_⟩) ?_ ?_
                                          rotate_left; focus (intro w'; go_simp; with_reducible rfl)
                                          rotate_left; focus (simp only [Act.put, List.setIfInBounds_toArray, List.set_cons_zero, List.set_cons_succ, i64_w, i32_w]; rfl)
                                          refine pure_ (i := 17) (N := some 89) (v := ?_) (a' := ?_) #[true, true, true, true, true, true, true, true, true, true, true, true, true, true, true, true, false, true, false, false, false, false, false, false] rfl rfl (any_of HT_.out (by kernel_rfl)) (fun _ _ _ h => h) (Or.inl ⟨by rfl, ?_⟩) ?_ ?_
                                          rotate_left; focus (intro w'; go_simp; with_reducible rfl)
                                          rotate_left; focus (simp only [Act.put, List.setIfInBounds_toArray, List.set_cons_zero, List.set_cons_succ, i64_w, i32_w]; rfl)
                                          refine pure_ (i := 18) (N := some 90) (v := ?_) (a' := ?_) #[true, true, true, true, true, true, true, true, true, true, true, true, true, true, true, true, false, true, true, false, false, false, false, false] rfl rfl (any_of HT_.out (by kernel_rfl)) (fun _ _ _ h => h) (Or.inl ⟨by rfl, ?_⟩) ?_ ?_
                                          rotate_left; focus (intro w'; go_simp; with_reducible rfl)
                                          rotate_left; focus (simp only [Act.put, List.setIfInBounds_toArray, List.set_cons_zero, List.set_cons_succ, i64_w, i32_w]; rfl)
                                          refine take_ (i := 16) (N := some 88) (v := ?_) (a' := ?_) #[true, true, true, true, true, true, true, true, true, true, true, true, true, true, true, true, true, true, true, false, false, false, false, false] rfl rfl (take_ofW HT_.out HW_.out (by kernel_rfl)) (fun _ _ _ h => h) (Or.inl ⟨by rfl, ?_⟩) hHeld ?_ ?_
                                          rotate_left
                                          · rintro w' ⟨s0, s1, s2, s3, s4, s5, s6, s7, s8, s9, s10, s11⟩
                                            go_simp
                                            with_reducible rfl
                                          rotate_left; focus (simp only [Act.put, List.setIfInBounds_toArray, List.set_cons_zero, List.set_cons_succ, i64_w, i32_w]; rfl)
                                          refine take_ (i := 19) (N := some 91) (v := ?_) (a' := ?_) #[true, true, true, true, true, true, true, true, true, true, true, true, true, true, true, true, true, true, true, true, false, false, false, false] rfl rfl (take_ofW HT_.out HW_.out (by kernel_rfl)) (fun _ _ _ h => h) (Or.inl ⟨by rfl, ?_⟩) hHeld ?_ ?_
                                          rotate_left
                                          · rintro w' ⟨s0, s1, s2, s3, s4, s5, s6, s7, s8, s9, s10, s11⟩
                                            go_simp
                                            with_reducible rfl
                                          rotate_left; focus (simp only [Act.put, List.setIfInBounds_toArray, List.set_cons_zero, List.set_cons_succ, i64_w, i32_w]; rfl)
                                          refine pure_ (i := 20) (N := some 92) (v := ?_) (a' := ?_) #[true, true, true, true, true, true, true, true, true, true, true, true, true, true, true, true, true, true, true, true, true, false, false, false] rfl rfl (any_of HT_.out (by kernel_rfl)) (fun _ _ _ h => h) (Or.inl ⟨by rfl, ?_⟩) ?_ ?_
                                          rotate_left; focus (intro w'; go_simp; with_reducible rfl)
                                          rotate_left; focus (simp only [Act.put, List.setIfInBounds_toArray, List.set_cons_zero, List.set_cons_succ, i64_w, i32_w]; rfl)
                                          refine pure_ (i := 21) (N := some 93) (v := ?_) (a' := ?_) #[true, true, true, true, true, true, true, true, true, true, true, true, true, true, true, true, true, true, true, true, true, true, false, false] rfl rfl (any_of HT_.out (by kernel_rfl)) (fun _ _ _ h => h) (Or.inl ⟨by rfl, ?_⟩) ?_ ?_
                                          rotate_left; focus (intro w'; go_simp; with_reducible rfl)
                                          rotate_left; focus (simp only [Act.put, List.setIfInBounds_toArray, List.set_cons_zero, List.set_cons_succ, i64_w, i32_w]; rfl)
                                          refine pure_ (i := 22) (N := some 94) (v := ?_) (a' := ?_) #[true, true, true, true, true, true, true, true, true, true, true, true, true, true, true, true, true, true, true, true, true, true, true, false] rfl rfl (any_of HT_.out (by kernel_rfl)) (fun _ _ _ h => h) (Or.inl ⟨by rfl, ?_⟩) ?_ ?_
                                          rotate_left; focus (intro w'; go_simp; with_reducible rfl)
                                          rotate_left; focus (simp only [Act.put, List.setIfInBounds_toArray, List.set_cons_zero, List.set_cons_succ, i64_w, i32_w]; rfl)
                                          refine pure_ (i := 23) (N := some 11) (v := ?_) (a' := ?_) #[true, true, true, true, true, true, true, true, true, true, true, true, true, true, true, true, true, true, true, true, true, true, true, true] rfl rfl (any_of HT_.out (by kernel_rfl)) (fun _ _ _ h => h) (Or.inl ⟨by rfl, ?_⟩) ?_ ?_
                                          rotate_left; focus (intro w'; go_simp; with_reducible rfl)
                                          rotate_left; focus (simp only [Act.put, List.setIfInBounds_toArray, List.set_cons_zero, List.set_cons_succ, i64_w, i32_w]; rfl)
                                          refine done_ (done_of HT_.out (by kernel_rfl)) ?_
                                          try go_wp2
                                          have n0_ := Aside0.mk (Kd.R_drew HO320.out)
                                          have n1_ := Aside0.mk (Kd.R_drew HO323.out)
                                          have n2_ := Aside0.mk (Kd.R_drew HO327.out)
                                          have n3_ := Aside0.mk (Kd.R_drew HO330.out)
                                          have n4_ := Aside0.mk (below_drew1 HB.out)
                                          clear HO320
                                          clear HO323
                                          clear HO327
                                          clear HO330
                                          clear HB
                                          have HO320 := n0_
                                          have HO323 := n1_
                                          have HO327 := n2_
                                          have HO330 := n3_
                                          have HB := n4_
                                          clear n0_ n1_ n2_ n3_ n4_
                                          have p350 : 0 ≤ (0 : Int) := (by omega)
                                          have q350 : 0 < (t325.length : Int) := of_decide_eq_true (by first | (with_reducible assumption) | assumption)
                                          obtain ⟨ad350, e350, hx350_0, hx350_1, hx350_2⟩ := at_T23 (Kd.R_reads' HO327.out).2.2 0 p350 q350
                                          obtain rfl : ad332 = ad350 := (by injection e350)
                                          have qi350 : (0 < t325.length) = True := eq_true (by omega)
                                          (try rw [show ((0 : Int)).toNat = 0 from rfl] at hx350_0)
                                          (try rw [show 0 * 3 = 0 from rfl] at hx350_0)
                                          (try rw [Addr.add_zero'] at hx350_0)
                                          (try rw [show ((0 : Int)).toNat = 0 from rfl] at hx350_1)
                                          (try rw [show 0 * 3 = 0 from rfl] at hx350_1)
                                          (try rw [Addr.add_zero'] at hx350_1)
                                          (try rw [show ((0 : Int)).toNat = 0 from rfl] at hx350_2)
                                          (try rw [show 0 * 3 = 0 from rfl] at hx350_2)
                                          (try rw [Addr.add_zero'] at hx350_2)
                                          replace p350 := eq_true p350
                                          replace q350 := eq_true q350
                                          have p351 : 0 ≤ (t324 : Int) := of_decide_eq_true (by first | (with_reducible assumption) | assumption)
                                          have q351 : t324 < (y318.length : Int) := of_decide_eq_true (by first | (with_reducible assumption) | assumption)
                                          obtain ⟨ad351, e351, hx351_0, hx351_1, hx351_2⟩ := at_T23 (Kd.R_reads' HO320.out).2.2 t324 p351 q351
                                          obtain rfl : ad331 = ad351 := (by injection e351)
                                          replace p351 := eq_true p351
                                          replace q351 := eq_true q351
                                          refine start_ (n := 21) (S := fun w' => w'.cell? ad332 = some (.int .i64 ((rd_T23 t325 0).f0)) ∧ w'.cell? ⟨ad332.block, ad332.off + 1, none⟩ = some (.int .i64 ((rd_T23 t325 0).f1)) ∧ w'.cell? ⟨ad332.block, ad332.off + 2, none⟩ = some (.int .i64 ((rd_T23 t325 0).f2)) ∧ w'.cell? (ad331.add ((t324).toNat * 3)) = some (.int .i64 ((rd_T23 y318 t324).f0)) ∧ w'.cell? ⟨(ad331.add ((t324).toNat * 3)).block, (ad331.add ((t324).toNat * 3)).off + 1, none⟩ = some (.int .i64 ((rd_T23 y318 t324).f1)) ∧ w'.cell? ⟨(ad331.add ((t324).toNat * 3)).block, (ad331.add ((t324).toNat * 3)).off + 2, none⟩ = some (.int .i64 ((rd_T23 y318 t324).f2))) (ds := []) #[false, false, false, false, false, false, false, false, false, false, false, false, false, false, false, false, false, false, false, false, false] (by kernel_rfl) rfl rfl ⟨hx350_0, hx350_1, hx350_2, hx351_0, hx351_1, hx351_2⟩ (fun hHeld => ?_); refine with_tabW fuseelaw14_OptionBoth.tab12 fuseelaw14_OptionBoth.bits12 (fun HT_ HW_ => ?_)
                                          generalize w70.drew = w71 at HO320 HO323 HO327 HO330 HB hx350_0 hx350_1 hx350_2 hx351_0 hx351_1 hx351_2 hHeld ⊢
                                          refine pure_ (i := 0) (N := some 95) (v := ?_) (a' := ?_) #[true, false, false, false, false, false, false, false, false, false, false, false, false, false, false, false, false, false, false, false, false] rfl rfl (any_of HT_.out (by kernel_rfl)) (fun _ _ _ h => h) (Or.inl ⟨by rfl, ?_⟩) ?_ ?_
                                          rotate_left; focus (intro w'; go_simp; with_reducible rfl)
                                          rotate_left; focus (simp only [Act.put, List.setIfInBounds_toArray, List.set_cons_zero, List.set_cons_succ, i64_w, i32_w]; rfl)
                                          refine pure_ (i := 1) (N := some 96) (v := ?_) (a' := ?_) #[true, true, false, false, false, false, false, false, false, false, false, false, false, false, false, false, false, false, false, false, false] rfl rfl (any_of HT_.out (by kernel_rfl)) (fun _ _ _ h => h) (Or.inl ⟨by rfl, ?_⟩) ?_ ?_
                                          rotate_left; focus (intro w'; go_simp; with_reducible rfl)
                                          rotate_left; focus (simp only [Act.put, List.setIfInBounds_toArray, List.set_cons_zero, List.set_cons_succ, i64_w, i32_w]; rfl)
                                          refine pure_ (i := 2) (N := some 97) (v := ?_) (a' := ?_) #[true, true, true, false, false, false, false, false, false, false, false, false, false, false, false, false, false, false, false, false, false] rfl rfl (any_of HT_.out (by kernel_rfl)) (fun _ _ _ h => h) (Or.inl ⟨by rfl, ?_⟩) ?_ ?_
                                          rotate_left; focus (intro w'; go_simp; with_reducible rfl)
                                          rotate_left; focus (simp only [Act.put, List.setIfInBounds_toArray, List.set_cons_zero, List.set_cons_succ, i64_w, i32_w]; rfl)
                                          refine pure_ (i := 3) (N := some 98) (v := ?_) (a' := ?_) #[true, true, true, true, false, false, false, false, false, false, false, false, false, false, false, false, false, false, false, false, false] rfl rfl (any_of HT_.out (by kernel_rfl)) (fun _ _ _ h => h) (Or.inl ⟨by rfl, ?_⟩) ?_ ?_
                                          rotate_left; focus (intro w'; go_simp; with_reducible rfl)
                                          rotate_left; focus (simp only [Act.put, List.setIfInBounds_toArray, List.set_cons_zero, List.set_cons_succ, i64_w, i32_w]; rfl)
                                          refine pure_ (i := 5) (N := some 100) (v := ?_) (a' := ?_) #[true, true, true, true, false, true, false, false, false, false, false, false, false, false, false, false, false, false, false, false, false] rfl rfl (any_of HT_.out (by kernel_rfl)) (fun _ _ _ h => h) (Or.inl ⟨by rfl, ?_⟩) ?_ ?_
                                          rotate_left; focus (intro w'; go_simp; with_reducible rfl)
                                          rotate_left; focus (simp only [Act.put, List.setIfInBounds_toArray, List.set_cons_zero, List.set_cons_succ, i64_w, i32_w]; rfl)
                                          refine pure_ (i := 6) (N := some 101) (v := ?_) (a' := ?_) #[true, true, true, true, false, true, true, false, false, false, false, false, false, false, false, false, false, false, false, false, false] rfl rfl (any_of HT_.out (by kernel_rfl)) (fun _ _ _ h => h) (Or.inl ⟨by rfl, ?_⟩) ?_ ?_
                                          rotate_left; focus (intro w'; go_simp; with_reducible rfl)
                                          rotate_left; focus (simp only [Act.put, List.setIfInBounds_toArray, List.set_cons_zero, List.set_cons_succ, i64_w, i32_w]; rfl)
                                          refine pure_ (i := 7) (N := some 102) (v := ?_) (a' := ?_) #[true, true, true, true, false, true, true, true, false, false, false, false, false, false, false, false, false, false, false, false, false] rfl rfl (any_of HT_.out (by kernel_rfl)) (fun _ _ _ h => h) (Or.inl ⟨by rfl, ?_⟩) ?_ ?_
                                          rotate_left; focus (intro w'; go_simp; with_reducible rfl)
                                          rotate_left; focus (simp only [Act.put, List.setIfInBounds_toArray, List.set_cons_zero, List.set_cons_succ, i64_w, i32_w]; rfl)
                                          refine take_ (i := 4) (N := some 99) (v := ?_) (a' := ?_) #[true, true, true, true, true, true, true, true, false, false, false, false, false, false, false, false, false, false, false, false, false] rfl rfl (take_ofW HT_.out HW_.out (by kernel_rfl)) (fun _ _ _ h => h) (Or.inl ⟨by rfl, ?_⟩) hHeld ?_ ?_
                                          rotate_left
                                          · rintro w' ⟨s0, s1, s2, s3, s4, s5⟩
                                            go_simp
                                            with_reducible rfl
                                          rotate_left; focus (simp only [Act.put, List.setIfInBounds_toArray, List.set_cons_zero, List.set_cons_succ, i64_w, i32_w]; rfl)
                                          refine take_ (i := 8) (N := some 103) (v := ?_) (a' := ?_) #[true, true, true, true, true, true, true, true, true, false, false, false, false, false, false, false, false, false, false, false, false] rfl rfl (take_ofW HT_.out HW_.out (by kernel_rfl)) (fun _ _ _ h => h) (Or.inl ⟨by rfl, ?_⟩) hHeld ?_ ?_
                                          rotate_left
                                          · rintro w' ⟨s0, s1, s2, s3, s4, s5⟩
                                            go_simp
                                            with_reducible rfl
                                          rotate_left; focus (simp only [Act.put, List.setIfInBounds_toArray, List.set_cons_zero, List.set_cons_succ, i64_w, i32_w]; rfl)
                                          refine one_ (i := 9) (N := some 104) #[true, true, true, true, true, true, true, true, true, true, false, false, false, false, false, false, false, false, false, false, false] rfl rfl (one_of HT_.out (by kernel_rfl)) (by decide) (fun K hK => ?_)
                                          refine goes_ Try.func9 (by kernel_rfl) rfl #[.agg #[.int .i64 ((rd_T23 t325 0).f0), .int .i64 ((rd_T23 t325 0).f1), .int .i64 ((rd_T23 t325 0).f2)], .agg #[.int .i64 ((rd_T23 y318 t324).f0), .int .i64 ((rd_T23 y318 t324).f1), .int .i64 ((rd_T23 y318 t324).f2)]] (by rfl) rfl rfl (by (try simp only [List.map_toArray, List.map_cons, List.map_nil]); first | done | rfl | (simp only [List.length_drop, List.length_take]; rfl)) ?_
                                          with_reducible refine (option_Less.calls ((rd_T23 t325 0).f0) ((rd_T23 t325 0).f1) ((rd_T23 t325 0).f2) ((rd_T23 y318 t324).f0) ((rd_T23 y318 t324).f1) ((rd_T23 y318 t324).f2) false _ A53.out).mono ?_
                                          rintro e w72 ⟨rfl, hb⟩
                                          have HS0_ := (hb.cell (World.block_lt_of_cell? _ _ (hHeld.1))).trans (hHeld.1)
                                          have HS1_ := (hb.cell (World.block_lt_of_cell? _ _ (hHeld.2.1))).trans (hHeld.2.1)
                                          have HS2_ := (hb.cell (World.block_lt_of_cell? _ _ (hHeld.2.2.1))).trans (hHeld.2.2.1)
                                          have HS3_ := (hb.cell (World.block_lt_of_cell? _ _ (hHeld.2.2.2.1))).trans (hHeld.2.2.2.1)
                                          have HS4_ := (hb.cell (World.block_lt_of_cell? _ _ (hHeld.2.2.2.2.1))).trans (hHeld.2.2.2.2.1)
                                          have HS5_ := (hb.cell (World.block_lt_of_cell? _ _ (hHeld.2.2.2.2.2))).trans (hHeld.2.2.2.2.2)
                                          refine ⟨_, rfl, ?_⟩
                                          have n0_ := Aside0.mk (Kd.R_below (by (with_reducible repeat (first | apply Kd.R_alloc | apply Kd.R_drewN | apply Kd.R_drew)); exact HO320.out) hb)
                                          have n1_ := Aside0.mk (Kd.R_below (by (with_reducible repeat (first | apply Kd.R_alloc | apply Kd.R_drewN | apply Kd.R_drew)); exact HO323.out) hb)
                                          have n2_ := Aside0.mk (Kd.R_below (by (with_reducible repeat (first | apply Kd.R_alloc | apply Kd.R_drewN | apply Kd.R_drew)); exact HO327.out) hb)
                                          have n3_ := Aside0.mk (Kd.R_below (by (with_reducible repeat (first | apply Kd.R_alloc | apply Kd.R_drewN | apply Kd.R_drew)); exact HO330.out) hb)
                                          have n4_ := bs HB hb
                                          clear HO320
                                          clear HO323
                                          clear HO327
                                          clear HO330
                                          clear HB
                                          have HO320 := n0_
                                          have HO323 := n1_
                                          have HO327 := n2_
                                          have HO330 := n3_
                                          have HB := n4_
                                          clear n0_ n1_ n2_ n3_ n4_
                                          (try clear hb)
                                          (try clear hb2)
                                          (try clear hk)
                                          (try clear hi)
                                          have q73 : (1 : Int) ≤ ((t321.length : Int) : Int) := of_decide_eq_true (by first | (with_reducible assumption) | assumption)
                                          obtain ⟨i073, hi073, _, hsz73, _⟩ := info_parts info23
                                          have hroom73 : t321.length ≤ co67 := (Kd.R_reads' HO323.out).2.1
                                          have hC73 : Kd.C k23 _ Ao67 t321.length t321 := (Kd.R_reads' HO323.out).2.2
                                          have hcut73 := cut_from (P := Try.prog) 40 23 .i64 Try.underlying40 hi073 3 hsz73 Ao67 t321.length co67 1 (by omega) q73
                                          have hr73 := Kd.C_drop (m := (1 : Int).toNat) (c := co67) hC73 (by omega) hroom73
                                          obtain ⟨A73, hA73⟩ : ∃ A1, A1 = (if co67 = (1 : Int).toNat then Ao67 else (Ao67 : Option Addr).map (·.add ((1 : Int).toNat * 3))) := ⟨_, rfl⟩
                                          obtain ⟨c73, hc73⟩ : ∃ c1, c1 = co67 - (1 : Int).toNat := ⟨_, rfl⟩
                                          have hy73 : y353.length = t321.length - (1 : Int).toNat := (by rw [Ny353.out, List.length_drop] <;> omega)
                                          rw [show (t321).drop (1 : Int).toNat = y353 from Ny353.out.symm] at hr73
                                          replace hr73 : Kd.C k23 _ A73 y353.length y353 := (by rw [hA73]; exact hr73)
                                          rw [← hy73, ← hA73, ← hc73] at hcut73
                                          have HR356 := Aside0.mk hr73
                                          have HC356 := Aside0.mk (show y353.length ≤ c73 from by rw [hy73, hc73]; exact Nat.sub_le_sub_right hroom73 _)
                                          clear hr73 hC73 hroom73 hi073 hsz73 hc73
                                          have KY73 := Aside0.mk hy73
                                          have KA73 := Aside0.mk hA73
                                          clear hy73 hA73
                                          have KL73 := Aside0.mk (show 1 ≤ t321.length from by omega)
                                          replace q73 := eq_true q73
                                          refine hK.out _ _ ⟨HS0_, HS1_, HS2_, HS3_, HS4_, HS5_⟩ (fun hHeld => ?_)
                                          clear hK K
                                          refine norm_ (a' := ?_) ?_ ?_
                                          rotate_left
                                          · show Act.put _ (some 104) _ = _
                                            simp only [Act.put, List.setIfInBounds_toArray, List.set_cons_zero, List.set_cons_succ, i64_w, i32_w]
                                            rfl
                                          refine pure_ (i := 10) (N := some 105) (v := ?_) (a' := ?_) #[true, true, true, true, true, true, true, true, true, true, true, false, false, false, false, false, false, false, false, false, false] rfl rfl (any_of HT_.out (by kernel_rfl)) (fun _ _ _ h => h) (Or.inl ⟨by rfl, ?_⟩) ?_ ?_
                                          rotate_left; focus (intro w'; go_simp; with_reducible rfl)
                                          rotate_left; focus (simp only [Act.put, List.setIfInBounds_toArray, List.set_cons_zero, List.set_cons_succ, i64_w, i32_w]; rfl)
                                          refine pure_ (i := 11) (N := some 106) (v := ?_) (a' := ?_) #[true, true, true, true, true, true, true, true, true, true, true, true, false, false, false, false, false, false, false, false, false] rfl rfl (any_of HT_.out (by kernel_rfl)) (fun _ _ _ h => h) (Or.inl ⟨by rfl, ?_⟩) ?_ ?_
                                          rotate_left; focus (intro w'; go_simp; with_reducible rfl)
                                          rotate_left; focus (simp only [Act.put, List.setIfInBounds_toArray, List.set_cons_zero, List.set_cons_succ, i64_w, i32_w]; rfl)
                                          refine pure_ (i := 12) (N := some 107) (v := ?_) (a' := ?_) #[true, true, true, true, true, true, true, true, true, true, true, true, true, false, false, false, false, false, false, false, false] rfl rfl (any_of HT_.out (by kernel_rfl)) (fun _ _ _ h => h) (Or.inl ⟨by rfl, ?_⟩) ?_ ?_
                                          rotate_left; focus (intro w'; go_simp; with_reducible rfl)
                                          rotate_left; focus (simp only [Act.put, List.setIfInBounds_toArray, List.set_cons_zero, List.set_cons_succ, i64_w, i32_w]; rfl)
                                          refine pure_ (i := 13) (N := some 108) (v := ?_) (a' := ?_) #[true, true, true, true, true, true, true, true, true, true, true, true, true, true, false, false, false, false, false, false, false] rfl rfl (any_of HT_.out (by kernel_rfl)) (fun _ _ _ h => h) (Or.inl ⟨by rfl, ?_⟩) ?_ ?_
                                          rotate_left; focus (intro w'; go_simp; with_reducible rfl)
                                          rotate_left; focus (simp only [Act.put, List.setIfInBounds_toArray, List.set_cons_zero, List.set_cons_succ, i64_w, i32_w]; rfl)
                                          refine pure_ (i := 14) (N := some 109) (v := ?_) (a' := ?_) #[true, true, true, true, true, true, true, true, true, true, true, true, true, true, true, false, false, false, false, false, false] rfl rfl (any_of HT_.out (by kernel_rfl)) (fun _ _ _ h => h) (Or.inl ⟨by rfl, ?_⟩) ?_ ?_
                                          rotate_left; focus (intro w'; go_simp; with_reducible rfl)
                                          rotate_left; focus (simp only [Act.put, List.setIfInBounds_toArray, List.set_cons_zero, List.set_cons_succ, i64_w, i32_w]; rfl)
                                          refine pure_ (i := 16) (N := some 111) (v := ?_) (a' := ?_) #[true, true, true, true, true, true, true, true, true, true, true, true, true, true, true, false, true, false, false, false, false] rfl rfl (any_of HT_.out (by kernel_rfl)) (fun _ _ _ h => h) (Or.inl ⟨by rfl, ?_⟩) ?_ ?_
                                          rotate_left; focus (intro w'; go_simp; with_reducible rfl)
                                          rotate_left; focus (simp only [Act.put, List.setIfInBounds_toArray, List.set_cons_zero, List.set_cons_succ, i64_w, i32_w]; rfl)
                                          refine pure_ (i := 17) (N := some 112) (v := ?_) (a' := ?_) #[true, true, true, true, true, true, true, true, true, true, true, true, true, true, true, false, true, true, false, false, false] rfl rfl (any_of HT_.out (by kernel_rfl)) (fun _ _ _ h => h) (Or.inl ⟨by rfl, ?_⟩) ?_ ?_
                                          rotate_left; focus (intro w'; go_simp; with_reducible rfl)
                                          rotate_left; focus (simp only [Act.put, List.setIfInBounds_toArray, List.set_cons_zero, List.set_cons_succ, i64_w, i32_w]; rfl)
                                          refine one_ (i := 15) (N := some 110) #[true, true, true, true, true, true, true, true, true, true, true, true, true, true, true, true, true, true, false, false, false] rfl rfl (one_of HT_.out (by kernel_rfl)) (by decide) (fun K hK => ?_)
                                          refine goes_ Try.func17 (by kernel_rfl) rfl #[.slice A73 y353.length c73] (by rfl) rfl rfl (by (try simp only [List.map_toArray, List.map_cons, List.map_nil]); first | done | rfl | (simp only [List.length_drop, List.length_take]; rfl)) ?_
                                          with_reducible refine (option_Sort.calls _ _ y353 t357 _ ?side1 ?side2 A56.out).mono ?_
                                          (case side1 => repeat (first | exact (by repeat (first | (with_reducible exact HR356.out) | (with_reducible refine Kd.C_alloc ?_ _) | (with_reducible refine Kd.C_drewN ?_ _) | (with_reducible refine Kd.C_drew ?_) | exact HR356.out)) | (with_reducible refine Kd.C_alloc ?_ _) | (with_reducible refine Kd.C_drewN ?_ _) | (with_reducible refine Kd.C_drew ?_)))
                                          (case side2 => exact HC356.out)
                                          rintro e w74 ⟨v358, rfl, ho0, hb⟩
                                          have HS0_ := (hb.cell (World.block_lt_of_cell? _ _ (hHeld.1))).trans (hHeld.1)
                                          have HS1_ := (hb.cell (World.block_lt_of_cell? _ _ (hHeld.2.1))).trans (hHeld.2.1)
                                          have HS2_ := (hb.cell (World.block_lt_of_cell? _ _ (hHeld.2.2.1))).trans (hHeld.2.2.1)
                                          have HS3_ := (hb.cell (World.block_lt_of_cell? _ _ (hHeld.2.2.2.1))).trans (hHeld.2.2.2.1)
                                          have HS4_ := (hb.cell (World.block_lt_of_cell? _ _ (hHeld.2.2.2.2.1))).trans (hHeld.2.2.2.2.1)
                                          have HS5_ := (hb.cell (World.block_lt_of_cell? _ _ (hHeld.2.2.2.2.2))).trans (hHeld.2.2.2.2.2)
                                          refine ⟨_, rfl, ?_⟩
                                          have n0_ := Aside0.mk (Kd.R_elder' (by (with_reducible repeat (first | apply Kd.R_alloc | apply Kd.R_drewN | apply Kd.R_drew)); exact HO320.out) (Kd.R_base ho0) hb)
                                          have n1_ := Aside0.mk (Kd.R_elder' (by (with_reducible repeat (first | apply Kd.R_alloc | apply Kd.R_drewN | apply Kd.R_drew)); exact HO323.out) (Kd.R_base ho0) hb)
                                          have n2_ := Aside0.mk (Kd.R_elder' (by (with_reducible repeat (first | apply Kd.R_alloc | apply Kd.R_drewN | apply Kd.R_drew)); exact HO327.out) (Kd.R_base ho0) hb)
                                          have n3_ := Aside0.mk (Kd.R_elder' (by (with_reducible repeat (first | apply Kd.R_alloc | apply Kd.R_drewN | apply Kd.R_drew)); exact HO330.out) (Kd.R_base ho0) hb)
                                          have n4_ := Aside0.mk (Kd.R_lower (Kd.R_new' (Kd.R_new' (Kd.R_new' (Kd.R_new' ho0 (Kd.R_lt (by (with_reducible repeat (first | apply Kd.R_alloc | apply Kd.R_drewN | apply Kd.R_drew)); exact HO320.out))) (Kd.R_lt (by (with_reducible repeat (first | apply Kd.R_alloc | apply Kd.R_drewN | apply Kd.R_drew)); exact HO323.out))) (Kd.R_lt (by (with_reducible repeat (first | apply Kd.R_alloc | apply Kd.R_drewN | apply Kd.R_drew)); exact HO327.out))) (Kd.R_lt (by (with_reducible repeat (first | apply Kd.R_alloc | apply Kd.R_drewN | apply Kd.R_drew)); exact HO330.out))) (below_size (by repeat (first | (with_reducible first | exact HB.out | apply below_alloc | apply pw_below_drewN | apply below_drew1) | exact HB.out))))
                                          have n5_ := Aside0.mk (Kd.C_below (by repeat (first | (with_reducible exact HR356.out) | (with_reducible refine Kd.C_alloc ?_ _) | (with_reducible refine Kd.C_drewN ?_ _) | (with_reducible refine Kd.C_drew ?_) | exact HR356.out)) hb)
                                          have n6_ := bs HB hb
                                          clear HO320
                                          clear HO323
                                          clear HO327
                                          clear HO330
                                          clear HR356
                                          clear HB
                                          have HO320 := n0_
                                          have HO323 := n1_
                                          have HO327 := n2_
                                          have HO330 := n3_
                                          have HO359 := n4_
                                          have HR356 := n5_
                                          have HB := n6_
                                          clear n0_ n1_ n2_ n3_ n4_ n5_ n6_
                                          (try clear hb)
                                          (try clear hb2)
                                          (try clear hk)
                                          (try clear hi)
                                          (try clear ho0)
                                          obtain ⟨Ao76, co76, eo76⟩ := Kd.R_slice HO359.out
                                          (first | subst eo76 | (injection eo76 with f1_ f2_ f3_; have f4_ := f1_.symm; have f5_ := f3_.symm; clear f1_ f2_ f3_; subst f4_; subst f5_))
                                          refine hK.out _ _ ⟨HS0_, HS1_, HS2_, HS3_, HS4_, HS5_⟩ (fun hHeld => ?_)
                                          clear hK K
                                          refine norm_ (a' := ?_) ?_ ?_
                                          rotate_left
                                          · show Act.put _ (some 110) _ = _
                                            simp only [Act.put, List.setIfInBounds_toArray, List.set_cons_zero, List.set_cons_succ, i64_w, i32_w]
                                            rfl
                                          refine one_ (i := 18) (N := some 113) #[true, true, true, true, true, true, true, true, true, true, true, true, true, true, true, true, true, true, true, false, false] rfl rfl (one_of HT_.out (by kernel_rfl)) (by decide) (fun K hK => ?_)
                                          refine goes_ Try.func16 (by kernel_rfl) rfl #[.slice Ao76 t357.length co76, .slice A73 y353.length c73] (by rfl) rfl rfl (by (try simp only [List.map_toArray, List.map_cons, List.map_nil]); first | done | rfl | (simp only [List.length_drop, List.length_take]; rfl)) ?_
                                          with_reducible refine (fuseeref14_Same.calls k _ _ t357 _ _ y353 t364 _ ?side1 ?side2 ?side3 ?side4 A58.out).mono ?_
                                          (case side1 => repeat (first | exact (Kd.R_reads' HO359.out).2.2 | (with_reducible refine Kd.C_alloc ?_ _) | (with_reducible refine Kd.C_drewN ?_ _) | (with_reducible refine Kd.C_drew ?_)))
                                          (case side2 => exact (Kd.R_reads' HO359.out).2.1)
                                          (case side3 => repeat (first | exact (by repeat (first | (with_reducible exact HR356.out) | (with_reducible refine Kd.C_alloc ?_ _) | (with_reducible refine Kd.C_drewN ?_ _) | (with_reducible refine Kd.C_drew ?_) | exact HR356.out)) | (with_reducible refine Kd.C_alloc ?_ _) | (with_reducible refine Kd.C_drewN ?_ _) | (with_reducible refine Kd.C_drew ?_)))
                                          (case side4 => exact HC356.out)
                                          rintro e w' ⟨rfl, ⟨nd, rfl⟩⟩
                                          refine ⟨_, rfl, ?_⟩
                                          refine hK.out _ _ ⟨hHeld.1, hHeld.2.1, hHeld.2.2.1, hHeld.2.2.2.1, hHeld.2.2.2.2.1, hHeld.2.2.2.2.2⟩ (fun hHeld => ?_)
                                          clear hK K
                                          refine norm_ (a' := ?_) ?_ ?_
                                          rotate_left
                                          · show Act.put _ (some 113) _ = _
                                            simp only [Act.put, List.setIfInBounds_toArray, List.set_cons_zero, List.set_cons_succ, i64_w, i32_w]
                                            rfl
                                          refine pure_ (i := 19) (N := some 114) (v := ?_) (a' := ?_) #[true, true, true, true, true, true, true, true, true, true, true, true, true, true, true, true, true, true, true, true, false] rfl rfl (any_of HT_.out (by kernel_rfl)) (fun _ _ _ h => h) (Or.inl ⟨by rfl, ?_⟩) ?_ ?_
                                          rotate_left; focus (intro w'; go_simp; with_reducible rfl)
                                          rotate_left; focus (simp only [Act.put, List.setIfInBounds_toArray, List.set_cons_zero, List.set_cons_succ, i64_w, i32_w]; rfl)
                                          refine pure_ (i := 20) (N := some 4) (v := ?_) (a' := ?_) #[true, true, true, true, true, true, true, true, true, true, true, true, true, true, true, true, true, true, true, true, true] rfl rfl (any_of HT_.out (by kernel_rfl)) (fun _ _ _ h => h) (Or.inl ⟨by rfl, ?_⟩) ?_ ?_
                                          rotate_left; focus (intro w'; go_simp; with_reducible rfl)
                                          rotate_left; focus (simp only [Act.put, List.setIfInBounds_toArray, List.set_cons_zero, List.set_cons_succ, i64_w, i32_w]; rfl)
                                          refine done_ (done_of HT_.out (by kernel_rfl)) ?_
                                          try go_wp2
                                          go_ret
                                          exact ⟨by first | rfl | (simp [errW_none, errW_some] <;> rfl) | (simp [*, errW_none, errW_some] <;> rfl) | (exfalso; first | contradiction | (revert c9b0 c17b0 c20b0 c21b0 c25b0 c52b0; simp +contextual; done)), by repeat (first | (with_reducible first | exact HB.out | apply below_alloc | apply pw_below_drewN | apply below_drew1) | exact HB.out)⟩
                                        · rw [if_neg c55] at H
                                          exact absurd H (by simp)
                                    · rw [if_neg c52] at H
                                      have c52b0 : (((rd_T23 y318 t324).f0) == ((rd_T23 t328 0).f0) && (((rd_T23 y318 t324).f1) == ((rd_T23 t328 0).f1) && (((rd_T23 y318 t324).f2) == ((rd_T23 t328 0).f2)))) = false := by simpa using c52
                                      (try (have c52b1 : decide (((rd_T23 y318 t324).f0) = ((rd_T23 t328 0).f0) && (((rd_T23 y318 t324).f1) == ((rd_T23 t328 0).f1) && (((rd_T23 y318 t324).f2) == ((rd_T23 t328 0).f2)))) = false := by simpa using c52))
                                      (try (have c52b2 : (((rd_T23 y318 t324).f0) == ((rd_T23 t328 0).f0) && (((rd_T23 y318 t324).f1) == ((rd_T23 t328 0).f1) && (((rd_T23 y318 t324).f2) == ((rd_T23 t328 0).f2)))) = false := by simpa using c52))
                                      (try (have c52b3 : ¬ (((rd_T23 y318 t324).f0) = ((rd_T23 t328 0).f0) && (((rd_T23 y318 t324).f1) == ((rd_T23 t328 0).f1) && (((rd_T23 y318 t324).f2) == ((rd_T23 t328 0).f2)))) := by simpa using c52))
                                      clear c52
                                      exact absurd H (by simp)
                                  · rw [if_neg c51] at H
                                    exact absurd H (by simp)
                                · rw [if_neg c50] at H
                                  have c50b0 : decide (0 < (t328.length : Int)) = false := decide_eq_false c50
                                  have c50b1 : decide (0 < t328.length) = false := decide_eq_false (by omega)
                                  clear c50
                                  exact absurd H (by simp)
                            · rw [if_neg c24] at H
                              exact absurd H (by simp)
                          · rw [if_neg c23] at H
                            exact absurd H (by simp)
                        · rw [if_neg c22] at H
                          exact absurd H (by simp)
                      · rw [if_neg c21] at H
                        exact absurd H (by simp)
                    · rw [if_neg c20] at H
                      exact absurd H (by simp)
              · rw [if_neg c17] at H
                exact absurd H (by simp)
            · rw [if_neg c12] at H
              exact absurd H (by simp)
          · rw [if_neg c11] at H
            exact absurd H (by simp)
  · replace c4 := Bool.eq_false_iff.mpr c4
    subst c4
    rw [if_neg (show ¬ (false = true) by decide)] at H
    obtain rfl := Option.some.inj H
    go_enter Try.func7, Try.ntmps7
    go_wp2_with (first | ((with_reducible refine gate_callee (f := 8) rfl ?_); refine goesL_ (some 12) rfl rfl Try.func8 (by kernel_rfl) rfl #[] rfl (by (try simp only [List.map_toArray, List.map_cons, List.map_nil]); first | done | rfl | (simp only [List.length_drop, List.length_take]; rfl)) ?_; (with_reducible refine (fuseelaw14_awake.calls k  false _ A3.out).mono ?_); rintro e w77 ⟨rfl, hb⟩; refine ⟨_, rfl, ?_⟩; have n0_ := bs HB hb; clear HB; have HB := n0_; clear n0_; (try clear hb); (try clear hb2); (try clear hk); (try clear hi)))
    go_ret
    exact ⟨by first | rfl | (simp [errW_none, errW_some] <;> rfl) | (simp [*, errW_none, errW_some] <;> rfl) | (exfalso; contradiction), by repeat (first | (with_reducible first | exact HB.out | apply below_alloc | apply pw_below_drewN | apply below_drew1) | exact HB.out)⟩

end Go.Proofs.Ytceldebkpjgmkaa.P
