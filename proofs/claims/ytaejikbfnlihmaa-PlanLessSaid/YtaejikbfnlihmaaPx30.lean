-- Written by a program of this session (hprint.py), out of the translation; functions that the print does not take are given by hand.
import Derived.Test.YtaejikbfnlihmaaPx0
import Derived.Test.YtaejikbfnlihmaaPx17
namespace Go.Proofs.Ytaejikbfnlihmaa.P
open Go.RowKit Go.Proofs.YtaejikbfnlihmaaM Go.Proofs.YtaejikbfnlihmaaW.PrintWords Go.Proofs.YtaejikbfnlihmaaW.PrintLast Go.Proofs.YtaejikbfnlihmaaW.PrintMore
attribute [local go_sem] max2_int min2_int max_two min_two max_three min_three max_four min_four   -- for this text's walks alone
set_option linter.unusedVariables false
set_option linter.unusedSimpArgs false

/-! ### fuseelaw10_PlanLess: function 6 -/
def fuseelaw10_PlanLess.l0 : Nat → Int → List (S42) → Int → List (S42) → Int → Option (Bool)
  | 0, _, _, _, _, _ => none
  | k + 1, x1, x6, x7, x9, x11 => if x11 < (x9.length : Int) then (if x7 = 0 then (if x11 ≥ x1 then (if (wrap64 (x11 + 1)) ≥ (x6.length : Int) then (none) else (if 0 ≤ x11 then (if 0 ≤ (wrap64 (x11 + 1)) then (if (wrap64 (x11 + 1)) < (x6.length : Int) then (if ((rd_T42 x9 x11).f1) > ((rd_T42 x6 (wrap64 (x11 + 1))).f1) then (none) else (fuseelaw10_PlanLess.l0 k x1 x6 x7 x9 (wrap64 (x11 + 1)))) else (none)) else (none)) else (none))) else (if x11 ≥ (x6.length : Int) then (none) else (if 0 ≤ x11 then (if x11 < (x6.length : Int) then (if ((rd_T42 x9 x11).f1) > ((rd_T42 x6 x11).f1) then (none) else (fuseelaw10_PlanLess.l0 k x1 x6 x7 x9 (wrap64 (x11 + 1)))) else (none)) else (none)))) else (some true)) else (some true)
def fuseelaw10_PlanLess.f (k : Nat) (l0 : List (S40)) (a1 : Int) : Option (Bool) := (fuseelaw10_awake.f k).bind fun t389 => (if t389 = true then (if (l0.length : Int) > 4 then (some t389) else (if a1 < 0 then (some t389) else (if a1 ≥ (l0.length : Int) then (some t389) else ((plan_Target.f k l0).bind fun bt390 => (if 0 ≤ a1 then (if a1 ≤ (l0.length : Int) then ((some (l0.take (a1 : Int).toNat : List (S40))).bind fun y394 => (if ([] : List (S40)).length + y394.length < 2932031007402 then ((some (([] : List (S40)) ++ y394 : List (S40))).bind fun y398 => (if 0 ≤ (wrap64 (a1 + 1)) then (if (wrap64 (a1 + 1)) ≤ (l0.length : Int) then ((some (l0.drop ((wrap64 (a1 + 1)) : Int).toNat : List (S40))).bind fun y401 => (if y398.length + y401.length < 2932031007402 then ((plan_Target.f k (y398 ++ y401)).bind fun bt408 => (if bt408.2 = 5 then (if bt390.2 = 5 then (some true) else (some (bt390.2 == 1))) else (if bt408.2 = 1 then (if bt390.2 = 5 then (some true) else (some (bt390.2 == 1))) else (fuseelaw10_PlanLess.l0 k a1 bt390.1 bt390.2 bt408.1 0)))) else (none))) else (none)) else (none))) else (none))) else (none)) else (none)))))) else (some t389))
theorem fuseelaw10_PlanLess.mono_l : ∀ k, (∀ y0 y1 y2 y3 y4, LeO (fuseelaw10_PlanLess.l0 k y0 y1 y2 y3 y4) (fuseelaw10_PlanLess.l0 (k + 1) y0 y1 y2 y3 y4))
  | 0 => fun _ _ _ _ _ r h => by simp [fuseelaw10_PlanLess.l0] at h
  | k + 1 => by
    have ih0 := fuseelaw10_PlanLess.mono_l k
    · intro y0 y1 y2 y3 y4
      unfold fuseelaw10_PlanLess.l0
      repeat' first
      | (with_reducible exact ih0 _ _ _ _ _)
      | (with_reducible exact fuseelaw10_awake.mono _)
      | (with_reducible exact plan_Target.mono _ _)
      | (with_reducible exact LeO.refl _)
      | (with_reducible exact LeO.none _)
      | (with_reducible refine LeO.ite ?_ ?_)
      | (with_reducible refine LeO.bind ?_ (fun _ => ?_))
      | exact ih0 _ _ _ _ _
      | exact fuseelaw10_awake.mono _
      | exact plan_Target.mono _ _
      | exact LeO.none _
      | refine LeO.ite ?_ ?_
      | refine LeO.bind ?_ (fun _ => ?_)
theorem fuseelaw10_PlanLess.mono : ∀ a0 a1 k, LeO (fuseelaw10_PlanLess.f k a0 a1) (fuseelaw10_PlanLess.f (k + 1) a0 a1) := by
  intro a0 a1 k
  have ih0 := fuseelaw10_PlanLess.mono_l k
  unfold fuseelaw10_PlanLess.f
  repeat' first
      | (with_reducible exact ih0 _ _ _ _ _)
      | (with_reducible exact fuseelaw10_awake.mono _)
      | (with_reducible exact plan_Target.mono _ _)
      | (with_reducible exact LeO.refl _)
      | (with_reducible exact LeO.none _)
      | (with_reducible refine LeO.ite ?_ ?_)
      | (with_reducible refine LeO.bind ?_ (fun _ => ?_))
      | exact ih0 _ _ _ _ _
      | exact fuseelaw10_awake.mono _
      | exact plan_Target.mono _ _
      | exact LeO.none _
      | refine LeO.ite ?_ ?_
      | refine LeO.bind ?_ (fun _ => ?_)
def fuseelaw10_PlanLess.T5 : Bool × List (List Nat × List Nat) := (true, [([], []), ([], []), ([0, 1], [0, 1]), ([2], [2]), ([], []), ([], []), ([5], [5]), ([4, 6], [4, 6]), ([3, 7, 3], [3, 7]), ([8, 8, 0, 1, 2, 3, 4, 5, 6, 7, 8], [8])])
def fuseelaw10_PlanLess.B5 : List Nat := [0, 0, 3, 7, 0, 0, 32, 112, 255, 511]
theorem fuseelaw10_PlanLess.tab5 : rtab .any (opsOf Try.f6 5) = fuseelaw10_PlanLess.T5 := by kernel_rfl
theorem fuseelaw10_PlanLess.bits5 : waitsOk fuseelaw10_PlanLess.T5.2 fuseelaw10_PlanLess.B5 = true := by kernel_rfl
def fuseelaw10_PlanLess.T15 : Bool × List (List Nat × List Nat) := (true, [([], []), ([], []), ([1], [1]), ([0, 2], [0, 2]), ([3], [3]), ([4], [4]), ([4], [4]), ([5, 6, 4], [4, 5, 6]), ([7, 4], [4, 7]), ([8, 4], [4, 8]), ([4], [4]), ([4], [4]), ([10, 11, 4], [4, 10, 11]), ([12, 4], [4, 12]), ([13, 4], [4, 13]), ([9, 14, 4], [4, 9, 14]), ([4, 15], [4, 15])])
def fuseelaw10_PlanLess.B15 : List Nat := [0, 0, 2, 7, 15, 31, 31, 127, 255, 511, 31, 31, 3103, 7199, 15391, 32767, 65535]
theorem fuseelaw10_PlanLess.tab15 : rtab .any (opsOf Try.f6 15) = fuseelaw10_PlanLess.T15 := by kernel_rfl
theorem fuseelaw10_PlanLess.bits15 : waitsOk fuseelaw10_PlanLess.T15.2 fuseelaw10_PlanLess.B15 = true := by kernel_rfl
set_option maxHeartbeats 64000000 in
set_option maxRecDepth 100000 in
theorem fuseelaw10_PlanLess.calls (k : Nat) (A0 : Option Addr) (c0 : Nat) (l0 : List (S40)) (a1 : Int) (r : Bool) (w : World) (hr0 : Kd.C k40 w A0 l0.length l0) (hc0 : l0.length ≤ c0) (h : fuseelaw10_PlanLess.f k l0 a1 = some r) :
    Calls Try.prog 6 #[.slice A0 l0.length c0, .int .i64 a1] w fun e w' => e = .returned (.bool r) ∧ Below w.heap.size w w' := by
  have HR0 := Aside0.mk hr0
  have HC0 := Aside0.mk hc0
  clear hr0 hc0
  have HB := Aside0.mk (Below.refl w.heap.size w)
  have H : ((fuseelaw10_awake.f k).bind fun t389 => (if t389 = true then (if (l0.length : Int) > 4 then (some t389) else (if a1 < 0 then (some t389) else (if a1 ≥ (l0.length : Int) then (some t389) else ((plan_Target.f k l0).bind fun bt390 => (if 0 ≤ a1 then (if a1 ≤ (l0.length : Int) then ((some (l0.take (a1 : Int).toNat : List (S40))).bind fun y394 => (if ([] : List (S40)).length + y394.length < 2932031007402 then ((some (([] : List (S40)) ++ y394 : List (S40))).bind fun y398 => (if 0 ≤ (wrap64 (a1 + 1)) then (if (wrap64 (a1 + 1)) ≤ (l0.length : Int) then ((some (l0.drop ((wrap64 (a1 + 1)) : Int).toNat : List (S40))).bind fun y401 => (if y398.length + y401.length < 2932031007402 then ((plan_Target.f k (y398 ++ y401)).bind fun bt408 => (if bt408.2 = 5 then (if bt390.2 = 5 then (some true) else (some (bt390.2 == 1))) else (if bt408.2 = 1 then (if bt390.2 = 5 then (some true) else (some (bt390.2 == 1))) else (fuseelaw10_PlanLess.l0 k a1 bt390.1 bt390.2 bt408.1 0)))) else (none))) else (none)) else (none))) else (none))) else (none)) else (none)))))) else (some t389))) = some r := h
  clear h
  replace H := Option.bind_eq_some_iff.mp H
  obtain ⟨t389, A30, H⟩ := H
  try dsimp only at H
  have A3 := Aside0.mk A30
  clear A30
  by_cases c4 : t389 = true
  · subst c4
    rw [if_pos rfl] at H
    by_cases c5 : (l0.length : Int) > 4
    · rw [if_pos c5] at H
      have c5b0 : decide (4 < (l0.length : Int)) = true := decide_eq_true c5
      have c5b1 : decide (4 < l0.length) = true := decide_eq_true (by omega)
      clear c5
      obtain rfl := Option.some.inj H
      go_enter Try.func6, Try.ntmps6
      go_wp2_with (first | ((with_reducible refine gate_callee (f := 10) rfl ?_); refine goesL_ (some 13) rfl rfl Try.func10 (by kernel_rfl) rfl #[] rfl (by (try simp only [List.map_toArray, List.map_cons, List.map_nil]); first | done | rfl | (simp only [List.length_drop, List.length_take]; rfl)) ?_; (with_reducible refine (fuseelaw10_awake.calls k  true _ A3.out).mono ?_); rintro e w6 ⟨rfl, hb⟩; refine ⟨_, rfl, ?_⟩; have n0_ := bs HB hb; clear HB; have HB := n0_; clear n0_; (try clear hb); (try clear hb2); (try clear hk); (try clear hi)))
      go_ret
      exact ⟨by first | rfl | (simp [errW_none, errW_some] <;> rfl) | (simp [*, errW_none, errW_some] <;> rfl) | (exfalso; contradiction), by repeat (first | (with_reducible first | exact HB.out | apply below_alloc | apply pw_below_drewN | apply below_drew1) | exact HB.out)⟩
    · rw [if_neg c5] at H
      have c5b0 : decide (4 < (l0.length : Int)) = false := decide_eq_false c5
      have c5b1 : decide (4 < l0.length) = false := decide_eq_false (by omega)
      clear c5
      by_cases c7 : a1 < 0
      · rw [if_pos c7] at H
        have c7b0 : decide (a1 < 0) = true := decide_eq_true c7
        clear c7
        obtain rfl := Option.some.inj H
        go_enter Try.func6, Try.ntmps6
        go_wp2_with (first | ((with_reducible refine gate_callee (f := 10) rfl ?_); refine goesL_ (some 13) rfl rfl Try.func10 (by kernel_rfl) rfl #[] rfl (by (try simp only [List.map_toArray, List.map_cons, List.map_nil]); first | done | rfl | (simp only [List.length_drop, List.length_take]; rfl)) ?_; (with_reducible refine (fuseelaw10_awake.calls k  true _ A3.out).mono ?_); rintro e w8 ⟨rfl, hb⟩; refine ⟨_, rfl, ?_⟩; have n0_ := bs HB hb; clear HB; have HB := n0_; clear n0_; (try clear hb); (try clear hb2); (try clear hk); (try clear hi)))
        go_ret
        exact ⟨by first | rfl | (simp [errW_none, errW_some] <;> rfl) | (simp [*, errW_none, errW_some] <;> rfl) | (exfalso; contradiction), by repeat (first | (with_reducible first | exact HB.out | apply below_alloc | apply pw_below_drewN | apply below_drew1) | exact HB.out)⟩
      · rw [if_neg c7] at H
        have c7b0 : decide (a1 < 0) = false := decide_eq_false c7
        clear c7
        by_cases c9 : a1 ≥ (l0.length : Int)
        · rw [if_pos c9] at H
          have c9b0 : decide ((l0.length : Int) ≤ a1) = true := decide_eq_true c9
          clear c9
          obtain rfl := Option.some.inj H
          go_enter Try.func6, Try.ntmps6
          go_wp2_with (first | ((with_reducible refine gate_callee (f := 10) rfl ?_); refine goesL_ (some 13) rfl rfl Try.func10 (by kernel_rfl) rfl #[] rfl (by (try simp only [List.map_toArray, List.map_cons, List.map_nil]); first | done | rfl | (simp only [List.length_drop, List.length_take]; rfl)) ?_; (with_reducible refine (fuseelaw10_awake.calls k  true _ A3.out).mono ?_); rintro e w10 ⟨rfl, hb⟩; refine ⟨_, rfl, ?_⟩; have n0_ := bs HB hb; clear HB; have HB := n0_; clear n0_; (try clear hb); (try clear hb2); (try clear hk); (try clear hi)))
          go_ret
          exact ⟨by first | rfl | (simp [errW_none, errW_some] <;> rfl) | (simp [*, errW_none, errW_some] <;> rfl) | (exfalso; contradiction), by repeat (first | (with_reducible first | exact HB.out | apply below_alloc | apply pw_below_drewN | apply below_drew1) | exact HB.out)⟩
        · rw [if_neg c9] at H
          have c9b0 : decide ((l0.length : Int) ≤ a1) = false := decide_eq_false c9
          clear c9
          replace H := Option.bind_eq_some_iff.mp H
          obtain ⟨⟨t390, t391⟩, A110, H⟩ := H
          try dsimp only at H
          have A11 := Aside0.mk A110
          clear A110
          by_cases c12 : 0 ≤ a1
          · rw [if_pos c12] at H
            have c12b0 := eq_true c12
            have c12b1 : decide (0 ≤ a1) = true := decide_eq_true c12
            clear c12
            by_cases c13 : a1 ≤ (l0.length : Int)
            · rw [if_pos c13] at H
              have c13b0 := eq_true c13
              have c13b1 : decide (a1 ≤ (l0.length : Int)) = true := decide_eq_true c13
              clear c13
              obtain ⟨y394, hy394⟩ : ∃ y_ : List (S40), y_ = (l0.take (a1 : Int).toNat) := ⟨_, rfl⟩
              replace H : (if ([] : List (S40)).length + y394.length < 2932031007402 then ((some (([] : List (S40)) ++ y394 : List (S40))).bind fun y398 => (if 0 ≤ (wrap64 (a1 + 1)) then (if (wrap64 (a1 + 1)) ≤ (l0.length : Int) then ((some (l0.drop ((wrap64 (a1 + 1)) : Int).toNat : List (S40))).bind fun y401 => (if y398.length + y401.length < 2932031007402 then ((plan_Target.f k (y398 ++ y401)).bind fun bt408 => (if bt408.2 = 5 then (if t391 = 5 then (some true) else (some (t391 == 1))) else (if bt408.2 = 1 then (if t391 = 5 then (some true) else (some (t391 == 1))) else (fuseelaw10_PlanLess.l0 k a1 t390 t391 bt408.1 0)))) else (none))) else (none)) else (none))) else (none)) = some r := by first | (rw [hy394]; with_reducible exact H) | (have H2_ := (Option.bind_some _ _).symm.trans H; rw [hy394]; with_reducible exact H2_) | (have H2_ := (Option.bind_some _ _).symm.trans H; with_reducible exact H2_) | with_reducible exact H | (rw [hy394]; exact H) | exact H
              have Ny394 := Aside0.mk hy394
              clear hy394
              by_cases c14 : ([] : List (S40)).length + y394.length < 2932031007402
              · rw [if_pos c14] at H
                have LMc14 := Aside0.mk c14
                clear c14
                obtain ⟨y398, hy398⟩ : ∃ y_ : List (S40), y_ = (([] : List (S40)) ++ y394) := ⟨_, rfl⟩
                replace H : (if 0 ≤ (wrap64 (a1 + 1)) then (if (wrap64 (a1 + 1)) ≤ (l0.length : Int) then ((some (l0.drop ((wrap64 (a1 + 1)) : Int).toNat : List (S40))).bind fun y401 => (if y398.length + y401.length < 2932031007402 then ((plan_Target.f k (y398 ++ y401)).bind fun bt408 => (if bt408.2 = 5 then (if t391 = 5 then (some true) else (some (t391 == 1))) else (if bt408.2 = 1 then (if t391 = 5 then (some true) else (some (t391 == 1))) else (fuseelaw10_PlanLess.l0 k a1 t390 t391 bt408.1 0)))) else (none))) else (none)) else (none)) = some r := by first | (rw [hy398]; with_reducible exact H) | (have H2_ := (Option.bind_some _ _).symm.trans H; rw [hy398]; with_reducible exact H2_) | (have H2_ := (Option.bind_some _ _).symm.trans H; with_reducible exact H2_) | with_reducible exact H | (rw [hy398]; exact H) | exact H
                have Ny398 := Aside0.mk hy398
                clear hy398
                obtain ⟨ji15, hji15⟩ : ∃ j_ : Int, (wrap64 (a1 + 1)) = j_ := ⟨_, rfl⟩
                replace H : (if 0 ≤ (ji15) then (if (ji15) ≤ (l0.length : Int) then ((some (l0.drop ((ji15) : Int).toNat : List (S40))).bind fun y401 => (if y398.length + y401.length < 2932031007402 then ((plan_Target.f k (y398 ++ y401)).bind fun bt408 => (if bt408.2 = 5 then (if t391 = 5 then (some true) else (some (t391 == 1))) else (if bt408.2 = 1 then (if t391 = 5 then (some true) else (some (t391 == 1))) else (fuseelaw10_PlanLess.l0 k a1 t390 t391 bt408.1 0)))) else (none))) else (none)) else (none)) = some r := by first | (rw [hji15] at H; exact H) | (simp only [hji15] at H ⊢; exact H)
                (try rw [hji15] at A3)
                (try rw [hji15] at A11)
                have hji15w : (IntKind.i64.wrap (a1 + 1)) = ji15 := (i64_w _).trans hji15
                by_cases c16 : 0 ≤ (ji15)
                · rw [if_pos c16] at H
                  have c16b0 := eq_true c16
                  have c16b1 : decide (0 ≤ (ji15)) = true := decide_eq_true c16
                  clear c16
                  by_cases c17 : (ji15) ≤ (l0.length : Int)
                  · rw [if_pos c17] at H
                    have c17b0 := eq_true c17
                    have c17b1 : decide ((ji15) ≤ (l0.length : Int)) = true := decide_eq_true c17
                    clear c17
                    obtain ⟨y401, hy401⟩ : ∃ y_ : List (S40), y_ = (l0.drop ((ji15) : Int).toNat) := ⟨_, rfl⟩
                    replace H : (if y398.length + y401.length < 2932031007402 then ((plan_Target.f k (y398 ++ y401)).bind fun bt408 => (if bt408.2 = 5 then (if t391 = 5 then (some true) else (some (t391 == 1))) else (if bt408.2 = 1 then (if t391 = 5 then (some true) else (some (t391 == 1))) else (fuseelaw10_PlanLess.l0 k a1 t390 t391 bt408.1 0)))) else (none)) = some r := by first | (rw [hy401]; with_reducible exact H) | (have H2_ := (Option.bind_some _ _).symm.trans H; rw [hy401]; with_reducible exact H2_) | (have H2_ := (Option.bind_some _ _).symm.trans H; with_reducible exact H2_) | with_reducible exact H | (rw [hy401]; exact H) | exact H
                    have Ny401 := Aside0.mk hy401
                    clear hy401
                    by_cases c18 : y398.length + y401.length < 2932031007402
                    · rw [if_pos c18] at H
                      have LMc18 := Aside0.mk c18
                      clear c18
                      obtain ⟨y405, hy405⟩ : ∃ y_ : List (S40), y_ = (y398 ++ y401) := ⟨_, rfl⟩
                      replace H : ((plan_Target.f k y405).bind fun bt408 => (if bt408.2 = 5 then (if t391 = 5 then (some true) else (some (t391 == 1))) else (if bt408.2 = 1 then (if t391 = 5 then (some true) else (some (t391 == 1))) else (fuseelaw10_PlanLess.l0 k a1 t390 t391 bt408.1 0)))) = some r := by first | (rw [hy405]; with_reducible exact H) | (have H2_ := (Option.bind_some _ _).symm.trans H; rw [hy405]; with_reducible exact H2_) | (have H2_ := (Option.bind_some _ _).symm.trans H; with_reducible exact H2_) | with_reducible exact H | (rw [hy405]; exact H) | exact H
                      have Ny405 := Aside0.mk hy405
                      clear hy405
                      replace H := Option.bind_eq_some_iff.mp H
                      obtain ⟨⟨t408, t409⟩, A190, H⟩ := H
                      try dsimp only at H
                      have A19 := Aside0.mk A190
                      clear A190
                      by_cases c20 : t409 = 5
                      · rw [if_pos c20] at H
                        have c20b0 : (t409 == 5) = true := beq_iff_eq.mpr c20
                        have c20b1 : (t409 != 5) = false := bne_eq_false_iff_eq.mpr c20
                        clear c20
                        by_cases c21 : t391 = 5
                        · rw [if_pos c21] at H
                          have c21b0 : (t391 == 5) = true := beq_iff_eq.mpr c21
                          have c21b1 : (t391 != 5) = false := bne_eq_false_iff_eq.mpr c21
                          clear c21
                          obtain rfl := Option.some.inj H
                          go_enter Try.func6, Try.ntmps6
                          try go_wp2_with (first | ((with_reducible refine gate_callee (f := 10) rfl ?_); refine goesL_ (some 13) rfl rfl Try.func10 (by kernel_rfl) rfl #[] rfl (by (try simp only [List.map_toArray, List.map_cons, List.map_nil]); first | done | rfl | (simp only [List.length_drop, List.length_take]; rfl)) ?_; (with_reducible refine (fuseelaw10_awake.calls k  true _ A3.out).mono ?_); rintro e w22 ⟨rfl, hb⟩; refine ⟨_, rfl, ?_⟩; have n0_ := bs HB hb; clear HB; have HB := n0_; clear n0_; (try clear hb); (try clear hb2); (try clear hk); (try clear hi)) | ((with_reducible refine gate_callee (f := 13) rfl ?_); refine goesL_ (some 34) rfl rfl Try.func13 (by kernel_rfl) rfl #[.slice A0 l0.length c0] rfl (by (try simp only [List.map_toArray, List.map_cons, List.map_nil]); first | done | rfl | (simp only [List.length_drop, List.length_take]; rfl)) ?_; (with_reducible refine (plan_Target.calls k _ _ l0 t390 t391 _ ?side1 ?side2 A11.out).mono ?_); (case side1 => repeat (first | exact (Kd.C_below HR0.out HB.out) | (with_reducible refine Kd.C_alloc ?_ _) | (with_reducible refine Kd.C_drewN ?_ _) | (with_reducible refine Kd.C_drew ?_))); (case side2 => exact HC0.out); rintro e w23 ⟨v392, rfl, ho0, hb⟩; refine ⟨_, rfl, ?_⟩; have n0_ := Aside0.mk (Kd.R_lower ho0 (below_size (by repeat (first | (with_reducible first | exact HB.out | apply below_alloc | apply pw_below_drewN | apply below_drew1) | exact HB.out)))); have n1_ := bs HB hb; clear HB; have HO393 := n0_; have HB := n1_; clear n0_ n1_; (try clear hb); (try clear hb2); (try clear hk); (try clear hi); (try clear ho0)))
                          have n0_ := Aside0.mk (Kd.R_drew HO393.out)
                          have n1_ := Aside0.mk (below_drew1 HB.out)
                          clear HO393
                          clear HB
                          have HO393 := n0_
                          have HB := n1_
                          clear n0_ n1_
                          have q25 : (a1 : Int) ≤ ((l0.length : Int) : Int) := of_decide_eq_true (by first | (with_reducible assumption) | assumption)
                          obtain ⟨i025, hi025, _, hsz25, _⟩ := info_parts info40
                          have hroom25 : l0.length ≤ c0 := HC0.out
                          have hC25 : Kd.C k40 _ A0 l0.length l0 := HR0.out
                          have hcut25 := cut_to (P := Try.prog) 22 40 .i64 Try.underlying22 hi025 A0 l0.length c0 a1 (of_decide_eq_true (by first | (with_reducible assumption) | assumption)) q25 hroom25
                          have hr25 := Kd.C_take (m := (a1 : Int).toNat) hC25 (by omega)
                          have hy25 : y394.length = (a1 : Int).toNat := (by rw [Ny394.out, List.length_take]; omega)
                          rw [← Ny394.out] at hr25
                          rw [← hy25] at hcut25
                          have HR397 := Aside0.mk hr25
                          have HC397 := Aside0.mk (show y394.length ≤ c0 from by omega)
                          clear hr25 hC25 hroom25 hi025 hsz25
                          have KY25 := Aside0.mk hy25
                          clear hy25
                          replace q25 := eq_true q25
                          have q26 : ((ji15) : Int) ≤ ((l0.length : Int) : Int) := of_decide_eq_true (by first | (with_reducible assumption) | assumption)
                          obtain ⟨i026, hi026, _, hsz26, _⟩ := info_parts info40
                          have hroom26 : l0.length ≤ c0 := HC0.out
                          have hC26 : Kd.C k40 _ A0 l0.length l0 := HR0.out
                          have q026 : (0 : Int) ≤ ((ji15) : Int) := of_decide_eq_true (by first | (with_reducible assumption) | assumption)
                          have hcut26 := cut_from (P := Try.prog) 22 40 .i64 Try.underlying22 hi026 6 hsz26 A0 l0.length c0 (ji15) q026 q26
                          have hr26 := Kd.C_drop (m := ((ji15) : Int).toNat) (c := c0) hC26 (by omega) hroom26
                          obtain ⟨A26, hA26⟩ : ∃ A1, A1 = (if c0 = ((ji15) : Int).toNat then A0 else (A0 : Option Addr).map (·.add (((ji15) : Int).toNat * 6))) := ⟨_, rfl⟩
                          obtain ⟨c26, hc26⟩ : ∃ c1, c1 = c0 - ((ji15) : Int).toNat := ⟨_, rfl⟩
                          have hy26 : y401.length = l0.length - ((ji15) : Int).toNat := (by rw [Ny401.out, List.length_drop] <;> omega)
                          rw [show (l0).drop ((ji15) : Int).toNat = y401 from Ny401.out.symm] at hr26
                          replace hr26 : Kd.C k40 _ A26 y401.length y401 := (by rw [hA26]; exact hr26)
                          rw [← hy26, ← hA26, ← hc26] at hcut26
                          have HR404 := Aside0.mk hr26
                          have HC404 := Aside0.mk (show y401.length ≤ c26 from by rw [hy26, hc26]; exact Nat.sub_le_sub_right hroom26 _)
                          clear hr26 hC26 hroom26 hi026 hsz26 hc26
                          have KY26 := Aside0.mk hy26
                          have KA26 := Aside0.mk hA26
                          clear hy26 hA26
                          replace q26 := eq_true q26
                          refine start_ (n := 10) (S := fun w' => True) (ds := []) #[false, false, false, false, false, false, false, false, false, false] (by kernel_rfl) rfl rfl trivial (fun hHeld => ?_); refine with_tabW fuseelaw10_PlanLess.tab5 fuseelaw10_PlanLess.bits5 (fun HT_ HW_ => ?_)
                          generalize w23.drew = w24 at HO393 HB HR397 HR404 hHeld ⊢
                          refine pure_ (i := 0) (N := some 37) (v := ?_) (a' := ?_) #[true, false, false, false, false, false, false, false, false, false] rfl rfl (any_of HT_.out (by kernel_rfl)) (fun _ _ _ h => h) (Or.inl ⟨by rfl, ?_⟩) ?_ ?_
                          rotate_left; focus (intro w'; go_simp; with_reducible rfl)
                          rotate_left; focus (simp only [Act.put, List.setIfInBounds_toArray, List.set_cons_zero, List.set_cons_succ, i64_w, i32_w]; rfl)
                          refine pure_ (i := 1) (N := some 38) (v := ?_) (a' := ?_) #[true, true, false, false, false, false, false, false, false, false] rfl rfl (any_of HT_.out (by kernel_rfl)) (fun _ _ _ h => h) (Or.inl ⟨by rfl, ?_⟩) ?_ ?_
                          rotate_left; focus (intro w'; go_simp; with_reducible rfl)
                          rotate_left; focus (simp only [Act.put, List.setIfInBounds_toArray, List.set_cons_zero, List.set_cons_succ, i64_w, i32_w]; rfl)
                          refine pure_ (i := 2) (N := some 39) (v := ?_) (a' := ?_) #[true, true, true, false, false, false, false, false, false, false] rfl rfl (any_of HT_.out (by kernel_rfl)) (fun _ _ _ h => h) (Or.inl ⟨by rfl, ?_⟩) ?_ ?_
                          rotate_left; focus (intro w'; go_simp; with_reducible rfl)
                          rotate_left; focus (simp only [Act.put, List.setIfInBounds_toArray, List.set_cons_zero, List.set_cons_succ, i64_w, i32_w]; rfl)
                          refine pure_ (i := 4) (N := some 41) (v := ?_) (a' := ?_) #[true, true, true, false, true, false, false, false, false, false] rfl rfl (any_of HT_.out (by kernel_rfl)) (fun _ _ _ h => h) (Or.inl ⟨by rfl, ?_⟩) ?_ ?_
                          rotate_left; focus (intro w'; go_simp; with_reducible rfl)
                          rotate_left; focus (simp only [Act.put, List.setIfInBounds_toArray, List.set_cons_zero, List.set_cons_succ, i64_w, i32_w]; rfl)
                          refine pure_ (i := 5) (N := some 42) (v := ?_) (a' := ?_) #[true, true, true, false, true, true, false, false, false, false] rfl rfl (any_of HT_.out (by kernel_rfl)) (fun _ _ _ h => h) (Or.inl ⟨by rfl, ?_⟩) ?_ ?_
                          rotate_left; focus (intro w'; go_simp; with_reducible rfl)
                          rotate_left; focus (simp only [Act.put, List.setIfInBounds_toArray, List.set_cons_zero, List.set_cons_succ, i64_w, i32_w]; rfl)
                          refine pure_ (i := 6) (N := some 43) (v := ?_) (a' := ?_) #[true, true, true, false, true, true, true, false, false, false] rfl rfl (any_of HT_.out (by kernel_rfl)) (fun _ _ _ h => h) (Or.inl ⟨by rfl, ?_⟩) ?_ ?_
                          rotate_left; focus (intro w'; go_simp; with_reducible rfl)
                          rotate_left; focus (simp only [Act.put, List.setIfInBounds_toArray, List.set_cons_zero, List.set_cons_succ, i64_w, i32_w]; rfl)
                          refine pure_ (i := 7) (N := some 44) (v := ?_) (a' := ?_) #[true, true, true, false, true, true, true, true, false, false] rfl rfl (any_of HT_.out (by kernel_rfl)) (fun _ _ _ h => h) (Or.inl ⟨by rfl, ?_⟩) ?_ ?_
                          rotate_left; focus (intro w'; go_simp; with_reducible rfl)
                          rotate_left; focus (simp only [Act.put, List.setIfInBounds_toArray, List.set_cons_zero, List.set_cons_succ, i64_w, i32_w]; rfl)
                          refine one_ (i := 3) (N := some 40) #[true, true, true, true, true, true, true, true, false, false] rfl rfl (one_of HT_.out (by kernel_rfl)) (by decide) (fun K hK => ?_)
                          refine Kd.R_append_rows_step k40 (w0 := w) w.heap.size (by rfl) (.const (.slice none 0 0)) (.tmp 39) 22 40 (.agg #[(.int .i64 0), (.int .i64 0), (.int .i64 0), (.int .i64 0), (.int .i64 0), (.int .i64 0)]) 48 rfl Try.underlying22 info40 rfl (by decide) (by omega) (.slice none 0 0) ([] : List (S40)) y394 _ _ _ (fun _ => True) (fun _ => False) rfl rfl ?aO ?aR (fun _ _ h => h) (fun _ h => h.elim) ?aF ?aB ?aS ?aL ?_
                          (case aR => repeat (first | exact (Kd.C_below HR397.out HB.out) | (with_reducible refine Kd.C_alloc ?_ _) | (with_reducible refine Kd.C_drewN ?_ _) | (with_reducible refine Kd.C_drew ?_)))
                          (case aB => exact (by repeat (first | (with_reducible first | exact HB.out | apply below_alloc | apply pw_below_drewN | apply below_drew1) | exact HB.out)))
                          (case aF => exact (fun _ _ => trivial))
                          (case aO => exact ((Kd.R_nil _ _ _ _ (fun _ => True))))
                          (case aS => exact (below_size (by repeat (first | (with_reducible first | exact HB.out | apply below_alloc | apply pw_below_drewN | apply below_drew1) | exact HB.out))))
                          (case aL => have := LMc14.out; omega)
                          intro v399 w27 ho hb hg hat
                          rw [← Ny398.out] at ho
                          have n0_ := Aside0.mk (Kd.R_grown (by (with_reducible repeat (first | apply Kd.R_alloc | apply Kd.R_drewN | apply Kd.R_drew)); exact HO393.out) hg (fun _ _ => by simp [Value.ownBlock]))
                          have n1_ := Aside0.mk (hb)
                          have n2_ := Aside0.mk (ho)
                          clear HO393
                          clear HB
                          have HO393 := n0_
                          have HB := n1_
                          have HO400 := n2_
                          clear n0_ n1_ n2_
                          clear ho hb hg hat
                          refine hK.out _ _ trivial (fun hHeld => ?_)
                          clear hK K
                          refine norm_ (a' := ?_) ?_ ?_
                          rotate_left
                          · show Act.put _ (some 40) _ = _
                            simp only [Act.put, List.setIfInBounds_toArray, List.set_cons_zero, List.set_cons_succ, i64_w, i32_w]
                            rfl
                          refine one_ (i := 8) (N := some 45) #[true, true, true, true, true, true, true, true, true, false] rfl rfl (one_of HT_.out (by kernel_rfl)) (by decide) (fun K hK => ?_)
                          refine Kd.R_append_rows_step k40 (w0 := w) w.heap.size (by rfl) (.tmp 40) (.tmp 44) 22 40 (.agg #[(.int .i64 0), (.int .i64 0), (.int .i64 0), (.int .i64 0), (.int .i64 0), (.int .i64 0)]) 48 rfl Try.underlying22 info40 rfl (by decide) (by omega) v399 y398 y401 _ _ _ (fun _ => True) (fun _ => False) rfl rfl ?aO ?aR (fun _ _ h => h) (fun _ h => h.elim) ?aF ?aB ?aS ?aL ?_
                          (case aR => repeat (first | exact (Kd.C_below HR404.out HB.out) | (with_reducible refine Kd.C_alloc ?_ _) | (with_reducible refine Kd.C_drewN ?_ _) | (with_reducible refine Kd.C_drew ?_)))
                          (case aB => exact (by repeat (first | (with_reducible first | exact HB.out | apply below_alloc | apply pw_below_drewN | apply below_drew1) | exact HB.out)))
                          (case aF => exact (fun _ _ => trivial))
                          (case aO => exact (by (with_reducible repeat (first | apply Kd.R_alloc | apply Kd.R_drewN | apply Kd.R_drew)); exact HO400.out))
                          (case aS => exact (below_size (by repeat (first | (with_reducible first | exact HB.out | apply below_alloc | apply pw_below_drewN | apply below_drew1) | exact HB.out))))
                          (case aL => have := LMc18.out; omega)
                          intro v406 w28 ho hb hg hat
                          rw [← Ny405.out] at ho
                          have n0_ := Aside0.mk (Kd.R_over' (by (with_reducible repeat (first | apply Kd.R_alloc | apply Kd.R_drewN | apply Kd.R_drew)); exact HO393.out) (Kd.R_typed (by (with_reducible repeat (first | apply Kd.R_alloc | apply Kd.R_drewN | apply Kd.R_drew)); exact HO400.out)) (by decide) hg)
                          have n1_ := Aside0.mk (hb)
                          have n2_ := Aside0.mk (ho)
                          clear HO393
                          clear HB
                          clear HO400
                          have HO393 := n0_
                          have HB := n1_
                          have HO407 := n2_
                          clear n0_ n1_ n2_
                          clear ho hb hg hat
                          refine hK.out _ _ trivial (fun hHeld => ?_)
                          clear hK K
                          refine norm_ (a' := ?_) ?_ ?_
                          rotate_left
                          · show Act.put _ (some 45) _ = _
                            simp only [Act.put, List.setIfInBounds_toArray, List.set_cons_zero, List.set_cons_succ, i64_w, i32_w]
                            rfl
                          refine pure_ (i := 9) (N := some 8) (v := ?_) (a' := ?_) #[true, true, true, true, true, true, true, true, true, true] rfl rfl (any_of HT_.out (by kernel_rfl)) (fun _ _ _ h => h) (Or.inl ⟨by rfl, ?_⟩) ?_ ?_
                          rotate_left; focus (intro w'; go_simp; with_reducible rfl)
                          rotate_left; focus (simp only [Act.put, List.setIfInBounds_toArray, List.set_cons_zero, List.set_cons_succ, i64_w, i32_w]; rfl)
                          refine done_ (done_of HT_.out (by kernel_rfl)) ?_
                          obtain ⟨Ao29, co29, eo29⟩ := Kd.R_slice HO407.out
                          subst eo29
                          try go_wp2_with (first | ((with_reducible refine gate_callee (f := 13) rfl ?_); refine goesL_ (some 48) rfl rfl Try.func13 (by kernel_rfl) rfl #[.slice Ao29 y405.length co29] rfl (by (try simp only [List.map_toArray, List.map_cons, List.map_nil]); first | done | rfl | (simp only [List.length_drop, List.length_take]; rfl)) ?_; (with_reducible refine (plan_Target.calls k _ _ y405 t408 t409 _ ?side1 ?side2 A19.out).mono ?_); (case side1 => repeat (first | exact (Kd.R_reads' HO407.out).2.2 | (with_reducible refine Kd.C_alloc ?_ _) | (with_reducible refine Kd.C_drewN ?_ _) | (with_reducible refine Kd.C_drew ?_))); (case side2 => exact (Kd.R_reads' HO407.out).2.1); rintro e w30 ⟨v410, rfl, ho0, hb⟩; refine ⟨_, rfl, ?_⟩; have n0_ := Aside0.mk (Kd.R_elder' (by (with_reducible repeat (first | apply Kd.R_alloc | apply Kd.R_drewN | apply Kd.R_drew)); exact HO393.out) (Kd.R_base ho0) hb); have n1_ := Aside0.mk (Kd.R_below (by (with_reducible repeat (first | apply Kd.R_alloc | apply Kd.R_drewN | apply Kd.R_drew)); exact HO407.out) hb); have n2_ := Aside0.mk (Kd.R_lower (Kd.R_new' ho0 (Kd.R_lt (by (with_reducible repeat (first | apply Kd.R_alloc | apply Kd.R_drewN | apply Kd.R_drew)); exact HO393.out))) (below_size (by repeat (first | (with_reducible first | exact HB.out | apply below_alloc | apply pw_below_drewN | apply below_drew1) | exact HB.out)))); have n3_ := bs HB hb; clear HO393; clear HO407; clear HB; have HO393 := n0_; have HO407 := n1_; have HO411 := n2_; have HB := n3_; clear n0_ n1_ n2_ n3_; (try clear hb); (try clear hb2); (try clear hk); (try clear hi); (try clear ho0)))
                          go_ret
                          exact ⟨by first | rfl | (simp [errW_none, errW_some] <;> rfl) | (simp only [← hji15]; first | rfl | (simp [errW_none, errW_some] <;> rfl)) | (simp [*, errW_none, errW_some] <;> rfl) | (exfalso; first | contradiction | (revert c20b0 c21b0; simp +contextual; done)), by repeat (first | (with_reducible first | exact HB.out | apply below_alloc | apply pw_below_drewN | apply below_drew1) | exact HB.out)⟩
                        · rw [if_neg c21] at H
                          have c21b0 : (t391 == 5) = false := beq_eq_false_iff_ne.mpr c21
                          have c21b1 : (t391 != 5) = true := bne_iff_ne.mpr c21
                          obtain rfl := Option.some.inj H
                          go_enter Try.func6, Try.ntmps6
                          try go_wp2_with (first | ((with_reducible refine gate_callee (f := 10) rfl ?_); refine goesL_ (some 13) rfl rfl Try.func10 (by kernel_rfl) rfl #[] rfl (by (try simp only [List.map_toArray, List.map_cons, List.map_nil]); first | done | rfl | (simp only [List.length_drop, List.length_take]; rfl)) ?_; (with_reducible refine (fuseelaw10_awake.calls k  true _ A3.out).mono ?_); rintro e w31 ⟨rfl, hb⟩; refine ⟨_, rfl, ?_⟩; have n0_ := bs HB hb; clear HB; have HB := n0_; clear n0_; (try clear hb); (try clear hb2); (try clear hk); (try clear hi)) | ((with_reducible refine gate_callee (f := 13) rfl ?_); refine goesL_ (some 34) rfl rfl Try.func13 (by kernel_rfl) rfl #[.slice A0 l0.length c0] rfl (by (try simp only [List.map_toArray, List.map_cons, List.map_nil]); first | done | rfl | (simp only [List.length_drop, List.length_take]; rfl)) ?_; (with_reducible refine (plan_Target.calls k _ _ l0 t390 t391 _ ?side1 ?side2 A11.out).mono ?_); (case side1 => repeat (first | exact (Kd.C_below HR0.out HB.out) | (with_reducible refine Kd.C_alloc ?_ _) | (with_reducible refine Kd.C_drewN ?_ _) | (with_reducible refine Kd.C_drew ?_))); (case side2 => exact HC0.out); rintro e w32 ⟨v392, rfl, ho0, hb⟩; refine ⟨_, rfl, ?_⟩; have n0_ := Aside0.mk (Kd.R_lower ho0 (below_size (by repeat (first | (with_reducible first | exact HB.out | apply below_alloc | apply pw_below_drewN | apply below_drew1) | exact HB.out)))); have n1_ := bs HB hb; clear HB; have HO393 := n0_; have HB := n1_; clear n0_ n1_; (try clear hb); (try clear hb2); (try clear hk); (try clear hi); (try clear ho0)))
                          have n0_ := Aside0.mk (Kd.R_drew HO393.out)
                          have n1_ := Aside0.mk (below_drew1 HB.out)
                          clear HO393
                          clear HB
                          have HO393 := n0_
                          have HB := n1_
                          clear n0_ n1_
                          have q34 : (a1 : Int) ≤ ((l0.length : Int) : Int) := of_decide_eq_true (by first | (with_reducible assumption) | assumption)
                          obtain ⟨i034, hi034, _, hsz34, _⟩ := info_parts info40
                          have hroom34 : l0.length ≤ c0 := HC0.out
                          have hC34 : Kd.C k40 _ A0 l0.length l0 := HR0.out
                          have hcut34 := cut_to (P := Try.prog) 22 40 .i64 Try.underlying22 hi034 A0 l0.length c0 a1 (of_decide_eq_true (by first | (with_reducible assumption) | assumption)) q34 hroom34
                          have hr34 := Kd.C_take (m := (a1 : Int).toNat) hC34 (by omega)
                          have hy34 : y394.length = (a1 : Int).toNat := (by rw [Ny394.out, List.length_take]; omega)
                          rw [← Ny394.out] at hr34
                          rw [← hy34] at hcut34
                          have HR397 := Aside0.mk hr34
                          have HC397 := Aside0.mk (show y394.length ≤ c0 from by omega)
                          clear hr34 hC34 hroom34 hi034 hsz34
                          have KY34 := Aside0.mk hy34
                          clear hy34
                          replace q34 := eq_true q34
                          have q35 : ((ji15) : Int) ≤ ((l0.length : Int) : Int) := of_decide_eq_true (by first | (with_reducible assumption) | assumption)
                          obtain ⟨i035, hi035, _, hsz35, _⟩ := info_parts info40
                          have hroom35 : l0.length ≤ c0 := HC0.out
                          have hC35 : Kd.C k40 _ A0 l0.length l0 := HR0.out
                          have q035 : (0 : Int) ≤ ((ji15) : Int) := of_decide_eq_true (by first | (with_reducible assumption) | assumption)
                          have hcut35 := cut_from (P := Try.prog) 22 40 .i64 Try.underlying22 hi035 6 hsz35 A0 l0.length c0 (ji15) q035 q35
                          have hr35 := Kd.C_drop (m := ((ji15) : Int).toNat) (c := c0) hC35 (by omega) hroom35
                          obtain ⟨A35, hA35⟩ : ∃ A1, A1 = (if c0 = ((ji15) : Int).toNat then A0 else (A0 : Option Addr).map (·.add (((ji15) : Int).toNat * 6))) := ⟨_, rfl⟩
                          obtain ⟨c35, hc35⟩ : ∃ c1, c1 = c0 - ((ji15) : Int).toNat := ⟨_, rfl⟩
                          have hy35 : y401.length = l0.length - ((ji15) : Int).toNat := (by rw [Ny401.out, List.length_drop] <;> omega)
                          rw [show (l0).drop ((ji15) : Int).toNat = y401 from Ny401.out.symm] at hr35
                          replace hr35 : Kd.C k40 _ A35 y401.length y401 := (by rw [hA35]; exact hr35)
                          rw [← hy35, ← hA35, ← hc35] at hcut35
                          have HR404 := Aside0.mk hr35
                          have HC404 := Aside0.mk (show y401.length ≤ c35 from by rw [hy35, hc35]; exact Nat.sub_le_sub_right hroom35 _)
                          clear hr35 hC35 hroom35 hi035 hsz35 hc35
                          have KY35 := Aside0.mk hy35
                          have KA35 := Aside0.mk hA35
                          clear hy35 hA35
                          replace q35 := eq_true q35
                          refine start_ (n := 10) (S := fun w' => True) (ds := []) #[false, false, false, false, false, false, false, false, false, false] (by kernel_rfl) rfl rfl trivial (fun hHeld => ?_); refine with_tabW fuseelaw10_PlanLess.tab5 fuseelaw10_PlanLess.bits5 (fun HT_ HW_ => ?_)
                          generalize w32.drew = w33 at HO393 HB HR397 HR404 hHeld ⊢
                          refine pure_ (i := 0) (N := some 37) (v := ?_) (a' := ?_) #[true, false, false, false, false, false, false, false, false, false] rfl rfl (any_of HT_.out (by kernel_rfl)) (fun _ _ _ h => h) (Or.inl ⟨by rfl, ?_⟩) ?_ ?_
                          rotate_left; focus (intro w'; go_simp; with_reducible rfl)
                          rotate_left; focus (simp only [Act.put, List.setIfInBounds_toArray, List.set_cons_zero, List.set_cons_succ, i64_w, i32_w]; rfl)
                          refine pure_ (i := 1) (N := some 38) (v := ?_) (a' := ?_) #[true, true, false, false, false, false, false, false, false, false] rfl rfl (any_of HT_.out (by kernel_rfl)) (fun _ _ _ h => h) (Or.inl ⟨by rfl, ?_⟩) ?_ ?_
                          rotate_left; focus (intro w'; go_simp; with_reducible rfl)
                          rotate_left; focus (simp only [Act.put, List.setIfInBounds_toArray, List.set_cons_zero, List.set_cons_succ, i64_w, i32_w]; rfl)
                          refine pure_ (i := 2) (N := some 39) (v := ?_) (a' := ?_) #[true, true, true, false, false, false, false, false, false, false] rfl rfl (any_of HT_.out (by kernel_rfl)) (fun _ _ _ h => h) (Or.inl ⟨by rfl, ?_⟩) ?_ ?_
                          rotate_left; focus (intro w'; go_simp; with_reducible rfl)
                          rotate_left; focus (simp only [Act.put, List.setIfInBounds_toArray, List.set_cons_zero, List.set_cons_succ, i64_w, i32_w]; rfl)
                          refine pure_ (i := 4) (N := some 41) (v := ?_) (a' := ?_) #[true, true, true, false, true, false, false, false, false, false] rfl rfl (any_of HT_.out (by kernel_rfl)) (fun _ _ _ h => h) (Or.inl ⟨by rfl, ?_⟩) ?_ ?_
                          rotate_left; focus (intro w'; go_simp; with_reducible rfl)
                          rotate_left; focus (simp only [Act.put, List.setIfInBounds_toArray, List.set_cons_zero, List.set_cons_succ, i64_w, i32_w]; rfl)
                          refine pure_ (i := 5) (N := some 42) (v := ?_) (a' := ?_) #[true, true, true, false, true, true, false, false, false, false] rfl rfl (any_of HT_.out (by kernel_rfl)) (fun _ _ _ h => h) (Or.inl ⟨by rfl, ?_⟩) ?_ ?_
                          rotate_left; focus (intro w'; go_simp; with_reducible rfl)
                          rotate_left; focus (simp only [Act.put, List.setIfInBounds_toArray, List.set_cons_zero, List.set_cons_succ, i64_w, i32_w]; rfl)
                          refine pure_ (i := 6) (N := some 43) (v := ?_) (a' := ?_) #[true, true, true, false, true, true, true, false, false, false] rfl rfl (any_of HT_.out (by kernel_rfl)) (fun _ _ _ h => h) (Or.inl ⟨by rfl, ?_⟩) ?_ ?_
                          rotate_left; focus (intro w'; go_simp; with_reducible rfl)
                          rotate_left; focus (simp only [Act.put, List.setIfInBounds_toArray, List.set_cons_zero, List.set_cons_succ, i64_w, i32_w]; rfl)
                          refine pure_ (i := 7) (N := some 44) (v := ?_) (a' := ?_) #[true, true, true, false, true, true, true, true, false, false] rfl rfl (any_of HT_.out (by kernel_rfl)) (fun _ _ _ h => h) (Or.inl ⟨by rfl, ?_⟩) ?_ ?_
                          rotate_left; focus (intro w'; go_simp; with_reducible rfl)
                          rotate_left; focus (simp only [Act.put, List.setIfInBounds_toArray, List.set_cons_zero, List.set_cons_succ, i64_w, i32_w]; rfl)
                          refine one_ (i := 3) (N := some 40) #[true, true, true, true, true, true, true, true, false, false] rfl rfl (one_of HT_.out (by kernel_rfl)) (by decide) (fun K hK => ?_)
                          refine Kd.R_append_rows_step k40 (w0 := w) w.heap.size (by rfl) (.const (.slice none 0 0)) (.tmp 39) 22 40 (.agg #[(.int .i64 0), (.int .i64 0), (.int .i64 0), (.int .i64 0), (.int .i64 0), (.int .i64 0)]) 48 rfl Try.underlying22 info40 rfl (by decide) (by omega) (.slice none 0 0) ([] : List (S40)) y394 _ _ _ (fun _ => True) (fun _ => False) rfl rfl ?aO ?aR (fun _ _ h => h) (fun _ h => h.elim) ?aF ?aB ?aS ?aL ?_
                          (case aR => repeat (first | exact (Kd.C_below HR397.out HB.out) | (with_reducible refine Kd.C_alloc ?_ _) | (with_reducible refine Kd.C_drewN ?_ _) | (with_reducible refine Kd.C_drew ?_)))
                          (case aB => exact (by repeat (first | (with_reducible first | exact HB.out | apply below_alloc | apply pw_below_drewN | apply below_drew1) | exact HB.out)))
                          (case aF => exact (fun _ _ => trivial))
                          (case aO => exact ((Kd.R_nil _ _ _ _ (fun _ => True))))
                          (case aS => exact (below_size (by repeat (first | (with_reducible first | exact HB.out | apply below_alloc | apply pw_below_drewN | apply below_drew1) | exact HB.out))))
                          (case aL => have := LMc14.out; omega)
                          intro v399 w36 ho hb hg hat
                          rw [← Ny398.out] at ho
                          have n0_ := Aside0.mk (Kd.R_grown (by (with_reducible repeat (first | apply Kd.R_alloc | apply Kd.R_drewN | apply Kd.R_drew)); exact HO393.out) hg (fun _ _ => by simp [Value.ownBlock]))
                          have n1_ := Aside0.mk (hb)
                          have n2_ := Aside0.mk (ho)
                          clear HO393
                          clear HB
                          have HO393 := n0_
                          have HB := n1_
                          have HO400 := n2_
                          clear n0_ n1_ n2_
                          clear ho hb hg hat
                          refine hK.out _ _ trivial (fun hHeld => ?_)
                          clear hK K
                          refine norm_ (a' := ?_) ?_ ?_
                          rotate_left
                          · show Act.put _ (some 40) _ = _
                            simp only [Act.put, List.setIfInBounds_toArray, List.set_cons_zero, List.set_cons_succ, i64_w, i32_w]
                            rfl
                          refine one_ (i := 8) (N := some 45) #[true, true, true, true, true, true, true, true, true, false] rfl rfl (one_of HT_.out (by kernel_rfl)) (by decide) (fun K hK => ?_)
                          refine Kd.R_append_rows_step k40 (w0 := w) w.heap.size (by rfl) (.tmp 40) (.tmp 44) 22 40 (.agg #[(.int .i64 0), (.int .i64 0), (.int .i64 0), (.int .i64 0), (.int .i64 0), (.int .i64 0)]) 48 rfl Try.underlying22 info40 rfl (by decide) (by omega) v399 y398 y401 _ _ _ (fun _ => True) (fun _ => False) rfl rfl ?aO ?aR (fun _ _ h => h) (fun _ h => h.elim) ?aF ?aB ?aS ?aL ?_
                          (case aR => repeat (first | exact (Kd.C_below HR404.out HB.out) | (with_reducible refine Kd.C_alloc ?_ _) | (with_reducible refine Kd.C_drewN ?_ _) | (with_reducible refine Kd.C_drew ?_)))
                          (case aB => exact (by repeat (first | (with_reducible first | exact HB.out | apply below_alloc | apply pw_below_drewN | apply below_drew1) | exact HB.out)))
                          (case aF => exact (fun _ _ => trivial))
                          (case aO => exact (by (with_reducible repeat (first | apply Kd.R_alloc | apply Kd.R_drewN | apply Kd.R_drew)); exact HO400.out))
                          (case aS => exact (below_size (by repeat (first | (with_reducible first | exact HB.out | apply below_alloc | apply pw_below_drewN | apply below_drew1) | exact HB.out))))
                          (case aL => have := LMc18.out; omega)
                          intro v406 w37 ho hb hg hat
                          rw [← Ny405.out] at ho
                          have n0_ := Aside0.mk (Kd.R_over' (by (with_reducible repeat (first | apply Kd.R_alloc | apply Kd.R_drewN | apply Kd.R_drew)); exact HO393.out) (Kd.R_typed (by (with_reducible repeat (first | apply Kd.R_alloc | apply Kd.R_drewN | apply Kd.R_drew)); exact HO400.out)) (by decide) hg)
                          have n1_ := Aside0.mk (hb)
                          have n2_ := Aside0.mk (ho)
                          clear HO393
                          clear HB
                          clear HO400
                          have HO393 := n0_
                          have HB := n1_
                          have HO407 := n2_
                          clear n0_ n1_ n2_
                          clear ho hb hg hat
                          refine hK.out _ _ trivial (fun hHeld => ?_)
                          clear hK K
                          refine norm_ (a' := ?_) ?_ ?_
                          rotate_left
                          · show Act.put _ (some 45) _ = _
                            simp only [Act.put, List.setIfInBounds_toArray, List.set_cons_zero, List.set_cons_succ, i64_w, i32_w]
                            rfl
                          refine pure_ (i := 9) (N := some 8) (v := ?_) (a' := ?_) #[true, true, true, true, true, true, true, true, true, true] rfl rfl (any_of HT_.out (by kernel_rfl)) (fun _ _ _ h => h) (Or.inl ⟨by rfl, ?_⟩) ?_ ?_
                          rotate_left; focus (intro w'; go_simp; with_reducible rfl)
                          rotate_left; focus (simp only [Act.put, List.setIfInBounds_toArray, List.set_cons_zero, List.set_cons_succ, i64_w, i32_w]; rfl)
                          refine done_ (done_of HT_.out (by kernel_rfl)) ?_
                          obtain ⟨Ao38, co38, eo38⟩ := Kd.R_slice HO407.out
                          subst eo38
                          try go_wp2_with (first | ((with_reducible refine gate_callee (f := 13) rfl ?_); refine goesL_ (some 48) rfl rfl Try.func13 (by kernel_rfl) rfl #[.slice Ao38 y405.length co38] rfl (by (try simp only [List.map_toArray, List.map_cons, List.map_nil]); first | done | rfl | (simp only [List.length_drop, List.length_take]; rfl)) ?_; (with_reducible refine (plan_Target.calls k _ _ y405 t408 t409 _ ?side1 ?side2 A19.out).mono ?_); (case side1 => repeat (first | exact (Kd.R_reads' HO407.out).2.2 | (with_reducible refine Kd.C_alloc ?_ _) | (with_reducible refine Kd.C_drewN ?_ _) | (with_reducible refine Kd.C_drew ?_))); (case side2 => exact (Kd.R_reads' HO407.out).2.1); rintro e w39 ⟨v410, rfl, ho0, hb⟩; refine ⟨_, rfl, ?_⟩; have n0_ := Aside0.mk (Kd.R_elder' (by (with_reducible repeat (first | apply Kd.R_alloc | apply Kd.R_drewN | apply Kd.R_drew)); exact HO393.out) (Kd.R_base ho0) hb); have n1_ := Aside0.mk (Kd.R_below (by (with_reducible repeat (first | apply Kd.R_alloc | apply Kd.R_drewN | apply Kd.R_drew)); exact HO407.out) hb); have n2_ := Aside0.mk (Kd.R_lower (Kd.R_new' ho0 (Kd.R_lt (by (with_reducible repeat (first | apply Kd.R_alloc | apply Kd.R_drewN | apply Kd.R_drew)); exact HO393.out))) (below_size (by repeat (first | (with_reducible first | exact HB.out | apply below_alloc | apply pw_below_drewN | apply below_drew1) | exact HB.out)))); have n3_ := bs HB hb; clear HO393; clear HO407; clear HB; have HO393 := n0_; have HO407 := n1_; have HO411 := n2_; have HB := n3_; clear n0_ n1_ n2_ n3_; (try clear hb); (try clear hb2); (try clear hk); (try clear hi); (try clear ho0)))
                          go_ret
                          exact ⟨by first | rfl | (simp [errW_none, errW_some] <;> rfl) | (simp only [← hji15]; first | rfl | (simp [errW_none, errW_some] <;> rfl)) | (simp [*, errW_none, errW_some] <;> rfl) | (exfalso; first | contradiction | (revert c20b0 c21b0; simp +contextual; done)), by repeat (first | (with_reducible first | exact HB.out | apply below_alloc | apply pw_below_drewN | apply below_drew1) | exact HB.out)⟩
                      · rw [if_neg c20] at H
                        have c20b0 : (t409 == 5) = false := beq_eq_false_iff_ne.mpr c20
                        have c20b1 : (t409 != 5) = true := bne_iff_ne.mpr c20
                        by_cases c40 : t409 = 1
                        · rw [if_pos c40] at H
                          have c40b0 : (t409 == 1) = true := beq_iff_eq.mpr c40
                          have c40b1 : (t409 != 1) = false := bne_eq_false_iff_eq.mpr c40
                          clear c40
                          by_cases c41 : t391 = 5
                          · rw [if_pos c41] at H
                            have c41b0 : (t391 == 5) = true := beq_iff_eq.mpr c41
                            have c41b1 : (t391 != 5) = false := bne_eq_false_iff_eq.mpr c41
                            clear c41
                            obtain rfl := Option.some.inj H
                            go_enter Try.func6, Try.ntmps6
                            try go_wp2_with (first | ((with_reducible refine gate_callee (f := 10) rfl ?_); refine goesL_ (some 13) rfl rfl Try.func10 (by kernel_rfl) rfl #[] rfl (by (try simp only [List.map_toArray, List.map_cons, List.map_nil]); first | done | rfl | (simp only [List.length_drop, List.length_take]; rfl)) ?_; (with_reducible refine (fuseelaw10_awake.calls k  true _ A3.out).mono ?_); rintro e w42 ⟨rfl, hb⟩; refine ⟨_, rfl, ?_⟩; have n0_ := bs HB hb; clear HB; have HB := n0_; clear n0_; (try clear hb); (try clear hb2); (try clear hk); (try clear hi)) | ((with_reducible refine gate_callee (f := 13) rfl ?_); refine goesL_ (some 34) rfl rfl Try.func13 (by kernel_rfl) rfl #[.slice A0 l0.length c0] rfl (by (try simp only [List.map_toArray, List.map_cons, List.map_nil]); first | done | rfl | (simp only [List.length_drop, List.length_take]; rfl)) ?_; (with_reducible refine (plan_Target.calls k _ _ l0 t390 t391 _ ?side1 ?side2 A11.out).mono ?_); (case side1 => repeat (first | exact (Kd.C_below HR0.out HB.out) | (with_reducible refine Kd.C_alloc ?_ _) | (with_reducible refine Kd.C_drewN ?_ _) | (with_reducible refine Kd.C_drew ?_))); (case side2 => exact HC0.out); rintro e w43 ⟨v392, rfl, ho0, hb⟩; refine ⟨_, rfl, ?_⟩; have n0_ := Aside0.mk (Kd.R_lower ho0 (below_size (by repeat (first | (with_reducible first | exact HB.out | apply below_alloc | apply pw_below_drewN | apply below_drew1) | exact HB.out)))); have n1_ := bs HB hb; clear HB; have HO393 := n0_; have HB := n1_; clear n0_ n1_; (try clear hb); (try clear hb2); (try clear hk); (try clear hi); (try clear ho0)))
                            have n0_ := Aside0.mk (Kd.R_drew HO393.out)
                            have n1_ := Aside0.mk (below_drew1 HB.out)
                            clear HO393
                            clear HB
                            have HO393 := n0_
                            have HB := n1_
                            clear n0_ n1_
                            have q45 : (a1 : Int) ≤ ((l0.length : Int) : Int) := of_decide_eq_true (by first | (with_reducible assumption) | assumption)
                            obtain ⟨i045, hi045, _, hsz45, _⟩ := info_parts info40
                            have hroom45 : l0.length ≤ c0 := HC0.out
                            have hC45 : Kd.C k40 _ A0 l0.length l0 := HR0.out
                            have hcut45 := cut_to (P := Try.prog) 22 40 .i64 Try.underlying22 hi045 A0 l0.length c0 a1 (of_decide_eq_true (by first | (with_reducible assumption) | assumption)) q45 hroom45
                            have hr45 := Kd.C_take (m := (a1 : Int).toNat) hC45 (by omega)
                            have hy45 : y394.length = (a1 : Int).toNat := (by rw [Ny394.out, List.length_take]; omega)
                            rw [← Ny394.out] at hr45
                            rw [← hy45] at hcut45
                            have HR397 := Aside0.mk hr45
                            have HC397 := Aside0.mk (show y394.length ≤ c0 from by omega)
                            clear hr45 hC45 hroom45 hi045 hsz45
                            have KY45 := Aside0.mk hy45
                            clear hy45
                            replace q45 := eq_true q45
                            have q46 : ((ji15) : Int) ≤ ((l0.length : Int) : Int) := of_decide_eq_true (by first | (with_reducible assumption) | assumption)
                            obtain ⟨i046, hi046, _, hsz46, _⟩ := info_parts info40
                            have hroom46 : l0.length ≤ c0 := HC0.out
                            have hC46 : Kd.C k40 _ A0 l0.length l0 := HR0.out
                            have q046 : (0 : Int) ≤ ((ji15) : Int) := of_decide_eq_true (by first | (with_reducible assumption) | assumption)
                            have hcut46 := cut_from (P := Try.prog) 22 40 .i64 Try.underlying22 hi046 6 hsz46 A0 l0.length c0 (ji15) q046 q46
                            have hr46 := Kd.C_drop (m := ((ji15) : Int).toNat) (c := c0) hC46 (by omega) hroom46
                            obtain ⟨A46, hA46⟩ : ∃ A1, A1 = (if c0 = ((ji15) : Int).toNat then A0 else (A0 : Option Addr).map (·.add (((ji15) : Int).toNat * 6))) := ⟨_, rfl⟩
                            obtain ⟨c46, hc46⟩ : ∃ c1, c1 = c0 - ((ji15) : Int).toNat := ⟨_, rfl⟩
                            have hy46 : y401.length = l0.length - ((ji15) : Int).toNat := (by rw [Ny401.out, List.length_drop] <;> omega)
                            rw [show (l0).drop ((ji15) : Int).toNat = y401 from Ny401.out.symm] at hr46
                            replace hr46 : Kd.C k40 _ A46 y401.length y401 := (by rw [hA46]; exact hr46)
                            rw [← hy46, ← hA46, ← hc46] at hcut46
                            have HR404 := Aside0.mk hr46
                            have HC404 := Aside0.mk (show y401.length ≤ c46 from by rw [hy46, hc46]; exact Nat.sub_le_sub_right hroom46 _)
                            clear hr46 hC46 hroom46 hi046 hsz46 hc46
                            have KY46 := Aside0.mk hy46
                            have KA46 := Aside0.mk hA46
                            clear hy46 hA46
                            replace q46 := eq_true q46
                            refine start_ (n := 10) (S := fun w' => True) (ds := []) #[false, false, false, false, false, false, false, false, false, false] (by kernel_rfl) rfl rfl trivial (fun hHeld => ?_); refine with_tabW fuseelaw10_PlanLess.tab5 fuseelaw10_PlanLess.bits5 (fun HT_ HW_ => ?_)
                            generalize w43.drew = w44 at HO393 HB HR397 HR404 hHeld ⊢
                            refine pure_ (i := 0) (N := some 37) (v := ?_) (a' := ?_) #[true, false, false, false, false, false, false, false, false, false] rfl rfl (any_of HT_.out (by kernel_rfl)) (fun _ _ _ h => h) (Or.inl ⟨by rfl, ?_⟩) ?_ ?_
                            rotate_left; focus (intro w'; go_simp; with_reducible rfl)
                            rotate_left; focus (simp only [Act.put, List.setIfInBounds_toArray, List.set_cons_zero, List.set_cons_succ, i64_w, i32_w]; rfl)
                            refine pure_ (i := 1) (N := some 38) (v := ?_) (a' := ?_) #[true, true, false, false, false, false, false, false, false, false] rfl rfl (any_of HT_.out (by kernel_rfl)) (fun _ _ _ h => h) (Or.inl ⟨by rfl, ?_⟩) ?_ ?_
                            rotate_left; focus (intro w'; go_simp; with_reducible rfl)
                            rotate_left; focus (simp only [Act.put, List.setIfInBounds_toArray, List.set_cons_zero, List.set_cons_succ, i64_w, i32_w]; rfl)
                            refine pure_ (i := 2) (N := some 39) (v := ?_) (a' := ?_) #[true, true, true, false, false, false, false, false, false, false] rfl rfl (any_of HT_.out (by kernel_rfl)) (fun _ _ _ h => h) (Or.inl ⟨by rfl, ?_⟩) ?_ ?_
                            rotate_left; focus (intro w'; go_simp; with_reducible rfl)
                            rotate_left; focus (simp only [Act.put, List.setIfInBounds_toArray, List.set_cons_zero, List.set_cons_succ, i64_w, i32_w]; rfl)
                            refine pure_ (i := 4) (N := some 41) (v := ?_) (a' := ?_) #[true, true, true, false, true, false, false, false, false, false] rfl rfl (any_of HT_.out (by kernel_rfl)) (fun _ _ _ h => h) (Or.inl ⟨by rfl, ?_⟩) ?_ ?_
                            rotate_left; focus (intro w'; go_simp; with_reducible rfl)
                            rotate_left; focus (simp only [Act.put, List.setIfInBounds_toArray, List.set_cons_zero, List.set_cons_succ, i64_w, i32_w]; rfl)
                            refine pure_ (i := 5) (N := some 42) (v := ?_) (a' := ?_) #[true, true, true, false, true, true, false, false, false, false] rfl rfl (any_of HT_.out (by kernel_rfl)) (fun _ _ _ h => h) (Or.inl ⟨by rfl, ?_⟩) ?_ ?_
                            rotate_left; focus (intro w'; go_simp; with_reducible rfl)
                            rotate_left; focus (simp only [Act.put, List.setIfInBounds_toArray, List.set_cons_zero, List.set_cons_succ, i64_w, i32_w]; rfl)
                            refine pure_ (i := 6) (N := some 43) (v := ?_) (a' := ?_) #[true, true, true, false, true, true, true, false, false, false] rfl rfl (any_of HT_.out (by kernel_rfl)) (fun _ _ _ h => h) (Or.inl ⟨by rfl, ?_⟩) ?_ ?_
                            rotate_left; focus (intro w'; go_simp; with_reducible rfl)
                            rotate_left; focus (simp only [Act.put, List.setIfInBounds_toArray, List.set_cons_zero, List.set_cons_succ, i64_w, i32_w]; rfl)
                            refine pure_ (i := 7) (N := some 44) (v := ?_) (a' := ?_) #[true, true, true, false, true, true, true, true, false, false] rfl rfl (any_of HT_.out (by kernel_rfl)) (fun _ _ _ h => h) (Or.inl ⟨by rfl, ?_⟩) ?_ ?_
                            rotate_left; focus (intro w'; go_simp; with_reducible rfl)
                            rotate_left; focus (simp only [Act.put, List.setIfInBounds_toArray, List.set_cons_zero, List.set_cons_succ, i64_w, i32_w]; rfl)
                            refine one_ (i := 3) (N := some 40) #[true, true, true, true, true, true, true, true, false, false] rfl rfl (one_of HT_.out (by kernel_rfl)) (by decide) (fun K hK => ?_)
                            refine Kd.R_append_rows_step k40 (w0 := w) w.heap.size (by rfl) (.const (.slice none 0 0)) (.tmp 39) 22 40 (.agg #[(.int .i64 0), (.int .i64 0), (.int .i64 0), (.int .i64 0), (.int .i64 0), (.int .i64 0)]) 48 rfl Try.underlying22 info40 rfl (by decide) (by omega) (.slice none 0 0) ([] : List (S40)) y394 _ _ _ (fun _ => True) (fun _ => False) rfl rfl ?aO ?aR (fun _ _ h => h) (fun _ h => h.elim) ?aF ?aB ?aS ?aL ?_
                            (case aR => repeat (first | exact (Kd.C_below HR397.out HB.out) | (with_reducible refine Kd.C_alloc ?_ _) | (with_reducible refine Kd.C_drewN ?_ _) | (with_reducible refine Kd.C_drew ?_)))
                            (case aB => exact (by repeat (first | (with_reducible first | exact HB.out | apply below_alloc | apply pw_below_drewN | apply below_drew1) | exact HB.out)))
                            (case aF => exact (fun _ _ => trivial))
                            (case aO => exact ((Kd.R_nil _ _ _ _ (fun _ => True))))
                            (case aS => exact (below_size (by repeat (first | (with_reducible first | exact HB.out | apply below_alloc | apply pw_below_drewN | apply below_drew1) | exact HB.out))))
                            (case aL => have := LMc14.out; omega)
                            intro v399 w47 ho hb hg hat
                            rw [← Ny398.out] at ho
                            have n0_ := Aside0.mk (Kd.R_grown (by (with_reducible repeat (first | apply Kd.R_alloc | apply Kd.R_drewN | apply Kd.R_drew)); exact HO393.out) hg (fun _ _ => by simp [Value.ownBlock]))
                            have n1_ := Aside0.mk (hb)
                            have n2_ := Aside0.mk (ho)
                            clear HO393
                            clear HB
                            have HO393 := n0_
                            have HB := n1_
                            have HO400 := n2_
                            clear n0_ n1_ n2_
                            clear ho hb hg hat
                            refine hK.out _ _ trivial (fun hHeld => ?_)
                            clear hK K
                            refine norm_ (a' := ?_) ?_ ?_
                            rotate_left
                            · show Act.put _ (some 40) _ = _
                              simp only [Act.put, List.setIfInBounds_toArray, List.set_cons_zero, List.set_cons_succ, i64_w, i32_w]
                              rfl
                            refine one_ (i := 8) (N := some 45) #[true, true, true, true, true, true, true, true, true, false] rfl rfl (one_of HT_.out (by kernel_rfl)) (by decide) (fun K hK => ?_)
                            refine Kd.R_append_rows_step k40 (w0 := w) w.heap.size (by rfl) (.tmp 40) (.tmp 44) 22 40 (.agg #[(.int .i64 0), (.int .i64 0), (.int .i64 0), (.int .i64 0), (.int .i64 0), (.int .i64 0)]) 48 rfl Try.underlying22 info40 rfl (by decide) (by omega) v399 y398 y401 _ _ _ (fun _ => True) (fun _ => False) rfl rfl ?aO ?aR (fun _ _ h => h) (fun _ h => h.elim) ?aF ?aB ?aS ?aL ?_
                            (case aR => repeat (first | exact (Kd.C_below HR404.out HB.out) | (with_reducible refine Kd.C_alloc ?_ _) | (with_reducible refine Kd.C_drewN ?_ _) | (with_reducible refine Kd.C_drew ?_)))
                            (case aB => exact (by repeat (first | (with_reducible first | exact HB.out | apply below_alloc | apply pw_below_drewN | apply below_drew1) | exact HB.out)))
                            (case aF => exact (fun _ _ => trivial))
                            (case aO => exact (by (with_reducible repeat (first | apply Kd.R_alloc | apply Kd.R_drewN | apply Kd.R_drew)); exact HO400.out))
                            (case aS => exact (below_size (by repeat (first | (with_reducible first | exact HB.out | apply below_alloc | apply pw_below_drewN | apply below_drew1) | exact HB.out))))
                            (case aL => have := LMc18.out; omega)
                            intro v406 w48 ho hb hg hat
                            rw [← Ny405.out] at ho
                            have n0_ := Aside0.mk (Kd.R_over' (by (with_reducible repeat (first | apply Kd.R_alloc | apply Kd.R_drewN | apply Kd.R_drew)); exact HO393.out) (Kd.R_typed (by (with_reducible repeat (first | apply Kd.R_alloc | apply Kd.R_drewN | apply Kd.R_drew)); exact HO400.out)) (by decide) hg)
                            have n1_ := Aside0.mk (hb)
                            have n2_ := Aside0.mk (ho)
                            clear HO393
                            clear HB
                            clear HO400
                            have HO393 := n0_
                            have HB := n1_
                            have HO407 := n2_
                            clear n0_ n1_ n2_
                            clear ho hb hg hat
                            refine hK.out _ _ trivial (fun hHeld => ?_)
                            clear hK K
                            refine norm_ (a' := ?_) ?_ ?_
                            rotate_left
                            · show Act.put _ (some 45) _ = _
                              simp only [Act.put, List.setIfInBounds_toArray, List.set_cons_zero, List.set_cons_succ, i64_w, i32_w]
                              rfl
                            refine pure_ (i := 9) (N := some 8) (v := ?_) (a' := ?_) #[true, true, true, true, true, true, true, true, true, true] rfl rfl (any_of HT_.out (by kernel_rfl)) (fun _ _ _ h => h) (Or.inl ⟨by rfl, ?_⟩) ?_ ?_
                            rotate_left; focus (intro w'; go_simp; with_reducible rfl)
                            rotate_left; focus (simp only [Act.put, List.setIfInBounds_toArray, List.set_cons_zero, List.set_cons_succ, i64_w, i32_w]; rfl)
                            refine done_ (done_of HT_.out (by kernel_rfl)) ?_
                            obtain ⟨Ao49, co49, eo49⟩ := Kd.R_slice HO407.out
                            subst eo49
                            try go_wp2_with (first | ((with_reducible refine gate_callee (f := 13) rfl ?_); refine goesL_ (some 48) rfl rfl Try.func13 (by kernel_rfl) rfl #[.slice Ao49 y405.length co49] rfl (by (try simp only [List.map_toArray, List.map_cons, List.map_nil]); first | done | rfl | (simp only [List.length_drop, List.length_take]; rfl)) ?_; (with_reducible refine (plan_Target.calls k _ _ y405 t408 t409 _ ?side1 ?side2 A19.out).mono ?_); (case side1 => repeat (first | exact (Kd.R_reads' HO407.out).2.2 | (with_reducible refine Kd.C_alloc ?_ _) | (with_reducible refine Kd.C_drewN ?_ _) | (with_reducible refine Kd.C_drew ?_))); (case side2 => exact (Kd.R_reads' HO407.out).2.1); rintro e w50 ⟨v410, rfl, ho0, hb⟩; refine ⟨_, rfl, ?_⟩; have n0_ := Aside0.mk (Kd.R_elder' (by (with_reducible repeat (first | apply Kd.R_alloc | apply Kd.R_drewN | apply Kd.R_drew)); exact HO393.out) (Kd.R_base ho0) hb); have n1_ := Aside0.mk (Kd.R_below (by (with_reducible repeat (first | apply Kd.R_alloc | apply Kd.R_drewN | apply Kd.R_drew)); exact HO407.out) hb); have n2_ := Aside0.mk (Kd.R_lower (Kd.R_new' ho0 (Kd.R_lt (by (with_reducible repeat (first | apply Kd.R_alloc | apply Kd.R_drewN | apply Kd.R_drew)); exact HO393.out))) (below_size (by repeat (first | (with_reducible first | exact HB.out | apply below_alloc | apply pw_below_drewN | apply below_drew1) | exact HB.out)))); have n3_ := bs HB hb; clear HO393; clear HO407; clear HB; have HO393 := n0_; have HO407 := n1_; have HO411 := n2_; have HB := n3_; clear n0_ n1_ n2_ n3_; (try clear hb); (try clear hb2); (try clear hk); (try clear hi); (try clear ho0)))
                            go_ret
                            exact ⟨by first | rfl | (simp [errW_none, errW_some] <;> rfl) | (simp only [← hji15]; first | rfl | (simp [errW_none, errW_some] <;> rfl)) | (simp [*, errW_none, errW_some] <;> rfl) | (exfalso; first | contradiction | (revert c20b0 c40b0 c41b0; simp +contextual; done)), by repeat (first | (with_reducible first | exact HB.out | apply below_alloc | apply pw_below_drewN | apply below_drew1) | exact HB.out)⟩
                          · rw [if_neg c41] at H
                            have c41b0 : (t391 == 5) = false := beq_eq_false_iff_ne.mpr c41
                            have c41b1 : (t391 != 5) = true := bne_iff_ne.mpr c41
                            obtain rfl := Option.some.inj H
                            go_enter Try.func6, Try.ntmps6
                            try go_wp2_with (first | ((with_reducible refine gate_callee (f := 10) rfl ?_); refine goesL_ (some 13) rfl rfl Try.func10 (by kernel_rfl) rfl #[] rfl (by (try simp only [List.map_toArray, List.map_cons, List.map_nil]); first | done | rfl | (simp only [List.length_drop, List.length_take]; rfl)) ?_; (with_reducible refine (fuseelaw10_awake.calls k  true _ A3.out).mono ?_); rintro e w51 ⟨rfl, hb⟩; refine ⟨_, rfl, ?_⟩; have n0_ := bs HB hb; clear HB; have HB := n0_; clear n0_; (try clear hb); (try clear hb2); (try clear hk); (try clear hi)) | ((with_reducible refine gate_callee (f := 13) rfl ?_); refine goesL_ (some 34) rfl rfl Try.func13 (by kernel_rfl) rfl #[.slice A0 l0.length c0] rfl (by (try simp only [List.map_toArray, List.map_cons, List.map_nil]); first | done | rfl | (simp only [List.length_drop, List.length_take]; rfl)) ?_; (with_reducible refine (plan_Target.calls k _ _ l0 t390 t391 _ ?side1 ?side2 A11.out).mono ?_); (case side1 => repeat (first | exact (Kd.C_below HR0.out HB.out) | (with_reducible refine Kd.C_alloc ?_ _) | (with_reducible refine Kd.C_drewN ?_ _) | (with_reducible refine Kd.C_drew ?_))); (case side2 => exact HC0.out); rintro e w52 ⟨v392, rfl, ho0, hb⟩; refine ⟨_, rfl, ?_⟩; have n0_ := Aside0.mk (Kd.R_lower ho0 (below_size (by repeat (first | (with_reducible first | exact HB.out | apply below_alloc | apply pw_below_drewN | apply below_drew1) | exact HB.out)))); have n1_ := bs HB hb; clear HB; have HO393 := n0_; have HB := n1_; clear n0_ n1_; (try clear hb); (try clear hb2); (try clear hk); (try clear hi); (try clear ho0)))
                            have n0_ := Aside0.mk (Kd.R_drew HO393.out)
                            have n1_ := Aside0.mk (below_drew1 HB.out)
                            clear HO393
                            clear HB
                            have HO393 := n0_
                            have HB := n1_
                            clear n0_ n1_
                            have q54 : (a1 : Int) ≤ ((l0.length : Int) : Int) := of_decide_eq_true (by first | (with_reducible assumption) | assumption)
                            obtain ⟨i054, hi054, _, hsz54, _⟩ := info_parts info40
                            have hroom54 : l0.length ≤ c0 := HC0.out
                            have hC54 : Kd.C k40 _ A0 l0.length l0 := HR0.out
                            have hcut54 := cut_to (P := Try.prog) 22 40 .i64 Try.underlying22 hi054 A0 l0.length c0 a1 (of_decide_eq_true (by first | (with_reducible assumption) | assumption)) q54 hroom54
                            have hr54 := Kd.C_take (m := (a1 : Int).toNat) hC54 (by omega)
                            have hy54 : y394.length = (a1 : Int).toNat := (by rw [Ny394.out, List.length_take]; omega)
                            rw [← Ny394.out] at hr54
                            rw [← hy54] at hcut54
                            have HR397 := Aside0.mk hr54
                            have HC397 := Aside0.mk (show y394.length ≤ c0 from by omega)
                            clear hr54 hC54 hroom54 hi054 hsz54
                            have KY54 := Aside0.mk hy54
                            clear hy54
                            replace q54 := eq_true q54
                            have q55 : ((ji15) : Int) ≤ ((l0.length : Int) : Int) := of_decide_eq_true (by first | (with_reducible assumption) | assumption)
                            obtain ⟨i055, hi055, _, hsz55, _⟩ := info_parts info40
                            have hroom55 : l0.length ≤ c0 := HC0.out
                            have hC55 : Kd.C k40 _ A0 l0.length l0 := HR0.out
                            have q055 : (0 : Int) ≤ ((ji15) : Int) := of_decide_eq_true (by first | (with_reducible assumption) | assumption)
                            have hcut55 := cut_from (P := Try.prog) 22 40 .i64 Try.underlying22 hi055 6 hsz55 A0 l0.length c0 (ji15) q055 q55
                            have hr55 := Kd.C_drop (m := ((ji15) : Int).toNat) (c := c0) hC55 (by omega) hroom55
                            obtain ⟨A55, hA55⟩ : ∃ A1, A1 = (if c0 = ((ji15) : Int).toNat then A0 else (A0 : Option Addr).map (·.add (((ji15) : Int).toNat * 6))) := ⟨_, rfl⟩
                            obtain ⟨c55, hc55⟩ : ∃ c1, c1 = c0 - ((ji15) : Int).toNat := ⟨_, rfl⟩
                            have hy55 : y401.length = l0.length - ((ji15) : Int).toNat := (by rw [Ny401.out, List.length_drop] <;> omega)
                            rw [show (l0).drop ((ji15) : Int).toNat = y401 from Ny401.out.symm] at hr55
                            replace hr55 : Kd.C k40 _ A55 y401.length y401 := (by rw [hA55]; exact hr55)
                            rw [← hy55, ← hA55, ← hc55] at hcut55
                            have HR404 := Aside0.mk hr55
                            have HC404 := Aside0.mk (show y401.length ≤ c55 from by rw [hy55, hc55]; exact Nat.sub_le_sub_right hroom55 _)
                            clear hr55 hC55 hroom55 hi055 hsz55 hc55
                            have KY55 := Aside0.mk hy55
                            have KA55 := Aside0.mk hA55
                            clear hy55 hA55
                            replace q55 := eq_true q55
                            refine start_ (n := 10) (S := fun w' => True) (ds := []) #[false, false, false, false, false, false, false, false, false, false] (by kernel_rfl) rfl rfl trivial (fun hHeld => ?_); refine with_tabW fuseelaw10_PlanLess.tab5 fuseelaw10_PlanLess.bits5 (fun HT_ HW_ => ?_)
                            generalize w52.drew = w53 at HO393 HB HR397 HR404 hHeld ⊢
                            refine pure_ (i := 0) (N := some 37) (v := ?_) (a' := ?_) #[true, false, false, false, false, false, false, false, false, false] rfl rfl (any_of HT_.out (by kernel_rfl)) (fun _ _ _ h => h) (Or.inl ⟨by rfl, ?_⟩) ?_ ?_
                            rotate_left; focus (intro w'; go_simp; with_reducible rfl)
                            rotate_left; focus (simp only [Act.put, List.setIfInBounds_toArray, List.set_cons_zero, List.set_cons_succ, i64_w, i32_w]; rfl)
                            refine pure_ (i := 1) (N := some 38) (v := ?_) (a' := ?_) #[true, true, false, false, false, false, false, false, false, false] rfl rfl (any_of HT_.out (by kernel_rfl)) (fun _ _ _ h => h) (Or.inl ⟨by rfl, ?_⟩) ?_ ?_
                            rotate_left; focus (intro w'; go_simp; with_reducible rfl)
                            rotate_left; focus (simp only [Act.put, List.setIfInBounds_toArray, List.set_cons_zero, List.set_cons_succ, i64_w, i32_w]; rfl)
                            refine pure_ (i := 2) (N := some 39) (v := ?_) (a' := ?_) #[true, true, true, false, false, false, false, false, false, false] rfl rfl (any_of HT_.out (by kernel_rfl)) (fun _ _ _ h => h) (Or.inl ⟨by rfl, ?_⟩) ?_ ?_
                            rotate_left; focus (intro w'; go_simp; with_reducible rfl)
                            rotate_left; focus (simp only [Act.put, List.setIfInBounds_toArray, List.set_cons_zero, List.set_cons_succ, i64_w, i32_w]; rfl)
                            refine pure_ (i := 4) (N := some 41) (v := ?_) (a' := ?_) #[true, true, true, false, true, false, false, false, false, false] rfl rfl (any_of HT_.out (by kernel_rfl)) (fun _ _ _ h => h) (Or.inl ⟨by rfl, ?_⟩) ?_ ?_
                            rotate_left; focus (intro w'; go_simp; with_reducible rfl)
                            rotate_left; focus (simp only [Act.put, List.setIfInBounds_toArray, List.set_cons_zero, List.set_cons_succ, i64_w, i32_w]; rfl)
                            refine pure_ (i := 5) (N := some 42) (v := ?_) (a' := ?_) #[true, true, true, false, true, true, false, false, false, false] rfl rfl (any_of HT_.out (by kernel_rfl)) (fun _ _ _ h => h) (Or.inl ⟨by rfl, ?_⟩) ?_ ?_
                            rotate_left; focus (intro w'; go_simp; with_reducible rfl)
                            rotate_left; focus (simp only [Act.put, List.setIfInBounds_toArray, List.set_cons_zero, List.set_cons_succ, i64_w, i32_w]; rfl)
                            refine pure_ (i := 6) (N := some 43) (v := ?_) (a' := ?_) #[true, true, true, false, true, true, true, false, false, false] rfl rfl (any_of HT_.out (by kernel_rfl)) (fun _ _ _ h => h) (Or.inl ⟨by rfl, ?_⟩) ?_ ?_
                            rotate_left; focus (intro w'; go_simp; with_reducible rfl)
                            rotate_left; focus (simp only [Act.put, List.setIfInBounds_toArray, List.set_cons_zero, List.set_cons_succ, i64_w, i32_w]; rfl)
                            refine pure_ (i := 7) (N := some 44) (v := ?_) (a' := ?_) #[true, true, true, false, true, true, true, true, false, false] rfl rfl (any_of HT_.out (by kernel_rfl)) (fun _ _ _ h => h) (Or.inl ⟨by rfl, ?_⟩) ?_ ?_
                            rotate_left; focus (intro w'; go_simp; with_reducible rfl)
                            rotate_left; focus (simp only [Act.put, List.setIfInBounds_toArray, List.set_cons_zero, List.set_cons_succ, i64_w, i32_w]; rfl)
                            refine one_ (i := 3) (N := some 40) #[true, true, true, true, true, true, true, true, false, false] rfl rfl (one_of HT_.out (by kernel_rfl)) (by decide) (fun K hK => ?_)
                            refine Kd.R_append_rows_step k40 (w0 := w) w.heap.size (by rfl) (.const (.slice none 0 0)) (.tmp 39) 22 40 (.agg #[(.int .i64 0), (.int .i64 0), (.int .i64 0), (.int .i64 0), (.int .i64 0), (.int .i64 0)]) 48 rfl Try.underlying22 info40 rfl (by decide) (by omega) (.slice none 0 0) ([] : List (S40)) y394 _ _ _ (fun _ => True) (fun _ => False) rfl rfl ?aO ?aR (fun _ _ h => h) (fun _ h => h.elim) ?aF ?aB ?aS ?aL ?_
                            (case aR => repeat (first | exact (Kd.C_below HR397.out HB.out) | (with_reducible refine Kd.C_alloc ?_ _) | (with_reducible refine Kd.C_drewN ?_ _) | (with_reducible refine Kd.C_drew ?_)))
                            (case aB => exact (by repeat (first | (with_reducible first | exact HB.out | apply below_alloc | apply pw_below_drewN | apply below_drew1) | exact HB.out)))
                            (case aF => exact (fun _ _ => trivial))
                            (case aO => exact ((Kd.R_nil _ _ _ _ (fun _ => True))))
                            (case aS => exact (below_size (by repeat (first | (with_reducible first | exact HB.out | apply below_alloc | apply pw_below_drewN | apply below_drew1) | exact HB.out))))
                            (case aL => have := LMc14.out; omega)
                            intro v399 w56 ho hb hg hat
                            rw [← Ny398.out] at ho
                            have n0_ := Aside0.mk (Kd.R_grown (by (with_reducible repeat (first | apply Kd.R_alloc | apply Kd.R_drewN | apply Kd.R_drew)); exact HO393.out) hg (fun _ _ => by simp [Value.ownBlock]))
                            have n1_ := Aside0.mk (hb)
                            have n2_ := Aside0.mk (ho)
                            clear HO393
                            clear HB
                            have HO393 := n0_
                            have HB := n1_
                            have HO400 := n2_
                            clear n0_ n1_ n2_
                            clear ho hb hg hat
                            refine hK.out _ _ trivial (fun hHeld => ?_)
                            clear hK K
                            refine norm_ (a' := ?_) ?_ ?_
                            rotate_left
                            · show Act.put _ (some 40) _ = _
                              simp only [Act.put, List.setIfInBounds_toArray, List.set_cons_zero, List.set_cons_succ, i64_w, i32_w]
                              rfl
                            refine one_ (i := 8) (N := some 45) #[true, true, true, true, true, true, true, true, true, false] rfl rfl (one_of HT_.out (by kernel_rfl)) (by decide) (fun K hK => ?_)
                            refine Kd.R_append_rows_step k40 (w0 := w) w.heap.size (by rfl) (.tmp 40) (.tmp 44) 22 40 (.agg #[(.int .i64 0), (.int .i64 0), (.int .i64 0), (.int .i64 0), (.int .i64 0), (.int .i64 0)]) 48 rfl Try.underlying22 info40 rfl (by decide) (by omega) v399 y398 y401 _ _ _ (fun _ => True) (fun _ => False) rfl rfl ?aO ?aR (fun _ _ h => h) (fun _ h => h.elim) ?aF ?aB ?aS ?aL ?_
                            (case aR => repeat (first | exact (Kd.C_below HR404.out HB.out) | (with_reducible refine Kd.C_alloc ?_ _) | (with_reducible refine Kd.C_drewN ?_ _) | (with_reducible refine Kd.C_drew ?_)))
                            (case aB => exact (by repeat (first | (with_reducible first | exact HB.out | apply below_alloc | apply pw_below_drewN | apply below_drew1) | exact HB.out)))
                            (case aF => exact (fun _ _ => trivial))
                            (case aO => exact (by (with_reducible repeat (first | apply Kd.R_alloc | apply Kd.R_drewN | apply Kd.R_drew)); exact HO400.out))
                            (case aS => exact (below_size (by repeat (first | (with_reducible first | exact HB.out | apply below_alloc | apply pw_below_drewN | apply below_drew1) | exact HB.out))))
                            (case aL => have := LMc18.out; omega)
                            intro v406 w57 ho hb hg hat
                            rw [← Ny405.out] at ho
                            have n0_ := Aside0.mk (Kd.R_over' (by (with_reducible repeat (first | apply Kd.R_alloc | apply Kd.R_drewN | apply Kd.R_drew)); exact HO393.out) (Kd.R_typed (by (with_reducible repeat (first | apply Kd.R_alloc | apply Kd.R_drewN | apply Kd.R_drew)); exact HO400.out)) (by decide) hg)
                            have n1_ := Aside0.mk (hb)
                            have n2_ := Aside0.mk (ho)
                            clear HO393
                            clear HB
                            clear HO400
                            have HO393 := n0_
                            have HB := n1_
                            have HO407 := n2_
                            clear n0_ n1_ n2_
                            clear ho hb hg hat
                            refine hK.out _ _ trivial (fun hHeld => ?_)
                            clear hK K
                            refine norm_ (a' := ?_) ?_ ?_
                            rotate_left
                            · show Act.put _ (some 45) _ = _
                              simp only [Act.put, List.setIfInBounds_toArray, List.set_cons_zero, List.set_cons_succ, i64_w, i32_w]
                              rfl
                            refine pure_ (i := 9) (N := some 8) (v := ?_) (a' := ?_) #[true, true, true, true, true, true, true, true, true, true] rfl rfl (any_of HT_.out (by kernel_rfl)) (fun _ _ _ h => h) (Or.inl ⟨by rfl, ?_⟩) ?_ ?_
                            rotate_left; focus (intro w'; go_simp; with_reducible rfl)
                            rotate_left; focus (simp only [Act.put, List.setIfInBounds_toArray, List.set_cons_zero, List.set_cons_succ, i64_w, i32_w]; rfl)
                            refine done_ (done_of HT_.out (by kernel_rfl)) ?_
                            obtain ⟨Ao58, co58, eo58⟩ := Kd.R_slice HO407.out
                            subst eo58
                            try go_wp2_with (first | ((with_reducible refine gate_callee (f := 13) rfl ?_); refine goesL_ (some 48) rfl rfl Try.func13 (by kernel_rfl) rfl #[.slice Ao58 y405.length co58] rfl (by (try simp only [List.map_toArray, List.map_cons, List.map_nil]); first | done | rfl | (simp only [List.length_drop, List.length_take]; rfl)) ?_; (with_reducible refine (plan_Target.calls k _ _ y405 t408 t409 _ ?side1 ?side2 A19.out).mono ?_); (case side1 => repeat (first | exact (Kd.R_reads' HO407.out).2.2 | (with_reducible refine Kd.C_alloc ?_ _) | (with_reducible refine Kd.C_drewN ?_ _) | (with_reducible refine Kd.C_drew ?_))); (case side2 => exact (Kd.R_reads' HO407.out).2.1); rintro e w59 ⟨v410, rfl, ho0, hb⟩; refine ⟨_, rfl, ?_⟩; have n0_ := Aside0.mk (Kd.R_elder' (by (with_reducible repeat (first | apply Kd.R_alloc | apply Kd.R_drewN | apply Kd.R_drew)); exact HO393.out) (Kd.R_base ho0) hb); have n1_ := Aside0.mk (Kd.R_below (by (with_reducible repeat (first | apply Kd.R_alloc | apply Kd.R_drewN | apply Kd.R_drew)); exact HO407.out) hb); have n2_ := Aside0.mk (Kd.R_lower (Kd.R_new' ho0 (Kd.R_lt (by (with_reducible repeat (first | apply Kd.R_alloc | apply Kd.R_drewN | apply Kd.R_drew)); exact HO393.out))) (below_size (by repeat (first | (with_reducible first | exact HB.out | apply below_alloc | apply pw_below_drewN | apply below_drew1) | exact HB.out)))); have n3_ := bs HB hb; clear HO393; clear HO407; clear HB; have HO393 := n0_; have HO407 := n1_; have HO411 := n2_; have HB := n3_; clear n0_ n1_ n2_ n3_; (try clear hb); (try clear hb2); (try clear hk); (try clear hi); (try clear ho0)))
                            go_ret
                            exact ⟨by first | rfl | (simp [errW_none, errW_some] <;> rfl) | (simp only [← hji15]; first | rfl | (simp [errW_none, errW_some] <;> rfl)) | (simp [*, errW_none, errW_some] <;> rfl) | (exfalso; first | contradiction | (revert c20b0 c40b0 c41b0; simp +contextual; done)), by repeat (first | (with_reducible first | exact HB.out | apply below_alloc | apply pw_below_drewN | apply below_drew1) | exact HB.out)⟩
                        · rw [if_neg c40] at H
                          have c40b0 : (t409 == 1) = false := beq_eq_false_iff_ne.mpr c40
                          have c40b1 : (t409 != 1) = true := bne_iff_ne.mpr c40
                          have H' := Aside0.mk H
                          clear H
                          go_enter Try.func6, Try.ntmps6
                          try go_wp2_with (first | ((with_reducible refine gate_callee (f := 10) rfl ?_); refine goesL_ (some 13) rfl rfl Try.func10 (by kernel_rfl) rfl #[] rfl (by (try simp only [List.map_toArray, List.map_cons, List.map_nil]); first | done | rfl | (simp only [List.length_drop, List.length_take]; rfl)) ?_; (with_reducible refine (fuseelaw10_awake.calls k  true _ A3.out).mono ?_); rintro e w60 ⟨rfl, hb⟩; refine ⟨_, rfl, ?_⟩; have n0_ := bs HB hb; clear HB; have HB := n0_; clear n0_; (try clear hb); (try clear hb2); (try clear hk); (try clear hi)) | ((with_reducible refine gate_callee (f := 13) rfl ?_); refine goesL_ (some 34) rfl rfl Try.func13 (by kernel_rfl) rfl #[.slice A0 l0.length c0] rfl (by (try simp only [List.map_toArray, List.map_cons, List.map_nil]); first | done | rfl | (simp only [List.length_drop, List.length_take]; rfl)) ?_; (with_reducible refine (plan_Target.calls k _ _ l0 t390 t391 _ ?side1 ?side2 A11.out).mono ?_); (case side1 => repeat (first | exact (Kd.C_below HR0.out HB.out) | (with_reducible refine Kd.C_alloc ?_ _) | (with_reducible refine Kd.C_drewN ?_ _) | (with_reducible refine Kd.C_drew ?_))); (case side2 => exact HC0.out); rintro e w61 ⟨v392, rfl, ho0, hb⟩; refine ⟨_, rfl, ?_⟩; have n0_ := Aside0.mk (Kd.R_lower ho0 (below_size (by repeat (first | (with_reducible first | exact HB.out | apply below_alloc | apply pw_below_drewN | apply below_drew1) | exact HB.out)))); have n1_ := bs HB hb; clear HB; have HO393 := n0_; have HB := n1_; clear n0_ n1_; (try clear hb); (try clear hb2); (try clear hk); (try clear hi); (try clear ho0)))
                          have n0_ := Aside0.mk (Kd.R_drew HO393.out)
                          have n1_ := Aside0.mk (below_drew1 HB.out)
                          clear HO393
                          clear HB
                          have HO393 := n0_
                          have HB := n1_
                          clear n0_ n1_
                          have q63 : (a1 : Int) ≤ ((l0.length : Int) : Int) := of_decide_eq_true (by first | (with_reducible assumption) | assumption)
                          obtain ⟨i063, hi063, _, hsz63, _⟩ := info_parts info40
                          have hroom63 : l0.length ≤ c0 := HC0.out
                          have hC63 : Kd.C k40 _ A0 l0.length l0 := HR0.out
                          have hcut63 := cut_to (P := Try.prog) 22 40 .i64 Try.underlying22 hi063 A0 l0.length c0 a1 (of_decide_eq_true (by first | (with_reducible assumption) | assumption)) q63 hroom63
                          have hr63 := Kd.C_take (m := (a1 : Int).toNat) hC63 (by omega)
                          have hy63 : y394.length = (a1 : Int).toNat := (by rw [Ny394.out, List.length_take]; omega)
                          rw [← Ny394.out] at hr63
                          rw [← hy63] at hcut63
                          have HR397 := Aside0.mk hr63
                          have HC397 := Aside0.mk (show y394.length ≤ c0 from by omega)
                          clear hr63 hC63 hroom63 hi063 hsz63
                          have KY63 := Aside0.mk hy63
                          clear hy63
                          replace q63 := eq_true q63
                          have q64 : ((ji15) : Int) ≤ ((l0.length : Int) : Int) := of_decide_eq_true (by first | (with_reducible assumption) | assumption)
                          obtain ⟨i064, hi064, _, hsz64, _⟩ := info_parts info40
                          have hroom64 : l0.length ≤ c0 := HC0.out
                          have hC64 : Kd.C k40 _ A0 l0.length l0 := HR0.out
                          have q064 : (0 : Int) ≤ ((ji15) : Int) := of_decide_eq_true (by first | (with_reducible assumption) | assumption)
                          have hcut64 := cut_from (P := Try.prog) 22 40 .i64 Try.underlying22 hi064 6 hsz64 A0 l0.length c0 (ji15) q064 q64
                          have hr64 := Kd.C_drop (m := ((ji15) : Int).toNat) (c := c0) hC64 (by omega) hroom64
                          obtain ⟨A64, hA64⟩ : ∃ A1, A1 = (if c0 = ((ji15) : Int).toNat then A0 else (A0 : Option Addr).map (·.add (((ji15) : Int).toNat * 6))) := ⟨_, rfl⟩
                          obtain ⟨c64, hc64⟩ : ∃ c1, c1 = c0 - ((ji15) : Int).toNat := ⟨_, rfl⟩
                          have hy64 : y401.length = l0.length - ((ji15) : Int).toNat := (by rw [Ny401.out, List.length_drop] <;> omega)
                          rw [show (l0).drop ((ji15) : Int).toNat = y401 from Ny401.out.symm] at hr64
                          replace hr64 : Kd.C k40 _ A64 y401.length y401 := (by rw [hA64]; exact hr64)
                          rw [← hy64, ← hA64, ← hc64] at hcut64
                          have HR404 := Aside0.mk hr64
                          have HC404 := Aside0.mk (show y401.length ≤ c64 from by rw [hy64, hc64]; exact Nat.sub_le_sub_right hroom64 _)
                          clear hr64 hC64 hroom64 hi064 hsz64 hc64
                          have KY64 := Aside0.mk hy64
                          have KA64 := Aside0.mk hA64
                          clear hy64 hA64
                          replace q64 := eq_true q64
                          refine start_ (n := 10) (S := fun w' => True) (ds := []) #[false, false, false, false, false, false, false, false, false, false] (by kernel_rfl) rfl rfl trivial (fun hHeld => ?_); refine with_tabW fuseelaw10_PlanLess.tab5 fuseelaw10_PlanLess.bits5 (fun HT_ HW_ => ?_)
                          generalize w61.drew = w62 at HO393 HB HR397 HR404 hHeld ⊢
                          refine pure_ (i := 0) (N := some 37) (v := ?_) (a' := ?_) #[true, false, false, false, false, false, false, false, false, false] rfl rfl (any_of HT_.out (by kernel_rfl)) (fun _ _ _ h => h) (Or.inl ⟨by rfl, ?_⟩) ?_ ?_
                          rotate_left; focus (intro w'; go_simp; with_reducible rfl)
                          rotate_left; focus (simp only [Act.put, List.setIfInBounds_toArray, List.set_cons_zero, List.set_cons_succ, i64_w, i32_w]; rfl)
                          refine pure_ (i := 1) (N := some 38) (v := ?_) (a' := ?_) #[true, true, false, false, false, false, false, false, false, false] rfl rfl (any_of HT_.out (by kernel_rfl)) (fun _ _ _ h => h) (Or.inl ⟨by rfl, ?_⟩) ?_ ?_
                          rotate_left; focus (intro w'; go_simp; with_reducible rfl)
                          rotate_left; focus (simp only [Act.put, List.setIfInBounds_toArray, List.set_cons_zero, List.set_cons_succ, i64_w, i32_w]; rfl)
                          refine pure_ (i := 2) (N := some 39) (v := ?_) (a' := ?_) #[true, true, true, false, false, false, false, false, false, false] rfl rfl (any_of HT_.out (by kernel_rfl)) (fun _ _ _ h => h) (Or.inl ⟨by rfl, ?_⟩) ?_ ?_
                          rotate_left; focus (intro w'; go_simp; with_reducible rfl)
                          rotate_left; focus (simp only [Act.put, List.setIfInBounds_toArray, List.set_cons_zero, List.set_cons_succ, i64_w, i32_w]; rfl)
                          refine pure_ (i := 4) (N := some 41) (v := ?_) (a' := ?_) #[true, true, true, false, true, false, false, false, false, false] rfl rfl (any_of HT_.out (by kernel_rfl)) (fun _ _ _ h => h) (Or.inl ⟨by rfl, ?_⟩) ?_ ?_
                          rotate_left; focus (intro w'; go_simp; with_reducible rfl)
                          rotate_left; focus (simp only [Act.put, List.setIfInBounds_toArray, List.set_cons_zero, List.set_cons_succ, i64_w, i32_w]; rfl)
                          refine pure_ (i := 5) (N := some 42) (v := ?_) (a' := ?_) #[true, true, true, false, true, true, false, false, false, false] rfl rfl (any_of HT_.out (by kernel_rfl)) (fun _ _ _ h => h) (Or.inl ⟨by rfl, ?_⟩) ?_ ?_
                          rotate_left; focus (intro w'; go_simp; with_reducible rfl)
                          rotate_left; focus (simp only [Act.put, List.setIfInBounds_toArray, List.set_cons_zero, List.set_cons_succ, i64_w, i32_w]; rfl)
                          refine pure_ (i := 6) (N := some 43) (v := ?_) (a' := ?_) #[true, true, true, false, true, true, true, false, false, false] rfl rfl (any_of HT_.out (by kernel_rfl)) (fun _ _ _ h => h) (Or.inl ⟨by rfl, ?_⟩) ?_ ?_
                          rotate_left; focus (intro w'; go_simp; with_reducible rfl)
                          rotate_left; focus (simp only [Act.put, List.setIfInBounds_toArray, List.set_cons_zero, List.set_cons_succ, i64_w, i32_w]; rfl)
                          refine pure_ (i := 7) (N := some 44) (v := ?_) (a' := ?_) #[true, true, true, false, true, true, true, true, false, false] rfl rfl (any_of HT_.out (by kernel_rfl)) (fun _ _ _ h => h) (Or.inl ⟨by rfl, ?_⟩) ?_ ?_
                          rotate_left; focus (intro w'; go_simp; with_reducible rfl)
                          rotate_left; focus (simp only [Act.put, List.setIfInBounds_toArray, List.set_cons_zero, List.set_cons_succ, i64_w, i32_w]; rfl)
                          refine one_ (i := 3) (N := some 40) #[true, true, true, true, true, true, true, true, false, false] rfl rfl (one_of HT_.out (by kernel_rfl)) (by decide) (fun K hK => ?_)
                          refine Kd.R_append_rows_step k40 (w0 := w) w.heap.size (by rfl) (.const (.slice none 0 0)) (.tmp 39) 22 40 (.agg #[(.int .i64 0), (.int .i64 0), (.int .i64 0), (.int .i64 0), (.int .i64 0), (.int .i64 0)]) 48 rfl Try.underlying22 info40 rfl (by decide) (by omega) (.slice none 0 0) ([] : List (S40)) y394 _ _ _ (fun _ => True) (fun _ => False) rfl rfl ?aO ?aR (fun _ _ h => h) (fun _ h => h.elim) ?aF ?aB ?aS ?aL ?_
                          (case aR => repeat (first | exact (Kd.C_below HR397.out HB.out) | (with_reducible refine Kd.C_alloc ?_ _) | (with_reducible refine Kd.C_drewN ?_ _) | (with_reducible refine Kd.C_drew ?_)))
                          (case aB => exact (by repeat (first | (with_reducible first | exact HB.out | apply below_alloc | apply pw_below_drewN | apply below_drew1) | exact HB.out)))
                          (case aF => exact (fun _ _ => trivial))
                          (case aO => exact ((Kd.R_nil _ _ _ _ (fun _ => True))))
                          (case aS => exact (below_size (by repeat (first | (with_reducible first | exact HB.out | apply below_alloc | apply pw_below_drewN | apply below_drew1) | exact HB.out))))
                          (case aL => have := LMc14.out; omega)
                          intro v399 w65 ho hb hg hat
                          rw [← Ny398.out] at ho
                          have n0_ := Aside0.mk (Kd.R_grown (by (with_reducible repeat (first | apply Kd.R_alloc | apply Kd.R_drewN | apply Kd.R_drew)); exact HO393.out) hg (fun _ _ => by simp [Value.ownBlock]))
                          have n1_ := Aside0.mk (hb)
                          have n2_ := Aside0.mk (ho)
                          clear HO393
                          clear HB
                          have HO393 := n0_
                          have HB := n1_
                          have HO400 := n2_
                          clear n0_ n1_ n2_
                          clear ho hb hg hat
                          refine hK.out _ _ trivial (fun hHeld => ?_)
                          clear hK K
                          refine norm_ (a' := ?_) ?_ ?_
                          rotate_left
                          · show Act.put _ (some 40) _ = _
                            simp only [Act.put, List.setIfInBounds_toArray, List.set_cons_zero, List.set_cons_succ, i64_w, i32_w]
                            rfl
                          refine one_ (i := 8) (N := some 45) #[true, true, true, true, true, true, true, true, true, false] rfl rfl (one_of HT_.out (by kernel_rfl)) (by decide) (fun K hK => ?_)
                          refine Kd.R_append_rows_step k40 (w0 := w) w.heap.size (by rfl) (.tmp 40) (.tmp 44) 22 40 (.agg #[(.int .i64 0), (.int .i64 0), (.int .i64 0), (.int .i64 0), (.int .i64 0), (.int .i64 0)]) 48 rfl Try.underlying22 info40 rfl (by decide) (by omega) v399 y398 y401 _ _ _ (fun _ => True) (fun _ => False) rfl rfl ?aO ?aR (fun _ _ h => h) (fun _ h => h.elim) ?aF ?aB ?aS ?aL ?_
                          (case aR => repeat (first | exact (Kd.C_below HR404.out HB.out) | (with_reducible refine Kd.C_alloc ?_ _) | (with_reducible refine Kd.C_drewN ?_ _) | (with_reducible refine Kd.C_drew ?_)))
                          (case aB => exact (by repeat (first | (with_reducible first | exact HB.out | apply below_alloc | apply pw_below_drewN | apply below_drew1) | exact HB.out)))
                          (case aF => exact (fun _ _ => trivial))
                          (case aO => exact (by (with_reducible repeat (first | apply Kd.R_alloc | apply Kd.R_drewN | apply Kd.R_drew)); exact HO400.out))
                          (case aS => exact (below_size (by repeat (first | (with_reducible first | exact HB.out | apply below_alloc | apply pw_below_drewN | apply below_drew1) | exact HB.out))))
                          (case aL => have := LMc18.out; omega)
                          intro v406 w66 ho hb hg hat
                          rw [← Ny405.out] at ho
                          have n0_ := Aside0.mk (Kd.R_over' (by (with_reducible repeat (first | apply Kd.R_alloc | apply Kd.R_drewN | apply Kd.R_drew)); exact HO393.out) (Kd.R_typed (by (with_reducible repeat (first | apply Kd.R_alloc | apply Kd.R_drewN | apply Kd.R_drew)); exact HO400.out)) (by decide) hg)
                          have n1_ := Aside0.mk (hb)
                          have n2_ := Aside0.mk (ho)
                          clear HO393
                          clear HB
                          clear HO400
                          have HO393 := n0_
                          have HB := n1_
                          have HO407 := n2_
                          clear n0_ n1_ n2_
                          clear ho hb hg hat
                          refine hK.out _ _ trivial (fun hHeld => ?_)
                          clear hK K
                          refine norm_ (a' := ?_) ?_ ?_
                          rotate_left
                          · show Act.put _ (some 45) _ = _
                            simp only [Act.put, List.setIfInBounds_toArray, List.set_cons_zero, List.set_cons_succ, i64_w, i32_w]
                            rfl
                          refine pure_ (i := 9) (N := some 8) (v := ?_) (a' := ?_) #[true, true, true, true, true, true, true, true, true, true] rfl rfl (any_of HT_.out (by kernel_rfl)) (fun _ _ _ h => h) (Or.inl ⟨by rfl, ?_⟩) ?_ ?_
                          rotate_left; focus (intro w'; go_simp; with_reducible rfl)
                          rotate_left; focus (simp only [Act.put, List.setIfInBounds_toArray, List.set_cons_zero, List.set_cons_succ, i64_w, i32_w]; rfl)
                          refine done_ (done_of HT_.out (by kernel_rfl)) ?_
                          obtain ⟨Ao67, co67, eo67⟩ := Kd.R_slice HO407.out
                          subst eo67
                          try go_wp2_with (first | ((with_reducible refine gate_callee (f := 13) rfl ?_); refine goesL_ (some 48) rfl rfl Try.func13 (by kernel_rfl) rfl #[.slice Ao67 y405.length co67] rfl (by (try simp only [List.map_toArray, List.map_cons, List.map_nil]); first | done | rfl | (simp only [List.length_drop, List.length_take]; rfl)) ?_; (with_reducible refine (plan_Target.calls k _ _ y405 t408 t409 _ ?side1 ?side2 A19.out).mono ?_); (case side1 => repeat (first | exact (Kd.R_reads' HO407.out).2.2 | (with_reducible refine Kd.C_alloc ?_ _) | (with_reducible refine Kd.C_drewN ?_ _) | (with_reducible refine Kd.C_drew ?_))); (case side2 => exact (Kd.R_reads' HO407.out).2.1); rintro e w68 ⟨v410, rfl, ho0, hb⟩; refine ⟨_, rfl, ?_⟩; have n0_ := Aside0.mk (Kd.R_elder' (by (with_reducible repeat (first | apply Kd.R_alloc | apply Kd.R_drewN | apply Kd.R_drew)); exact HO393.out) (Kd.R_base ho0) hb); have n1_ := Aside0.mk (Kd.R_below (by (with_reducible repeat (first | apply Kd.R_alloc | apply Kd.R_drewN | apply Kd.R_drew)); exact HO407.out) hb); have n2_ := Aside0.mk (Kd.R_lower (Kd.R_new' ho0 (Kd.R_lt (by (with_reducible repeat (first | apply Kd.R_alloc | apply Kd.R_drewN | apply Kd.R_drew)); exact HO393.out))) (below_size (by repeat (first | (with_reducible first | exact HB.out | apply below_alloc | apply pw_below_drewN | apply below_drew1) | exact HB.out)))); have n3_ := bs HB hb; clear HO393; clear HO407; clear HB; have HO393 := n0_; have HO407 := n1_; have HO411 := n2_; have HB := n3_; clear n0_ n1_ n2_ n3_; (try clear hb); (try clear hb2); (try clear hk); (try clear hi); (try clear ho0)))
                          go_loopg [11] k (fun kq v11 w' => ∃ (x11_1 : Int), v11 = .int .i64 x11_1 ∧ Aside0 (fuseelaw10_PlanLess.l0 kq a1 t390 t391 t408 x11_1 = some r) ∧ Aside0 (kq ≤ k) ∧ Aside0 (Kd.R k42 42 w' w.heap.size (fun k_ => some k_ ≠ (v410 : Value).ownBlock) v392 t390) ∧ Aside0 (Kd.R k42 42 w' w.heap.size (fun k_ => some k_ ≠ (v392 : Value).ownBlock) v410 t408) ∧ Aside0 (Below w.heap.size w w'))
                          case atStart => exact ⟨(0), (by first | rfl | (simp; done) | (simp [*]; done)), H', ⟨Nat.le_refl _⟩, ⟨by (with_reducible repeat (first | apply Kd.R_alloc | apply Kd.R_drewN | apply Kd.R_drew)); exact Kd.R_mono HO393.out (fun _ hk => hk.2)⟩, ⟨by (with_reducible repeat (first | apply Kd.R_alloc | apply Kd.R_drewN | apply Kd.R_drew)); exact Kd.R_mono HO411.out (fun _ hk => hk.2)⟩, ⟨by repeat (first | (with_reducible first | exact HB.out | apply below_alloc | apply pw_below_drewN | apply below_drew1) | exact HB.out)⟩⟩
                          case round =>
                            clear H'
                            try clear c1
                            try clear c2
                            try clear p2
                            try clear c4
                            try clear q4
                            try clear c5
                            try clear q5
                            try clear c6
                            try clear q6
                            try clear c10
                            try clear c13
                            try clear c14
                            try clear c18
                            try clear c20
                            try clear c20b0
                            try clear c20b1
                            try clear c40
                            try clear c40b0
                            try clear c40b1
                            try clear c41
                            try clear c41b0
                            try clear c41b1
                            try clear q45
                            try clear c46
                            try clear q46
                            try clear q54
                            try clear c55
                            try clear q55
                            try clear q63
                            try clear c64
                            try clear q64
                            try clear q046
                            try clear q055
                            try clear q064
                            try clear q45
                            try clear q46
                            try clear q54
                            try clear q55
                            try clear q63
                            try clear q64
                            obtain ⟨x11_1, rfl, HA, HK1, HO_6, HO_9, HB⟩ := hrel
                            cases gk with
                            | zero => exact absurd HA.out (by simp [fuseelaw10_PlanLess.l0])
                            | succ k1 =>
                              have H := HA.out
                              clear HA
                              simp only [fuseelaw10_PlanLess.l0] at H
                              by_cases c69 : x11_1 < (t408.length : Int)
                              · rw [if_pos c69] at H
                                have c69b0 : decide (x11_1 < (t408.length : Int)) = true := decide_eq_true c69
                                clear c69
                                by_cases c70 : t391 = 0
                                · rw [if_pos c70] at H
                                  have c70b0 : (t391 == 0) = true := beq_iff_eq.mpr c70
                                  have c70b1 : (t391 != 0) = false := bne_eq_false_iff_eq.mpr c70
                                  clear c70
                                  by_cases c71 : x11_1 ≥ a1
                                  · rw [if_pos c71] at H
                                    have c71b0 : decide (a1 ≤ x11_1) = true := decide_eq_true c71
                                    clear c71
                                    by_cases c72 : (wrap64 (x11_1 + 1)) ≥ (t390.length : Int)
                                    · rw [if_pos c72] at H
                                      have c72b0 : decide ((t390.length : Int) ≤ (wrap64 (x11_1 + 1))) = true := decide_eq_true c72
                                      clear c72
                                      exact absurd H (by simp)
                                    · rw [if_neg c72] at H
                                      have c72b0 : decide ((t390.length : Int) ≤ (wrap64 (x11_1 + 1))) = false := decide_eq_false c72
                                      clear c72
                                      by_cases c73 : 0 ≤ x11_1
                                      · rw [if_pos c73] at H
                                        have c73b0 : decide (0 ≤ x11_1) = true := decide_eq_true c73
                                        clear c73
                                        obtain ⟨ji74, hji74⟩ : ∃ j_ : Int, (wrap64 (x11_1 + 1)) = j_ := ⟨_, rfl⟩
                                        replace H : (if 0 ≤ (ji74) then (if (ji74) < (t390.length : Int) then (if ((rd_T42 t408 x11_1).f1) > ((rd_T42 t390 (ji74)).f1) then (none) else (fuseelaw10_PlanLess.l0 k1 a1 t390 t391 t408 ji74)) else (none)) else (none)) = some r := by first | (rw [hji74] at H; exact H) | (simp only [hji74] at H ⊢; exact H)
                                        (try rw [hji74] at c72b0)
                                        have hji74w : (IntKind.i64.wrap (x11_1 + 1)) = ji74 := (i64_w _).trans hji74
                                        by_cases c75 : 0 ≤ (ji74)
                                        · rw [if_pos c75] at H
                                          have c75b0 : decide (0 ≤ (ji74)) = true := decide_eq_true c75
                                          clear c75
                                          by_cases c76 : (ji74) < (t390.length : Int)
                                          · rw [if_pos c76] at H
                                            have c76b0 : decide ((ji74) < (t390.length : Int)) = true := decide_eq_true c76
                                            clear c76
                                            by_cases c77 : ((rd_T42 t408 x11_1).f1) > ((rd_T42 t390 (ji74)).f1)
                                            · rw [if_pos c77] at H
                                              exact absurd H (by simp)
                                            · rw [if_neg c77] at H
                                              have c77b0 : decide (((rd_T42 t390 (ji74)).f1) < ((rd_T42 t408 x11_1).f1)) = false := decide_eq_false c77
                                              clear c77
                                              have H' := Aside0.mk H
                                              clear H
                                              obtain ⟨Ao78, co78, eo78⟩ := Kd.R_slice HO_9.out
                                              subst eo78
                                              try go_wp2
                                              have n0_ := Aside0.mk (Kd.R_drew HO_6.out)
                                              have n1_ := Aside0.mk (Kd.R_drew HO_9.out)
                                              have n2_ := Aside0.mk (below_drew1 HB.out)
                                              clear HO_6
                                              clear HO_9
                                              clear HB
                                              have HO_6 := n0_
                                              have HO_9 := n1_
                                              have HB := n2_
                                              clear n0_ n1_ n2_
                                              obtain ⟨Ao80, co80, eo80⟩ := Kd.R_slice HO_6.out
                                              (first | subst eo80 | (injection eo80 with f1_ f2_ f3_; have f4_ := f1_.symm; have f5_ := f3_.symm; clear f1_ f2_ f3_; subst f4_; subst f5_))
                                              have p412 : 0 ≤ (x11_1 : Int) := of_decide_eq_true (by first | (with_reducible assumption) | assumption)
                                              have q412 : x11_1 < (t408.length : Int) := of_decide_eq_true (by first | (with_reducible assumption) | assumption)
                                              obtain ⟨ad412, e412, hx412_0, hx412_1, hx412_2, hx412_3, hx412_4, hx412_5, hx412_6⟩ := at_T42 (Kd.R_reads' HO_9.out).2.2 x11_1 p412 q412
                                              cases e412
                                              replace p412 := eq_true p412
                                              replace q412 := eq_true q412
                                              have p413 : 0 ≤ ((ji74) : Int) := of_decide_eq_true (by first | (with_reducible assumption) | assumption)
                                              have q413 : (ji74) < (t390.length : Int) := of_decide_eq_true (by first | (with_reducible assumption) | assumption)
                                              obtain ⟨ad413, e413, hx413_0, hx413_1, hx413_2, hx413_3, hx413_4, hx413_5, hx413_6⟩ := at_T42 (Kd.R_reads' HO_6.out).2.2 (ji74) p413 q413
                                              cases e413
                                              replace p413 := eq_true p413
                                              replace q413 := eq_true q413
                                              refine start_ (n := 17) (S := fun w' => w'.cell? (ad412.add ((x11_1).toNat * 7)) = some (.int .i64 ((rd_T42 t408 x11_1).f0.f0)) ∧ w'.cell? ⟨(ad412.add ((x11_1).toNat * 7)).block, (ad412.add ((x11_1).toNat * 7)).off + 1, none⟩ = some (.int .i64 ((rd_T42 t408 x11_1).f0.f1)) ∧ w'.cell? ⟨(ad412.add ((x11_1).toNat * 7)).block, (ad412.add ((x11_1).toNat * 7)).off + 2, none⟩ = some (.int .i64 ((rd_T42 t408 x11_1).f0.f2)) ∧ w'.cell? ⟨(ad412.add ((x11_1).toNat * 7)).block, (ad412.add ((x11_1).toNat * 7)).off + 3, none⟩ = some (.int .i64 ((rd_T42 t408 x11_1).f0.f3)) ∧ w'.cell? ⟨(ad412.add ((x11_1).toNat * 7)).block, (ad412.add ((x11_1).toNat * 7)).off + 4, none⟩ = some (.int .i64 ((rd_T42 t408 x11_1).f0.f4)) ∧ w'.cell? ⟨(ad412.add ((x11_1).toNat * 7)).block, (ad412.add ((x11_1).toNat * 7)).off + 5, none⟩ = some (.int .i64 ((rd_T42 t408 x11_1).f0.f5)) ∧ w'.cell? ⟨(ad412.add ((x11_1).toNat * 7)).block, (ad412.add ((x11_1).toNat * 7)).off + 6, none⟩ = some (.int .i64 ((rd_T42 t408 x11_1).f1)) ∧ w'.cell? (ad413.add (((ji74)).toNat * 7)) = some (.int .i64 ((rd_T42 t390 (ji74)).f0.f0)) ∧ w'.cell? ⟨(ad413.add (((ji74)).toNat * 7)).block, (ad413.add (((ji74)).toNat * 7)).off + 1, none⟩ = some (.int .i64 ((rd_T42 t390 (ji74)).f0.f1)) ∧ w'.cell? ⟨(ad413.add (((ji74)).toNat * 7)).block, (ad413.add (((ji74)).toNat * 7)).off + 2, none⟩ = some (.int .i64 ((rd_T42 t390 (ji74)).f0.f2)) ∧ w'.cell? ⟨(ad413.add (((ji74)).toNat * 7)).block, (ad413.add (((ji74)).toNat * 7)).off + 3, none⟩ = some (.int .i64 ((rd_T42 t390 (ji74)).f0.f3)) ∧ w'.cell? ⟨(ad413.add (((ji74)).toNat * 7)).block, (ad413.add (((ji74)).toNat * 7)).off + 4, none⟩ = some (.int .i64 ((rd_T42 t390 (ji74)).f0.f4)) ∧ w'.cell? ⟨(ad413.add (((ji74)).toNat * 7)).block, (ad413.add (((ji74)).toNat * 7)).off + 5, none⟩ = some (.int .i64 ((rd_T42 t390 (ji74)).f0.f5)) ∧ w'.cell? ⟨(ad413.add (((ji74)).toNat * 7)).block, (ad413.add (((ji74)).toNat * 7)).off + 6, none⟩ = some (.int .i64 ((rd_T42 t390 (ji74)).f1))) (ds := []) #[false, false, false, false, false, false, false, false, false, false, false, false, false, false, false, false, false] (by kernel_rfl) rfl rfl ⟨hx412_0, hx412_1, hx412_2, hx412_3, hx412_4, hx412_5, hx412_6, hx413_0, hx413_1, hx413_2, hx413_3, hx413_4, hx413_5, hx413_6⟩ (fun hHeld => ?_); refine with_tabW fuseelaw10_PlanLess.tab15 fuseelaw10_PlanLess.bits15 (fun HT_ HW_ => ?_)
                                              generalize wr.drew = w79 at HO_6 HO_9 HB hx412_0 hx412_1 hx412_2 hx412_3 hx412_4 hx412_5 hx412_6 hx413_0 hx413_1 hx413_2 hx413_3 hx413_4 hx413_5 hx413_6 hHeld ⊢
                                              refine pure_ (i := 0) (N := some 79) (v := ?_) (a' := ?_) #[true, false, false, false, false, false, false, false, false, false, false, false, false, false, false, false, false] rfl rfl (any_of HT_.out (by kernel_rfl)) (fun _ _ _ h => h) (Or.inl ⟨by rfl, ?_⟩) ?_ ?_
                                              rotate_left; focus (intro w'; go_simp; with_reducible rfl)
                                              rotate_left; focus (simp only [Act.put, List.setIfInBounds_toArray, List.set_cons_zero, List.set_cons_succ, i64_w, i32_w]; rfl)
                                              refine pure_ (i := 1) (N := some 80) (v := ?_) (a' := ?_) #[true, true, false, false, false, false, false, false, false, false, false, false, false, false, false, false, false] rfl rfl (any_of HT_.out (by kernel_rfl)) (fun _ _ _ h => h) (Or.inl ⟨by rfl, ?_⟩) ?_ ?_
                                              rotate_left; focus (intro w'; go_simp; with_reducible rfl)
                                              rotate_left; focus (simp only [Act.put, List.setIfInBounds_toArray, List.set_cons_zero, List.set_cons_succ, i64_w, i32_w]; rfl)
                                              refine pure_ (i := 2) (N := some 81) (v := ?_) (a' := ?_) #[true, true, true, false, false, false, false, false, false, false, false, false, false, false, false, false, false] rfl rfl (any_of HT_.out (by kernel_rfl)) (fun _ _ _ h => h) (Or.inl ⟨by rfl, ?_⟩) ?_ ?_
                                              rotate_left; focus (intro w'; go_simp; with_reducible rfl)
                                              rotate_left; focus (simp only [Act.put, List.setIfInBounds_toArray, List.set_cons_zero, List.set_cons_succ, i64_w, i32_w]; rfl)
                                              refine pure_ (i := 3) (N := some 82) (v := ?_) (a' := ?_) #[true, true, true, true, false, false, false, false, false, false, false, false, false, false, false, false, false] rfl rfl (any_of HT_.out (by kernel_rfl)) (fun _ _ _ h => h) (Or.inl ⟨by rfl, ?_⟩) ?_ ?_
                                              rotate_left; focus (intro w'; go_simp; with_reducible rfl)
                                              rotate_left; focus (simp only [Act.put, List.setIfInBounds_toArray, List.set_cons_zero, List.set_cons_succ, i64_w, i32_w]; rfl)
                                              refine pure_ (i := 4) (N := some 83) (v := ?_) (a' := ?_) #[true, true, true, true, true, false, false, false, false, false, false, false, false, false, false, false, false] rfl rfl (any_of HT_.out (by kernel_rfl)) (fun _ _ _ h => h) (Or.inl ⟨by rfl, ?_⟩) ?_ ?_
                                              rotate_left; focus (intro w'; go_simp; with_reducible rfl)
                                              rotate_left; focus (simp only [Act.put, List.setIfInBounds_toArray, List.set_cons_zero, List.set_cons_succ, i64_w, i32_w]; rfl)
                                              refine pure_ (i := 5) (N := some 84) (v := ?_) (a' := ?_) #[true, true, true, true, true, true, false, false, false, false, false, false, false, false, false, false, false] rfl rfl (any_of HT_.out (by kernel_rfl)) (fun _ _ _ h => h) (Or.inl ⟨by rfl, ?_⟩) ?_ ?_
                                              rotate_left; focus (intro w'; go_simp; with_reducible rfl)
                                              rotate_left; focus (simp only [Act.put, List.setIfInBounds_toArray, List.set_cons_zero, List.set_cons_succ, i64_w, i32_w]; rfl)
                                              refine pure_ (i := 6) (N := some 85) (v := ?_) (a' := ?_) #[true, true, true, true, true, true, true, false, false, false, false, false, false, false, false, false, false] rfl rfl (any_of HT_.out (by kernel_rfl)) (fun _ _ _ h => h) (Or.inl ⟨by rfl, ?_⟩) ?_ ?_
                                              rotate_left; focus (intro w'; go_simp; with_reducible rfl)
                                              rotate_left; focus (simp only [Act.put, List.setIfInBounds_toArray, List.set_cons_zero, List.set_cons_succ, i64_w, i32_w]; rfl)
                                              refine pure_ (i := 7) (N := some 86) (v := ?_) (a' := ?_) #[true, true, true, true, true, true, true, true, false, false, false, false, false, false, false, false, false] rfl rfl (any_of HT_.out (by kernel_rfl)) (fun _ _ _ h => h) (Or.inl ⟨by rfl, ?_⟩) ?_ ?_
                                              rotate_left; focus (intro w'; go_simp; with_reducible rfl)
                                              rotate_left; focus (simp only [Act.put, List.setIfInBounds_toArray, List.set_cons_zero, List.set_cons_succ, i64_w, i32_w]; rfl)
                                              refine pure_ (i := 8) (N := some 87) (v := ?_) (a' := ?_) #[true, true, true, true, true, true, true, true, true, false, false, false, false, false, false, false, false] rfl rfl (any_of HT_.out (by kernel_rfl)) (fun _ _ _ h => h) (Or.inl ⟨by rfl, ?_⟩) ?_ ?_
                                              rotate_left; focus (intro w'; go_simp; with_reducible rfl)
                                              rotate_left; focus (simp only [Act.put, List.setIfInBounds_toArray, List.set_cons_zero, List.set_cons_succ, i64_w, i32_w]; rfl)
                                              refine pure_ (i := 10) (N := some 89) (v := ?_) (a' := ?_) #[true, true, true, true, true, true, true, true, true, false, true, false, false, false, false, false, false] rfl rfl (any_of HT_.out (by kernel_rfl)) (fun _ _ _ h => h) (Or.inl ⟨by rfl, ?_⟩) ?_ ?_
                                              rotate_left; focus (intro w'; go_simp; with_reducible rfl)
                                              rotate_left; focus (simp only [Act.put, List.setIfInBounds_toArray, List.set_cons_zero, List.set_cons_succ, i64_w, i32_w]; rfl)
                                              refine pure_ (i := 11) (N := some 90) (v := ?_) (a' := ?_) #[true, true, true, true, true, true, true, true, true, false, true, true, false, false, false, false, false] rfl rfl (any_of HT_.out (by kernel_rfl)) (fun _ _ _ h => h) (Or.inl ⟨by rfl, ?_⟩) ?_ ?_
                                              rotate_left; focus (intro w'; go_simp; with_reducible rfl)
                                              rotate_left; focus (simp only [Act.put, List.setIfInBounds_toArray, List.set_cons_zero, List.set_cons_succ, i64_w, i32_w]; rfl)
                                              refine pure_ (i := 12) (N := some 91) (v := ?_) (a' := ?_) #[true, true, true, true, true, true, true, true, true, false, true, true, true, false, false, false, false] rfl rfl (any_of HT_.out (by kernel_rfl)) (fun _ _ _ h => h) (Or.inl ⟨by rfl, ?_⟩) ?_ ?_
                                              rotate_left; focus (intro w'; go_simp; with_reducible rfl)
                                              rotate_left; focus (simp only [Act.put, List.setIfInBounds_toArray, List.set_cons_zero, List.set_cons_succ, i64_w, i32_w]; rfl)
                                              refine pure_ (i := 13) (N := some 92) (v := ?_) (a' := ?_) #[true, true, true, true, true, true, true, true, true, false, true, true, true, true, false, false, false] rfl rfl (any_of HT_.out (by kernel_rfl)) (fun _ _ _ h => h) (Or.inl ⟨by rfl, ?_⟩) ?_ ?_
                                              rotate_left; focus (intro w'; go_simp; with_reducible rfl)
                                              rotate_left; focus (simp only [Act.put, List.setIfInBounds_toArray, List.set_cons_zero, List.set_cons_succ, i64_w, i32_w]; rfl)
                                              refine take_ (i := 9) (N := some 88) (v := ?_) (a' := ?_) #[true, true, true, true, true, true, true, true, true, true, true, true, true, true, false, false, false] rfl rfl (take_ofW HT_.out HW_.out (by kernel_rfl)) (fun _ _ _ h => h) (Or.inl ⟨by rfl, ?_⟩) hHeld ?_ ?_
                                              rotate_left
                                              · rintro w' ⟨s0, s1, s2, s3, s4, s5, s6, s7, s8, s9, s10, s11, s12, s13⟩
                                                go_simp
                                                with_reducible rfl
                                              rotate_left; focus (simp only [Act.put, List.setIfInBounds_toArray, List.set_cons_zero, List.set_cons_succ, i64_w, i32_w]; rfl)
                                              refine take_ (i := 14) (N := some 93) (v := ?_) (a' := ?_) #[true, true, true, true, true, true, true, true, true, true, true, true, true, true, true, false, false] rfl rfl (take_ofW HT_.out HW_.out (by kernel_rfl)) (fun _ _ _ h => h) (Or.inl ⟨by rfl, ?_⟩) hHeld ?_ ?_
                                              rotate_left
                                              · rintro w' ⟨s0, s1, s2, s3, s4, s5, s6, s7, s8, s9, s10, s11, s12, s13⟩
                                                go_simp
                                                with_reducible rfl
                                              rotate_left; focus (simp only [Act.put, List.setIfInBounds_toArray, List.set_cons_zero, List.set_cons_succ, i64_w, i32_w]; rfl)
                                              refine pure_ (i := 15) (N := some 94) (v := ?_) (a' := ?_) #[true, true, true, true, true, true, true, true, true, true, true, true, true, true, true, true, false] rfl rfl (any_of HT_.out (by kernel_rfl)) (fun _ _ _ h => h) (Or.inl ⟨by rfl, ?_⟩) ?_ ?_
                                              rotate_left; focus (intro w'; go_simp; with_reducible rfl)
                                              rotate_left; focus (simp only [Act.put, List.setIfInBounds_toArray, List.set_cons_zero, List.set_cons_succ, i64_w, i32_w]; rfl)
                                              refine pure_ (i := 16) (N := some 95) (v := ?_) (a' := ?_) #[true, true, true, true, true, true, true, true, true, true, true, true, true, true, true, true, true] rfl rfl (any_of HT_.out (by kernel_rfl)) (fun _ _ _ h => h) (Or.inl ⟨by rfl, ?_⟩) ?_ ?_
                                              rotate_left; focus (intro w'; go_simp; with_reducible rfl)
                                              rotate_left; focus (simp only [Act.put, List.setIfInBounds_toArray, List.set_cons_zero, List.set_cons_succ, i64_w, i32_w]; rfl)
                                              refine done_ (done_of HT_.out (by kernel_rfl)) ?_
                                              try go_wp2
                                              go_roundg k1
                                              case measure => have := HK1.out; omega
                                              case rel => exact ⟨(ji74), (by first | rfl | (simp; done) | (simp only [← hji74] <;> (first | rfl | simp)) | (simp [*]; done)), H', ⟨by have := HK1.out; omega⟩, ⟨by (with_reducible repeat (first | apply Kd.R_alloc | apply Kd.R_drewN | apply Kd.R_drew)); exact HO_6.out⟩, ⟨by (with_reducible repeat (first | apply Kd.R_alloc | apply Kd.R_drewN | apply Kd.R_drew)); exact HO_9.out⟩, ⟨by repeat (first | (with_reducible first | exact HB.out | apply below_alloc | apply pw_below_drewN | apply below_drew1) | exact HB.out)⟩⟩
                                          · rw [if_neg c76] at H
                                            exact absurd H (by simp)
                                        · rw [if_neg c75] at H
                                          exact absurd H (by simp)
                                      · rw [if_neg c73] at H
                                        exact absurd H (by simp)
                                  · rw [if_neg c71] at H
                                    have c71b0 : decide (a1 ≤ x11_1) = false := decide_eq_false c71
                                    clear c71
                                    by_cases c81 : x11_1 ≥ (t390.length : Int)
                                    · rw [if_pos c81] at H
                                      have c81b0 : decide ((t390.length : Int) ≤ x11_1) = true := decide_eq_true c81
                                      clear c81
                                      exact absurd H (by simp)
                                    · rw [if_neg c81] at H
                                      have c81b0 : decide ((t390.length : Int) ≤ x11_1) = false := decide_eq_false c81
                                      clear c81
                                      by_cases c82 : 0 ≤ x11_1
                                      · rw [if_pos c82] at H
                                        have c82b0 : decide (0 ≤ x11_1) = true := decide_eq_true c82
                                        clear c82
                                        by_cases c83 : x11_1 < (t390.length : Int)
                                        · rw [if_pos c83] at H
                                          have c83b0 : decide (x11_1 < (t390.length : Int)) = true := decide_eq_true c83
                                          clear c83
                                          by_cases c84 : ((rd_T42 t408 x11_1).f1) > ((rd_T42 t390 x11_1).f1)
                                          · rw [if_pos c84] at H
                                            exact absurd H (by simp)
                                          · rw [if_neg c84] at H
                                            have c84b0 : decide (((rd_T42 t390 x11_1).f1) < ((rd_T42 t408 x11_1).f1)) = false := decide_eq_false c84
                                            clear c84
                                            have H' := Aside0.mk H
                                            clear H
                                            obtain ⟨Ao85, co85, eo85⟩ := Kd.R_slice HO_9.out
                                            subst eo85
                                            try go_wp2
                                            have n0_ := Aside0.mk (Kd.R_drew HO_6.out)
                                            have n1_ := Aside0.mk (Kd.R_drew HO_9.out)
                                            have n2_ := Aside0.mk (below_drew1 HB.out)
                                            clear HO_6
                                            clear HO_9
                                            clear HB
                                            have HO_6 := n0_
                                            have HO_9 := n1_
                                            have HB := n2_
                                            clear n0_ n1_ n2_
                                            obtain ⟨Ao87, co87, eo87⟩ := Kd.R_slice HO_6.out
                                            (first | subst eo87 | (injection eo87 with f1_ f2_ f3_; have f4_ := f1_.symm; have f5_ := f3_.symm; clear f1_ f2_ f3_; subst f4_; subst f5_))
                                            have p414 : 0 ≤ (x11_1 : Int) := of_decide_eq_true (by first | (with_reducible assumption) | assumption)
                                            have q414 : x11_1 < (t408.length : Int) := of_decide_eq_true (by first | (with_reducible assumption) | assumption)
                                            obtain ⟨ad414, e414, hx414_0, hx414_1, hx414_2, hx414_3, hx414_4, hx414_5, hx414_6⟩ := at_T42 (Kd.R_reads' HO_9.out).2.2 x11_1 p414 q414
                                            cases e414
                                            replace p414 := eq_true p414
                                            replace q414 := eq_true q414
                                            have p415 : 0 ≤ (x11_1 : Int) := of_decide_eq_true (by first | (with_reducible assumption) | assumption)
                                            have q415 : x11_1 < (t390.length : Int) := of_decide_eq_true (by first | (with_reducible assumption) | assumption)
                                            obtain ⟨ad415, e415, hx415_0, hx415_1, hx415_2, hx415_3, hx415_4, hx415_5, hx415_6⟩ := at_T42 (Kd.R_reads' HO_6.out).2.2 x11_1 p415 q415
                                            cases e415
                                            replace p415 := eq_true p415
                                            replace q415 := eq_true q415
                                            refine start_ (n := 17) (S := fun w' => w'.cell? (ad414.add ((x11_1).toNat * 7)) = some (.int .i64 ((rd_T42 t408 x11_1).f0.f0)) ∧ w'.cell? ⟨(ad414.add ((x11_1).toNat * 7)).block, (ad414.add ((x11_1).toNat * 7)).off + 1, none⟩ = some (.int .i64 ((rd_T42 t408 x11_1).f0.f1)) ∧ w'.cell? ⟨(ad414.add ((x11_1).toNat * 7)).block, (ad414.add ((x11_1).toNat * 7)).off + 2, none⟩ = some (.int .i64 ((rd_T42 t408 x11_1).f0.f2)) ∧ w'.cell? ⟨(ad414.add ((x11_1).toNat * 7)).block, (ad414.add ((x11_1).toNat * 7)).off + 3, none⟩ = some (.int .i64 ((rd_T42 t408 x11_1).f0.f3)) ∧ w'.cell? ⟨(ad414.add ((x11_1).toNat * 7)).block, (ad414.add ((x11_1).toNat * 7)).off + 4, none⟩ = some (.int .i64 ((rd_T42 t408 x11_1).f0.f4)) ∧ w'.cell? ⟨(ad414.add ((x11_1).toNat * 7)).block, (ad414.add ((x11_1).toNat * 7)).off + 5, none⟩ = some (.int .i64 ((rd_T42 t408 x11_1).f0.f5)) ∧ w'.cell? ⟨(ad414.add ((x11_1).toNat * 7)).block, (ad414.add ((x11_1).toNat * 7)).off + 6, none⟩ = some (.int .i64 ((rd_T42 t408 x11_1).f1)) ∧ w'.cell? (ad415.add ((x11_1).toNat * 7)) = some (.int .i64 ((rd_T42 t390 x11_1).f0.f0)) ∧ w'.cell? ⟨(ad415.add ((x11_1).toNat * 7)).block, (ad415.add ((x11_1).toNat * 7)).off + 1, none⟩ = some (.int .i64 ((rd_T42 t390 x11_1).f0.f1)) ∧ w'.cell? ⟨(ad415.add ((x11_1).toNat * 7)).block, (ad415.add ((x11_1).toNat * 7)).off + 2, none⟩ = some (.int .i64 ((rd_T42 t390 x11_1).f0.f2)) ∧ w'.cell? ⟨(ad415.add ((x11_1).toNat * 7)).block, (ad415.add ((x11_1).toNat * 7)).off + 3, none⟩ = some (.int .i64 ((rd_T42 t390 x11_1).f0.f3)) ∧ w'.cell? ⟨(ad415.add ((x11_1).toNat * 7)).block, (ad415.add ((x11_1).toNat * 7)).off + 4, none⟩ = some (.int .i64 ((rd_T42 t390 x11_1).f0.f4)) ∧ w'.cell? ⟨(ad415.add ((x11_1).toNat * 7)).block, (ad415.add ((x11_1).toNat * 7)).off + 5, none⟩ = some (.int .i64 ((rd_T42 t390 x11_1).f0.f5)) ∧ w'.cell? ⟨(ad415.add ((x11_1).toNat * 7)).block, (ad415.add ((x11_1).toNat * 7)).off + 6, none⟩ = some (.int .i64 ((rd_T42 t390 x11_1).f1))) (ds := []) #[false, false, false, false, false, false, false, false, false, false, false, false, false, false, false, false, false] (by kernel_rfl) rfl rfl ⟨hx414_0, hx414_1, hx414_2, hx414_3, hx414_4, hx414_5, hx414_6, hx415_0, hx415_1, hx415_2, hx415_3, hx415_4, hx415_5, hx415_6⟩ (fun hHeld => ?_); refine with_tabW fuseelaw10_PlanLess.tab15 fuseelaw10_PlanLess.bits15 (fun HT_ HW_ => ?_)
                                            generalize wr.drew = w86 at HO_6 HO_9 HB hx414_0 hx414_1 hx414_2 hx414_3 hx414_4 hx414_5 hx414_6 hx415_0 hx415_1 hx415_2 hx415_3 hx415_4 hx415_5 hx415_6 hHeld ⊢
                                            refine pure_ (i := 0) (N := some 79) (v := ?_) (a' := ?_) #[true, false, false, false, false, false, false, false, false, false, false, false, false, false, false, false, false] rfl rfl (any_of HT_.out (by kernel_rfl)) (fun _ _ _ h => h) (Or.inl ⟨by rfl, ?_⟩) ?_ ?_
                                            rotate_left; focus (intro w'; go_simp; with_reducible rfl)
                                            rotate_left; focus (simp only [Act.put, List.setIfInBounds_toArray, List.set_cons_zero, List.set_cons_succ, i64_w, i32_w]; rfl)
                                            refine pure_ (i := 1) (N := some 80) (v := ?_) (a' := ?_) #[true, true, false, false, false, false, false, false, false, false, false, false, false, false, false, false, false] rfl rfl (any_of HT_.out (by kernel_rfl)) (fun _ _ _ h => h) (Or.inl ⟨by rfl, ?_⟩) ?_ ?_
                                            rotate_left; focus (intro w'; go_simp; with_reducible rfl)
                                            rotate_left; focus (simp only [Act.put, List.setIfInBounds_toArray, List.set_cons_zero, List.set_cons_succ, i64_w, i32_w]; rfl)
                                            refine pure_ (i := 2) (N := some 81) (v := ?_) (a' := ?_) #[true, true, true, false, false, false, false, false, false, false, false, false, false, false, false, false, false] rfl rfl (any_of HT_.out (by kernel_rfl)) (fun _ _ _ h => h) (Or.inl ⟨by rfl, ?_⟩) ?_ ?_
                                            rotate_left; focus (intro w'; go_simp; with_reducible rfl)
                                            rotate_left; focus (simp only [Act.put, List.setIfInBounds_toArray, List.set_cons_zero, List.set_cons_succ, i64_w, i32_w]; rfl)
                                            refine pure_ (i := 3) (N := some 82) (v := ?_) (a' := ?_) #[true, true, true, true, false, false, false, false, false, false, false, false, false, false, false, false, false] rfl rfl (any_of HT_.out (by kernel_rfl)) (fun _ _ _ h => h) (Or.inl ⟨by rfl, ?_⟩) ?_ ?_
                                            rotate_left; focus (intro w'; go_simp; with_reducible rfl)
                                            rotate_left; focus (simp only [Act.put, List.setIfInBounds_toArray, List.set_cons_zero, List.set_cons_succ, i64_w, i32_w]; rfl)
                                            refine pure_ (i := 4) (N := some 83) (v := ?_) (a' := ?_) #[true, true, true, true, true, false, false, false, false, false, false, false, false, false, false, false, false] rfl rfl (any_of HT_.out (by kernel_rfl)) (fun _ _ _ h => h) (Or.inl ⟨by rfl, ?_⟩) ?_ ?_
                                            rotate_left; focus (intro w'; go_simp; with_reducible rfl)
                                            rotate_left; focus (simp only [Act.put, List.setIfInBounds_toArray, List.set_cons_zero, List.set_cons_succ, i64_w, i32_w]; rfl)
                                            refine pure_ (i := 5) (N := some 84) (v := ?_) (a' := ?_) #[true, true, true, true, true, true, false, false, false, false, false, false, false, false, false, false, false] rfl rfl (any_of HT_.out (by kernel_rfl)) (fun _ _ _ h => h) (Or.inl ⟨by rfl, ?_⟩) ?_ ?_
                                            rotate_left; focus (intro w'; go_simp; with_reducible rfl)
                                            rotate_left; focus (simp only [Act.put, List.setIfInBounds_toArray, List.set_cons_zero, List.set_cons_succ, i64_w, i32_w]; rfl)
                                            refine pure_ (i := 6) (N := some 85) (v := ?_) (a' := ?_) #[true, true, true, true, true, true, true, false, false, false, false, false, false, false, false, false, false] rfl rfl (any_of HT_.out (by kernel_rfl)) (fun _ _ _ h => h) (Or.inl ⟨by rfl, ?_⟩) ?_ ?_
                                            rotate_left; focus (intro w'; go_simp; with_reducible rfl)
                                            rotate_left; focus (simp only [Act.put, List.setIfInBounds_toArray, List.set_cons_zero, List.set_cons_succ, i64_w, i32_w]; rfl)
                                            refine pure_ (i := 7) (N := some 86) (v := ?_) (a' := ?_) #[true, true, true, true, true, true, true, true, false, false, false, false, false, false, false, false, false] rfl rfl (any_of HT_.out (by kernel_rfl)) (fun _ _ _ h => h) (Or.inl ⟨by rfl, ?_⟩) ?_ ?_
                                            rotate_left; focus (intro w'; go_simp; with_reducible rfl)
                                            rotate_left; focus (simp only [Act.put, List.setIfInBounds_toArray, List.set_cons_zero, List.set_cons_succ, i64_w, i32_w]; rfl)
                                            refine pure_ (i := 8) (N := some 87) (v := ?_) (a' := ?_) #[true, true, true, true, true, true, true, true, true, false, false, false, false, false, false, false, false] rfl rfl (any_of HT_.out (by kernel_rfl)) (fun _ _ _ h => h) (Or.inl ⟨by rfl, ?_⟩) ?_ ?_
                                            rotate_left; focus (intro w'; go_simp; with_reducible rfl)
                                            rotate_left; focus (simp only [Act.put, List.setIfInBounds_toArray, List.set_cons_zero, List.set_cons_succ, i64_w, i32_w]; rfl)
                                            refine pure_ (i := 10) (N := some 89) (v := ?_) (a' := ?_) #[true, true, true, true, true, true, true, true, true, false, true, false, false, false, false, false, false] rfl rfl (any_of HT_.out (by kernel_rfl)) (fun _ _ _ h => h) (Or.inl ⟨by rfl, ?_⟩) ?_ ?_
                                            rotate_left; focus (intro w'; go_simp; with_reducible rfl)
                                            rotate_left; focus (simp only [Act.put, List.setIfInBounds_toArray, List.set_cons_zero, List.set_cons_succ, i64_w, i32_w]; rfl)
                                            refine pure_ (i := 11) (N := some 90) (v := ?_) (a' := ?_) #[true, true, true, true, true, true, true, true, true, false, true, true, false, false, false, false, false] rfl rfl (any_of HT_.out (by kernel_rfl)) (fun _ _ _ h => h) (Or.inl ⟨by rfl, ?_⟩) ?_ ?_
                                            rotate_left; focus (intro w'; go_simp; with_reducible rfl)
                                            rotate_left; focus (simp only [Act.put, List.setIfInBounds_toArray, List.set_cons_zero, List.set_cons_succ, i64_w, i32_w]; rfl)
                                            refine pure_ (i := 12) (N := some 91) (v := ?_) (a' := ?_) #[true, true, true, true, true, true, true, true, true, false, true, true, true, false, false, false, false] rfl rfl (any_of HT_.out (by kernel_rfl)) (fun _ _ _ h => h) (Or.inl ⟨by rfl, ?_⟩) ?_ ?_
                                            rotate_left; focus (intro w'; go_simp; with_reducible rfl)
                                            rotate_left; focus (simp only [Act.put, List.setIfInBounds_toArray, List.set_cons_zero, List.set_cons_succ, i64_w, i32_w]; rfl)
                                            refine pure_ (i := 13) (N := some 92) (v := ?_) (a' := ?_) #[true, true, true, true, true, true, true, true, true, false, true, true, true, true, false, false, false] rfl rfl (any_of HT_.out (by kernel_rfl)) (fun _ _ _ h => h) (Or.inl ⟨by rfl, ?_⟩) ?_ ?_
                                            rotate_left; focus (intro w'; go_simp; with_reducible rfl)
                                            rotate_left; focus (simp only [Act.put, List.setIfInBounds_toArray, List.set_cons_zero, List.set_cons_succ, i64_w, i32_w]; rfl)
                                            refine take_ (i := 9) (N := some 88) (v := ?_) (a' := ?_) #[true, true, true, true, true, true, true, true, true, true, true, true, true, true, false, false, false] rfl rfl (take_ofW HT_.out HW_.out (by kernel_rfl)) (fun _ _ _ h => h) (Or.inl ⟨by rfl, ?_⟩) hHeld ?_ ?_
                                            rotate_left
                                            · rintro w' ⟨s0, s1, s2, s3, s4, s5, s6, s7, s8, s9, s10, s11, s12, s13⟩
                                              go_simp
                                              with_reducible rfl
                                            rotate_left; focus (simp only [Act.put, List.setIfInBounds_toArray, List.set_cons_zero, List.set_cons_succ, i64_w, i32_w]; rfl)
                                            refine take_ (i := 14) (N := some 93) (v := ?_) (a' := ?_) #[true, true, true, true, true, true, true, true, true, true, true, true, true, true, true, false, false] rfl rfl (take_ofW HT_.out HW_.out (by kernel_rfl)) (fun _ _ _ h => h) (Or.inl ⟨by rfl, ?_⟩) hHeld ?_ ?_
                                            rotate_left
                                            · rintro w' ⟨s0, s1, s2, s3, s4, s5, s6, s7, s8, s9, s10, s11, s12, s13⟩
                                              go_simp
                                              with_reducible rfl
                                            rotate_left; focus (simp only [Act.put, List.setIfInBounds_toArray, List.set_cons_zero, List.set_cons_succ, i64_w, i32_w]; rfl)
                                            refine pure_ (i := 15) (N := some 94) (v := ?_) (a' := ?_) #[true, true, true, true, true, true, true, true, true, true, true, true, true, true, true, true, false] rfl rfl (any_of HT_.out (by kernel_rfl)) (fun _ _ _ h => h) (Or.inl ⟨by rfl, ?_⟩) ?_ ?_
                                            rotate_left; focus (intro w'; go_simp; with_reducible rfl)
                                            rotate_left; focus (simp only [Act.put, List.setIfInBounds_toArray, List.set_cons_zero, List.set_cons_succ, i64_w, i32_w]; rfl)
                                            refine pure_ (i := 16) (N := some 95) (v := ?_) (a' := ?_) #[true, true, true, true, true, true, true, true, true, true, true, true, true, true, true, true, true] rfl rfl (any_of HT_.out (by kernel_rfl)) (fun _ _ _ h => h) (Or.inl ⟨by rfl, ?_⟩) ?_ ?_
                                            rotate_left; focus (intro w'; go_simp; with_reducible rfl)
                                            rotate_left; focus (simp only [Act.put, List.setIfInBounds_toArray, List.set_cons_zero, List.set_cons_succ, i64_w, i32_w]; rfl)
                                            refine done_ (done_of HT_.out (by kernel_rfl)) ?_
                                            try go_wp2
                                            go_roundg k1
                                            case measure => have := HK1.out; omega
                                            case rel => exact ⟨(wrap64 (x11_1 + 1)), (by first | rfl | (simp; done) | (simp [*]; done)), H', ⟨by have := HK1.out; omega⟩, ⟨by (with_reducible repeat (first | apply Kd.R_alloc | apply Kd.R_drewN | apply Kd.R_drew)); exact HO_6.out⟩, ⟨by (with_reducible repeat (first | apply Kd.R_alloc | apply Kd.R_drewN | apply Kd.R_drew)); exact HO_9.out⟩, ⟨by repeat (first | (with_reducible first | exact HB.out | apply below_alloc | apply pw_below_drewN | apply below_drew1) | exact HB.out)⟩⟩
                                        · rw [if_neg c83] at H
                                          exact absurd H (by simp)
                                      · rw [if_neg c82] at H
                                        exact absurd H (by simp)
                                · rw [if_neg c70] at H
                                  have c70b0 : (t391 == 0) = false := beq_eq_false_iff_ne.mpr c70
                                  have c70b1 : (t391 != 0) = true := bne_iff_ne.mpr c70
                                  obtain rfl := Option.some.inj H
                                  obtain ⟨Ao88, co88, eo88⟩ := Kd.R_slice HO_9.out
                                  subst eo88
                                  go_wp2
                                  go_ret
                                  exact ⟨by first | rfl | (simp [errW_none, errW_some] <;> rfl) | (simp only [← hji15]; first | rfl | (simp [errW_none, errW_some] <;> rfl)) | (simp [*, errW_none, errW_some] <;> rfl) | (exfalso; first | contradiction | (revert c20b0 c40b0 c70b0; simp +contextual; done)), by repeat (first | (with_reducible first | exact HB.out | apply below_alloc | apply pw_below_drewN | apply below_drew1) | exact HB.out)⟩
                              · rw [if_neg c69] at H
                                have c69b0 : decide (x11_1 < (t408.length : Int)) = false := decide_eq_false c69
                                clear c69
                                obtain rfl := Option.some.inj H
                                obtain ⟨Ao89, co89, eo89⟩ := Kd.R_slice HO_9.out
                                subst eo89
                                go_wp2
                                go_ret
                                exact ⟨by first | rfl | (simp [errW_none, errW_some] <;> rfl) | (simp only [← hji15]; first | rfl | (simp [errW_none, errW_some] <;> rfl)) | (simp [*, errW_none, errW_some] <;> rfl) | (exfalso; first | contradiction | (revert c20b0 c40b0; simp +contextual; done)), by repeat (first | (with_reducible first | exact HB.out | apply below_alloc | apply pw_below_drewN | apply below_drew1) | exact HB.out)⟩
                    · rw [if_neg c18] at H
                      exact absurd H (by simp)
                  · rw [if_neg c17] at H
                    exact absurd H (by simp)
                · rw [if_neg c16] at H
                  exact absurd H (by simp)
              · rw [if_neg c14] at H
                exact absurd H (by simp)
            · rw [if_neg c13] at H
              exact absurd H (by simp)
          · rw [if_neg c12] at H
            exact absurd H (by simp)
  · replace c4 := Bool.eq_false_iff.mpr c4
    subst c4
    rw [if_neg (show ¬ (false = true) by decide)] at H
    obtain rfl := Option.some.inj H
    go_enter Try.func6, Try.ntmps6
    go_wp2_with (first | ((with_reducible refine gate_callee (f := 10) rfl ?_); refine goesL_ (some 13) rfl rfl Try.func10 (by kernel_rfl) rfl #[] rfl (by (try simp only [List.map_toArray, List.map_cons, List.map_nil]); first | done | rfl | (simp only [List.length_drop, List.length_take]; rfl)) ?_; (with_reducible refine (fuseelaw10_awake.calls k  false _ A3.out).mono ?_); rintro e w90 ⟨rfl, hb⟩; refine ⟨_, rfl, ?_⟩; have n0_ := bs HB hb; clear HB; have HB := n0_; clear n0_; (try clear hb); (try clear hb2); (try clear hk); (try clear hi)))
    go_ret
    exact ⟨by first | rfl | (simp [errW_none, errW_some] <;> rfl) | (simp [*, errW_none, errW_some] <;> rfl) | (exfalso; contradiction), by repeat (first | (with_reducible first | exact HB.out | apply below_alloc | apply pw_below_drewN | apply below_drew1) | exact HB.out)⟩

end Go.Proofs.Ytaejikbfnlihmaa.P
