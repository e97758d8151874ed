-- Written by a program of this session (hprint.py), out of the translation; functions that the print does not take are given by hand.
import Derived.Test.YtngledpkoeioiaaPx0
import Derived.Test.YtngledpkoeioiaaPx6
namespace Go.Proofs.Ytngledpkoeioiaa.P
open Go.RowKit Go.Proofs.YtngledpkoeioiaaM Go.Proofs.YtngledpkoeioiaaW.PrintWords Go.Proofs.YtngledpkoeioiaaW.PrintLast Go.Proofs.YtngledpkoeioiaaW.PrintMore
attribute [local go_sem] max2_int min2_int max_two min_two max_three min_three max_four min_four   -- for this text's walks alone
set_option linter.unusedVariables false
set_option linter.unusedSimpArgs false

/-! ### fuseelaw09_DemandLess: function 5 -/
def fuseelaw09_DemandLess.f (k : Nat) (l0 : List (S26)) (a1 : Int) (a2 : Int) : Option (Bool) := (fuseelaw09_awake.f k).bind fun t213 => (if t213 = true then (if a1 < 0 then (some t213) else (if a1 ≥ (l0.length : Int) then (some t213) else (if a2 < 0 then (some t213) else (if a2 > 48 then (some t213) else ((demand_Test.f k l0).bind fun t214 => (if t214 = true then (if 0 ≤ a1 then (if a1 ≤ (l0.length : Int) then ((some (l0.take (a1 : Int).toNat : List (S26))).bind fun y215 => (if ([] : List (S26)).length + y215.length < 2513169434916 then ((some (([] : List (S26)) ++ y215 : List (S26))).bind fun y219 => (if 0 ≤ (wrap64 (a1 + 1)) then (if (wrap64 (a1 + 1)) ≤ (l0.length : Int) then ((some (l0.drop ((wrap64 (a1 + 1)) : Int).toNat : List (S26))).bind fun y222 => (if y219.length + y222.length < 2513169434916 then (if ([] : List (S26)).length + l0.length < 2513169434916 then ((some (([] : List (S26)) ++ l0 : List (S26))).bind fun y229 => (if a1 < (l0.length : Int) then (if a1 < (y229.length : Int) then ((some (y229.set (a1 : Int).toNat (⟨(⟨(rd_T26 y229 a1).f0.f0, (rd_T26 y229 a1).f0.f1, (rd_T26 y229 a1).f0.f2, (rd_T26 y229 a1).f0.f3, (rd_T26 y229 a1).f0.f4, (rd_T26 y229 a1).f0.f5⟩ : S24), wrap64 (((rd_T26 l0 a1).f1) + a2)⟩ : S26) : List (S26))).bind fun y233 => ((demand_Test.f k (y219 ++ y222)).bind fun t234 => (if t234 = true then (if ((rd_T26 y233 a1).f1) > ((rd_T26 l0 a1).f0.f2) then (some true) else ((demand_Test.f k y233).bind fun t237 => (some t237))) else (none)))) else (none)) else (none))) else (none)) else (none))) else (none)) else (none))) else (none))) else (none)) else (none)) else (some t213))))))) else (some t213))
theorem fuseelaw09_DemandLess.mono : ∀ a0 a1 a2 k, LeO (fuseelaw09_DemandLess.f k a0 a1 a2) (fuseelaw09_DemandLess.f (k + 1) a0 a1 a2) := by
  intro a0 a1 a2 k
  unfold fuseelaw09_DemandLess.f
  repeat' first
      | (with_reducible exact demand_Test.mono _ _)
      | (with_reducible exact fuseelaw09_awake.mono _)
      | (with_reducible exact LeO.refl _)
      | (with_reducible exact LeO.none _)
      | (with_reducible refine LeO.ite ?_ ?_)
      | (with_reducible refine LeO.bind ?_ (fun _ => ?_))
      | exact demand_Test.mono _ _
      | exact fuseelaw09_awake.mono _
      | exact LeO.none _
      | refine LeO.ite ?_ ?_
      | refine LeO.bind ?_ (fun _ => ?_)
def fuseelaw09_DemandLess.T4 : Bool × List (List Nat × List Nat) := (true, [([], []), ([], []), ([0, 1], [0, 1]), ([2], [2]), ([], []), ([], []), ([5], [5]), ([4, 6], [4, 6]), ([3, 7, 3], [3, 7]), ([8, 8, 0, 1, 2, 3, 4, 5, 6, 7, 8], [8])])
def fuseelaw09_DemandLess.B4 : List Nat := [0, 0, 3, 7, 0, 0, 32, 112, 255, 511]
theorem fuseelaw09_DemandLess.tab4 : rtab .any (opsOf Try.f5 4) = fuseelaw09_DemandLess.T4 := by kernel_rfl
theorem fuseelaw09_DemandLess.bits4 : waitsOk fuseelaw09_DemandLess.T4.2 fuseelaw09_DemandLess.B4 = true := by kernel_rfl
def fuseelaw09_DemandLess.T7 : Bool × List (List Nat × List Nat) := (true, [([], []), ([0], [0]), ([1, 1], [1]), ([2], [2]), ([2], [2]), ([3, 4, 2], [2, 3, 4]), ([5, 2], [2, 5]), ([6, 2], [2, 6]), ([2], [2]), ([2], [2]), ([8, 9, 2], [2, 8, 9]), ([10, 2], [2, 10]), ([11, 2], [2, 11]), ([12, 2], [2, 12]), ([7, 13, 2], [2, 7, 13]), ([14, 2, 2], [2, 14]), ([15], [15]), ([16, 15, 15], [15, 16]), ([15, 17, 2], [2, 15, 17]), ([2, 18], [2, 18]), ([19, 17, 0, 1, 2, 3, 4, 5, 6, 7, 8, 9, 10, 11, 12, 13, 14, 15, 16, 17, 18, 19], [19])])
def fuseelaw09_DemandLess.B7 : List Nat := [0, 1, 3, 7, 7, 31, 63, 127, 7, 7, 775, 1799, 3847, 7943, 16383, 32767, 65535, 131071, 262143, 524287, 1048575]
theorem fuseelaw09_DemandLess.tab7 : rtab .any (opsOf Try.f5 7) = fuseelaw09_DemandLess.T7 := by kernel_rfl
theorem fuseelaw09_DemandLess.bits7 : waitsOk fuseelaw09_DemandLess.T7.2 fuseelaw09_DemandLess.B7 = true := by kernel_rfl
set_option maxHeartbeats 64000000 in
set_option maxRecDepth 100000 in
theorem fuseelaw09_DemandLess.calls (k : Nat) (A0 : Option Addr) (c0 : Nat) (l0 : List (S26)) (a1 : Int) (a2 : Int) (r : Bool) (w : World) (hr0 : Kd.C k26 w A0 l0.length l0) (hc0 : l0.length ≤ c0) (h : fuseelaw09_DemandLess.f k l0 a1 a2 = some r) :
    Calls Try.prog 5 #[.slice A0 l0.length c0, .int .i64 a1, .int .i64 a2] w fun e w' => e = .returned (.bool r) ∧ Below w.heap.size w w' := by
  have HR0 := Aside0.mk hr0
  have HC0 := Aside0.mk hc0
  clear hr0 hc0
  have HB := Aside0.mk (Below.refl w.heap.size w)
  have H : ((fuseelaw09_awake.f k).bind fun t213 => (if t213 = true then (if a1 < 0 then (some t213) else (if a1 ≥ (l0.length : Int) then (some t213) else (if a2 < 0 then (some t213) else (if a2 > 48 then (some t213) else ((demand_Test.f k l0).bind fun t214 => (if t214 = true then (if 0 ≤ a1 then (if a1 ≤ (l0.length : Int) then ((some (l0.take (a1 : Int).toNat : List (S26))).bind fun y215 => (if ([] : List (S26)).length + y215.length < 2513169434916 then ((some (([] : List (S26)) ++ y215 : List (S26))).bind fun y219 => (if 0 ≤ (wrap64 (a1 + 1)) then (if (wrap64 (a1 + 1)) ≤ (l0.length : Int) then ((some (l0.drop ((wrap64 (a1 + 1)) : Int).toNat : List (S26))).bind fun y222 => (if y219.length + y222.length < 2513169434916 then (if ([] : List (S26)).length + l0.length < 2513169434916 then ((some (([] : List (S26)) ++ l0 : List (S26))).bind fun y229 => (if a1 < (l0.length : Int) then (if a1 < (y229.length : Int) then ((some (y229.set (a1 : Int).toNat (⟨(⟨(rd_T26 y229 a1).f0.f0, (rd_T26 y229 a1).f0.f1, (rd_T26 y229 a1).f0.f2, (rd_T26 y229 a1).f0.f3, (rd_T26 y229 a1).f0.f4, (rd_T26 y229 a1).f0.f5⟩ : S24), wrap64 (((rd_T26 l0 a1).f1) + a2)⟩ : S26) : List (S26))).bind fun y233 => ((demand_Test.f k (y219 ++ y222)).bind fun t234 => (if t234 = true then (if ((rd_T26 y233 a1).f1) > ((rd_T26 l0 a1).f0.f2) then (some true) else ((demand_Test.f k y233).bind fun t237 => (some t237))) else (none)))) else (none)) else (none))) else (none)) else (none))) else (none)) else (none))) else (none))) else (none)) else (none)) else (some t213))))))) else (some t213))) = some r := h
  clear h
  replace H := Option.bind_eq_some_iff.mp H
  obtain ⟨t213, A40, H⟩ := H
  try dsimp only at H
  have A4 := Aside0.mk A40
  clear A40
  by_cases c5 : t213 = true
  · subst c5
    rw [if_pos rfl] at H
    by_cases c6 : a1 < 0
    · rw [if_pos c6] at H
      have c6b0 : decide (a1 < 0) = true := decide_eq_true c6
      clear c6
      obtain rfl := Option.some.inj H
      go_enter Try.func5, Try.ntmps5
      go_wp2_with (first | ((with_reducible refine gate_callee (f := 10) rfl ?_); refine goesL_ (some 10) rfl rfl Try.func10 (by kernel_rfl) rfl #[] rfl (by (try simp only [List.map_toArray, List.map_cons, List.map_nil]); first | done | rfl | (simp only [List.length_drop, List.length_take]; rfl)) ?_; (with_reducible refine (fuseelaw09_awake.calls k  true _ A4.out).mono ?_); rintro e w7 ⟨rfl, hb⟩; refine ⟨_, rfl, ?_⟩; have n0_ := bs HB hb; clear HB; have HB := n0_; clear n0_; (try clear hb); (try clear hb2); (try clear hk); (try clear hi)))
      go_ret
      exact ⟨by first | rfl | (simp [errW_none, errW_some] <;> rfl) | (simp [*, errW_none, errW_some] <;> rfl) | (exfalso; contradiction), by repeat (first | (with_reducible first | exact HB.out | apply below_alloc | apply pw_below_drewN | apply below_drew1) | exact HB.out)⟩
    · rw [if_neg c6] at H
      have c6b0 : decide (a1 < 0) = false := decide_eq_false c6
      clear c6
      by_cases c8 : a1 ≥ (l0.length : Int)
      · rw [if_pos c8] at H
        have c8b0 : decide ((l0.length : Int) ≤ a1) = true := decide_eq_true c8
        clear c8
        obtain rfl := Option.some.inj H
        go_enter Try.func5, Try.ntmps5
        go_wp2_with (first | ((with_reducible refine gate_callee (f := 10) rfl ?_); refine goesL_ (some 10) rfl rfl Try.func10 (by kernel_rfl) rfl #[] rfl (by (try simp only [List.map_toArray, List.map_cons, List.map_nil]); first | done | rfl | (simp only [List.length_drop, List.length_take]; rfl)) ?_; (with_reducible refine (fuseelaw09_awake.calls k  true _ A4.out).mono ?_); rintro e w9 ⟨rfl, hb⟩; refine ⟨_, rfl, ?_⟩; have n0_ := bs HB hb; clear HB; have HB := n0_; clear n0_; (try clear hb); (try clear hb2); (try clear hk); (try clear hi)))
        go_ret
        exact ⟨by first | rfl | (simp [errW_none, errW_some] <;> rfl) | (simp [*, errW_none, errW_some] <;> rfl) | (exfalso; contradiction), by repeat (first | (with_reducible first | exact HB.out | apply below_alloc | apply pw_below_drewN | apply below_drew1) | exact HB.out)⟩
      · rw [if_neg c8] at H
        have c8b0 : decide ((l0.length : Int) ≤ a1) = false := decide_eq_false c8
        clear c8
        by_cases c10 : a2 < 0
        · rw [if_pos c10] at H
          have c10b0 : decide (a2 < 0) = true := decide_eq_true c10
          clear c10
          obtain rfl := Option.some.inj H
          go_enter Try.func5, Try.ntmps5
          go_wp2_with (first | ((with_reducible refine gate_callee (f := 10) rfl ?_); refine goesL_ (some 10) rfl rfl Try.func10 (by kernel_rfl) rfl #[] rfl (by (try simp only [List.map_toArray, List.map_cons, List.map_nil]); first | done | rfl | (simp only [List.length_drop, List.length_take]; rfl)) ?_; (with_reducible refine (fuseelaw09_awake.calls k  true _ A4.out).mono ?_); rintro e w11 ⟨rfl, hb⟩; refine ⟨_, rfl, ?_⟩; have n0_ := bs HB hb; clear HB; have HB := n0_; clear n0_; (try clear hb); (try clear hb2); (try clear hk); (try clear hi)))
          go_ret
          exact ⟨by first | rfl | (simp [errW_none, errW_some] <;> rfl) | (simp [*, errW_none, errW_some] <;> rfl) | (exfalso; contradiction), by repeat (first | (with_reducible first | exact HB.out | apply below_alloc | apply pw_below_drewN | apply below_drew1) | exact HB.out)⟩
        · rw [if_neg c10] at H
          have c10b0 : decide (a2 < 0) = false := decide_eq_false c10
          clear c10
          by_cases c12 : a2 > 48
          · rw [if_pos c12] at H
            have c12b0 : decide (48 < a2) = true := decide_eq_true c12
            clear c12
            obtain rfl := Option.some.inj H
            go_enter Try.func5, Try.ntmps5
            go_wp2_with (first | ((with_reducible refine gate_callee (f := 10) rfl ?_); refine goesL_ (some 10) rfl rfl Try.func10 (by kernel_rfl) rfl #[] rfl (by (try simp only [List.map_toArray, List.map_cons, List.map_nil]); first | done | rfl | (simp only [List.length_drop, List.length_take]; rfl)) ?_; (with_reducible refine (fuseelaw09_awake.calls k  true _ A4.out).mono ?_); rintro e w13 ⟨rfl, hb⟩; refine ⟨_, rfl, ?_⟩; have n0_ := bs HB hb; clear HB; have HB := n0_; clear n0_; (try clear hb); (try clear hb2); (try clear hk); (try clear hi)))
            go_ret
            exact ⟨by first | rfl | (simp [errW_none, errW_some] <;> rfl) | (simp [*, errW_none, errW_some] <;> rfl) | (exfalso; contradiction), by repeat (first | (with_reducible first | exact HB.out | apply below_alloc | apply pw_below_drewN | apply below_drew1) | exact HB.out)⟩
          · rw [if_neg c12] at H
            have c12b0 : decide (48 < a2) = false := decide_eq_false c12
            clear c12
            replace H := Option.bind_eq_some_iff.mp H
            obtain ⟨t214, A140, H⟩ := H
            try dsimp only at H
            have A14 := Aside0.mk A140
            clear A140
            by_cases c15 : t214 = true
            · subst c15
              rw [if_pos rfl] at H
              by_cases c16 : 0 ≤ a1
              · rw [if_pos c16] at H
                have c16b0 := eq_true c16
                have c16b1 : decide (0 ≤ a1) = true := decide_eq_true c16
                clear c16
                by_cases c17 : a1 ≤ (l0.length : Int)
                · rw [if_pos c17] at H
                  have c17b0 := eq_true c17
                  have c17b1 : decide (a1 ≤ (l0.length : Int)) = true := decide_eq_true c17
                  clear c17
                  obtain ⟨y215, hy215⟩ : ∃ y_ : List (S26), y_ = (l0.take (a1 : Int).toNat) := ⟨_, rfl⟩
                  replace H : (if ([] : List (S26)).length + y215.length < 2513169434916 then ((some (([] : List (S26)) ++ y215 : List (S26))).bind fun y219 => (if 0 ≤ (wrap64 (a1 + 1)) then (if (wrap64 (a1 + 1)) ≤ (l0.length : Int) then ((some (l0.drop ((wrap64 (a1 + 1)) : Int).toNat : List (S26))).bind fun y222 => (if y219.length + y222.length < 2513169434916 then (if ([] : List (S26)).length + l0.length < 2513169434916 then ((some (([] : List (S26)) ++ l0 : List (S26))).bind fun y229 => (if a1 < (l0.length : Int) then (if a1 < (y229.length : Int) then ((some (y229.set (a1 : Int).toNat (⟨(⟨(rd_T26 y229 a1).f0.f0, (rd_T26 y229 a1).f0.f1, (rd_T26 y229 a1).f0.f2, (rd_T26 y229 a1).f0.f3, (rd_T26 y229 a1).f0.f4, (rd_T26 y229 a1).f0.f5⟩ : S24), wrap64 (((rd_T26 l0 a1).f1) + a2)⟩ : S26) : List (S26))).bind fun y233 => ((demand_Test.f k (y219 ++ y222)).bind fun t234 => (if t234 = true then (if ((rd_T26 y233 a1).f1) > ((rd_T26 l0 a1).f0.f2) then (some true) else ((demand_Test.f k y233).bind fun t237 => (some t237))) else (none)))) else (none)) else (none))) else (none)) else (none))) else (none)) else (none))) else (none)) = some r := by first | (rw [hy215]; with_reducible exact H) | (have H2_ := (Option.bind_some _ _).symm.trans H; rw [hy215]; with_reducible exact H2_) | (have H2_ := (Option.bind_some _ _).symm.trans H; with_reducible exact H2_) | with_reducible exact H | (rw [hy215]; exact H) | exact H
                  have Ny215 := Aside0.mk hy215
                  clear hy215
                  by_cases c18 : ([] : List (S26)).length + y215.length < 2513169434916
                  · rw [if_pos c18] at H
                    have LMc18 := Aside0.mk c18
                    clear c18
                    obtain ⟨y219, hy219⟩ : ∃ y_ : List (S26), y_ = (([] : List (S26)) ++ y215) := ⟨_, rfl⟩
                    replace H : (if 0 ≤ (wrap64 (a1 + 1)) then (if (wrap64 (a1 + 1)) ≤ (l0.length : Int) then ((some (l0.drop ((wrap64 (a1 + 1)) : Int).toNat : List (S26))).bind fun y222 => (if y219.length + y222.length < 2513169434916 then (if ([] : List (S26)).length + l0.length < 2513169434916 then ((some (([] : List (S26)) ++ l0 : List (S26))).bind fun y229 => (if a1 < (l0.length : Int) then (if a1 < (y229.length : Int) then ((some (y229.set (a1 : Int).toNat (⟨(⟨(rd_T26 y229 a1).f0.f0, (rd_T26 y229 a1).f0.f1, (rd_T26 y229 a1).f0.f2, (rd_T26 y229 a1).f0.f3, (rd_T26 y229 a1).f0.f4, (rd_T26 y229 a1).f0.f5⟩ : S24), wrap64 (((rd_T26 l0 a1).f1) + a2)⟩ : S26) : List (S26))).bind fun y233 => ((demand_Test.f k (y219 ++ y222)).bind fun t234 => (if t234 = true then (if ((rd_T26 y233 a1).f1) > ((rd_T26 l0 a1).f0.f2) then (some true) else ((demand_Test.f k y233).bind fun t237 => (some t237))) else (none)))) else (none)) else (none))) else (none)) else (none))) else (none)) else (none)) = some r := by first | (rw [hy219]; with_reducible exact H) | (have H2_ := (Option.bind_some _ _).symm.trans H; rw [hy219]; with_reducible exact H2_) | (have H2_ := (Option.bind_some _ _).symm.trans H; with_reducible exact H2_) | with_reducible exact H | (rw [hy219]; exact H) | exact H
                    have Ny219 := Aside0.mk hy219
                    clear hy219
                    obtain ⟨ji19, hji19⟩ : ∃ j_ : Int, (wrap64 (a1 + 1)) = j_ := ⟨_, rfl⟩
                    replace H : (if 0 ≤ (ji19) then (if (ji19) ≤ (l0.length : Int) then ((some (l0.drop ((ji19) : Int).toNat : List (S26))).bind fun y222 => (if y219.length + y222.length < 2513169434916 then (if ([] : List (S26)).length + l0.length < 2513169434916 then ((some (([] : List (S26)) ++ l0 : List (S26))).bind fun y229 => (if a1 < (l0.length : Int) then (if a1 < (y229.length : Int) then ((some (y229.set (a1 : Int).toNat (⟨(⟨(rd_T26 y229 a1).f0.f0, (rd_T26 y229 a1).f0.f1, (rd_T26 y229 a1).f0.f2, (rd_T26 y229 a1).f0.f3, (rd_T26 y229 a1).f0.f4, (rd_T26 y229 a1).f0.f5⟩ : S24), wrap64 (((rd_T26 l0 a1).f1) + a2)⟩ : S26) : List (S26))).bind fun y233 => ((demand_Test.f k (y219 ++ y222)).bind fun t234 => (if t234 = true then (if ((rd_T26 y233 a1).f1) > ((rd_T26 l0 a1).f0.f2) then (some true) else ((demand_Test.f k y233).bind fun t237 => (some t237))) else (none)))) else (none)) else (none))) else (none)) else (none))) else (none)) else (none)) = some r := by first | (rw [hji19] at H; exact H) | (simp only [hji19] at H ⊢; exact H)
                    (try rw [hji19] at A4)
                    (try rw [hji19] at A14)
                    have hji19w : (IntKind.i64.wrap (a1 + 1)) = ji19 := (i64_w _).trans hji19
                    by_cases c20 : 0 ≤ (ji19)
                    · rw [if_pos c20] at H
                      have c20b0 := eq_true c20
                      have c20b1 : decide (0 ≤ (ji19)) = true := decide_eq_true c20
                      clear c20
                      by_cases c21 : (ji19) ≤ (l0.length : Int)
                      · rw [if_pos c21] at H
                        have c21b0 := eq_true c21
                        have c21b1 : decide ((ji19) ≤ (l0.length : Int)) = true := decide_eq_true c21
                        clear c21
                        obtain ⟨y222, hy222⟩ : ∃ y_ : List (S26), y_ = (l0.drop ((ji19) : Int).toNat) := ⟨_, rfl⟩
                        replace H : (if y219.length + y222.length < 2513169434916 then (if ([] : List (S26)).length + l0.length < 2513169434916 then ((some (([] : List (S26)) ++ l0 : List (S26))).bind fun y229 => (if a1 < (l0.length : Int) then (if a1 < (y229.length : Int) then ((some (y229.set (a1 : Int).toNat (⟨(⟨(rd_T26 y229 a1).f0.f0, (rd_T26 y229 a1).f0.f1, (rd_T26 y229 a1).f0.f2, (rd_T26 y229 a1).f0.f3, (rd_T26 y229 a1).f0.f4, (rd_T26 y229 a1).f0.f5⟩ : S24), wrap64 (((rd_T26 l0 a1).f1) + a2)⟩ : S26) : List (S26))).bind fun y233 => ((demand_Test.f k (y219 ++ y222)).bind fun t234 => (if t234 = true then (if ((rd_T26 y233 a1).f1) > ((rd_T26 l0 a1).f0.f2) then (some true) else ((demand_Test.f k y233).bind fun t237 => (some t237))) else (none)))) else (none)) else (none))) else (none)) else (none)) = some r := by first | (rw [hy222]; with_reducible exact H) | (have H2_ := (Option.bind_some _ _).symm.trans H; rw [hy222]; with_reducible exact H2_) | (have H2_ := (Option.bind_some _ _).symm.trans H; with_reducible exact H2_) | with_reducible exact H | (rw [hy222]; exact H) | exact H
                        have Ny222 := Aside0.mk hy222
                        clear hy222
                        by_cases c22 : y219.length + y222.length < 2513169434916
                        · rw [if_pos c22] at H
                          have LMc22 := Aside0.mk c22
                          clear c22
                          obtain ⟨y226, hy226⟩ : ∃ y_ : List (S26), y_ = (y219 ++ y222) := ⟨_, rfl⟩
                          replace H : (if ([] : List (S26)).length + l0.length < 2513169434916 then ((some (([] : List (S26)) ++ l0 : List (S26))).bind fun y229 => (if a1 < (l0.length : Int) then (if a1 < (y229.length : Int) then ((some (y229.set (a1 : Int).toNat (⟨(⟨(rd_T26 y229 a1).f0.f0, (rd_T26 y229 a1).f0.f1, (rd_T26 y229 a1).f0.f2, (rd_T26 y229 a1).f0.f3, (rd_T26 y229 a1).f0.f4, (rd_T26 y229 a1).f0.f5⟩ : S24), wrap64 (((rd_T26 l0 a1).f1) + a2)⟩ : S26) : List (S26))).bind fun y233 => ((demand_Test.f k y226).bind fun t234 => (if t234 = true then (if ((rd_T26 y233 a1).f1) > ((rd_T26 l0 a1).f0.f2) then (some true) else ((demand_Test.f k y233).bind fun t237 => (some t237))) else (none)))) else (none)) else (none))) else (none)) = some r := by first | (rw [hy226]; with_reducible exact H) | (have H2_ := (Option.bind_some _ _).symm.trans H; rw [hy226]; with_reducible exact H2_) | (have H2_ := (Option.bind_some _ _).symm.trans H; with_reducible exact H2_) | with_reducible exact H | (rw [hy226]; exact H) | exact H
                          have Ny226 := Aside0.mk hy226
                          clear hy226
                          by_cases c23 : ([] : List (S26)).length + l0.length < 2513169434916
                          · rw [if_pos c23] at H
                            have LMc23 := Aside0.mk c23
                            clear c23
                            obtain ⟨y229, hy229⟩ : ∃ y_ : List (S26), y_ = (([] : List (S26)) ++ l0) := ⟨_, rfl⟩
                            replace H : (if a1 < (l0.length : Int) then (if a1 < (y229.length : Int) then ((some (y229.set (a1 : Int).toNat (⟨(⟨(rd_T26 y229 a1).f0.f0, (rd_T26 y229 a1).f0.f1, (rd_T26 y229 a1).f0.f2, (rd_T26 y229 a1).f0.f3, (rd_T26 y229 a1).f0.f4, (rd_T26 y229 a1).f0.f5⟩ : S24), wrap64 (((rd_T26 l0 a1).f1) + a2)⟩ : S26) : List (S26))).bind fun y233 => ((demand_Test.f k y226).bind fun t234 => (if t234 = true then (if ((rd_T26 y233 a1).f1) > ((rd_T26 l0 a1).f0.f2) then (some true) else ((demand_Test.f k y233).bind fun t237 => (some t237))) else (none)))) else (none)) else (none)) = some r := by first | (rw [hy229]; with_reducible exact H) | (have H2_ := (Option.bind_some _ _).symm.trans H; rw [hy229]; with_reducible exact H2_) | (have H2_ := (Option.bind_some _ _).symm.trans H; with_reducible exact H2_) | with_reducible exact H | (rw [hy229]; exact H) | exact H
                            have Ny229 := Aside0.mk hy229
                            clear hy229
                            by_cases c24 : a1 < (l0.length : Int)
                            · rw [if_pos c24] at H
                              have c24b0 : decide (a1 < (l0.length : Int)) = true := decide_eq_true c24
                              clear c24
                              by_cases c25 : a1 < (y229.length : Int)
                              · rw [if_pos c25] at H
                                have c25b0 : decide (a1 < (y229.length : Int)) = true := decide_eq_true c25
                                clear c25
                                obtain ⟨y233, hy233⟩ : ∃ y_ : List (S26), y_ = (y229.set (a1 : Int).toNat (⟨(⟨(rd_T26 y229 a1).f0.f0, (rd_T26 y229 a1).f0.f1, (rd_T26 y229 a1).f0.f2, (rd_T26 y229 a1).f0.f3, (rd_T26 y229 a1).f0.f4, (rd_T26 y229 a1).f0.f5⟩ : S24), wrap64 (((rd_T26 l0 a1).f1) + a2)⟩ : S26)) := ⟨_, rfl⟩
                                replace H : ((demand_Test.f k y226).bind fun t234 => (if t234 = true then (if ((rd_T26 y233 a1).f1) > ((rd_T26 l0 a1).f0.f2) then (some true) else ((demand_Test.f k y233).bind fun t237 => (some t237))) else (none))) = some r := by first | (rw [hy233]; with_reducible exact H) | (have H2_ := (Option.bind_some _ _).symm.trans H; rw [hy233]; with_reducible exact H2_) | (have H2_ := (Option.bind_some _ _).symm.trans H; with_reducible exact H2_) | with_reducible exact H | (rw [hy233]; exact H) | exact H
                                have Ny233 := Aside0.mk hy233
                                clear hy233
                                replace H := Option.bind_eq_some_iff.mp H
                                obtain ⟨t234, A270, H⟩ := H
                                try dsimp only at H
                                have A27 := Aside0.mk A270
                                clear A270
                                by_cases c28 : t234 = true
                                · subst c28
                                  rw [if_pos rfl] at H
                                  by_cases c29 : ((rd_T26 y233 a1).f1) > ((rd_T26 l0 a1).f0.f2)
                                  · rw [if_pos c29] at H
                                    have c29b0 : decide (((rd_T26 l0 a1).f0.f2) < ((rd_T26 y233 a1).f1)) = true := decide_eq_true c29
                                    clear c29
                                    obtain rfl := Option.some.inj H
                                    go_enter Try.func5, Try.ntmps5
                                    try go_wp2_with (first | ((with_reducible refine gate_callee (f := 10) rfl ?_); refine goesL_ (some 10) rfl rfl Try.func10 (by kernel_rfl) rfl #[] rfl (by (try simp only [List.map_toArray, List.map_cons, List.map_nil]); first | done | rfl | (simp only [List.length_drop, List.length_take]; rfl)) ?_; (with_reducible refine (fuseelaw09_awake.calls k  true _ A4.out).mono ?_); rintro e w30 ⟨rfl, hb⟩; refine ⟨_, rfl, ?_⟩; have n0_ := bs HB hb; clear HB; have HB := n0_; clear n0_; (try clear hb); (try clear hb2); (try clear hk); (try clear hi)) | (go_at_call 15; (with_reducible refine (demand_Test.calls k _ _ l0 true _ ?side1 ?side2 A14.out).mono ?_); (case side1 => repeat (first | exact (Kd.C_below HR0.out HB.out) | (with_reducible refine Kd.C_alloc ?_ _) | (with_reducible refine Kd.C_drewN ?_ _) | (with_reducible refine Kd.C_drew ?_))); (case side2 => exact HC0.out); rintro e w31 ⟨rfl, hb⟩; have n0_ := bs HB hb; clear HB; have HB := n0_; clear n0_; (try clear hb); (try clear hb2); (try clear hk); (try clear hi)))
                                    have n0_ := Aside0.mk (below_drew1 HB.out)
                                    clear HB
                                    have HB := n0_
                                    clear n0_
                                    have q33 : (a1 : Int) ≤ ((l0.length : Int) : Int) := of_decide_eq_true (by first | (with_reducible assumption) | assumption)
                                    obtain ⟨i033, hi033, _, hsz33, _⟩ := info_parts info26
                                    have hroom33 : l0.length ≤ c0 := HC0.out
                                    have hC33 : Kd.C k26 _ A0 l0.length l0 := HR0.out
                                    have hcut33 := cut_to (P := Try.prog) 22 26 .i64 Try.underlying22 hi033 A0 l0.length c0 a1 (of_decide_eq_true (by first | (with_reducible assumption) | assumption)) q33 hroom33
                                    have hr33 := Kd.C_take (m := (a1 : Int).toNat) hC33 (by omega)
                                    have hy33 : y215.length = (a1 : Int).toNat := (by rw [Ny215.out, List.length_take]; omega)
                                    rw [← Ny215.out] at hr33
                                    rw [← hy33] at hcut33
                                    have HR218 := Aside0.mk hr33
                                    have HC218 := Aside0.mk (show y215.length ≤ c0 from by omega)
                                    clear hr33 hC33 hroom33 hi033 hsz33
                                    have KY33 := Aside0.mk hy33
                                    clear hy33
                                    replace q33 := eq_true q33
                                    have q34 : ((ji19) : Int) ≤ ((l0.length : Int) : Int) := of_decide_eq_true (by first | (with_reducible assumption) | assumption)
                                    obtain ⟨i034, hi034, _, hsz34, _⟩ := info_parts info26
                                    have hroom34 : l0.length ≤ c0 := HC0.out
                                    have hC34 : Kd.C k26 _ A0 l0.length l0 := HR0.out
                                    have q034 : (0 : Int) ≤ ((ji19) : Int) := of_decide_eq_true (by first | (with_reducible assumption) | assumption)
                                    have hcut34 := cut_from (P := Try.prog) 22 26 .i64 Try.underlying22 hi034 7 hsz34 A0 l0.length c0 (ji19) q034 q34
                                    have hr34 := Kd.C_drop (m := ((ji19) : Int).toNat) (c := c0) hC34 (by omega) hroom34
                                    obtain ⟨A34, hA34⟩ : ∃ A1, A1 = (if c0 = ((ji19) : Int).toNat then A0 else (A0 : Option Addr).map (·.add (((ji19) : Int).toNat * 7))) := ⟨_, rfl⟩
                                    obtain ⟨c34, hc34⟩ : ∃ c1, c1 = c0 - ((ji19) : Int).toNat := ⟨_, rfl⟩
                                    have hy34 : y222.length = l0.length - ((ji19) : Int).toNat := (by rw [Ny222.out, List.length_drop] <;> omega)
                                    rw [show (l0).drop ((ji19) : Int).toNat = y222 from Ny222.out.symm] at hr34
                                    replace hr34 : Kd.C k26 _ A34 y222.length y222 := (by rw [hA34]; exact hr34)
                                    rw [← hy34, ← hA34, ← hc34] at hcut34
                                    have HR225 := Aside0.mk hr34
                                    have HC225 := Aside0.mk (show y222.length ≤ c34 from by rw [hy34, hc34]; exact Nat.sub_le_sub_right hroom34 _)
                                    clear hr34 hC34 hroom34 hi034 hsz34 hc34
                                    have KY34 := Aside0.mk hy34
                                    have KA34 := Aside0.mk hA34
                                    clear hy34 hA34
                                    replace q34 := eq_true q34
                                    refine start_ (n := 10) (S := fun w' => True) (ds := []) #[false, false, false, false, false, false, false, false, false, false] (by kernel_rfl) rfl rfl trivial (fun hHeld => ?_); refine with_tabW fuseelaw09_DemandLess.tab4 fuseelaw09_DemandLess.bits4 (fun HT_ HW_ => ?_)
                                    generalize w31.drew = w32 at HB HR218 HR225 hHeld ⊢
                                    refine pure_ (i := 0) (N := some 37) (v := ?_) (a' := ?_) #[true, false, false, false, false, false, false, false, false, false] rfl rfl (any_of HT_.out (by kernel_rfl)) (fun _ _ _ h => h) (Or.inl ⟨by rfl, ?_⟩) ?_ ?_
                                    rotate_left; focus (intro w'; go_simp; with_reducible rfl)
                                    rotate_left; focus (simp only [Act.put, List.setIfInBounds_toArray, List.set_cons_zero, List.set_cons_succ, i64_w, i32_w]; rfl)
                                    refine pure_ (i := 1) (N := some 38) (v := ?_) (a' := ?_) #[true, true, false, false, false, false, false, false, false, false] rfl rfl (any_of HT_.out (by kernel_rfl)) (fun _ _ _ h => h) (Or.inl ⟨by rfl, ?_⟩) ?_ ?_
                                    rotate_left; focus (intro w'; go_simp; with_reducible rfl)
                                    rotate_left; focus (simp only [Act.put, List.setIfInBounds_toArray, List.set_cons_zero, List.set_cons_succ, i64_w, i32_w]; rfl)
                                    refine pure_ (i := 2) (N := some 39) (v := ?_) (a' := ?_) #[true, true, true, false, false, false, false, false, false, false] rfl rfl (any_of HT_.out (by kernel_rfl)) (fun _ _ _ h => h) (Or.inl ⟨by rfl, ?_⟩) ?_ ?_
                                    rotate_left; focus (intro w'; go_simp; with_reducible rfl)
                                    rotate_left; focus (simp only [Act.put, List.setIfInBounds_toArray, List.set_cons_zero, List.set_cons_succ, i64_w, i32_w]; rfl)
                                    refine pure_ (i := 4) (N := some 41) (v := ?_) (a' := ?_) #[true, true, true, false, true, false, false, false, false, false] rfl rfl (any_of HT_.out (by kernel_rfl)) (fun _ _ _ h => h) (Or.inl ⟨by rfl, ?_⟩) ?_ ?_
                                    rotate_left; focus (intro w'; go_simp; with_reducible rfl)
                                    rotate_left; focus (simp only [Act.put, List.setIfInBounds_toArray, List.set_cons_zero, List.set_cons_succ, i64_w, i32_w]; rfl)
                                    refine pure_ (i := 5) (N := some 42) (v := ?_) (a' := ?_) #[true, true, true, false, true, true, false, false, false, false] rfl rfl (any_of HT_.out (by kernel_rfl)) (fun _ _ _ h => h) (Or.inl ⟨by rfl, ?_⟩) ?_ ?_
                                    rotate_left; focus (intro w'; go_simp; with_reducible rfl)
                                    rotate_left; focus (simp only [Act.put, List.setIfInBounds_toArray, List.set_cons_zero, List.set_cons_succ, i64_w, i32_w]; rfl)
                                    refine pure_ (i := 6) (N := some 43) (v := ?_) (a' := ?_) #[true, true, true, false, true, true, true, false, false, false] rfl rfl (any_of HT_.out (by kernel_rfl)) (fun _ _ _ h => h) (Or.inl ⟨by rfl, ?_⟩) ?_ ?_
                                    rotate_left; focus (intro w'; go_simp; with_reducible rfl)
                                    rotate_left; focus (simp only [Act.put, List.setIfInBounds_toArray, List.set_cons_zero, List.set_cons_succ, i64_w, i32_w]; rfl)
                                    refine pure_ (i := 7) (N := some 44) (v := ?_) (a' := ?_) #[true, true, true, false, true, true, true, true, false, false] rfl rfl (any_of HT_.out (by kernel_rfl)) (fun _ _ _ h => h) (Or.inl ⟨by rfl, ?_⟩) ?_ ?_
                                    rotate_left; focus (intro w'; go_simp; with_reducible rfl)
                                    rotate_left; focus (simp only [Act.put, List.setIfInBounds_toArray, List.set_cons_zero, List.set_cons_succ, i64_w, i32_w]; rfl)
                                    refine one_ (i := 3) (N := some 40) #[true, true, true, true, true, true, true, true, false, false] rfl rfl (one_of HT_.out (by kernel_rfl)) (by decide) (fun K hK => ?_)
                                    refine Kd.R_append_rows_step k26 (w0 := w) w.heap.size (by rfl) (.const (.slice none 0 0)) (.tmp 39) 22 26 (.agg #[(.int .i64 0), (.int .i64 0), (.int .i64 0), (.int .i64 0), (.int .i64 0), (.int .i64 0), (.int .i64 0)]) 56 rfl Try.underlying22 info26 rfl (by decide) (by omega) (.slice none 0 0) ([] : List (S26)) y215 _ _ _ (fun _ => True) (fun _ => False) rfl rfl ?aO ?aR (fun _ _ h => h) (fun _ h => h.elim) ?aF ?aB ?aS ?aL ?_
                                    (case aR => repeat (first | exact (Kd.C_below HR218.out HB.out) | (with_reducible refine Kd.C_alloc ?_ _) | (with_reducible refine Kd.C_drewN ?_ _) | (with_reducible refine Kd.C_drew ?_)))
                                    (case aB => exact (by repeat (first | (with_reducible first | exact HB.out | apply below_alloc | apply pw_below_drewN | apply below_drew1) | exact HB.out)))
                                    (case aF => exact (fun _ _ => trivial))
                                    (case aO => exact ((Kd.R_nil _ _ _ _ (fun _ => True))))
                                    (case aS => exact (below_size (by repeat (first | (with_reducible first | exact HB.out | apply below_alloc | apply pw_below_drewN | apply below_drew1) | exact HB.out))))
                                    (case aL => have := LMc18.out; omega)
                                    intro v220 w35 ho hb hg hat
                                    rw [← Ny219.out] at ho
                                    have n0_ := Aside0.mk (hb)
                                    have n1_ := Aside0.mk (ho)
                                    clear HB
                                    have HB := n0_
                                    have HO221 := n1_
                                    clear n0_ n1_
                                    clear ho hb hg hat
                                    refine hK.out _ _ trivial (fun hHeld => ?_)
                                    clear hK K
                                    refine norm_ (a' := ?_) ?_ ?_
                                    rotate_left
                                    · show Act.put _ (some 40) _ = _
                                      simp only [Act.put, List.setIfInBounds_toArray, List.set_cons_zero, List.set_cons_succ, i64_w, i32_w]
                                      rfl
                                    refine one_ (i := 8) (N := some 45) #[true, true, true, true, true, true, true, true, true, false] rfl rfl (one_of HT_.out (by kernel_rfl)) (by decide) (fun K hK => ?_)
                                    refine Kd.R_append_rows_step k26 (w0 := w) w.heap.size (by rfl) (.tmp 40) (.tmp 44) 22 26 (.agg #[(.int .i64 0), (.int .i64 0), (.int .i64 0), (.int .i64 0), (.int .i64 0), (.int .i64 0), (.int .i64 0)]) 56 rfl Try.underlying22 info26 rfl (by decide) (by omega) v220 y219 y222 _ _ _ (fun _ => True) (fun _ => False) rfl rfl ?aO ?aR (fun _ _ h => h) (fun _ h => h.elim) ?aF ?aB ?aS ?aL ?_
                                    (case aR => repeat (first | exact (Kd.C_below HR225.out HB.out) | (with_reducible refine Kd.C_alloc ?_ _) | (with_reducible refine Kd.C_drewN ?_ _) | (with_reducible refine Kd.C_drew ?_)))
                                    (case aB => exact (by repeat (first | (with_reducible first | exact HB.out | apply below_alloc | apply pw_below_drewN | apply below_drew1) | exact HB.out)))
                                    (case aF => exact (fun _ _ => trivial))
                                    (case aO => exact (by (with_reducible repeat (first | apply Kd.R_alloc | apply Kd.R_drewN | apply Kd.R_drew)); exact HO221.out))
                                    (case aS => exact (below_size (by repeat (first | (with_reducible first | exact HB.out | apply below_alloc | apply pw_below_drewN | apply below_drew1) | exact HB.out))))
                                    (case aL => have := LMc22.out; omega)
                                    intro v227 w36 ho hb hg hat
                                    rw [← Ny226.out] at ho
                                    have n0_ := Aside0.mk (hb)
                                    have n1_ := Aside0.mk (ho)
                                    clear HB
                                    clear HO221
                                    have HB := n0_
                                    have HO228 := n1_
                                    clear n0_ n1_
                                    clear ho hb hg hat
                                    refine hK.out _ _ trivial (fun hHeld => ?_)
                                    clear hK K
                                    refine norm_ (a' := ?_) ?_ ?_
                                    rotate_left
                                    · show Act.put _ (some 45) _ = _
                                      simp only [Act.put, List.setIfInBounds_toArray, List.set_cons_zero, List.set_cons_succ, i64_w, i32_w]
                                      rfl
                                    refine pure_ (i := 9) (N := some 8) (v := ?_) (a' := ?_) #[true, true, true, true, true, true, true, true, true, true] rfl rfl (any_of HT_.out (by kernel_rfl)) (fun _ _ _ h => h) (Or.inl ⟨by rfl, ?_⟩) ?_ ?_
                                    rotate_left; focus (intro w'; go_simp; with_reducible rfl)
                                    rotate_left; focus (simp only [Act.put, List.setIfInBounds_toArray, List.set_cons_zero, List.set_cons_succ, i64_w, i32_w]; rfl)
                                    refine done_ (done_of HT_.out (by kernel_rfl)) ?_
                                    try go_wp2_with (first | ((with_reducible refine gate_builtin (b := .append) (xs := #[.const (.slice none 0 0), .tmp 46]) rfl ?_); (try (refine gate_guard (by rfl) ?_; dsimp only)); at_builtin; refine Kd.R_append_rows k26 (w0 := w) w.heap.size rfl (.const (.slice none 0 0)) (.tmp 46) 22 26 (.agg #[(.int .i64 0), (.int .i64 0), (.int .i64 0), (.int .i64 0), (.int .i64 0), (.int .i64 0), (.int .i64 0)]) 56 rfl Try.underlying22 info26 rfl (by decide) (by omega) (.slice none 0 0) ([] : List (S26)) l0 _ _ _ (fun k_ => some k_ ≠ (v227 : Value).ownBlock) (fun _ => False) rfl rfl ?aO ?aR (fun _ _ h => h) (fun _ h => h.elim) ?aF ?aB ?aS ?aL ?_; (case aR => repeat (first | exact (Kd.C_below HR0.out HB.out) | (with_reducible refine Kd.C_alloc ?_ _) | (with_reducible refine Kd.C_drewN ?_ _) | (with_reducible refine Kd.C_drew ?_))); (case aB => exact (by repeat (first | (with_reducible first | exact HB.out | apply below_alloc | apply pw_below_drewN | apply below_drew1) | exact HB.out))); (case aF => exact (fun k_ hk => Kd.fresh' (Kd.R_lt (by (with_reducible repeat (first | apply Kd.R_alloc | apply Kd.R_drewN | apply Kd.R_drew)); exact HO228.out)) k_ hk)); (case aO => exact ((Kd.R_nil _ _ _ _ (fun k_ => some k_ ≠ (v227 : Value).ownBlock)))); (case aS => exact (below_size (by repeat (first | (with_reducible first | exact HB.out | apply below_alloc | apply pw_below_drewN | apply below_drew1) | exact HB.out)))); (case aL => have := LMc23.out; omega); intro v230 w37 ho hb hg hat; rw [← Ny229.out] at ho; have n0_ := Aside0.mk (Kd.R_after (Kd.R_apart_nil (by (with_reducible repeat (first | apply Kd.R_alloc | apply Kd.R_drewN | apply Kd.R_drew)); exact HO228.out)) hg hat); have n1_ := Aside0.mk (hb); have n2_ := Aside0.mk (ho); clear HO228; clear HB; have HO228 := n0_; have HB := n1_; have HO231 := n2_; clear n0_ n1_ n2_; clear ho hb hg hat; have p232 : 0 ≤ (a1 : Int) := of_decide_eq_true (by first | (with_reducible assumption) | assumption); have q232 : a1 < (l0.length : Int) := of_decide_eq_true (by first | (with_reducible assumption) | assumption); obtain ⟨ad232, e232, hx232_0, hx232_1, hx232_2, hx232_3, hx232_4, hx232_5, hx232_6⟩ := at_T26 HR0.out a1 p232 q232; cases e232; replace hx232_0 := (HB.out.cell (World.block_lt_of_cell? w _ hx232_0)).trans hx232_0; replace hx232_1 := (HB.out.cell (World.block_lt_of_cell? w _ hx232_1)).trans hx232_1; replace hx232_2 := (HB.out.cell (World.block_lt_of_cell? w _ hx232_2)).trans hx232_2; replace hx232_3 := (HB.out.cell (World.block_lt_of_cell? w _ hx232_3)).trans hx232_3; replace hx232_4 := (HB.out.cell (World.block_lt_of_cell? w _ hx232_4)).trans hx232_4; replace hx232_5 := (HB.out.cell (World.block_lt_of_cell? w _ hx232_5)).trans hx232_5; replace hx232_6 := (HB.out.cell (World.block_lt_of_cell? w _ hx232_6)).trans hx232_6; replace p232 := eq_true p232; replace q232 := eq_true q232; have p26 : 0 ≤ (a1 : Int) := of_decide_eq_true (by first | (with_reducible assumption) | assumption); have q26 : (a1 : Int) < ((y229.length : Int) : Int) := of_decide_eq_true (by first | (with_reducible assumption) | assumption); obtain ⟨go26, co26, eo26, gb26, gl26, cl26, HG26⟩ := Kd.R_form HO231.out (by omega); (first | cases eo26 | (injection eo26 with ea_ en_ ec_; (first | subst ea_ | (injection ea_ with ea_; subst ea_)); subst ec_; clear en_)); have GB26 := Aside0.mk gb26; have GG26 := Aside0.mk HG26; clear gb26 gl26 HG26; obtain ⟨ce26, hcl26, hM26, hcc26, hfr26⟩ := Kd.R_elem HO231.out z26 (a1 : Int) p26 q26; obtain rfl := k26_openM hM26; have hx26_0 : w37.cell? ⟨go26, (a1 : Int).toNat * 7, none⟩ = some (.int .i64 ((rd_T26 y229 a1).f0.f0)) := hcc26 0 _ rfl; have hx26_1 : w37.cell? ⟨go26, (a1 : Int).toNat * 7 + 1, none⟩ = some (.int .i64 ((rd_T26 y229 a1).f0.f1)) := hcc26 1 _ rfl; have hx26_2 : w37.cell? ⟨go26, (a1 : Int).toNat * 7 + 2, none⟩ = some (.int .i64 ((rd_T26 y229 a1).f0.f2)) := hcc26 2 _ rfl; have hx26_3 : w37.cell? ⟨go26, (a1 : Int).toNat * 7 + 3, none⟩ = some (.int .i64 ((rd_T26 y229 a1).f0.f3)) := hcc26 3 _ rfl; have hx26_4 : w37.cell? ⟨go26, (a1 : Int).toNat * 7 + 4, none⟩ = some (.int .i64 ((rd_T26 y229 a1).f0.f4)) := hcc26 4 _ rfl; have hx26_5 : w37.cell? ⟨go26, (a1 : Int).toNat * 7 + 5, none⟩ = some (.int .i64 ((rd_T26 y229 a1).f0.f5)) := hcc26 5 _ rfl; have hx26_6 : w37.cell? ⟨go26, (a1 : Int).toNat * 7 + 6, none⟩ = some (.int .i64 ((rd_T26 y229 a1).f1)) := hcc26 6 _ rfl; have hf26_0 : w37.frozen? ⟨go26, (a1 : Int).toNat * 7, none⟩ = false := hfr26 0; have hf26_1 : w37.frozen? ⟨go26, (a1 : Int).toNat * 7 + 1, none⟩ = false := hfr26 1; have hf26_2 : w37.frozen? ⟨go26, (a1 : Int).toNat * 7 + 2, none⟩ = false := hfr26 2; have hf26_3 : w37.frozen? ⟨go26, (a1 : Int).toNat * 7 + 3, none⟩ = false := hfr26 3; have hf26_4 : w37.frozen? ⟨go26, (a1 : Int).toNat * 7 + 4, none⟩ = false := hfr26 4; have hf26_5 : w37.frozen? ⟨go26, (a1 : Int).toNat * 7 + 5, none⟩ = false := hfr26 5; have hf26_6 : w37.frozen? ⟨go26, (a1 : Int).toNat * 7 + 6, none⟩ = false := hfr26 6; clear hcl26 hcc26 hfr26 hM26; replace p26 := eq_true p26; replace q26 := eq_true q26; have HX38 := Aside0.mk (show Kd.R k26 26 w37 w.heap.size (fun k_ => some k_ ≠ (v227 : Value).ownBlock) (.slice (some ⟨go26, 0, none⟩) y229.length co26) y229 from (by (with_reducible repeat (first | apply Kd.R_alloc | apply Kd.R_drewN | apply Kd.R_drew)); exact HO231.out)); obtain ⟨ce38, hcl38, hM38, hcc38, hfr38⟩ := Kd.R_elem HX38.out z26 (a1 : Int) (of_decide_eq_true (by first | (with_reducible assumption) | assumption)) (by have h_ : (a1 : Int) < ((y229.length : Int) : Int) := of_decide_eq_true (by first | (with_reducible assumption) | assumption); first | exact h_ | (have e_ := (Kd.R_reads' HO231.out).1; omega) | simpa using h_); obtain rfl := k26_openM hM38; have HP38 := Kd.R_seg HX38.out (a1 : Int) (of_decide_eq_true (by first | (with_reducible assumption) | assumption)) (by have h_ : (a1 : Int) < ((y229.length : Int) : Int) := of_decide_eq_true (by first | (with_reducible assumption) | assumption); first | exact h_ | (have e_ := (Kd.R_reads' HO231.out).1; omega) | simpa using h_) (seg := [.int .i64 (wrap64 (((rd_T26 l0 a1).f1) + a2))]) (j := 6) hcl38 hcc38 (show 7 ≤ 7 from by decide) (x' := (⟨(⟨(rd_T26 y229 a1).f0.f0, (rd_T26 y229 a1).f0.f1, (rd_T26 y229 a1).f0.f2, (rd_T26 y229 a1).f0.f3, (rd_T26 y229 a1).f0.f4, (rd_T26 y229 a1).f0.f5⟩ : S24), wrap64 (((rd_T26 l0 a1).f1) + a2)⟩ : S26)) (k26_mkM _ _ _ (⟨(⟨(rd_T26 y229 a1).f0.f0, (rd_T26 y229 a1).f0.f1, (rd_T26 y229 a1).f0.f2, (rd_T26 y229 a1).f0.f3, (rd_T26 y229 a1).f0.f4, (rd_T26 y229 a1).f0.f5⟩ : S24), wrap64 (((rd_T26 l0 a1).f1) + a2)⟩ : S26) ) (fun _ hk => hk); have hx38_6 := hcc38 6 _ rfl; (try simp only [show (k26).sz = 7 from rfl, Nat.mul_one, Nat.add_zero] at hx38_6); have hf38_6 := hfr38 6; (try simp only [show (k26).sz = 7 from rfl, Nat.mul_one, Nat.add_zero] at hf38_6); clear hcl38 hcc38 hfr38 hM38) | ((with_reducible refine gate_store (t := 3) (p := 58) rfl ?_); refine store_event (t := 3) (p := 58) (v := ?vo_w39) (w1 := (w37.setCell ⟨go26, (a1 : Int).toNat * 7 + 6, none⟩ (.int .i64 (wrap64 (((rd_T26 l0 a1).f1) + a2))))) ?hg ?ho ?hn ?hr ?_; (case ho => rfl); (case hg => rfl); (case hn => rfl); (case hr => first | (go_simp; done) | (go_simp; rfl)); intro w39 hw; have hg : w37.grownBy w39 (some go26) := (by rw [hw]; exact HP38.2); have hp_ : Kd.R k26 26 w39 w.heap.size (fun k_ => some k_ ≠ (v227 : Value).ownBlock) (.slice (some ⟨go26, 0, none⟩) y229.length co26) y233 := (by rw [hw, Ny233.out]; exact HP38.1); clear HP38; have n0_ := Aside0.mk (Kd.R_after (v := (.slice (some ⟨go26, 0, none⟩) y229.length co26)) (v1 := (.slice (some ⟨go26, 0, none⟩) y229.length co26)) (ok := (fun _ => True)) (by (with_reducible repeat (first | apply Kd.R_alloc | apply Kd.R_drewN | apply Kd.R_drew)); exact HO228.out) hg (.inl rfl)); have n1_ := Aside0.mk (hp_); have n2_ := Aside0.mk ((by rw [hw]; exact below_set (HB.out) GB26.out : Below w.heap.size w w39)); clear HO228; clear HO231; clear HB; have HO228 := n0_; have HO231 := n1_; have HB := n2_; clear n0_ n1_ n2_; clear hg hw hp_))
                                    have n0_ := Aside0.mk (Kd.R_drew HO228.out)
                                    have n1_ := Aside0.mk (Kd.R_drew HO231.out)
                                    have n2_ := Aside0.mk (below_drew1 HB.out)
                                    clear HO228
                                    clear HO231
                                    clear HB
                                    have HO228 := n0_
                                    have HO231 := n1_
                                    have HB := n2_
                                    clear n0_ n1_ n2_
                                    obtain ⟨Ao41, co41, eo41⟩ := Kd.R_slice HO228.out
                                    (first | subst eo41 | (injection eo41 with f1_ f2_ f3_; have f4_ := f1_.symm; have f5_ := f3_.symm; clear f1_ f2_ f3_; subst f4_; subst f5_))
                                    have p235 : 0 ≤ (a1 : Int) := of_decide_eq_true (by first | (with_reducible assumption) | assumption)
                                    have q235 : a1 < (y233.length : Int) := (by have h_ : (a1 : Int) < ((y229.length : Int) : Int) := of_decide_eq_true (by first | (with_reducible assumption) | assumption); first | (have e_ := (Kd.R_reads' HO231.out).1; omega) | simpa only [Ny233.out, List.length_set] using h_)
                                    have ql235 : ((a1 : Int) < ((y229.length : Int) : Int)) = True := eq_true (of_decide_eq_true (by first | (with_reducible assumption) | assumption))
                                    obtain ⟨ad235, e235, hx235_0, hx235_1, hx235_2, hx235_3, hx235_4, hx235_5, hx235_6⟩ := at_T26 (Kd.R_reads' HO231.out).2.2 a1 p235 q235
                                    obtain rfl : (⟨go26, 0, none⟩ : Addr) = ad235 := (by injection e235)
                                    (first | simp only [add_plain] at hx235_0 | simp only [add_at] at hx235_0 | simp only [Addr.add, Nat.zero_add] at hx235_0 | skip)
                                    (first | simp only [add_plain] at hx235_1 | simp only [add_at] at hx235_1 | simp only [Addr.add, Nat.zero_add] at hx235_1 | skip)
                                    (first | simp only [add_plain] at hx235_2 | simp only [add_at] at hx235_2 | simp only [Addr.add, Nat.zero_add] at hx235_2 | skip)
                                    (first | simp only [add_plain] at hx235_3 | simp only [add_at] at hx235_3 | simp only [Addr.add, Nat.zero_add] at hx235_3 | skip)
                                    (first | simp only [add_plain] at hx235_4 | simp only [add_at] at hx235_4 | simp only [Addr.add, Nat.zero_add] at hx235_4 | skip)
                                    (first | simp only [add_plain] at hx235_5 | simp only [add_at] at hx235_5 | simp only [Addr.add, Nat.zero_add] at hx235_5 | skip)
                                    (first | simp only [add_plain] at hx235_6 | simp only [add_at] at hx235_6 | simp only [Addr.add, Nat.zero_add] at hx235_6 | skip)
                                    replace p235 := eq_true p235
                                    replace q235 := eq_true q235
                                    have p236 : 0 ≤ (a1 : Int) := of_decide_eq_true (by first | (with_reducible assumption) | assumption)
                                    have q236 : a1 < (l0.length : Int) := of_decide_eq_true (by first | (with_reducible assumption) | assumption)
                                    obtain ⟨ad236, e236, hx236_0, hx236_1, hx236_2, hx236_3, hx236_4, hx236_5, hx236_6⟩ := at_T26 HR0.out a1 p236 q236
                                    have hw236_6 := hx236_6
                                    have hw236_5 := hx236_5
                                    have hw236_4 := hx236_4
                                    have hw236_3 := hx236_3
                                    have hw236_2 := hx236_2
                                    have hw236_1 := hx236_1
                                    have hw236_0 := hx236_0
                                    obtain rfl : ad232 = ad236 := (by injection e236)
                                    replace hx236_0 := (HB.out.cell (World.block_lt_of_cell? w _ hx236_0)).trans hx236_0
                                    replace hx236_1 := (HB.out.cell (World.block_lt_of_cell? w _ hx236_1)).trans hx236_1
                                    replace hx236_2 := (HB.out.cell (World.block_lt_of_cell? w _ hx236_2)).trans hx236_2
                                    replace hx236_3 := (HB.out.cell (World.block_lt_of_cell? w _ hx236_3)).trans hx236_3
                                    replace hx236_4 := (HB.out.cell (World.block_lt_of_cell? w _ hx236_4)).trans hx236_4
                                    replace hx236_5 := (HB.out.cell (World.block_lt_of_cell? w _ hx236_5)).trans hx236_5
                                    replace hx236_6 := (HB.out.cell (World.block_lt_of_cell? w _ hx236_6)).trans hx236_6
                                    replace p236 := eq_true p236
                                    replace q236 := eq_true q236
                                    refine start_ (n := 21) (S := fun w' => w'.cell? ⟨go26, (a1).toNat * 7, none⟩ = some (.int .i64 ((rd_T26 y233 a1).f0.f0)) ∧ w'.cell? ⟨go26, (a1).toNat * 7 + 1, none⟩ = some (.int .i64 ((rd_T26 y233 a1).f0.f1)) ∧ w'.cell? ⟨go26, (a1).toNat * 7 + 2, none⟩ = some (.int .i64 ((rd_T26 y233 a1).f0.f2)) ∧ w'.cell? ⟨go26, (a1).toNat * 7 + 3, none⟩ = some (.int .i64 ((rd_T26 y233 a1).f0.f3)) ∧ w'.cell? ⟨go26, (a1).toNat * 7 + 4, none⟩ = some (.int .i64 ((rd_T26 y233 a1).f0.f4)) ∧ w'.cell? ⟨go26, (a1).toNat * 7 + 5, none⟩ = some (.int .i64 ((rd_T26 y233 a1).f0.f5)) ∧ w'.cell? ⟨go26, (a1).toNat * 7 + 6, none⟩ = some (.int .i64 ((rd_T26 y233 a1).f1)) ∧ w'.cell? (ad232.add ((a1).toNat * 7)) = some (.int .i64 ((rd_T26 l0 a1).f0.f0)) ∧ w'.cell? ⟨(ad232.add ((a1).toNat * 7)).block, (ad232.add ((a1).toNat * 7)).off + 1, none⟩ = some (.int .i64 ((rd_T26 l0 a1).f0.f1)) ∧ w'.cell? ⟨(ad232.add ((a1).toNat * 7)).block, (ad232.add ((a1).toNat * 7)).off + 2, none⟩ = some (.int .i64 ((rd_T26 l0 a1).f0.f2)) ∧ w'.cell? ⟨(ad232.add ((a1).toNat * 7)).block, (ad232.add ((a1).toNat * 7)).off + 3, none⟩ = some (.int .i64 ((rd_T26 l0 a1).f0.f3)) ∧ w'.cell? ⟨(ad232.add ((a1).toNat * 7)).block, (ad232.add ((a1).toNat * 7)).off + 4, none⟩ = some (.int .i64 ((rd_T26 l0 a1).f0.f4)) ∧ w'.cell? ⟨(ad232.add ((a1).toNat * 7)).block, (ad232.add ((a1).toNat * 7)).off + 5, none⟩ = some (.int .i64 ((rd_T26 l0 a1).f0.f5)) ∧ w'.cell? ⟨(ad232.add ((a1).toNat * 7)).block, (ad232.add ((a1).toNat * 7)).off + 6, none⟩ = some (.int .i64 ((rd_T26 l0 a1).f1))) (ds := []) #[false, false, false, false, false, false, false, false, false, false, false, false, false, false, false, false, false, false, false, false, false] (by kernel_rfl) rfl rfl ⟨hx235_0, hx235_1, hx235_2, hx235_3, hx235_4, hx235_5, hx235_6, ((HB.out.cell (World.block_lt_of_cell? w _ hw236_0)).trans hw236_0), ((HB.out.cell (World.block_lt_of_cell? w _ hw236_1)).trans hw236_1), ((HB.out.cell (World.block_lt_of_cell? w _ hw236_2)).trans hw236_2), ((HB.out.cell (World.block_lt_of_cell? w _ hw236_3)).trans hw236_3), ((HB.out.cell (World.block_lt_of_cell? w _ hw236_4)).trans hw236_4), ((HB.out.cell (World.block_lt_of_cell? w _ hw236_5)).trans hw236_5), ((HB.out.cell (World.block_lt_of_cell? w _ hw236_6)).trans hw236_6)⟩ (fun hHeld => ?_); refine with_tabW fuseelaw09_DemandLess.tab7 fuseelaw09_DemandLess.bits7 (fun HT_ HW_ => ?_)
                                    generalize w39.drew = w40 at HO228 HO231 HB hx235_0 hx235_1 hx235_2 hx235_3 hx235_4 hx235_5 hx235_6 hx236_0 hx236_1 hx236_2 hx236_3 hx236_4 hx236_5 hx236_6 hHeld ⊢
                                    refine pure_ (i := 0) (N := some 59) (v := ?_) (a' := ?_) #[true, false, false, false, false, false, false, false, false, false, false, false, false, false, false, false, false, false, false, false, false] rfl rfl (any_of HT_.out (by kernel_rfl)) (fun _ _ _ h => h) (Or.inl ⟨by rfl, ?_⟩) ?_ ?_
                                    rotate_left; focus (intro w'; go_simp; with_reducible rfl)
                                    rotate_left; focus (simp only [Act.put, List.setIfInBounds_toArray, List.set_cons_zero, List.set_cons_succ, i64_w, i32_w]; rfl)
                                    refine one_ (i := 1) (N := some 60) #[true, true, false, false, false, false, false, false, false, false, false, false, false, false, false, false, false, false, false, false, false] rfl rfl (one_of HT_.out (by kernel_rfl)) (by decide) (fun K hK => ?_)
                                    refine goes_ Try.func15 (by kernel_rfl) rfl #[.slice Ao41 y226.length co41] (by rfl) rfl rfl (by (try simp only [List.map_toArray, List.map_cons, List.map_nil]); first | done | rfl | (simp only [List.length_drop, List.length_take]; rfl)) ?_
                                    with_reducible refine (demand_Test.calls k _ _ y226 true _ ?side1 ?side2 A27.out).mono ?_
                                    (case side1 => repeat (first | exact (Kd.R_reads' HO228.out).2.2 | (with_reducible refine Kd.C_alloc ?_ _) | (with_reducible refine Kd.C_drewN ?_ _) | (with_reducible refine Kd.C_drew ?_)))
                                    (case side2 => exact (Kd.R_reads' HO228.out).2.1)
                                    rintro e w42 ⟨rfl, hb⟩
                                    have HS0_ := (hb.cell (World.block_lt_of_cell? _ _ (hHeld.1))).trans (hHeld.1)
                                    have HS1_ := (hb.cell (World.block_lt_of_cell? _ _ (hHeld.2.1))).trans (hHeld.2.1)
                                    have HS2_ := (hb.cell (World.block_lt_of_cell? _ _ (hHeld.2.2.1))).trans (hHeld.2.2.1)
                                    have HS3_ := (hb.cell (World.block_lt_of_cell? _ _ (hHeld.2.2.2.1))).trans (hHeld.2.2.2.1)
                                    have HS4_ := (hb.cell (World.block_lt_of_cell? _ _ (hHeld.2.2.2.2.1))).trans (hHeld.2.2.2.2.1)
                                    have HS5_ := (hb.cell (World.block_lt_of_cell? _ _ (hHeld.2.2.2.2.2.1))).trans (hHeld.2.2.2.2.2.1)
                                    have HS6_ := (hb.cell (World.block_lt_of_cell? _ _ (hHeld.2.2.2.2.2.2.1))).trans (hHeld.2.2.2.2.2.2.1)
                                    refine ⟨_, rfl, ?_⟩
                                    have n0_ := Aside0.mk (Kd.R_below (by (with_reducible repeat (first | apply Kd.R_alloc | apply Kd.R_drewN | apply Kd.R_drew)); exact HO228.out) hb)
                                    have n1_ := Aside0.mk (Kd.R_below (by (with_reducible repeat (first | apply Kd.R_alloc | apply Kd.R_drewN | apply Kd.R_drew)); exact HO231.out) hb)
                                    have n2_ := bs HB hb
                                    clear HO228
                                    clear HO231
                                    clear HB
                                    have HO228 := n0_
                                    have HO231 := n1_
                                    have HB := n2_
                                    clear n0_ n1_ n2_
                                    (try clear hb)
                                    (try clear hb2)
                                    (try clear hk)
                                    (try clear hi)
                                    refine hK.out _ _ ⟨HS0_, HS1_, HS2_, HS3_, HS4_, HS5_, HS6_, ((HB.out.cell (World.block_lt_of_cell? w _ hw236_0)).trans hw236_0), ((HB.out.cell (World.block_lt_of_cell? w _ hw236_1)).trans hw236_1), ((HB.out.cell (World.block_lt_of_cell? w _ hw236_2)).trans hw236_2), ((HB.out.cell (World.block_lt_of_cell? w _ hw236_3)).trans hw236_3), ((HB.out.cell (World.block_lt_of_cell? w _ hw236_4)).trans hw236_4), ((HB.out.cell (World.block_lt_of_cell? w _ hw236_5)).trans hw236_5), ((HB.out.cell (World.block_lt_of_cell? w _ hw236_6)).trans hw236_6)⟩ (fun hHeld => ?_)
                                    clear hK K
                                    refine norm_ (a' := ?_) ?_ ?_
                                    rotate_left
                                    · show Act.put _ (some 60) _ = _
                                      simp only [Act.put, List.setIfInBounds_toArray, List.set_cons_zero, List.set_cons_succ, i64_w, i32_w]
                                      rfl
                                    refine pure_ (i := 2) (N := some 61) (v := ?_) (a' := ?_) #[true, true, true, false, false, false, false, false, false, false, false, false, false, false, false, false, false, false, false, false, false] rfl rfl (any_of HT_.out (by kernel_rfl)) (fun _ _ _ h => h) (Or.inl ⟨by rfl, ?_⟩) ?_ ?_
                                    rotate_left; focus (intro w'; go_simp; with_reducible rfl)
                                    rotate_left; focus (simp only [Act.put, List.setIfInBounds_toArray, List.set_cons_zero, List.set_cons_succ, i64_w, i32_w]; rfl)
                                    refine pure_ (i := 3) (N := some 62) (v := ?_) (a' := ?_) #[true, true, true, true, false, false, false, false, false, false, false, false, false, false, false, false, false, false, false, false, false] rfl rfl (any_of HT_.out (by kernel_rfl)) (fun _ _ _ h => h) (Or.inl ⟨by rfl, ?_⟩) ?_ ?_
                                    rotate_left; focus (intro w'; go_simp; with_reducible rfl)
                                    rotate_left; focus (simp only [Act.put, List.setIfInBounds_toArray, List.set_cons_zero, List.set_cons_succ, i64_w, i32_w]; rfl)
                                    refine pure_ (i := 4) (N := some 63) (v := ?_) (a' := ?_) #[true, true, true, true, true, false, false, false, false, false, false, false, false, false, false, false, false, false, false, false, false] rfl rfl (any_of HT_.out (by kernel_rfl)) (fun _ _ _ h => h) (Or.inl ⟨by rfl, ?_⟩) ?_ ?_
                                    rotate_left; focus (intro w'; go_simp; with_reducible rfl)
                                    rotate_left; focus (simp only [Act.put, List.setIfInBounds_toArray, List.set_cons_zero, List.set_cons_succ, i64_w, i32_w]; rfl)
                                    refine pure_ (i := 5) (N := some 64) (v := ?_) (a' := ?_) #[true, true, true, true, true, true, false, false, false, false, false, false, false, false, false, false, false, false, false, false, false] rfl rfl (any_of HT_.out (by kernel_rfl)) (fun _ _ _ h => h) (Or.inl ⟨by rfl, ?_⟩) ?_ ?_
                                    rotate_left; focus (intro w'; go_simp; with_reducible rfl)
                                    rotate_left; focus (simp only [Act.put, List.setIfInBounds_toArray, List.set_cons_zero, List.set_cons_succ, i64_w, i32_w]; rfl)
                                    refine pure_ (i := 6) (N := some 65) (v := ?_) (a' := ?_) #[true, true, true, true, true, true, true, false, false, false, false, false, false, false, false, false, false, false, false, false, false] rfl rfl (any_of HT_.out (by kernel_rfl)) (fun _ _ _ h => h) (Or.inl ⟨by rfl, ?_⟩) ?_ ?_
                                    rotate_left; focus (intro w'; go_simp; with_reducible rfl)
                                    rotate_left; focus (simp only [Act.put, List.setIfInBounds_toArray, List.set_cons_zero, List.set_cons_succ, i64_w, i32_w]; rfl)
                                    refine pure_ (i := 8) (N := some 67) (v := ?_) (a' := ?_) #[true, true, true, true, true, true, true, false, true, false, false, false, false, false, false, false, false, false, false, false, false] rfl rfl (any_of HT_.out (by kernel_rfl)) (fun _ _ _ h => h) (Or.inl ⟨by rfl, ?_⟩) ?_ ?_
                                    rotate_left; focus (intro w'; go_simp; with_reducible rfl)
                                    rotate_left; focus (simp only [Act.put, List.setIfInBounds_toArray, List.set_cons_zero, List.set_cons_succ, i64_w, i32_w]; rfl)
                                    refine pure_ (i := 9) (N := some 68) (v := ?_) (a' := ?_) #[true, true, true, true, true, true, true, false, true, true, false, false, false, false, false, false, false, false, false, false, false] rfl rfl (any_of HT_.out (by kernel_rfl)) (fun _ _ _ h => h) (Or.inl ⟨by rfl, ?_⟩) ?_ ?_
                                    rotate_left; focus (intro w'; go_simp; with_reducible rfl)
                                    rotate_left; focus (simp only [Act.put, List.setIfInBounds_toArray, List.set_cons_zero, List.set_cons_succ, i64_w, i32_w]; rfl)
                                    refine pure_ (i := 10) (N := some 69) (v := ?_) (a' := ?_) #[true, true, true, true, true, true, true, false, true, true, true, false, false, false, false, false, false, false, false, false, false] rfl rfl (any_of HT_.out (by kernel_rfl)) (fun _ _ _ h => h) (Or.inl ⟨by rfl, ?_⟩) ?_ ?_
                                    rotate_left; focus (intro w'; go_simp; with_reducible rfl)
                                    rotate_left; focus (simp only [Act.put, List.setIfInBounds_toArray, List.set_cons_zero, List.set_cons_succ, i64_w, i32_w]; rfl)
                                    refine pure_ (i := 11) (N := some 70) (v := ?_) (a' := ?_) #[true, true, true, true, true, true, true, false, true, true, true, true, false, false, false, false, false, false, false, false, false] rfl rfl (any_of HT_.out (by kernel_rfl)) (fun _ _ _ h => h) (Or.inl ⟨by rfl, ?_⟩) ?_ ?_
                                    rotate_left; focus (intro w'; go_simp; with_reducible rfl)
                                    rotate_left; focus (simp only [Act.put, List.setIfInBounds_toArray, List.set_cons_zero, List.set_cons_succ, i64_w, i32_w]; rfl)
                                    refine pure_ (i := 12) (N := some 71) (v := ?_) (a' := ?_) #[true, true, true, true, true, true, true, false, true, true, true, true, true, false, false, false, false, false, false, false, false] rfl rfl (any_of HT_.out (by kernel_rfl)) (fun _ _ _ h => h) (Or.inl ⟨by rfl, ?_⟩) ?_ ?_
                                    rotate_left; focus (intro w'; go_simp; with_reducible rfl)
                                    rotate_left; focus (simp only [Act.put, List.setIfInBounds_toArray, List.set_cons_zero, List.set_cons_succ, i64_w, i32_w]; rfl)
                                    refine take_ (i := 7) (N := some 66) (v := ?_) (a' := ?_) #[true, true, true, true, true, true, true, true, true, true, true, true, true, false, false, false, false, false, false, false, false] rfl rfl (take_ofW HT_.out HW_.out (by kernel_rfl)) (fun _ _ _ h => h) (Or.inl ⟨by rfl, ?_⟩) hHeld ?_ ?_
                                    rotate_left
                                    · rintro w' ⟨s0, s1, s2, s3, s4, s5, s6, s7, s8, s9, s10, s11, s12, s13⟩
                                      go_simp
                                      with_reducible rfl
                                    rotate_left; focus (simp only [Act.put, List.setIfInBounds_toArray, List.set_cons_zero, List.set_cons_succ, i64_w, i32_w]; rfl)
                                    refine take_ (i := 13) (N := some 72) (v := ?_) (a' := ?_) #[true, true, true, true, true, true, true, true, true, true, true, true, true, true, false, false, false, false, false, false, false] rfl rfl (take_ofW HT_.out HW_.out (by kernel_rfl)) (fun _ _ _ h => h) (Or.inl ⟨by rfl, ?_⟩) hHeld ?_ ?_
                                    rotate_left
                                    · rintro w' ⟨s0, s1, s2, s3, s4, s5, s6, s7, s8, s9, s10, s11, s12, s13⟩
                                      go_simp
                                      with_reducible rfl
                                    rotate_left; focus (simp only [Act.put, List.setIfInBounds_toArray, List.set_cons_zero, List.set_cons_succ, i64_w, i32_w]; rfl)
                                    refine pure_ (i := 14) (N := some 73) (v := ?_) (a' := ?_) #[true, true, true, true, true, true, true, true, true, true, true, true, true, true, true, false, false, false, false, false, false] rfl rfl (any_of HT_.out (by kernel_rfl)) (fun _ _ _ h => h) (Or.inl ⟨by rfl, ?_⟩) ?_ ?_
                                    rotate_left; focus (intro w'; go_simp; with_reducible rfl)
                                    rotate_left; focus (simp only [Act.put, List.setIfInBounds_toArray, List.set_cons_zero, List.set_cons_succ, i64_w, i32_w]; rfl)
                                    refine pure_ (i := 15) (N := some 74) (v := ?_) (a' := ?_) #[true, true, true, true, true, true, true, true, true, true, true, true, true, true, true, true, false, false, false, false, false] rfl rfl (any_of HT_.out (by kernel_rfl)) (fun _ _ _ h => h) (Or.inl ⟨by rfl, ?_⟩) ?_ ?_
                                    rotate_left; focus (intro w'; go_simp; with_reducible rfl)
                                    rotate_left; focus (simp only [Act.put, List.setIfInBounds_toArray, List.set_cons_zero, List.set_cons_succ, i64_w, i32_w]; rfl)
                                    refine pure_ (i := 16) (N := some 75) (v := undef) (a' := ?_) #[true, true, true, true, true, true, true, true, true, true, true, true, true, true, true, true, true, false, false, false, false] rfl rfl (any_of HT_.out (by kernel_rfl)) (fun _ _ _ h => h) (Or.inr ⟨by rfl, rfl⟩) ?_ ?_
                                    rotate_left; focus (simp only [Act.put, List.setIfInBounds_toArray, List.set_cons_zero, List.set_cons_succ, i64_w, i32_w]; rfl)
                                    refine pure_ (i := 17) (N := some 76) (v := undef) (a' := ?_) #[true, true, true, true, true, true, true, true, true, true, true, true, true, true, true, true, true, true, false, false, false] rfl rfl (any_of HT_.out (by kernel_rfl)) (fun _ _ _ h => h) (Or.inr ⟨by rfl, rfl⟩) ?_ ?_
                                    rotate_left; focus (simp only [Act.put, List.setIfInBounds_toArray, List.set_cons_zero, List.set_cons_succ, i64_w, i32_w]; rfl)
                                    refine pure_ (i := 18) (N := some 77) (v := ?_) (a' := ?_) #[true, true, true, true, true, true, true, true, true, true, true, true, true, true, true, true, true, true, true, false, false] rfl rfl (any_of HT_.out (by kernel_rfl)) (fun _ _ _ h => h) (Or.inl ⟨by rfl, ?_⟩) ?_ ?_
                                    rotate_left; focus (intro w'; go_simp; with_reducible rfl)
                                    rotate_left; focus (simp only [Act.put, List.setIfInBounds_toArray, List.set_cons_zero, List.set_cons_succ, i64_w, i32_w]; rfl)
                                    refine pure_ (i := 19) (N := some 78) (v := ?_) (a' := ?_) #[true, true, true, true, true, true, true, true, true, true, true, true, true, true, true, true, true, true, true, true, false] rfl rfl (any_of HT_.out (by kernel_rfl)) (fun _ _ _ h => h) (Or.inl ⟨by rfl, ?_⟩) ?_ ?_
                                    rotate_left; focus (intro w'; go_simp; with_reducible rfl)
                                    rotate_left; focus (simp only [Act.put, List.setIfInBounds_toArray, List.set_cons_zero, List.set_cons_succ, i64_w, i32_w]; rfl)
                                    refine pure_ (i := 20) (N := some 6) (v := ?_) (a' := ?_) #[true, true, true, true, true, true, true, true, true, true, true, true, true, true, true, true, true, true, true, true, true] rfl rfl (any_of HT_.out (by kernel_rfl)) (fun _ _ _ h => h) (Or.inl ⟨by rfl, ?_⟩) ?_ ?_
                                    rotate_left; focus (intro w'; go_simp; with_reducible rfl)
                                    rotate_left; focus (simp only [Act.put, List.setIfInBounds_toArray, List.set_cons_zero, List.set_cons_succ, i64_w, i32_w]; rfl)
                                    refine done_ (done_of HT_.out (by kernel_rfl)) ?_
                                    try go_wp2
                                    go_ret
                                    exact ⟨by first | rfl | (simp [errW_none, errW_some] <;> rfl) | (simp only [← hji19]; first | rfl | (simp [errW_none, errW_some] <;> rfl)) | (simp [*, errW_none, errW_some] <;> rfl) | (exfalso; contradiction), by repeat (first | (with_reducible first | exact HB.out | apply below_alloc | apply pw_below_drewN | apply below_drew1) | exact HB.out)⟩
                                  · rw [if_neg c29] at H
                                    have c29b0 : decide (((rd_T26 l0 a1).f0.f2) < ((rd_T26 y233 a1).f1)) = false := decide_eq_false c29
                                    clear c29
                                    replace H := Option.bind_eq_some_iff.mp H
                                    obtain ⟨t237, A430, H⟩ := H
                                    try dsimp only at H
                                    have A43 := Aside0.mk A430
                                    clear A430
                                    obtain rfl := Option.some.inj H
                                    go_enter Try.func5, Try.ntmps5
                                    try go_wp2_with (first | ((with_reducible refine gate_callee (f := 10) rfl ?_); refine goesL_ (some 10) rfl rfl Try.func10 (by kernel_rfl) rfl #[] rfl (by (try simp only [List.map_toArray, List.map_cons, List.map_nil]); first | done | rfl | (simp only [List.length_drop, List.length_take]; rfl)) ?_; (with_reducible refine (fuseelaw09_awake.calls k  true _ A4.out).mono ?_); rintro e w44 ⟨rfl, hb⟩; refine ⟨_, rfl, ?_⟩; have n0_ := bs HB hb; clear HB; have HB := n0_; clear n0_; (try clear hb); (try clear hb2); (try clear hk); (try clear hi)) | (go_at_call 15; (with_reducible refine (demand_Test.calls k _ _ l0 true _ ?side1 ?side2 A14.out).mono ?_); (case side1 => repeat (first | exact (Kd.C_below HR0.out HB.out) | (with_reducible refine Kd.C_alloc ?_ _) | (with_reducible refine Kd.C_drewN ?_ _) | (with_reducible refine Kd.C_drew ?_))); (case side2 => exact HC0.out); rintro e w45 ⟨rfl, hb⟩; have n0_ := bs HB hb; clear HB; have HB := n0_; clear n0_; (try clear hb); (try clear hb2); (try clear hk); (try clear hi)))
                                    have n0_ := Aside0.mk (below_drew1 HB.out)
                                    clear HB
                                    have HB := n0_
                                    clear n0_
                                    have q47 : (a1 : Int) ≤ ((l0.length : Int) : Int) := of_decide_eq_true (by first | (with_reducible assumption) | assumption)
                                    obtain ⟨i047, hi047, _, hsz47, _⟩ := info_parts info26
                                    have hroom47 : l0.length ≤ c0 := HC0.out
                                    have hC47 : Kd.C k26 _ A0 l0.length l0 := HR0.out
                                    have hcut47 := cut_to (P := Try.prog) 22 26 .i64 Try.underlying22 hi047 A0 l0.length c0 a1 (of_decide_eq_true (by first | (with_reducible assumption) | assumption)) q47 hroom47
                                    have hr47 := Kd.C_take (m := (a1 : Int).toNat) hC47 (by omega)
                                    have hy47 : y215.length = (a1 : Int).toNat := (by rw [Ny215.out, List.length_take]; omega)
                                    rw [← Ny215.out] at hr47
                                    rw [← hy47] at hcut47
                                    have HR218 := Aside0.mk hr47
                                    have HC218 := Aside0.mk (show y215.length ≤ c0 from by omega)
                                    clear hr47 hC47 hroom47 hi047 hsz47
                                    have KY47 := Aside0.mk hy47
                                    clear hy47
                                    replace q47 := eq_true q47
                                    have q48 : ((ji19) : Int) ≤ ((l0.length : Int) : Int) := of_decide_eq_true (by first | (with_reducible assumption) | assumption)
                                    obtain ⟨i048, hi048, _, hsz48, _⟩ := info_parts info26
                                    have hroom48 : l0.length ≤ c0 := HC0.out
                                    have hC48 : Kd.C k26 _ A0 l0.length l0 := HR0.out
                                    have q048 : (0 : Int) ≤ ((ji19) : Int) := of_decide_eq_true (by first | (with_reducible assumption) | assumption)
                                    have hcut48 := cut_from (P := Try.prog) 22 26 .i64 Try.underlying22 hi048 7 hsz48 A0 l0.length c0 (ji19) q048 q48
                                    have hr48 := Kd.C_drop (m := ((ji19) : Int).toNat) (c := c0) hC48 (by omega) hroom48
                                    obtain ⟨A48, hA48⟩ : ∃ A1, A1 = (if c0 = ((ji19) : Int).toNat then A0 else (A0 : Option Addr).map (·.add (((ji19) : Int).toNat * 7))) := ⟨_, rfl⟩
                                    obtain ⟨c48, hc48⟩ : ∃ c1, c1 = c0 - ((ji19) : Int).toNat := ⟨_, rfl⟩
                                    have hy48 : y222.length = l0.length - ((ji19) : Int).toNat := (by rw [Ny222.out, List.length_drop] <;> omega)
                                    rw [show (l0).drop ((ji19) : Int).toNat = y222 from Ny222.out.symm] at hr48
                                    replace hr48 : Kd.C k26 _ A48 y222.length y222 := (by rw [hA48]; exact hr48)
                                    rw [← hy48, ← hA48, ← hc48] at hcut48
                                    have HR225 := Aside0.mk hr48
                                    have HC225 := Aside0.mk (show y222.length ≤ c48 from by rw [hy48, hc48]; exact Nat.sub_le_sub_right hroom48 _)
                                    clear hr48 hC48 hroom48 hi048 hsz48 hc48
                                    have KY48 := Aside0.mk hy48
                                    have KA48 := Aside0.mk hA48
                                    clear hy48 hA48
                                    replace q48 := eq_true q48
                                    refine start_ (n := 10) (S := fun w' => True) (ds := []) #[false, false, false, false, false, false, false, false, false, false] (by kernel_rfl) rfl rfl trivial (fun hHeld => ?_); refine with_tabW fuseelaw09_DemandLess.tab4 fuseelaw09_DemandLess.bits4 (fun HT_ HW_ => ?_)
                                    generalize w45.drew = w46 at HB HR218 HR225 hHeld ⊢
                                    refine pure_ (i := 0) (N := some 37) (v := ?_) (a' := ?_) #[true, false, false, false, false, false, false, false, false, false] rfl rfl (any_of HT_.out (by kernel_rfl)) (fun _ _ _ h => h) (Or.inl ⟨by rfl, ?_⟩) ?_ ?_
                                    rotate_left; focus (intro w'; go_simp; with_reducible rfl)
                                    rotate_left; focus (simp only [Act.put, List.setIfInBounds_toArray, List.set_cons_zero, List.set_cons_succ, i64_w, i32_w]; rfl)
                                    refine pure_ (i := 1) (N := some 38) (v := ?_) (a' := ?_) #[true, true, false, false, false, false, false, false, false, false] rfl rfl (any_of HT_.out (by kernel_rfl)) (fun _ _ _ h => h) (Or.inl ⟨by rfl, ?_⟩) ?_ ?_
                                    rotate_left; focus (intro w'; go_simp; with_reducible rfl)
                                    rotate_left; focus (simp only [Act.put, List.setIfInBounds_toArray, List.set_cons_zero, List.set_cons_succ, i64_w, i32_w]; rfl)
                                    refine pure_ (i := 2) (N := some 39) (v := ?_) (a' := ?_) #[true, true, true, false, false, false, false, false, false, false] rfl rfl (any_of HT_.out (by kernel_rfl)) (fun _ _ _ h => h) (Or.inl ⟨by rfl, ?_⟩) ?_ ?_
                                    rotate_left; focus (intro w'; go_simp; with_reducible rfl)
                                    rotate_left; focus (simp only [Act.put, List.setIfInBounds_toArray, List.set_cons_zero, List.set_cons_succ, i64_w, i32_w]; rfl)
                                    refine pure_ (i := 4) (N := some 41) (v := ?_) (a' := ?_) #[true, true, true, false, true, false, false, false, false, false] rfl rfl (any_of HT_.out (by kernel_rfl)) (fun _ _ _ h => h) (Or.inl ⟨by rfl, ?_⟩) ?_ ?_
                                    rotate_left; focus (intro w'; go_simp; with_reducible rfl)
                                    rotate_left; focus (simp only [Act.put, List.setIfInBounds_toArray, List.set_cons_zero, List.set_cons_succ, i64_w, i32_w]; rfl)
                                    refine pure_ (i := 5) (N := some 42) (v := ?_) (a' := ?_) #[true, true, true, false, true, true, false, false, false, false] rfl rfl (any_of HT_.out (by kernel_rfl)) (fun _ _ _ h => h) (Or.inl ⟨by rfl, ?_⟩) ?_ ?_
                                    rotate_left; focus (intro w'; go_simp; with_reducible rfl)
                                    rotate_left; focus (simp only [Act.put, List.setIfInBounds_toArray, List.set_cons_zero, List.set_cons_succ, i64_w, i32_w]; rfl)
                                    refine pure_ (i := 6) (N := some 43) (v := ?_) (a' := ?_) #[true, true, true, false, true, true, true, false, false, false] rfl rfl (any_of HT_.out (by kernel_rfl)) (fun _ _ _ h => h) (Or.inl ⟨by rfl, ?_⟩) ?_ ?_
                                    rotate_left; focus (intro w'; go_simp; with_reducible rfl)
                                    rotate_left; focus (simp only [Act.put, List.setIfInBounds_toArray, List.set_cons_zero, List.set_cons_succ, i64_w, i32_w]; rfl)
                                    refine pure_ (i := 7) (N := some 44) (v := ?_) (a' := ?_) #[true, true, true, false, true, true, true, true, false, false] rfl rfl (any_of HT_.out (by kernel_rfl)) (fun _ _ _ h => h) (Or.inl ⟨by rfl, ?_⟩) ?_ ?_
                                    rotate_left; focus (intro w'; go_simp; with_reducible rfl)
                                    rotate_left; focus (simp only [Act.put, List.setIfInBounds_toArray, List.set_cons_zero, List.set_cons_succ, i64_w, i32_w]; rfl)
                                    refine one_ (i := 3) (N := some 40) #[true, true, true, true, true, true, true, true, false, false] rfl rfl (one_of HT_.out (by kernel_rfl)) (by decide) (fun K hK => ?_)
                                    refine Kd.R_append_rows_step k26 (w0 := w) w.heap.size (by rfl) (.const (.slice none 0 0)) (.tmp 39) 22 26 (.agg #[(.int .i64 0), (.int .i64 0), (.int .i64 0), (.int .i64 0), (.int .i64 0), (.int .i64 0), (.int .i64 0)]) 56 rfl Try.underlying22 info26 rfl (by decide) (by omega) (.slice none 0 0) ([] : List (S26)) y215 _ _ _ (fun _ => True) (fun _ => False) rfl rfl ?aO ?aR (fun _ _ h => h) (fun _ h => h.elim) ?aF ?aB ?aS ?aL ?_
                                    (case aR => repeat (first | exact (Kd.C_below HR218.out HB.out) | (with_reducible refine Kd.C_alloc ?_ _) | (with_reducible refine Kd.C_drewN ?_ _) | (with_reducible refine Kd.C_drew ?_)))
                                    (case aB => exact (by repeat (first | (with_reducible first | exact HB.out | apply below_alloc | apply pw_below_drewN | apply below_drew1) | exact HB.out)))
                                    (case aF => exact (fun _ _ => trivial))
                                    (case aO => exact ((Kd.R_nil _ _ _ _ (fun _ => True))))
                                    (case aS => exact (below_size (by repeat (first | (with_reducible first | exact HB.out | apply below_alloc | apply pw_below_drewN | apply below_drew1) | exact HB.out))))
                                    (case aL => have := LMc18.out; omega)
                                    intro v220 w49 ho hb hg hat
                                    rw [← Ny219.out] at ho
                                    have n0_ := Aside0.mk (hb)
                                    have n1_ := Aside0.mk (ho)
                                    clear HB
                                    have HB := n0_
                                    have HO221 := n1_
                                    clear n0_ n1_
                                    clear ho hb hg hat
                                    refine hK.out _ _ trivial (fun hHeld => ?_)
                                    clear hK K
                                    refine norm_ (a' := ?_) ?_ ?_
                                    rotate_left
                                    · show Act.put _ (some 40) _ = _
                                      simp only [Act.put, List.setIfInBounds_toArray, List.set_cons_zero, List.set_cons_succ, i64_w, i32_w]
                                      rfl
                                    refine one_ (i := 8) (N := some 45) #[true, true, true, true, true, true, true, true, true, false] rfl rfl (one_of HT_.out (by kernel_rfl)) (by decide) (fun K hK => ?_)
                                    refine Kd.R_append_rows_step k26 (w0 := w) w.heap.size (by rfl) (.tmp 40) (.tmp 44) 22 26 (.agg #[(.int .i64 0), (.int .i64 0), (.int .i64 0), (.int .i64 0), (.int .i64 0), (.int .i64 0), (.int .i64 0)]) 56 rfl Try.underlying22 info26 rfl (by decide) (by omega) v220 y219 y222 _ _ _ (fun _ => True) (fun _ => False) rfl rfl ?aO ?aR (fun _ _ h => h) (fun _ h => h.elim) ?aF ?aB ?aS ?aL ?_
                                    (case aR => repeat (first | exact (Kd.C_below HR225.out HB.out) | (with_reducible refine Kd.C_alloc ?_ _) | (with_reducible refine Kd.C_drewN ?_ _) | (with_reducible refine Kd.C_drew ?_)))
                                    (case aB => exact (by repeat (first | (with_reducible first | exact HB.out | apply below_alloc | apply pw_below_drewN | apply below_drew1) | exact HB.out)))
                                    (case aF => exact (fun _ _ => trivial))
                                    (case aO => exact (by (with_reducible repeat (first | apply Kd.R_alloc | apply Kd.R_drewN | apply Kd.R_drew)); exact HO221.out))
                                    (case aS => exact (below_size (by repeat (first | (with_reducible first | exact HB.out | apply below_alloc | apply pw_below_drewN | apply below_drew1) | exact HB.out))))
                                    (case aL => have := LMc22.out; omega)
                                    intro v227 w50 ho hb hg hat
                                    rw [← Ny226.out] at ho
                                    have n0_ := Aside0.mk (hb)
                                    have n1_ := Aside0.mk (ho)
                                    clear HB
                                    clear HO221
                                    have HB := n0_
                                    have HO228 := n1_
                                    clear n0_ n1_
                                    clear ho hb hg hat
                                    refine hK.out _ _ trivial (fun hHeld => ?_)
                                    clear hK K
                                    refine norm_ (a' := ?_) ?_ ?_
                                    rotate_left
                                    · show Act.put _ (some 45) _ = _
                                      simp only [Act.put, List.setIfInBounds_toArray, List.set_cons_zero, List.set_cons_succ, i64_w, i32_w]
                                      rfl
                                    refine pure_ (i := 9) (N := some 8) (v := ?_) (a' := ?_) #[true, true, true, true, true, true, true, true, true, true] rfl rfl (any_of HT_.out (by kernel_rfl)) (fun _ _ _ h => h) (Or.inl ⟨by rfl, ?_⟩) ?_ ?_
                                    rotate_left; focus (intro w'; go_simp; with_reducible rfl)
                                    rotate_left; focus (simp only [Act.put, List.setIfInBounds_toArray, List.set_cons_zero, List.set_cons_succ, i64_w, i32_w]; rfl)
                                    refine done_ (done_of HT_.out (by kernel_rfl)) ?_
                                    try go_wp2_with (first | ((with_reducible refine gate_builtin (b := .append) (xs := #[.const (.slice none 0 0), .tmp 46]) rfl ?_); (try (refine gate_guard (by rfl) ?_; dsimp only)); at_builtin; refine Kd.R_append_rows k26 (w0 := w) w.heap.size rfl (.const (.slice none 0 0)) (.tmp 46) 22 26 (.agg #[(.int .i64 0), (.int .i64 0), (.int .i64 0), (.int .i64 0), (.int .i64 0), (.int .i64 0), (.int .i64 0)]) 56 rfl Try.underlying22 info26 rfl (by decide) (by omega) (.slice none 0 0) ([] : List (S26)) l0 _ _ _ (fun k_ => some k_ ≠ (v227 : Value).ownBlock) (fun _ => False) rfl rfl ?aO ?aR (fun _ _ h => h) (fun _ h => h.elim) ?aF ?aB ?aS ?aL ?_; (case aR => repeat (first | exact (Kd.C_below HR0.out HB.out) | (with_reducible refine Kd.C_alloc ?_ _) | (with_reducible refine Kd.C_drewN ?_ _) | (with_reducible refine Kd.C_drew ?_))); (case aB => exact (by repeat (first | (with_reducible first | exact HB.out | apply below_alloc | apply pw_below_drewN | apply below_drew1) | exact HB.out))); (case aF => exact (fun k_ hk => Kd.fresh' (Kd.R_lt (by (with_reducible repeat (first | apply Kd.R_alloc | apply Kd.R_drewN | apply Kd.R_drew)); exact HO228.out)) k_ hk)); (case aO => exact ((Kd.R_nil _ _ _ _ (fun k_ => some k_ ≠ (v227 : Value).ownBlock)))); (case aS => exact (below_size (by repeat (first | (with_reducible first | exact HB.out | apply below_alloc | apply pw_below_drewN | apply below_drew1) | exact HB.out)))); (case aL => have := LMc23.out; omega); intro v230 w51 ho hb hg hat; rw [← Ny229.out] at ho; have n0_ := Aside0.mk (Kd.R_after (Kd.R_apart_nil (by (with_reducible repeat (first | apply Kd.R_alloc | apply Kd.R_drewN | apply Kd.R_drew)); exact HO228.out)) hg hat); have n1_ := Aside0.mk (hb); have n2_ := Aside0.mk (ho); clear HO228; clear HB; have HO228 := n0_; have HB := n1_; have HO231 := n2_; clear n0_ n1_ n2_; clear ho hb hg hat; have p232 : 0 ≤ (a1 : Int) := of_decide_eq_true (by first | (with_reducible assumption) | assumption); have q232 : a1 < (l0.length : Int) := of_decide_eq_true (by first | (with_reducible assumption) | assumption); obtain ⟨ad232, e232, hx232_0, hx232_1, hx232_2, hx232_3, hx232_4, hx232_5, hx232_6⟩ := at_T26 HR0.out a1 p232 q232; cases e232; replace hx232_0 := (HB.out.cell (World.block_lt_of_cell? w _ hx232_0)).trans hx232_0; replace hx232_1 := (HB.out.cell (World.block_lt_of_cell? w _ hx232_1)).trans hx232_1; replace hx232_2 := (HB.out.cell (World.block_lt_of_cell? w _ hx232_2)).trans hx232_2; replace hx232_3 := (HB.out.cell (World.block_lt_of_cell? w _ hx232_3)).trans hx232_3; replace hx232_4 := (HB.out.cell (World.block_lt_of_cell? w _ hx232_4)).trans hx232_4; replace hx232_5 := (HB.out.cell (World.block_lt_of_cell? w _ hx232_5)).trans hx232_5; replace hx232_6 := (HB.out.cell (World.block_lt_of_cell? w _ hx232_6)).trans hx232_6; replace p232 := eq_true p232; replace q232 := eq_true q232; have p26 : 0 ≤ (a1 : Int) := of_decide_eq_true (by first | (with_reducible assumption) | assumption); have q26 : (a1 : Int) < ((y229.length : Int) : Int) := of_decide_eq_true (by first | (with_reducible assumption) | assumption); obtain ⟨go26, co26, eo26, gb26, gl26, cl26, HG26⟩ := Kd.R_form HO231.out (by omega); (first | cases eo26 | (injection eo26 with ea_ en_ ec_; (first | subst ea_ | (injection ea_ with ea_; subst ea_)); subst ec_; clear en_)); have GB26 := Aside0.mk gb26; have GG26 := Aside0.mk HG26; clear gb26 gl26 HG26; obtain ⟨ce26, hcl26, hM26, hcc26, hfr26⟩ := Kd.R_elem HO231.out z26 (a1 : Int) p26 q26; obtain rfl := k26_openM hM26; have hx26_0 : w51.cell? ⟨go26, (a1 : Int).toNat * 7, none⟩ = some (.int .i64 ((rd_T26 y229 a1).f0.f0)) := hcc26 0 _ rfl; have hx26_1 : w51.cell? ⟨go26, (a1 : Int).toNat * 7 + 1, none⟩ = some (.int .i64 ((rd_T26 y229 a1).f0.f1)) := hcc26 1 _ rfl; have hx26_2 : w51.cell? ⟨go26, (a1 : Int).toNat * 7 + 2, none⟩ = some (.int .i64 ((rd_T26 y229 a1).f0.f2)) := hcc26 2 _ rfl; have hx26_3 : w51.cell? ⟨go26, (a1 : Int).toNat * 7 + 3, none⟩ = some (.int .i64 ((rd_T26 y229 a1).f0.f3)) := hcc26 3 _ rfl; have hx26_4 : w51.cell? ⟨go26, (a1 : Int).toNat * 7 + 4, none⟩ = some (.int .i64 ((rd_T26 y229 a1).f0.f4)) := hcc26 4 _ rfl; have hx26_5 : w51.cell? ⟨go26, (a1 : Int).toNat * 7 + 5, none⟩ = some (.int .i64 ((rd_T26 y229 a1).f0.f5)) := hcc26 5 _ rfl; have hx26_6 : w51.cell? ⟨go26, (a1 : Int).toNat * 7 + 6, none⟩ = some (.int .i64 ((rd_T26 y229 a1).f1)) := hcc26 6 _ rfl; have hf26_0 : w51.frozen? ⟨go26, (a1 : Int).toNat * 7, none⟩ = false := hfr26 0; have hf26_1 : w51.frozen? ⟨go26, (a1 : Int).toNat * 7 + 1, none⟩ = false := hfr26 1; have hf26_2 : w51.frozen? ⟨go26, (a1 : Int).toNat * 7 + 2, none⟩ = false := hfr26 2; have hf26_3 : w51.frozen? ⟨go26, (a1 : Int).toNat * 7 + 3, none⟩ = false := hfr26 3; have hf26_4 : w51.frozen? ⟨go26, (a1 : Int).toNat * 7 + 4, none⟩ = false := hfr26 4; have hf26_5 : w51.frozen? ⟨go26, (a1 : Int).toNat * 7 + 5, none⟩ = false := hfr26 5; have hf26_6 : w51.frozen? ⟨go26, (a1 : Int).toNat * 7 + 6, none⟩ = false := hfr26 6; clear hcl26 hcc26 hfr26 hM26; replace p26 := eq_true p26; replace q26 := eq_true q26; have HX52 := Aside0.mk (show Kd.R k26 26 w51 w.heap.size (fun k_ => some k_ ≠ (v227 : Value).ownBlock) (.slice (some ⟨go26, 0, none⟩) y229.length co26) y229 from (by (with_reducible repeat (first | apply Kd.R_alloc | apply Kd.R_drewN | apply Kd.R_drew)); exact HO231.out)); obtain ⟨ce52, hcl52, hM52, hcc52, hfr52⟩ := Kd.R_elem HX52.out z26 (a1 : Int) (of_decide_eq_true (by first | (with_reducible assumption) | assumption)) (by have h_ : (a1 : Int) < ((y229.length : Int) : Int) := of_decide_eq_true (by first | (with_reducible assumption) | assumption); first | exact h_ | (have e_ := (Kd.R_reads' HO231.out).1; omega) | simpa using h_); obtain rfl := k26_openM hM52; have HP52 := Kd.R_seg HX52.out (a1 : Int) (of_decide_eq_true (by first | (with_reducible assumption) | assumption)) (by have h_ : (a1 : Int) < ((y229.length : Int) : Int) := of_decide_eq_true (by first | (with_reducible assumption) | assumption); first | exact h_ | (have e_ := (Kd.R_reads' HO231.out).1; omega) | simpa using h_) (seg := [.int .i64 (wrap64 (((rd_T26 l0 a1).f1) + a2))]) (j := 6) hcl52 hcc52 (show 7 ≤ 7 from by decide) (x' := (⟨(⟨(rd_T26 y229 a1).f0.f0, (rd_T26 y229 a1).f0.f1, (rd_T26 y229 a1).f0.f2, (rd_T26 y229 a1).f0.f3, (rd_T26 y229 a1).f0.f4, (rd_T26 y229 a1).f0.f5⟩ : S24), wrap64 (((rd_T26 l0 a1).f1) + a2)⟩ : S26)) (k26_mkM _ _ _ (⟨(⟨(rd_T26 y229 a1).f0.f0, (rd_T26 y229 a1).f0.f1, (rd_T26 y229 a1).f0.f2, (rd_T26 y229 a1).f0.f3, (rd_T26 y229 a1).f0.f4, (rd_T26 y229 a1).f0.f5⟩ : S24), wrap64 (((rd_T26 l0 a1).f1) + a2)⟩ : S26) ) (fun _ hk => hk); have hx52_6 := hcc52 6 _ rfl; (try simp only [show (k26).sz = 7 from rfl, Nat.mul_one, Nat.add_zero] at hx52_6); have hf52_6 := hfr52 6; (try simp only [show (k26).sz = 7 from rfl, Nat.mul_one, Nat.add_zero] at hf52_6); clear hcl52 hcc52 hfr52 hM52) | ((with_reducible refine gate_store (t := 3) (p := 58) rfl ?_); refine store_event (t := 3) (p := 58) (v := ?vo_w53) (w1 := (w51.setCell ⟨go26, (a1 : Int).toNat * 7 + 6, none⟩ (.int .i64 (wrap64 (((rd_T26 l0 a1).f1) + a2))))) ?hg ?ho ?hn ?hr ?_; (case ho => rfl); (case hg => rfl); (case hn => rfl); (case hr => first | (go_simp; done) | (go_simp; rfl)); intro w53 hw; have hg : w51.grownBy w53 (some go26) := (by rw [hw]; exact HP52.2); have hp_ : Kd.R k26 26 w53 w.heap.size (fun k_ => some k_ ≠ (v227 : Value).ownBlock) (.slice (some ⟨go26, 0, none⟩) y229.length co26) y233 := (by rw [hw, Ny233.out]; exact HP52.1); clear HP52; have n0_ := Aside0.mk (Kd.R_after (v := (.slice (some ⟨go26, 0, none⟩) y229.length co26)) (v1 := (.slice (some ⟨go26, 0, none⟩) y229.length co26)) (ok := (fun _ => True)) (by (with_reducible repeat (first | apply Kd.R_alloc | apply Kd.R_drewN | apply Kd.R_drew)); exact HO228.out) hg (.inl rfl)); have n1_ := Aside0.mk (hp_); have n2_ := Aside0.mk ((by rw [hw]; exact below_set (HB.out) GB26.out : Below w.heap.size w w53)); clear HO228; clear HO231; clear HB; have HO228 := n0_; have HO231 := n1_; have HB := n2_; clear n0_ n1_ n2_; clear hg hw hp_))
                                    have n0_ := Aside0.mk (Kd.R_drew HO228.out)
                                    have n1_ := Aside0.mk (Kd.R_drew HO231.out)
                                    have n2_ := Aside0.mk (below_drew1 HB.out)
                                    clear HO228
                                    clear HO231
                                    clear HB
                                    have HO228 := n0_
                                    have HO231 := n1_
                                    have HB := n2_
                                    clear n0_ n1_ n2_
                                    obtain ⟨Ao55, co55, eo55⟩ := Kd.R_slice HO228.out
                                    (first | subst eo55 | (injection eo55 with f1_ f2_ f3_; have f4_ := f1_.symm; have f5_ := f3_.symm; clear f1_ f2_ f3_; subst f4_; subst f5_))
                                    have p235 : 0 ≤ (a1 : Int) := of_decide_eq_true (by first | (with_reducible assumption) | assumption)
                                    have q235 : a1 < (y233.length : Int) := (by have h_ : (a1 : Int) < ((y229.length : Int) : Int) := of_decide_eq_true (by first | (with_reducible assumption) | assumption); first | (have e_ := (Kd.R_reads' HO231.out).1; omega) | simpa only [Ny233.out, List.length_set] using h_)
                                    have ql235 : ((a1 : Int) < ((y229.length : Int) : Int)) = True := eq_true (of_decide_eq_true (by first | (with_reducible assumption) | assumption))
                                    obtain ⟨ad235, e235, hx235_0, hx235_1, hx235_2, hx235_3, hx235_4, hx235_5, hx235_6⟩ := at_T26 (Kd.R_reads' HO231.out).2.2 a1 p235 q235
                                    obtain rfl : (⟨go26, 0, none⟩ : Addr) = ad235 := (by injection e235)
                                    (first | simp only [add_plain] at hx235_0 | simp only [add_at] at hx235_0 | simp only [Addr.add, Nat.zero_add] at hx235_0 | skip)
                                    (first | simp only [add_plain] at hx235_1 | simp only [add_at] at hx235_1 | simp only [Addr.add, Nat.zero_add] at hx235_1 | skip)
                                    (first | simp only [add_plain] at hx235_2 | simp only [add_at] at hx235_2 | simp only [Addr.add, Nat.zero_add] at hx235_2 | skip)
                                    (first | simp only [add_plain] at hx235_3 | simp only [add_at] at hx235_3 | simp only [Addr.add, Nat.zero_add] at hx235_3 | skip)
                                    (first | simp only [add_plain] at hx235_4 | simp only [add_at] at hx235_4 | simp only [Addr.add, Nat.zero_add] at hx235_4 | skip)
                                    (first | simp only [add_plain] at hx235_5 | simp only [add_at] at hx235_5 | simp only [Addr.add, Nat.zero_add] at hx235_5 | skip)
                                    (first | simp only [add_plain] at hx235_6 | simp only [add_at] at hx235_6 | simp only [Addr.add, Nat.zero_add] at hx235_6 | skip)
                                    replace p235 := eq_true p235
                                    replace q235 := eq_true q235
                                    have p236 : 0 ≤ (a1 : Int) := of_decide_eq_true (by first | (with_reducible assumption) | assumption)
                                    have q236 : a1 < (l0.length : Int) := of_decide_eq_true (by first | (with_reducible assumption) | assumption)
                                    obtain ⟨ad236, e236, hx236_0, hx236_1, hx236_2, hx236_3, hx236_4, hx236_5, hx236_6⟩ := at_T26 HR0.out a1 p236 q236
                                    have hw236_6 := hx236_6
                                    have hw236_5 := hx236_5
                                    have hw236_4 := hx236_4
                                    have hw236_3 := hx236_3
                                    have hw236_2 := hx236_2
                                    have hw236_1 := hx236_1
                                    have hw236_0 := hx236_0
                                    obtain rfl : ad232 = ad236 := (by injection e236)
                                    replace hx236_0 := (HB.out.cell (World.block_lt_of_cell? w _ hx236_0)).trans hx236_0
                                    replace hx236_1 := (HB.out.cell (World.block_lt_of_cell? w _ hx236_1)).trans hx236_1
                                    replace hx236_2 := (HB.out.cell (World.block_lt_of_cell? w _ hx236_2)).trans hx236_2
                                    replace hx236_3 := (HB.out.cell (World.block_lt_of_cell? w _ hx236_3)).trans hx236_3
                                    replace hx236_4 := (HB.out.cell (World.block_lt_of_cell? w _ hx236_4)).trans hx236_4
                                    replace hx236_5 := (HB.out.cell (World.block_lt_of_cell? w _ hx236_5)).trans hx236_5
                                    replace hx236_6 := (HB.out.cell (World.block_lt_of_cell? w _ hx236_6)).trans hx236_6
                                    replace p236 := eq_true p236
                                    replace q236 := eq_true q236
                                    refine start_ (n := 21) (S := fun w' => w'.cell? ⟨go26, (a1).toNat * 7, none⟩ = some (.int .i64 ((rd_T26 y233 a1).f0.f0)) ∧ w'.cell? ⟨go26, (a1).toNat * 7 + 1, none⟩ = some (.int .i64 ((rd_T26 y233 a1).f0.f1)) ∧ w'.cell? ⟨go26, (a1).toNat * 7 + 2, none⟩ = some (.int .i64 ((rd_T26 y233 a1).f0.f2)) ∧ w'.cell? ⟨go26, (a1).toNat * 7 + 3, none⟩ = some (.int .i64 ((rd_T26 y233 a1).f0.f3)) ∧ w'.cell? ⟨go26, (a1).toNat * 7 + 4, none⟩ = some (.int .i64 ((rd_T26 y233 a1).f0.f4)) ∧ w'.cell? ⟨go26, (a1).toNat * 7 + 5, none⟩ = some (.int .i64 ((rd_T26 y233 a1).f0.f5)) ∧ w'.cell? ⟨go26, (a1).toNat * 7 + 6, none⟩ = some (.int .i64 ((rd_T26 y233 a1).f1)) ∧ w'.cell? (ad232.add ((a1).toNat * 7)) = some (.int .i64 ((rd_T26 l0 a1).f0.f0)) ∧ w'.cell? ⟨(ad232.add ((a1).toNat * 7)).block, (ad232.add ((a1).toNat * 7)).off + 1, none⟩ = some (.int .i64 ((rd_T26 l0 a1).f0.f1)) ∧ w'.cell? ⟨(ad232.add ((a1).toNat * 7)).block, (ad232.add ((a1).toNat * 7)).off + 2, none⟩ = some (.int .i64 ((rd_T26 l0 a1).f0.f2)) ∧ w'.cell? ⟨(ad232.add ((a1).toNat * 7)).block, (ad232.add ((a1).toNat * 7)).off + 3, none⟩ = some (.int .i64 ((rd_T26 l0 a1).f0.f3)) ∧ w'.cell? ⟨(ad232.add ((a1).toNat * 7)).block, (ad232.add ((a1).toNat * 7)).off + 4, none⟩ = some (.int .i64 ((rd_T26 l0 a1).f0.f4)) ∧ w'.cell? ⟨(ad232.add ((a1).toNat * 7)).block, (ad232.add ((a1).toNat * 7)).off + 5, none⟩ = some (.int .i64 ((rd_T26 l0 a1).f0.f5)) ∧ w'.cell? ⟨(ad232.add ((a1).toNat * 7)).block, (ad232.add ((a1).toNat * 7)).off + 6, none⟩ = some (.int .i64 ((rd_T26 l0 a1).f1))) (ds := []) #[false, false, false, false, false, false, false, false, false, false, false, false, false, false, false, false, false, false, false, false, false] (by kernel_rfl) rfl rfl ⟨hx235_0, hx235_1, hx235_2, hx235_3, hx235_4, hx235_5, hx235_6, ((HB.out.cell (World.block_lt_of_cell? w _ hw236_0)).trans hw236_0), ((HB.out.cell (World.block_lt_of_cell? w _ hw236_1)).trans hw236_1), ((HB.out.cell (World.block_lt_of_cell? w _ hw236_2)).trans hw236_2), ((HB.out.cell (World.block_lt_of_cell? w _ hw236_3)).trans hw236_3), ((HB.out.cell (World.block_lt_of_cell? w _ hw236_4)).trans hw236_4), ((HB.out.cell (World.block_lt_of_cell? w _ hw236_5)).trans hw236_5), ((HB.out.cell (World.block_lt_of_cell? w _ hw236_6)).trans hw236_6)⟩ (fun hHeld => ?_); refine with_tabW fuseelaw09_DemandLess.tab7 fuseelaw09_DemandLess.bits7 (fun HT_ HW_ => ?_)
                                    generalize w53.drew = w54 at HO228 HO231 HB hx235_0 hx235_1 hx235_2 hx235_3 hx235_4 hx235_5 hx235_6 hx236_0 hx236_1 hx236_2 hx236_3 hx236_4 hx236_5 hx236_6 hHeld ⊢
                                    refine pure_ (i := 0) (N := some 59) (v := ?_) (a' := ?_) #[true, false, false, false, false, false, false, false, false, false, false, false, false, false, false, false, false, false, false, false, false] rfl rfl (any_of HT_.out (by kernel_rfl)) (fun _ _ _ h => h) (Or.inl ⟨by rfl, ?_⟩) ?_ ?_
                                    rotate_left; focus (intro w'; go_simp; with_reducible rfl)
                                    rotate_left; focus (simp only [Act.put, List.setIfInBounds_toArray, List.set_cons_zero, List.set_cons_succ, i64_w, i32_w]; rfl)
                                    refine one_ (i := 1) (N := some 60) #[true, true, false, false, false, false, false, false, false, false, false, false, false, false, false, false, false, false, false, false, false] rfl rfl (one_of HT_.out (by kernel_rfl)) (by decide) (fun K hK => ?_)
                                    refine goes_ Try.func15 (by kernel_rfl) rfl #[.slice Ao55 y226.length co55] (by rfl) rfl rfl (by (try simp only [List.map_toArray, List.map_cons, List.map_nil]); first | done | rfl | (simp only [List.length_drop, List.length_take]; rfl)) ?_
                                    with_reducible refine (demand_Test.calls k _ _ y226 true _ ?side1 ?side2 A27.out).mono ?_
                                    (case side1 => repeat (first | exact (Kd.R_reads' HO228.out).2.2 | (with_reducible refine Kd.C_alloc ?_ _) | (with_reducible refine Kd.C_drewN ?_ _) | (with_reducible refine Kd.C_drew ?_)))
                                    (case side2 => exact (Kd.R_reads' HO228.out).2.1)
                                    rintro e w56 ⟨rfl, hb⟩
                                    have HS0_ := (hb.cell (World.block_lt_of_cell? _ _ (hHeld.1))).trans (hHeld.1)
                                    have HS1_ := (hb.cell (World.block_lt_of_cell? _ _ (hHeld.2.1))).trans (hHeld.2.1)
                                    have HS2_ := (hb.cell (World.block_lt_of_cell? _ _ (hHeld.2.2.1))).trans (hHeld.2.2.1)
                                    have HS3_ := (hb.cell (World.block_lt_of_cell? _ _ (hHeld.2.2.2.1))).trans (hHeld.2.2.2.1)
                                    have HS4_ := (hb.cell (World.block_lt_of_cell? _ _ (hHeld.2.2.2.2.1))).trans (hHeld.2.2.2.2.1)
                                    have HS5_ := (hb.cell (World.block_lt_of_cell? _ _ (hHeld.2.2.2.2.2.1))).trans (hHeld.2.2.2.2.2.1)
                                    have HS6_ := (hb.cell (World.block_lt_of_cell? _ _ (hHeld.2.2.2.2.2.2.1))).trans (hHeld.2.2.2.2.2.2.1)
                                    refine ⟨_, rfl, ?_⟩
                                    have n0_ := Aside0.mk (Kd.R_below (by (with_reducible repeat (first | apply Kd.R_alloc | apply Kd.R_drewN | apply Kd.R_drew)); exact HO228.out) hb)
                                    have n1_ := Aside0.mk (Kd.R_below (by (with_reducible repeat (first | apply Kd.R_alloc | apply Kd.R_drewN | apply Kd.R_drew)); exact HO231.out) hb)
                                    have n2_ := bs HB hb
                                    clear HO228
                                    clear HO231
                                    clear HB
                                    have HO228 := n0_
                                    have HO231 := n1_
                                    have HB := n2_
                                    clear n0_ n1_ n2_
                                    (try clear hb)
                                    (try clear hb2)
                                    (try clear hk)
                                    (try clear hi)
                                    refine hK.out _ _ ⟨HS0_, HS1_, HS2_, HS3_, HS4_, HS5_, HS6_, ((HB.out.cell (World.block_lt_of_cell? w _ hw236_0)).trans hw236_0), ((HB.out.cell (World.block_lt_of_cell? w _ hw236_1)).trans hw236_1), ((HB.out.cell (World.block_lt_of_cell? w _ hw236_2)).trans hw236_2), ((HB.out.cell (World.block_lt_of_cell? w _ hw236_3)).trans hw236_3), ((HB.out.cell (World.block_lt_of_cell? w _ hw236_4)).trans hw236_4), ((HB.out.cell (World.block_lt_of_cell? w _ hw236_5)).trans hw236_5), ((HB.out.cell (World.block_lt_of_cell? w _ hw236_6)).trans hw236_6)⟩ (fun hHeld => ?_)
                                    clear hK K
                                    refine norm_ (a' := ?_) ?_ ?_
                                    rotate_left
                                    · show Act.put _ (some 60) _ = _
                                      simp only [Act.put, List.setIfInBounds_toArray, List.set_cons_zero, List.set_cons_succ, i64_w, i32_w]
                                      rfl
                                    refine pure_ (i := 2) (N := some 61) (v := ?_) (a' := ?_) #[true, true, true, false, false, false, false, false, false, false, false, false, false, false, false, false, false, false, false, false, false] rfl rfl (any_of HT_.out (by kernel_rfl)) (fun _ _ _ h => h) (Or.inl ⟨by rfl, ?_⟩) ?_ ?_
                                    rotate_left; focus (intro w'; go_simp; with_reducible rfl)
                                    rotate_left; focus (simp only [Act.put, List.setIfInBounds_toArray, List.set_cons_zero, List.set_cons_succ, i64_w, i32_w]; rfl)
                                    refine pure_ (i := 3) (N := some 62) (v := ?_) (a' := ?_) #[true, true, true, true, false, false, false, false, false, false, false, false, false, false, false, false, false, false, false, false, false] rfl rfl (any_of HT_.out (by kernel_rfl)) (fun _ _ _ h => h) (Or.inl ⟨by rfl, ?_⟩) ?_ ?_
                                    rotate_left; focus (intro w'; go_simp; with_reducible rfl)
                                    rotate_left; focus (simp only [Act.put, List.setIfInBounds_toArray, List.set_cons_zero, List.set_cons_succ, i64_w, i32_w]; rfl)
                                    refine pure_ (i := 4) (N := some 63) (v := ?_) (a' := ?_) #[true, true, true, true, true, false, false, false, false, false, false, false, false, false, false, false, false, false, false, false, false] rfl rfl (any_of HT_.out (by kernel_rfl)) (fun _ _ _ h => h) (Or.inl ⟨by rfl, ?_⟩) ?_ ?_
                                    rotate_left; focus (intro w'; go_simp; with_reducible rfl)
                                    rotate_left; focus (simp only [Act.put, List.setIfInBounds_toArray, List.set_cons_zero, List.set_cons_succ, i64_w, i32_w]; rfl)
                                    refine pure_ (i := 5) (N := some 64) (v := ?_) (a' := ?_) #[true, true, true, true, true, true, false, false, false, false, false, false, false, false, false, false, false, false, false, false, false] rfl rfl (any_of HT_.out (by kernel_rfl)) (fun _ _ _ h => h) (Or.inl ⟨by rfl, ?_⟩) ?_ ?_
                                    rotate_left; focus (intro w'; go_simp; with_reducible rfl)
                                    rotate_left; focus (simp only [Act.put, List.setIfInBounds_toArray, List.set_cons_zero, List.set_cons_succ, i64_w, i32_w]; rfl)
                                    refine pure_ (i := 6) (N := some 65) (v := ?_) (a' := ?_) #[true, true, true, true, true, true, true, false, false, false, false, false, false, false, false, false, false, false, false, false, false] rfl rfl (any_of HT_.out (by kernel_rfl)) (fun _ _ _ h => h) (Or.inl ⟨by rfl, ?_⟩) ?_ ?_
                                    rotate_left; focus (intro w'; go_simp; with_reducible rfl)
                                    rotate_left; focus (simp only [Act.put, List.setIfInBounds_toArray, List.set_cons_zero, List.set_cons_succ, i64_w, i32_w]; rfl)
                                    refine pure_ (i := 8) (N := some 67) (v := ?_) (a' := ?_) #[true, true, true, true, true, true, true, false, true, false, false, false, false, false, false, false, false, false, false, false, false] rfl rfl (any_of HT_.out (by kernel_rfl)) (fun _ _ _ h => h) (Or.inl ⟨by rfl, ?_⟩) ?_ ?_
                                    rotate_left; focus (intro w'; go_simp; with_reducible rfl)
                                    rotate_left; focus (simp only [Act.put, List.setIfInBounds_toArray, List.set_cons_zero, List.set_cons_succ, i64_w, i32_w]; rfl)
                                    refine pure_ (i := 9) (N := some 68) (v := ?_) (a' := ?_) #[true, true, true, true, true, true, true, false, true, true, false, false, false, false, false, false, false, false, false, false, false] rfl rfl (any_of HT_.out (by kernel_rfl)) (fun _ _ _ h => h) (Or.inl ⟨by rfl, ?_⟩) ?_ ?_
                                    rotate_left; focus (intro w'; go_simp; with_reducible rfl)
                                    rotate_left; focus (simp only [Act.put, List.setIfInBounds_toArray, List.set_cons_zero, List.set_cons_succ, i64_w, i32_w]; rfl)
                                    refine pure_ (i := 10) (N := some 69) (v := ?_) (a' := ?_) #[true, true, true, true, true, true, true, false, true, true, true, false, false, false, false, false, false, false, false, false, false] rfl rfl (any_of HT_.out (by kernel_rfl)) (fun _ _ _ h => h) (Or.inl ⟨by rfl, ?_⟩) ?_ ?_
                                    rotate_left; focus (intro w'; go_simp; with_reducible rfl)
                                    rotate_left; focus (simp only [Act.put, List.setIfInBounds_toArray, List.set_cons_zero, List.set_cons_succ, i64_w, i32_w]; rfl)
                                    refine pure_ (i := 11) (N := some 70) (v := ?_) (a' := ?_) #[true, true, true, true, true, true, true, false, true, true, true, true, false, false, false, false, false, false, false, false, false] rfl rfl (any_of HT_.out (by kernel_rfl)) (fun _ _ _ h => h) (Or.inl ⟨by rfl, ?_⟩) ?_ ?_
                                    rotate_left; focus (intro w'; go_simp; with_reducible rfl)
                                    rotate_left; focus (simp only [Act.put, List.setIfInBounds_toArray, List.set_cons_zero, List.set_cons_succ, i64_w, i32_w]; rfl)
                                    refine pure_ (i := 12) (N := some 71) (v := ?_) (a' := ?_) #[true, true, true, true, true, true, true, false, true, true, true, true, true, false, false, false, false, false, false, false, false] rfl rfl (any_of HT_.out (by kernel_rfl)) (fun _ _ _ h => h) (Or.inl ⟨by rfl, ?_⟩) ?_ ?_
                                    rotate_left; focus (intro w'; go_simp; with_reducible rfl)
                                    rotate_left; focus (simp only [Act.put, List.setIfInBounds_toArray, List.set_cons_zero, List.set_cons_succ, i64_w, i32_w]; rfl)
                                    refine take_ (i := 7) (N := some 66) (v := ?_) (a' := ?_) #[true, true, true, true, true, true, true, true, true, true, true, true, true, false, false, false, false, false, false, false, false] rfl rfl (take_ofW HT_.out HW_.out (by kernel_rfl)) (fun _ _ _ h => h) (Or.inl ⟨by rfl, ?_⟩) hHeld ?_ ?_
                                    rotate_left
                                    · rintro w' ⟨s0, s1, s2, s3, s4, s5, s6, s7, s8, s9, s10, s11, s12, s13⟩
                                      go_simp
                                      with_reducible rfl
                                    rotate_left; focus (simp only [Act.put, List.setIfInBounds_toArray, List.set_cons_zero, List.set_cons_succ, i64_w, i32_w]; rfl)
                                    refine take_ (i := 13) (N := some 72) (v := ?_) (a' := ?_) #[true, true, true, true, true, true, true, true, true, true, true, true, true, true, false, false, false, false, false, false, false] rfl rfl (take_ofW HT_.out HW_.out (by kernel_rfl)) (fun _ _ _ h => h) (Or.inl ⟨by rfl, ?_⟩) hHeld ?_ ?_
                                    rotate_left
                                    · rintro w' ⟨s0, s1, s2, s3, s4, s5, s6, s7, s8, s9, s10, s11, s12, s13⟩
                                      go_simp
                                      with_reducible rfl
                                    rotate_left; focus (simp only [Act.put, List.setIfInBounds_toArray, List.set_cons_zero, List.set_cons_succ, i64_w, i32_w]; rfl)
                                    refine pure_ (i := 14) (N := some 73) (v := ?_) (a' := ?_) #[true, true, true, true, true, true, true, true, true, true, true, true, true, true, true, false, false, false, false, false, false] rfl rfl (any_of HT_.out (by kernel_rfl)) (fun _ _ _ h => h) (Or.inl ⟨by rfl, ?_⟩) ?_ ?_
                                    rotate_left; focus (intro w'; go_simp; with_reducible rfl)
                                    rotate_left; focus (simp only [Act.put, List.setIfInBounds_toArray, List.set_cons_zero, List.set_cons_succ, i64_w, i32_w]; rfl)
                                    refine pure_ (i := 15) (N := some 74) (v := ?_) (a' := ?_) #[true, true, true, true, true, true, true, true, true, true, true, true, true, true, true, true, false, false, false, false, false] rfl rfl (any_of HT_.out (by kernel_rfl)) (fun _ _ _ h => h) (Or.inl ⟨by rfl, ?_⟩) ?_ ?_
                                    rotate_left; focus (intro w'; go_simp; with_reducible rfl)
                                    rotate_left; focus (simp only [Act.put, List.setIfInBounds_toArray, List.set_cons_zero, List.set_cons_succ, i64_w, i32_w]; rfl)
                                    refine pure_ (i := 16) (N := some 75) (v := ?_) (a' := ?_) #[true, true, true, true, true, true, true, true, true, true, true, true, true, true, true, true, true, false, false, false, false] rfl rfl (any_of HT_.out (by kernel_rfl)) (fun _ _ _ h => h) (Or.inl ⟨by rfl, ?_⟩) ?_ ?_
                                    rotate_left; focus (intro w'; go_simp; with_reducible rfl)
                                    rotate_left; focus (simp only [Act.put, List.setIfInBounds_toArray, List.set_cons_zero, List.set_cons_succ, i64_w, i32_w]; rfl)
                                    refine one_ (i := 17) (N := some 76) #[true, true, true, true, true, true, true, true, true, true, true, true, true, true, true, true, true, true, false, false, false] rfl rfl (one_of HT_.out (by kernel_rfl)) (by decide) (fun K hK => ?_)
                                    refine goes_ Try.func15 (by kernel_rfl) rfl #[.slice (some ⟨go26, 0, none⟩) y233.length co26] (by rfl) rfl rfl (by (try simp only [List.map_toArray, List.map_cons, List.map_nil]); first | done | (rw [show y233.length = y229.length from (Kd.R_reads' HO231.out).1.symm] <;> rfl) | rfl | (simp only [List.length_drop, List.length_take]; rfl)) ?_
                                    with_reducible refine (demand_Test.calls k _ _ y233 t237 _ ?side1 ?side2 A43.out).mono ?_
                                    (case side1 => repeat (first | exact (Kd.R_reads' HO231.out).2.2 | (with_reducible refine Kd.C_alloc ?_ _) | (with_reducible refine Kd.C_drewN ?_ _) | (with_reducible refine Kd.C_drew ?_)))
                                    (case side2 => rw [show y233.length = y229.length from (Kd.R_reads' HO231.out).1.symm]; exact (Kd.R_reads' HO231.out).2.1)
                                    rintro e w57 ⟨rfl, hb⟩
                                    have HS0_ := (hb.cell (World.block_lt_of_cell? _ _ (hHeld.1))).trans (hHeld.1)
                                    have HS1_ := (hb.cell (World.block_lt_of_cell? _ _ (hHeld.2.1))).trans (hHeld.2.1)
                                    have HS2_ := (hb.cell (World.block_lt_of_cell? _ _ (hHeld.2.2.1))).trans (hHeld.2.2.1)
                                    have HS3_ := (hb.cell (World.block_lt_of_cell? _ _ (hHeld.2.2.2.1))).trans (hHeld.2.2.2.1)
                                    have HS4_ := (hb.cell (World.block_lt_of_cell? _ _ (hHeld.2.2.2.2.1))).trans (hHeld.2.2.2.2.1)
                                    have HS5_ := (hb.cell (World.block_lt_of_cell? _ _ (hHeld.2.2.2.2.2.1))).trans (hHeld.2.2.2.2.2.1)
                                    have HS6_ := (hb.cell (World.block_lt_of_cell? _ _ (hHeld.2.2.2.2.2.2.1))).trans (hHeld.2.2.2.2.2.2.1)
                                    refine ⟨_, rfl, ?_⟩
                                    have n0_ := Aside0.mk (Kd.R_below (by (with_reducible repeat (first | apply Kd.R_alloc | apply Kd.R_drewN | apply Kd.R_drew)); exact HO228.out) hb)
                                    have n1_ := Aside0.mk (Kd.R_below (by (with_reducible repeat (first | apply Kd.R_alloc | apply Kd.R_drewN | apply Kd.R_drew)); exact HO231.out) hb)
                                    have n2_ := bs HB hb
                                    clear HO228
                                    clear HO231
                                    clear HB
                                    have HO228 := n0_
                                    have HO231 := n1_
                                    have HB := n2_
                                    clear n0_ n1_ n2_
                                    (try clear hb)
                                    (try clear hb2)
                                    (try clear hk)
                                    (try clear hi)
                                    refine hK.out _ _ ⟨HS0_, HS1_, HS2_, HS3_, HS4_, HS5_, HS6_, ((HB.out.cell (World.block_lt_of_cell? w _ hw236_0)).trans hw236_0), ((HB.out.cell (World.block_lt_of_cell? w _ hw236_1)).trans hw236_1), ((HB.out.cell (World.block_lt_of_cell? w _ hw236_2)).trans hw236_2), ((HB.out.cell (World.block_lt_of_cell? w _ hw236_3)).trans hw236_3), ((HB.out.cell (World.block_lt_of_cell? w _ hw236_4)).trans hw236_4), ((HB.out.cell (World.block_lt_of_cell? w _ hw236_5)).trans hw236_5), ((HB.out.cell (World.block_lt_of_cell? w _ hw236_6)).trans hw236_6)⟩ (fun hHeld => ?_)
                                    clear hK K
                                    refine norm_ (a' := ?_) ?_ ?_
                                    rotate_left
                                    · show Act.put _ (some 76) _ = _
                                      simp only [Act.put, List.setIfInBounds_toArray, List.set_cons_zero, List.set_cons_succ, i64_w, i32_w]
                                      rfl
                                    refine pure_ (i := 18) (N := some 77) (v := ?_) (a' := ?_) #[true, true, true, true, true, true, true, true, true, true, true, true, true, true, true, true, true, true, true, false, false] rfl rfl (any_of HT_.out (by kernel_rfl)) (fun _ _ _ h => h) (Or.inl ⟨by rfl, ?_⟩) ?_ ?_
                                    rotate_left; focus (intro w'; go_simp; with_reducible rfl)
                                    rotate_left; focus (simp only [Act.put, List.setIfInBounds_toArray, List.set_cons_zero, List.set_cons_succ, i64_w, i32_w]; rfl)
                                    refine pure_ (i := 19) (N := some 78) (v := ?_) (a' := ?_) #[true, true, true, true, true, true, true, true, true, true, true, true, true, true, true, true, true, true, true, true, false] rfl rfl (any_of HT_.out (by kernel_rfl)) (fun _ _ _ h => h) (Or.inl ⟨by rfl, ?_⟩) ?_ ?_
                                    rotate_left; focus (intro w'; go_simp; with_reducible rfl)
                                    rotate_left; focus (simp only [Act.put, List.setIfInBounds_toArray, List.set_cons_zero, List.set_cons_succ, i64_w, i32_w]; rfl)
                                    refine pure_ (i := 20) (N := some 6) (v := ?_) (a' := ?_) #[true, true, true, true, true, true, true, true, true, true, true, true, true, true, true, true, true, true, true, true, true] rfl rfl (any_of HT_.out (by kernel_rfl)) (fun _ _ _ h => h) (Or.inl ⟨by rfl, ?_⟩) ?_ ?_
                                    rotate_left; focus (intro w'; go_simp; with_reducible rfl)
                                    rotate_left; focus (simp only [Act.put, List.setIfInBounds_toArray, List.set_cons_zero, List.set_cons_succ, i64_w, i32_w]; rfl)
                                    refine done_ (done_of HT_.out (by kernel_rfl)) ?_
                                    try go_wp2
                                    go_ret
                                    exact ⟨by first | rfl | (simp [errW_none, errW_some] <;> rfl) | (simp only [← hji19]; first | rfl | (simp [errW_none, errW_some] <;> rfl)) | (simp [*, errW_none, errW_some] <;> rfl) | (exfalso; contradiction), by repeat (first | (with_reducible first | exact HB.out | apply below_alloc | apply pw_below_drewN | apply below_drew1) | exact HB.out)⟩
                                · replace c28 := Bool.eq_false_iff.mpr c28
                                  subst c28
                                  rw [if_neg (show ¬ (false = true) by decide)] at H
                                  exact absurd H (by simp)
                              · rw [if_neg c25] at H
                                exact absurd H (by simp)
                            · rw [if_neg c24] at H
                              exact absurd H (by simp)
                          · rw [if_neg c23] at H
                            exact absurd H (by simp)
                        · rw [if_neg c22] at H
                          exact absurd H (by simp)
                      · rw [if_neg c21] at H
                        exact absurd H (by simp)
                    · rw [if_neg c20] at H
                      exact absurd H (by simp)
                  · rw [if_neg c18] at H
                    exact absurd H (by simp)
                · rw [if_neg c17] at H
                  exact absurd H (by simp)
              · rw [if_neg c16] at H
                exact absurd H (by simp)
            · replace c15 := Bool.eq_false_iff.mpr c15
              subst c15
              rw [if_neg (show ¬ (false = true) by decide)] at H
              obtain rfl := Option.some.inj H
              go_enter Try.func5, Try.ntmps5
              go_wp2_with (first | ((with_reducible refine gate_callee (f := 10) rfl ?_); refine goesL_ (some 10) rfl rfl Try.func10 (by kernel_rfl) rfl #[] rfl (by (try simp only [List.map_toArray, List.map_cons, List.map_nil]); first | done | rfl | (simp only [List.length_drop, List.length_take]; rfl)) ?_; (with_reducible refine (fuseelaw09_awake.calls k  true _ A4.out).mono ?_); rintro e w58 ⟨rfl, hb⟩; refine ⟨_, rfl, ?_⟩; have n0_ := bs HB hb; clear HB; have HB := n0_; clear n0_; (try clear hb); (try clear hb2); (try clear hk); (try clear hi)) | (go_at_call 15; (with_reducible refine (demand_Test.calls k _ _ l0 false _ ?side1 ?side2 A14.out).mono ?_); (case side1 => repeat (first | exact (Kd.C_below HR0.out HB.out) | (with_reducible refine Kd.C_alloc ?_ _) | (with_reducible refine Kd.C_drewN ?_ _) | (with_reducible refine Kd.C_drew ?_))); (case side2 => exact HC0.out); rintro e w59 ⟨rfl, hb⟩; have n0_ := bs HB hb; clear HB; have HB := n0_; clear n0_; (try clear hb); (try clear hb2); (try clear hk); (try clear hi)))
              go_ret
              exact ⟨by first | rfl | (simp [errW_none, errW_some] <;> rfl) | (simp [*, errW_none, errW_some] <;> rfl) | (exfalso; contradiction), by repeat (first | (with_reducible first | exact HB.out | apply below_alloc | apply pw_below_drewN | apply below_drew1) | exact HB.out)⟩
  · replace c5 := Bool.eq_false_iff.mpr c5
    subst c5
    rw [if_neg (show ¬ (false = true) by decide)] at H
    obtain rfl := Option.some.inj H
    go_enter Try.func5, Try.ntmps5
    go_wp2_with (first | ((with_reducible refine gate_callee (f := 10) rfl ?_); refine goesL_ (some 10) rfl rfl Try.func10 (by kernel_rfl) rfl #[] rfl (by (try simp only [List.map_toArray, List.map_cons, List.map_nil]); first | done | rfl | (simp only [List.length_drop, List.length_take]; rfl)) ?_; (with_reducible refine (fuseelaw09_awake.calls k  false _ A4.out).mono ?_); rintro e w60 ⟨rfl, hb⟩; refine ⟨_, rfl, ?_⟩; have n0_ := bs HB hb; clear HB; have HB := n0_; clear n0_; (try clear hb); (try clear hb2); (try clear hk); (try clear hi)))
    go_ret
    exact ⟨by first | rfl | (simp [errW_none, errW_some] <;> rfl) | (simp [*, errW_none, errW_some] <;> rfl) | (exfalso; contradiction), by repeat (first | (with_reducible first | exact HB.out | apply below_alloc | apply pw_below_drewN | apply below_drew1) | exact HB.out)⟩

end Go.Proofs.Ytngledpkoeioiaa.P
