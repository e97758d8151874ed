-- Written by a program of this session (hprint.py), out of the translation; functions that the print does not take are given by hand.
import Derived.Test.YtkcpkglplhgjfaaPx0
import Derived.Test.YtkcpkglplhgjfaaPx1
import Derived.Test.YtkcpkglplhgjfaaPx3
namespace Go.Proofs.Ytkcpkglplhgjfaa.P
open Go.RowKit Go.Proofs.YtkcpkglplhgjfaaM Go.Proofs.YtkcpkglplhgjfaaW.PrintWords Go.Proofs.YtkcpkglplhgjfaaW.PrintLast Go.Proofs.YtkcpkglplhgjfaaW.PrintMore
attribute [local go_sem] max2_int min2_int max_two min_two max_three min_three max_four min_four   -- for this text's walks alone
set_option linter.unusedVariables false
set_option linter.unusedSimpArgs false

/-! ### fuseelaw06_UnitsParts: function 5 -/
mutual
def fuseelaw06_UnitsParts.j0 : Nat → List Int → List Int → Bool → Bool → Option (Bool)
  | 0, _, _, _, _ => none
  | k + 1, x0, x1, x5, x25 => if x25 = true then (some x5) else (if ([] : List Int).length + x0.length < 17592186044416 then ((some (([] : List Int) ++ x0 : List Int)).bind fun y174 => (if y174.length + x1.length < 17592186044416 then ((some (y174 ++ x1 : List Int)).bind fun y177 => ((units_Sum.f x0).bind fun bt180 => ((units_Sum.f x1).bind fun bt182 => ((units_Sum.f y177).bind fun bt184 => (if bt180.2 = true then (if (bt184.2 != bt182.2) = true then (fuseelaw06_UnitsParts.j1 k x0 x1 y177 true) else (if bt184.2 = true then (if bt184.1 = (wrap64 (bt180.1 + bt182.1)) then (fuseelaw06_UnitsParts.j1 k x0 x1 y177 false) else (fuseelaw06_UnitsParts.j1 k x0 x1 y177 true)) else (fuseelaw06_UnitsParts.j1 k x0 x1 y177 (bt184.1 != 0)))) else (if (bt184.2 != false) = true then (fuseelaw06_UnitsParts.j1 k x0 x1 y177 true) else (if bt184.2 = true then (if bt184.1 = (wrap64 (bt180.1 + bt182.1)) then (fuseelaw06_UnitsParts.j1 k x0 x1 y177 false) else (fuseelaw06_UnitsParts.j1 k x0 x1 y177 true)) else (fuseelaw06_UnitsParts.j1 k x0 x1 y177 (bt184.1 != 0))))))))) else (none))) else (none))
def fuseelaw06_UnitsParts.j1 : Nat → List Int → List Int → List Int → Bool → Option (Bool)
  | 0, _, _, _, _ => none
  | k + 1, x0, x1, x6, x69 => if x69 = true then (some false) else ((units_Fits.f x6).bind fun t186 => (if t186 = true then ((units_Fits.f x0).bind fun t187 => (if t187 = true then ((units_Fits.f x1).bind fun t188 => (some t188)) else (some false))) else (some true)))
end
def fuseelaw06_UnitsParts.f (k : Nat) (l0 : List Int) (l1 : List Int) : Option (Bool) := (fuseelaw06_awake.f).bind fun t173 => (if t173 = true then (if (l0.length : Int) > 500 then (fuseelaw06_UnitsParts.j0 k l0 l1 t173 true) else (fuseelaw06_UnitsParts.j0 k l0 l1 t173 (decide ((l1.length : Int) > 500)))) else (fuseelaw06_UnitsParts.j0 k l0 l1 t173 true))
theorem fuseelaw06_UnitsParts.mono_l : ∀ k, (∀ y0 y1 y2 y3, LeO (fuseelaw06_UnitsParts.j0 k y0 y1 y2 y3) (fuseelaw06_UnitsParts.j0 (k + 1) y0 y1 y2 y3)) ∧ (∀ y0 y1 y2 y3, LeO (fuseelaw06_UnitsParts.j1 k y0 y1 y2 y3) (fuseelaw06_UnitsParts.j1 (k + 1) y0 y1 y2 y3))
  | 0 => ⟨fun _ _ _ _ r h => by simp [fuseelaw06_UnitsParts.j0] at h, fun _ _ _ _ r h => by simp [fuseelaw06_UnitsParts.j1] at h⟩
  | k + 1 => by
    obtain ⟨ih0, ih1⟩ := fuseelaw06_UnitsParts.mono_l k
    refine ⟨?_, ?_⟩
    · intro y0 y1 y2 y3
      unfold fuseelaw06_UnitsParts.j0
      repeat' first
      | (with_reducible exact ih0 _ _ _ _)
      | (with_reducible exact ih1 _ _ _ _)
      | (with_reducible exact LeO.refl _)
      | (with_reducible exact LeO.none _)
      | (with_reducible refine LeO.ite ?_ ?_)
      | (with_reducible refine LeO.bind ?_ (fun _ => ?_))
      | exact ih0 _ _ _ _
      | exact ih1 _ _ _ _
      | exact LeO.none _
      | refine LeO.ite ?_ ?_
      | refine LeO.bind ?_ (fun _ => ?_)
    · intro y0 y1 y2 y3
      unfold fuseelaw06_UnitsParts.j1
      repeat' first
      | (with_reducible exact ih0 _ _ _ _)
      | (with_reducible exact ih1 _ _ _ _)
      | (with_reducible exact LeO.refl _)
      | (with_reducible exact LeO.none _)
      | (with_reducible refine LeO.ite ?_ ?_)
      | (with_reducible refine LeO.bind ?_ (fun _ => ?_))
      | exact ih0 _ _ _ _
      | exact ih1 _ _ _ _
      | exact LeO.none _
      | refine LeO.ite ?_ ?_
      | refine LeO.bind ?_ (fun _ => ?_)
theorem fuseelaw06_UnitsParts.mono : ∀ a0 a1 k, LeO (fuseelaw06_UnitsParts.f k a0 a1) (fuseelaw06_UnitsParts.f (k + 1) a0 a1) := by
  intro a0 a1 k
  obtain ⟨ih0, ih1⟩ := fuseelaw06_UnitsParts.mono_l k
  unfold fuseelaw06_UnitsParts.f
  repeat' first
      | (with_reducible exact ih0 _ _ _ _)
      | (with_reducible exact ih1 _ _ _ _)
      | (with_reducible exact LeO.refl _)
      | (with_reducible exact LeO.none _)
      | (with_reducible refine LeO.ite ?_ ?_)
      | (with_reducible refine LeO.bind ?_ (fun _ => ?_))
      | exact ih0 _ _ _ _
      | exact ih1 _ _ _ _
      | exact LeO.none _
      | refine LeO.ite ?_ ?_
      | refine LeO.bind ?_ (fun _ => ?_)
set_option maxHeartbeats 8000000 in
set_option maxRecDepth 100000 in
theorem fuseelaw06_UnitsParts.calls (k : Nat) (A0 : Option Addr) (c0 : Nat) (l0 : List Int) (A1 : Option Addr) (c1 : Nat) (l1 : List Int) (r : Bool) (w : World) (hr0 : Kd.C (Kd.int .i64) w A0 l0.length l0) (hc0 : l0.length ≤ c0) (hr1 : Kd.C (Kd.int .i64) w A1 l1.length l1) (hc1 : l1.length ≤ c1) (h : fuseelaw06_UnitsParts.f k l0 l1 = some r) :
    Calls Try.prog 5 #[.slice A0 l0.length c0, .slice A1 l1.length c1] w fun e w' => e = .returned (.bool r) ∧ Below w.heap.size w w' := by
  have HR0 := Aside0.mk hr0
  have HC0 := Aside0.mk hc0
  clear hr0 hc0
  have HR1 := Aside0.mk hr1
  have HC1 := Aside0.mk hc1
  clear hr1 hc1
  have HB := Aside0.mk (Below.refl w.heap.size w)
  have H : ((fuseelaw06_awake.f).bind fun t173 => (if t173 = true then (if (l0.length : Int) > 500 then (fuseelaw06_UnitsParts.j0 k l0 l1 t173 true) else (fuseelaw06_UnitsParts.j0 k l0 l1 t173 (decide ((l1.length : Int) > 500)))) else (fuseelaw06_UnitsParts.j0 k l0 l1 t173 true))) = some r := h
  clear h
  replace H := Option.bind_eq_some_iff.mp H
  obtain ⟨t173, A30, H⟩ := H
  replace H : (if t173 = true then (if (l0.length : Int) > 500 then (fuseelaw06_UnitsParts.j0 k l0 l1 t173 true) else (fuseelaw06_UnitsParts.j0 k l0 l1 t173 (decide ((l1.length : Int) > 500)))) else (fuseelaw06_UnitsParts.j0 k l0 l1 t173 true)) = some r := H
  have A3 := Aside0.mk A30
  clear A30
  have HC4 := Aside0.mk H
  clear H
  go_enter Try.func5, Try.ntmps5
  go_upto_region 2 with (first | ((with_reducible refine gate_callee (f := 8) rfl ?_); refine goesL_ (some 13) rfl rfl Try.func8 (by kernel_rfl) rfl #[] rfl (by (try simp only [List.map_toArray, List.map_cons, List.map_nil]); first | done | rfl | (simp only [List.length_drop, List.length_take]; rfl)) ?_; (with_reducible refine (fuseelaw06_awake.calls  t173 _ A3.out).mono ?_); rintro e w5 ⟨rfl, hb⟩; refine ⟨_, rfl, ?_⟩; have n0_ := Aside0.mk (below_step (by repeat (first | (with_reducible first | exact HB.out | apply below_alloc | apply pw_below_drewN | apply below_drew1) | exact HB.out)) hb); clear HB; have HB := n0_; clear n0_; (try clear hb); (try clear hb2); (try clear hk); (try clear hi)))
  (try simp only [Act.put, List.setIfInBounds_toArray, List.set_cons_zero, List.set_cons_succ])
  go_cut [25] (fun v25 wc => ∃ (kq : Nat) (x25_3 : Bool), v25 = .bool x25_3 ∧ Aside0 (fuseelaw06_UnitsParts.j0 kq l0 l1 t173 x25_3 = some r) ∧ Aside0 (kq ≤ k) ∧ Aside0 (Below w.heap.size w wc))
  case first =>
    have H := HC4.out
    clear HC4
    by_cases c6 : t173 = true
    · subst c6
      have H1 : (if (l0.length : Int) > 500 then (fuseelaw06_UnitsParts.j0 k l0 l1 true true) else (fuseelaw06_UnitsParts.j0 k l0 l1 true (decide ((l1.length : Int) > 500)))) = some r := by rw [if_pos rfl] at H; exact H
      clear H
      have H := H1
      clear H1
      by_cases c7 : (l0.length : Int) > 500
      · rw [if_pos c7] at H
        have c7b0 : decide (500 < (l0.length : Int)) = true := decide_eq_true c7
        have c7b1 : decide (500 < l0.length) = true := decide_eq_true (by omega)
        clear c7
        (first | rw [c7b0] | (simp only [i64_w, i32_w]; rw [c7b0]) | skip)
        have H' := Aside0.mk H
        clear H
        go_wp2
        go_meet
        case rel => exact ⟨_, (true), (by first | rfl | (simp; done) | (simp [*]; done)), H', ⟨by first | omega | exact Nat.le_refl _⟩, ⟨by repeat (first | (with_reducible first | exact HB.out | apply below_alloc | apply pw_below_drewN | apply below_drew1) | exact HB.out)⟩⟩
      · rw [if_neg c7] at H
        have c7b0 : decide (500 < (l0.length : Int)) = false := decide_eq_false c7
        have c7b1 : decide (500 < l0.length) = false := decide_eq_false (by omega)
        clear c7
        (first | rw [c7b0] | (simp only [i64_w, i32_w]; rw [c7b0]) | skip)
        have H' := Aside0.mk H
        clear H
        go_wp2
        go_meet
        case rel => exact ⟨_, (decide ((l1.length : Int) > 500)), (by first | rfl | (simp; done) | (simp [*]; done)), H', ⟨by first | omega | exact Nat.le_refl _⟩, ⟨by repeat (first | (with_reducible first | exact HB.out | apply below_alloc | apply pw_below_drewN | apply below_drew1) | exact HB.out)⟩⟩
    · replace c6 := Bool.eq_false_iff.mpr c6
      subst c6
      have H1 : (fuseelaw06_UnitsParts.j0 k l0 l1 false true) = some r := by rw [if_neg (show ¬ (false = true) by decide)] at H; exact H
      clear H
      have H := H1
      clear H1
      have H' := Aside0.mk H
      clear H
      go_wp2
      go_meet
      case rel => exact ⟨_, (true), (by first | rfl | (simp; done) | (simp [*]; done)), H', ⟨by first | omega | exact Nat.le_refl _⟩, ⟨by repeat (first | (with_reducible first | exact HB.out | apply below_alloc | apply pw_below_drewN | apply below_drew1) | exact HB.out)⟩⟩
  case rest =>
    clear HC4
    try clear c1
    try clear p2
    try clear c5
    try clear c6
    try clear c7
    try clear c7b0
    try clear c7b1
    obtain ⟨kq, x25_3, rfl, HA, HJ3, HB⟩ := hcut
    cases kq with
    | zero => exact absurd HA.out (by simp [fuseelaw06_UnitsParts.j0])
    | succ kj3 =>
      have H := HA.out
      clear HA
      simp only [fuseelaw06_UnitsParts.j0] at H
      by_cases c8 : x25_3 = true
      · subst c8
        have H1 : (some t173) = some r := by rw [if_pos rfl] at H; exact H
        clear H
        have H := H1
        clear H1
        obtain rfl := Option.some.inj H
        go_wp2
        go_ret
        exact ⟨by first | rfl | (simp [errW_none, errW_some] <;> rfl) | (simp [*, errW_none, errW_some] <;> rfl) | (exfalso; first | exact absurd ‹(false != false) = true› (by decide) | exact absurd ‹(true != true) = true› (by decide) | exact absurd ‹(true != false) = false› (by decide) | exact absurd ‹(false != true) = false› (by decide) | exact absurd ‹(false == false) = false› (by decide) | exact absurd ‹(true == true) = false› (by decide) | exact absurd ‹(true == false) = true› (by decide) | exact absurd ‹(false == true) = true› (by decide)), by repeat (first | (with_reducible first | exact HB.out | apply below_alloc | apply pw_below_drewN | apply below_drew1) | exact HB.out)⟩
      · replace c8 := Bool.eq_false_iff.mpr c8
        subst c8
        have H1 : (if ([] : List Int).length + l0.length < 17592186044416 then ((some (([] : List Int) ++ l0 : List Int)).bind fun y174 => (if y174.length + l1.length < 17592186044416 then ((some (y174 ++ l1 : List Int)).bind fun y177 => ((units_Sum.f l0).bind fun bt180 => ((units_Sum.f l1).bind fun bt182 => ((units_Sum.f y177).bind fun bt184 => (if bt180.2 = true then (if (bt184.2 != bt182.2) = true then (fuseelaw06_UnitsParts.j1 kj3 l0 l1 y177 true) else (if bt184.2 = true then (if bt184.1 = (wrap64 (bt180.1 + bt182.1)) then (fuseelaw06_UnitsParts.j1 kj3 l0 l1 y177 false) else (fuseelaw06_UnitsParts.j1 kj3 l0 l1 y177 true)) else (fuseelaw06_UnitsParts.j1 kj3 l0 l1 y177 (bt184.1 != 0)))) else (if (bt184.2 != false) = true then (fuseelaw06_UnitsParts.j1 kj3 l0 l1 y177 true) else (if bt184.2 = true then (if bt184.1 = (wrap64 (bt180.1 + bt182.1)) then (fuseelaw06_UnitsParts.j1 kj3 l0 l1 y177 false) else (fuseelaw06_UnitsParts.j1 kj3 l0 l1 y177 true)) else (fuseelaw06_UnitsParts.j1 kj3 l0 l1 y177 (bt184.1 != 0))))))))) else (none))) else (none)) = some r := by rw [if_neg (show ¬ (false = true) by decide)] at H; exact H
        clear H
        have H := H1
        clear H1
        by_cases c9 : ([] : List Int).length + l0.length < 17592186044416
        · rw [if_pos c9] at H
          have LMc9 := Aside0.mk c9
          clear c9
          obtain ⟨y174, hy174⟩ : ∃ y_ : List Int, y_ = (([] : List Int) ++ l0) := ⟨_, rfl⟩
          replace H : (if y174.length + l1.length < 17592186044416 then ((some (y174 ++ l1 : List Int)).bind fun y177 => ((units_Sum.f l0).bind fun bt180 => ((units_Sum.f l1).bind fun bt182 => ((units_Sum.f y177).bind fun bt184 => (if bt180.2 = true then (if (bt184.2 != bt182.2) = true then (fuseelaw06_UnitsParts.j1 kj3 l0 l1 y177 true) else (if bt184.2 = true then (if bt184.1 = (wrap64 (bt180.1 + bt182.1)) then (fuseelaw06_UnitsParts.j1 kj3 l0 l1 y177 false) else (fuseelaw06_UnitsParts.j1 kj3 l0 l1 y177 true)) else (fuseelaw06_UnitsParts.j1 kj3 l0 l1 y177 (bt184.1 != 0)))) else (if (bt184.2 != false) = true then (fuseelaw06_UnitsParts.j1 kj3 l0 l1 y177 true) else (if bt184.2 = true then (if bt184.1 = (wrap64 (bt180.1 + bt182.1)) then (fuseelaw06_UnitsParts.j1 kj3 l0 l1 y177 false) else (fuseelaw06_UnitsParts.j1 kj3 l0 l1 y177 true)) else (fuseelaw06_UnitsParts.j1 kj3 l0 l1 y177 (bt184.1 != 0))))))))) else (none)) = some r := by first | (rw [hy174]; with_reducible exact H) | (have H2_ := (Option.bind_some _ _).symm.trans H; rw [hy174]; with_reducible exact H2_) | (have H2_ := (Option.bind_some _ _).symm.trans H; with_reducible exact H2_) | with_reducible exact H | (rw [hy174]; exact H) | exact H
          have Ny174 := Aside0.mk hy174
          clear hy174
          by_cases c10 : y174.length + l1.length < 17592186044416
          · rw [if_pos c10] at H
            have LMc10 := Aside0.mk c10
            clear c10
            obtain ⟨y177, hy177⟩ : ∃ y_ : List Int, y_ = (y174 ++ l1) := ⟨_, rfl⟩
            replace H : ((units_Sum.f l0).bind fun bt180 => ((units_Sum.f l1).bind fun bt182 => ((units_Sum.f y177).bind fun bt184 => (if bt180.2 = true then (if (bt184.2 != bt182.2) = true then (fuseelaw06_UnitsParts.j1 kj3 l0 l1 y177 true) else (if bt184.2 = true then (if bt184.1 = (wrap64 (bt180.1 + bt182.1)) then (fuseelaw06_UnitsParts.j1 kj3 l0 l1 y177 false) else (fuseelaw06_UnitsParts.j1 kj3 l0 l1 y177 true)) else (fuseelaw06_UnitsParts.j1 kj3 l0 l1 y177 (bt184.1 != 0)))) else (if (bt184.2 != false) = true then (fuseelaw06_UnitsParts.j1 kj3 l0 l1 y177 true) else (if bt184.2 = true then (if bt184.1 = (wrap64 (bt180.1 + bt182.1)) then (fuseelaw06_UnitsParts.j1 kj3 l0 l1 y177 false) else (fuseelaw06_UnitsParts.j1 kj3 l0 l1 y177 true)) else (fuseelaw06_UnitsParts.j1 kj3 l0 l1 y177 (bt184.1 != 0)))))))) = some r := by first | (rw [hy177]; with_reducible exact H) | (have H2_ := (Option.bind_some _ _).symm.trans H; rw [hy177]; with_reducible exact H2_) | (have H2_ := (Option.bind_some _ _).symm.trans H; with_reducible exact H2_) | with_reducible exact H | (rw [hy177]; exact H) | exact H
            have Ny177 := Aside0.mk hy177
            clear hy177
            replace H := Option.bind_eq_some_iff.mp H
            obtain ⟨⟨t180, t181⟩, A110, H⟩ := H
            replace H : ((units_Sum.f l1).bind fun bt182 => ((units_Sum.f y177).bind fun bt184 => (if t181 = true then (if (bt184.2 != bt182.2) = true then (fuseelaw06_UnitsParts.j1 kj3 l0 l1 y177 true) else (if bt184.2 = true then (if bt184.1 = (wrap64 (t180 + bt182.1)) then (fuseelaw06_UnitsParts.j1 kj3 l0 l1 y177 false) else (fuseelaw06_UnitsParts.j1 kj3 l0 l1 y177 true)) else (fuseelaw06_UnitsParts.j1 kj3 l0 l1 y177 (bt184.1 != 0)))) else (if (bt184.2 != false) = true then (fuseelaw06_UnitsParts.j1 kj3 l0 l1 y177 true) else (if bt184.2 = true then (if bt184.1 = (wrap64 (t180 + bt182.1)) then (fuseelaw06_UnitsParts.j1 kj3 l0 l1 y177 false) else (fuseelaw06_UnitsParts.j1 kj3 l0 l1 y177 true)) else (fuseelaw06_UnitsParts.j1 kj3 l0 l1 y177 (bt184.1 != 0))))))) = some r := H
            have A11 := Aside0.mk A110
            clear A110
            replace H := Option.bind_eq_some_iff.mp H
            obtain ⟨⟨t182, t183⟩, A120, H⟩ := H
            replace H : ((units_Sum.f y177).bind fun bt184 => (if t181 = true then (if (bt184.2 != t183) = true then (fuseelaw06_UnitsParts.j1 kj3 l0 l1 y177 true) else (if bt184.2 = true then (if bt184.1 = (wrap64 (t180 + t182)) then (fuseelaw06_UnitsParts.j1 kj3 l0 l1 y177 false) else (fuseelaw06_UnitsParts.j1 kj3 l0 l1 y177 true)) else (fuseelaw06_UnitsParts.j1 kj3 l0 l1 y177 (bt184.1 != 0)))) else (if (bt184.2 != false) = true then (fuseelaw06_UnitsParts.j1 kj3 l0 l1 y177 true) else (if bt184.2 = true then (if bt184.1 = (wrap64 (t180 + t182)) then (fuseelaw06_UnitsParts.j1 kj3 l0 l1 y177 false) else (fuseelaw06_UnitsParts.j1 kj3 l0 l1 y177 true)) else (fuseelaw06_UnitsParts.j1 kj3 l0 l1 y177 (bt184.1 != 0)))))) = some r := H
            have A12 := Aside0.mk A120
            clear A120
            replace H := Option.bind_eq_some_iff.mp H
            obtain ⟨⟨t184, t185⟩, A130, H⟩ := H
            replace H : (if t181 = true then (if (t185 != t183) = true then (fuseelaw06_UnitsParts.j1 kj3 l0 l1 y177 true) else (if t185 = true then (if t184 = (wrap64 (t180 + t182)) then (fuseelaw06_UnitsParts.j1 kj3 l0 l1 y177 false) else (fuseelaw06_UnitsParts.j1 kj3 l0 l1 y177 true)) else (fuseelaw06_UnitsParts.j1 kj3 l0 l1 y177 (t184 != 0)))) else (if (t185 != false) = true then (fuseelaw06_UnitsParts.j1 kj3 l0 l1 y177 true) else (if t185 = true then (if t184 = (wrap64 (t180 + t182)) then (fuseelaw06_UnitsParts.j1 kj3 l0 l1 y177 false) else (fuseelaw06_UnitsParts.j1 kj3 l0 l1 y177 true)) else (fuseelaw06_UnitsParts.j1 kj3 l0 l1 y177 (t184 != 0))))) = some r := H
            have A13 := Aside0.mk A130
            clear A130
            have HC14 := Aside0.mk H
            clear H
            go_upto_region 8 with (first | ((with_reducible refine gate_builtin (b := .append) (xs := #[.const (.slice none 0 0), .tmp 27]) rfl ?_); (try (refine gate_guard (by rfl) ?_; dsimp only)); at_builtin; refine Kd.R_append_rows (Kd.int .i64) (w0 := w) w.heap.size rfl (.const (.slice none 0 0)) (.tmp 27) 24 3 (.int .i64 0) 8 rfl Try.underlying24 info3 rfl (by decide) (by omega) (.slice none 0 0) ([] : List Int) l0 _ _ _ (fun _ => True) (fun _ => False) rfl rfl ?aO ?aR (fun _ _ h => h) (fun _ h => h.elim) ?aF ?aB ?aS ?aL ?_; (case aR => repeat (first | exact (Kd.C_below HR0.out HB.out) | (with_reducible refine Kd.C_alloc ?_ _) | (with_reducible refine Kd.C_drewN ?_ _) | (with_reducible refine Kd.C_drew ?_))); (case aB => exact (by repeat (first | (with_reducible first | exact HB.out | apply below_alloc | apply pw_below_drewN | apply below_drew1) | exact HB.out))); (case aF => exact (fun _ _ => trivial)); (case aO => exact ((Kd.R_nil _ _ _ _ (fun _ => True)))); (case aS => exact (below_size (by repeat (first | (with_reducible first | exact HB.out | apply below_alloc | apply pw_below_drewN | apply below_drew1) | exact HB.out)))); (case aL => have := LMc9.out; omega); intro v175 w15 ho hb hg hat; rw [← Ny174.out] at ho; have n0_ := Aside0.mk (hb); have n1_ := Aside0.mk (ho); clear HB; have HB := n0_; have HO176 := n1_; clear n0_ n1_; clear ho hb hg hat) | ((with_reducible refine gate_builtin (b := .append) (xs := #[.tmp 28, .tmp 29]) rfl ?_); (try (refine gate_guard (by rfl) ?_; dsimp only)); at_builtin; refine Kd.R_append_rows (Kd.int .i64) (w0 := w) w.heap.size rfl (.tmp 28) (.tmp 29) 24 3 (.int .i64 0) 8 rfl Try.underlying24 info3 rfl (by decide) (by omega) v175 y174 l1 _ _ _ (fun _ => True) (fun _ => False) rfl rfl ?aO ?aR (fun _ _ h => h) (fun _ h => h.elim) ?aF ?aB ?aS ?aL ?_; (case aR => repeat (first | exact (Kd.C_below HR1.out HB.out) | (with_reducible refine Kd.C_alloc ?_ _) | (with_reducible refine Kd.C_drewN ?_ _) | (with_reducible refine Kd.C_drew ?_))); (case aB => exact (by repeat (first | (with_reducible first | exact HB.out | apply below_alloc | apply pw_below_drewN | apply below_drew1) | exact HB.out))); (case aF => exact (fun _ _ => trivial)); (case aO => exact (by (with_reducible repeat (first | apply Kd.R_alloc | apply Kd.R_drewN | apply Kd.R_drew)); exact HO176.out)); (case aS => exact (below_size (by repeat (first | (with_reducible first | exact HB.out | apply below_alloc | apply pw_below_drewN | apply below_drew1) | exact HB.out)))); (case aL => have := LMc10.out; omega); intro v178 w16 ho hb hg hat; rw [← Ny177.out] at ho; have n0_ := Aside0.mk (hb); have n1_ := Aside0.mk (ho); clear HB; clear HO176; have HB := n0_; have HO179 := n1_; clear n0_ n1_; clear ho hb hg hat) | ((with_reducible refine gate_callee (f := 9) rfl ?_); refine goesL_ (some 33) rfl rfl Try.func9 (by kernel_rfl) rfl #[.slice A0 l0.length c0] rfl (by (try simp only [List.map_toArray, List.map_cons, List.map_nil]); first | done | rfl | (simp only [List.length_drop, List.length_take]; rfl)) ?_; (with_reducible refine (units_Sum.calls _ _ l0 t180 t181 _ ?side1 ?side2 A11.out).mono ?_); (case side1 => repeat (first | exact (Kd.C_below HR0.out HB.out) | (with_reducible refine Kd.C_alloc ?_ _) | (with_reducible refine Kd.C_drewN ?_ _) | (with_reducible refine Kd.C_drew ?_))); (case side2 => exact HC0.out); rintro e w17 ⟨rfl, hb⟩; refine ⟨_, rfl, ?_⟩; have n0_ := Aside0.mk (Kd.R_below (by (with_reducible repeat (first | apply Kd.R_alloc | apply Kd.R_drewN | apply Kd.R_drew)); exact HO179.out) hb); have n1_ := Aside0.mk (below_step (by repeat (first | (with_reducible first | exact HB.out | apply below_alloc | apply pw_below_drewN | apply below_drew1) | exact HB.out)) hb); clear HO179; clear HB; have HO179 := n0_; have HB := n1_; clear n0_ n1_; (try clear hb); (try clear hb2); (try clear hk); (try clear hi)) | ((with_reducible refine gate_callee (f := 9) rfl ?_); refine goesL_ (some 38) rfl rfl Try.func9 (by kernel_rfl) rfl #[.slice A1 l1.length c1] rfl (by (try simp only [List.map_toArray, List.map_cons, List.map_nil]); first | done | rfl | (simp only [List.length_drop, List.length_take]; rfl)) ?_; (with_reducible refine (units_Sum.calls _ _ l1 t182 t183 _ ?side1 ?side2 A12.out).mono ?_); (case side1 => repeat (first | exact (Kd.C_below HR1.out HB.out) | (with_reducible refine Kd.C_alloc ?_ _) | (with_reducible refine Kd.C_drewN ?_ _) | (with_reducible refine Kd.C_drew ?_))); (case side2 => exact HC1.out); rintro e w18 ⟨rfl, hb⟩; refine ⟨_, rfl, ?_⟩; have n0_ := Aside0.mk (Kd.R_below (by (with_reducible repeat (first | apply Kd.R_alloc | apply Kd.R_drewN | apply Kd.R_drew)); exact HO179.out) hb); have n1_ := Aside0.mk (below_step (by repeat (first | (with_reducible first | exact HB.out | apply below_alloc | apply pw_below_drewN | apply below_drew1) | exact HB.out)) hb); clear HO179; clear HB; have HO179 := n0_; have HB := n1_; clear n0_ n1_; (try clear hb); (try clear hb2); (try clear hk); (try clear hi); obtain ⟨Ao19, co19, eo19⟩ := Kd.R_slice HO179.out; subst eo19) | ((with_reducible refine gate_callee (f := 9) rfl ?_); refine goesL_ (some 43) rfl rfl Try.func9 (by kernel_rfl) rfl #[.slice Ao19 y177.length co19] rfl (by (try simp only [List.map_toArray, List.map_cons, List.map_nil]); first | done | rfl | (simp only [List.length_drop, List.length_take]; rfl)) ?_; (with_reducible refine (units_Sum.calls _ _ y177 t184 t185 _ ?side1 ?side2 A13.out).mono ?_); (case side1 => repeat (first | exact (Kd.R_reads' HO179.out).2.2 | (with_reducible refine Kd.C_alloc ?_ _) | (with_reducible refine Kd.C_drewN ?_ _) | (with_reducible refine Kd.C_drew ?_))); (case side2 => exact (Kd.R_reads' HO179.out).2.1); rintro e w20 ⟨rfl, hb⟩; refine ⟨_, rfl, ?_⟩; have n0_ := Aside0.mk (Kd.R_below (by (with_reducible repeat (first | apply Kd.R_alloc | apply Kd.R_drewN | apply Kd.R_drew)); exact HO179.out) hb); have n1_ := Aside0.mk (below_step (by repeat (first | (with_reducible first | exact HB.out | apply below_alloc | apply pw_below_drewN | apply below_drew1) | exact HB.out)) hb); clear HO179; clear HB; have HO179 := n0_; have HB := n1_; clear n0_ n1_; (try clear hb); (try clear hb2); (try clear hk); (try clear hi)))
            (try simp only [Act.put, List.setIfInBounds_toArray, List.set_cons_zero, List.set_cons_succ])
            go_cut [69] (fun v69 wc => ∃ (kq : Nat) (x69_13 : Bool), v69 = .bool x69_13 ∧ Aside0 (fuseelaw06_UnitsParts.j1 kq l0 l1 y177 x69_13 = some r) ∧ Aside0 (kq ≤ kj3) ∧ Aside0 (Kd.R (Kd.int .i64) 3 wc w.heap.size (fun _ => True) (.slice Ao19 y177.length co19) y177) ∧ Aside0 (Below w.heap.size w wc))
            case first =>
              have H := HC14.out
              clear HC14
              by_cases c21 : t181 = true
              · subst c21
                have H1 : (if (t185 != t183) = true then (fuseelaw06_UnitsParts.j1 kj3 l0 l1 y177 true) else (if t185 = true then (if t184 = (wrap64 (t180 + t182)) then (fuseelaw06_UnitsParts.j1 kj3 l0 l1 y177 false) else (fuseelaw06_UnitsParts.j1 kj3 l0 l1 y177 true)) else (fuseelaw06_UnitsParts.j1 kj3 l0 l1 y177 (t184 != 0)))) = some r := by rw [if_pos rfl] at H; exact H
                clear H
                have H := H1
                clear H1
                by_cases c22 : (t185 != t183) = true
                · rw [if_pos c22] at H
                  have c22b0 : (t185 != t183) = true := c22
                  (try (have c22b1 : decide (t185 = t183) = false := by simpa using c22))
                  (try (have c22b2 : (t185 == t183) = false := by simpa using c22))
                  (try (have c22b3 : ¬ (t185 = t183) := by simpa using c22))
                  clear c22
                  (first | rw [c22b0] | (simp only [i64_w, i32_w]; rw [c22b0]) | skip)
                  have H' := Aside0.mk H
                  clear H
                  go_wp2
                  go_meet
                  case rel => exact ⟨_, (true), (by first | rfl | (simp; done) | (simp [*]; done)), H', ⟨by have := HJ3.out; first | omega | exact Nat.le_refl _⟩, ⟨by (with_reducible repeat (first | apply Kd.R_alloc | apply Kd.R_drewN | apply Kd.R_drew)); exact HO179.out⟩, ⟨by repeat (first | (with_reducible first | exact HB.out | apply below_alloc | apply pw_below_drewN | apply below_drew1) | exact HB.out)⟩⟩
                · rw [if_neg c22] at H
                  have c22b0 : (t185 != t183) = false := by simpa using c22
                  (try (have c22b1 : decide (t185 = t183) = true := by simpa using c22))
                  (try (have c22b2 : (t185 == t183) = true := by simpa using c22))
                  clear c22
                  (first | rw [c22b0] | (simp only [i64_w, i32_w]; rw [c22b0]) | skip)
                  by_cases c23 : t185 = true
                  · subst c23
                    have H1 : (if t184 = (wrap64 (t180 + t182)) then (fuseelaw06_UnitsParts.j1 kj3 l0 l1 y177 false) else (fuseelaw06_UnitsParts.j1 kj3 l0 l1 y177 true)) = some r := by rw [if_pos rfl] at H; exact H
                    clear H
                    have H := H1
                    clear H1
                    by_cases c24 : t184 = (wrap64 (t180 + t182))
                    · rw [if_pos c24] at H
                      have c24b0 : (t184 == (wrap64 (t180 + t182))) = true := beq_iff_eq.mpr c24
                      have c24b1 : (t184 != (wrap64 (t180 + t182))) = false := bne_eq_false_iff_eq.mpr c24
                      clear c24
                      have H' := Aside0.mk H
                      clear H
                      go_wp2
                      go_meet
                      case rel => exact ⟨_, (false), (by first | rfl | (simp; done) | (simp [*]; done)), H', ⟨by have := HJ3.out; first | omega | exact Nat.le_refl _⟩, ⟨by (with_reducible repeat (first | apply Kd.R_alloc | apply Kd.R_drewN | apply Kd.R_drew)); exact HO179.out⟩, ⟨by repeat (first | (with_reducible first | exact HB.out | apply below_alloc | apply pw_below_drewN | apply below_drew1) | exact HB.out)⟩⟩
                    · rw [if_neg c24] at H
                      have c24b0 : (t184 == (wrap64 (t180 + t182))) = false := beq_eq_false_iff_ne.mpr c24
                      have c24b1 : (t184 != (wrap64 (t180 + t182))) = true := bne_iff_ne.mpr c24
                      have H' := Aside0.mk H
                      clear H
                      go_wp2
                      go_meet
                      case rel => exact ⟨_, (true), (by first | rfl | (simp; done) | (simp [*]; done)), H', ⟨by have := HJ3.out; first | omega | exact Nat.le_refl _⟩, ⟨by (with_reducible repeat (first | apply Kd.R_alloc | apply Kd.R_drewN | apply Kd.R_drew)); exact HO179.out⟩, ⟨by repeat (first | (with_reducible first | exact HB.out | apply below_alloc | apply pw_below_drewN | apply below_drew1) | exact HB.out)⟩⟩
                  · replace c23 := Bool.eq_false_iff.mpr c23
                    subst c23
                    have H1 : (fuseelaw06_UnitsParts.j1 kj3 l0 l1 y177 (t184 != 0)) = some r := by rw [if_neg (show ¬ (false = true) by decide)] at H; exact H
                    clear H
                    have H := H1
                    clear H1
                    have H' := Aside0.mk H
                    clear H
                    go_wp2
                    go_meet
                    case rel => exact ⟨_, ((t184 != 0)), (by first | rfl | (simp; done) | (simp [*]; done)), H', ⟨by have := HJ3.out; first | omega | exact Nat.le_refl _⟩, ⟨by (with_reducible repeat (first | apply Kd.R_alloc | apply Kd.R_drewN | apply Kd.R_drew)); exact HO179.out⟩, ⟨by repeat (first | (with_reducible first | exact HB.out | apply below_alloc | apply pw_below_drewN | apply below_drew1) | exact HB.out)⟩⟩
              · replace c21 := Bool.eq_false_iff.mpr c21
                subst c21
                have H1 : (if (t185 != false) = true then (fuseelaw06_UnitsParts.j1 kj3 l0 l1 y177 true) else (if t185 = true then (if t184 = (wrap64 (t180 + t182)) then (fuseelaw06_UnitsParts.j1 kj3 l0 l1 y177 false) else (fuseelaw06_UnitsParts.j1 kj3 l0 l1 y177 true)) else (fuseelaw06_UnitsParts.j1 kj3 l0 l1 y177 (t184 != 0)))) = some r := by rw [if_neg (show ¬ (false = true) by decide)] at H; exact H
                clear H
                have H := H1
                clear H1
                by_cases c25 : (t185 != false) = true
                · rw [if_pos c25] at H
                  have c25b0 : (t185 != false) = true := c25
                  (try (have c25b1 : decide (t185 = false) = false := by simpa using c25))
                  (try (have c25b2 : (t185 == false) = false := by simpa using c25))
                  (try (have c25b3 : ¬ (t185 = false) := by simpa using c25))
                  clear c25
                  have H' := Aside0.mk H
                  clear H
                  go_wp2
                  go_meet
                  case rel => exact ⟨_, (true), (by first | rfl | (simp; done) | (simp [*]; done)), H', ⟨by have := HJ3.out; first | omega | exact Nat.le_refl _⟩, ⟨by (with_reducible repeat (first | apply Kd.R_alloc | apply Kd.R_drewN | apply Kd.R_drew)); exact HO179.out⟩, ⟨by repeat (first | (with_reducible first | exact HB.out | apply below_alloc | apply pw_below_drewN | apply below_drew1) | exact HB.out)⟩⟩
                · rw [if_neg c25] at H
                  have c25b0 : (t185 != false) = false := by simpa using c25
                  (try (have c25b1 : decide (t185 = false) = true := by simpa using c25))
                  (try (have c25b2 : (t185 == false) = true := by simpa using c25))
                  clear c25
                  by_cases c26 : t185 = true
                  · subst c26
                    have H1 : (if t184 = (wrap64 (t180 + t182)) then (fuseelaw06_UnitsParts.j1 kj3 l0 l1 y177 false) else (fuseelaw06_UnitsParts.j1 kj3 l0 l1 y177 true)) = some r := by rw [if_pos rfl] at H; exact H
                    clear H
                    have H := H1
                    clear H1
                    by_cases c27 : t184 = (wrap64 (t180 + t182))
                    · rw [if_pos c27] at H
                      have c27b0 : (t184 == (wrap64 (t180 + t182))) = true := beq_iff_eq.mpr c27
                      have c27b1 : (t184 != (wrap64 (t180 + t182))) = false := bne_eq_false_iff_eq.mpr c27
                      clear c27
                      have H' := Aside0.mk H
                      clear H
                      go_wp2
                      go_meet
                      case rel => exact ⟨_, (false), (by first | rfl | (simp; done) | (simp [*]; done)), H', ⟨by have := HJ3.out; first | omega | exact Nat.le_refl _⟩, ⟨by (with_reducible repeat (first | apply Kd.R_alloc | apply Kd.R_drewN | apply Kd.R_drew)); exact HO179.out⟩, ⟨by repeat (first | (with_reducible first | exact HB.out | apply below_alloc | apply pw_below_drewN | apply below_drew1) | exact HB.out)⟩⟩
                    · rw [if_neg c27] at H
                      have c27b0 : (t184 == (wrap64 (t180 + t182))) = false := beq_eq_false_iff_ne.mpr c27
                      have c27b1 : (t184 != (wrap64 (t180 + t182))) = true := bne_iff_ne.mpr c27
                      have H' := Aside0.mk H
                      clear H
                      go_wp2
                      go_meet
                      case rel => exact ⟨_, (true), (by first | rfl | (simp; done) | (simp [*]; done)), H', ⟨by have := HJ3.out; first | omega | exact Nat.le_refl _⟩, ⟨by (with_reducible repeat (first | apply Kd.R_alloc | apply Kd.R_drewN | apply Kd.R_drew)); exact HO179.out⟩, ⟨by repeat (first | (with_reducible first | exact HB.out | apply below_alloc | apply pw_below_drewN | apply below_drew1) | exact HB.out)⟩⟩
                  · replace c26 := Bool.eq_false_iff.mpr c26
                    subst c26
                    have H1 : (fuseelaw06_UnitsParts.j1 kj3 l0 l1 y177 (t184 != 0)) = some r := by rw [if_neg (show ¬ (false = true) by decide)] at H; exact H
                    clear H
                    have H := H1
                    clear H1
                    have H' := Aside0.mk H
                    clear H
                    go_wp2
                    go_meet
                    case rel => exact ⟨_, ((t184 != 0)), (by first | rfl | (simp; done) | (simp [*]; done)), H', ⟨by have := HJ3.out; first | omega | exact Nat.le_refl _⟩, ⟨by (with_reducible repeat (first | apply Kd.R_alloc | apply Kd.R_drewN | apply Kd.R_drew)); exact HO179.out⟩, ⟨by repeat (first | (with_reducible first | exact HB.out | apply below_alloc | apply pw_below_drewN | apply below_drew1) | exact HB.out)⟩⟩
            case rest =>
              clear HC14
              try clear c1
              try clear c2
              try clear p2
              try clear c5
              try clear c6
              try clear p6
              try clear c7
              try clear c7b0
              try clear c7b1
              try clear c8
              try clear c9
              try clear c10
              try clear c21
              try clear c22
              try clear c22b0
              try clear c22b1
              try clear c22b2
              try clear c23
              try clear c24
              try clear c24b0
              try clear c24b1
              try clear c25
              try clear c25b0
              try clear c25b1
              try clear c25b2
              try clear c26
              try clear c27
              try clear c27b0
              try clear c27b1
              try clear p2
              obtain ⟨kq, x69_13, rfl, HA, HJ13, HO_6, HB⟩ := hcut
              cases kq with
              | zero => exact absurd HA.out (by simp [fuseelaw06_UnitsParts.j1])
              | succ kj13 =>
                have H := HA.out
                clear HA
                simp only [fuseelaw06_UnitsParts.j1] at H
                by_cases c28 : x69_13 = true
                · subst c28
                  have H1 : (some false) = some r := by rw [if_pos rfl] at H; exact H
                  clear H
                  have H := H1
                  clear H1
                  obtain rfl := Option.some.inj H
                  go_wp2
                  go_ret
                  exact ⟨by first | rfl | (simp [errW_none, errW_some] <;> rfl) | (simp [*, errW_none, errW_some] <;> rfl) | (exfalso; first | exact absurd ‹(false != false) = true› (by decide) | exact absurd ‹(true != true) = true› (by decide) | exact absurd ‹(true != false) = false› (by decide) | exact absurd ‹(false != true) = false› (by decide) | exact absurd ‹(false == false) = false› (by decide) | exact absurd ‹(true == true) = false› (by decide) | exact absurd ‹(true == false) = true› (by decide) | exact absurd ‹(false == true) = true› (by decide)), by repeat (first | (with_reducible first | exact HB.out | apply below_alloc | apply pw_below_drewN | apply below_drew1) | exact HB.out)⟩
                · replace c28 := Bool.eq_false_iff.mpr c28
                  subst c28
                  have H1 : ((units_Fits.f y177).bind fun t186 => (if t186 = true then ((units_Fits.f l0).bind fun t187 => (if t187 = true then ((units_Fits.f l1).bind fun t188 => (some t188)) else (some false))) else (some true))) = some r := by rw [if_neg (show ¬ (false = true) by decide)] at H; exact H
                  clear H
                  have H := H1
                  clear H1
                  replace H := Option.bind_eq_some_iff.mp H
                  obtain ⟨t186, A290, H⟩ := H
                  replace H : (if t186 = true then ((units_Fits.f l0).bind fun t187 => (if t187 = true then ((units_Fits.f l1).bind fun t188 => (some t188)) else (some false))) else (some true)) = some r := H
                  have A29 := Aside0.mk A290
                  clear A290
                  by_cases c30 : t186 = true
                  · subst c30
                    have H1 : ((units_Fits.f l0).bind fun t187 => (if t187 = true then ((units_Fits.f l1).bind fun t188 => (some t188)) else (some false))) = some r := by rw [if_pos rfl] at H; exact H
                    clear H
                    have H := H1
                    clear H1
                    replace H := Option.bind_eq_some_iff.mp H
                    obtain ⟨t187, A310, H⟩ := H
                    replace H : (if t187 = true then ((units_Fits.f l1).bind fun t188 => (some t188)) else (some false)) = some r := H
                    have A31 := Aside0.mk A310
                    clear A310
                    by_cases c32 : t187 = true
                    · subst c32
                      have H1 : ((units_Fits.f l1).bind fun t188 => (some t188)) = some r := by rw [if_pos rfl] at H; exact H
                      clear H
                      have H := H1
                      clear H1
                      replace H := Option.bind_eq_some_iff.mp H
                      obtain ⟨t188, A330, H⟩ := H
                      replace H : (some t188) = some r := H
                      have A33 := Aside0.mk A330
                      clear A330
                      obtain rfl := Option.some.inj H
                      go_wp2_with (first | ((with_reducible refine gate_callee (f := 17) rfl ?_); refine goesL_ (some 71) rfl rfl Try.func17 (by kernel_rfl) rfl #[.slice Ao19 y177.length co19] rfl (by (try simp only [List.map_toArray, List.map_cons, List.map_nil]); first | done | rfl | (simp only [List.length_drop, List.length_take]; rfl)) ?_; (with_reducible refine (units_Fits.calls _ _ y177 true _ ?side1 ?side2 A29.out).mono ?_); (case side1 => repeat (first | exact (Kd.R_reads' HO_6.out).2.2 | (with_reducible refine Kd.C_alloc ?_ _) | (with_reducible refine Kd.C_drewN ?_ _) | (with_reducible refine Kd.C_drew ?_))); (case side2 => exact (Kd.R_reads' HO_6.out).2.1); rintro e w34 ⟨rfl, hb⟩; refine ⟨_, rfl, ?_⟩; have n0_ := Aside0.mk (Kd.R_below (by (with_reducible repeat (first | apply Kd.R_alloc | apply Kd.R_drewN | apply Kd.R_drew)); exact HO_6.out) hb); have n1_ := Aside0.mk (below_step (by repeat (first | (with_reducible first | exact HB.out | apply below_alloc | apply pw_below_drewN | apply below_drew1) | exact HB.out)) hb); clear HO_6; clear HB; have HO_6 := n0_; have HB := n1_; clear n0_ n1_; (try clear hb); (try clear hb2); (try clear hk); (try clear hi)) | (go_at_call 17; (with_reducible refine (units_Fits.calls _ _ l0 true _ ?side1 ?side2 A31.out).mono ?_); (case side1 => repeat (first | exact (Kd.C_below HR0.out HB.out) | (with_reducible refine Kd.C_alloc ?_ _) | (with_reducible refine Kd.C_drewN ?_ _) | (with_reducible refine Kd.C_drew ?_))); (case side2 => exact HC0.out); rintro e w35 ⟨rfl, hb⟩; have n0_ := Aside0.mk (Kd.R_below (by (with_reducible repeat (first | apply Kd.R_alloc | apply Kd.R_drewN | apply Kd.R_drew)); exact HO_6.out) hb); have n1_ := Aside0.mk (below_step (by repeat (first | (with_reducible first | exact HB.out | apply below_alloc | apply pw_below_drewN | apply below_drew1) | exact HB.out)) hb); clear HO_6; clear HB; have HO_6 := n0_; have HB := n1_; clear n0_ n1_; (try clear hb); (try clear hb2); (try clear hk); (try clear hi)) | (go_at_call 17; (with_reducible refine (units_Fits.calls _ _ l1 t188 _ ?side1 ?side2 A33.out).mono ?_); (case side1 => repeat (first | exact (Kd.C_below HR1.out HB.out) | (with_reducible refine Kd.C_alloc ?_ _) | (with_reducible refine Kd.C_drewN ?_ _) | (with_reducible refine Kd.C_drew ?_))); (case side2 => exact HC1.out); rintro e w36 ⟨rfl, hb⟩; have n0_ := Aside0.mk (Kd.R_below (by (with_reducible repeat (first | apply Kd.R_alloc | apply Kd.R_drewN | apply Kd.R_drew)); exact HO_6.out) hb); have n1_ := Aside0.mk (below_step (by repeat (first | (with_reducible first | exact HB.out | apply below_alloc | apply pw_below_drewN | apply below_drew1) | exact HB.out)) hb); clear HO_6; clear HB; have HO_6 := n0_; have HB := n1_; clear n0_ n1_; (try clear hb); (try clear hb2); (try clear hk); (try clear hi)))
                      go_ret
                      exact ⟨by first | rfl | (simp [errW_none, errW_some] <;> rfl) | (simp [*, errW_none, errW_some] <;> rfl) | (exfalso; first | exact absurd ‹(false != false) = true› (by decide) | exact absurd ‹(true != true) = true› (by decide) | exact absurd ‹(true != false) = false› (by decide) | exact absurd ‹(false != true) = false› (by decide) | exact absurd ‹(false == false) = false› (by decide) | exact absurd ‹(true == true) = false› (by decide) | exact absurd ‹(true == false) = true› (by decide) | exact absurd ‹(false == true) = true› (by decide)), by repeat (first | (with_reducible first | exact HB.out | apply below_alloc | apply pw_below_drewN | apply below_drew1) | exact HB.out)⟩
                    · replace c32 := Bool.eq_false_iff.mpr c32
                      subst c32
                      have H1 : (some false) = some r := by rw [if_neg (show ¬ (false = true) by decide)] at H; exact H
                      clear H
                      have H := H1
                      clear H1
                      obtain rfl := Option.some.inj H
                      go_wp2_with (first | ((with_reducible refine gate_callee (f := 17) rfl ?_); refine goesL_ (some 71) rfl rfl Try.func17 (by kernel_rfl) rfl #[.slice Ao19 y177.length co19] rfl (by (try simp only [List.map_toArray, List.map_cons, List.map_nil]); first | done | rfl | (simp only [List.length_drop, List.length_take]; rfl)) ?_; (with_reducible refine (units_Fits.calls _ _ y177 true _ ?side1 ?side2 A29.out).mono ?_); (case side1 => repeat (first | exact (Kd.R_reads' HO_6.out).2.2 | (with_reducible refine Kd.C_alloc ?_ _) | (with_reducible refine Kd.C_drewN ?_ _) | (with_reducible refine Kd.C_drew ?_))); (case side2 => exact (Kd.R_reads' HO_6.out).2.1); rintro e w37 ⟨rfl, hb⟩; refine ⟨_, rfl, ?_⟩; have n0_ := Aside0.mk (Kd.R_below (by (with_reducible repeat (first | apply Kd.R_alloc | apply Kd.R_drewN | apply Kd.R_drew)); exact HO_6.out) hb); have n1_ := Aside0.mk (below_step (by repeat (first | (with_reducible first | exact HB.out | apply below_alloc | apply pw_below_drewN | apply below_drew1) | exact HB.out)) hb); clear HO_6; clear HB; have HO_6 := n0_; have HB := n1_; clear n0_ n1_; (try clear hb); (try clear hb2); (try clear hk); (try clear hi)) | (go_at_call 17; (with_reducible refine (units_Fits.calls _ _ l0 false _ ?side1 ?side2 A31.out).mono ?_); (case side1 => repeat (first | exact (Kd.C_below HR0.out HB.out) | (with_reducible refine Kd.C_alloc ?_ _) | (with_reducible refine Kd.C_drewN ?_ _) | (with_reducible refine Kd.C_drew ?_))); (case side2 => exact HC0.out); rintro e w38 ⟨rfl, hb⟩; have n0_ := Aside0.mk (Kd.R_below (by (with_reducible repeat (first | apply Kd.R_alloc | apply Kd.R_drewN | apply Kd.R_drew)); exact HO_6.out) hb); have n1_ := Aside0.mk (below_step (by repeat (first | (with_reducible first | exact HB.out | apply below_alloc | apply pw_below_drewN | apply below_drew1) | exact HB.out)) hb); clear HO_6; clear HB; have HO_6 := n0_; have HB := n1_; clear n0_ n1_; (try clear hb); (try clear hb2); (try clear hk); (try clear hi)))
                      go_ret
                      exact ⟨by first | rfl | (simp [errW_none, errW_some] <;> rfl) | (simp [*, errW_none, errW_some] <;> rfl) | (exfalso; first | exact absurd ‹(false != false) = true› (by decide) | exact absurd ‹(true != true) = true› (by decide) | exact absurd ‹(true != false) = false› (by decide) | exact absurd ‹(false != true) = false› (by decide) | exact absurd ‹(false == false) = false› (by decide) | exact absurd ‹(true == true) = false› (by decide) | exact absurd ‹(true == false) = true› (by decide) | exact absurd ‹(false == true) = true› (by decide)), by repeat (first | (with_reducible first | exact HB.out | apply below_alloc | apply pw_below_drewN | apply below_drew1) | exact HB.out)⟩
                  · replace c30 := Bool.eq_false_iff.mpr c30
                    subst c30
                    have H1 : (some true) = some r := by rw [if_neg (show ¬ (false = true) by decide)] at H; exact H
                    clear H
                    have H := H1
                    clear H1
                    obtain rfl := Option.some.inj H
                    go_wp2_with (first | ((with_reducible refine gate_callee (f := 17) rfl ?_); refine goesL_ (some 71) rfl rfl Try.func17 (by kernel_rfl) rfl #[.slice Ao19 y177.length co19] rfl (by (try simp only [List.map_toArray, List.map_cons, List.map_nil]); first | done | rfl | (simp only [List.length_drop, List.length_take]; rfl)) ?_; (with_reducible refine (units_Fits.calls _ _ y177 false _ ?side1 ?side2 A29.out).mono ?_); (case side1 => repeat (first | exact (Kd.R_reads' HO_6.out).2.2 | (with_reducible refine Kd.C_alloc ?_ _) | (with_reducible refine Kd.C_drewN ?_ _) | (with_reducible refine Kd.C_drew ?_))); (case side2 => exact (Kd.R_reads' HO_6.out).2.1); rintro e w39 ⟨rfl, hb⟩; refine ⟨_, rfl, ?_⟩; have n0_ := Aside0.mk (Kd.R_below (by (with_reducible repeat (first | apply Kd.R_alloc | apply Kd.R_drewN | apply Kd.R_drew)); exact HO_6.out) hb); have n1_ := Aside0.mk (below_step (by repeat (first | (with_reducible first | exact HB.out | apply below_alloc | apply pw_below_drewN | apply below_drew1) | exact HB.out)) hb); clear HO_6; clear HB; have HO_6 := n0_; have HB := n1_; clear n0_ n1_; (try clear hb); (try clear hb2); (try clear hk); (try clear hi)))
                    go_ret
                    exact ⟨by first | rfl | (simp [errW_none, errW_some] <;> rfl) | (simp [*, errW_none, errW_some] <;> rfl) | (exfalso; first | exact absurd ‹(false != false) = true› (by decide) | exact absurd ‹(true != true) = true› (by decide) | exact absurd ‹(true != false) = false› (by decide) | exact absurd ‹(false != true) = false› (by decide) | exact absurd ‹(false == false) = false› (by decide) | exact absurd ‹(true == true) = false› (by decide) | exact absurd ‹(true == false) = true› (by decide) | exact absurd ‹(false == true) = true› (by decide)), by repeat (first | (with_reducible first | exact HB.out | apply below_alloc | apply pw_below_drewN | apply below_drew1) | exact HB.out)⟩
          · rw [if_neg c10] at H
            exact absurd H (by simp)
        · rw [if_neg c9] at H
          exact absurd H (by simp)

/-- THE ONE PURE STATEMENT of fuseelaw06_UnitsParts: yours. -/
def fuseelaw06_UnitsParts.Pure : Prop := ∀ (l0 : List Int) (l1 : List Int), l0.length ≤ maxLen → l0.length * 8 ≤ 140737488351232 → (∀ x ∈ l0, (Lit.int .i64 x).wf = true) → l1.length ≤ maxLen → l1.length * 8 ≤ 140737488351232 → (∀ x ∈ l1, (Lit.int .i64 x).wf = true) → ∃ k, fuseelaw06_UnitsParts.f k l0 l1 = some true
theorem fuseelaw06_UnitsParts.walk (P : fuseelaw06_UnitsParts.Pure) (a0 : Option Addr) (len0 cap0 : Nat) (z0 : List Int) (a1 : Option Addr) (len1 cap1 : Nat) (z1 : List Int) (w : World) (w0 : (a0 = none ∧ len0 = 0 ∧ cap0 = 0 ∧ z0 = []) ∨ ∃ x, a0 = some x ∧ len0 ≤ cap0 ∧ cap0 ≤ maxLen ∧ z0.length = cap0 ∧ (∀ i, i < z0.length → w.cell? (x.add i) = some (.int .i64 (z0.getD i 0))) ∧ ∀ n ∈ z0, (Lit.int .i64 n).wf = true) (y0 : len0 * 8 ≤ 140737488351232) (w1 : (a1 = none ∧ len1 = 0 ∧ cap1 = 0 ∧ z1 = []) ∨ ∃ x, a1 = some x ∧ len1 ≤ cap1 ∧ cap1 ≤ maxLen ∧ z1.length = cap1 ∧ (∀ i, i < z1.length → w.cell? (x.add i) = some (.int .i64 (z1.getD i 0))) ∧ ∀ n ∈ z1, (Lit.int .i64 n).wf = true) (y1 : len1 * 8 ≤ 140737488351232) :
    Calls Try.prog 5 #[.slice a0 len0 cap0, .slice a1 len1 cap1] w fun e w' => e = .returned (.bool true) ∧ Below w.heap.size w w' := by
  obtain ⟨l0, rfl, hr0, hm0, hw0, hc0⟩ := ReadsInt.ofRowC w0
  obtain ⟨l1, rfl, hr1, hm1, hw1, hc1⟩ := ReadsInt.ofRowC w1
  obtain ⟨k, h⟩ := P l0 l1 hm0 y0 hw0 hm1 y1 hw1
  refine (fuseelaw06_UnitsParts.calls k _ _ l0 _ _ l1 true w (Kd.C_of_reads (d := (0 : Int)) (h1 := fun _ => rfl) hr0) hc0 (Kd.C_of_reads (d := (0 : Int)) (h1 := fun _ => rfl) hr1) hc1 h).mono ?_
  rintro e w' ⟨rfl, hd⟩
  exact ⟨rfl, hd⟩

end Go.Proofs.Ytkcpkglplhgjfaa.P
