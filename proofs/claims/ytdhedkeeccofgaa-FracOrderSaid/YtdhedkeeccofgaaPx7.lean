-- Written by a program of this session (hprint.py), out of the translation; functions that the print does not take are given by hand.
import Derived.Test.YtdhedkeeccofgaaPx0
import Derived.Test.YtdhedkeeccofgaaPx1
import Derived.Test.YtdhedkeeccofgaaPx6
namespace Go.Proofs.Ytdhedkeeccofgaa.P
open Go.RowKit Go.Proofs.YtdhedkeeccofgaaM Go.Proofs.YtdhedkeeccofgaaW.PrintWords Go.Proofs.YtdhedkeeccofgaaW.PrintLast Go.Proofs.YtdhedkeeccofgaaW.PrintMore
attribute [local go_sem] max2_int min2_int max_two min_two max_three min_three max_four min_four   -- for this text's walks alone
set_option linter.unusedVariables false
set_option linter.unusedSimpArgs false

/-! ### fuseelaw01_FracOrder: function 8 -/
def fuseelaw01_FracOrder.j0 : Nat → Int → Int → Int → Bool → Int → Bool → Int → Bool → Option (Bool)
  | 0, _, _, _, _, _, _, _, _ => none
  | k + 1, x0, x2, x14, x15, x18, x19, x20, x69 => if x69 = true then (some false) else (if x15 = true then (if x19 = true then (if x14 < 0 then (if x18 < 0 then (if x20 ≥ 0 then (some false) else ((frac_Cmp.f x0 1 x2 1).bind fun bt157 => (if bt157.2 = true then (if ((decide (bt157.1 < 0)) == (decide (x0 < x2))) = true then (some ((bt157.1 == 0) == (x0 == x2))) else (some false)) else (some true)))) else ((frac_Cmp.f x0 1 x2 1).bind fun bt159 => (if bt159.2 = true then (if ((decide (bt159.1 < 0)) == (decide (x0 < x2))) = true then (some ((bt159.1 == 0) == (x0 == x2))) else (some false)) else (some true)))) else ((frac_Cmp.f x0 1 x2 1).bind fun bt161 => (if bt161.2 = true then (if ((decide (bt161.1 < 0)) == (decide (x0 < x2))) = true then (some ((bt161.1 == 0) == (x0 == x2))) else (some false)) else (some true)))) else ((frac_Cmp.f x0 1 x2 1).bind fun bt163 => (if bt163.2 = true then (if ((decide (bt163.1 < 0)) == (decide (x0 < x2))) = true then (some ((bt163.1 == 0) == (x0 == x2))) else (some false)) else (some true)))) else ((frac_Cmp.f x0 1 x2 1).bind fun bt165 => (if bt165.2 = true then (if ((decide (bt165.1 < 0)) == (decide (x0 < x2))) = true then (some ((bt165.1 == 0) == (x0 == x2))) else (some false)) else (some true))))
def fuseelaw01_FracOrder.f (k : Nat) (a0 : Int) (a1 : Int) (a2 : Int) (a3 : Int) (a4 : Int) (a5 : Int) : Option (Bool) := (fuseelaw01_awake.f).bind fun t148 => ((frac_Cmp.f a0 a1 a2 a3).bind fun bt149 => ((frac_Cmp.f a2 a3 a0 a1).bind fun bt151 => ((frac_Cmp.f a2 a3 a4 a5).bind fun bt153 => ((frac_Cmp.f a0 a1 a4 a5).bind fun bt155 => (if t148 = true then (if (bt149.2 != bt151.2) = true then (fuseelaw01_FracOrder.j0 k a0 a2 bt149.1 bt149.2 bt153.1 bt153.2 bt155.1 true) else (fuseelaw01_FracOrder.j0 k a0 a2 bt149.1 bt149.2 bt153.1 bt153.2 bt155.1 (bt149.1 != (wrap64 (-bt151.1))))) else (fuseelaw01_FracOrder.j0 k a0 a2 bt149.1 bt149.2 bt153.1 bt153.2 bt155.1 true))))))
theorem fuseelaw01_FracOrder.mono_l : ∀ k, (∀ y0 y1 y2 y3 y4 y5 y6 y7, LeO (fuseelaw01_FracOrder.j0 k y0 y1 y2 y3 y4 y5 y6 y7) (fuseelaw01_FracOrder.j0 (k + 1) y0 y1 y2 y3 y4 y5 y6 y7))
  | 0 => fun _ _ _ _ _ _ _ _ r h => by simp [fuseelaw01_FracOrder.j0] at h
  | k + 1 => by
    have ih0 := fuseelaw01_FracOrder.mono_l k
    · intro y0 y1 y2 y3 y4 y5 y6 y7
      unfold fuseelaw01_FracOrder.j0
      repeat' first
      | (with_reducible exact ih0 _ _ _ _ _ _ _ _)
      | (with_reducible exact LeO.refl _)
      | (with_reducible exact LeO.none _)
      | (with_reducible refine LeO.ite ?_ ?_)
      | (with_reducible refine LeO.bind ?_ (fun _ => ?_))
      | exact ih0 _ _ _ _ _ _ _ _
      | exact LeO.none _
      | refine LeO.ite ?_ ?_
      | refine LeO.bind ?_ (fun _ => ?_)
theorem fuseelaw01_FracOrder.mono : ∀ a0 a1 a2 a3 a4 a5 k, LeO (fuseelaw01_FracOrder.f k a0 a1 a2 a3 a4 a5) (fuseelaw01_FracOrder.f (k + 1) a0 a1 a2 a3 a4 a5) := by
  intro a0 a1 a2 a3 a4 a5 k
  have ih0 := fuseelaw01_FracOrder.mono_l k
  unfold fuseelaw01_FracOrder.f
  repeat' first
      | (with_reducible exact ih0 _ _ _ _ _ _ _ _)
      | (with_reducible exact LeO.refl _)
      | (with_reducible exact LeO.none _)
      | (with_reducible refine LeO.ite ?_ ?_)
      | (with_reducible refine LeO.bind ?_ (fun _ => ?_))
      | exact ih0 _ _ _ _ _ _ _ _
      | exact LeO.none _
      | refine LeO.ite ?_ ?_
      | refine LeO.bind ?_ (fun _ => ?_)
set_option maxHeartbeats 8000000 in
set_option maxRecDepth 100000 in
theorem fuseelaw01_FracOrder.calls (k : Nat) (a0 : Int) (a1 : Int) (a2 : Int) (a3 : Int) (a4 : Int) (a5 : Int) (r : Bool) (w : World) (h : fuseelaw01_FracOrder.f k a0 a1 a2 a3 a4 a5 = some r) :
    Calls Try.prog 8 #[.int .i64 a0, .int .i64 a1, .int .i64 a2, .int .i64 a3, .int .i64 a4, .int .i64 a5] w fun e w' => e = .returned (.bool r) ∧ Below w.heap.size w w' := by
  have HB := Aside0.mk (Below.refl w.heap.size w)
  have H : ((fuseelaw01_awake.f).bind fun t148 => ((frac_Cmp.f a0 a1 a2 a3).bind fun bt149 => ((frac_Cmp.f a2 a3 a0 a1).bind fun bt151 => ((frac_Cmp.f a2 a3 a4 a5).bind fun bt153 => ((frac_Cmp.f a0 a1 a4 a5).bind fun bt155 => (if t148 = true then (if (bt149.2 != bt151.2) = true then (fuseelaw01_FracOrder.j0 k a0 a2 bt149.1 bt149.2 bt153.1 bt153.2 bt155.1 true) else (fuseelaw01_FracOrder.j0 k a0 a2 bt149.1 bt149.2 bt153.1 bt153.2 bt155.1 (bt149.1 != (wrap64 (-bt151.1))))) else (fuseelaw01_FracOrder.j0 k a0 a2 bt149.1 bt149.2 bt153.1 bt153.2 bt155.1 true))))))) = some r := h
  clear h
  replace H := Option.bind_eq_some_iff.mp H
  obtain ⟨t148, A70, H⟩ := H
  replace H : ((frac_Cmp.f a0 a1 a2 a3).bind fun bt149 => ((frac_Cmp.f a2 a3 a0 a1).bind fun bt151 => ((frac_Cmp.f a2 a3 a4 a5).bind fun bt153 => ((frac_Cmp.f a0 a1 a4 a5).bind fun bt155 => (if t148 = true then (if (bt149.2 != bt151.2) = true then (fuseelaw01_FracOrder.j0 k a0 a2 bt149.1 bt149.2 bt153.1 bt153.2 bt155.1 true) else (fuseelaw01_FracOrder.j0 k a0 a2 bt149.1 bt149.2 bt153.1 bt153.2 bt155.1 (bt149.1 != (wrap64 (-bt151.1))))) else (fuseelaw01_FracOrder.j0 k a0 a2 bt149.1 bt149.2 bt153.1 bt153.2 bt155.1 true)))))) = some r := H
  have A7 := Aside0.mk A70
  clear A70
  replace H := Option.bind_eq_some_iff.mp H
  obtain ⟨⟨t149, t150⟩, A80, H⟩ := H
  replace H : ((frac_Cmp.f a2 a3 a0 a1).bind fun bt151 => ((frac_Cmp.f a2 a3 a4 a5).bind fun bt153 => ((frac_Cmp.f a0 a1 a4 a5).bind fun bt155 => (if t148 = true then (if (t150 != bt151.2) = true then (fuseelaw01_FracOrder.j0 k a0 a2 t149 t150 bt153.1 bt153.2 bt155.1 true) else (fuseelaw01_FracOrder.j0 k a0 a2 t149 t150 bt153.1 bt153.2 bt155.1 (t149 != (wrap64 (-bt151.1))))) else (fuseelaw01_FracOrder.j0 k a0 a2 t149 t150 bt153.1 bt153.2 bt155.1 true))))) = some r := H
  have A8 := Aside0.mk A80
  clear A80
  replace H := Option.bind_eq_some_iff.mp H
  obtain ⟨⟨t151, t152⟩, A90, H⟩ := H
  replace H : ((frac_Cmp.f a2 a3 a4 a5).bind fun bt153 => ((frac_Cmp.f a0 a1 a4 a5).bind fun bt155 => (if t148 = true then (if (t150 != t152) = true then (fuseelaw01_FracOrder.j0 k a0 a2 t149 t150 bt153.1 bt153.2 bt155.1 true) else (fuseelaw01_FracOrder.j0 k a0 a2 t149 t150 bt153.1 bt153.2 bt155.1 (t149 != (wrap64 (-t151))))) else (fuseelaw01_FracOrder.j0 k a0 a2 t149 t150 bt153.1 bt153.2 bt155.1 true)))) = some r := H
  have A9 := Aside0.mk A90
  clear A90
  replace H := Option.bind_eq_some_iff.mp H
  obtain ⟨⟨t153, t154⟩, A100, H⟩ := H
  replace H : ((frac_Cmp.f a0 a1 a4 a5).bind fun bt155 => (if t148 = true then (if (t150 != t152) = true then (fuseelaw01_FracOrder.j0 k a0 a2 t149 t150 t153 t154 bt155.1 true) else (fuseelaw01_FracOrder.j0 k a0 a2 t149 t150 t153 t154 bt155.1 (t149 != (wrap64 (-t151))))) else (fuseelaw01_FracOrder.j0 k a0 a2 t149 t150 t153 t154 bt155.1 true))) = some r := H
  have A10 := Aside0.mk A100
  clear A100
  replace H := Option.bind_eq_some_iff.mp H
  obtain ⟨⟨t155, t156⟩, A110, H⟩ := H
  replace H : (if t148 = true then (if (t150 != t152) = true then (fuseelaw01_FracOrder.j0 k a0 a2 t149 t150 t153 t154 t155 true) else (fuseelaw01_FracOrder.j0 k a0 a2 t149 t150 t153 t154 t155 (t149 != (wrap64 (-t151))))) else (fuseelaw01_FracOrder.j0 k a0 a2 t149 t150 t153 t154 t155 true)) = some r := H
  have A11 := Aside0.mk A110
  clear A110
  have HC12 := Aside0.mk H
  clear H
  go_enter Try.func8, Try.ntmps8
  go_upto_region 6 with (first | ((with_reducible refine gate_callee (f := 11) rfl ?_); refine goesL_ (some 24) rfl rfl Try.func11 (by kernel_rfl) rfl #[] rfl (by (try simp only [List.map_toArray, List.map_cons, List.map_nil]); first | done | rfl | (simp only [List.length_drop, List.length_take]; rfl)) ?_; (with_reducible refine (fuseelaw01_awake.calls  t148 _ A7.out).mono ?_); rintro e w13 ⟨rfl, hb⟩; refine ⟨_, rfl, ?_⟩; have n0_ := Aside0.mk (below_step (by repeat (first | (with_reducible first | exact HB.out | apply below_alloc | apply pw_below_drewN | apply below_drew1) | exact HB.out)) hb); clear HB; have HB := n0_; clear n0_; (try clear hb); (try clear hb2); (try clear hk); (try clear hi)) | ((with_reducible refine gate_callee (f := 16) rfl ?_); refine goesL_ (some 30) rfl rfl Try.func16 (by kernel_rfl) rfl #[.int .i64 a0, .int .i64 a1, .int .i64 a2, .int .i64 a3] rfl (by (try simp only [List.map_toArray, List.map_cons, List.map_nil]); first | done | rfl | (simp only [List.length_drop, List.length_take]; rfl)) ?_; (with_reducible refine (frac_Cmp.calls a0 a1 a2 a3 t149 t150 _ A8.out).mono ?_); rintro e w14 ⟨rfl, hb⟩; refine ⟨_, rfl, ?_⟩; have n0_ := Aside0.mk (below_step (by repeat (first | (with_reducible first | exact HB.out | apply below_alloc | apply pw_below_drewN | apply below_drew1) | exact HB.out)) hb); clear HB; have HB := n0_; clear n0_; (try clear hb); (try clear hb2); (try clear hk); (try clear hi)) | ((with_reducible refine gate_callee (f := 16) rfl ?_); refine goesL_ (some 38) rfl rfl Try.func16 (by kernel_rfl) rfl #[.int .i64 a2, .int .i64 a3, .int .i64 a0, .int .i64 a1] rfl (by (try simp only [List.map_toArray, List.map_cons, List.map_nil]); first | done | rfl | (simp only [List.length_drop, List.length_take]; rfl)) ?_; (with_reducible refine (frac_Cmp.calls a2 a3 a0 a1 t151 t152 _ A9.out).mono ?_); rintro e w15 ⟨rfl, hb⟩; refine ⟨_, rfl, ?_⟩; have n0_ := Aside0.mk (below_step (by repeat (first | (with_reducible first | exact HB.out | apply below_alloc | apply pw_below_drewN | apply below_drew1) | exact HB.out)) hb); clear HB; have HB := n0_; clear n0_; (try clear hb); (try clear hb2); (try clear hk); (try clear hi)) | ((with_reducible refine gate_callee (f := 16) rfl ?_); refine goesL_ (some 46) rfl rfl Try.func16 (by kernel_rfl) rfl #[.int .i64 a2, .int .i64 a3, .int .i64 a4, .int .i64 a5] rfl (by (try simp only [List.map_toArray, List.map_cons, List.map_nil]); first | done | rfl | (simp only [List.length_drop, List.length_take]; rfl)) ?_; (with_reducible refine (frac_Cmp.calls a2 a3 a4 a5 t153 t154 _ A10.out).mono ?_); rintro e w16 ⟨rfl, hb⟩; refine ⟨_, rfl, ?_⟩; have n0_ := Aside0.mk (below_step (by repeat (first | (with_reducible first | exact HB.out | apply below_alloc | apply pw_below_drewN | apply below_drew1) | exact HB.out)) hb); clear HB; have HB := n0_; clear n0_; (try clear hb); (try clear hb2); (try clear hk); (try clear hi)) | ((with_reducible refine gate_callee (f := 16) rfl ?_); refine goesL_ (some 54) rfl rfl Try.func16 (by kernel_rfl) rfl #[.int .i64 a0, .int .i64 a1, .int .i64 a4, .int .i64 a5] rfl (by (try simp only [List.map_toArray, List.map_cons, List.map_nil]); first | done | rfl | (simp only [List.length_drop, List.length_take]; rfl)) ?_; (with_reducible refine (frac_Cmp.calls a0 a1 a4 a5 t155 t156 _ A11.out).mono ?_); rintro e w17 ⟨rfl, hb⟩; refine ⟨_, rfl, ?_⟩; have n0_ := Aside0.mk (below_step (by repeat (first | (with_reducible first | exact HB.out | apply below_alloc | apply pw_below_drewN | apply below_drew1) | exact HB.out)) hb); clear HB; have HB := n0_; clear n0_; (try clear hb); (try clear hb2); (try clear hk); (try clear hi)))
  (try simp only [Act.put, List.setIfInBounds_toArray, List.set_cons_zero, List.set_cons_succ])
  go_cut [69] (fun v69 wc => ∃ (kq : Nat) (x69_11 : Bool), v69 = .bool x69_11 ∧ Aside0 (fuseelaw01_FracOrder.j0 kq a0 a2 t149 t150 t153 t154 t155 x69_11 = some r) ∧ Aside0 (kq ≤ k) ∧ Aside0 (Below w.heap.size w wc))
  case first =>
    have H := HC12.out
    clear HC12
    by_cases c18 : t148 = true
    · subst c18
      have H1 : (if (t150 != t152) = true then (fuseelaw01_FracOrder.j0 k a0 a2 t149 t150 t153 t154 t155 true) else (fuseelaw01_FracOrder.j0 k a0 a2 t149 t150 t153 t154 t155 (t149 != (wrap64 (-t151))))) = some r := by rw [if_pos rfl] at H; exact H
      clear H
      have H := H1
      clear H1
      by_cases c19 : (t150 != t152) = true
      · rw [if_pos c19] at H
        have c19b0 : (t150 != t152) = true := c19
        (try (have c19b1 : decide (t150 = t152) = false := by simpa using c19))
        (try (have c19b2 : (t150 == t152) = false := by simpa using c19))
        (try (have c19b3 : ¬ (t150 = t152) := by simpa using c19))
        clear c19
        (first | rw [c19b0] | (simp only [i64_w, i32_w]; rw [c19b0]) | skip)
        have H' := Aside0.mk H
        clear H
        go_wp2
        go_meet
        case rel => exact ⟨_, (true), (by first | rfl | (simp; done) | (simp [*]; done)), H', ⟨by first | omega | exact Nat.le_refl _⟩, ⟨by repeat (first | (with_reducible first | exact HB.out | apply below_alloc | apply pw_below_drewN | apply below_drew1) | exact HB.out)⟩⟩
      · rw [if_neg c19] at H
        have c19b0 : (t150 != t152) = false := by simpa using c19
        (try (have c19b1 : decide (t150 = t152) = true := by simpa using c19))
        (try (have c19b2 : (t150 == t152) = true := by simpa using c19))
        clear c19
        (first | rw [c19b0] | (simp only [i64_w, i32_w]; rw [c19b0]) | skip)
        have H' := Aside0.mk H
        clear H
        go_wp2
        go_meet
        case rel => exact ⟨_, ((t149 != (wrap64 (-t151)))), (by first | rfl | (simp; done) | (simp [*]; done)), H', ⟨by first | omega | exact Nat.le_refl _⟩, ⟨by repeat (first | (with_reducible first | exact HB.out | apply below_alloc | apply pw_below_drewN | apply below_drew1) | exact HB.out)⟩⟩
    · replace c18 := Bool.eq_false_iff.mpr c18
      subst c18
      have H1 : (fuseelaw01_FracOrder.j0 k a0 a2 t149 t150 t153 t154 t155 true) = some r := by rw [if_neg (show ¬ (false = true) by decide)] at H; exact H
      clear H
      have H := H1
      clear H1
      have H' := Aside0.mk H
      clear H
      go_wp2
      go_meet
      case rel => exact ⟨_, (true), (by first | rfl | (simp; done) | (simp [*]; done)), H', ⟨by first | omega | exact Nat.le_refl _⟩, ⟨by repeat (first | (with_reducible first | exact HB.out | apply below_alloc | apply pw_below_drewN | apply below_drew1) | exact HB.out)⟩⟩
  case rest =>
    clear HC12
    try clear c1
    try clear p2
    try clear p6
    try clear c8
    try clear c11
    try clear c16
    try clear c18
    try clear c19
    try clear c19b0
    try clear c19b1
    try clear c19b2
    obtain ⟨kq, x69_11, rfl, HA, HJ11, HB⟩ := hcut
    cases kq with
    | zero => exact absurd HA.out (by simp [fuseelaw01_FracOrder.j0])
    | succ kj11 =>
      have H := HA.out
      clear HA
      simp only [fuseelaw01_FracOrder.j0] at H
      by_cases c20 : x69_11 = true
      · subst c20
        have H1 : (some false) = some r := by rw [if_pos rfl] at H; exact H
        clear H
        have H := H1
        clear H1
        obtain rfl := Option.some.inj H
        go_wp2
        go_ret
        exact ⟨by first | rfl | (simp [errW_none, errW_some] <;> rfl) | (simp [*, errW_none, errW_some] <;> rfl) | (exfalso; first | exact absurd ‹(false != false) = true› (by decide) | exact absurd ‹(true != true) = true› (by decide) | exact absurd ‹(true != false) = false› (by decide) | exact absurd ‹(false != true) = false› (by decide) | exact absurd ‹(false == false) = false› (by decide) | exact absurd ‹(true == true) = false› (by decide) | exact absurd ‹(true == false) = true› (by decide) | exact absurd ‹(false == true) = true› (by decide)), by repeat (first | (with_reducible first | exact HB.out | apply below_alloc | apply pw_below_drewN | apply below_drew1) | exact HB.out)⟩
      · replace c20 := Bool.eq_false_iff.mpr c20
        subst c20
        have H1 : (if t150 = true then (if t154 = true then (if t149 < 0 then (if t153 < 0 then (if t155 ≥ 0 then (some false) else ((frac_Cmp.f a0 1 a2 1).bind fun bt157 => (if bt157.2 = true then (if ((decide (bt157.1 < 0)) == (decide (a0 < a2))) = true then (some ((bt157.1 == 0) == (a0 == a2))) else (some false)) else (some true)))) else ((frac_Cmp.f a0 1 a2 1).bind fun bt159 => (if bt159.2 = true then (if ((decide (bt159.1 < 0)) == (decide (a0 < a2))) = true then (some ((bt159.1 == 0) == (a0 == a2))) else (some false)) else (some true)))) else ((frac_Cmp.f a0 1 a2 1).bind fun bt161 => (if bt161.2 = true then (if ((decide (bt161.1 < 0)) == (decide (a0 < a2))) = true then (some ((bt161.1 == 0) == (a0 == a2))) else (some false)) else (some true)))) else ((frac_Cmp.f a0 1 a2 1).bind fun bt163 => (if bt163.2 = true then (if ((decide (bt163.1 < 0)) == (decide (a0 < a2))) = true then (some ((bt163.1 == 0) == (a0 == a2))) else (some false)) else (some true)))) else ((frac_Cmp.f a0 1 a2 1).bind fun bt165 => (if bt165.2 = true then (if ((decide (bt165.1 < 0)) == (decide (a0 < a2))) = true then (some ((bt165.1 == 0) == (a0 == a2))) else (some false)) else (some true)))) = some r := by rw [if_neg (show ¬ (false = true) by decide)] at H; exact H
        clear H
        have H := H1
        clear H1
        by_cases c21 : t150 = true
        · subst c21
          have H1 : (if t154 = true then (if t149 < 0 then (if t153 < 0 then (if t155 ≥ 0 then (some false) else ((frac_Cmp.f a0 1 a2 1).bind fun bt157 => (if bt157.2 = true then (if ((decide (bt157.1 < 0)) == (decide (a0 < a2))) = true then (some ((bt157.1 == 0) == (a0 == a2))) else (some false)) else (some true)))) else ((frac_Cmp.f a0 1 a2 1).bind fun bt159 => (if bt159.2 = true then (if ((decide (bt159.1 < 0)) == (decide (a0 < a2))) = true then (some ((bt159.1 == 0) == (a0 == a2))) else (some false)) else (some true)))) else ((frac_Cmp.f a0 1 a2 1).bind fun bt161 => (if bt161.2 = true then (if ((decide (bt161.1 < 0)) == (decide (a0 < a2))) = true then (some ((bt161.1 == 0) == (a0 == a2))) else (some false)) else (some true)))) else ((frac_Cmp.f a0 1 a2 1).bind fun bt163 => (if bt163.2 = true then (if ((decide (bt163.1 < 0)) == (decide (a0 < a2))) = true then (some ((bt163.1 == 0) == (a0 == a2))) else (some false)) else (some true)))) = some r := by rw [if_pos rfl] at H; exact H
          clear H
          have H := H1
          clear H1
          by_cases c22 : t154 = true
          · subst c22
            have H1 : (if t149 < 0 then (if t153 < 0 then (if t155 ≥ 0 then (some false) else ((frac_Cmp.f a0 1 a2 1).bind fun bt157 => (if bt157.2 = true then (if ((decide (bt157.1 < 0)) == (decide (a0 < a2))) = true then (some ((bt157.1 == 0) == (a0 == a2))) else (some false)) else (some true)))) else ((frac_Cmp.f a0 1 a2 1).bind fun bt159 => (if bt159.2 = true then (if ((decide (bt159.1 < 0)) == (decide (a0 < a2))) = true then (some ((bt159.1 == 0) == (a0 == a2))) else (some false)) else (some true)))) else ((frac_Cmp.f a0 1 a2 1).bind fun bt161 => (if bt161.2 = true then (if ((decide (bt161.1 < 0)) == (decide (a0 < a2))) = true then (some ((bt161.1 == 0) == (a0 == a2))) else (some false)) else (some true)))) = some r := by rw [if_pos rfl] at H; exact H
            clear H
            have H := H1
            clear H1
            by_cases c23 : t149 < 0
            · rw [if_pos c23] at H
              have c23b0 : decide (t149 < 0) = true := decide_eq_true c23
              clear c23
              by_cases c24 : t153 < 0
              · rw [if_pos c24] at H
                have c24b0 : decide (t153 < 0) = true := decide_eq_true c24
                clear c24
                by_cases c25 : t155 ≥ 0
                · rw [if_pos c25] at H
                  have c25b0 : decide (0 ≤ t155) = true := decide_eq_true c25
                  clear c25
                  obtain rfl := Option.some.inj H
                  go_wp2
                  go_ret
                  exact ⟨by first | rfl | (simp [errW_none, errW_some] <;> rfl) | (simp [*, errW_none, errW_some] <;> rfl) | (exfalso; first | exact absurd ‹(false != false) = true› (by decide) | exact absurd ‹(true != true) = true› (by decide) | exact absurd ‹(true != false) = false› (by decide) | exact absurd ‹(false != true) = false› (by decide) | exact absurd ‹(false == false) = false› (by decide) | exact absurd ‹(true == true) = false› (by decide) | exact absurd ‹(true == false) = true› (by decide) | exact absurd ‹(false == true) = true› (by decide)), by repeat (first | (with_reducible first | exact HB.out | apply below_alloc | apply pw_below_drewN | apply below_drew1) | exact HB.out)⟩
                · rw [if_neg c25] at H
                  have c25b0 : decide (0 ≤ t155) = false := decide_eq_false c25
                  clear c25
                  replace H := Option.bind_eq_some_iff.mp H
                  obtain ⟨⟨t157, t158⟩, A260, H⟩ := H
                  replace H : (if t158 = true then (if ((decide (t157 < 0)) == (decide (a0 < a2))) = true then (some ((t157 == 0) == (a0 == a2))) else (some false)) else (some true)) = some r := H
                  have A26 := Aside0.mk A260
                  clear A260
                  by_cases c27 : t158 = true
                  · subst c27
                    have H1 : (if ((decide (t157 < 0)) == (decide (a0 < a2))) = true then (some ((t157 == 0) == (a0 == a2))) else (some false)) = some r := by rw [if_pos rfl] at H; exact H
                    clear H
                    have H := H1
                    clear H1
                    by_cases c28 : ((decide (t157 < 0)) == (decide (a0 < a2))) = true
                    · rw [if_pos c28] at H
                      have c28b0 : ((decide (t157 < 0)) == (decide (a0 < a2))) = true := c28
                      (try (have c28b1 : decide ((decide (t157 < 0)) = (decide (a0 < a2))) = true := by simpa using c28))
                      (try (have c28b2 : ((decide (t157 < 0)) == (decide (a0 < a2))) = true := by simpa using c28))
                      clear c28
                      obtain rfl := Option.some.inj H
                      go_wp2_with (first | ((with_reducible refine gate_callee (f := 16) rfl ?_); refine goesL_ (some 89) rfl rfl Try.func16 (by kernel_rfl) rfl #[.int .i64 a0, .int .i64 1, .int .i64 a2, .int .i64 1] rfl (by (try simp only [List.map_toArray, List.map_cons, List.map_nil]); first | done | rfl | (simp only [List.length_drop, List.length_take]; rfl)) ?_; (with_reducible refine (frac_Cmp.calls a0 1 a2 1 t157 true _ A26.out).mono ?_); rintro e w29 ⟨rfl, hb⟩; refine ⟨_, rfl, ?_⟩; have n0_ := Aside0.mk (below_step (by repeat (first | (with_reducible first | exact HB.out | apply below_alloc | apply pw_below_drewN | apply below_drew1) | exact HB.out)) hb); clear HB; have HB := n0_; clear n0_; (try clear hb); (try clear hb2); (try clear hk); (try clear hi)))
                      go_ret
                      exact ⟨by first | rfl | (simp [errW_none, errW_some] <;> rfl) | (simp [*, errW_none, errW_some] <;> rfl) | (exfalso; first | exact absurd ‹(false != false) = true› (by decide) | exact absurd ‹(true != true) = true› (by decide) | exact absurd ‹(true != false) = false› (by decide) | exact absurd ‹(false != true) = false› (by decide) | exact absurd ‹(false == false) = false› (by decide) | exact absurd ‹(true == true) = false› (by decide) | exact absurd ‹(true == false) = true› (by decide) | exact absurd ‹(false == true) = true› (by decide)), by repeat (first | (with_reducible first | exact HB.out | apply below_alloc | apply pw_below_drewN | apply below_drew1) | exact HB.out)⟩
                    · rw [if_neg c28] at H
                      have c28b0 : ((decide (t157 < 0)) == (decide (a0 < a2))) = false := by simpa using c28
                      (try (have c28b1 : decide ((decide (t157 < 0)) = (decide (a0 < a2))) = false := by simpa using c28))
                      (try (have c28b2 : ((decide (t157 < 0)) == (decide (a0 < a2))) = false := by simpa using c28))
                      (try (have c28b3 : ¬ ((decide (t157 < 0)) = (decide (a0 < a2))) := by simpa using c28))
                      clear c28
                      obtain rfl := Option.some.inj H
                      go_wp2_with (first | ((with_reducible refine gate_callee (f := 16) rfl ?_); refine goesL_ (some 89) rfl rfl Try.func16 (by kernel_rfl) rfl #[.int .i64 a0, .int .i64 1, .int .i64 a2, .int .i64 1] rfl (by (try simp only [List.map_toArray, List.map_cons, List.map_nil]); first | done | rfl | (simp only [List.length_drop, List.length_take]; rfl)) ?_; (with_reducible refine (frac_Cmp.calls a0 1 a2 1 t157 true _ A26.out).mono ?_); rintro e w30 ⟨rfl, hb⟩; refine ⟨_, rfl, ?_⟩; have n0_ := Aside0.mk (below_step (by repeat (first | (with_reducible first | exact HB.out | apply below_alloc | apply pw_below_drewN | apply below_drew1) | exact HB.out)) hb); clear HB; have HB := n0_; clear n0_; (try clear hb); (try clear hb2); (try clear hk); (try clear hi)))
                      go_ret
                      exact ⟨by first | rfl | (simp [errW_none, errW_some] <;> rfl) | (simp [*, errW_none, errW_some] <;> rfl) | (exfalso; first | exact absurd ‹(false != false) = true› (by decide) | exact absurd ‹(true != true) = true› (by decide) | exact absurd ‹(true != false) = false› (by decide) | exact absurd ‹(false != true) = false› (by decide) | exact absurd ‹(false == false) = false› (by decide) | exact absurd ‹(true == true) = false› (by decide) | exact absurd ‹(true == false) = true› (by decide) | exact absurd ‹(false == true) = true› (by decide)), by repeat (first | (with_reducible first | exact HB.out | apply below_alloc | apply pw_below_drewN | apply below_drew1) | exact HB.out)⟩
                  · replace c27 := Bool.eq_false_iff.mpr c27
                    subst c27
                    have H1 : (some true) = some r := by rw [if_neg (show ¬ (false = true) by decide)] at H; exact H
                    clear H
                    have H := H1
                    clear H1
                    obtain rfl := Option.some.inj H
                    go_wp2_with (first | ((with_reducible refine gate_callee (f := 16) rfl ?_); refine goesL_ (some 89) rfl rfl Try.func16 (by kernel_rfl) rfl #[.int .i64 a0, .int .i64 1, .int .i64 a2, .int .i64 1] rfl (by (try simp only [List.map_toArray, List.map_cons, List.map_nil]); first | done | rfl | (simp only [List.length_drop, List.length_take]; rfl)) ?_; (with_reducible refine (frac_Cmp.calls a0 1 a2 1 t157 false _ A26.out).mono ?_); rintro e w31 ⟨rfl, hb⟩; refine ⟨_, rfl, ?_⟩; have n0_ := Aside0.mk (below_step (by repeat (first | (with_reducible first | exact HB.out | apply below_alloc | apply pw_below_drewN | apply below_drew1) | exact HB.out)) hb); clear HB; have HB := n0_; clear n0_; (try clear hb); (try clear hb2); (try clear hk); (try clear hi)))
                    go_ret
                    exact ⟨by first | rfl | (simp [errW_none, errW_some] <;> rfl) | (simp [*, errW_none, errW_some] <;> rfl) | (exfalso; first | exact absurd ‹(false != false) = true› (by decide) | exact absurd ‹(true != true) = true› (by decide) | exact absurd ‹(true != false) = false› (by decide) | exact absurd ‹(false != true) = false› (by decide) | exact absurd ‹(false == false) = false› (by decide) | exact absurd ‹(true == true) = false› (by decide) | exact absurd ‹(true == false) = true› (by decide) | exact absurd ‹(false == true) = true› (by decide)), by repeat (first | (with_reducible first | exact HB.out | apply below_alloc | apply pw_below_drewN | apply below_drew1) | exact HB.out)⟩
              · rw [if_neg c24] at H
                have c24b0 : decide (t153 < 0) = false := decide_eq_false c24
                clear c24
                replace H := Option.bind_eq_some_iff.mp H
                obtain ⟨⟨t159, t160⟩, A320, H⟩ := H
                replace H : (if t160 = true then (if ((decide (t159 < 0)) == (decide (a0 < a2))) = true then (some ((t159 == 0) == (a0 == a2))) else (some false)) else (some true)) = some r := H
                have A32 := Aside0.mk A320
                clear A320
                by_cases c33 : t160 = true
                · subst c33
                  have H1 : (if ((decide (t159 < 0)) == (decide (a0 < a2))) = true then (some ((t159 == 0) == (a0 == a2))) else (some false)) = some r := by rw [if_pos rfl] at H; exact H
                  clear H
                  have H := H1
                  clear H1
                  by_cases c34 : ((decide (t159 < 0)) == (decide (a0 < a2))) = true
                  · rw [if_pos c34] at H
                    have c34b0 : ((decide (t159 < 0)) == (decide (a0 < a2))) = true := c34
                    (try (have c34b1 : decide ((decide (t159 < 0)) = (decide (a0 < a2))) = true := by simpa using c34))
                    (try (have c34b2 : ((decide (t159 < 0)) == (decide (a0 < a2))) = true := by simpa using c34))
                    clear c34
                    obtain rfl := Option.some.inj H
                    go_wp2_with (first | ((with_reducible refine gate_callee (f := 16) rfl ?_); refine goesL_ (some 89) rfl rfl Try.func16 (by kernel_rfl) rfl #[.int .i64 a0, .int .i64 1, .int .i64 a2, .int .i64 1] rfl (by (try simp only [List.map_toArray, List.map_cons, List.map_nil]); first | done | rfl | (simp only [List.length_drop, List.length_take]; rfl)) ?_; (with_reducible refine (frac_Cmp.calls a0 1 a2 1 t159 true _ A32.out).mono ?_); rintro e w35 ⟨rfl, hb⟩; refine ⟨_, rfl, ?_⟩; have n0_ := Aside0.mk (below_step (by repeat (first | (with_reducible first | exact HB.out | apply below_alloc | apply pw_below_drewN | apply below_drew1) | exact HB.out)) hb); clear HB; have HB := n0_; clear n0_; (try clear hb); (try clear hb2); (try clear hk); (try clear hi)))
                    go_ret
                    exact ⟨by first | rfl | (simp [errW_none, errW_some] <;> rfl) | (simp [*, errW_none, errW_some] <;> rfl) | (exfalso; first | exact absurd ‹(false != false) = true› (by decide) | exact absurd ‹(true != true) = true› (by decide) | exact absurd ‹(true != false) = false› (by decide) | exact absurd ‹(false != true) = false› (by decide) | exact absurd ‹(false == false) = false› (by decide) | exact absurd ‹(true == true) = false› (by decide) | exact absurd ‹(true == false) = true› (by decide) | exact absurd ‹(false == true) = true› (by decide)), by repeat (first | (with_reducible first | exact HB.out | apply below_alloc | apply pw_below_drewN | apply below_drew1) | exact HB.out)⟩
                  · rw [if_neg c34] at H
                    have c34b0 : ((decide (t159 < 0)) == (decide (a0 < a2))) = false := by simpa using c34
                    (try (have c34b1 : decide ((decide (t159 < 0)) = (decide (a0 < a2))) = false := by simpa using c34))
                    (try (have c34b2 : ((decide (t159 < 0)) == (decide (a0 < a2))) = false := by simpa using c34))
                    (try (have c34b3 : ¬ ((decide (t159 < 0)) = (decide (a0 < a2))) := by simpa using c34))
                    clear c34
                    obtain rfl := Option.some.inj H
                    go_wp2_with (first | ((with_reducible refine gate_callee (f := 16) rfl ?_); refine goesL_ (some 89) rfl rfl Try.func16 (by kernel_rfl) rfl #[.int .i64 a0, .int .i64 1, .int .i64 a2, .int .i64 1] rfl (by (try simp only [List.map_toArray, List.map_cons, List.map_nil]); first | done | rfl | (simp only [List.length_drop, List.length_take]; rfl)) ?_; (with_reducible refine (frac_Cmp.calls a0 1 a2 1 t159 true _ A32.out).mono ?_); rintro e w36 ⟨rfl, hb⟩; refine ⟨_, rfl, ?_⟩; have n0_ := Aside0.mk (below_step (by repeat (first | (with_reducible first | exact HB.out | apply below_alloc | apply pw_below_drewN | apply below_drew1) | exact HB.out)) hb); clear HB; have HB := n0_; clear n0_; (try clear hb); (try clear hb2); (try clear hk); (try clear hi)))
                    go_ret
                    exact ⟨by first | rfl | (simp [errW_none, errW_some] <;> rfl) | (simp [*, errW_none, errW_some] <;> rfl) | (exfalso; first | exact absurd ‹(false != false) = true› (by decide) | exact absurd ‹(true != true) = true› (by decide) | exact absurd ‹(true != false) = false› (by decide) | exact absurd ‹(false != true) = false› (by decide) | exact absurd ‹(false == false) = false› (by decide) | exact absurd ‹(true == true) = false› (by decide) | exact absurd ‹(true == false) = true› (by decide) | exact absurd ‹(false == true) = true› (by decide)), by repeat (first | (with_reducible first | exact HB.out | apply below_alloc | apply pw_below_drewN | apply below_drew1) | exact HB.out)⟩
                · replace c33 := Bool.eq_false_iff.mpr c33
                  subst c33
                  have H1 : (some true) = some r := by rw [if_neg (show ¬ (false = true) by decide)] at H; exact H
                  clear H
                  have H := H1
                  clear H1
                  obtain rfl := Option.some.inj H
                  go_wp2_with (first | ((with_reducible refine gate_callee (f := 16) rfl ?_); refine goesL_ (some 89) rfl rfl Try.func16 (by kernel_rfl) rfl #[.int .i64 a0, .int .i64 1, .int .i64 a2, .int .i64 1] rfl (by (try simp only [List.map_toArray, List.map_cons, List.map_nil]); first | done | rfl | (simp only [List.length_drop, List.length_take]; rfl)) ?_; (with_reducible refine (frac_Cmp.calls a0 1 a2 1 t159 false _ A32.out).mono ?_); rintro e w37 ⟨rfl, hb⟩; refine ⟨_, rfl, ?_⟩; have n0_ := Aside0.mk (below_step (by repeat (first | (with_reducible first | exact HB.out | apply below_alloc | apply pw_below_drewN | apply below_drew1) | exact HB.out)) hb); clear HB; have HB := n0_; clear n0_; (try clear hb); (try clear hb2); (try clear hk); (try clear hi)))
                  go_ret
                  exact ⟨by first | rfl | (simp [errW_none, errW_some] <;> rfl) | (simp [*, errW_none, errW_some] <;> rfl) | (exfalso; first | exact absurd ‹(false != false) = true› (by decide) | exact absurd ‹(true != true) = true› (by decide) | exact absurd ‹(true != false) = false› (by decide) | exact absurd ‹(false != true) = false› (by decide) | exact absurd ‹(false == false) = false› (by decide) | exact absurd ‹(true == true) = false› (by decide) | exact absurd ‹(true == false) = true› (by decide) | exact absurd ‹(false == true) = true› (by decide)), by repeat (first | (with_reducible first | exact HB.out | apply below_alloc | apply pw_below_drewN | apply below_drew1) | exact HB.out)⟩
            · rw [if_neg c23] at H
              have c23b0 : decide (t149 < 0) = false := decide_eq_false c23
              clear c23
              replace H := Option.bind_eq_some_iff.mp H
              obtain ⟨⟨t161, t162⟩, A380, H⟩ := H
              replace H : (if t162 = true then (if ((decide (t161 < 0)) == (decide (a0 < a2))) = true then (some ((t161 == 0) == (a0 == a2))) else (some false)) else (some true)) = some r := H
              have A38 := Aside0.mk A380
              clear A380
              by_cases c39 : t162 = true
              · subst c39
                have H1 : (if ((decide (t161 < 0)) == (decide (a0 < a2))) = true then (some ((t161 == 0) == (a0 == a2))) else (some false)) = some r := by rw [if_pos rfl] at H; exact H
                clear H
                have H := H1
                clear H1
                by_cases c40 : ((decide (t161 < 0)) == (decide (a0 < a2))) = true
                · rw [if_pos c40] at H
                  have c40b0 : ((decide (t161 < 0)) == (decide (a0 < a2))) = true := c40
                  (try (have c40b1 : decide ((decide (t161 < 0)) = (decide (a0 < a2))) = true := by simpa using c40))
                  (try (have c40b2 : ((decide (t161 < 0)) == (decide (a0 < a2))) = true := by simpa using c40))
                  clear c40
                  obtain rfl := Option.some.inj H
                  go_wp2_with (first | ((with_reducible refine gate_callee (f := 16) rfl ?_); refine goesL_ (some 89) rfl rfl Try.func16 (by kernel_rfl) rfl #[.int .i64 a0, .int .i64 1, .int .i64 a2, .int .i64 1] rfl (by (try simp only [List.map_toArray, List.map_cons, List.map_nil]); first | done | rfl | (simp only [List.length_drop, List.length_take]; rfl)) ?_; (with_reducible refine (frac_Cmp.calls a0 1 a2 1 t161 true _ A38.out).mono ?_); rintro e w41 ⟨rfl, hb⟩; refine ⟨_, rfl, ?_⟩; have n0_ := Aside0.mk (below_step (by repeat (first | (with_reducible first | exact HB.out | apply below_alloc | apply pw_below_drewN | apply below_drew1) | exact HB.out)) hb); clear HB; have HB := n0_; clear n0_; (try clear hb); (try clear hb2); (try clear hk); (try clear hi)))
                  go_ret
                  exact ⟨by first | rfl | (simp [errW_none, errW_some] <;> rfl) | (simp [*, errW_none, errW_some] <;> rfl) | (exfalso; first | exact absurd ‹(false != false) = true› (by decide) | exact absurd ‹(true != true) = true› (by decide) | exact absurd ‹(true != false) = false› (by decide) | exact absurd ‹(false != true) = false› (by decide) | exact absurd ‹(false == false) = false› (by decide) | exact absurd ‹(true == true) = false› (by decide) | exact absurd ‹(true == false) = true› (by decide) | exact absurd ‹(false == true) = true› (by decide)), by repeat (first | (with_reducible first | exact HB.out | apply below_alloc | apply pw_below_drewN | apply below_drew1) | exact HB.out)⟩
                · rw [if_neg c40] at H
                  have c40b0 : ((decide (t161 < 0)) == (decide (a0 < a2))) = false := by simpa using c40
                  (try (have c40b1 : decide ((decide (t161 < 0)) = (decide (a0 < a2))) = false := by simpa using c40))
                  (try (have c40b2 : ((decide (t161 < 0)) == (decide (a0 < a2))) = false := by simpa using c40))
                  (try (have c40b3 : ¬ ((decide (t161 < 0)) = (decide (a0 < a2))) := by simpa using c40))
                  clear c40
                  obtain rfl := Option.some.inj H
                  go_wp2_with (first | ((with_reducible refine gate_callee (f := 16) rfl ?_); refine goesL_ (some 89) rfl rfl Try.func16 (by kernel_rfl) rfl #[.int .i64 a0, .int .i64 1, .int .i64 a2, .int .i64 1] rfl (by (try simp only [List.map_toArray, List.map_cons, List.map_nil]); first | done | rfl | (simp only [List.length_drop, List.length_take]; rfl)) ?_; (with_reducible refine (frac_Cmp.calls a0 1 a2 1 t161 true _ A38.out).mono ?_); rintro e w42 ⟨rfl, hb⟩; refine ⟨_, rfl, ?_⟩; have n0_ := Aside0.mk (below_step (by repeat (first | (with_reducible first | exact HB.out | apply below_alloc | apply pw_below_drewN | apply below_drew1) | exact HB.out)) hb); clear HB; have HB := n0_; clear n0_; (try clear hb); (try clear hb2); (try clear hk); (try clear hi)))
                  go_ret
                  exact ⟨by first | rfl | (simp [errW_none, errW_some] <;> rfl) | (simp [*, errW_none, errW_some] <;> rfl) | (exfalso; first | exact absurd ‹(false != false) = true› (by decide) | exact absurd ‹(true != true) = true› (by decide) | exact absurd ‹(true != false) = false› (by decide) | exact absurd ‹(false != true) = false› (by decide) | exact absurd ‹(false == false) = false› (by decide) | exact absurd ‹(true == true) = false› (by decide) | exact absurd ‹(true == false) = true› (by decide) | exact absurd ‹(false == true) = true› (by decide)), by repeat (first | (with_reducible first | exact HB.out | apply below_alloc | apply pw_below_drewN | apply below_drew1) | exact HB.out)⟩
              · replace c39 := Bool.eq_false_iff.mpr c39
                subst c39
                have H1 : (some true) = some r := by rw [if_neg (show ¬ (false = true) by decide)] at H; exact H
                clear H
                have H := H1
                clear H1
                obtain rfl := Option.some.inj H
                go_wp2_with (first | ((with_reducible refine gate_callee (f := 16) rfl ?_); refine goesL_ (some 89) rfl rfl Try.func16 (by kernel_rfl) rfl #[.int .i64 a0, .int .i64 1, .int .i64 a2, .int .i64 1] rfl (by (try simp only [List.map_toArray, List.map_cons, List.map_nil]); first | done | rfl | (simp only [List.length_drop, List.length_take]; rfl)) ?_; (with_reducible refine (frac_Cmp.calls a0 1 a2 1 t161 false _ A38.out).mono ?_); rintro e w43 ⟨rfl, hb⟩; refine ⟨_, rfl, ?_⟩; have n0_ := Aside0.mk (below_step (by repeat (first | (with_reducible first | exact HB.out | apply below_alloc | apply pw_below_drewN | apply below_drew1) | exact HB.out)) hb); clear HB; have HB := n0_; clear n0_; (try clear hb); (try clear hb2); (try clear hk); (try clear hi)))
                go_ret
                exact ⟨by first | rfl | (simp [errW_none, errW_some] <;> rfl) | (simp [*, errW_none, errW_some] <;> rfl) | (exfalso; first | exact absurd ‹(false != false) = true› (by decide) | exact absurd ‹(true != true) = true› (by decide) | exact absurd ‹(true != false) = false› (by decide) | exact absurd ‹(false != true) = false› (by decide) | exact absurd ‹(false == false) = false› (by decide) | exact absurd ‹(true == true) = false› (by decide) | exact absurd ‹(true == false) = true› (by decide) | exact absurd ‹(false == true) = true› (by decide)), by repeat (first | (with_reducible first | exact HB.out | apply below_alloc | apply pw_below_drewN | apply below_drew1) | exact HB.out)⟩
          · replace c22 := Bool.eq_false_iff.mpr c22
            subst c22
            have H1 : ((frac_Cmp.f a0 1 a2 1).bind fun bt163 => (if bt163.2 = true then (if ((decide (bt163.1 < 0)) == (decide (a0 < a2))) = true then (some ((bt163.1 == 0) == (a0 == a2))) else (some false)) else (some true))) = some r := by rw [if_neg (show ¬ (false = true) by decide)] at H; exact H
            clear H
            have H := H1
            clear H1
            replace H := Option.bind_eq_some_iff.mp H
            obtain ⟨⟨t163, t164⟩, A440, H⟩ := H
            replace H : (if t164 = true then (if ((decide (t163 < 0)) == (decide (a0 < a2))) = true then (some ((t163 == 0) == (a0 == a2))) else (some false)) else (some true)) = some r := H
            have A44 := Aside0.mk A440
            clear A440
            by_cases c45 : t164 = true
            · subst c45
              have H1 : (if ((decide (t163 < 0)) == (decide (a0 < a2))) = true then (some ((t163 == 0) == (a0 == a2))) else (some false)) = some r := by rw [if_pos rfl] at H; exact H
              clear H
              have H := H1
              clear H1
              by_cases c46 : ((decide (t163 < 0)) == (decide (a0 < a2))) = true
              · rw [if_pos c46] at H
                have c46b0 : ((decide (t163 < 0)) == (decide (a0 < a2))) = true := c46
                (try (have c46b1 : decide ((decide (t163 < 0)) = (decide (a0 < a2))) = true := by simpa using c46))
                (try (have c46b2 : ((decide (t163 < 0)) == (decide (a0 < a2))) = true := by simpa using c46))
                clear c46
                obtain rfl := Option.some.inj H
                go_wp2_with (first | ((with_reducible refine gate_callee (f := 16) rfl ?_); refine goesL_ (some 89) rfl rfl Try.func16 (by kernel_rfl) rfl #[.int .i64 a0, .int .i64 1, .int .i64 a2, .int .i64 1] rfl (by (try simp only [List.map_toArray, List.map_cons, List.map_nil]); first | done | rfl | (simp only [List.length_drop, List.length_take]; rfl)) ?_; (with_reducible refine (frac_Cmp.calls a0 1 a2 1 t163 true _ A44.out).mono ?_); rintro e w47 ⟨rfl, hb⟩; refine ⟨_, rfl, ?_⟩; have n0_ := Aside0.mk (below_step (by repeat (first | (with_reducible first | exact HB.out | apply below_alloc | apply pw_below_drewN | apply below_drew1) | exact HB.out)) hb); clear HB; have HB := n0_; clear n0_; (try clear hb); (try clear hb2); (try clear hk); (try clear hi)))
                go_ret
                exact ⟨by first | rfl | (simp [errW_none, errW_some] <;> rfl) | (simp [*, errW_none, errW_some] <;> rfl) | (exfalso; first | exact absurd ‹(false != false) = true› (by decide) | exact absurd ‹(true != true) = true› (by decide) | exact absurd ‹(true != false) = false› (by decide) | exact absurd ‹(false != true) = false› (by decide) | exact absurd ‹(false == false) = false› (by decide) | exact absurd ‹(true == true) = false› (by decide) | exact absurd ‹(true == false) = true› (by decide) | exact absurd ‹(false == true) = true› (by decide)), by repeat (first | (with_reducible first | exact HB.out | apply below_alloc | apply pw_below_drewN | apply below_drew1) | exact HB.out)⟩
              · rw [if_neg c46] at H
                have c46b0 : ((decide (t163 < 0)) == (decide (a0 < a2))) = false := by simpa using c46
                (try (have c46b1 : decide ((decide (t163 < 0)) = (decide (a0 < a2))) = false := by simpa using c46))
                (try (have c46b2 : ((decide (t163 < 0)) == (decide (a0 < a2))) = false := by simpa using c46))
                (try (have c46b3 : ¬ ((decide (t163 < 0)) = (decide (a0 < a2))) := by simpa using c46))
                clear c46
                obtain rfl := Option.some.inj H
                go_wp2_with (first | ((with_reducible refine gate_callee (f := 16) rfl ?_); refine goesL_ (some 89) rfl rfl Try.func16 (by kernel_rfl) rfl #[.int .i64 a0, .int .i64 1, .int .i64 a2, .int .i64 1] rfl (by (try simp only [List.map_toArray, List.map_cons, List.map_nil]); first | done | rfl | (simp only [List.length_drop, List.length_take]; rfl)) ?_; (with_reducible refine (frac_Cmp.calls a0 1 a2 1 t163 true _ A44.out).mono ?_); rintro e w48 ⟨rfl, hb⟩; refine ⟨_, rfl, ?_⟩; have n0_ := Aside0.mk (below_step (by repeat (first | (with_reducible first | exact HB.out | apply below_alloc | apply pw_below_drewN | apply below_drew1) | exact HB.out)) hb); clear HB; have HB := n0_; clear n0_; (try clear hb); (try clear hb2); (try clear hk); (try clear hi)))
                go_ret
                exact ⟨by first | rfl | (simp [errW_none, errW_some] <;> rfl) | (simp [*, errW_none, errW_some] <;> rfl) | (exfalso; first | exact absurd ‹(false != false) = true› (by decide) | exact absurd ‹(true != true) = true› (by decide) | exact absurd ‹(true != false) = false› (by decide) | exact absurd ‹(false != true) = false› (by decide) | exact absurd ‹(false == false) = false› (by decide) | exact absurd ‹(true == true) = false› (by decide) | exact absurd ‹(true == false) = true› (by decide) | exact absurd ‹(false == true) = true› (by decide)), by repeat (first | (with_reducible first | exact HB.out | apply below_alloc | apply pw_below_drewN | apply below_drew1) | exact HB.out)⟩
            · replace c45 := Bool.eq_false_iff.mpr c45
              subst c45
              have H1 : (some true) = some r := by rw [if_neg (show ¬ (false = true) by decide)] at H; exact H
              clear H
              have H := H1
              clear H1
              obtain rfl := Option.some.inj H
              go_wp2_with (first | ((with_reducible refine gate_callee (f := 16) rfl ?_); refine goesL_ (some 89) rfl rfl Try.func16 (by kernel_rfl) rfl #[.int .i64 a0, .int .i64 1, .int .i64 a2, .int .i64 1] rfl (by (try simp only [List.map_toArray, List.map_cons, List.map_nil]); first | done | rfl | (simp only [List.length_drop, List.length_take]; rfl)) ?_; (with_reducible refine (frac_Cmp.calls a0 1 a2 1 t163 false _ A44.out).mono ?_); rintro e w49 ⟨rfl, hb⟩; refine ⟨_, rfl, ?_⟩; have n0_ := Aside0.mk (below_step (by repeat (first | (with_reducible first | exact HB.out | apply below_alloc | apply pw_below_drewN | apply below_drew1) | exact HB.out)) hb); clear HB; have HB := n0_; clear n0_; (try clear hb); (try clear hb2); (try clear hk); (try clear hi)))
              go_ret
              exact ⟨by first | rfl | (simp [errW_none, errW_some] <;> rfl) | (simp [*, errW_none, errW_some] <;> rfl) | (exfalso; first | exact absurd ‹(false != false) = true› (by decide) | exact absurd ‹(true != true) = true› (by decide) | exact absurd ‹(true != false) = false› (by decide) | exact absurd ‹(false != true) = false› (by decide) | exact absurd ‹(false == false) = false› (by decide) | exact absurd ‹(true == true) = false› (by decide) | exact absurd ‹(true == false) = true› (by decide) | exact absurd ‹(false == true) = true› (by decide)), by repeat (first | (with_reducible first | exact HB.out | apply below_alloc | apply pw_below_drewN | apply below_drew1) | exact HB.out)⟩
        · replace c21 := Bool.eq_false_iff.mpr c21
          subst c21
          have H1 : ((frac_Cmp.f a0 1 a2 1).bind fun bt165 => (if bt165.2 = true then (if ((decide (bt165.1 < 0)) == (decide (a0 < a2))) = true then (some ((bt165.1 == 0) == (a0 == a2))) else (some false)) else (some true))) = some r := by rw [if_neg (show ¬ (false = true) by decide)] at H; exact H
          clear H
          have H := H1
          clear H1
          replace H := Option.bind_eq_some_iff.mp H
          obtain ⟨⟨t165, t166⟩, A500, H⟩ := H
          replace H : (if t166 = true then (if ((decide (t165 < 0)) == (decide (a0 < a2))) = true then (some ((t165 == 0) == (a0 == a2))) else (some false)) else (some true)) = some r := H
          have A50 := Aside0.mk A500
          clear A500
          by_cases c51 : t166 = true
          · subst c51
            have H1 : (if ((decide (t165 < 0)) == (decide (a0 < a2))) = true then (some ((t165 == 0) == (a0 == a2))) else (some false)) = some r := by rw [if_pos rfl] at H; exact H
            clear H
            have H := H1
            clear H1
            by_cases c52 : ((decide (t165 < 0)) == (decide (a0 < a2))) = true
            · rw [if_pos c52] at H
              have c52b0 : ((decide (t165 < 0)) == (decide (a0 < a2))) = true := c52
              (try (have c52b1 : decide ((decide (t165 < 0)) = (decide (a0 < a2))) = true := by simpa using c52))
              (try (have c52b2 : ((decide (t165 < 0)) == (decide (a0 < a2))) = true := by simpa using c52))
              clear c52
              obtain rfl := Option.some.inj H
              go_wp2_with (first | ((with_reducible refine gate_callee (f := 16) rfl ?_); refine goesL_ (some 89) rfl rfl Try.func16 (by kernel_rfl) rfl #[.int .i64 a0, .int .i64 1, .int .i64 a2, .int .i64 1] rfl (by (try simp only [List.map_toArray, List.map_cons, List.map_nil]); first | done | rfl | (simp only [List.length_drop, List.length_take]; rfl)) ?_; (with_reducible refine (frac_Cmp.calls a0 1 a2 1 t165 true _ A50.out).mono ?_); rintro e w53 ⟨rfl, hb⟩; refine ⟨_, rfl, ?_⟩; have n0_ := Aside0.mk (below_step (by repeat (first | (with_reducible first | exact HB.out | apply below_alloc | apply pw_below_drewN | apply below_drew1) | exact HB.out)) hb); clear HB; have HB := n0_; clear n0_; (try clear hb); (try clear hb2); (try clear hk); (try clear hi)))
              go_ret
              exact ⟨by first | rfl | (simp [errW_none, errW_some] <;> rfl) | (simp [*, errW_none, errW_some] <;> rfl) | (exfalso; first | exact absurd ‹(false != false) = true› (by decide) | exact absurd ‹(true != true) = true› (by decide) | exact absurd ‹(true != false) = false› (by decide) | exact absurd ‹(false != true) = false› (by decide) | exact absurd ‹(false == false) = false› (by decide) | exact absurd ‹(true == true) = false› (by decide) | exact absurd ‹(true == false) = true› (by decide) | exact absurd ‹(false == true) = true› (by decide)), by repeat (first | (with_reducible first | exact HB.out | apply below_alloc | apply pw_below_drewN | apply below_drew1) | exact HB.out)⟩
            · rw [if_neg c52] at H
              have c52b0 : ((decide (t165 < 0)) == (decide (a0 < a2))) = false := by simpa using c52
              (try (have c52b1 : decide ((decide (t165 < 0)) = (decide (a0 < a2))) = false := by simpa using c52))
              (try (have c52b2 : ((decide (t165 < 0)) == (decide (a0 < a2))) = false := by simpa using c52))
              (try (have c52b3 : ¬ ((decide (t165 < 0)) = (decide (a0 < a2))) := by simpa using c52))
              clear c52
              obtain rfl := Option.some.inj H
              go_wp2_with (first | ((with_reducible refine gate_callee (f := 16) rfl ?_); refine goesL_ (some 89) rfl rfl Try.func16 (by kernel_rfl) rfl #[.int .i64 a0, .int .i64 1, .int .i64 a2, .int .i64 1] rfl (by (try simp only [List.map_toArray, List.map_cons, List.map_nil]); first | done | rfl | (simp only [List.length_drop, List.length_take]; rfl)) ?_; (with_reducible refine (frac_Cmp.calls a0 1 a2 1 t165 true _ A50.out).mono ?_); rintro e w54 ⟨rfl, hb⟩; refine ⟨_, rfl, ?_⟩; have n0_ := Aside0.mk (below_step (by repeat (first | (with_reducible first | exact HB.out | apply below_alloc | apply pw_below_drewN | apply below_drew1) | exact HB.out)) hb); clear HB; have HB := n0_; clear n0_; (try clear hb); (try clear hb2); (try clear hk); (try clear hi)))
              go_ret
              exact ⟨by first | rfl | (simp [errW_none, errW_some] <;> rfl) | (simp [*, errW_none, errW_some] <;> rfl) | (exfalso; first | exact absurd ‹(false != false) = true› (by decide) | exact absurd ‹(true != true) = true› (by decide) | exact absurd ‹(true != false) = false› (by decide) | exact absurd ‹(false != true) = false› (by decide) | exact absurd ‹(false == false) = false› (by decide) | exact absurd ‹(true == true) = false› (by decide) | exact absurd ‹(true == false) = true› (by decide) | exact absurd ‹(false == true) = true› (by decide)), by repeat (first | (with_reducible first | exact HB.out | apply below_alloc | apply pw_below_drewN | apply below_drew1) | exact HB.out)⟩
          · replace c51 := Bool.eq_false_iff.mpr c51
            subst c51
            have H1 : (some true) = some r := by rw [if_neg (show ¬ (false = true) by decide)] at H; exact H
            clear H
            have H := H1
            clear H1
            obtain rfl := Option.some.inj H
            go_wp2_with (first | ((with_reducible refine gate_callee (f := 16) rfl ?_); refine goesL_ (some 89) rfl rfl Try.func16 (by kernel_rfl) rfl #[.int .i64 a0, .int .i64 1, .int .i64 a2, .int .i64 1] rfl (by (try simp only [List.map_toArray, List.map_cons, List.map_nil]); first | done | rfl | (simp only [List.length_drop, List.length_take]; rfl)) ?_; (with_reducible refine (frac_Cmp.calls a0 1 a2 1 t165 false _ A50.out).mono ?_); rintro e w55 ⟨rfl, hb⟩; refine ⟨_, rfl, ?_⟩; have n0_ := Aside0.mk (below_step (by repeat (first | (with_reducible first | exact HB.out | apply below_alloc | apply pw_below_drewN | apply below_drew1) | exact HB.out)) hb); clear HB; have HB := n0_; clear n0_; (try clear hb); (try clear hb2); (try clear hk); (try clear hi)))
            go_ret
            exact ⟨by first | rfl | (simp [errW_none, errW_some] <;> rfl) | (simp [*, errW_none, errW_some] <;> rfl) | (exfalso; first | exact absurd ‹(false != false) = true› (by decide) | exact absurd ‹(true != true) = true› (by decide) | exact absurd ‹(true != false) = false› (by decide) | exact absurd ‹(false != true) = false› (by decide) | exact absurd ‹(false == false) = false› (by decide) | exact absurd ‹(true == true) = false› (by decide) | exact absurd ‹(true == false) = true› (by decide) | exact absurd ‹(false == true) = true› (by decide)), by repeat (first | (with_reducible first | exact HB.out | apply below_alloc | apply pw_below_drewN | apply below_drew1) | exact HB.out)⟩

/-- THE ONE PURE STATEMENT of fuseelaw01_FracOrder: yours. -/
def fuseelaw01_FracOrder.Pure : Prop := ∀ (a0 : Int) (a1 : Int) (a2 : Int) (a3 : Int) (a4 : Int) (a5 : Int), (Lit.int .i64 a0).wf = true → (Lit.int .i64 a1).wf = true → (Lit.int .i64 a2).wf = true → (Lit.int .i64 a3).wf = true → (Lit.int .i64 a4).wf = true → (Lit.int .i64 a5).wf = true → ∃ k, fuseelaw01_FracOrder.f k a0 a1 a2 a3 a4 a5 = some true
theorem fuseelaw01_FracOrder.walk (P : fuseelaw01_FracOrder.Pure) (a0 : Int) (a1 : Int) (a2 : Int) (a3 : Int) (a4 : Int) (a5 : Int) (w : World) (w0 : (Lit.int .i64 a0).wf = true) (w1 : (Lit.int .i64 a1).wf = true) (w2 : (Lit.int .i64 a2).wf = true) (w3 : (Lit.int .i64 a3).wf = true) (w4 : (Lit.int .i64 a4).wf = true) (w5 : (Lit.int .i64 a5).wf = true) :
    Calls Try.prog 8 #[.int .i64 a0, .int .i64 a1, .int .i64 a2, .int .i64 a3, .int .i64 a4, .int .i64 a5] w fun e w' => e = .returned (.bool true) ∧ Below w.heap.size w w' := by
  obtain ⟨k, h⟩ := P a0 a1 a2 a3 a4 a5 w0 w1 w2 w3 w4 w5
  refine (fuseelaw01_FracOrder.calls k a0 a1 a2 a3 a4 a5 true w h).mono ?_
  rintro e w' ⟨rfl, hd⟩
  exact ⟨rfl, hd⟩

end Go.Proofs.Ytdhedkeeccofgaa.P
