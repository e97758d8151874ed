-- Written by a program of this session (hprint.py), out of the translation; functions that the print does not take are given by hand.
import Derived.Test.YtdhedkeeccofgaaPx0
import Derived.Test.YtdhedkeeccofgaaPx8
namespace Go.Proofs.Ytdhedkeeccofgaa.P
open Go.RowKit Go.Proofs.YtdhedkeeccofgaaM Go.Proofs.YtdhedkeeccofgaaW.PrintWords Go.Proofs.YtdhedkeeccofgaaW.PrintLast Go.Proofs.YtdhedkeeccofgaaW.PrintMore
attribute [local go_sem] max2_int min2_int max_two min_two max_three min_three max_four min_four   -- for this text's walks alone
set_option linter.unusedVariables false
set_option linter.unusedSimpArgs false

/-! ### fuseeref01_Cmp: function 19 -/
mutual
def fuseeref01_Cmp.j0 : Nat → Int → Int → Int → Int → Int → Int → Bool → Option (Int × Bool)
  | 0, _, _, _, _, _, _, _ => none
  | k + 1, x0, x1, x2, x3, x10, x12, x33 => if x33 = true then (some (0, false)) else (fuseeref01_Cmp.l0 k x0 x1 x2 x3 x10 x12)
def fuseeref01_Cmp.l0 : Nat → Int → Int → Int → Int → Int → Int → Option (Int × Bool)
  | 0, _, _, _, _, _, _ => none
  | k + 1, x0, x1, x2, x3, x10, x12 => if x10 = x12 then (if (wrap64 (x0 - (wrap64 (x10 * x1)))) = 0 then (fuseeref01_Cmp.j2 k (wrap64 (x0 - (wrap64 (x10 * x1)))) x1 (wrap64 (x2 - (wrap64 (x12 * x3)))) x3 ((wrap64 (x2 - (wrap64 (x12 * x3)))) == 0)) else (fuseeref01_Cmp.j2 k (wrap64 (x0 - (wrap64 (x10 * x1)))) x1 (wrap64 (x2 - (wrap64 (x12 * x3)))) x3 false)) else (if x10 < x12 then (some ((-1), true)) else (some (1, true)))
def fuseeref01_Cmp.j2 : Nat → Int → Int → Int → Int → Bool → Option (Int × Bool)
  | 0, _, _, _, _, _ => none
  | k + 1, x0, x1, x2, x3, x55 => if x55 = true then (some (0, true)) else (if x0 = 0 then (some ((-1), true)) else (if x2 = 0 then (some (1, true)) else (fuseeref01_Cmp.l0 k x3 x2 x1 x0 (wrap64 (Int.tdiv x3 x2)) (wrap64 (Int.tdiv x1 x0)))))
end
def fuseeref01_Cmp.f (k : Nat) (a0 : Int) (a1 : Int) (a2 : Int) (a3 : Int) : Option (Int × Bool) := (fuseeref01_Floor.f a0 a1).bind fun bt184 => ((fuseeref01_Floor.f a2 a3).bind fun bt186 => (if bt184.2 = true then (fuseeref01_Cmp.j0 k a0 a1 a2 a3 bt184.1 bt186.1 (!bt186.2)) else (fuseeref01_Cmp.j0 k a0 a1 a2 a3 bt184.1 bt186.1 true)))
theorem fuseeref01_Cmp.mono_l : ∀ k, (∀ y0 y1 y2 y3 y4 y5 y6, LeO (fuseeref01_Cmp.j0 k y0 y1 y2 y3 y4 y5 y6) (fuseeref01_Cmp.j0 (k + 1) y0 y1 y2 y3 y4 y5 y6)) ∧ (∀ y0 y1 y2 y3 y4 y5, LeO (fuseeref01_Cmp.l0 k y0 y1 y2 y3 y4 y5) (fuseeref01_Cmp.l0 (k + 1) y0 y1 y2 y3 y4 y5)) ∧ (∀ y0 y1 y2 y3 y4, LeO (fuseeref01_Cmp.j2 k y0 y1 y2 y3 y4) (fuseeref01_Cmp.j2 (k + 1) y0 y1 y2 y3 y4))
  | 0 => ⟨fun _ _ _ _ _ _ _ r h => by simp [fuseeref01_Cmp.j0] at h, fun _ _ _ _ _ _ r h => by simp [fuseeref01_Cmp.l0] at h, fun _ _ _ _ _ r h => by simp [fuseeref01_Cmp.j2] at h⟩
  | k + 1 => by
    obtain ⟨ih0, ih1, ih2⟩ := fuseeref01_Cmp.mono_l k
    refine ⟨?_, ?_, ?_⟩
    · intro y0 y1 y2 y3 y4 y5 y6
      unfold fuseeref01_Cmp.j0
      repeat' first
      | (with_reducible exact ih0 _ _ _ _ _ _ _)
      | (with_reducible exact ih1 _ _ _ _ _ _)
      | (with_reducible exact ih2 _ _ _ _ _)
      | (with_reducible exact LeO.refl _)
      | (with_reducible exact LeO.none _)
      | (with_reducible refine LeO.ite ?_ ?_)
      | (with_reducible refine LeO.bind ?_ (fun _ => ?_))
      | exact ih0 _ _ _ _ _ _ _
      | exact ih1 _ _ _ _ _ _
      | exact ih2 _ _ _ _ _
      | exact LeO.none _
      | refine LeO.ite ?_ ?_
      | refine LeO.bind ?_ (fun _ => ?_)
    · intro y0 y1 y2 y3 y4 y5
      unfold fuseeref01_Cmp.l0
      repeat' first
      | (with_reducible exact ih0 _ _ _ _ _ _ _)
      | (with_reducible exact ih1 _ _ _ _ _ _)
      | (with_reducible exact ih2 _ _ _ _ _)
      | (with_reducible exact LeO.refl _)
      | (with_reducible exact LeO.none _)
      | (with_reducible refine LeO.ite ?_ ?_)
      | (with_reducible refine LeO.bind ?_ (fun _ => ?_))
      | exact ih0 _ _ _ _ _ _ _
      | exact ih1 _ _ _ _ _ _
      | exact ih2 _ _ _ _ _
      | exact LeO.none _
      | refine LeO.ite ?_ ?_
      | refine LeO.bind ?_ (fun _ => ?_)
    · intro y0 y1 y2 y3 y4
      unfold fuseeref01_Cmp.j2
      repeat' first
      | (with_reducible exact ih0 _ _ _ _ _ _ _)
      | (with_reducible exact ih1 _ _ _ _ _ _)
      | (with_reducible exact ih2 _ _ _ _ _)
      | (with_reducible exact LeO.refl _)
      | (with_reducible exact LeO.none _)
      | (with_reducible refine LeO.ite ?_ ?_)
      | (with_reducible refine LeO.bind ?_ (fun _ => ?_))
      | exact ih0 _ _ _ _ _ _ _
      | exact ih1 _ _ _ _ _ _
      | exact ih2 _ _ _ _ _
      | exact LeO.none _
      | refine LeO.ite ?_ ?_
      | refine LeO.bind ?_ (fun _ => ?_)
theorem fuseeref01_Cmp.mono : ∀ a0 a1 a2 a3 k, LeO (fuseeref01_Cmp.f k a0 a1 a2 a3) (fuseeref01_Cmp.f (k + 1) a0 a1 a2 a3) := by
  intro a0 a1 a2 a3 k
  obtain ⟨ih0, ih1, ih2⟩ := fuseeref01_Cmp.mono_l k
  unfold fuseeref01_Cmp.f
  repeat' first
      | (with_reducible exact ih0 _ _ _ _ _ _ _)
      | (with_reducible exact ih1 _ _ _ _ _ _)
      | (with_reducible exact ih2 _ _ _ _ _)
      | (with_reducible exact LeO.refl _)
      | (with_reducible exact LeO.none _)
      | (with_reducible refine LeO.ite ?_ ?_)
      | (with_reducible refine LeO.bind ?_ (fun _ => ?_))
      | exact ih0 _ _ _ _ _ _ _
      | exact ih1 _ _ _ _ _ _
      | exact ih2 _ _ _ _ _
      | exact LeO.none _
      | refine LeO.ite ?_ ?_
      | refine LeO.bind ?_ (fun _ => ?_)
set_option maxHeartbeats 8000000 in
set_option maxRecDepth 100000 in
theorem fuseeref01_Cmp.calls (k : Nat) (a0 : Int) (a1 : Int) (a2 : Int) (a3 : Int) (r1 : Int) (r2 : Bool) (w : World) (h : fuseeref01_Cmp.f k a0 a1 a2 a3 = some (r1, r2)) :
    Calls Try.prog 19 #[.int .i64 a0, .int .i64 a1, .int .i64 a2, .int .i64 a3] w fun e w' => e = .returned (.tuple #[.int .i64 r1, .bool r2]) ∧ Drawn0 w w' := by
  have H : ((fuseeref01_Floor.f a0 a1).bind fun bt184 => ((fuseeref01_Floor.f a2 a3).bind fun bt186 => (if bt184.2 = true then (fuseeref01_Cmp.j0 k a0 a1 a2 a3 bt184.1 bt186.1 (!bt186.2)) else (fuseeref01_Cmp.j0 k a0 a1 a2 a3 bt184.1 bt186.1 true)))) = some (r1, r2) := h
  clear h
  replace H := Option.bind_eq_some_iff.mp H
  obtain ⟨⟨t184, t185⟩, A50, H⟩ := H
  replace H : ((fuseeref01_Floor.f a2 a3).bind fun bt186 => (if t185 = true then (fuseeref01_Cmp.j0 k a0 a1 a2 a3 t184 bt186.1 (!bt186.2)) else (fuseeref01_Cmp.j0 k a0 a1 a2 a3 t184 bt186.1 true))) = some (r1, r2) := H
  have A5 := Aside0.mk A50
  clear A50
  replace H := Option.bind_eq_some_iff.mp H
  obtain ⟨⟨t186, t187⟩, A60, H⟩ := H
  replace H : (if t185 = true then (fuseeref01_Cmp.j0 k a0 a1 a2 a3 t184 t186 (!t187)) else (fuseeref01_Cmp.j0 k a0 a1 a2 a3 t184 t186 true)) = some (r1, r2) := H
  have A6 := Aside0.mk A60
  clear A60
  have HC7 := Aside0.mk H
  clear H
  go_enter Try.func19, Try.ntmps19
  go_upto_region 3 with (first | ((with_reducible refine gate_callee (f := 17) rfl ?_); refine goesL_ (some 19) rfl rfl Try.func17 (by kernel_rfl) rfl #[.int .i64 a0, .int .i64 a1] rfl (by (try simp only [List.map_toArray, List.map_cons, List.map_nil]); first | done | rfl | (simp only [List.length_drop, List.length_take]; rfl)) ?_; (with_reducible refine (fuseeref01_Floor.calls a0 a1 t184 t185 _ A5.out).mono ?_); rintro e w' ⟨rfl, ⟨nd, rfl⟩⟩; refine ⟨_, rfl, ?_⟩) | ((with_reducible refine gate_callee (f := 17) rfl ?_); refine goesL_ (some 25) rfl rfl Try.func17 (by kernel_rfl) rfl #[.int .i64 a2, .int .i64 a3] rfl (by (try simp only [List.map_toArray, List.map_cons, List.map_nil]); first | done | rfl | (simp only [List.length_drop, List.length_take]; rfl)) ?_; (with_reducible refine (fuseeref01_Floor.calls a2 a3 t186 t187 _ A6.out).mono ?_); rintro e w' ⟨rfl, ⟨nd, rfl⟩⟩; refine ⟨_, rfl, ?_⟩))
  (try simp only [Act.put, List.setIfInBounds_toArray, List.set_cons_zero, List.set_cons_succ])
  go_cut [33] (fun v33 wc => ∃ (kq : Nat) (x33_6 : Bool), v33 = .bool x33_6 ∧ Aside0 (fuseeref01_Cmp.j0 kq a0 a1 a2 a3 t184 t186 x33_6 = some (r1, r2)) ∧ Aside0 (kq ≤ k) ∧ Drawn0 w wc)
  case first =>
    have H := HC7.out
    clear HC7
    by_cases c8 : t185 = true
    · subst c8
      have H1 : (fuseeref01_Cmp.j0 k a0 a1 a2 a3 t184 t186 (!t187)) = some (r1, r2) := by rw [if_pos rfl] at H; exact H
      clear H
      have H := H1
      clear H1
      have H' := Aside0.mk H
      clear H
      go_wp2
      go_meet
      case rel => exact ⟨_, (!t187), (by first | rfl | (simp; done) | (simp [*]; done)), H', ⟨by first | omega | exact Nat.le_refl _⟩, by repeat (first | exact Drawn0.refl _ | apply Drawn0.step)⟩
    · replace c8 := Bool.eq_false_iff.mpr c8
      subst c8
      have H1 : (fuseeref01_Cmp.j0 k a0 a1 a2 a3 t184 t186 true) = some (r1, r2) := by rw [if_neg (show ¬ (false = true) by decide)] at H; exact H
      clear H
      have H := H1
      clear H1
      have H' := Aside0.mk H
      clear H
      go_wp2
      go_meet
      case rel => exact ⟨_, (true), (by first | rfl | (simp; done) | (simp [*]; done)), H', ⟨by first | omega | exact Nat.le_refl _⟩, by repeat (first | exact Drawn0.refl _ | apply Drawn0.step)⟩
  case rest =>
    clear HC7
    try clear c1
    try clear p2
    try clear c8
    obtain ⟨kq, x33_6, rfl, HA, HJ6, ⟨mc6, rfl⟩⟩ := hcut
    cases kq with
    | zero => exact absurd HA.out (by simp [fuseeref01_Cmp.j0])
    | succ kj6 =>
      have H := HA.out
      clear HA
      simp only [fuseeref01_Cmp.j0] at H
      by_cases c9 : x33_6 = true
      · subst c9
        have H1 : (some (0, false)) = some (r1, r2) := by rw [if_pos rfl] at H; exact H
        clear H
        have H := H1
        clear H1
        simp only [Option.some.injEq, Prod.mk.injEq] at H
        obtain ⟨rfl, rfl⟩ := H
        go_wp2
        go_ret2
        exact ⟨by first | rfl | (simp; done) | (simp [*]; done) | (exfalso; first | exact absurd ‹(false != false) = true› (by decide) | exact absurd ‹(true != true) = true› (by decide) | exact absurd ‹(true != false) = false› (by decide) | exact absurd ‹(false != true) = false› (by decide) | exact absurd ‹(false == false) = false› (by decide) | exact absurd ‹(true == true) = false› (by decide) | exact absurd ‹(true == false) = true› (by decide) | exact absurd ‹(false == true) = true› (by decide)), by repeat (first | exact Drawn0.refl _ | apply Drawn0.step)⟩
      · replace c9 := Bool.eq_false_iff.mpr c9
        subst c9
        have H1 : (fuseeref01_Cmp.l0 kj6 a0 a1 a2 a3 t184 t186) = some (r1, r2) := by rw [if_neg (show ¬ (false = true) by decide)] at H; exact H
        clear H
        have H := H1
        clear H1
        have H' := Aside0.mk H
        clear H
        go_wp2
        go_loopg [0, 1, 2, 3, 10, 12] kj6 (fun kq v0 v1 v2 v3 v10 v12 w' => ∃ (x0_2 : Int) (x1_2 : Int) (x2_2 : Int) (x3_2 : Int) (x10_2 : Int) (x12_2 : Int), v0 = .int .i64 x0_2 ∧ v1 = .int .i64 x1_2 ∧ v2 = .int .i64 x2_2 ∧ v3 = .int .i64 x3_2 ∧ v10 = .int .i64 x10_2 ∧ v12 = .int .i64 x12_2 ∧ Aside0 (fuseeref01_Cmp.l0 kq x0_2 x1_2 x2_2 x3_2 x10_2 x12_2 = some (r1, r2)) ∧ Aside0 (kq ≤ kj6) ∧ Drawn0 w w')
        case atStart => exact ⟨(a0), (a1), (a2), (a3), (t184), (t186), (by first | rfl | (simp; done) | (simp [*]; done)), (by first | rfl | (simp; done) | (simp [*]; done)), (by first | rfl | (simp; done) | (simp [*]; done)), (by first | rfl | (simp; done) | (simp [*]; done)), (by first | rfl | (simp; done) | (simp [*]; done)), (by first | rfl | (simp; done) | (simp [*]; done)), H', ⟨Nat.le_refl _⟩, by repeat (first | exact Drawn0.refl _ | apply Drawn0.step)⟩
        case round =>
          clear H'
          try clear c1
          try clear p2
          try clear c6
          try clear c8
          try clear c9
          try clear p2
          obtain ⟨x0_2, x1_2, x2_2, x3_2, x10_2, x12_2, rfl, rfl, rfl, rfl, rfl, rfl, HA, HK2, ⟨m2, rfl⟩⟩ := hrel
          cases gk with
          | zero => exact absurd HA.out (by simp [fuseeref01_Cmp.l0])
          | succ k2 =>
            have H := HA.out
            clear HA
            simp only [fuseeref01_Cmp.l0] at H
            by_cases c10 : x10_2 = x12_2
            · rw [if_pos c10] at H
              have c10b0 : (x10_2 == x12_2) = true := beq_iff_eq.mpr c10
              have c10b1 : (x10_2 != x12_2) = false := bne_eq_false_iff_eq.mpr c10
              clear c10
              have HC11 := Aside0.mk H
              clear H
              go_upto_region 11 with (fail)
              go_cut [55] (fun v55 wc => ∃ (kq : Nat) (x55_10 : Bool), v55 = .bool x55_10 ∧ Aside0 (fuseeref01_Cmp.j2 kq (wrap64 (x0_2 - (wrap64 (x10_2 * x1_2)))) x1_2 (wrap64 (x2_2 - (wrap64 (x12_2 * x3_2)))) x3_2 x55_10 = some (r1, r2)) ∧ Aside0 (kq ≤ k2) ∧ Drawn0 w wc)
              case first =>
                have H := HC11.out
                clear HC11
                by_cases c12 : (wrap64 (x0_2 - (wrap64 (x10_2 * x1_2)))) = 0
                · rw [if_pos c12] at H
                  have c12b0 : ((wrap64 (x0_2 - (wrap64 (x10_2 * x1_2)))) == 0) = true := beq_iff_eq.mpr c12
                  have c12b1 : ((wrap64 (x0_2 - (wrap64 (x10_2 * x1_2)))) != 0) = false := bne_eq_false_iff_eq.mpr c12
                  clear c12
                  (first | rw [c12b0] | (simp only [i64_w, i32_w]; rw [c12b0]) | skip)
                  have H' := Aside0.mk H
                  clear H
                  go_wp2
                  go_meet
                  case rel => exact ⟨_, (((wrap64 (x2_2 - (wrap64 (x12_2 * x3_2)))) == 0)), (by first | rfl | (simp; done) | (simp [*]; done)), H', ⟨by have := HJ6.out; have := HK2.out; first | omega | exact Nat.le_refl _⟩, by repeat (first | exact Drawn0.refl _ | apply Drawn0.step)⟩
                · rw [if_neg c12] at H
                  have c12b0 : ((wrap64 (x0_2 - (wrap64 (x10_2 * x1_2)))) == 0) = false := beq_eq_false_iff_ne.mpr c12
                  have c12b1 : ((wrap64 (x0_2 - (wrap64 (x10_2 * x1_2)))) != 0) = true := bne_iff_ne.mpr c12
                  (first | rw [c12b0] | (simp only [i64_w, i32_w]; rw [c12b0]) | skip)
                  have H' := Aside0.mk H
                  clear H
                  go_wp2
                  go_meet
                  case rel => exact ⟨_, (false), (by first | rfl | (simp; done) | (simp [*]; done)), H', ⟨by have := HJ6.out; have := HK2.out; first | omega | exact Nat.le_refl _⟩, by repeat (first | exact Drawn0.refl _ | apply Drawn0.step)⟩
              case rest =>
                clear HC11
                try clear c1
                try clear p2
                try clear c6
                try clear p6
                try clear c8
                try clear c9
                try clear c10
                try clear c10b0
                try clear c10b1
                try clear c12
                try clear c12b0
                try clear c12b1
                try clear p2
                obtain ⟨kq, x55_10, rfl, HA, HJ10, ⟨mc10, rfl⟩⟩ := hcut
                cases kq with
                | zero => exact absurd HA.out (by simp [fuseeref01_Cmp.j2])
                | succ kj10 =>
                  have H := HA.out
                  clear HA
                  simp only [fuseeref01_Cmp.j2] at H
                  by_cases c13 : x55_10 = true
                  · subst c13
                    have H1 : (some (0, true)) = some (r1, r2) := by rw [if_pos rfl] at H; exact H
                    clear H
                    have H := H1
                    clear H1
                    simp only [Option.some.injEq, Prod.mk.injEq] at H
                    obtain ⟨rfl, rfl⟩ := H
                    go_wp2
                    go_ret2
                    exact ⟨by first | rfl | (simp; done) | (simp [*]; done) | (exfalso; first | exact absurd ‹(false != false) = true› (by decide) | exact absurd ‹(true != true) = true› (by decide) | exact absurd ‹(true != false) = false› (by decide) | exact absurd ‹(false != true) = false› (by decide) | exact absurd ‹(false == false) = false› (by decide) | exact absurd ‹(true == true) = false› (by decide) | exact absurd ‹(true == false) = true› (by decide) | exact absurd ‹(false == true) = true› (by decide)), by repeat (first | exact Drawn0.refl _ | apply Drawn0.step)⟩
                  · replace c13 := Bool.eq_false_iff.mpr c13
                    subst c13
                    have H1 : (if (wrap64 (x0_2 - (wrap64 (x10_2 * x1_2)))) = 0 then (some ((-1), true)) else (if (wrap64 (x2_2 - (wrap64 (x12_2 * x3_2)))) = 0 then (some (1, true)) else (fuseeref01_Cmp.l0 kj10 x3_2 (wrap64 (x2_2 - (wrap64 (x12_2 * x3_2)))) x1_2 (wrap64 (x0_2 - (wrap64 (x10_2 * x1_2)))) (wrap64 (Int.tdiv x3_2 (wrap64 (x2_2 - (wrap64 (x12_2 * x3_2)))))) (wrap64 (Int.tdiv x1_2 (wrap64 (x0_2 - (wrap64 (x10_2 * x1_2))))))))) = some (r1, r2) := by rw [if_neg (show ¬ (false = true) by decide)] at H; exact H
                    clear H
                    have H := H1
                    clear H1
                    by_cases c14 : (wrap64 (x0_2 - (wrap64 (x10_2 * x1_2)))) = 0
                    · rw [if_pos c14] at H
                      have c14b0 : ((wrap64 (x0_2 - (wrap64 (x10_2 * x1_2)))) == 0) = true := beq_iff_eq.mpr c14
                      have c14b1 : ((wrap64 (x0_2 - (wrap64 (x10_2 * x1_2)))) != 0) = false := bne_eq_false_iff_eq.mpr c14
                      clear c14
                      simp only [Option.some.injEq, Prod.mk.injEq] at H
                      obtain ⟨rfl, rfl⟩ := H
                      go_wp2
                      go_ret2
                      exact ⟨by first | rfl | (simp; done) | (simp [*]; done) | (exfalso; first | exact absurd ‹(false != false) = true› (by decide) | exact absurd ‹(true != true) = true› (by decide) | exact absurd ‹(true != false) = false› (by decide) | exact absurd ‹(false != true) = false› (by decide) | exact absurd ‹(false == false) = false› (by decide) | exact absurd ‹(true == true) = false› (by decide) | exact absurd ‹(true == false) = true› (by decide) | exact absurd ‹(false == true) = true› (by decide)), by repeat (first | exact Drawn0.refl _ | apply Drawn0.step)⟩
                    · rw [if_neg c14] at H
                      have c14b0 : ((wrap64 (x0_2 - (wrap64 (x10_2 * x1_2)))) == 0) = false := beq_eq_false_iff_ne.mpr c14
                      have c14b1 : ((wrap64 (x0_2 - (wrap64 (x10_2 * x1_2)))) != 0) = true := bne_iff_ne.mpr c14
                      by_cases c15 : (wrap64 (x2_2 - (wrap64 (x12_2 * x3_2)))) = 0
                      · rw [if_pos c15] at H
                        have c15b0 : ((wrap64 (x2_2 - (wrap64 (x12_2 * x3_2)))) == 0) = true := beq_iff_eq.mpr c15
                        have c15b1 : ((wrap64 (x2_2 - (wrap64 (x12_2 * x3_2)))) != 0) = false := bne_eq_false_iff_eq.mpr c15
                        clear c15
                        simp only [Option.some.injEq, Prod.mk.injEq] at H
                        obtain ⟨rfl, rfl⟩ := H
                        go_wp2
                        go_ret2
                        exact ⟨by first | rfl | (simp; done) | (simp [*]; done) | (exfalso; first | exact absurd ‹(false != false) = true› (by decide) | exact absurd ‹(true != true) = true› (by decide) | exact absurd ‹(true != false) = false› (by decide) | exact absurd ‹(false != true) = false› (by decide) | exact absurd ‹(false == false) = false› (by decide) | exact absurd ‹(true == true) = false› (by decide) | exact absurd ‹(true == false) = true› (by decide) | exact absurd ‹(false == true) = true› (by decide)), by repeat (first | exact Drawn0.refl _ | apply Drawn0.step)⟩
                      · rw [if_neg c15] at H
                        have c15b0 : ((wrap64 (x2_2 - (wrap64 (x12_2 * x3_2)))) == 0) = false := beq_eq_false_iff_ne.mpr c15
                        have c15b1 : ((wrap64 (x2_2 - (wrap64 (x12_2 * x3_2)))) != 0) = true := bne_iff_ne.mpr c15
                        have H' := Aside0.mk H
                        clear H
                        go_wp2
                        go_roundg kj10
                        case measure => have := HJ6.out; have := HK2.out; have := HJ10.out; omega
                        case rel => exact ⟨(x3_2), ((wrap64 (x2_2 - (wrap64 (x12_2 * x3_2))))), (x1_2), ((wrap64 (x0_2 - (wrap64 (x10_2 * x1_2))))), (wrap64 (Int.tdiv x3_2 (wrap64 (x2_2 - (wrap64 (x12_2 * x3_2)))))), (wrap64 (Int.tdiv x1_2 (wrap64 (x0_2 - (wrap64 (x10_2 * x1_2)))))), (by first | rfl | (simp; done) | (simp [*]; done)), (by first | rfl | (simp; done) | (simp [*]; done)), (by first | rfl | (simp; done) | (simp [*]; done)), (by first | rfl | (simp; done) | (simp [*]; done)), (by first | rfl | (simp; done) | (simp [*]; done)), (by first | rfl | (simp; done) | (simp [*]; done)), H', ⟨by have := HJ6.out; have := HK2.out; have := HJ10.out; omega⟩, by repeat (first | exact Drawn0.refl _ | apply Drawn0.step)⟩
            · rw [if_neg c10] at H
              have c10b0 : (x10_2 == x12_2) = false := beq_eq_false_iff_ne.mpr c10
              have c10b1 : (x10_2 != x12_2) = true := bne_iff_ne.mpr c10
              by_cases c16 : x10_2 < x12_2
              · rw [if_pos c16] at H
                have c16b0 : decide (x10_2 < x12_2) = true := decide_eq_true c16
                clear c16
                simp only [Option.some.injEq, Prod.mk.injEq] at H
                obtain ⟨rfl, rfl⟩ := H
                go_wp2
                go_ret2
                exact ⟨by first | rfl | (simp; done) | (simp [*]; done) | (exfalso; first | exact absurd ‹(false != false) = true› (by decide) | exact absurd ‹(true != true) = true› (by decide) | exact absurd ‹(true != false) = false› (by decide) | exact absurd ‹(false != true) = false› (by decide) | exact absurd ‹(false == false) = false› (by decide) | exact absurd ‹(true == true) = false› (by decide) | exact absurd ‹(true == false) = true› (by decide) | exact absurd ‹(false == true) = true› (by decide)), by repeat (first | exact Drawn0.refl _ | apply Drawn0.step)⟩
              · rw [if_neg c16] at H
                have c16b0 : decide (x10_2 < x12_2) = false := decide_eq_false c16
                clear c16
                simp only [Option.some.injEq, Prod.mk.injEq] at H
                obtain ⟨rfl, rfl⟩ := H
                go_wp2
                go_ret2
                exact ⟨by first | rfl | (simp; done) | (simp [*]; done) | (exfalso; first | exact absurd ‹(false != false) = true› (by decide) | exact absurd ‹(true != true) = true› (by decide) | exact absurd ‹(true != false) = false› (by decide) | exact absurd ‹(false != true) = false› (by decide) | exact absurd ‹(false == false) = false› (by decide) | exact absurd ‹(true == true) = false› (by decide) | exact absurd ‹(true == false) = true› (by decide) | exact absurd ‹(false == true) = true› (by decide)), by repeat (first | exact Drawn0.refl _ | apply Drawn0.step)⟩

/-! ### fuseeref01_Root: function 20 -/
def fuseeref01_Root.l0 : Nat → Int → Int → Int → Option (Int × Bool)
  | 0, _, _, _ => none
  | k + 1, x0, x5, x6 => if x6 > 0 then (if (wrap64 (x5 + x6)) ≤ 2147483648 then (if (wrap64 ((wrap64 (x5 + x6)) * (wrap64 (x5 + x6)))) ≤ x0 then (fuseeref01_Root.l0 k x0 (wrap64 (x5 + x6)) (wrap64 (Int.tdiv x6 2))) else (fuseeref01_Root.l0 k x0 x5 (wrap64 (Int.tdiv x6 2)))) else (fuseeref01_Root.l0 k x0 x5 (wrap64 (Int.tdiv x6 2)))) else (some (x5, true))
def fuseeref01_Root.f (k : Nat) (a0 : Int) : Option (Int × Bool) := (fuseeref01_May.f a0).bind fun t188 => (if t188 = true then (fuseeref01_Root.l0 k a0 0 2147483648) else (some (0, false)))
theorem fuseeref01_Root.mono_l : ∀ k, (∀ y0 y1 y2, LeO (fuseeref01_Root.l0 k y0 y1 y2) (fuseeref01_Root.l0 (k + 1) y0 y1 y2))
  | 0 => fun _ _ _ r h => by simp [fuseeref01_Root.l0] at h
  | k + 1 => by
    have ih0 := fuseeref01_Root.mono_l k
    · intro y0 y1 y2
      unfold fuseeref01_Root.l0
      repeat' first
      | (with_reducible exact ih0 _ _ _)
      | (with_reducible exact LeO.refl _)
      | (with_reducible exact LeO.none _)
      | (with_reducible refine LeO.ite ?_ ?_)
      | (with_reducible refine LeO.bind ?_ (fun _ => ?_))
      | exact ih0 _ _ _
      | exact LeO.none _
      | refine LeO.ite ?_ ?_
      | refine LeO.bind ?_ (fun _ => ?_)
theorem fuseeref01_Root.mono : ∀ a0 k, LeO (fuseeref01_Root.f k a0) (fuseeref01_Root.f (k + 1) a0) := by
  intro a0 k
  have ih0 := fuseeref01_Root.mono_l k
  unfold fuseeref01_Root.f
  repeat' first
      | (with_reducible exact ih0 _ _ _)
      | (with_reducible exact LeO.refl _)
      | (with_reducible exact LeO.none _)
      | (with_reducible refine LeO.ite ?_ ?_)
      | (with_reducible refine LeO.bind ?_ (fun _ => ?_))
      | exact ih0 _ _ _
      | exact LeO.none _
      | refine LeO.ite ?_ ?_
      | refine LeO.bind ?_ (fun _ => ?_)
set_option maxHeartbeats 8000000 in
set_option maxRecDepth 100000 in
theorem fuseeref01_Root.calls (k : Nat) (a0 : Int) (r1 : Int) (r2 : Bool) (w : World) (h : fuseeref01_Root.f k a0 = some (r1, r2)) :
    Calls Try.prog 20 #[.int .i64 a0] w fun e w' => e = .returned (.tuple #[.int .i64 r1, .bool r2]) ∧ Drawn0 w w' := by
  have H : ((fuseeref01_May.f a0).bind fun t188 => (if t188 = true then (fuseeref01_Root.l0 k a0 0 2147483648) else (some (0, false)))) = some (r1, r2) := h
  clear h
  replace H := Option.bind_eq_some_iff.mp H
  obtain ⟨t188, A20, H⟩ := H
  replace H : (if t188 = true then (fuseeref01_Root.l0 k a0 0 2147483648) else (some (0, false))) = some (r1, r2) := H
  have A2 := Aside0.mk A20
  clear A20
  by_cases c3 : t188 = true
  · subst c3
    have H1 : (fuseeref01_Root.l0 k a0 0 2147483648) = some (r1, r2) := by rw [if_pos rfl] at H; exact H
    clear H
    have H := H1
    clear H1
    have H' := Aside0.mk H
    clear H
    go_enter Try.func20, Try.ntmps20
    go_wp2_with (first | ((with_reducible refine gate_callee (f := 29) rfl ?_); refine goesL_ (some 8) rfl rfl Try.func29 (by kernel_rfl) rfl #[.int .i64 a0] rfl (by (try simp only [List.map_toArray, List.map_cons, List.map_nil]); first | done | rfl | (simp only [List.length_drop, List.length_take]; rfl)) ?_; (with_reducible refine (fuseeref01_May.calls a0 true _ A2.out).mono ?_); rintro e w' ⟨rfl, ⟨nd, rfl⟩⟩; refine ⟨_, rfl, ?_⟩))
    go_loopg [5, 6] k (fun kq v5 v6 w' => ∃ (x5_1 : Int) (x6_1 : Int), v5 = .int .i64 x5_1 ∧ v6 = .int .i64 x6_1 ∧ Aside0 (fuseeref01_Root.l0 kq a0 x5_1 x6_1 = some (r1, r2)) ∧ Aside0 (kq ≤ k) ∧ Drawn0 w w')
    case atStart => exact ⟨(0), (2147483648), (by first | rfl | (simp; done) | (simp [*]; done)), (by first | rfl | (simp; done) | (simp [*]; done)), H', ⟨Nat.le_refl _⟩, by repeat (first | exact Drawn0.refl _ | apply Drawn0.step)⟩
    case round =>
      clear H'
      try clear c2
      try clear p2
      try clear c3
      obtain ⟨x5_1, x6_1, rfl, rfl, HA, HK1, ⟨m1, rfl⟩⟩ := hrel
      cases gk with
      | zero => exact absurd HA.out (by simp [fuseeref01_Root.l0])
      | succ k1 =>
        have H := HA.out
        clear HA
        simp only [fuseeref01_Root.l0] at H
        by_cases c4 : x6_1 > 0
        · rw [if_pos c4] at H
          have c4b0 : decide (0 < x6_1) = true := decide_eq_true c4
          clear c4
          by_cases c5 : (wrap64 (x5_1 + x6_1)) ≤ 2147483648
          · rw [if_pos c5] at H
            have c5b0 : decide ((wrap64 (x5_1 + x6_1)) ≤ 2147483648) = true := decide_eq_true c5
            clear c5
            by_cases c6 : (wrap64 ((wrap64 (x5_1 + x6_1)) * (wrap64 (x5_1 + x6_1)))) ≤ a0
            · rw [if_pos c6] at H
              have c6b0 : decide ((wrap64 ((wrap64 (x5_1 + x6_1)) * (wrap64 (x5_1 + x6_1)))) ≤ a0) = true := decide_eq_true c6
              clear c6
              have H' := Aside0.mk H
              clear H
              go_wp2
              go_roundg k1
              case measure => have := HK1.out; omega
              case rel => exact ⟨(wrap64 (x5_1 + x6_1)), (wrap64 (Int.tdiv x6_1 2)), (by first | rfl | (simp; done) | (simp [*]; done)), (by first | rfl | (simp; done) | (simp [*]; done)), H', ⟨by have := HK1.out; omega⟩, by repeat (first | exact Drawn0.refl _ | apply Drawn0.step)⟩
            · rw [if_neg c6] at H
              have c6b0 : decide ((wrap64 ((wrap64 (x5_1 + x6_1)) * (wrap64 (x5_1 + x6_1)))) ≤ a0) = false := decide_eq_false c6
              clear c6
              have H' := Aside0.mk H
              clear H
              go_wp2
              go_roundg k1
              case measure => have := HK1.out; omega
              case rel => exact ⟨(x5_1), (wrap64 (Int.tdiv x6_1 2)), (by first | rfl | (simp; done) | (simp [*]; done)), (by first | rfl | (simp; done) | (simp [*]; done)), H', ⟨by have := HK1.out; omega⟩, by repeat (first | exact Drawn0.refl _ | apply Drawn0.step)⟩
          · rw [if_neg c5] at H
            have c5b0 : decide ((wrap64 (x5_1 + x6_1)) ≤ 2147483648) = false := decide_eq_false c5
            clear c5
            have H' := Aside0.mk H
            clear H
            go_wp2
            go_roundg k1
            case measure => have := HK1.out; omega
            case rel => exact ⟨(x5_1), (wrap64 (Int.tdiv x6_1 2)), (by first | rfl | (simp; done) | (simp [*]; done)), (by first | rfl | (simp; done) | (simp [*]; done)), H', ⟨by have := HK1.out; omega⟩, by repeat (first | exact Drawn0.refl _ | apply Drawn0.step)⟩
        · rw [if_neg c4] at H
          have c4b0 : decide (0 < x6_1) = false := decide_eq_false c4
          clear c4
          simp only [Option.some.injEq, Prod.mk.injEq] at H
          obtain ⟨rfl, rfl⟩ := H
          go_wp2
          go_ret2
          exact ⟨by first | rfl | (simp; done) | (simp [*]; done) | (exfalso; first | exact absurd ‹(false != false) = true› (by decide) | exact absurd ‹(true != true) = true› (by decide) | exact absurd ‹(true != false) = false› (by decide) | exact absurd ‹(false != true) = false› (by decide) | exact absurd ‹(false == false) = false› (by decide) | exact absurd ‹(true == true) = false› (by decide) | exact absurd ‹(true == false) = true› (by decide) | exact absurd ‹(false == true) = true› (by decide)), by repeat (first | exact Drawn0.refl _ | apply Drawn0.step)⟩
  · replace c3 := Bool.eq_false_iff.mpr c3
    subst c3
    have H1 : (some (0, false)) = some (r1, r2) := by rw [if_neg (show ¬ (false = true) by decide)] at H; exact H
    clear H
    have H := H1
    clear H1
    simp only [Option.some.injEq, Prod.mk.injEq] at H
    obtain ⟨rfl, rfl⟩ := H
    go_enter Try.func20, Try.ntmps20
    go_wp2_with (first | ((with_reducible refine gate_callee (f := 29) rfl ?_); refine goesL_ (some 8) rfl rfl Try.func29 (by kernel_rfl) rfl #[.int .i64 a0] rfl (by (try simp only [List.map_toArray, List.map_cons, List.map_nil]); first | done | rfl | (simp only [List.length_drop, List.length_take]; rfl)) ?_; (with_reducible refine (fuseeref01_May.calls a0 false _ A2.out).mono ?_); rintro e w' ⟨rfl, ⟨nd, rfl⟩⟩; refine ⟨_, rfl, ?_⟩))
    go_ret2
    exact ⟨by first | rfl | (simp; done) | (simp [*]; done) | (exfalso; first | exact absurd ‹(false != false) = true› (by decide) | exact absurd ‹(true != true) = true› (by decide) | exact absurd ‹(true != false) = false› (by decide) | exact absurd ‹(false != true) = false› (by decide) | exact absurd ‹(false == false) = false› (by decide) | exact absurd ‹(true == true) = false› (by decide) | exact absurd ‹(true == false) = true› (by decide) | exact absurd ‹(false == true) = true› (by decide)), by repeat (first | exact Drawn0.refl _ | apply Drawn0.step)⟩

end Go.Proofs.Ytdhedkeeccofgaa.P
