-- Written by a program of this session (hprint.py), out of the translation; functions that the print does not take are given by hand.
import Derived.Test.YtaejikbfnlihmaaPx0
import Derived.Test.YtaejikbfnlihmaaPx2
import Derived.Test.YtaejikbfnlihmaaPx23
namespace Go.Proofs.Ytaejikbfnlihmaa.P
open Go.RowKit Go.Proofs.YtaejikbfnlihmaaM Go.Proofs.YtaejikbfnlihmaaW.PrintWords Go.Proofs.YtaejikbfnlihmaaW.PrintLast Go.Proofs.YtaejikbfnlihmaaW.PrintMore
attribute [local go_sem] max2_int min2_int max_two min_two max_three min_three max_four min_four   -- for this text's walks alone
set_option linter.unusedVariables false
set_option linter.unusedSimpArgs false

attribute [local go_sem high] eqA42
/-! ### fuseeref10_Same: function 16 -/
def fuseeref10_Same.l0 : Nat → List (S42) → List (S42) → Int → Option (Bool)
  | 0, _, _, _ => none
  | k + 1, x0, x1, x5 => if x5 < (x0.length : Int) then (if 0 ≤ x5 then (if x5 < (x1.length : Int) then (if ((!(((rd_T42 x0 x5).f0.f0) == ((rd_T42 x1 x5).f0.f0)) || (!(((rd_T42 x0 x5).f0.f1) == ((rd_T42 x1 x5).f0.f1)) || (!(((rd_T42 x0 x5).f0.f2) == ((rd_T42 x1 x5).f0.f2)) || (!(((rd_T42 x0 x5).f0.f3) == ((rd_T42 x1 x5).f0.f3)) || (!(((rd_T42 x0 x5).f0.f4) == ((rd_T42 x1 x5).f0.f4)) || (!(((rd_T42 x0 x5).f0.f5) == ((rd_T42 x1 x5).f0.f5)))))))) || (!(((rd_T42 x0 x5).f1) == ((rd_T42 x1 x5).f1)))) = true then (some false) else (fuseeref10_Same.l0 k x0 x1 (wrap64 (x5 + 1)))) else (none)) else (none)) else (some true)
def fuseeref10_Same.f (k : Nat) (l0 : List (S42)) (l1 : List (S42)) : Option (Bool) := if (l0.length : Int) = (l1.length : Int) then (fuseeref10_Same.l0 k l0 l1 0) else (some false)
theorem fuseeref10_Same.mono_l : ∀ k, (∀ y0 y1 y2, LeO (fuseeref10_Same.l0 k y0 y1 y2) (fuseeref10_Same.l0 (k + 1) y0 y1 y2))
  | 0 => fun _ _ _ r h => by simp [fuseeref10_Same.l0] at h
  | k + 1 => by
    have ih0 := fuseeref10_Same.mono_l k
    · intro y0 y1 y2
      unfold fuseeref10_Same.l0
      repeat' first
      | (with_reducible exact ih0 _ _ _)
      | (with_reducible exact LeO.refl _)
      | (with_reducible exact LeO.none _)
      | (with_reducible refine LeO.ite ?_ ?_)
      | (with_reducible refine LeO.bind ?_ (fun _ => ?_))
      | exact ih0 _ _ _
      | exact LeO.none _
      | refine LeO.ite ?_ ?_
      | refine LeO.bind ?_ (fun _ => ?_)
theorem fuseeref10_Same.mono : ∀ a0 a1 k, LeO (fuseeref10_Same.f k a0 a1) (fuseeref10_Same.f (k + 1) a0 a1) := by
  intro a0 a1 k
  have ih0 := fuseeref10_Same.mono_l k
  unfold fuseeref10_Same.f
  repeat' first
      | (with_reducible exact ih0 _ _ _)
      | (with_reducible exact LeO.refl _)
      | (with_reducible exact LeO.none _)
      | (with_reducible refine LeO.ite ?_ ?_)
      | (with_reducible refine LeO.bind ?_ (fun _ => ?_))
      | exact ih0 _ _ _
      | exact LeO.none _
      | refine LeO.ite ?_ ?_
      | refine LeO.bind ?_ (fun _ => ?_)
set_option maxHeartbeats 8000000 in
set_option maxRecDepth 100000 in
theorem fuseeref10_Same.calls (k : Nat) (A0 : Option Addr) (c0 : Nat) (l0 : List (S42)) (A1 : Option Addr) (c1 : Nat) (l1 : List (S42)) (r : Bool) (w : World) (hr0 : Kd.C k42 w A0 l0.length l0) (hc0 : l0.length ≤ c0) (hr1 : Kd.C k42 w A1 l1.length l1) (hc1 : l1.length ≤ c1) (h : fuseeref10_Same.f k l0 l1 = some r) :
    Calls Try.prog 16 #[.slice A0 l0.length c0, .slice A1 l1.length c1] w fun e w' => e = .returned (.bool r) ∧ Drawn0 w w' := by
  have hu42 := Try.underlying42
  have HR0 := Aside0.mk hr0
  have HC0 := Aside0.mk hc0
  clear hr0 hc0
  have HR1 := Aside0.mk hr1
  have HC1 := Aside0.mk hc1
  clear hr1 hc1
  have H : (if (l0.length : Int) = (l1.length : Int) then (fuseeref10_Same.l0 k l0 l1 0) else (some false)) = some r := h
  clear h
  by_cases c3 : (l0.length : Int) = (l1.length : Int)
  · rw [if_pos c3] at H
    have c3b0 : ((l0.length : Int) == (l1.length : Int)) = true := beq_iff_eq.mpr c3
    have c3b1 : ((l0.length : Int) != (l1.length : Int)) = false := bne_eq_false_iff_eq.mpr c3
    have c3b2 : (l0.length == l1.length) = true := by first | simpa using c3 | (simp at c3 ⊢; omega)
    clear c3
    have H' := Aside0.mk H
    clear H
    go_enter Try.func16, Try.ntmps16
    go_wp2
    repeat (go_quiet (fail); try go_wp2)
    go_loopg [5] k (fun kq v5 w' => ∃ (x5_1 : Int), v5 = .int .i64 x5_1 ∧ Aside0 (fuseeref10_Same.l0 kq l0 l1 x5_1 = some r) ∧ Aside0 (kq ≤ k) ∧ Drawn0 w w')
    case atStart => exact ⟨(0), (by first | rfl | (simp; done) | (simp [*]; done)), H', ⟨Nat.le_refl _⟩, by repeat (first | exact Drawn0.refl _ | apply Drawn0.step)⟩
    case round =>
      clear H'
      try clear c1
      try clear p2
      try clear c3
      try clear c3b0
      try clear c3b1
      try clear c3b2
      obtain ⟨x5_1, rfl, HA, HK1, ⟨m1, rfl⟩⟩ := hrel
      cases gk with
      | zero => exact absurd HA.out (by simp [fuseeref10_Same.l0])
      | succ k1 =>
        have H := HA.out
        clear HA
        simp only [fuseeref10_Same.l0] at H
        by_cases c4 : x5_1 < (l0.length : Int)
        · rw [if_pos c4] at H
          have c4b0 : decide (x5_1 < (l0.length : Int)) = true := decide_eq_true c4
          clear c4
          by_cases c5 : 0 ≤ x5_1
          · rw [if_pos c5] at H
            have c5b0 : decide (0 ≤ x5_1) = true := decide_eq_true c5
            clear c5
            by_cases c6 : x5_1 < (l1.length : Int)
            · rw [if_pos c6] at H
              have c6b0 : decide (x5_1 < (l1.length : Int)) = true := decide_eq_true c6
              clear c6
              by_cases c7 : ((!(((rd_T42 l0 x5_1).f0.f0) == ((rd_T42 l1 x5_1).f0.f0)) || (!(((rd_T42 l0 x5_1).f0.f1) == ((rd_T42 l1 x5_1).f0.f1)) || (!(((rd_T42 l0 x5_1).f0.f2) == ((rd_T42 l1 x5_1).f0.f2)) || (!(((rd_T42 l0 x5_1).f0.f3) == ((rd_T42 l1 x5_1).f0.f3)) || (!(((rd_T42 l0 x5_1).f0.f4) == ((rd_T42 l1 x5_1).f0.f4)) || (!(((rd_T42 l0 x5_1).f0.f5) == ((rd_T42 l1 x5_1).f0.f5)))))))) || (!(((rd_T42 l0 x5_1).f1) == ((rd_T42 l1 x5_1).f1)))) = true
              · rw [if_pos c7] at H
                have c7b0 : ((!(((rd_T42 l0 x5_1).f0.f0) == ((rd_T42 l1 x5_1).f0.f0)) || (!(((rd_T42 l0 x5_1).f0.f1) == ((rd_T42 l1 x5_1).f0.f1)) || (!(((rd_T42 l0 x5_1).f0.f2) == ((rd_T42 l1 x5_1).f0.f2)) || (!(((rd_T42 l0 x5_1).f0.f3) == ((rd_T42 l1 x5_1).f0.f3)) || (!(((rd_T42 l0 x5_1).f0.f4) == ((rd_T42 l1 x5_1).f0.f4)) || (!(((rd_T42 l0 x5_1).f0.f5) == ((rd_T42 l1 x5_1).f0.f5)))))))) || (!(((rd_T42 l0 x5_1).f1) == ((rd_T42 l1 x5_1).f1)))) = true := c7
                clear c7
                obtain rfl := Option.some.inj H
                have p331 : 0 ≤ (x5_1 : Int) := of_decide_eq_true (by first | (with_reducible assumption) | assumption)
                have q331 : x5_1 < (l0.length : Int) := of_decide_eq_true (by first | (with_reducible assumption) | assumption)
                obtain ⟨ad331, e331, hx331_0, hx331_1, hx331_2, hx331_3, hx331_4, hx331_5, hx331_6⟩ := at_T42 HR0.out x5_1 p331 q331
                cases e331
                replace p331 := eq_true p331
                replace q331 := eq_true q331
                have p332 : 0 ≤ (x5_1 : Int) := of_decide_eq_true (by first | (with_reducible assumption) | assumption)
                have q332 : x5_1 < (l1.length : Int) := of_decide_eq_true (by first | (with_reducible assumption) | assumption)
                obtain ⟨ad332, e332, hx332_0, hx332_1, hx332_2, hx332_3, hx332_4, hx332_5, hx332_6⟩ := at_T42 HR1.out x5_1 p332 q332
                cases e332
                replace p332 := eq_true p332
                replace q332 := eq_true q332
                go_wp2
                repeat (go_quiet (fail); try go_wp2)
                go_ret
                exact ⟨by first | rfl | (simp; done) | (simp [*]; done) | (exfalso; first | contradiction | (revert c3b0 c7b0; simp +contextual; done)), by repeat (first | exact Drawn0.refl _ | apply Drawn0.step)⟩
              · rw [if_neg c7] at H
                have c7b0 : ((!(((rd_T42 l0 x5_1).f0.f0) == ((rd_T42 l1 x5_1).f0.f0)) || (!(((rd_T42 l0 x5_1).f0.f1) == ((rd_T42 l1 x5_1).f0.f1)) || (!(((rd_T42 l0 x5_1).f0.f2) == ((rd_T42 l1 x5_1).f0.f2)) || (!(((rd_T42 l0 x5_1).f0.f3) == ((rd_T42 l1 x5_1).f0.f3)) || (!(((rd_T42 l0 x5_1).f0.f4) == ((rd_T42 l1 x5_1).f0.f4)) || (!(((rd_T42 l0 x5_1).f0.f5) == ((rd_T42 l1 x5_1).f0.f5)))))))) || (!(((rd_T42 l0 x5_1).f1) == ((rd_T42 l1 x5_1).f1)))) = false := by simpa using c7
                clear c7
                have H' := Aside0.mk H
                clear H
                have p331 : 0 ≤ (x5_1 : Int) := of_decide_eq_true (by first | (with_reducible assumption) | assumption)
                have q331 : x5_1 < (l0.length : Int) := of_decide_eq_true (by first | (with_reducible assumption) | assumption)
                obtain ⟨ad331, e331, hx331_0, hx331_1, hx331_2, hx331_3, hx331_4, hx331_5, hx331_6⟩ := at_T42 HR0.out x5_1 p331 q331
                cases e331
                replace p331 := eq_true p331
                replace q331 := eq_true q331
                have p332 : 0 ≤ (x5_1 : Int) := of_decide_eq_true (by first | (with_reducible assumption) | assumption)
                have q332 : x5_1 < (l1.length : Int) := of_decide_eq_true (by first | (with_reducible assumption) | assumption)
                obtain ⟨ad332, e332, hx332_0, hx332_1, hx332_2, hx332_3, hx332_4, hx332_5, hx332_6⟩ := at_T42 HR1.out x5_1 p332 q332
                cases e332
                replace p332 := eq_true p332
                replace q332 := eq_true q332
                go_wp2
                repeat (go_quiet (fail); try go_wp2)
                go_roundg k1
                case measure => have := HK1.out; omega
                case rel => exact ⟨(wrap64 (x5_1 + 1)), (by first | rfl | (simp; done) | (simp [*]; done)), H', ⟨by have := HK1.out; omega⟩, by repeat (first | exact Drawn0.refl _ | apply Drawn0.step)⟩
            · rw [if_neg c6] at H
              exact absurd H (by simp)
          · rw [if_neg c5] at H
            exact absurd H (by simp)
        · rw [if_neg c4] at H
          have c4b0 : decide (x5_1 < (l0.length : Int)) = false := decide_eq_false c4
          clear c4
          obtain rfl := Option.some.inj H
          go_wp2
          repeat (go_quiet (fail); try go_wp2)
          go_ret
          exact ⟨by first | rfl | (simp; done) | (simp [*]; done) | (exfalso; contradiction), by repeat (first | exact Drawn0.refl _ | apply Drawn0.step)⟩
  · rw [if_neg c3] at H
    have c3b0 : ((l0.length : Int) == (l1.length : Int)) = false := beq_eq_false_iff_ne.mpr c3
    have c3b1 : ((l0.length : Int) != (l1.length : Int)) = true := bne_iff_ne.mpr c3
    have c3b2 : (l0.length == l1.length) = false := by first | simpa using c3 | (simp at c3 ⊢; omega)
    obtain rfl := Option.some.inj H
    go_enter Try.func16, Try.ntmps16
    go_wp2
    repeat (go_quiet (fail); try go_wp2)
    go_ret
    exact ⟨by first | rfl | (simp; done) | (simp [*]; done) | (exfalso; contradiction), by repeat (first | exact Drawn0.refl _ | apply Drawn0.step)⟩

/-! ### fuseeref10_Bound: function 18 -/
mutual
def fuseeref10_Bound.j0 : Nat → List (S42) → Int → Bool → Option (Int)
  | 0, _, _, _ => none
  | k + 1, x0, x1, x18 => if x18 = true then (some 0) else (fuseeref10_Bound.l0 k x0 x1 0)
def fuseeref10_Bound.l0 : Nat → List (S42) → Int → Int → Option (Int)
  | 0, _, _, _ => none
  | k + 1, x0, x1, x6 => if x6 < (x0.length : Int) then (if 0 ≤ x6 then (fuseeref10_Bound.l0 k x0 (wrap64 (x1 + (wrap64 (2 * ((rd_T42 x0 x6).f0.f0))))) (wrap64 (x6 + 1))) else (none)) else (some (wrap64 ((wrap64 (Int.tdiv (wrap64 ((wrap64 (x1 * 1048576)) + 65535)) 65536)) + 1)))
end
def fuseeref10_Bound.f (k : Nat) (l0 : List (S42)) (a1 : Int) : Option (Int) := (fuseeref09_May.f k l0).bind fun t333 => (if t333 = true then (if a1 < 0 then (fuseeref10_Bound.j0 k l0 a1 true) else (fuseeref10_Bound.j0 k l0 a1 (decide (a1 > 1048576)))) else (fuseeref10_Bound.j0 k l0 a1 true))
theorem fuseeref10_Bound.mono_l : ∀ k, (∀ y0 y1 y2, LeO (fuseeref10_Bound.j0 k y0 y1 y2) (fuseeref10_Bound.j0 (k + 1) y0 y1 y2)) ∧ (∀ y0 y1 y2, LeO (fuseeref10_Bound.l0 k y0 y1 y2) (fuseeref10_Bound.l0 (k + 1) y0 y1 y2))
  | 0 => ⟨fun _ _ _ r h => by simp [fuseeref10_Bound.j0] at h, fun _ _ _ r h => by simp [fuseeref10_Bound.l0] at h⟩
  | k + 1 => by
    obtain ⟨ih0, ih1⟩ := fuseeref10_Bound.mono_l k
    refine ⟨?_, ?_⟩
    · intro y0 y1 y2
      unfold fuseeref10_Bound.j0
      repeat' first
      | (with_reducible exact ih0 _ _ _)
      | (with_reducible exact ih1 _ _ _)
      | (with_reducible exact fuseeref09_May.mono _ _)
      | (with_reducible exact LeO.refl _)
      | (with_reducible exact LeO.none _)
      | (with_reducible refine LeO.ite ?_ ?_)
      | (with_reducible refine LeO.bind ?_ (fun _ => ?_))
      | exact ih0 _ _ _
      | exact ih1 _ _ _
      | exact fuseeref09_May.mono _ _
      | exact LeO.none _
      | refine LeO.ite ?_ ?_
      | refine LeO.bind ?_ (fun _ => ?_)
    · intro y0 y1 y2
      unfold fuseeref10_Bound.l0
      repeat' first
      | (with_reducible exact ih0 _ _ _)
      | (with_reducible exact ih1 _ _ _)
      | (with_reducible exact fuseeref09_May.mono _ _)
      | (with_reducible exact LeO.refl _)
      | (with_reducible exact LeO.none _)
      | (with_reducible refine LeO.ite ?_ ?_)
      | (with_reducible refine LeO.bind ?_ (fun _ => ?_))
      | exact ih0 _ _ _
      | exact ih1 _ _ _
      | exact fuseeref09_May.mono _ _
      | exact LeO.none _
      | refine LeO.ite ?_ ?_
      | refine LeO.bind ?_ (fun _ => ?_)
theorem fuseeref10_Bound.mono : ∀ a0 a1 k, LeO (fuseeref10_Bound.f k a0 a1) (fuseeref10_Bound.f (k + 1) a0 a1) := by
  intro a0 a1 k
  obtain ⟨ih0, ih1⟩ := fuseeref10_Bound.mono_l k
  unfold fuseeref10_Bound.f
  repeat' first
      | (with_reducible exact ih0 _ _ _)
      | (with_reducible exact ih1 _ _ _)
      | (with_reducible exact fuseeref09_May.mono _ _)
      | (with_reducible exact LeO.refl _)
      | (with_reducible exact LeO.none _)
      | (with_reducible refine LeO.ite ?_ ?_)
      | (with_reducible refine LeO.bind ?_ (fun _ => ?_))
      | exact ih0 _ _ _
      | exact ih1 _ _ _
      | exact fuseeref09_May.mono _ _
      | exact LeO.none _
      | refine LeO.ite ?_ ?_
      | refine LeO.bind ?_ (fun _ => ?_)
set_option maxHeartbeats 8000000 in
set_option maxRecDepth 100000 in
theorem fuseeref10_Bound.calls (k : Nat) (A0 : Option Addr) (c0 : Nat) (l0 : List (S42)) (a1 : Int) (r : Int) (w : World) (hr0 : Kd.C k42 w A0 l0.length l0) (hc0 : l0.length ≤ c0) (h : fuseeref10_Bound.f k l0 a1 = some r) :
    Calls Try.prog 18 #[.slice A0 l0.length c0, .int .i64 a1] w fun e w' => e = .returned (.int .i64 r) ∧ Below w.heap.size w w' := by
  have HR0 := Aside0.mk hr0
  have HC0 := Aside0.mk hc0
  clear hr0 hc0
  have HB := Aside0.mk (Below.refl w.heap.size w)
  have H : ((fuseeref09_May.f k l0).bind fun t333 => (if t333 = true then (if a1 < 0 then (fuseeref10_Bound.j0 k l0 a1 true) else (fuseeref10_Bound.j0 k l0 a1 (decide (a1 > 1048576)))) else (fuseeref10_Bound.j0 k l0 a1 true))) = some r := h
  clear h
  replace H := Option.bind_eq_some_iff.mp H
  obtain ⟨t333, A30, H⟩ := H
  try dsimp only at H
  have A3 := Aside0.mk A30
  clear A30
  have HC4 := Aside0.mk H
  clear H
  go_enter Try.func18, Try.ntmps18
  go_upto_region 2 with (first | ((with_reducible refine gate_callee (f := 41) rfl ?_); refine goesL_ (some 8) rfl rfl Try.func41 (by kernel_rfl) rfl #[.slice A0 l0.length c0] rfl (by (try simp only [List.map_toArray, List.map_cons, List.map_nil]); first | done | rfl | (simp only [List.length_drop, List.length_take]; rfl)) ?_; (with_reducible refine (fuseeref09_May.calls k _ _ l0 t333 _ ?side1 ?side2 A3.out).mono ?_); (case side1 => repeat (first | exact HR0.out | (with_reducible refine Kd.C_alloc ?_ _) | (with_reducible refine Kd.C_drewN ?_ _) | (with_reducible refine Kd.C_drew ?_))); (case side2 => exact HC0.out); rintro e w5 ⟨rfl, hb⟩; refine ⟨_, rfl, ?_⟩; have n0_ := bs HB hb; clear HB; have HB := n0_; clear n0_; (try clear hb); (try clear hb2); (try clear hk); (try clear hi)))
  (try simp only [Act.put, List.setIfInBounds_toArray, List.set_cons_zero, List.set_cons_succ])
  go_cut [18] (fun v18 wc => ∃ (kq : Nat) (x18_3 : Bool), v18 = .bool x18_3 ∧ Aside0 (fuseeref10_Bound.j0 kq l0 a1 x18_3 = some r) ∧ Aside0 (kq ≤ k) ∧ Aside0 (Below w.heap.size w wc))
  case first =>
    have H := HC4.out
    clear HC4
    by_cases c6 : t333 = true
    · subst c6
      rw [if_pos rfl] at H
      by_cases c7 : a1 < 0
      · rw [if_pos c7] at H
        have c7b0 : decide (a1 < 0) = true := decide_eq_true c7
        clear c7
        (first | rw [c7b0] | (simp only [i64_w, i32_w]; rw [c7b0]) | skip)
        have H' := Aside0.mk H
        clear H
        go_wp2
        go_meet
        case rel => exact ⟨_, (true), (by first | rfl | (simp; done) | (simp [*]; done)), H', ⟨by first | omega | exact Nat.le_refl _⟩, ⟨by repeat (first | (with_reducible first | exact HB.out | apply below_alloc | apply pw_below_drewN | apply below_drew1) | exact HB.out)⟩⟩
      · rw [if_neg c7] at H
        have c7b0 : decide (a1 < 0) = false := decide_eq_false c7
        clear c7
        (first | rw [c7b0] | (simp only [i64_w, i32_w]; rw [c7b0]) | skip)
        have H' := Aside0.mk H
        clear H
        go_wp2
        go_meet
        case rel => exact ⟨_, (decide (a1 > 1048576)), (by first | rfl | (simp; done) | (simp [*]; done)), H', ⟨by first | omega | exact Nat.le_refl _⟩, ⟨by repeat (first | (with_reducible first | exact HB.out | apply below_alloc | apply pw_below_drewN | apply below_drew1) | exact HB.out)⟩⟩
    · replace c6 := Bool.eq_false_iff.mpr c6
      subst c6
      rw [if_neg (show ¬ (false = true) by decide)] at H
      have H' := Aside0.mk H
      clear H
      go_wp2
      go_meet
      case rel => exact ⟨_, (true), (by first | rfl | (simp; done) | (simp [*]; done)), H', ⟨by first | omega | exact Nat.le_refl _⟩, ⟨by repeat (first | (with_reducible first | exact HB.out | apply below_alloc | apply pw_below_drewN | apply below_drew1) | exact HB.out)⟩⟩
  case rest =>
    clear HC4
    try clear c1
    try clear p2
    try clear c4
    try clear c6
    try clear c7
    try clear c7b0
    obtain ⟨kq, x18_3, rfl, HA, HJ3, HB⟩ := hcut
    cases kq with
    | zero => exact absurd HA.out (by simp [fuseeref10_Bound.j0])
    | succ kj3 =>
      have H := HA.out
      clear HA
      simp only [fuseeref10_Bound.j0] at H
      by_cases c8 : x18_3 = true
      · subst c8
        rw [if_pos rfl] at H
        obtain rfl := Option.some.inj H
        go_wp2
        go_ret
        exact ⟨by first | rfl | (simp [errW_none, errW_some] <;> rfl) | (simp [*, errW_none, errW_some] <;> rfl) | (exfalso; contradiction), by repeat (first | (with_reducible first | exact HB.out | apply below_alloc | apply pw_below_drewN | apply below_drew1) | exact HB.out)⟩
      · replace c8 := Bool.eq_false_iff.mpr c8
        subst c8
        rw [if_neg (show ¬ (false = true) by decide)] at H
        have H' := Aside0.mk H
        clear H
        go_wp2
        go_loopg [1, 6] kj3 (fun kq v1 v6 w' => ∃ (x1_2 : Int) (x6_2 : Int), v1 = .int .i64 x1_2 ∧ v6 = .int .i64 x6_2 ∧ Aside0 (fuseeref10_Bound.l0 kq l0 x1_2 x6_2 = some r) ∧ Aside0 (kq ≤ kj3) ∧ Aside0 (Below w.heap.size w w'))
        case atStart => exact ⟨(a1), (0), (by first | rfl | (simp; done) | (simp [*]; done)), (by first | rfl | (simp; done) | (simp [*]; done)), H', ⟨Nat.le_refl _⟩, ⟨by repeat (first | (with_reducible first | exact HB.out | apply below_alloc | apply pw_below_drewN | apply below_drew1) | exact HB.out)⟩⟩
        case round =>
          clear H'
          try clear c1
          try clear p2
          try clear c4
          try clear c6
          try clear c7
          try clear c7b0
          try clear c8
          try clear p2
          obtain ⟨x1_2, x6_2, rfl, rfl, HA, HK2, HB⟩ := hrel
          cases gk with
          | zero => exact absurd HA.out (by simp [fuseeref10_Bound.l0])
          | succ k2 =>
            have H := HA.out
            clear HA
            simp only [fuseeref10_Bound.l0] at H
            by_cases c9 : x6_2 < (l0.length : Int)
            · rw [if_pos c9] at H
              have c9b0 : decide (x6_2 < (l0.length : Int)) = true := decide_eq_true c9
              clear c9
              by_cases c10 : 0 ≤ x6_2
              · rw [if_pos c10] at H
                have c10b0 : decide (0 ≤ x6_2) = true := decide_eq_true c10
                clear c10
                have H' := Aside0.mk H
                clear H
                have p334 : 0 ≤ (x6_2 : Int) := of_decide_eq_true (by first | (with_reducible assumption) | assumption)
                have q334 : x6_2 < (l0.length : Int) := of_decide_eq_true (by first | (with_reducible assumption) | assumption)
                obtain ⟨ad334, e334, hx334_0, hx334_1, hx334_2, hx334_3, hx334_4, hx334_5, hx334_6⟩ := at_T42 HR0.out x6_2 p334 q334
                cases e334
                replace hx334_0 := (HB.out.cell (World.block_lt_of_cell? w _ hx334_0)).trans hx334_0
                replace hx334_1 := (HB.out.cell (World.block_lt_of_cell? w _ hx334_1)).trans hx334_1
                replace hx334_2 := (HB.out.cell (World.block_lt_of_cell? w _ hx334_2)).trans hx334_2
                replace hx334_3 := (HB.out.cell (World.block_lt_of_cell? w _ hx334_3)).trans hx334_3
                replace hx334_4 := (HB.out.cell (World.block_lt_of_cell? w _ hx334_4)).trans hx334_4
                replace hx334_5 := (HB.out.cell (World.block_lt_of_cell? w _ hx334_5)).trans hx334_5
                replace hx334_6 := (HB.out.cell (World.block_lt_of_cell? w _ hx334_6)).trans hx334_6
                replace p334 := eq_true p334
                replace q334 := eq_true q334
                go_wp2
                go_roundg k2
                case measure => have := HJ3.out; have := HK2.out; omega
                case rel => exact ⟨(wrap64 (x1_2 + (wrap64 (2 * ((rd_T42 l0 x6_2).f0.f0))))), (wrap64 (x6_2 + 1)), (by first | rfl | (simp; done) | (simp [*]; done)), (by first | rfl | (simp; done) | (simp [*]; done)), H', ⟨by have := HJ3.out; have := HK2.out; omega⟩, ⟨by repeat (first | (with_reducible first | exact HB.out | apply below_alloc | apply pw_below_drewN | apply below_drew1) | exact HB.out)⟩⟩
              · rw [if_neg c10] at H
                exact absurd H (by simp)
            · rw [if_neg c9] at H
              have c9b0 : decide (x6_2 < (l0.length : Int)) = false := decide_eq_false c9
              clear c9
              obtain rfl := Option.some.inj H
              go_wp2
              go_ret
              exact ⟨by first | rfl | (simp [errW_none, errW_some] <;> rfl) | (simp [*, errW_none, errW_some] <;> rfl) | (exfalso; contradiction), by repeat (first | (with_reducible first | exact HB.out | apply below_alloc | apply pw_below_drewN | apply below_drew1) | exact HB.out)⟩

end Go.Proofs.Ytaejikbfnlihmaa.P
