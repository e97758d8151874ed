-- Written by a program of this session (hprint.py), out of the translation; functions that the print does not take are given by hand.
import Derived.Test.YtajacjklmabomaaPx0
import Derived.Test.YtajacjklmabomaaPx2
import Derived.Test.YtajacjklmabomaaPx3
import Derived.Test.YtajacjklmabomaaPx4
namespace Go.Proofs.Ytajacjklmabomaa.P
open Go.RowKit Go.Proofs.YtajacjklmabomaaM Go.Proofs.YtajacjklmabomaaW.PrintWords Go.Proofs.YtajacjklmabomaaW.PrintLast Go.Proofs.YtajacjklmabomaaW.PrintMore
attribute [local go_sem] max2_int min2_int max_two min_two max_three min_three max_four min_four   -- for this text's walks alone
set_option linter.unusedVariables false
set_option linter.unusedSimpArgs false

/-! ### fuseelaw03_RingFar: function 3 -/
mutual
def fuseelaw03_RingFar.j0 : Nat → List Bool → Int → Int → Bool → Bool → Option (Bool)
  | 0, _, _, _, _, _ => none
  | k + 1, x0, x1, x2, x7, x25 => if x25 = true then (some x7) else ((ring_Of.f x0).bind fun bt149 => ((ring_Far.f k bt149.1 bt149.2 x1 x2).bind fun t152 => ((ring_Put.f bt149.1 bt149.2 false).bind fun bt153 => ((ring_Far.f k bt153.1 bt153.2 x1 x2).bind fun t155 => (if t152 < 0 then (fuseelaw03_RingFar.j1 k x0 x1 x2 t152 true bt149.1 bt149.2) else (if t152 > x2 then (fuseelaw03_RingFar.j1 k x0 x1 x2 t152 true bt149.1 bt149.2) else ((ring_Put.f bt149.1 bt149.2 true).bind fun bt156 => ((ring_Far.f k bt156.1 bt156.2 x1 x2).bind fun t158 => (if t158 < t152 then (fuseelaw03_RingFar.j1 k x0 x1 x2 t152 true bt149.1 bt149.2) else (if t152 > 0 then (if t155 = (wrap64 (t152 - 1)) then (if t152 = 0 then (fuseelaw03_RingFar.j1 k x0 x1 x2 t152 (t155 != 0) bt149.1 bt149.2) else (fuseelaw03_RingFar.j1 k x0 x1 x2 t152 false bt149.1 bt149.2)) else (fuseelaw03_RingFar.j1 k x0 x1 x2 t152 true bt149.1 bt149.2)) else (if t152 = 0 then (fuseelaw03_RingFar.j1 k x0 x1 x2 t152 (t155 != 0) bt149.1 bt149.2) else (fuseelaw03_RingFar.j1 k x0 x1 x2 t152 false bt149.1 bt149.2))))))))))))
def fuseelaw03_RingFar.j1 : Nat → List Bool → Int → Int → Int → Bool → Int → Int → Option (Bool)
  | 0, _, _, _, _, _, _, _ => none
  | k + 1, x0, x1, x2, x9, x71, x152000, x152001 => if x71 = true then (some false) else (if (x0.length : Int) ≥ x2 then ((ring_Good.f x152000 x152001 x2).bind fun t159 => (fuseelaw03_RingFar.j2 k x1 x2 x9 ((x9 == 0) != (decide (t159 < x1))) x152000 x152001)) else (fuseelaw03_RingFar.j2 k x1 x2 x9 false x152000 x152001))
def fuseelaw03_RingFar.j2 : Nat → Int → Int → Int → Bool → Int → Int → Option (Bool)
  | 0, _, _, _, _, _, _ => none
  | k + 1, x1, x2, x9, x85, x152000, x152001 => if x85 = true then (some false) else (fuseelaw03_RingFar.l0 k x1 x2 x9 0 x152000 x152001)
def fuseelaw03_RingFar.l0 : Nat → Int → Int → Int → Int → Int → Int → Option (Bool)
  | 0, _, _, _, _, _, _ => none
  | k + 1, x1, x2, x9, x11, x152000, x152001 => if x11 < x9 then ((ring_Put.f x152000 x152001 false).bind fun bt160 => (fuseelaw03_RingFar.l0 k x1 x2 x9 (wrap64 (x11 + 1)) bt160.1 bt160.2)) else ((ring_Far.f k x152000 x152001 x1 x2).bind fun t162 => (some (t162 == 0)))
end
def fuseelaw03_RingFar.f (k : Nat) (l0 : List Bool) (a1 : Int) (a2 : Int) : Option (Bool) := (fuseelaw03_awake.f k).bind fun t147 => (if t147 = true then ((pat_May.f a1 a2).bind fun t148 => (if t148 = true then (fuseelaw03_RingFar.j0 k l0 a1 a2 t147 (decide ((l0.length : Int) > 60))) else (fuseelaw03_RingFar.j0 k l0 a1 a2 t147 true))) else (fuseelaw03_RingFar.j0 k l0 a1 a2 t147 true))
theorem fuseelaw03_RingFar.mono_l : ∀ k, (∀ y0 y1 y2 y3 y4, LeO (fuseelaw03_RingFar.j0 k y0 y1 y2 y3 y4) (fuseelaw03_RingFar.j0 (k + 1) y0 y1 y2 y3 y4)) ∧ (∀ y0 y1 y2 y3 y4 y5 y6, LeO (fuseelaw03_RingFar.j1 k y0 y1 y2 y3 y4 y5 y6) (fuseelaw03_RingFar.j1 (k + 1) y0 y1 y2 y3 y4 y5 y6)) ∧ (∀ y0 y1 y2 y3 y4 y5, LeO (fuseelaw03_RingFar.j2 k y0 y1 y2 y3 y4 y5) (fuseelaw03_RingFar.j2 (k + 1) y0 y1 y2 y3 y4 y5)) ∧ (∀ y0 y1 y2 y3 y4 y5, LeO (fuseelaw03_RingFar.l0 k y0 y1 y2 y3 y4 y5) (fuseelaw03_RingFar.l0 (k + 1) y0 y1 y2 y3 y4 y5))
  | 0 => ⟨fun _ _ _ _ _ r h => by simp [fuseelaw03_RingFar.j0] at h, fun _ _ _ _ _ _ _ r h => by simp [fuseelaw03_RingFar.j1] at h, fun _ _ _ _ _ _ r h => by simp [fuseelaw03_RingFar.j2] at h, fun _ _ _ _ _ _ r h => by simp [fuseelaw03_RingFar.l0] at h⟩
  | k + 1 => by
    obtain ⟨ih0, ih1, ih2, ih3⟩ := fuseelaw03_RingFar.mono_l k
    refine ⟨?_, ?_, ?_, ?_⟩
    · intro y0 y1 y2 y3 y4
      unfold fuseelaw03_RingFar.j0
      repeat' first
      | (with_reducible exact ih0 _ _ _ _ _)
      | (with_reducible exact ih1 _ _ _ _ _ _ _)
      | (with_reducible exact ih2 _ _ _ _ _ _)
      | (with_reducible exact ih3 _ _ _ _ _ _)
      | (with_reducible exact fuseelaw03_awake.mono _)
      | (with_reducible exact ring_Far.mono _ _ _ _ _)
      | (with_reducible exact LeO.refl _)
      | (with_reducible exact LeO.none _)
      | (with_reducible refine LeO.ite ?_ ?_)
      | (with_reducible refine LeO.bind ?_ (fun _ => ?_))
      | exact ih0 _ _ _ _ _
      | exact ih1 _ _ _ _ _ _ _
      | exact ih2 _ _ _ _ _ _
      | exact ih3 _ _ _ _ _ _
      | exact fuseelaw03_awake.mono _
      | exact ring_Far.mono _ _ _ _ _
      | exact LeO.none _
      | refine LeO.ite ?_ ?_
      | refine LeO.bind ?_ (fun _ => ?_)
    · intro y0 y1 y2 y3 y4 y5 y6
      unfold fuseelaw03_RingFar.j1
      repeat' first
      | (with_reducible exact ih0 _ _ _ _ _)
      | (with_reducible exact ih1 _ _ _ _ _ _ _)
      | (with_reducible exact ih2 _ _ _ _ _ _)
      | (with_reducible exact ih3 _ _ _ _ _ _)
      | (with_reducible exact fuseelaw03_awake.mono _)
      | (with_reducible exact ring_Far.mono _ _ _ _ _)
      | (with_reducible exact LeO.refl _)
      | (with_reducible exact LeO.none _)
      | (with_reducible refine LeO.ite ?_ ?_)
      | (with_reducible refine LeO.bind ?_ (fun _ => ?_))
      | exact ih0 _ _ _ _ _
      | exact ih1 _ _ _ _ _ _ _
      | exact ih2 _ _ _ _ _ _
      | exact ih3 _ _ _ _ _ _
      | exact fuseelaw03_awake.mono _
      | exact ring_Far.mono _ _ _ _ _
      | exact LeO.none _
      | refine LeO.ite ?_ ?_
      | refine LeO.bind ?_ (fun _ => ?_)
    · intro y0 y1 y2 y3 y4 y5
      unfold fuseelaw03_RingFar.j2
      repeat' first
      | (with_reducible exact ih0 _ _ _ _ _)
      | (with_reducible exact ih1 _ _ _ _ _ _ _)
      | (with_reducible exact ih2 _ _ _ _ _ _)
      | (with_reducible exact ih3 _ _ _ _ _ _)
      | (with_reducible exact fuseelaw03_awake.mono _)
      | (with_reducible exact ring_Far.mono _ _ _ _ _)
      | (with_reducible exact LeO.refl _)
      | (with_reducible exact LeO.none _)
      | (with_reducible refine LeO.ite ?_ ?_)
      | (with_reducible refine LeO.bind ?_ (fun _ => ?_))
      | exact ih0 _ _ _ _ _
      | exact ih1 _ _ _ _ _ _ _
      | exact ih2 _ _ _ _ _ _
      | exact ih3 _ _ _ _ _ _
      | exact fuseelaw03_awake.mono _
      | exact ring_Far.mono _ _ _ _ _
      | exact LeO.none _
      | refine LeO.ite ?_ ?_
      | refine LeO.bind ?_ (fun _ => ?_)
    · intro y0 y1 y2 y3 y4 y5
      unfold fuseelaw03_RingFar.l0
      repeat' first
      | (with_reducible exact ih0 _ _ _ _ _)
      | (with_reducible exact ih1 _ _ _ _ _ _ _)
      | (with_reducible exact ih2 _ _ _ _ _ _)
      | (with_reducible exact ih3 _ _ _ _ _ _)
      | (with_reducible exact fuseelaw03_awake.mono _)
      | (with_reducible exact ring_Far.mono _ _ _ _ _)
      | (with_reducible exact LeO.refl _)
      | (with_reducible exact LeO.none _)
      | (with_reducible refine LeO.ite ?_ ?_)
      | (with_reducible refine LeO.bind ?_ (fun _ => ?_))
      | exact ih0 _ _ _ _ _
      | exact ih1 _ _ _ _ _ _ _
      | exact ih2 _ _ _ _ _ _
      | exact ih3 _ _ _ _ _ _
      | exact fuseelaw03_awake.mono _
      | exact ring_Far.mono _ _ _ _ _
      | exact LeO.none _
      | refine LeO.ite ?_ ?_
      | refine LeO.bind ?_ (fun _ => ?_)
theorem fuseelaw03_RingFar.mono : ∀ a0 a1 a2 k, LeO (fuseelaw03_RingFar.f k a0 a1 a2) (fuseelaw03_RingFar.f (k + 1) a0 a1 a2) := by
  intro a0 a1 a2 k
  obtain ⟨ih0, ih1, ih2, ih3⟩ := fuseelaw03_RingFar.mono_l k
  unfold fuseelaw03_RingFar.f
  repeat' first
      | (with_reducible exact ih0 _ _ _ _ _)
      | (with_reducible exact ih1 _ _ _ _ _ _ _)
      | (with_reducible exact ih2 _ _ _ _ _ _)
      | (with_reducible exact ih3 _ _ _ _ _ _)
      | (with_reducible exact fuseelaw03_awake.mono _)
      | (with_reducible exact ring_Far.mono _ _ _ _ _)
      | (with_reducible exact LeO.refl _)
      | (with_reducible exact LeO.none _)
      | (with_reducible refine LeO.ite ?_ ?_)
      | (with_reducible refine LeO.bind ?_ (fun _ => ?_))
      | exact ih0 _ _ _ _ _
      | exact ih1 _ _ _ _ _ _ _
      | exact ih2 _ _ _ _ _ _
      | exact ih3 _ _ _ _ _ _
      | exact fuseelaw03_awake.mono _
      | exact ring_Far.mono _ _ _ _ _
      | exact LeO.none _
      | refine LeO.ite ?_ ?_
      | refine LeO.bind ?_ (fun _ => ?_)
set_option maxHeartbeats 64000000 in
set_option maxRecDepth 100000 in
theorem fuseelaw03_RingFar.calls (k : Nat) (A0 : Option Addr) (c0 : Nat) (l0 : List Bool) (a1 : Int) (a2 : Int) (r : Bool) (w : World) (hr0 : Kd.C Kd.bool w A0 l0.length l0) (hc0 : l0.length ≤ c0) (h : fuseelaw03_RingFar.f k l0 a1 a2 = some r) :
    Calls Try.prog 3 #[.slice A0 l0.length c0, .int .i64 a1, .int .i64 a2] w fun e w' => e = .returned (.bool r) ∧ Below w.heap.size w w' := by
  have hu27 := Try.underlying27
  have HR0 := Aside0.mk hr0
  have HC0 := Aside0.mk hc0
  clear hr0 hc0
  have HB := Aside0.mk (Below.refl w.heap.size w)
  have H : ((fuseelaw03_awake.f k).bind fun t147 => (if t147 = true then ((pat_May.f a1 a2).bind fun t148 => (if t148 = true then (fuseelaw03_RingFar.j0 k l0 a1 a2 t147 (decide ((l0.length : Int) > 60))) else (fuseelaw03_RingFar.j0 k l0 a1 a2 t147 true))) else (fuseelaw03_RingFar.j0 k l0 a1 a2 t147 true))) = some r := h
  clear h
  replace H := Option.bind_eq_some_iff.mp H
  obtain ⟨t147, A40, H⟩ := H
  replace H : (if t147 = true then ((pat_May.f a1 a2).bind fun t148 => (if t148 = true then (fuseelaw03_RingFar.j0 k l0 a1 a2 t147 (decide ((l0.length : Int) > 60))) else (fuseelaw03_RingFar.j0 k l0 a1 a2 t147 true))) else (fuseelaw03_RingFar.j0 k l0 a1 a2 t147 true)) = some r := H
  have A4 := Aside0.mk A40
  clear A40
  have HC5 := Aside0.mk H
  clear H
  go_enter Try.func3, Try.ntmps3
  go_upto_region 2 with (first | ((with_reducible refine gate_callee (f := 8) rfl ?_); refine goesL_ (some 12) rfl rfl Try.func8 (by kernel_rfl) rfl #[] rfl (by (try simp only [List.map_toArray, List.map_cons, List.map_nil]); first | done | rfl | (simp only [List.length_drop, List.length_take]; rfl)) ?_; (with_reducible refine (fuseelaw03_awake.calls k  t147 _ A4.out).mono ?_); rintro e w6 ⟨rfl, hb⟩; refine ⟨_, rfl, ?_⟩; have n0_ := Aside0.mk (below_step (by repeat (first | (with_reducible first | exact HB.out | apply below_alloc | apply pw_below_drewN | apply below_drew1) | exact HB.out)) hb); clear HB; have HB := n0_; clear n0_; (try clear hb); (try clear hb2); (try clear hk); (try clear hi)))
  (try simp only [Act.put, List.setIfInBounds_toArray, List.set_cons_zero, List.set_cons_succ])
  go_cut [25] (fun v25 wc => ∃ (kq : Nat) (x25_4 : Bool), v25 = .bool x25_4 ∧ Aside0 (fuseelaw03_RingFar.j0 kq l0 a1 a2 t147 x25_4 = some r) ∧ Aside0 (kq ≤ k) ∧ Aside0 (Below w.heap.size w wc))
  case first =>
    have H := HC5.out
    clear HC5
    by_cases c7 : t147 = true
    · subst c7
      have H1 : ((pat_May.f a1 a2).bind fun t148 => (if t148 = true then (fuseelaw03_RingFar.j0 k l0 a1 a2 true (decide ((l0.length : Int) > 60))) else (fuseelaw03_RingFar.j0 k l0 a1 a2 true true))) = some r := by rw [if_pos rfl] at H; exact H
      clear H
      have H := H1
      clear H1
      replace H := Option.bind_eq_some_iff.mp H
      obtain ⟨t148, A80, H⟩ := H
      replace H : (if t148 = true then (fuseelaw03_RingFar.j0 k l0 a1 a2 true (decide ((l0.length : Int) > 60))) else (fuseelaw03_RingFar.j0 k l0 a1 a2 true true)) = some r := H
      have A8 := Aside0.mk A80
      clear A80
      by_cases c9 : t148 = true
      · subst c9
        have H1 : (fuseelaw03_RingFar.j0 k l0 a1 a2 true (decide ((l0.length : Int) > 60))) = some r := by rw [if_pos rfl] at H; exact H
        clear H
        have H := H1
        clear H1
        have H' := Aside0.mk H
        clear H
        go_wp2_with (first | (go_at_call 9; (with_reducible refine (pat_May.calls a1 a2 true _ A8.out).mono ?_); rintro e w' ⟨rfl, ⟨nd, rfl⟩⟩))
        go_meet
        case rel => exact ⟨_, (decide ((l0.length : Int) > 60)), (by first | rfl | (simp; done) | (simp [*]; done)), H', ⟨by first | omega | exact Nat.le_refl _⟩, ⟨by repeat (first | (with_reducible first | exact HB.out | apply below_alloc | apply pw_below_drewN | apply below_drew1) | exact HB.out)⟩⟩
      · replace c9 := Bool.eq_false_iff.mpr c9
        subst c9
        have H1 : (fuseelaw03_RingFar.j0 k l0 a1 a2 true true) = some r := by rw [if_neg (show ¬ (false = true) by decide)] at H; exact H
        clear H
        have H := H1
        clear H1
        have H' := Aside0.mk H
        clear H
        go_wp2_with (first | (go_at_call 9; (with_reducible refine (pat_May.calls a1 a2 false _ A8.out).mono ?_); rintro e w' ⟨rfl, ⟨nd, rfl⟩⟩))
        go_meet
        case rel => exact ⟨_, (true), (by first | rfl | (simp; done) | (simp [*]; done)), H', ⟨by first | omega | exact Nat.le_refl _⟩, ⟨by repeat (first | (with_reducible first | exact HB.out | apply below_alloc | apply pw_below_drewN | apply below_drew1) | exact HB.out)⟩⟩
    · replace c7 := Bool.eq_false_iff.mpr c7
      subst c7
      have H1 : (fuseelaw03_RingFar.j0 k l0 a1 a2 false true) = some r := by rw [if_neg (show ¬ (false = true) by decide)] at H; exact H
      clear H
      have H := H1
      clear H1
      have H' := Aside0.mk H
      clear H
      go_wp2
      go_meet
      case rel => exact ⟨_, (true), (by first | rfl | (simp; done) | (simp [*]; done)), H', ⟨by first | omega | exact Nat.le_refl _⟩, ⟨by repeat (first | (with_reducible first | exact HB.out | apply below_alloc | apply pw_below_drewN | apply below_drew1) | exact HB.out)⟩⟩
  case rest =>
    clear HC5
    try clear p2
    try clear c3
    try clear c7
    try clear c8
    try clear c9
    obtain ⟨kq, x25_4, rfl, HA, HJ4, HB⟩ := hcut
    cases kq with
    | zero => exact absurd HA.out (by simp [fuseelaw03_RingFar.j0])
    | succ kj4 =>
      have H := HA.out
      clear HA
      simp only [fuseelaw03_RingFar.j0] at H
      by_cases c10 : x25_4 = true
      · subst c10
        have H1 : (some t147) = some r := by rw [if_pos rfl] at H; exact H
        clear H
        have H := H1
        clear H1
        obtain rfl := Option.some.inj H
        go_wp2
        go_ret
        exact ⟨by first | rfl | (simp [errW_none, errW_some] <;> rfl) | (simp [*, errW_none, errW_some] <;> rfl) | (exfalso; first | exact absurd ‹(false != false) = true› (by decide) | exact absurd ‹(true != true) = true› (by decide) | exact absurd ‹(true != false) = false› (by decide) | exact absurd ‹(false != true) = false› (by decide) | exact absurd ‹(false == false) = false› (by decide) | exact absurd ‹(true == true) = false› (by decide) | exact absurd ‹(true == false) = true› (by decide) | exact absurd ‹(false == true) = true› (by decide)), by repeat (first | (with_reducible first | exact HB.out | apply below_alloc | apply pw_below_drewN | apply below_drew1) | exact HB.out)⟩
      · replace c10 := Bool.eq_false_iff.mpr c10
        subst c10
        have H1 : ((ring_Of.f l0).bind fun bt149 => ((ring_Far.f kj4 bt149.1 bt149.2 a1 a2).bind fun t152 => ((ring_Put.f bt149.1 bt149.2 false).bind fun bt153 => ((ring_Far.f kj4 bt153.1 bt153.2 a1 a2).bind fun t155 => (if t152 < 0 then (fuseelaw03_RingFar.j1 kj4 l0 a1 a2 t152 true bt149.1 bt149.2) else (if t152 > a2 then (fuseelaw03_RingFar.j1 kj4 l0 a1 a2 t152 true bt149.1 bt149.2) else ((ring_Put.f bt149.1 bt149.2 true).bind fun bt156 => ((ring_Far.f kj4 bt156.1 bt156.2 a1 a2).bind fun t158 => (if t158 < t152 then (fuseelaw03_RingFar.j1 kj4 l0 a1 a2 t152 true bt149.1 bt149.2) else (if t152 > 0 then (if t155 = (wrap64 (t152 - 1)) then (if t152 = 0 then (fuseelaw03_RingFar.j1 kj4 l0 a1 a2 t152 (t155 != 0) bt149.1 bt149.2) else (fuseelaw03_RingFar.j1 kj4 l0 a1 a2 t152 false bt149.1 bt149.2)) else (fuseelaw03_RingFar.j1 kj4 l0 a1 a2 t152 true bt149.1 bt149.2)) else (if t152 = 0 then (fuseelaw03_RingFar.j1 kj4 l0 a1 a2 t152 (t155 != 0) bt149.1 bt149.2) else (fuseelaw03_RingFar.j1 kj4 l0 a1 a2 t152 false bt149.1 bt149.2)))))))))))) = some r := by rw [if_neg (show ¬ (false = true) by decide)] at H; exact H
        clear H
        have H := H1
        clear H1
        replace H := Option.bind_eq_some_iff.mp H
        obtain ⟨⟨t149, t150⟩, A110, H⟩ := H
        replace H : ((ring_Far.f kj4 t149 t150 a1 a2).bind fun t152 => ((ring_Put.f t149 t150 false).bind fun bt153 => ((ring_Far.f kj4 bt153.1 bt153.2 a1 a2).bind fun t155 => (if t152 < 0 then (fuseelaw03_RingFar.j1 kj4 l0 a1 a2 t152 true t149 t150) else (if t152 > a2 then (fuseelaw03_RingFar.j1 kj4 l0 a1 a2 t152 true t149 t150) else ((ring_Put.f t149 t150 true).bind fun bt156 => ((ring_Far.f kj4 bt156.1 bt156.2 a1 a2).bind fun t158 => (if t158 < t152 then (fuseelaw03_RingFar.j1 kj4 l0 a1 a2 t152 true t149 t150) else (if t152 > 0 then (if t155 = (wrap64 (t152 - 1)) then (if t152 = 0 then (fuseelaw03_RingFar.j1 kj4 l0 a1 a2 t152 (t155 != 0) t149 t150) else (fuseelaw03_RingFar.j1 kj4 l0 a1 a2 t152 false t149 t150)) else (fuseelaw03_RingFar.j1 kj4 l0 a1 a2 t152 true t149 t150)) else (if t152 = 0 then (fuseelaw03_RingFar.j1 kj4 l0 a1 a2 t152 (t155 != 0) t149 t150) else (fuseelaw03_RingFar.j1 kj4 l0 a1 a2 t152 false t149 t150))))))))))) = some r := H
        have A11 := Aside0.mk A110
        clear A110
        replace H := Option.bind_eq_some_iff.mp H
        obtain ⟨t152, A120, H⟩ := H
        replace H : ((ring_Put.f t149 t150 false).bind fun bt153 => ((ring_Far.f kj4 bt153.1 bt153.2 a1 a2).bind fun t155 => (if t152 < 0 then (fuseelaw03_RingFar.j1 kj4 l0 a1 a2 t152 true t149 t150) else (if t152 > a2 then (fuseelaw03_RingFar.j1 kj4 l0 a1 a2 t152 true t149 t150) else ((ring_Put.f t149 t150 true).bind fun bt156 => ((ring_Far.f kj4 bt156.1 bt156.2 a1 a2).bind fun t158 => (if t158 < t152 then (fuseelaw03_RingFar.j1 kj4 l0 a1 a2 t152 true t149 t150) else (if t152 > 0 then (if t155 = (wrap64 (t152 - 1)) then (if t152 = 0 then (fuseelaw03_RingFar.j1 kj4 l0 a1 a2 t152 (t155 != 0) t149 t150) else (fuseelaw03_RingFar.j1 kj4 l0 a1 a2 t152 false t149 t150)) else (fuseelaw03_RingFar.j1 kj4 l0 a1 a2 t152 true t149 t150)) else (if t152 = 0 then (fuseelaw03_RingFar.j1 kj4 l0 a1 a2 t152 (t155 != 0) t149 t150) else (fuseelaw03_RingFar.j1 kj4 l0 a1 a2 t152 false t149 t150)))))))))) = some r := H
        have A12 := Aside0.mk A120
        clear A120
        replace H := Option.bind_eq_some_iff.mp H
        obtain ⟨⟨t153, t154⟩, A130, H⟩ := H
        replace H : ((ring_Far.f kj4 t153 t154 a1 a2).bind fun t155 => (if t152 < 0 then (fuseelaw03_RingFar.j1 kj4 l0 a1 a2 t152 true t149 t150) else (if t152 > a2 then (fuseelaw03_RingFar.j1 kj4 l0 a1 a2 t152 true t149 t150) else ((ring_Put.f t149 t150 true).bind fun bt156 => ((ring_Far.f kj4 bt156.1 bt156.2 a1 a2).bind fun t158 => (if t158 < t152 then (fuseelaw03_RingFar.j1 kj4 l0 a1 a2 t152 true t149 t150) else (if t152 > 0 then (if t155 = (wrap64 (t152 - 1)) then (if t152 = 0 then (fuseelaw03_RingFar.j1 kj4 l0 a1 a2 t152 (t155 != 0) t149 t150) else (fuseelaw03_RingFar.j1 kj4 l0 a1 a2 t152 false t149 t150)) else (fuseelaw03_RingFar.j1 kj4 l0 a1 a2 t152 true t149 t150)) else (if t152 = 0 then (fuseelaw03_RingFar.j1 kj4 l0 a1 a2 t152 (t155 != 0) t149 t150) else (fuseelaw03_RingFar.j1 kj4 l0 a1 a2 t152 false t149 t150))))))))) = some r := H
        have A13 := Aside0.mk A130
        clear A130
        replace H := Option.bind_eq_some_iff.mp H
        obtain ⟨t155, A140, H⟩ := H
        replace H : (if t152 < 0 then (fuseelaw03_RingFar.j1 kj4 l0 a1 a2 t152 true t149 t150) else (if t152 > a2 then (fuseelaw03_RingFar.j1 kj4 l0 a1 a2 t152 true t149 t150) else ((ring_Put.f t149 t150 true).bind fun bt156 => ((ring_Far.f kj4 bt156.1 bt156.2 a1 a2).bind fun t158 => (if t158 < t152 then (fuseelaw03_RingFar.j1 kj4 l0 a1 a2 t152 true t149 t150) else (if t152 > 0 then (if t155 = (wrap64 (t152 - 1)) then (if t152 = 0 then (fuseelaw03_RingFar.j1 kj4 l0 a1 a2 t152 (t155 != 0) t149 t150) else (fuseelaw03_RingFar.j1 kj4 l0 a1 a2 t152 false t149 t150)) else (fuseelaw03_RingFar.j1 kj4 l0 a1 a2 t152 true t149 t150)) else (if t152 = 0 then (fuseelaw03_RingFar.j1 kj4 l0 a1 a2 t152 (t155 != 0) t149 t150) else (fuseelaw03_RingFar.j1 kj4 l0 a1 a2 t152 false t149 t150)))))))) = some r := H
        have A14 := Aside0.mk A140
        clear A140
        have HC15 := Aside0.mk H
        clear H
        go_upto_region 7 with (first | ((with_reducible refine gate_callee (f := 10) rfl ?_); refine goesL_ (some 28) rfl rfl Try.func10 (by kernel_rfl) rfl #[.slice A0 l0.length c0] rfl (by (try simp only [List.map_toArray, List.map_cons, List.map_nil]); first | done | rfl | (simp only [List.length_drop, List.length_take]; rfl)) ?_; (with_reducible refine (ring_Of.calls _ _ l0 t149 t150 _ ?side1 ?side2 A11.out).mono ?_); (case side1 => repeat (first | exact (Kd.C_below HR0.out HB.out) | (with_reducible refine Kd.C_alloc ?_ _) | (with_reducible refine Kd.C_drewN ?_ _) | (with_reducible refine Kd.C_drew ?_))); (case side2 => exact HC0.out); rintro e w16 ⟨rfl, hb⟩; refine ⟨_, rfl, ?_⟩; have n0_ := Aside0.mk (below_step (by repeat (first | (with_reducible first | exact HB.out | apply below_alloc | apply pw_below_drewN | apply below_drew1) | exact HB.out)) hb); clear HB; have HB := n0_; clear n0_; (try clear hb); (try clear hb2); (try clear hk); (try clear hi)) | ((with_reducible refine gate_dst (N := 8) rfl ?_); (try (refine gate_guard (by rfl) ?_; dsimp only)); refine box_event ?hg (N := 8) ?hd (cs := #[.int .i64 0, .int .u64 0]) (t := 27) ?hr ?_; (case hd => rfl); (case hg => rfl); (case hr => first | (go_simp; done) | (go_simp; rfl)); intro gb151 hg w17 hbox hb; have n0_ := Aside0.mk (below_step (by repeat (first | (with_reducible first | exact HB.out | apply below_alloc | apply pw_below_drewN | apply below_drew1) | exact HB.out)) hb); have n1_ := Aside0.mk (hbox); have n2_ := Aside0.mk ((by rw [hg]; exact (below_size (by repeat (first | (with_reducible first | exact HB.out | apply below_alloc | apply pw_below_drewN | apply below_drew1) | exact HB.out))) : w.heap.size ≤ gb151)); have n3_ := Aside0.mk ((by rw [hg]; exact (below_size (by repeat (first | (with_reducible first | exact HB.out | apply below_alloc | apply pw_below_drewN | apply below_drew1) | exact HB.out))) : w.heap.size ≤ gb151)); clear HB; have HB := n0_; have BK151 := n1_; have GW151 := n2_; have GE151 := n3_; clear n0_ n1_ n2_ n3_; clear hb hbox hg; have hcz18_0 : w17.cell? ⟨gb151, 0, none⟩ = some (.int .i64 0) := (blk_cell BK151.out 0).trans rfl; have hcz18_1 : w17.cell? ⟨gb151, 1, none⟩ = some (.int .u64 0) := (blk_cell BK151.out 1).trans rfl; have hfz18_0 := blk_frozen BK151.out 0; have hfz18_1 := blk_frozen BK151.out 1) | ((with_reducible refine gate_callee (f := 11) rfl ?_); refine goesL_ (some 32) rfl rfl Try.func11 (by kernel_rfl) rfl #[.agg #[.int .i64 t149, .int .u64 t150], .int .i64 a1, .int .i64 a2] rfl (by (try simp only [List.map_toArray, List.map_cons, List.map_nil]); first | done | rfl | (simp only [List.length_drop, List.length_take]; rfl)) ?_; (with_reducible refine (ring_Far.calls kj4 t149 t150 a1 a2 t152 _ A12.out).mono ?_); rintro e w19 ⟨rfl, hb⟩; refine ⟨_, rfl, ?_⟩; have n0_ := Aside0.mk (blk_below (g := gb151) (o := .cells #[.int .i64 t149, .int .u64 t150] 27 (0, 0)) (by (with_reducible repeat (first | refine blk_drewN ?_ _ | refine blk_drew ?_ | refine blk_alloc ?_ _)); refine blk_put (cs := #[.int .i64 t149, .int .u64 0]) ?_ 1 _ rfl; (with_reducible repeat (first | refine blk_drewN ?_ _ | refine blk_drew ?_ | refine blk_alloc ?_ _)); refine blk_put (cs := #[.int .i64 0, .int .u64 0]) ?_ 0 _ rfl; (with_reducible repeat (first | refine blk_drewN ?_ _ | refine blk_drew ?_ | refine blk_alloc ?_ _)); exact BK151.out) hb); have n1_ := Aside0.mk (below_step (by repeat (first | (with_reducible first | exact HB.out | apply below_alloc | apply pw_below_drewN | apply below_drew1 | refine below_set ?_ GE151.out) | exact HB.out)) hb); clear BK151; clear HB; have BK151 := n0_; have HB := n1_; clear n0_ n1_; (try clear hb); (try clear hb2); (try clear hk); (try clear hi); have hcz20_0 : w19.cell? ⟨gb151, 0, none⟩ = some (.int .i64 t149) := (blk_cell BK151.out 0).trans rfl; have hcz20_1 : w19.cell? ⟨gb151, 1, none⟩ = some (.int .u64 t150) := (blk_cell BK151.out 1).trans rfl; have hfz20_0 := blk_frozen BK151.out 0; have hfz20_1 := blk_frozen BK151.out 1) | ((with_reducible refine gate_callee (f := 12) rfl ?_); refine goesL_ (some 34) rfl rfl Try.func12 (by kernel_rfl) rfl #[.agg #[.int .i64 t149, .int .u64 t150], .bool false] rfl (by (try simp only [List.map_toArray, List.map_cons, List.map_nil]); first | done | rfl | (simp only [List.length_drop, List.length_take]; rfl)) ?_; (with_reducible refine (ring_Put.calls t149 t150 false t153 t154 _ A13.out).mono ?_); rintro e w21 ⟨rfl, hb⟩; refine ⟨_, rfl, ?_⟩; have n0_ := Aside0.mk (blk_below (g := gb151) (o := .cells #[.int .i64 t149, .int .u64 t150] 27 (0, 0)) (by (with_reducible repeat (first | refine blk_drewN ?_ _ | refine blk_drew ?_ | refine blk_alloc ?_ _)); exact BK151.out) hb); have n1_ := Aside0.mk (below_step (by repeat (first | (with_reducible first | exact HB.out | apply below_alloc | apply pw_below_drewN | apply below_drew1 | refine below_set ?_ GE151.out) | exact HB.out)) hb); clear BK151; clear HB; have BK151 := n0_; have HB := n1_; clear n0_ n1_; (try clear hb); (try clear hb2); (try clear hk); (try clear hi)) | ((with_reducible refine gate_callee (f := 11) rfl ?_); refine goesL_ (some 37) rfl rfl Try.func11 (by kernel_rfl) rfl #[.agg #[.int .i64 t153, .int .u64 t154], .int .i64 a1, .int .i64 a2] rfl (by (try simp only [List.map_toArray, List.map_cons, List.map_nil]); first | done | rfl | (simp only [List.length_drop, List.length_take]; rfl)) ?_; (with_reducible refine (ring_Far.calls kj4 t153 t154 a1 a2 t155 _ A14.out).mono ?_); rintro e w22 ⟨rfl, hb⟩; refine ⟨_, rfl, ?_⟩; have n0_ := Aside0.mk (blk_below (g := gb151) (o := .cells #[.int .i64 t149, .int .u64 t150] 27 (0, 0)) (by (with_reducible repeat (first | refine blk_drewN ?_ _ | refine blk_drew ?_ | refine blk_alloc ?_ _)); exact BK151.out) hb); have n1_ := Aside0.mk (below_step (by repeat (first | (with_reducible first | exact HB.out | apply below_alloc | apply pw_below_drewN | apply below_drew1 | refine below_set ?_ GE151.out) | exact HB.out)) hb); clear BK151; clear HB; have BK151 := n0_; have HB := n1_; clear n0_ n1_; (try clear hb); (try clear hb2); (try clear hk); (try clear hi)))
        (try simp only [Act.put, List.setIfInBounds_toArray, List.set_cons_zero, List.set_cons_succ])
        go_cut [71] (fun v71 wc => ∃ (kq : Nat) (x71_14 : Bool), v71 = .bool x71_14 ∧ Aside0 (fuseelaw03_RingFar.j1 kq l0 a1 a2 t152 x71_14 t149 t150 = some r) ∧ Aside0 (kq ≤ kj4) ∧ Aside0 (wc.heap[gb151]? = some (.cells #[.int .i64 t149, .int .u64 t150] 27 (0, 0))) ∧ Aside0 (Below w.heap.size w wc))
        case first =>
          have H := HC15.out
          clear HC15
          by_cases c23 : t152 < 0
          · rw [if_pos c23] at H
            have c23b0 : decide (t152 < 0) = true := decide_eq_true c23
            clear c23
            (first | rw [c23b0] | (simp only [i64_w, i32_w]; rw [c23b0]) | skip)
            have H' := Aside0.mk H
            clear H
            go_wp2
            go_meet
            case rel => exact ⟨_, (true), (by first | rfl | (simp; done) | (simp [*]; done)), H', ⟨by have := HJ4.out; first | omega | exact Nat.le_refl _⟩, ⟨by (with_reducible repeat (first | refine blk_drewN ?_ _ | refine blk_drew ?_ | refine blk_alloc ?_ _)); exact BK151.out⟩, ⟨by repeat (first | (with_reducible first | exact HB.out | apply below_alloc | apply pw_below_drewN | apply below_drew1 | refine below_set ?_ GE151.out) | exact HB.out)⟩⟩
          · rw [if_neg c23] at H
            have c23b0 : decide (t152 < 0) = false := decide_eq_false c23
            clear c23
            (first | rw [c23b0] | (simp only [i64_w, i32_w]; rw [c23b0]) | skip)
            by_cases c24 : t152 > a2
            · rw [if_pos c24] at H
              have c24b0 : decide (a2 < t152) = true := decide_eq_true c24
              clear c24
              have H' := Aside0.mk H
              clear H
              go_wp2
              go_meet
              case rel => exact ⟨_, (true), (by first | rfl | (simp; done) | (simp [*]; done)), H', ⟨by have := HJ4.out; first | omega | exact Nat.le_refl _⟩, ⟨by (with_reducible repeat (first | refine blk_drewN ?_ _ | refine blk_drew ?_ | refine blk_alloc ?_ _)); exact BK151.out⟩, ⟨by repeat (first | (with_reducible first | exact HB.out | apply below_alloc | apply pw_below_drewN | apply below_drew1 | refine below_set ?_ GE151.out) | exact HB.out)⟩⟩
            · rw [if_neg c24] at H
              have c24b0 : decide (a2 < t152) = false := decide_eq_false c24
              clear c24
              replace H := Option.bind_eq_some_iff.mp H
              obtain ⟨⟨t156, t157⟩, A250, H⟩ := H
              replace H : ((ring_Far.f kj4 t156 t157 a1 a2).bind fun t158 => (if t158 < t152 then (fuseelaw03_RingFar.j1 kj4 l0 a1 a2 t152 true t149 t150) else (if t152 > 0 then (if t155 = (wrap64 (t152 - 1)) then (if t152 = 0 then (fuseelaw03_RingFar.j1 kj4 l0 a1 a2 t152 (t155 != 0) t149 t150) else (fuseelaw03_RingFar.j1 kj4 l0 a1 a2 t152 false t149 t150)) else (fuseelaw03_RingFar.j1 kj4 l0 a1 a2 t152 true t149 t150)) else (if t152 = 0 then (fuseelaw03_RingFar.j1 kj4 l0 a1 a2 t152 (t155 != 0) t149 t150) else (fuseelaw03_RingFar.j1 kj4 l0 a1 a2 t152 false t149 t150))))) = some r := H
              have A25 := Aside0.mk A250
              clear A250
              replace H := Option.bind_eq_some_iff.mp H
              obtain ⟨t158, A260, H⟩ := H
              replace H : (if t158 < t152 then (fuseelaw03_RingFar.j1 kj4 l0 a1 a2 t152 true t149 t150) else (if t152 > 0 then (if t155 = (wrap64 (t152 - 1)) then (if t152 = 0 then (fuseelaw03_RingFar.j1 kj4 l0 a1 a2 t152 (t155 != 0) t149 t150) else (fuseelaw03_RingFar.j1 kj4 l0 a1 a2 t152 false t149 t150)) else (fuseelaw03_RingFar.j1 kj4 l0 a1 a2 t152 true t149 t150)) else (if t152 = 0 then (fuseelaw03_RingFar.j1 kj4 l0 a1 a2 t152 (t155 != 0) t149 t150) else (fuseelaw03_RingFar.j1 kj4 l0 a1 a2 t152 false t149 t150)))) = some r := H
              have A26 := Aside0.mk A260
              clear A260
              by_cases c27 : t158 < t152
              · rw [if_pos c27] at H
                have c27b0 : decide (t158 < t152) = true := decide_eq_true c27
                clear c27
                have H' := Aside0.mk H
                clear H
                have hcz28_0 : w22.cell? ⟨gb151, 0, none⟩ = some (.int .i64 t149) := (blk_cell BK151.out 0).trans rfl
                have hcz28_1 : w22.cell? ⟨gb151, 1, none⟩ = some (.int .u64 t150) := (blk_cell BK151.out 1).trans rfl
                have hfz28_0 := blk_frozen BK151.out 0
                have hfz28_1 := blk_frozen BK151.out 1
                go_wp2_with (first | (go_at_call 12; (with_reducible refine (ring_Put.calls t149 t150 true t156 t157 _ A25.out).mono ?_); rintro e w29 ⟨rfl, hb⟩; have n0_ := Aside0.mk (blk_below (g := gb151) (o := .cells #[.int .i64 t149, .int .u64 t150] 27 (0, 0)) (by (with_reducible repeat (first | refine blk_drewN ?_ _ | refine blk_drew ?_ | refine blk_alloc ?_ _)); exact BK151.out) hb); have n1_ := Aside0.mk (below_step (by repeat (first | (with_reducible first | exact HB.out | apply below_alloc | apply pw_below_drewN | apply below_drew1 | refine below_set ?_ GE151.out) | exact HB.out)) hb); clear BK151; clear HB; have BK151 := n0_; have HB := n1_; clear n0_ n1_; (try clear hb); (try clear hb2); (try clear hk); (try clear hi)) | (go_at_call 11; (with_reducible refine (ring_Far.calls kj4 t156 t157 a1 a2 t158 _ A26.out).mono ?_); rintro e w30 ⟨rfl, hb⟩; have n0_ := Aside0.mk (blk_below (g := gb151) (o := .cells #[.int .i64 t149, .int .u64 t150] 27 (0, 0)) (by (with_reducible repeat (first | refine blk_drewN ?_ _ | refine blk_drew ?_ | refine blk_alloc ?_ _)); exact BK151.out) hb); have n1_ := Aside0.mk (below_step (by repeat (first | (with_reducible first | exact HB.out | apply below_alloc | apply pw_below_drewN | apply below_drew1 | refine below_set ?_ GE151.out) | exact HB.out)) hb); clear BK151; clear HB; have BK151 := n0_; have HB := n1_; clear n0_ n1_; (try clear hb); (try clear hb2); (try clear hk); (try clear hi)))
                go_meet
                case rel => exact ⟨_, (true), (by first | rfl | (simp; done) | (simp [*]; done)), H', ⟨by have := HJ4.out; first | omega | exact Nat.le_refl _⟩, ⟨by (with_reducible repeat (first | refine blk_drewN ?_ _ | refine blk_drew ?_ | refine blk_alloc ?_ _)); exact BK151.out⟩, ⟨by repeat (first | (with_reducible first | exact HB.out | apply below_alloc | apply pw_below_drewN | apply below_drew1 | refine below_set ?_ GE151.out) | exact HB.out)⟩⟩
              · rw [if_neg c27] at H
                have c27b0 : decide (t158 < t152) = false := decide_eq_false c27
                clear c27
                by_cases c31 : t152 > 0
                · rw [if_pos c31] at H
                  have c31b0 : decide (0 < t152) = true := decide_eq_true c31
                  clear c31
                  by_cases c32 : t155 = (wrap64 (t152 - 1))
                  · rw [if_pos c32] at H
                    have c32b0 : (t155 == (wrap64 (t152 - 1))) = true := beq_iff_eq.mpr c32
                    have c32b1 : (t155 != (wrap64 (t152 - 1))) = false := bne_eq_false_iff_eq.mpr c32
                    clear c32
                    by_cases c33 : t152 = 0
                    · rw [if_pos c33] at H
                      have c33b0 : (t152 == 0) = true := beq_iff_eq.mpr c33
                      have c33b1 : (t152 != 0) = false := bne_eq_false_iff_eq.mpr c33
                      clear c33
                      have H' := Aside0.mk H
                      clear H
                      have hcz34_0 : w22.cell? ⟨gb151, 0, none⟩ = some (.int .i64 t149) := (blk_cell BK151.out 0).trans rfl
                      have hcz34_1 : w22.cell? ⟨gb151, 1, none⟩ = some (.int .u64 t150) := (blk_cell BK151.out 1).trans rfl
                      have hfz34_0 := blk_frozen BK151.out 0
                      have hfz34_1 := blk_frozen BK151.out 1
                      go_wp2_with (first | (go_at_call 12; (with_reducible refine (ring_Put.calls t149 t150 true t156 t157 _ A25.out).mono ?_); rintro e w35 ⟨rfl, hb⟩; have n0_ := Aside0.mk (blk_below (g := gb151) (o := .cells #[.int .i64 t149, .int .u64 t150] 27 (0, 0)) (by (with_reducible repeat (first | refine blk_drewN ?_ _ | refine blk_drew ?_ | refine blk_alloc ?_ _)); exact BK151.out) hb); have n1_ := Aside0.mk (below_step (by repeat (first | (with_reducible first | exact HB.out | apply below_alloc | apply pw_below_drewN | apply below_drew1 | refine below_set ?_ GE151.out) | exact HB.out)) hb); clear BK151; clear HB; have BK151 := n0_; have HB := n1_; clear n0_ n1_; (try clear hb); (try clear hb2); (try clear hk); (try clear hi)) | (go_at_call 11; (with_reducible refine (ring_Far.calls kj4 t156 t157 a1 a2 t158 _ A26.out).mono ?_); rintro e w36 ⟨rfl, hb⟩; have n0_ := Aside0.mk (blk_below (g := gb151) (o := .cells #[.int .i64 t149, .int .u64 t150] 27 (0, 0)) (by (with_reducible repeat (first | refine blk_drewN ?_ _ | refine blk_drew ?_ | refine blk_alloc ?_ _)); exact BK151.out) hb); have n1_ := Aside0.mk (below_step (by repeat (first | (with_reducible first | exact HB.out | apply below_alloc | apply pw_below_drewN | apply below_drew1 | refine below_set ?_ GE151.out) | exact HB.out)) hb); clear BK151; clear HB; have BK151 := n0_; have HB := n1_; clear n0_ n1_; (try clear hb); (try clear hb2); (try clear hk); (try clear hi)))
                      go_meet
                      case rel => exact ⟨_, ((t155 != 0)), (by first | rfl | (simp; done) | (simp [*]; done)), H', ⟨by have := HJ4.out; first | omega | exact Nat.le_refl _⟩, ⟨by (with_reducible repeat (first | refine blk_drewN ?_ _ | refine blk_drew ?_ | refine blk_alloc ?_ _)); exact BK151.out⟩, ⟨by repeat (first | (with_reducible first | exact HB.out | apply below_alloc | apply pw_below_drewN | apply below_drew1 | refine below_set ?_ GE151.out) | exact HB.out)⟩⟩
                    · rw [if_neg c33] at H
                      have c33b0 : (t152 == 0) = false := beq_eq_false_iff_ne.mpr c33
                      have c33b1 : (t152 != 0) = true := bne_iff_ne.mpr c33
                      have H' := Aside0.mk H
                      clear H
                      have hcz37_0 : w22.cell? ⟨gb151, 0, none⟩ = some (.int .i64 t149) := (blk_cell BK151.out 0).trans rfl
                      have hcz37_1 : w22.cell? ⟨gb151, 1, none⟩ = some (.int .u64 t150) := (blk_cell BK151.out 1).trans rfl
                      have hfz37_0 := blk_frozen BK151.out 0
                      have hfz37_1 := blk_frozen BK151.out 1
                      go_wp2_with (first | (go_at_call 12; (with_reducible refine (ring_Put.calls t149 t150 true t156 t157 _ A25.out).mono ?_); rintro e w38 ⟨rfl, hb⟩; have n0_ := Aside0.mk (blk_below (g := gb151) (o := .cells #[.int .i64 t149, .int .u64 t150] 27 (0, 0)) (by (with_reducible repeat (first | refine blk_drewN ?_ _ | refine blk_drew ?_ | refine blk_alloc ?_ _)); exact BK151.out) hb); have n1_ := Aside0.mk (below_step (by repeat (first | (with_reducible first | exact HB.out | apply below_alloc | apply pw_below_drewN | apply below_drew1 | refine below_set ?_ GE151.out) | exact HB.out)) hb); clear BK151; clear HB; have BK151 := n0_; have HB := n1_; clear n0_ n1_; (try clear hb); (try clear hb2); (try clear hk); (try clear hi)) | (go_at_call 11; (with_reducible refine (ring_Far.calls kj4 t156 t157 a1 a2 t158 _ A26.out).mono ?_); rintro e w39 ⟨rfl, hb⟩; have n0_ := Aside0.mk (blk_below (g := gb151) (o := .cells #[.int .i64 t149, .int .u64 t150] 27 (0, 0)) (by (with_reducible repeat (first | refine blk_drewN ?_ _ | refine blk_drew ?_ | refine blk_alloc ?_ _)); exact BK151.out) hb); have n1_ := Aside0.mk (below_step (by repeat (first | (with_reducible first | exact HB.out | apply below_alloc | apply pw_below_drewN | apply below_drew1 | refine below_set ?_ GE151.out) | exact HB.out)) hb); clear BK151; clear HB; have BK151 := n0_; have HB := n1_; clear n0_ n1_; (try clear hb); (try clear hb2); (try clear hk); (try clear hi)))
                      go_meet
                      case rel => exact ⟨_, (false), (by first | rfl | (simp; done) | (simp [*]; done)), H', ⟨by have := HJ4.out; first | omega | exact Nat.le_refl _⟩, ⟨by (with_reducible repeat (first | refine blk_drewN ?_ _ | refine blk_drew ?_ | refine blk_alloc ?_ _)); exact BK151.out⟩, ⟨by repeat (first | (with_reducible first | exact HB.out | apply below_alloc | apply pw_below_drewN | apply below_drew1 | refine below_set ?_ GE151.out) | exact HB.out)⟩⟩
                  · rw [if_neg c32] at H
                    have c32b0 : (t155 == (wrap64 (t152 - 1))) = false := beq_eq_false_iff_ne.mpr c32
                    have c32b1 : (t155 != (wrap64 (t152 - 1))) = true := bne_iff_ne.mpr c32
                    have H' := Aside0.mk H
                    clear H
                    have hcz40_0 : w22.cell? ⟨gb151, 0, none⟩ = some (.int .i64 t149) := (blk_cell BK151.out 0).trans rfl
                    have hcz40_1 : w22.cell? ⟨gb151, 1, none⟩ = some (.int .u64 t150) := (blk_cell BK151.out 1).trans rfl
                    have hfz40_0 := blk_frozen BK151.out 0
                    have hfz40_1 := blk_frozen BK151.out 1
                    go_wp2_with (first | (go_at_call 12; (with_reducible refine (ring_Put.calls t149 t150 true t156 t157 _ A25.out).mono ?_); rintro e w41 ⟨rfl, hb⟩; have n0_ := Aside0.mk (blk_below (g := gb151) (o := .cells #[.int .i64 t149, .int .u64 t150] 27 (0, 0)) (by (with_reducible repeat (first | refine blk_drewN ?_ _ | refine blk_drew ?_ | refine blk_alloc ?_ _)); exact BK151.out) hb); have n1_ := Aside0.mk (below_step (by repeat (first | (with_reducible first | exact HB.out | apply below_alloc | apply pw_below_drewN | apply below_drew1 | refine below_set ?_ GE151.out) | exact HB.out)) hb); clear BK151; clear HB; have BK151 := n0_; have HB := n1_; clear n0_ n1_; (try clear hb); (try clear hb2); (try clear hk); (try clear hi)) | (go_at_call 11; (with_reducible refine (ring_Far.calls kj4 t156 t157 a1 a2 t158 _ A26.out).mono ?_); rintro e w42 ⟨rfl, hb⟩; have n0_ := Aside0.mk (blk_below (g := gb151) (o := .cells #[.int .i64 t149, .int .u64 t150] 27 (0, 0)) (by (with_reducible repeat (first | refine blk_drewN ?_ _ | refine blk_drew ?_ | refine blk_alloc ?_ _)); exact BK151.out) hb); have n1_ := Aside0.mk (below_step (by repeat (first | (with_reducible first | exact HB.out | apply below_alloc | apply pw_below_drewN | apply below_drew1 | refine below_set ?_ GE151.out) | exact HB.out)) hb); clear BK151; clear HB; have BK151 := n0_; have HB := n1_; clear n0_ n1_; (try clear hb); (try clear hb2); (try clear hk); (try clear hi)))
                    go_meet
                    case rel => exact ⟨_, (true), (by first | rfl | (simp; done) | (simp [*]; done)), H', ⟨by have := HJ4.out; first | omega | exact Nat.le_refl _⟩, ⟨by (with_reducible repeat (first | refine blk_drewN ?_ _ | refine blk_drew ?_ | refine blk_alloc ?_ _)); exact BK151.out⟩, ⟨by repeat (first | (with_reducible first | exact HB.out | apply below_alloc | apply pw_below_drewN | apply below_drew1 | refine below_set ?_ GE151.out) | exact HB.out)⟩⟩
                · rw [if_neg c31] at H
                  have c31b0 : decide (0 < t152) = false := decide_eq_false c31
                  clear c31
                  by_cases c43 : t152 = 0
                  · rw [if_pos c43] at H
                    have c43b0 : (t152 == 0) = true := beq_iff_eq.mpr c43
                    have c43b1 : (t152 != 0) = false := bne_eq_false_iff_eq.mpr c43
                    clear c43
                    have H' := Aside0.mk H
                    clear H
                    have hcz44_0 : w22.cell? ⟨gb151, 0, none⟩ = some (.int .i64 t149) := (blk_cell BK151.out 0).trans rfl
                    have hcz44_1 : w22.cell? ⟨gb151, 1, none⟩ = some (.int .u64 t150) := (blk_cell BK151.out 1).trans rfl
                    have hfz44_0 := blk_frozen BK151.out 0
                    have hfz44_1 := blk_frozen BK151.out 1
                    go_wp2_with (first | (go_at_call 12; (with_reducible refine (ring_Put.calls t149 t150 true t156 t157 _ A25.out).mono ?_); rintro e w45 ⟨rfl, hb⟩; have n0_ := Aside0.mk (blk_below (g := gb151) (o := .cells #[.int .i64 t149, .int .u64 t150] 27 (0, 0)) (by (with_reducible repeat (first | refine blk_drewN ?_ _ | refine blk_drew ?_ | refine blk_alloc ?_ _)); exact BK151.out) hb); have n1_ := Aside0.mk (below_step (by repeat (first | (with_reducible first | exact HB.out | apply below_alloc | apply pw_below_drewN | apply below_drew1 | refine below_set ?_ GE151.out) | exact HB.out)) hb); clear BK151; clear HB; have BK151 := n0_; have HB := n1_; clear n0_ n1_; (try clear hb); (try clear hb2); (try clear hk); (try clear hi)) | (go_at_call 11; (with_reducible refine (ring_Far.calls kj4 t156 t157 a1 a2 t158 _ A26.out).mono ?_); rintro e w46 ⟨rfl, hb⟩; have n0_ := Aside0.mk (blk_below (g := gb151) (o := .cells #[.int .i64 t149, .int .u64 t150] 27 (0, 0)) (by (with_reducible repeat (first | refine blk_drewN ?_ _ | refine blk_drew ?_ | refine blk_alloc ?_ _)); exact BK151.out) hb); have n1_ := Aside0.mk (below_step (by repeat (first | (with_reducible first | exact HB.out | apply below_alloc | apply pw_below_drewN | apply below_drew1 | refine below_set ?_ GE151.out) | exact HB.out)) hb); clear BK151; clear HB; have BK151 := n0_; have HB := n1_; clear n0_ n1_; (try clear hb); (try clear hb2); (try clear hk); (try clear hi)))
                    go_meet
                    case rel => exact ⟨_, ((t155 != 0)), (by first | rfl | (simp; done) | (simp [*]; done)), H', ⟨by have := HJ4.out; first | omega | exact Nat.le_refl _⟩, ⟨by (with_reducible repeat (first | refine blk_drewN ?_ _ | refine blk_drew ?_ | refine blk_alloc ?_ _)); exact BK151.out⟩, ⟨by repeat (first | (with_reducible first | exact HB.out | apply below_alloc | apply pw_below_drewN | apply below_drew1 | refine below_set ?_ GE151.out) | exact HB.out)⟩⟩
                  · rw [if_neg c43] at H
                    have c43b0 : (t152 == 0) = false := beq_eq_false_iff_ne.mpr c43
                    have c43b1 : (t152 != 0) = true := bne_iff_ne.mpr c43
                    have H' := Aside0.mk H
                    clear H
                    have hcz47_0 : w22.cell? ⟨gb151, 0, none⟩ = some (.int .i64 t149) := (blk_cell BK151.out 0).trans rfl
                    have hcz47_1 : w22.cell? ⟨gb151, 1, none⟩ = some (.int .u64 t150) := (blk_cell BK151.out 1).trans rfl
                    have hfz47_0 := blk_frozen BK151.out 0
                    have hfz47_1 := blk_frozen BK151.out 1
                    go_wp2_with (first | (go_at_call 12; (with_reducible refine (ring_Put.calls t149 t150 true t156 t157 _ A25.out).mono ?_); rintro e w48 ⟨rfl, hb⟩; have n0_ := Aside0.mk (blk_below (g := gb151) (o := .cells #[.int .i64 t149, .int .u64 t150] 27 (0, 0)) (by (with_reducible repeat (first | refine blk_drewN ?_ _ | refine blk_drew ?_ | refine blk_alloc ?_ _)); exact BK151.out) hb); have n1_ := Aside0.mk (below_step (by repeat (first | (with_reducible first | exact HB.out | apply below_alloc | apply pw_below_drewN | apply below_drew1 | refine below_set ?_ GE151.out) | exact HB.out)) hb); clear BK151; clear HB; have BK151 := n0_; have HB := n1_; clear n0_ n1_; (try clear hb); (try clear hb2); (try clear hk); (try clear hi)) | (go_at_call 11; (with_reducible refine (ring_Far.calls kj4 t156 t157 a1 a2 t158 _ A26.out).mono ?_); rintro e w49 ⟨rfl, hb⟩; have n0_ := Aside0.mk (blk_below (g := gb151) (o := .cells #[.int .i64 t149, .int .u64 t150] 27 (0, 0)) (by (with_reducible repeat (first | refine blk_drewN ?_ _ | refine blk_drew ?_ | refine blk_alloc ?_ _)); exact BK151.out) hb); have n1_ := Aside0.mk (below_step (by repeat (first | (with_reducible first | exact HB.out | apply below_alloc | apply pw_below_drewN | apply below_drew1 | refine below_set ?_ GE151.out) | exact HB.out)) hb); clear BK151; clear HB; have BK151 := n0_; have HB := n1_; clear n0_ n1_; (try clear hb); (try clear hb2); (try clear hk); (try clear hi)))
                    go_meet
                    case rel => exact ⟨_, (false), (by first | rfl | (simp; done) | (simp [*]; done)), H', ⟨by have := HJ4.out; first | omega | exact Nat.le_refl _⟩, ⟨by (with_reducible repeat (first | refine blk_drewN ?_ _ | refine blk_drew ?_ | refine blk_alloc ?_ _)); exact BK151.out⟩, ⟨by repeat (first | (with_reducible first | exact HB.out | apply below_alloc | apply pw_below_drewN | apply below_drew1 | refine below_set ?_ GE151.out) | exact HB.out)⟩⟩
        case rest =>
          clear HC15
          try clear c1
          try clear c2
          try clear p2
          try clear c3
          try clear c4
          try clear p6
          try clear c7
          try clear c8
          try clear c9
          try clear c10
          try clear c11
          try clear c12
          try clear c23
          try clear c23b0
          try clear c24
          try clear c24b0
          try clear c27
          try clear c27b0
          try clear c31
          try clear c31b0
          try clear c32
          try clear c32b0
          try clear c32b1
          try clear c33
          try clear c33b0
          try clear c33b1
          try clear c43
          try clear c43b0
          try clear c43b1
          try clear hcz18_0
          try clear hcz18_1
          try clear hcz20_0
          try clear hcz20_1
          try clear hcz28_0
          try clear hcz28_1
          try clear hcz34_0
          try clear hcz34_1
          try clear hcz37_0
          try clear hcz37_1
          try clear hcz40_0
          try clear hcz40_1
          try clear hcz44_0
          try clear hcz44_1
          try clear hcz47_0
          try clear hcz47_1
          try clear hfz18_0
          try clear hfz18_1
          try clear hfz20_0
          try clear hfz20_1
          try clear hfz28_0
          try clear hfz28_1
          try clear hfz34_0
          try clear hfz34_1
          try clear hfz37_0
          try clear hfz37_1
          try clear hfz40_0
          try clear hfz40_1
          try clear hfz44_0
          try clear hfz44_1
          try clear hfz47_0
          try clear hfz47_1
          try clear p2
          obtain ⟨kq, x71_14, rfl, HA, HJ14, BK151, HB⟩ := hcut
          cases kq with
          | zero => exact absurd HA.out (by simp [fuseelaw03_RingFar.j1])
          | succ kj14 =>
            have H := HA.out
            clear HA
            simp only [fuseelaw03_RingFar.j1] at H
            by_cases c50 : x71_14 = true
            · subst c50
              have H1 : (some false) = some r := by rw [if_pos rfl] at H; exact H
              clear H
              have H := H1
              clear H1
              obtain rfl := Option.some.inj H
              go_wp2
              go_ret
              exact ⟨by first | rfl | (simp [errW_none, errW_some] <;> rfl) | (simp [*, errW_none, errW_some] <;> rfl) | (exfalso; first | exact absurd ‹(false != false) = true› (by decide) | exact absurd ‹(true != true) = true› (by decide) | exact absurd ‹(true != false) = false› (by decide) | exact absurd ‹(false != true) = false› (by decide) | exact absurd ‹(false == false) = false› (by decide) | exact absurd ‹(true == true) = false› (by decide) | exact absurd ‹(true == false) = true› (by decide) | exact absurd ‹(false == true) = true› (by decide)), by repeat (first | (with_reducible first | exact HB.out | apply below_alloc | apply pw_below_drewN | apply below_drew1 | refine below_set ?_ GE151.out) | exact HB.out)⟩
            · replace c50 := Bool.eq_false_iff.mpr c50
              subst c50
              have H1 : (if (l0.length : Int) ≥ a2 then ((ring_Good.f t149 t150 a2).bind fun t159 => (fuseelaw03_RingFar.j2 kj14 a1 a2 t152 ((t152 == 0) != (decide (t159 < a1))) t149 t150)) else (fuseelaw03_RingFar.j2 kj14 a1 a2 t152 false t149 t150)) = some r := by rw [if_neg (show ¬ (false = true) by decide)] at H; exact H
              clear H
              have H := H1
              clear H1
              have HC51 := Aside0.mk H
              clear H
              go_upto_region 9 with (fail)
              go_cut [85] (fun v85 wc => ∃ (kq : Nat) (x85_50 : Bool), v85 = .bool x85_50 ∧ Aside0 (fuseelaw03_RingFar.j2 kq a1 a2 t152 x85_50 t149 t150 = some r) ∧ Aside0 (kq ≤ kj14) ∧ Aside0 (wc.heap[gb151]? = some (.cells #[.int .i64 t149, .int .u64 t150] 27 (0, 0))) ∧ Aside0 (Below w.heap.size w wc))
              case first =>
                have H := HC51.out
                clear HC51
                by_cases c52 : (l0.length : Int) ≥ a2
                · rw [if_pos c52] at H
                  have c52b0 : decide (a2 ≤ (l0.length : Int)) = true := decide_eq_true c52
                  clear c52
                  (first | rw [c52b0] | (simp only [i64_w, i32_w]; rw [c52b0]) | skip)
                  replace H := Option.bind_eq_some_iff.mp H
                  obtain ⟨t159, A530, H⟩ := H
                  replace H : (fuseelaw03_RingFar.j2 kj14 a1 a2 t152 ((t152 == 0) != (decide (t159 < a1))) t149 t150) = some r := H
                  have A53 := Aside0.mk A530
                  clear A530
                  have H' := Aside0.mk H
                  clear H
                  have hcz54_0 : wc.cell? ⟨gb151, 0, none⟩ = some (.int .i64 t149) := (blk_cell BK151.out 0).trans rfl
                  have hcz54_1 : wc.cell? ⟨gb151, 1, none⟩ = some (.int .u64 t150) := (blk_cell BK151.out 1).trans rfl
                  have hfz54_0 := blk_frozen BK151.out 0
                  have hfz54_1 := blk_frozen BK151.out 1
                  go_wp2_with (first | (go_at_call 13; (with_reducible refine (ring_Good.calls t149 t150 a2 t159 _ A53.out).mono ?_); rintro e w55 ⟨rfl, hb⟩; have n0_ := Aside0.mk (blk_below (g := gb151) (o := .cells #[.int .i64 t149, .int .u64 t150] 27 (0, 0)) (by (with_reducible repeat (first | refine blk_drewN ?_ _ | refine blk_drew ?_ | refine blk_alloc ?_ _)); exact BK151.out) hb); have n1_ := Aside0.mk (below_step (by repeat (first | (with_reducible first | exact HB.out | apply below_alloc | apply pw_below_drewN | apply below_drew1 | refine below_set ?_ GE151.out) | exact HB.out)) hb); clear BK151; clear HB; have BK151 := n0_; have HB := n1_; clear n0_ n1_; (try clear hb); (try clear hb2); (try clear hk); (try clear hi)))
                  go_meet
                  case rel => exact ⟨_, (((t152 == 0) != (decide (t159 < a1)))), (by first | rfl | (simp; done) | (simp [*]; done)), H', ⟨by have := HJ4.out; have := HJ14.out; first | omega | exact Nat.le_refl _⟩, ⟨by (with_reducible repeat (first | refine blk_drewN ?_ _ | refine blk_drew ?_ | refine blk_alloc ?_ _)); exact BK151.out⟩, ⟨by repeat (first | (with_reducible first | exact HB.out | apply below_alloc | apply pw_below_drewN | apply below_drew1 | refine below_set ?_ GE151.out) | exact HB.out)⟩⟩
                · rw [if_neg c52] at H
                  have c52b0 : decide (a2 ≤ (l0.length : Int)) = false := decide_eq_false c52
                  clear c52
                  (first | rw [c52b0] | (simp only [i64_w, i32_w]; rw [c52b0]) | skip)
                  have H' := Aside0.mk H
                  clear H
                  go_wp2
                  go_meet
                  case rel => exact ⟨_, (false), (by first | rfl | (simp; done) | (simp [*]; done)), H', ⟨by have := HJ4.out; have := HJ14.out; first | omega | exact Nat.le_refl _⟩, ⟨by (with_reducible repeat (first | refine blk_drewN ?_ _ | refine blk_drew ?_ | refine blk_alloc ?_ _)); exact BK151.out⟩, ⟨by repeat (first | (with_reducible first | exact HB.out | apply below_alloc | apply pw_below_drewN | apply below_drew1 | refine below_set ?_ GE151.out) | exact HB.out)⟩⟩
              case rest =>
                clear HC51
                try clear c1
                try clear c2
                try clear p2
                try clear c3
                try clear c4
                try clear c5
                try clear p6
                try clear c7
                try clear c8
                try clear c9
                try clear c10
                try clear c11
                try clear c12
                try clear c23
                try clear c23b0
                try clear c24
                try clear c24b0
                try clear c27
                try clear c27b0
                try clear c31
                try clear c31b0
                try clear c32
                try clear c32b0
                try clear c32b1
                try clear c33
                try clear c33b0
                try clear c33b1
                try clear c43
                try clear c43b0
                try clear c43b1
                try clear c50
                try clear c52
                try clear c52b0
                try clear hcz18_0
                try clear hcz18_1
                try clear hcz20_0
                try clear hcz20_1
                try clear hcz28_0
                try clear hcz28_1
                try clear hcz34_0
                try clear hcz34_1
                try clear hcz37_0
                try clear hcz37_1
                try clear hcz40_0
                try clear hcz40_1
                try clear hcz44_0
                try clear hcz44_1
                try clear hcz47_0
                try clear hcz47_1
                try clear hcz54_0
                try clear hcz54_1
                try clear hfz18_0
                try clear hfz18_1
                try clear hfz20_0
                try clear hfz20_1
                try clear hfz28_0
                try clear hfz28_1
                try clear hfz34_0
                try clear hfz34_1
                try clear hfz37_0
                try clear hfz37_1
                try clear hfz40_0
                try clear hfz40_1
                try clear hfz44_0
                try clear hfz44_1
                try clear hfz47_0
                try clear hfz47_1
                try clear hfz54_0
                try clear hfz54_1
                try clear p2
                try clear p6
                obtain ⟨kq, x85_50, rfl, HA, HJ50, BK151, HB⟩ := hcut
                cases kq with
                | zero => exact absurd HA.out (by simp [fuseelaw03_RingFar.j2])
                | succ kj50 =>
                  have H := HA.out
                  clear HA
                  simp only [fuseelaw03_RingFar.j2] at H
                  by_cases c56 : x85_50 = true
                  · subst c56
                    have H1 : (some false) = some r := by rw [if_pos rfl] at H; exact H
                    clear H
                    have H := H1
                    clear H1
                    obtain rfl := Option.some.inj H
                    go_wp2
                    go_ret
                    exact ⟨by first | rfl | (simp [errW_none, errW_some] <;> rfl) | (simp [*, errW_none, errW_some] <;> rfl) | (exfalso; first | exact absurd ‹(false != false) = true› (by decide) | exact absurd ‹(true != true) = true› (by decide) | exact absurd ‹(true != false) = false› (by decide) | exact absurd ‹(false != true) = false› (by decide) | exact absurd ‹(false == false) = false› (by decide) | exact absurd ‹(true == true) = false› (by decide) | exact absurd ‹(true == false) = true› (by decide) | exact absurd ‹(false == true) = true› (by decide)), by repeat (first | (with_reducible first | exact HB.out | apply below_alloc | apply pw_below_drewN | apply below_drew1 | refine below_set ?_ GE151.out) | exact HB.out)⟩
                  · replace c56 := Bool.eq_false_iff.mpr c56
                    subst c56
                    have H1 : (fuseelaw03_RingFar.l0 kj50 a1 a2 t152 0 t149 t150) = some r := by rw [if_neg (show ¬ (false = true) by decide)] at H; exact H
                    clear H
                    have H := H1
                    clear H1
                    have H' := Aside0.mk H
                    clear H
                    go_wp2
                    go_loopg [11] kj50 (fun kq v11 w' => ∃ (x11_4 : Int) (x152000_4 : Int) (x152001_4 : Int), v11 = .int .i64 x11_4 ∧ Aside0 (fuseelaw03_RingFar.l0 kq a1 a2 t152 x11_4 x152000_4 x152001_4 = some r) ∧ Aside0 (kq ≤ kj50) ∧ Aside0 (w'.heap[gb151]? = some (.cells #[.int .i64 x152000_4, .int .u64 x152001_4] 27 (0, 0))) ∧ Aside0 (Below w.heap.size w w'))
                    case atStart => exact ⟨(0), (t149), (t150), (by first | rfl | (simp; done) | (simp [*]; done)), H', ⟨Nat.le_refl _⟩, ⟨by (with_reducible repeat (first | refine blk_drewN ?_ _ | refine blk_drew ?_ | refine blk_alloc ?_ _)); exact BK151.out⟩, ⟨by repeat (first | (with_reducible first | exact HB.out | apply below_alloc | apply pw_below_drewN | apply below_drew1 | refine below_set ?_ GE151.out) | exact HB.out)⟩⟩
                    case round =>
                      clear H'
                      try clear c1
                      try clear c2
                      try clear p2
                      try clear c3
                      try clear c4
                      try clear c5
                      try clear p6
                      try clear c7
                      try clear c8
                      try clear c9
                      try clear c10
                      try clear c11
                      try clear c12
                      try clear c23
                      try clear c23b0
                      try clear c24
                      try clear c24b0
                      try clear c27
                      try clear c27b0
                      try clear c31
                      try clear c31b0
                      try clear c32
                      try clear c32b0
                      try clear c32b1
                      try clear c33
                      try clear c33b0
                      try clear c33b1
                      try clear c43
                      try clear c43b0
                      try clear c43b1
                      try clear c50
                      try clear c52
                      try clear c52b0
                      try clear c56
                      try clear hcz18_0
                      try clear hcz18_1
                      try clear hcz20_0
                      try clear hcz20_1
                      try clear hcz28_0
                      try clear hcz28_1
                      try clear hcz34_0
                      try clear hcz34_1
                      try clear hcz37_0
                      try clear hcz37_1
                      try clear hcz40_0
                      try clear hcz40_1
                      try clear hcz44_0
                      try clear hcz44_1
                      try clear hcz47_0
                      try clear hcz47_1
                      try clear hcz54_0
                      try clear hcz54_1
                      try clear hfz18_0
                      try clear hfz18_1
                      try clear hfz20_0
                      try clear hfz20_1
                      try clear hfz28_0
                      try clear hfz28_1
                      try clear hfz34_0
                      try clear hfz34_1
                      try clear hfz37_0
                      try clear hfz37_1
                      try clear hfz40_0
                      try clear hfz40_1
                      try clear hfz44_0
                      try clear hfz44_1
                      try clear hfz47_0
                      try clear hfz47_1
                      try clear hfz54_0
                      try clear hfz54_1
                      try clear p2
                      try clear p6
                      obtain ⟨x11_4, x152000_4, x152001_4, rfl, HA, HK4, BK151, HB⟩ := hrel
                      cases gk with
                      | zero => exact absurd HA.out (by simp [fuseelaw03_RingFar.l0])
                      | succ k4 =>
                        have H := HA.out
                        clear HA
                        simp only [fuseelaw03_RingFar.l0] at H
                        by_cases c57 : x11_4 < t152
                        · rw [if_pos c57] at H
                          have c57b0 : decide (x11_4 < t152) = true := decide_eq_true c57
                          clear c57
                          replace H := Option.bind_eq_some_iff.mp H
                          obtain ⟨⟨t160, t161⟩, A580, H⟩ := H
                          replace H : (fuseelaw03_RingFar.l0 k4 a1 a2 t152 (wrap64 (x11_4 + 1)) t160 t161) = some r := H
                          have A58 := Aside0.mk A580
                          clear A580
                          have H' := Aside0.mk H
                          clear H
                          have hcz59_0 : wr.cell? ⟨gb151, 0, none⟩ = some (.int .i64 x152000_4) := (blk_cell BK151.out 0).trans rfl
                          have hcz59_1 : wr.cell? ⟨gb151, 1, none⟩ = some (.int .u64 x152001_4) := (blk_cell BK151.out 1).trans rfl
                          have hfz59_0 := blk_frozen BK151.out 0
                          have hfz59_1 := blk_frozen BK151.out 1
                          go_wp2_with (first | ((with_reducible refine gate_callee (f := 12) rfl ?_); refine goesL_ (some 92) rfl rfl Try.func12 (by kernel_rfl) rfl #[.agg #[.int .i64 x152000_4, .int .u64 x152001_4], .bool false] rfl (by (try simp only [List.map_toArray, List.map_cons, List.map_nil]); first | done | rfl | (simp only [List.length_drop, List.length_take]; rfl)) ?_; (with_reducible refine (ring_Put.calls x152000_4 x152001_4 false t160 t161 _ A58.out).mono ?_); rintro e w60 ⟨rfl, hb⟩; refine ⟨_, rfl, ?_⟩; have n0_ := Aside0.mk (blk_below (g := gb151) (o := .cells #[.int .i64 x152000_4, .int .u64 x152001_4] 27 (0, 0)) (by (with_reducible repeat (first | refine blk_drewN ?_ _ | refine blk_drew ?_ | refine blk_alloc ?_ _)); exact BK151.out) hb); have n1_ := Aside0.mk (below_step (by repeat (first | (with_reducible first | exact HB.out | apply below_alloc | apply pw_below_drewN | apply below_drew1 | refine below_set ?_ GE151.out) | exact HB.out)) hb); clear BK151; clear HB; have BK151 := n0_; have HB := n1_; clear n0_ n1_; (try clear hb); (try clear hb2); (try clear hk); (try clear hi); (try clear hcz59_0 hcz59_1 hfz59_0 hfz59_1); have hcz61_0 : w60.cell? ⟨gb151, 0, none⟩ = some (.int .i64 x152000_4) := (blk_cell BK151.out 0).trans rfl; have hcz61_1 : w60.cell? ⟨gb151, 1, none⟩ = some (.int .u64 x152001_4) := (blk_cell BK151.out 1).trans rfl; have hfz61_0 := blk_frozen BK151.out 0; have hfz61_1 := blk_frozen BK151.out 1))
                          go_roundg k4
                          case measure => have := HJ4.out; have := HJ14.out; have := HJ50.out; have := HK4.out; omega
                          case rel => exact ⟨(wrap64 (x11_4 + 1)), (t160), (t161), (by first | rfl | (simp; done) | (simp [*]; done)), H', ⟨by have := HJ4.out; have := HJ14.out; have := HJ50.out; have := HK4.out; omega⟩, ⟨by (with_reducible repeat (first | refine blk_drewN ?_ _ | refine blk_drew ?_ | refine blk_alloc ?_ _)); refine blk_put (cs := #[.int .i64 t160, .int .u64 x152001_4]) ?_ 1 _ rfl; (with_reducible repeat (first | refine blk_drewN ?_ _ | refine blk_drew ?_ | refine blk_alloc ?_ _)); refine blk_put (cs := #[.int .i64 x152000_4, .int .u64 x152001_4]) ?_ 0 _ rfl; (with_reducible repeat (first | refine blk_drewN ?_ _ | refine blk_drew ?_ | refine blk_alloc ?_ _)); exact BK151.out⟩, ⟨by repeat (first | (with_reducible first | exact HB.out | apply below_alloc | apply pw_below_drewN | apply below_drew1 | refine below_set ?_ GE151.out) | exact HB.out)⟩⟩
                        · rw [if_neg c57] at H
                          have c57b0 : decide (x11_4 < t152) = false := decide_eq_false c57
                          clear c57
                          replace H := Option.bind_eq_some_iff.mp H
                          obtain ⟨t162, A620, H⟩ := H
                          replace H : (some (t162 == 0)) = some r := H
                          have A62 := Aside0.mk A620
                          clear A620
                          obtain rfl := Option.some.inj H
                          have hcz63_0 : wr.cell? ⟨gb151, 0, none⟩ = some (.int .i64 x152000_4) := (blk_cell BK151.out 0).trans rfl
                          have hcz63_1 : wr.cell? ⟨gb151, 1, none⟩ = some (.int .u64 x152001_4) := (blk_cell BK151.out 1).trans rfl
                          have hfz63_0 := blk_frozen BK151.out 0
                          have hfz63_1 := blk_frozen BK151.out 1
                          go_wp2_with (first | ((with_reducible refine gate_callee (f := 11) rfl ?_); refine goesL_ (some 96) rfl rfl Try.func11 (by kernel_rfl) rfl #[.agg #[.int .i64 x152000_4, .int .u64 x152001_4], .int .i64 a1, .int .i64 a2] rfl (by (try simp only [List.map_toArray, List.map_cons, List.map_nil]); first | done | rfl | (simp only [List.length_drop, List.length_take]; rfl)) ?_; (with_reducible refine (ring_Far.calls k4 x152000_4 x152001_4 a1 a2 t162 _ A62.out).mono ?_); rintro e w64 ⟨rfl, hb⟩; refine ⟨_, rfl, ?_⟩; have n0_ := Aside0.mk (blk_below (g := gb151) (o := .cells #[.int .i64 x152000_4, .int .u64 x152001_4] 27 (0, 0)) (by (with_reducible repeat (first | refine blk_drewN ?_ _ | refine blk_drew ?_ | refine blk_alloc ?_ _)); exact BK151.out) hb); have n1_ := Aside0.mk (below_step (by repeat (first | (with_reducible first | exact HB.out | apply below_alloc | apply pw_below_drewN | apply below_drew1 | refine below_set ?_ GE151.out) | exact HB.out)) hb); clear BK151; clear HB; have BK151 := n0_; have HB := n1_; clear n0_ n1_; (try clear hb); (try clear hb2); (try clear hk); (try clear hi)))
                          go_ret
                          exact ⟨by first | rfl | (simp [errW_none, errW_some] <;> rfl) | (simp [*, errW_none, errW_some] <;> rfl) | (exfalso; first | exact absurd ‹(false != false) = true› (by decide) | exact absurd ‹(true != true) = true› (by decide) | exact absurd ‹(true != false) = false› (by decide) | exact absurd ‹(false != true) = false› (by decide) | exact absurd ‹(false == false) = false› (by decide) | exact absurd ‹(true == true) = false› (by decide) | exact absurd ‹(true == false) = true› (by decide) | exact absurd ‹(false == true) = true› (by decide)), by repeat (first | (with_reducible first | exact HB.out | apply below_alloc | apply pw_below_drewN | apply below_drew1 | refine below_set ?_ GE151.out) | exact HB.out)⟩

end Go.Proofs.Ytajacjklmabomaa.P
