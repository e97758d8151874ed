-- Written by a program of this session (hprint.py), out of the translation; functions that the print does not take are given by hand.
import Derived.Test.YtencdmcidhojgaaPx0
import Derived.Test.YtencdmcidhojgaaPx7
namespace Go.Proofs.Ytencdmcidhojgaa.P
open Go.RowKit Go.Proofs.YtencdmcidhojgaaM Go.Proofs.YtencdmcidhojgaaW.PrintWords Go.Proofs.YtencdmcidhojgaaW.PrintLast Go.Proofs.YtencdmcidhojgaaW.PrintMore
attribute [local go_sem] max2_int min2_int max_two min_two max_three min_three max_four min_four   -- for this text's walks alone
set_option linter.unusedVariables false
set_option linter.unusedSimpArgs false

/-! ### fuseeref07_total: function 21 -/
def fuseeref07_total.l0 : Nat → List (S33) → Int → Int → Int → Int → Option (Int)
  | 0, _, _, _, _, _ => none
  | k + 1, x0, x1, x2, x7, x8 => if x8 < (x0.length : Int) then (if 0 ≤ x8 then ((fuseeref07_Least.f ((rd_T33 x0 x8).f0) ((rd_T33 x0 x8).f1) ((rd_T33 x0 x8).f2)).bind fun t165 => (if (wrap64 ((wrap64 (x2 * ((rd_T33 x0 x8).f0))) - (wrap64 (x1 * ((rd_T33 x0 x8).f2))))) < (wrap64 (x2 * t165)) then (fuseeref07_total.l0 k x0 x1 x2 (wrap64 (x7 + (wrap64 (x2 * t165)))) (wrap64 (x8 + 1))) else (fuseeref07_total.l0 k x0 x1 x2 (wrap64 (x7 + (wrap64 ((wrap64 (x2 * ((rd_T33 x0 x8).f0))) - (wrap64 (x1 * ((rd_T33 x0 x8).f2))))))) (wrap64 (x8 + 1))))) else (none)) else (some x7)
def fuseeref07_total.f (k : Nat) (l0 : List (S33)) (a1 : Int) (a2 : Int) : Option (Int) := fuseeref07_total.l0 k l0 a1 a2 0 0
theorem fuseeref07_total.mono_l : ∀ k, (∀ y0 y1 y2 y3 y4, LeO (fuseeref07_total.l0 k y0 y1 y2 y3 y4) (fuseeref07_total.l0 (k + 1) y0 y1 y2 y3 y4))
  | 0 => fun _ _ _ _ _ r h => by simp [fuseeref07_total.l0] at h
  | k + 1 => by
    have ih0 := fuseeref07_total.mono_l k
    · intro y0 y1 y2 y3 y4
      unfold fuseeref07_total.l0
      repeat' first
      | (with_reducible exact ih0 _ _ _ _ _)
      | (with_reducible exact LeO.refl _)
      | (with_reducible exact LeO.none _)
      | (with_reducible refine LeO.ite ?_ ?_)
      | (with_reducible refine LeO.bind ?_ (fun _ => ?_))
      | exact ih0 _ _ _ _ _
      | exact LeO.none _
      | refine LeO.ite ?_ ?_
      | refine LeO.bind ?_ (fun _ => ?_)
theorem fuseeref07_total.mono : ∀ a0 a1 a2 k, LeO (fuseeref07_total.f k a0 a1 a2) (fuseeref07_total.f (k + 1) a0 a1 a2) := by
  intro a0 a1 a2 k
  have ih0 := fuseeref07_total.mono_l k
  unfold fuseeref07_total.f
  repeat' first
      | (with_reducible exact ih0 _ _ _ _ _)
      | (with_reducible exact LeO.refl _)
      | (with_reducible exact LeO.none _)
      | (with_reducible refine LeO.ite ?_ ?_)
      | (with_reducible refine LeO.bind ?_ (fun _ => ?_))
      | exact ih0 _ _ _ _ _
      | exact LeO.none _
      | refine LeO.ite ?_ ?_
      | refine LeO.bind ?_ (fun _ => ?_)
set_option maxHeartbeats 8000000 in
set_option maxRecDepth 100000 in
theorem fuseeref07_total.calls (k : Nat) (A0 : Option Addr) (c0 : Nat) (l0 : List (S33)) (a1 : Int) (a2 : Int) (r : Int) (w : World) (hr0 : Kd.C k33 w A0 l0.length l0) (hc0 : l0.length ≤ c0) (h : fuseeref07_total.f k l0 a1 a2 = some r) :
    Calls Try.prog 21 #[.slice A0 l0.length c0, .int .i64 a1, .int .i64 a2] w fun e w' => e = .returned (.int .i64 r) ∧ Below w.heap.size w w' := by
  have hu33 := Try.underlying33
  have HR0 := Aside0.mk hr0
  have HC0 := Aside0.mk hc0
  clear hr0 hc0
  have HB := Aside0.mk (Below.refl w.heap.size w)
  have H : (fuseeref07_total.l0 k l0 a1 a2 0 0) = some r := h
  clear h
  have H' := Aside0.mk H
  clear H
  go_enter Try.func21, Try.ntmps21
  go_wp2
  repeat (go_quiet (fail); try go_wp2)
  go_loopg [7, 8] k (fun kq v7 v8 w' => ∃ (x7_1 : Int) (x8_1 : Int), v7 = .int .i64 x7_1 ∧ v8 = .int .i64 x8_1 ∧ Aside0 (fuseeref07_total.l0 kq l0 a1 a2 x7_1 x8_1 = some r) ∧ Aside0 (kq ≤ k) ∧ Aside0 (Below w.heap.size w w'))
  case atStart => exact ⟨(0), (0), (by first | rfl | (simp; done) | (simp [*]; done)), (by first | rfl | (simp; done) | (simp [*]; done)), H', ⟨Nat.le_refl _⟩, ⟨by repeat (first | (with_reducible first | exact HB.out | apply below_alloc | apply pw_below_drewN | apply below_drew1) | exact HB.out)⟩⟩
  case round =>
    clear H'
    try clear c2
    try clear p2
    obtain ⟨x7_1, x8_1, rfl, rfl, HA, HK1, HB⟩ := hrel
    cases gk with
    | zero => exact absurd HA.out (by simp [fuseeref07_total.l0])
    | succ k1 =>
      have H := HA.out
      clear HA
      simp only [fuseeref07_total.l0] at H
      by_cases c4 : x8_1 < (l0.length : Int)
      · rw [if_pos c4] at H
        have c4b0 : decide (x8_1 < (l0.length : Int)) = true := decide_eq_true c4
        clear c4
        by_cases c5 : 0 ≤ x8_1
        · rw [if_pos c5] at H
          have c5b0 : decide (0 ≤ x8_1) = true := decide_eq_true c5
          clear c5
          replace H := Option.bind_eq_some_iff.mp H
          obtain ⟨t165, A60, H⟩ := H
          try dsimp only at H
          have A6 := Aside0.mk A60
          clear A60
          by_cases c7 : (wrap64 ((wrap64 (a2 * ((rd_T33 l0 x8_1).f0))) - (wrap64 (a1 * ((rd_T33 l0 x8_1).f2))))) < (wrap64 (a2 * t165))
          · rw [if_pos c7] at H
            have c7b0 : decide ((wrap64 ((wrap64 (a2 * ((rd_T33 l0 x8_1).f0))) - (wrap64 (a1 * ((rd_T33 l0 x8_1).f2))))) < (wrap64 (a2 * t165))) = true := decide_eq_true c7
            clear c7
            have H' := Aside0.mk H
            clear H
            have p162 : 0 ≤ (x8_1 : Int) := of_decide_eq_true (by first | (with_reducible assumption) | assumption)
            have q162 : x8_1 < (l0.length : Int) := of_decide_eq_true (by first | (with_reducible assumption) | assumption)
            obtain ⟨ad162, e162, hx162_0, hx162_1, hx162_2⟩ := at_T33 HR0.out x8_1 p162 q162
            cases e162
            replace hx162_0 := (HB.out.cell (World.block_lt_of_cell? w _ hx162_0)).trans hx162_0
            replace hx162_1 := (HB.out.cell (World.block_lt_of_cell? w _ hx162_1)).trans hx162_1
            replace hx162_2 := (HB.out.cell (World.block_lt_of_cell? w _ hx162_2)).trans hx162_2
            replace p162 := eq_true p162
            replace q162 := eq_true q162
            have p163 : 0 ≤ (x8_1 : Int) := of_decide_eq_true (by first | (with_reducible assumption) | assumption)
            have q163 : x8_1 < (l0.length : Int) := of_decide_eq_true (by first | (with_reducible assumption) | assumption)
            obtain ⟨ad163, e163, hx163_0, hx163_1, hx163_2⟩ := at_T33 HR0.out x8_1 p163 q163
            obtain rfl : ad162 = ad163 := (by injection e163)
            replace hx163_0 := (HB.out.cell (World.block_lt_of_cell? w _ hx163_0)).trans hx163_0
            replace hx163_1 := (HB.out.cell (World.block_lt_of_cell? w _ hx163_1)).trans hx163_1
            replace hx163_2 := (HB.out.cell (World.block_lt_of_cell? w _ hx163_2)).trans hx163_2
            replace p163 := eq_true p163
            replace q163 := eq_true q163
            have p164 : 0 ≤ (x8_1 : Int) := of_decide_eq_true (by first | (with_reducible assumption) | assumption)
            have q164 : x8_1 < (l0.length : Int) := of_decide_eq_true (by first | (with_reducible assumption) | assumption)
            obtain ⟨ad164, e164, hx164_0, hx164_1, hx164_2⟩ := at_T33 HR0.out x8_1 p164 q164
            obtain rfl : ad162 = ad164 := (by injection e164)
            replace hx164_0 := (HB.out.cell (World.block_lt_of_cell? w _ hx164_0)).trans hx164_0
            replace hx164_1 := (HB.out.cell (World.block_lt_of_cell? w _ hx164_1)).trans hx164_1
            replace hx164_2 := (HB.out.cell (World.block_lt_of_cell? w _ hx164_2)).trans hx164_2
            replace p164 := eq_true p164
            replace q164 := eq_true q164
            go_wp2_with (first | (go_at_call 18; (with_reducible refine (fuseeref07_Least.calls ((rd_T33 l0 x8_1).f0) ((rd_T33 l0 x8_1).f1) ((rd_T33 l0 x8_1).f2) t165 _ A6.out).mono ?_); rintro e w8 ⟨rfl, hb⟩; have n0_ := bs HB hb; clear HB; have HB := n0_; clear n0_; (try clear hb); (try clear hb2); (try clear hk); (try clear hi)))
            repeat (go_quiet (first | (go_at_call 18; (with_reducible refine (fuseeref07_Least.calls ((rd_T33 l0 x8_1).f0) ((rd_T33 l0 x8_1).f1) ((rd_T33 l0 x8_1).f2) t165 _ A6.out).mono ?_); rintro e w8 ⟨rfl, hb⟩; have n0_ := bs HB hb; clear HB; have HB := n0_; clear n0_; (try clear hb); (try clear hb2); (try clear hk); (try clear hi))); try go_wp2_with (first | (go_at_call 18; (with_reducible refine (fuseeref07_Least.calls ((rd_T33 l0 x8_1).f0) ((rd_T33 l0 x8_1).f1) ((rd_T33 l0 x8_1).f2) t165 _ A6.out).mono ?_); rintro e w8 ⟨rfl, hb⟩; have n0_ := bs HB hb; clear HB; have HB := n0_; clear n0_; (try clear hb); (try clear hb2); (try clear hk); (try clear hi))))
            go_roundg k1
            case measure => have := HK1.out; omega
            case rel => exact ⟨(wrap64 (x7_1 + (wrap64 (a2 * t165)))), (wrap64 (x8_1 + 1)), (by first | rfl | (simp; done) | (simp [*]; done)), (by first | rfl | (simp; done) | (simp [*]; done)), H', ⟨by have := HK1.out; omega⟩, ⟨by repeat (first | (with_reducible first | exact HB.out | apply below_alloc | apply pw_below_drewN | apply below_drew1) | exact HB.out)⟩⟩
          · rw [if_neg c7] at H
            have c7b0 : decide ((wrap64 ((wrap64 (a2 * ((rd_T33 l0 x8_1).f0))) - (wrap64 (a1 * ((rd_T33 l0 x8_1).f2))))) < (wrap64 (a2 * t165))) = false := decide_eq_false c7
            clear c7
            have H' := Aside0.mk H
            clear H
            have p162 : 0 ≤ (x8_1 : Int) := of_decide_eq_true (by first | (with_reducible assumption) | assumption)
            have q162 : x8_1 < (l0.length : Int) := of_decide_eq_true (by first | (with_reducible assumption) | assumption)
            obtain ⟨ad162, e162, hx162_0, hx162_1, hx162_2⟩ := at_T33 HR0.out x8_1 p162 q162
            cases e162
            replace hx162_0 := (HB.out.cell (World.block_lt_of_cell? w _ hx162_0)).trans hx162_0
            replace hx162_1 := (HB.out.cell (World.block_lt_of_cell? w _ hx162_1)).trans hx162_1
            replace hx162_2 := (HB.out.cell (World.block_lt_of_cell? w _ hx162_2)).trans hx162_2
            replace p162 := eq_true p162
            replace q162 := eq_true q162
            have p163 : 0 ≤ (x8_1 : Int) := of_decide_eq_true (by first | (with_reducible assumption) | assumption)
            have q163 : x8_1 < (l0.length : Int) := of_decide_eq_true (by first | (with_reducible assumption) | assumption)
            obtain ⟨ad163, e163, hx163_0, hx163_1, hx163_2⟩ := at_T33 HR0.out x8_1 p163 q163
            obtain rfl : ad162 = ad163 := (by injection e163)
            replace hx163_0 := (HB.out.cell (World.block_lt_of_cell? w _ hx163_0)).trans hx163_0
            replace hx163_1 := (HB.out.cell (World.block_lt_of_cell? w _ hx163_1)).trans hx163_1
            replace hx163_2 := (HB.out.cell (World.block_lt_of_cell? w _ hx163_2)).trans hx163_2
            replace p163 := eq_true p163
            replace q163 := eq_true q163
            have p164 : 0 ≤ (x8_1 : Int) := of_decide_eq_true (by first | (with_reducible assumption) | assumption)
            have q164 : x8_1 < (l0.length : Int) := of_decide_eq_true (by first | (with_reducible assumption) | assumption)
            obtain ⟨ad164, e164, hx164_0, hx164_1, hx164_2⟩ := at_T33 HR0.out x8_1 p164 q164
            obtain rfl : ad162 = ad164 := (by injection e164)
            replace hx164_0 := (HB.out.cell (World.block_lt_of_cell? w _ hx164_0)).trans hx164_0
            replace hx164_1 := (HB.out.cell (World.block_lt_of_cell? w _ hx164_1)).trans hx164_1
            replace hx164_2 := (HB.out.cell (World.block_lt_of_cell? w _ hx164_2)).trans hx164_2
            replace p164 := eq_true p164
            replace q164 := eq_true q164
            go_wp2_with (first | (go_at_call 18; (with_reducible refine (fuseeref07_Least.calls ((rd_T33 l0 x8_1).f0) ((rd_T33 l0 x8_1).f1) ((rd_T33 l0 x8_1).f2) t165 _ A6.out).mono ?_); rintro e w9 ⟨rfl, hb⟩; have n0_ := bs HB hb; clear HB; have HB := n0_; clear n0_; (try clear hb); (try clear hb2); (try clear hk); (try clear hi)))
            repeat (go_quiet (first | (go_at_call 18; (with_reducible refine (fuseeref07_Least.calls ((rd_T33 l0 x8_1).f0) ((rd_T33 l0 x8_1).f1) ((rd_T33 l0 x8_1).f2) t165 _ A6.out).mono ?_); rintro e w9 ⟨rfl, hb⟩; have n0_ := bs HB hb; clear HB; have HB := n0_; clear n0_; (try clear hb); (try clear hb2); (try clear hk); (try clear hi))); try go_wp2_with (first | (go_at_call 18; (with_reducible refine (fuseeref07_Least.calls ((rd_T33 l0 x8_1).f0) ((rd_T33 l0 x8_1).f1) ((rd_T33 l0 x8_1).f2) t165 _ A6.out).mono ?_); rintro e w9 ⟨rfl, hb⟩; have n0_ := bs HB hb; clear HB; have HB := n0_; clear n0_; (try clear hb); (try clear hb2); (try clear hk); (try clear hi))))
            go_roundg k1
            case measure => have := HK1.out; omega
            case rel => exact ⟨(wrap64 (x7_1 + (wrap64 ((wrap64 (a2 * ((rd_T33 l0 x8_1).f0))) - (wrap64 (a1 * ((rd_T33 l0 x8_1).f2))))))), (wrap64 (x8_1 + 1)), (by first | rfl | (simp; done) | (simp [*]; done)), (by first | rfl | (simp; done) | (simp [*]; done)), H', ⟨by have := HK1.out; omega⟩, ⟨by repeat (first | (with_reducible first | exact HB.out | apply below_alloc | apply pw_below_drewN | apply below_drew1) | exact HB.out)⟩⟩
        · rw [if_neg c5] at H
          exact absurd H (by simp)
      · rw [if_neg c4] at H
        have c4b0 : decide (x8_1 < (l0.length : Int)) = false := decide_eq_false c4
        clear c4
        obtain rfl := Option.some.inj H
        go_wp2
        repeat (go_quiet (fail); try go_wp2)
        go_ret
        exact ⟨by first | rfl | (simp [errW_none, errW_some] <;> rfl) | (simp [*, errW_none, errW_some] <;> rfl) | (exfalso; contradiction), by repeat (first | (with_reducible first | exact HB.out | apply below_alloc | apply pw_below_drewN | apply below_drew1) | exact HB.out)⟩

end Go.Proofs.Ytencdmcidhojgaa.P
