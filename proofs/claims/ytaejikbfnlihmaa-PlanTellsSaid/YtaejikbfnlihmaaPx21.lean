-- Written by a program of this session (hprint.py), out of the translation; functions that the print does not take are given by hand.
import Derived.Test.YtaejikbfnlihmaaPx0
import Derived.Test.YtaejikbfnlihmaaPx19
import Derived.Test.YtaejikbfnlihmaaPx20
namespace Go.Proofs.Ytaejikbfnlihmaa.P
open Go.RowKit Go.Proofs.YtaejikbfnlihmaaM Go.Proofs.YtaejikbfnlihmaaW.PrintWords Go.Proofs.YtaejikbfnlihmaaW.PrintLast Go.Proofs.YtaejikbfnlihmaaW.PrintMore
attribute [local go_sem] max2_int min2_int max_two min_two max_three min_three max_four min_four   -- for this text's walks alone
set_option linter.unusedVariables false
set_option linter.unusedSimpArgs false

/-! ### fuseeref07_Force: function 59 -/
mutual
def fuseeref07_Force.l0 : Nat → List (S53) → Int → Int → Int → Int → Option (Int × Int × Bool)
  | 0, _, _, _, _, _ => none
  | k + 1, x0, x1, x8, x9, x10 => if x10 < 16 then (fuseeref07_Force.l1 k x0 x1 x8 x9 x10 (wrap64 (-x1)) 0 x10 0) else (fuseeref07_Force.l2 k x8 x9 2)
def fuseeref07_Force.l1 : Nat → List (S53) → Int → Int → Int → Int → Int → Int → Int → Int → Option (Int × Int × Bool)
  | 0, _, _, _, _, _, _, _, _, _ => none
  | k + 1, x0, x1, x8, x9, x10, x11, x12, x13, x14 => if x14 < (x0.length : Int) then (if (Int.tmod x13 2) = 1 then (if 0 ≤ x14 then (fuseeref07_Force.l1 k x0 x1 x8 x9 x10 (wrap64 (x11 + ((rd_T53 x0 x14).f0))) (wrap64 (x12 + ((rd_T53 x0 x14).f2))) (wrap64 (Int.tdiv x13 2)) (wrap64 (x14 + 1))) else (none)) else (if 0 ≤ x14 then ((fuseeref07_Least.f ((rd_T53 x0 x14).f0) ((rd_T53 x0 x14).f1) ((rd_T53 x0 x14).f2)).bind fun t275 => (fuseeref07_Force.l1 k x0 x1 x8 x9 x10 (wrap64 (x11 + t275)) x12 (wrap64 (Int.tdiv x13 2)) (wrap64 (x14 + 1)))) else (none))) else (if x12 = 0 then (fuseeref07_Force.j2 k x0 x1 x8 x9 x10 x11 x12 true) else (if x11 < 0 then (fuseeref07_Force.j2 k x0 x1 x8 x9 x10 x11 x12 true) else ((fuseeref07_total.f k x0 x11 x12).bind fun t276 => (fuseeref07_Force.j2 k x0 x1 x8 x9 x10 x11 x12 (decide (t276 > (wrap64 (x12 * x1))))))))
def fuseeref07_Force.j2 : Nat → List (S53) → Int → Int → Int → Int → Int → Int → Bool → Option (Int × Int × Bool)
  | 0, _, _, _, _, _, _, _, _ => none
  | k + 1, x0, x1, x8, x9, x10, x11, x12, x79 => if x79 = true then (fuseeref07_Force.l0 k x0 x1 x8 x9 (wrap64 (x10 + 1))) else (if x9 = 0 then (fuseeref07_Force.l0 k x0 x1 x11 x12 (wrap64 (x10 + 1))) else (if (wrap64 (x11 * x9)) < (wrap64 (x8 * x12)) then (fuseeref07_Force.l0 k x0 x1 x11 x12 (wrap64 (x10 + 1))) else (fuseeref07_Force.l0 k x0 x1 x8 x9 (wrap64 (x10 + 1)))))
def fuseeref07_Force.l2 : Nat → Int → Int → Int → Option (Int × Int × Bool)
  | 0, _, _, _ => none
  | k + 1, x8, x9, x15 => if x15 ≤ 32 then (fuseeref07_Force.l3 k x8 x9 x15) else (some (x8, x9, true))
def fuseeref07_Force.l3 : Nat → Int → Int → Int → Option (Int × Int × Bool)
  | 0, _, _, _ => none
  | k + 1, x8, x9, x15 => if x15 = 0 then (none) else (if (Int.tmod x9 x15) = 0 then (if (Int.tmod x8 x15) = 0 then (fuseeref07_Force.l3 k (wrap64 (Int.tdiv x8 x15)) (wrap64 (Int.tdiv x9 x15)) x15) else (fuseeref07_Force.l2 k x8 x9 (wrap64 (x15 + 1)))) else (fuseeref07_Force.l2 k x8 x9 (wrap64 (x15 + 1))))
end
def fuseeref07_Force.f (k : Nat) (l0 : List (S53)) (a1 : Int) : Option (Int × Int × Bool) := (fuseeref07_Room.f k l0 a1).bind fun t270 => (if t270 = true then ((fuseeref07_total.f k l0 0 1).bind fun t271 => (if t271 ≤ a1 then (some (0, 1, true)) else (fuseeref07_Force.l0 k l0 a1 0 0 1))) else (some (0, 0, false)))
theorem fuseeref07_Force.mono_l : ∀ k, (∀ y0 y1 y2 y3 y4, LeO (fuseeref07_Force.l0 k y0 y1 y2 y3 y4) (fuseeref07_Force.l0 (k + 1) y0 y1 y2 y3 y4)) ∧ (∀ y0 y1 y2 y3 y4 y5 y6 y7 y8, LeO (fuseeref07_Force.l1 k y0 y1 y2 y3 y4 y5 y6 y7 y8) (fuseeref07_Force.l1 (k + 1) y0 y1 y2 y3 y4 y5 y6 y7 y8)) ∧ (∀ y0 y1 y2 y3 y4 y5 y6 y7, LeO (fuseeref07_Force.j2 k y0 y1 y2 y3 y4 y5 y6 y7) (fuseeref07_Force.j2 (k + 1) y0 y1 y2 y3 y4 y5 y6 y7)) ∧ (∀ y0 y1 y2, LeO (fuseeref07_Force.l2 k y0 y1 y2) (fuseeref07_Force.l2 (k + 1) y0 y1 y2)) ∧ (∀ y0 y1 y2, LeO (fuseeref07_Force.l3 k y0 y1 y2) (fuseeref07_Force.l3 (k + 1) y0 y1 y2))
  | 0 => ⟨fun _ _ _ _ _ r h => by simp [fuseeref07_Force.l0] at h, fun _ _ _ _ _ _ _ _ _ r h => by simp [fuseeref07_Force.l1] at h, fun _ _ _ _ _ _ _ _ r h => by simp [fuseeref07_Force.j2] at h, fun _ _ _ r h => by simp [fuseeref07_Force.l2] at h, fun _ _ _ r h => by simp [fuseeref07_Force.l3] at h⟩
  | k + 1 => by
    obtain ⟨ih0, ih1, ih2, ih3, ih4⟩ := fuseeref07_Force.mono_l k
    refine ⟨?_, ?_, ?_, ?_, ?_⟩
    · intro y0 y1 y2 y3 y4
      unfold fuseeref07_Force.l0
      repeat' first
      | (with_reducible exact ih0 _ _ _ _ _)
      | (with_reducible exact ih1 _ _ _ _ _ _ _ _ _)
      | (with_reducible exact ih2 _ _ _ _ _ _ _ _)
      | (with_reducible exact ih3 _ _ _)
      | (with_reducible exact ih4 _ _ _)
      | (with_reducible exact fuseeref07_Room.mono _ _ _)
      | (with_reducible exact fuseeref07_total.mono _ _ _ _)
      | (with_reducible exact LeO.refl _)
      | (with_reducible exact LeO.none _)
      | (with_reducible refine LeO.ite ?_ ?_)
      | (with_reducible refine LeO.bind ?_ (fun _ => ?_))
      | exact ih0 _ _ _ _ _
      | exact ih1 _ _ _ _ _ _ _ _ _
      | exact ih2 _ _ _ _ _ _ _ _
      | exact ih3 _ _ _
      | exact ih4 _ _ _
      | exact fuseeref07_Room.mono _ _ _
      | exact fuseeref07_total.mono _ _ _ _
      | exact LeO.none _
      | refine LeO.ite ?_ ?_
      | refine LeO.bind ?_ (fun _ => ?_)
    · intro y0 y1 y2 y3 y4 y5 y6 y7 y8
      unfold fuseeref07_Force.l1
      repeat' first
      | (with_reducible exact ih0 _ _ _ _ _)
      | (with_reducible exact ih1 _ _ _ _ _ _ _ _ _)
      | (with_reducible exact ih2 _ _ _ _ _ _ _ _)
      | (with_reducible exact ih3 _ _ _)
      | (with_reducible exact ih4 _ _ _)
      | (with_reducible exact fuseeref07_Room.mono _ _ _)
      | (with_reducible exact fuseeref07_total.mono _ _ _ _)
      | (with_reducible exact LeO.refl _)
      | (with_reducible exact LeO.none _)
      | (with_reducible refine LeO.ite ?_ ?_)
      | (with_reducible refine LeO.bind ?_ (fun _ => ?_))
      | exact ih0 _ _ _ _ _
      | exact ih1 _ _ _ _ _ _ _ _ _
      | exact ih2 _ _ _ _ _ _ _ _
      | exact ih3 _ _ _
      | exact ih4 _ _ _
      | exact fuseeref07_Room.mono _ _ _
      | exact fuseeref07_total.mono _ _ _ _
      | exact LeO.none _
      | refine LeO.ite ?_ ?_
      | refine LeO.bind ?_ (fun _ => ?_)
    · intro y0 y1 y2 y3 y4 y5 y6 y7
      unfold fuseeref07_Force.j2
      repeat' first
      | (with_reducible exact ih0 _ _ _ _ _)
      | (with_reducible exact ih1 _ _ _ _ _ _ _ _ _)
      | (with_reducible exact ih2 _ _ _ _ _ _ _ _)
      | (with_reducible exact ih3 _ _ _)
      | (with_reducible exact ih4 _ _ _)
      | (with_reducible exact fuseeref07_Room.mono _ _ _)
      | (with_reducible exact fuseeref07_total.mono _ _ _ _)
      | (with_reducible exact LeO.refl _)
      | (with_reducible exact LeO.none _)
      | (with_reducible refine LeO.ite ?_ ?_)
      | (with_reducible refine LeO.bind ?_ (fun _ => ?_))
      | exact ih0 _ _ _ _ _
      | exact ih1 _ _ _ _ _ _ _ _ _
      | exact ih2 _ _ _ _ _ _ _ _
      | exact ih3 _ _ _
      | exact ih4 _ _ _
      | exact fuseeref07_Room.mono _ _ _
      | exact fuseeref07_total.mono _ _ _ _
      | exact LeO.none _
      | refine LeO.ite ?_ ?_
      | refine LeO.bind ?_ (fun _ => ?_)
    · intro y0 y1 y2
      unfold fuseeref07_Force.l2
      repeat' first
      | (with_reducible exact ih0 _ _ _ _ _)
      | (with_reducible exact ih1 _ _ _ _ _ _ _ _ _)
      | (with_reducible exact ih2 _ _ _ _ _ _ _ _)
      | (with_reducible exact ih3 _ _ _)
      | (with_reducible exact ih4 _ _ _)
      | (with_reducible exact fuseeref07_Room.mono _ _ _)
      | (with_reducible exact fuseeref07_total.mono _ _ _ _)
      | (with_reducible exact LeO.refl _)
      | (with_reducible exact LeO.none _)
      | (with_reducible refine LeO.ite ?_ ?_)
      | (with_reducible refine LeO.bind ?_ (fun _ => ?_))
      | exact ih0 _ _ _ _ _
      | exact ih1 _ _ _ _ _ _ _ _ _
      | exact ih2 _ _ _ _ _ _ _ _
      | exact ih3 _ _ _
      | exact ih4 _ _ _
      | exact fuseeref07_Room.mono _ _ _
      | exact fuseeref07_total.mono _ _ _ _
      | exact LeO.none _
      | refine LeO.ite ?_ ?_
      | refine LeO.bind ?_ (fun _ => ?_)
    · intro y0 y1 y2
      unfold fuseeref07_Force.l3
      repeat' first
      | (with_reducible exact ih0 _ _ _ _ _)
      | (with_reducible exact ih1 _ _ _ _ _ _ _ _ _)
      | (with_reducible exact ih2 _ _ _ _ _ _ _ _)
      | (with_reducible exact ih3 _ _ _)
      | (with_reducible exact ih4 _ _ _)
      | (with_reducible exact fuseeref07_Room.mono _ _ _)
      | (with_reducible exact fuseeref07_total.mono _ _ _ _)
      | (with_reducible exact LeO.refl _)
      | (with_reducible exact LeO.none _)
      | (with_reducible refine LeO.ite ?_ ?_)
      | (with_reducible refine LeO.bind ?_ (fun _ => ?_))
      | exact ih0 _ _ _ _ _
      | exact ih1 _ _ _ _ _ _ _ _ _
      | exact ih2 _ _ _ _ _ _ _ _
      | exact ih3 _ _ _
      | exact ih4 _ _ _
      | exact fuseeref07_Room.mono _ _ _
      | exact fuseeref07_total.mono _ _ _ _
      | exact LeO.none _
      | refine LeO.ite ?_ ?_
      | refine LeO.bind ?_ (fun _ => ?_)
theorem fuseeref07_Force.mono : ∀ a0 a1 k, LeO (fuseeref07_Force.f k a0 a1) (fuseeref07_Force.f (k + 1) a0 a1) := by
  intro a0 a1 k
  obtain ⟨ih0, ih1, ih2, ih3, ih4⟩ := fuseeref07_Force.mono_l k
  unfold fuseeref07_Force.f
  repeat' first
      | (with_reducible exact ih0 _ _ _ _ _)
      | (with_reducible exact ih1 _ _ _ _ _ _ _ _ _)
      | (with_reducible exact ih2 _ _ _ _ _ _ _ _)
      | (with_reducible exact ih3 _ _ _)
      | (with_reducible exact ih4 _ _ _)
      | (with_reducible exact fuseeref07_Room.mono _ _ _)
      | (with_reducible exact fuseeref07_total.mono _ _ _ _)
      | (with_reducible exact LeO.refl _)
      | (with_reducible exact LeO.none _)
      | (with_reducible refine LeO.ite ?_ ?_)
      | (with_reducible refine LeO.bind ?_ (fun _ => ?_))
      | exact ih0 _ _ _ _ _
      | exact ih1 _ _ _ _ _ _ _ _ _
      | exact ih2 _ _ _ _ _ _ _ _
      | exact ih3 _ _ _
      | exact ih4 _ _ _
      | exact fuseeref07_Room.mono _ _ _
      | exact fuseeref07_total.mono _ _ _ _
      | exact LeO.none _
      | refine LeO.ite ?_ ?_
      | refine LeO.bind ?_ (fun _ => ?_)
set_option maxHeartbeats 64000000 in
set_option maxRecDepth 100000 in
theorem fuseeref07_Force.calls (k : Nat) (A0 : Option Addr) (c0 : Nat) (l0 : List (S53)) (a1 : Int) (r1 : Int) (r2 : Int) (r3 : Bool) (w : World) (hr0 : Kd.C k53 w A0 l0.length l0) (hc0 : l0.length ≤ c0) (h : fuseeref07_Force.f k l0 a1 = some (r1, r2, r3)) :
    Calls Try.prog 59 #[.slice A0 l0.length c0, .int .i64 a1] w fun e w' => e = .returned (.tuple #[.int .i64 r1, .int .i64 r2, .bool r3]) ∧ Below w.heap.size w w' := by
  have hu53 := Try.underlying53
  have HR0 := Aside0.mk hr0
  have HC0 := Aside0.mk hc0
  clear hr0 hc0
  have HB := Aside0.mk (Below.refl w.heap.size w)
  have H : ((fuseeref07_Room.f k l0 a1).bind fun t270 => (if t270 = true then ((fuseeref07_total.f k l0 0 1).bind fun t271 => (if t271 ≤ a1 then (some (0, 1, true)) else (fuseeref07_Force.l0 k l0 a1 0 0 1))) else (some (0, 0, false)))) = some (r1, r2, r3) := h
  clear h
  replace H := Option.bind_eq_some_iff.mp H
  obtain ⟨t270, A30, H⟩ := H
  try dsimp only at H
  have A3 := Aside0.mk A30
  clear A30
  by_cases c4 : t270 = true
  · subst c4
    rw [if_pos rfl] at H
    replace H := Option.bind_eq_some_iff.mp H
    obtain ⟨t271, A50, H⟩ := H
    try dsimp only at H
    have A5 := Aside0.mk A50
    clear A50
    by_cases c6 : t271 ≤ a1
    · rw [if_pos c6] at H
      have c6b0 : decide (t271 ≤ a1) = true := decide_eq_true c6
      clear c6
      simp only [Option.some.injEq, Prod.mk.injEq] at H
      obtain ⟨rfl, rfl, rfl⟩ := H
      go_enter Try.func59, Try.ntmps59
      go_wp2_with (first | ((with_reducible refine gate_callee (f := 83) rfl ?_); refine goesL_ (some 18) rfl rfl Try.func83 (by kernel_rfl) rfl #[.slice A0 l0.length c0, .int .i64 a1] rfl (by (try simp only [List.map_toArray, List.map_cons, List.map_nil]); first | done | rfl | (simp only [List.length_drop, List.length_take]; rfl)) ?_; (with_reducible refine (fuseeref07_Room.calls k _ _ l0 a1 true _ ?side1 ?side2 A3.out).mono ?_); (case side1 => repeat (first | exact HR0.out | (with_reducible refine Kd.C_alloc ?_ _) | (with_reducible refine Kd.C_drewN ?_ _) | (with_reducible refine Kd.C_drew ?_))); (case side2 => exact HC0.out); rintro e w7 ⟨rfl, hb⟩; refine ⟨_, rfl, ?_⟩; have n0_ := bs HB hb; clear HB; have HB := n0_; clear n0_; (try clear hb); (try clear hb2); (try clear hk); (try clear hi)) | ((with_reducible refine gate_callee (f := 84) rfl ?_); refine goesL_ (some 22) rfl rfl Try.func84 (by kernel_rfl) rfl #[.slice A0 l0.length c0, .int .i64 0, .int .i64 1] rfl (by (try simp only [List.map_toArray, List.map_cons, List.map_nil]); first | done | rfl | (simp only [List.length_drop, List.length_take]; rfl)) ?_; (with_reducible refine (fuseeref07_total.calls k _ _ l0 0 1 t271 _ ?side1 ?side2 A5.out).mono ?_); (case side1 => repeat (first | exact (Kd.C_below HR0.out HB.out) | (with_reducible refine Kd.C_alloc ?_ _) | (with_reducible refine Kd.C_drewN ?_ _) | (with_reducible refine Kd.C_drew ?_))); (case side2 => exact HC0.out); rintro e w8 ⟨rfl, hb⟩; refine ⟨_, rfl, ?_⟩; have n0_ := bs HB hb; clear HB; have HB := n0_; clear n0_; (try clear hb); (try clear hb2); (try clear hk); (try clear hi)))
      go_ret3
      exact ⟨by first | rfl | (simp [errW_none, errW_some] <;> rfl) | (simp [*, errW_none, errW_some] <;> rfl) | (exfalso; contradiction), by repeat (first | (with_reducible first | exact HB.out | apply below_alloc | apply pw_below_drewN | apply below_drew1) | exact HB.out)⟩
    · rw [if_neg c6] at H
      have c6b0 : decide (t271 ≤ a1) = false := decide_eq_false c6
      clear c6
      have H' := Aside0.mk H
      clear H
      go_enter Try.func59, Try.ntmps59
      go_wp2_with (first | ((with_reducible refine gate_callee (f := 83) rfl ?_); refine goesL_ (some 18) rfl rfl Try.func83 (by kernel_rfl) rfl #[.slice A0 l0.length c0, .int .i64 a1] rfl (by (try simp only [List.map_toArray, List.map_cons, List.map_nil]); first | done | rfl | (simp only [List.length_drop, List.length_take]; rfl)) ?_; (with_reducible refine (fuseeref07_Room.calls k _ _ l0 a1 true _ ?side1 ?side2 A3.out).mono ?_); (case side1 => repeat (first | exact HR0.out | (with_reducible refine Kd.C_alloc ?_ _) | (with_reducible refine Kd.C_drewN ?_ _) | (with_reducible refine Kd.C_drew ?_))); (case side2 => exact HC0.out); rintro e w9 ⟨rfl, hb⟩; refine ⟨_, rfl, ?_⟩; have n0_ := bs HB hb; clear HB; have HB := n0_; clear n0_; (try clear hb); (try clear hb2); (try clear hk); (try clear hi)) | ((with_reducible refine gate_callee (f := 84) rfl ?_); refine goesL_ (some 22) rfl rfl Try.func84 (by kernel_rfl) rfl #[.slice A0 l0.length c0, .int .i64 0, .int .i64 1] rfl (by (try simp only [List.map_toArray, List.map_cons, List.map_nil]); first | done | rfl | (simp only [List.length_drop, List.length_take]; rfl)) ?_; (with_reducible refine (fuseeref07_total.calls k _ _ l0 0 1 t271 _ ?side1 ?side2 A5.out).mono ?_); (case side1 => repeat (first | exact (Kd.C_below HR0.out HB.out) | (with_reducible refine Kd.C_alloc ?_ _) | (with_reducible refine Kd.C_drewN ?_ _) | (with_reducible refine Kd.C_drew ?_))); (case side2 => exact HC0.out); rintro e w10 ⟨rfl, hb⟩; refine ⟨_, rfl, ?_⟩; have n0_ := bs HB hb; clear HB; have HB := n0_; clear n0_; (try clear hb); (try clear hb2); (try clear hk); (try clear hi)))
      go_loopg [8, 9, 10] k (fun kq v8 v9 v10 w' => ∃ (x8_1 : Int) (x9_1 : Int) (x10_1 : Int), v8 = .int .i64 x8_1 ∧ v9 = .int .i64 x9_1 ∧ v10 = .int .i64 x10_1 ∧ Aside0 (fuseeref07_Force.l0 kq l0 a1 x8_1 x9_1 x10_1 = some (r1, r2, r3)) ∧ Aside0 (kq ≤ k) ∧ Aside0 (Below w.heap.size w w'))
      case atStart => exact ⟨(0), (0), (1), (by first | rfl | (simp; done) | (simp [*]; done)), (by first | rfl | (simp; done) | (simp [*]; done)), (by first | rfl | (simp; done) | (simp [*]; done)), H', ⟨Nat.le_refl _⟩, ⟨by repeat (first | (with_reducible first | exact HB.out | apply below_alloc | apply pw_below_drewN | apply below_drew1) | exact HB.out)⟩⟩
      case round =>
        clear H'
        try clear p2
        try clear c4
        try clear c5
        try clear c6
        try clear c6b0
        try clear c8
        obtain ⟨x8_1, x9_1, x10_1, rfl, rfl, rfl, HA, HK1, HB⟩ := hrel
        cases gk with
        | zero => exact absurd HA.out (by simp [fuseeref07_Force.l0])
        | succ k1 =>
          have H := HA.out
          clear HA
          simp only [fuseeref07_Force.l0] at H
          by_cases c11 : x10_1 < 16
          · rw [if_pos c11] at H
            have c11b0 : decide (x10_1 < 16) = true := decide_eq_true c11
            clear c11
            have H' := Aside0.mk H
            clear H
            go_wp2
            go_loopg [11, 12, 13, 14] k1 (fun kq v11 v12 v13 v14 w' => ∃ (x11_2 : Int) (x12_2 : Int) (x13_2 : Int) (x14_2 : Int), v11 = .int .i64 x11_2 ∧ v12 = .int .i64 x12_2 ∧ v13 = .int .i64 x13_2 ∧ v14 = .int .i64 x14_2 ∧ Aside0 (fuseeref07_Force.l1 kq l0 a1 x8_1 x9_1 x10_1 x11_2 x12_2 x13_2 x14_2 = some (r1, r2, r3)) ∧ Aside0 (kq ≤ k1) ∧ Aside0 (Below w.heap.size w w'))
            case atStart => exact ⟨(wrap64 (-a1)), (0), (x10_1), (0), (by first | rfl | (simp; done) | (simp [*]; done)), (by first | rfl | (simp; done) | (simp [*]; done)), (by first | rfl | (simp; done) | (simp [*]; done)), (by first | rfl | (simp; done) | (simp [*]; done)), H', ⟨Nat.le_refl _⟩, ⟨by repeat (first | (with_reducible first | exact HB.out | apply below_alloc | apply pw_below_drewN | apply below_drew1) | exact HB.out)⟩⟩
            case round =>
              clear H'
              try clear c1
              try clear p2
              try clear c4
              try clear c5
              try clear c6
              try clear c6b0
              try clear p6
              try clear c8
              try clear c11
              try clear c11b0
              try clear p2
              obtain ⟨x11_2, x12_2, x13_2, x14_2, rfl, rfl, rfl, rfl, HA, HK2, HB⟩ := hrel
              cases gk with
              | zero => exact absurd HA.out (by simp [fuseeref07_Force.l1])
              | succ k2 =>
                have H := HA.out
                clear HA
                simp only [fuseeref07_Force.l1] at H
                by_cases c12 : x14_2 < (l0.length : Int)
                · rw [if_pos c12] at H
                  have c12b0 : decide (x14_2 < (l0.length : Int)) = true := decide_eq_true c12
                  clear c12
                  by_cases c13 : (Int.tmod x13_2 2) = 1
                  · rw [if_pos c13] at H
                    have c13b0 : ((Int.tmod x13_2 2) == 1) = true := beq_iff_eq.mpr c13
                    have c13b1 : ((Int.tmod x13_2 2) != 1) = false := bne_eq_false_iff_eq.mpr c13
                    clear c13
                    by_cases c14 : 0 ≤ x14_2
                    · rw [if_pos c14] at H
                      have c14b0 : decide (0 ≤ x14_2) = true := decide_eq_true c14
                      clear c14
                      have H' := Aside0.mk H
                      clear H
                      have p272 : 0 ≤ (x14_2 : Int) := of_decide_eq_true (by first | (with_reducible assumption) | assumption)
                      have q272 : x14_2 < (l0.length : Int) := of_decide_eq_true (by first | (with_reducible assumption) | assumption)
                      obtain ⟨ad272, e272, hx272_0, hx272_1, hx272_2⟩ := at_T53 HR0.out x14_2 p272 q272
                      cases e272
                      replace hx272_0 := (HB.out.cell (World.block_lt_of_cell? w _ hx272_0)).trans hx272_0
                      replace hx272_1 := (HB.out.cell (World.block_lt_of_cell? w _ hx272_1)).trans hx272_1
                      replace hx272_2 := (HB.out.cell (World.block_lt_of_cell? w _ hx272_2)).trans hx272_2
                      replace p272 := eq_true p272
                      replace q272 := eq_true q272
                      have p273 : 0 ≤ (x14_2 : Int) := of_decide_eq_true (by first | (with_reducible assumption) | assumption)
                      have q273 : x14_2 < (l0.length : Int) := of_decide_eq_true (by first | (with_reducible assumption) | assumption)
                      obtain ⟨ad273, e273, hx273_0, hx273_1, hx273_2⟩ := at_T53 HR0.out x14_2 p273 q273
                      obtain rfl : ad272 = ad273 := (by injection e273)
                      replace hx273_0 := (HB.out.cell (World.block_lt_of_cell? w _ hx273_0)).trans hx273_0
                      replace hx273_1 := (HB.out.cell (World.block_lt_of_cell? w _ hx273_1)).trans hx273_1
                      replace hx273_2 := (HB.out.cell (World.block_lt_of_cell? w _ hx273_2)).trans hx273_2
                      replace p273 := eq_true p273
                      replace q273 := eq_true q273
                      go_wp2
                      go_roundg k2
                      case measure => have := HK1.out; have := HK2.out; omega
                      case rel => exact ⟨(wrap64 (x11_2 + ((rd_T53 l0 x14_2).f0))), (wrap64 (x12_2 + ((rd_T53 l0 x14_2).f2))), (wrap64 (Int.tdiv x13_2 2)), (wrap64 (x14_2 + 1)), (by first | rfl | (simp; done) | (simp [*]; done)), (by first | rfl | (simp; done) | (simp [*]; done)), (by first | rfl | (simp; done) | (simp [*]; done)), (by first | rfl | (simp; done) | (simp [*]; done)), H', ⟨by have := HK1.out; have := HK2.out; omega⟩, ⟨by repeat (first | (with_reducible first | exact HB.out | apply below_alloc | apply pw_below_drewN | apply below_drew1) | exact HB.out)⟩⟩
                    · rw [if_neg c14] at H
                      exact absurd H (by simp)
                  · rw [if_neg c13] at H
                    have c13b0 : ((Int.tmod x13_2 2) == 1) = false := beq_eq_false_iff_ne.mpr c13
                    have c13b1 : ((Int.tmod x13_2 2) != 1) = true := bne_iff_ne.mpr c13
                    by_cases c15 : 0 ≤ x14_2
                    · rw [if_pos c15] at H
                      have c15b0 : decide (0 ≤ x14_2) = true := decide_eq_true c15
                      clear c15
                      replace H := Option.bind_eq_some_iff.mp H
                      obtain ⟨t275, A160, H⟩ := H
                      try dsimp only at H
                      have A16 := Aside0.mk A160
                      clear A160
                      have H' := Aside0.mk H
                      clear H
                      have p274 : 0 ≤ (x14_2 : Int) := of_decide_eq_true (by first | (with_reducible assumption) | assumption)
                      have q274 : x14_2 < (l0.length : Int) := of_decide_eq_true (by first | (with_reducible assumption) | assumption)
                      obtain ⟨ad274, e274, hx274_0, hx274_1, hx274_2⟩ := at_T53 HR0.out x14_2 p274 q274
                      cases e274
                      replace hx274_0 := (HB.out.cell (World.block_lt_of_cell? w _ hx274_0)).trans hx274_0
                      replace hx274_1 := (HB.out.cell (World.block_lt_of_cell? w _ hx274_1)).trans hx274_1
                      replace hx274_2 := (HB.out.cell (World.block_lt_of_cell? w _ hx274_2)).trans hx274_2
                      replace p274 := eq_true p274
                      replace q274 := eq_true q274
                      go_wp2_with (first | ((with_reducible refine gate_callee (f := 60) rfl ?_); refine goesL_ (some 60) rfl rfl Try.func60 (by kernel_rfl) rfl #[.agg #[.int .i64 ((rd_T53 l0 x14_2).f0), .int .i64 ((rd_T53 l0 x14_2).f1), .int .i64 ((rd_T53 l0 x14_2).f2)]] rfl (by (try simp only [List.map_toArray, List.map_cons, List.map_nil]); first | done | rfl | (simp only [List.length_drop, List.length_take]; rfl)) ?_; (with_reducible refine (fuseeref07_Least.calls ((rd_T53 l0 x14_2).f0) ((rd_T53 l0 x14_2).f1) ((rd_T53 l0 x14_2).f2) t275 _ A16.out).mono ?_); rintro e w17 ⟨rfl, hb⟩; refine ⟨_, rfl, ?_⟩; have n0_ := bs HB hb; clear HB; have HB := n0_; clear n0_; (try clear hb); (try clear hb2); (try clear hk); (try clear hi)))
                      go_roundg k2
                      case measure => have := HK1.out; have := HK2.out; omega
                      case rel => exact ⟨(wrap64 (x11_2 + t275)), (x12_2), (wrap64 (Int.tdiv x13_2 2)), (wrap64 (x14_2 + 1)), (by first | rfl | (simp; done) | (simp [*]; done)), (by first | rfl | (simp; done) | (simp [*]; done)), (by first | rfl | (simp; done) | (simp [*]; done)), (by first | rfl | (simp; done) | (simp [*]; done)), H', ⟨by have := HK1.out; have := HK2.out; omega⟩, ⟨by repeat (first | (with_reducible first | exact HB.out | apply below_alloc | apply pw_below_drewN | apply below_drew1) | exact HB.out)⟩⟩
                    · rw [if_neg c15] at H
                      exact absurd H (by simp)
                · rw [if_neg c12] at H
                  have c12b0 : decide (x14_2 < (l0.length : Int)) = false := decide_eq_false c12
                  clear c12
                  have HC18 := Aside0.mk H
                  clear H
                  go_upto_region 22 with (fail)
                  go_cut [79] (fun v79 wc => ∃ (kq : Nat) (x79_17 : Bool), v79 = .bool x79_17 ∧ Aside0 (fuseeref07_Force.j2 kq l0 a1 x8_1 x9_1 x10_1 x11_2 x12_2 x79_17 = some (r1, r2, r3)) ∧ Aside0 (kq ≤ k2) ∧ Aside0 (Below w.heap.size w wc))
                  case first =>
                    have H := HC18.out
                    clear HC18
                    by_cases c19 : x12_2 = 0
                    · rw [if_pos c19] at H
                      have c19b0 : (x12_2 == 0) = true := beq_iff_eq.mpr c19
                      have c19b1 : (x12_2 != 0) = false := bne_eq_false_iff_eq.mpr c19
                      clear c19
                      (first | rw [c19b0] | (simp only [i64_w, i32_w]; rw [c19b0]) | skip)
                      have H' := Aside0.mk H
                      clear H
                      go_wp2
                      go_meet
                      case rel => exact ⟨_, (true), (by first | rfl | (simp; done) | (simp [*]; done)), H', ⟨by have := HK1.out; have := HK2.out; first | omega | exact Nat.le_refl _⟩, ⟨by repeat (first | (with_reducible first | exact HB.out | apply below_alloc | apply pw_below_drewN | apply below_drew1) | exact HB.out)⟩⟩
                    · rw [if_neg c19] at H
                      have c19b0 : (x12_2 == 0) = false := beq_eq_false_iff_ne.mpr c19
                      have c19b1 : (x12_2 != 0) = true := bne_iff_ne.mpr c19
                      (first | rw [c19b0] | (simp only [i64_w, i32_w]; rw [c19b0]) | skip)
                      by_cases c20 : x11_2 < 0
                      · rw [if_pos c20] at H
                        have c20b0 : decide (x11_2 < 0) = true := decide_eq_true c20
                        clear c20
                        have H' := Aside0.mk H
                        clear H
                        go_wp2
                        go_meet
                        case rel => exact ⟨_, (true), (by first | rfl | (simp; done) | (simp [*]; done)), H', ⟨by have := HK1.out; have := HK2.out; first | omega | exact Nat.le_refl _⟩, ⟨by repeat (first | (with_reducible first | exact HB.out | apply below_alloc | apply pw_below_drewN | apply below_drew1) | exact HB.out)⟩⟩
                      · rw [if_neg c20] at H
                        have c20b0 : decide (x11_2 < 0) = false := decide_eq_false c20
                        clear c20
                        replace H := Option.bind_eq_some_iff.mp H
                        obtain ⟨t276, A210, H⟩ := H
                        try dsimp only at H
                        have A21 := Aside0.mk A210
                        clear A210
                        have H' := Aside0.mk H
                        clear H
                        go_wp2_with (first | (go_at_call 84; (with_reducible refine (fuseeref07_total.calls k2 _ _ l0 x11_2 x12_2 t276 _ ?side1 ?side2 A21.out).mono ?_); (case side1 => repeat (first | exact (Kd.C_below HR0.out HB.out) | (with_reducible refine Kd.C_alloc ?_ _) | (with_reducible refine Kd.C_drewN ?_ _) | (with_reducible refine Kd.C_drew ?_))); (case side2 => exact HC0.out); rintro e w22 ⟨rfl, hb⟩; have n0_ := bs HB hb; clear HB; have HB := n0_; clear n0_; (try clear hb); (try clear hb2); (try clear hk); (try clear hi)))
                        go_meet
                        case rel => exact ⟨_, (decide (t276 > (wrap64 (x12_2 * a1)))), (by first | rfl | (simp; done) | (simp [*]; done)), H', ⟨by have := HK1.out; have := HK2.out; first | omega | exact Nat.le_refl _⟩, ⟨by repeat (first | (with_reducible first | exact HB.out | apply below_alloc | apply pw_below_drewN | apply below_drew1) | exact HB.out)⟩⟩
                  case rest =>
                    clear HC18
                    try clear c1
                    try clear c2
                    try clear p2
                    try clear q2
                    try clear hx2
                    try clear c4
                    try clear c5
                    try clear c6
                    try clear c6b0
                    try clear p6
                    try clear c8
                    try clear c11
                    try clear c11b0
                    try clear c12
                    try clear c12b0
                    try clear c13
                    try clear c13b0
                    try clear c13b1
                    try clear c14
                    try clear c14b0
                    try clear c15
                    try clear c15b0
                    try clear c19
                    try clear c19b0
                    try clear c19b1
                    try clear c20
                    try clear c20b0
                    try clear hx272_0
                    try clear hx272_1
                    try clear hx272_2
                    try clear hx273_0
                    try clear hx273_1
                    try clear hx273_2
                    try clear hx274_0
                    try clear hx274_1
                    try clear hx274_2
                    try clear p2
                    try clear p272
                    try clear p273
                    try clear p274
                    try clear p6
                    try clear q272
                    try clear q273
                    try clear q274
                    obtain ⟨kq, x79_17, rfl, HA, HJ17, HB⟩ := hcut
                    cases kq with
                    | zero => exact absurd HA.out (by simp [fuseeref07_Force.j2])
                    | succ kj17 =>
                      have H := HA.out
                      clear HA
                      simp only [fuseeref07_Force.j2] at H
                      by_cases c23 : x79_17 = true
                      · subst c23
                        rw [if_pos rfl] at H
                        have H' := Aside0.mk H
                        clear H
                        go_wp2
                        go_roundg kj17
                        case measure => have := HK1.out; have := HK2.out; have := HJ17.out; omega
                        case rel => exact ⟨(x8_1), (x9_1), (wrap64 (x10_1 + 1)), (by first | rfl | (simp; done) | (simp [*]; done)), (by first | rfl | (simp; done) | (simp [*]; done)), (by first | rfl | (simp; done) | (simp [*]; done)), H', ⟨by have := HK1.out; have := HK2.out; have := HJ17.out; omega⟩, ⟨by repeat (first | (with_reducible first | exact HB.out | apply below_alloc | apply pw_below_drewN | apply below_drew1) | exact HB.out)⟩⟩
                      · replace c23 := Bool.eq_false_iff.mpr c23
                        subst c23
                        rw [if_neg (show ¬ (false = true) by decide)] at H
                        by_cases c24 : x9_1 = 0
                        · rw [if_pos c24] at H
                          have c24b0 : (x9_1 == 0) = true := beq_iff_eq.mpr c24
                          have c24b1 : (x9_1 != 0) = false := bne_eq_false_iff_eq.mpr c24
                          clear c24
                          have H' := Aside0.mk H
                          clear H
                          go_wp2
                          go_roundg kj17
                          case measure => have := HK1.out; have := HK2.out; have := HJ17.out; omega
                          case rel => exact ⟨(x11_2), (x12_2), (wrap64 (x10_1 + 1)), (by first | rfl | (simp; done) | (simp [*]; done)), (by first | rfl | (simp; done) | (simp [*]; done)), (by first | rfl | (simp; done) | (simp [*]; done)), H', ⟨by have := HK1.out; have := HK2.out; have := HJ17.out; omega⟩, ⟨by repeat (first | (with_reducible first | exact HB.out | apply below_alloc | apply pw_below_drewN | apply below_drew1) | exact HB.out)⟩⟩
                        · rw [if_neg c24] at H
                          have c24b0 : (x9_1 == 0) = false := beq_eq_false_iff_ne.mpr c24
                          have c24b1 : (x9_1 != 0) = true := bne_iff_ne.mpr c24
                          by_cases c25 : (wrap64 (x11_2 * x9_1)) < (wrap64 (x8_1 * x12_2))
                          · rw [if_pos c25] at H
                            have c25b0 : decide ((wrap64 (x11_2 * x9_1)) < (wrap64 (x8_1 * x12_2))) = true := decide_eq_true c25
                            clear c25
                            have H' := Aside0.mk H
                            clear H
                            go_wp2
                            go_roundg kj17
                            case measure => have := HK1.out; have := HK2.out; have := HJ17.out; omega
                            case rel => exact ⟨(x11_2), (x12_2), (wrap64 (x10_1 + 1)), (by first | rfl | (simp; done) | (simp [*]; done)), (by first | rfl | (simp; done) | (simp [*]; done)), (by first | rfl | (simp; done) | (simp [*]; done)), H', ⟨by have := HK1.out; have := HK2.out; have := HJ17.out; omega⟩, ⟨by repeat (first | (with_reducible first | exact HB.out | apply below_alloc | apply pw_below_drewN | apply below_drew1) | exact HB.out)⟩⟩
                          · rw [if_neg c25] at H
                            have c25b0 : decide ((wrap64 (x11_2 * x9_1)) < (wrap64 (x8_1 * x12_2))) = false := decide_eq_false c25
                            clear c25
                            have H' := Aside0.mk H
                            clear H
                            go_wp2
                            go_roundg kj17
                            case measure => have := HK1.out; have := HK2.out; have := HJ17.out; omega
                            case rel => exact ⟨(x8_1), (x9_1), (wrap64 (x10_1 + 1)), (by first | rfl | (simp; done) | (simp [*]; done)), (by first | rfl | (simp; done) | (simp [*]; done)), (by first | rfl | (simp; done) | (simp [*]; done)), H', ⟨by have := HK1.out; have := HK2.out; have := HJ17.out; omega⟩, ⟨by repeat (first | (with_reducible first | exact HB.out | apply below_alloc | apply pw_below_drewN | apply below_drew1) | exact HB.out)⟩⟩
          · rw [if_neg c11] at H
            have c11b0 : decide (x10_1 < 16) = false := decide_eq_false c11
            clear c11
            have H' := Aside0.mk H
            clear H
            go_wp2
            go_loopg [8, 9, 15] k1 (fun kq v8 v9 v15 w' => ∃ (x8_2 : Int) (x9_2 : Int) (x15_2 : Int), v8 = .int .i64 x8_2 ∧ v9 = .int .i64 x9_2 ∧ v15 = .int .i64 x15_2 ∧ Aside0 (fuseeref07_Force.l2 kq x8_2 x9_2 x15_2 = some (r1, r2, r3)) ∧ Aside0 (kq ≤ k1) ∧ Aside0 (Below w.heap.size w w'))
            case atStart => exact ⟨(x8_1), (x9_1), (2), (by first | rfl | (simp; done) | (simp [*]; done)), (by first | rfl | (simp; done) | (simp [*]; done)), (by first | rfl | (simp; done) | (simp [*]; done)), H', ⟨Nat.le_refl _⟩, ⟨by repeat (first | (with_reducible first | exact HB.out | apply below_alloc | apply pw_below_drewN | apply below_drew1) | exact HB.out)⟩⟩
            case round =>
              clear H'
              try clear c1
              try clear c2
              try clear p2
              try clear q2
              try clear hx2
              try clear c4
              try clear c5
              try clear c6
              try clear c6b0
              try clear p6
              try clear c8
              try clear c11
              try clear c11b0
              try clear c12
              try clear c12b0
              try clear c13
              try clear c13b0
              try clear c13b1
              try clear c14
              try clear c14b0
              try clear c15
              try clear c15b0
              try clear c19
              try clear c19b0
              try clear c19b1
              try clear c20
              try clear c20b0
              try clear c23
              try clear c24
              try clear c24b0
              try clear c24b1
              try clear c25
              try clear c25b0
              try clear hx272_0
              try clear hx272_1
              try clear hx272_2
              try clear hx273_0
              try clear hx273_1
              try clear hx273_2
              try clear hx274_0
              try clear hx274_1
              try clear hx274_2
              try clear p2
              try clear p272
              try clear p273
              try clear p274
              try clear p6
              try clear q2
              try clear q272
              try clear q273
              try clear q274
              obtain ⟨x8_2, x9_2, x15_2, rfl, rfl, rfl, HA, HK2, HB⟩ := hrel
              cases gk with
              | zero => exact absurd HA.out (by simp [fuseeref07_Force.l2])
              | succ k2 =>
                have H := HA.out
                clear HA
                simp only [fuseeref07_Force.l2] at H
                by_cases c26 : x15_2 ≤ 32
                · rw [if_pos c26] at H
                  have c26b0 : decide (x15_2 ≤ 32) = true := decide_eq_true c26
                  clear c26
                  have H' := Aside0.mk H
                  clear H
                  go_wp2
                  go_loopg [8, 9] k2 (fun kq v8 v9 w' => ∃ (x8_3 : Int) (x9_3 : Int), v8 = .int .i64 x8_3 ∧ v9 = .int .i64 x9_3 ∧ Aside0 (fuseeref07_Force.l3 kq x8_3 x9_3 x15_2 = some (r1, r2, r3)) ∧ Aside0 (kq ≤ k2) ∧ Aside0 (Below w.heap.size w w'))
                  case atStart => exact ⟨(x8_2), (x9_2), (by first | rfl | (simp; done) | (simp [*]; done)), (by first | rfl | (simp; done) | (simp [*]; done)), H', ⟨Nat.le_refl _⟩, ⟨by repeat (first | (with_reducible first | exact HB.out | apply below_alloc | apply pw_below_drewN | apply below_drew1) | exact HB.out)⟩⟩
                  case round =>
                    clear H'
                    try clear c1
                    try clear c2
                    try clear p2
                    try clear q2
                    try clear hx2
                    try clear c4
                    try clear c5
                    try clear c6
                    try clear c6b0
                    try clear p6
                    try clear c8
                    try clear c11
                    try clear c11b0
                    try clear c12
                    try clear c12b0
                    try clear c13
                    try clear c13b0
                    try clear c13b1
                    try clear c14
                    try clear c14b0
                    try clear c15
                    try clear c15b0
                    try clear c19
                    try clear c19b0
                    try clear c19b1
                    try clear c20
                    try clear c20b0
                    try clear c23
                    try clear c24
                    try clear c24b0
                    try clear c24b1
                    try clear c25
                    try clear c25b0
                    try clear c26
                    try clear c26b0
                    try clear hx272_0
                    try clear hx272_1
                    try clear hx272_2
                    try clear hx273_0
                    try clear hx273_1
                    try clear hx273_2
                    try clear hx274_0
                    try clear hx274_1
                    try clear hx274_2
                    try clear p2
                    try clear p272
                    try clear p273
                    try clear p274
                    try clear p6
                    try clear q2
                    try clear q272
                    try clear q273
                    try clear q274
                    obtain ⟨x8_3, x9_3, rfl, rfl, HA, HK3, HB⟩ := hrel
                    cases gk with
                    | zero => exact absurd HA.out (by simp [fuseeref07_Force.l3])
                    | succ k3 =>
                      have H := HA.out
                      clear HA
                      simp only [fuseeref07_Force.l3] at H
                      by_cases c27 : x15_2 = 0
                      · rw [if_pos c27] at H
                        exact absurd H (by simp)
                      · rw [if_neg c27] at H
                        have c27b0 : (x15_2 == 0) = false := beq_eq_false_iff_ne.mpr c27
                        have c27b1 : (x15_2 != 0) = true := bne_iff_ne.mpr c27
                        by_cases c28 : (Int.tmod x9_3 x15_2) = 0
                        · rw [if_pos c28] at H
                          have c28b0 : ((Int.tmod x9_3 x15_2) == 0) = true := beq_iff_eq.mpr c28
                          have c28b1 : ((Int.tmod x9_3 x15_2) != 0) = false := bne_eq_false_iff_eq.mpr c28
                          clear c28
                          by_cases c29 : (Int.tmod x8_3 x15_2) = 0
                          · rw [if_pos c29] at H
                            have c29b0 : ((Int.tmod x8_3 x15_2) == 0) = true := beq_iff_eq.mpr c29
                            have c29b1 : ((Int.tmod x8_3 x15_2) != 0) = false := bne_eq_false_iff_eq.mpr c29
                            clear c29
                            have H' := Aside0.mk H
                            clear H
                            go_wp2
                            go_roundg k3
                            case measure => have := HK1.out; have := HK2.out; have := HK3.out; omega
                            case rel => exact ⟨(wrap64 (Int.tdiv x8_3 x15_2)), (wrap64 (Int.tdiv x9_3 x15_2)), (by first | rfl | (simp; done) | (simp [*]; done)), (by first | rfl | (simp; done) | (simp [*]; done)), H', ⟨by have := HK1.out; have := HK2.out; have := HK3.out; omega⟩, ⟨by repeat (first | (with_reducible first | exact HB.out | apply below_alloc | apply pw_below_drewN | apply below_drew1) | exact HB.out)⟩⟩
                          · rw [if_neg c29] at H
                            have c29b0 : ((Int.tmod x8_3 x15_2) == 0) = false := beq_eq_false_iff_ne.mpr c29
                            have c29b1 : ((Int.tmod x8_3 x15_2) != 0) = true := bne_iff_ne.mpr c29
                            have H' := Aside0.mk H
                            clear H
                            go_wp2
                            go_roundg k3
                            case measure => have := HK1.out; have := HK2.out; have := HK3.out; omega
                            case rel => exact ⟨(x8_3), (x9_3), (wrap64 (x15_2 + 1)), (by first | rfl | (simp; done) | (simp [*]; done)), (by first | rfl | (simp; done) | (simp [*]; done)), (by first | rfl | (simp; done) | (simp [*]; done)), H', ⟨by have := HK1.out; have := HK2.out; have := HK3.out; omega⟩, ⟨by repeat (first | (with_reducible first | exact HB.out | apply below_alloc | apply pw_below_drewN | apply below_drew1) | exact HB.out)⟩⟩
                        · rw [if_neg c28] at H
                          have c28b0 : ((Int.tmod x9_3 x15_2) == 0) = false := beq_eq_false_iff_ne.mpr c28
                          have c28b1 : ((Int.tmod x9_3 x15_2) != 0) = true := bne_iff_ne.mpr c28
                          have H' := Aside0.mk H
                          clear H
                          go_wp2
                          go_roundg k3
                          case measure => have := HK1.out; have := HK2.out; have := HK3.out; omega
                          case rel => exact ⟨(x8_3), (x9_3), (wrap64 (x15_2 + 1)), (by first | rfl | (simp; done) | (simp [*]; done)), (by first | rfl | (simp; done) | (simp [*]; done)), (by first | rfl | (simp; done) | (simp [*]; done)), H', ⟨by have := HK1.out; have := HK2.out; have := HK3.out; omega⟩, ⟨by repeat (first | (with_reducible first | exact HB.out | apply below_alloc | apply pw_below_drewN | apply below_drew1) | exact HB.out)⟩⟩
                · rw [if_neg c26] at H
                  have c26b0 : decide (x15_2 ≤ 32) = false := decide_eq_false c26
                  clear c26
                  simp only [Option.some.injEq, Prod.mk.injEq] at H
                  obtain ⟨rfl, rfl, rfl⟩ := H
                  go_wp2
                  go_ret3
                  exact ⟨by first | rfl | (simp [errW_none, errW_some] <;> rfl) | (simp [*, errW_none, errW_some] <;> rfl) | (exfalso; contradiction), by repeat (first | (with_reducible first | exact HB.out | apply below_alloc | apply pw_below_drewN | apply below_drew1) | exact HB.out)⟩
  · replace c4 := Bool.eq_false_iff.mpr c4
    subst c4
    rw [if_neg (show ¬ (false = true) by decide)] at H
    simp only [Option.some.injEq, Prod.mk.injEq] at H
    obtain ⟨rfl, rfl, rfl⟩ := H
    go_enter Try.func59, Try.ntmps59
    go_wp2_with (first | ((with_reducible refine gate_callee (f := 83) rfl ?_); refine goesL_ (some 18) rfl rfl Try.func83 (by kernel_rfl) rfl #[.slice A0 l0.length c0, .int .i64 a1] rfl (by (try simp only [List.map_toArray, List.map_cons, List.map_nil]); first | done | rfl | (simp only [List.length_drop, List.length_take]; rfl)) ?_; (with_reducible refine (fuseeref07_Room.calls k _ _ l0 a1 false _ ?side1 ?side2 A3.out).mono ?_); (case side1 => repeat (first | exact HR0.out | (with_reducible refine Kd.C_alloc ?_ _) | (with_reducible refine Kd.C_drewN ?_ _) | (with_reducible refine Kd.C_drew ?_))); (case side2 => exact HC0.out); rintro e w30 ⟨rfl, hb⟩; refine ⟨_, rfl, ?_⟩; have n0_ := bs HB hb; clear HB; have HB := n0_; clear n0_; (try clear hb); (try clear hb2); (try clear hk); (try clear hi)))
    go_ret3
    exact ⟨by first | rfl | (simp [errW_none, errW_some] <;> rfl) | (simp [*, errW_none, errW_some] <;> rfl) | (exfalso; contradiction), by repeat (first | (with_reducible first | exact HB.out | apply below_alloc | apply pw_below_drewN | apply below_drew1) | exact HB.out)⟩

end Go.Proofs.Ytaejikbfnlihmaa.P
