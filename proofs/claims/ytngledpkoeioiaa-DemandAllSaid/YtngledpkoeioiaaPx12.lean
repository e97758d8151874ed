-- Written by a program of this session (hprint.py), out of the translation; functions that the print does not take are given by hand.
import Derived.Test.YtngledpkoeioiaaPx0
import Derived.Test.YtngledpkoeioiaaPx11
namespace Go.Proofs.Ytngledpkoeioiaa.P
open Go.RowKit Go.Proofs.YtngledpkoeioiaaM Go.Proofs.YtngledpkoeioiaaW.PrintWords Go.Proofs.YtngledpkoeioiaaW.PrintLast Go.Proofs.YtngledpkoeioiaaW.PrintMore
attribute [local go_sem] max2_int min2_int max_two min_two max_three min_three max_four min_four   -- for this text's walks alone
set_option linter.unusedVariables false
set_option linter.unusedSimpArgs false

/-! ### fuseeref09_May: function 16 -/
def fuseeref09_May.l0 : Nat → List (S26) → Int → Int → Option (Bool)
  | 0, _, _, _ => none
  | k + 1, x0, x3, x4 => if x4 < (x0.length : Int) then (if 0 ≤ x4 then ((fuseeref09_may.f ((rd_T26 x0 x4).f0.f0) ((rd_T26 x0 x4).f0.f1) ((rd_T26 x0 x4).f0.f2) ((rd_T26 x0 x4).f0.f3) ((rd_T26 x0 x4).f0.f4) ((rd_T26 x0 x4).f0.f5) ((rd_T26 x0 x4).f1)).bind fun t262 => (if t262 = true then ((fuseeref06_At.f k ((rd_T26 x0 x4).f0.f0) ((rd_T26 x0 x4).f0.f1) ((rd_T26 x0 x4).f0.f2) ((rd_T26 x0 x4).f0.f3) ((rd_T26 x0 x4).f0.f4) ((rd_T26 x0 x4).f0.f5) ((rd_T26 x0 x4).f1)).bind fun t265 => (fuseeref09_May.l0 k x0 (wrap64 (x3 + t265)) (wrap64 (x4 + 1)))) else (some false))) else (none)) else (if (x0.length : Int) ≤ 4 then (some (decide (x3 ≤ 983040))) else (some false))
def fuseeref09_May.f (k : Nat) (l0 : List (S26)) : Option (Bool) := fuseeref09_May.l0 k l0 0 0
theorem fuseeref09_May.mono_l : ∀ k, (∀ y0 y1 y2, LeO (fuseeref09_May.l0 k y0 y1 y2) (fuseeref09_May.l0 (k + 1) y0 y1 y2))
  | 0 => fun _ _ _ r h => by simp [fuseeref09_May.l0] at h
  | k + 1 => by
    have ih0 := fuseeref09_May.mono_l k
    · intro y0 y1 y2
      unfold fuseeref09_May.l0
      repeat' first
      | (with_reducible exact ih0 _ _ _)
      | (with_reducible exact fuseeref06_At.mono _ _ _ _ _ _ _ _)
      | (with_reducible exact LeO.refl _)
      | (with_reducible exact LeO.none _)
      | (with_reducible refine LeO.ite ?_ ?_)
      | (with_reducible refine LeO.bind ?_ (fun _ => ?_))
      | exact ih0 _ _ _
      | exact fuseeref06_At.mono _ _ _ _ _ _ _ _
      | exact LeO.none _
      | refine LeO.ite ?_ ?_
      | refine LeO.bind ?_ (fun _ => ?_)
theorem fuseeref09_May.mono : ∀ a0 k, LeO (fuseeref09_May.f k a0) (fuseeref09_May.f (k + 1) a0) := by
  intro a0 k
  have ih0 := fuseeref09_May.mono_l k
  unfold fuseeref09_May.f
  repeat' first
      | (with_reducible exact ih0 _ _ _)
      | (with_reducible exact fuseeref06_At.mono _ _ _ _ _ _ _ _)
      | (with_reducible exact LeO.refl _)
      | (with_reducible exact LeO.none _)
      | (with_reducible refine LeO.ite ?_ ?_)
      | (with_reducible refine LeO.bind ?_ (fun _ => ?_))
      | exact ih0 _ _ _
      | exact fuseeref06_At.mono _ _ _ _ _ _ _ _
      | exact LeO.none _
      | refine LeO.ite ?_ ?_
      | refine LeO.bind ?_ (fun _ => ?_)
def fuseeref09_May.T8 : Bool × List (List Nat × List Nat) := (true, [([], []), ([], []), ([], []), ([1, 2], [1, 2]), ([3], [3]), ([4], [4]), ([], []), ([], []), ([6, 7], [6, 7]), ([8], [8]), ([9], [9]), ([5, 10], [5, 10]), ([0, 11], [0, 11]), ([12, 11, 0, 1, 2, 3, 4, 5, 6, 7, 8, 9, 10, 11, 12], [0, 12])])
def fuseeref09_May.B8 : List Nat := [0, 0, 0, 6, 14, 30, 0, 0, 192, 448, 960, 2046, 4095, 8191]
theorem fuseeref09_May.tab8 : rtab .any (opsOf Try.f16 8) = fuseeref09_May.T8 := by kernel_rfl
theorem fuseeref09_May.bits8 : waitsOk fuseeref09_May.T8.2 fuseeref09_May.B8 = true := by kernel_rfl
set_option maxHeartbeats 8000000 in
set_option maxRecDepth 100000 in
theorem fuseeref09_May.calls (k : Nat) (A0 : Option Addr) (c0 : Nat) (l0 : List (S26)) (r : Bool) (w : World) (hr0 : Kd.C k26 w A0 l0.length l0) (hc0 : l0.length ≤ c0) (h : fuseeref09_May.f k l0 = some r) :
    Calls Try.prog 16 #[.slice A0 l0.length c0] w fun e w' => e = .returned (.bool r) ∧ Below w.heap.size w w' := by
  have hu26 := Try.underlying26
  have hu24 := Try.underlying24
  have HR0 := Aside0.mk hr0
  have HC0 := Aside0.mk hc0
  clear hr0 hc0
  have HB := Aside0.mk (Below.refl w.heap.size w)
  have H : (fuseeref09_May.l0 k l0 0 0) = some r := h
  clear h
  have H' := Aside0.mk H
  clear H
  go_enter Try.func16, Try.ntmps16
  go_wp2
  go_loopg [3, 4] k (fun kq v3 v4 w' => ∃ (x3_1 : Int) (x4_1 : Int), v3 = .int .i64 x3_1 ∧ v4 = .int .i64 x4_1 ∧ Aside0 (fuseeref09_May.l0 kq l0 x3_1 x4_1 = some r) ∧ Aside0 (kq ≤ k) ∧ Aside0 (Below w.heap.size w w'))
  case atStart => exact ⟨(0), (0), (by first | rfl | (simp; done) | (simp [*]; done)), (by first | rfl | (simp; done) | (simp [*]; done)), H', ⟨Nat.le_refl _⟩, ⟨by repeat (first | (with_reducible first | exact HB.out | apply below_alloc | apply pw_below_drewN | apply below_drew1) | exact HB.out)⟩⟩
  case round =>
    clear H'
    try clear c1
    obtain ⟨x3_1, x4_1, rfl, rfl, HA, HK1, HB⟩ := hrel
    cases gk with
    | zero => exact absurd HA.out (by simp [fuseeref09_May.l0])
    | succ k1 =>
      have H := HA.out
      clear HA
      simp only [fuseeref09_May.l0] at H
      by_cases c2 : x4_1 < (l0.length : Int)
      · rw [if_pos c2] at H
        have c2b0 : decide (x4_1 < (l0.length : Int)) = true := decide_eq_true c2
        clear c2
        by_cases c3 : 0 ≤ x4_1
        · rw [if_pos c3] at H
          have c3b0 : decide (0 ≤ x4_1) = true := decide_eq_true c3
          clear c3
          replace H := Option.bind_eq_some_iff.mp H
          obtain ⟨t262, A40, H⟩ := H
          try dsimp only at H
          have A4 := Aside0.mk A40
          clear A40
          by_cases c5 : t262 = true
          · subst c5
            rw [if_pos rfl] at H
            replace H := Option.bind_eq_some_iff.mp H
            obtain ⟨t265, A60, H⟩ := H
            try dsimp only at H
            have A6 := Aside0.mk A60
            clear A60
            have H' := Aside0.mk H
            clear H
            have p261 : 0 ≤ (x4_1 : Int) := of_decide_eq_true (by first | (with_reducible assumption) | assumption)
            have q261 : x4_1 < (l0.length : Int) := of_decide_eq_true (by first | (with_reducible assumption) | assumption)
            obtain ⟨ad261, e261, hx261_0, hx261_1, hx261_2, hx261_3, hx261_4, hx261_5, hx261_6⟩ := at_T26 HR0.out x4_1 p261 q261
            cases e261
            replace hx261_0 := (HB.out.cell (World.block_lt_of_cell? w _ hx261_0)).trans hx261_0
            replace hx261_1 := (HB.out.cell (World.block_lt_of_cell? w _ hx261_1)).trans hx261_1
            replace hx261_2 := (HB.out.cell (World.block_lt_of_cell? w _ hx261_2)).trans hx261_2
            replace hx261_3 := (HB.out.cell (World.block_lt_of_cell? w _ hx261_3)).trans hx261_3
            replace hx261_4 := (HB.out.cell (World.block_lt_of_cell? w _ hx261_4)).trans hx261_4
            replace hx261_5 := (HB.out.cell (World.block_lt_of_cell? w _ hx261_5)).trans hx261_5
            replace hx261_6 := (HB.out.cell (World.block_lt_of_cell? w _ hx261_6)).trans hx261_6
            replace p261 := eq_true p261
            replace q261 := eq_true q261
            try go_wp2_with (first | ((with_reducible refine gate_callee (f := 31) rfl ?_); refine goesL_ (some 16) rfl rfl Try.func31 (by kernel_rfl) rfl #[.agg #[.int .i64 ((rd_T26 l0 x4_1).f0.f0), .int .i64 ((rd_T26 l0 x4_1).f0.f1), .int .i64 ((rd_T26 l0 x4_1).f0.f2), .int .i64 ((rd_T26 l0 x4_1).f0.f3), .int .i64 ((rd_T26 l0 x4_1).f0.f4), .int .i64 ((rd_T26 l0 x4_1).f0.f5), .int .i64 ((rd_T26 l0 x4_1).f1)]] rfl (by (try simp only [List.map_toArray, List.map_cons, List.map_nil]); first | done | rfl | (simp only [List.length_drop, List.length_take]; rfl)) ?_; (with_reducible refine (fuseeref09_may.calls ((rd_T26 l0 x4_1).f0.f0) ((rd_T26 l0 x4_1).f0.f1) ((rd_T26 l0 x4_1).f0.f2) ((rd_T26 l0 x4_1).f0.f3) ((rd_T26 l0 x4_1).f0.f4) ((rd_T26 l0 x4_1).f0.f5) ((rd_T26 l0 x4_1).f1) true _ A4.out).mono ?_); rintro e w7 ⟨rfl, hb⟩; refine ⟨_, rfl, ?_⟩; have n0_ := bs HB hb; clear HB; have HB := n0_; clear n0_; (try clear hb); (try clear hb2); (try clear hk); (try clear hi)))
            have n0_ := Aside0.mk (below_drew1 HB.out)
            clear HB
            have HB := n0_
            clear n0_
            have p263 : 0 ≤ (x4_1 : Int) := of_decide_eq_true (by first | (with_reducible assumption) | assumption)
            have q263 : x4_1 < (l0.length : Int) := of_decide_eq_true (by first | (with_reducible assumption) | assumption)
            obtain ⟨ad263, e263, hx263_0, hx263_1, hx263_2, hx263_3, hx263_4, hx263_5, hx263_6⟩ := at_T26 HR0.out x4_1 p263 q263
            have hw263_6 := hx263_6
            have hw263_5 := hx263_5
            have hw263_4 := hx263_4
            have hw263_3 := hx263_3
            have hw263_2 := hx263_2
            have hw263_1 := hx263_1
            have hw263_0 := hx263_0
            obtain rfl : ad261 = ad263 := (by injection e263)
            replace hx263_0 := (HB.out.cell (World.block_lt_of_cell? w _ hx263_0)).trans hx263_0
            replace hx263_1 := (HB.out.cell (World.block_lt_of_cell? w _ hx263_1)).trans hx263_1
            replace hx263_2 := (HB.out.cell (World.block_lt_of_cell? w _ hx263_2)).trans hx263_2
            replace hx263_3 := (HB.out.cell (World.block_lt_of_cell? w _ hx263_3)).trans hx263_3
            replace hx263_4 := (HB.out.cell (World.block_lt_of_cell? w _ hx263_4)).trans hx263_4
            replace hx263_5 := (HB.out.cell (World.block_lt_of_cell? w _ hx263_5)).trans hx263_5
            replace hx263_6 := (HB.out.cell (World.block_lt_of_cell? w _ hx263_6)).trans hx263_6
            replace p263 := eq_true p263
            replace q263 := eq_true q263
            have p264 : 0 ≤ (x4_1 : Int) := of_decide_eq_true (by first | (with_reducible assumption) | assumption)
            have q264 : x4_1 < (l0.length : Int) := of_decide_eq_true (by first | (with_reducible assumption) | assumption)
            obtain ⟨ad264, e264, hx264_0, hx264_1, hx264_2, hx264_3, hx264_4, hx264_5, hx264_6⟩ := at_T26 HR0.out x4_1 p264 q264
            have hw264_6 := hx264_6
            have hw264_5 := hx264_5
            have hw264_4 := hx264_4
            have hw264_3 := hx264_3
            have hw264_2 := hx264_2
            have hw264_1 := hx264_1
            have hw264_0 := hx264_0
            obtain rfl : ad261 = ad264 := (by injection e264)
            replace hx264_0 := (HB.out.cell (World.block_lt_of_cell? w _ hx264_0)).trans hx264_0
            replace hx264_1 := (HB.out.cell (World.block_lt_of_cell? w _ hx264_1)).trans hx264_1
            replace hx264_2 := (HB.out.cell (World.block_lt_of_cell? w _ hx264_2)).trans hx264_2
            replace hx264_3 := (HB.out.cell (World.block_lt_of_cell? w _ hx264_3)).trans hx264_3
            replace hx264_4 := (HB.out.cell (World.block_lt_of_cell? w _ hx264_4)).trans hx264_4
            replace hx264_5 := (HB.out.cell (World.block_lt_of_cell? w _ hx264_5)).trans hx264_5
            replace hx264_6 := (HB.out.cell (World.block_lt_of_cell? w _ hx264_6)).trans hx264_6
            replace p264 := eq_true p264
            replace q264 := eq_true q264
            refine start_ (n := 14) (S := fun w' => w'.cell? (ad261.add ((x4_1).toNat * 7)) = some (.int .i64 ((rd_T26 l0 x4_1).f0.f0)) ∧ w'.cell? ⟨(ad261.add ((x4_1).toNat * 7)).block, (ad261.add ((x4_1).toNat * 7)).off + 1, none⟩ = some (.int .i64 ((rd_T26 l0 x4_1).f0.f1)) ∧ w'.cell? ⟨(ad261.add ((x4_1).toNat * 7)).block, (ad261.add ((x4_1).toNat * 7)).off + 2, none⟩ = some (.int .i64 ((rd_T26 l0 x4_1).f0.f2)) ∧ w'.cell? ⟨(ad261.add ((x4_1).toNat * 7)).block, (ad261.add ((x4_1).toNat * 7)).off + 3, none⟩ = some (.int .i64 ((rd_T26 l0 x4_1).f0.f3)) ∧ w'.cell? ⟨(ad261.add ((x4_1).toNat * 7)).block, (ad261.add ((x4_1).toNat * 7)).off + 4, none⟩ = some (.int .i64 ((rd_T26 l0 x4_1).f0.f4)) ∧ w'.cell? ⟨(ad261.add ((x4_1).toNat * 7)).block, (ad261.add ((x4_1).toNat * 7)).off + 5, none⟩ = some (.int .i64 ((rd_T26 l0 x4_1).f0.f5)) ∧ w'.cell? ⟨(ad261.add ((x4_1).toNat * 7)).block, (ad261.add ((x4_1).toNat * 7)).off + 6, none⟩ = some (.int .i64 ((rd_T26 l0 x4_1).f1)) ∧ w'.cell? (ad261.add ((x4_1).toNat * 7)) = some (.int .i64 ((rd_T26 l0 x4_1).f0.f0)) ∧ w'.cell? ⟨(ad261.add ((x4_1).toNat * 7)).block, (ad261.add ((x4_1).toNat * 7)).off + 1, none⟩ = some (.int .i64 ((rd_T26 l0 x4_1).f0.f1)) ∧ w'.cell? ⟨(ad261.add ((x4_1).toNat * 7)).block, (ad261.add ((x4_1).toNat * 7)).off + 2, none⟩ = some (.int .i64 ((rd_T26 l0 x4_1).f0.f2)) ∧ w'.cell? ⟨(ad261.add ((x4_1).toNat * 7)).block, (ad261.add ((x4_1).toNat * 7)).off + 3, none⟩ = some (.int .i64 ((rd_T26 l0 x4_1).f0.f3)) ∧ w'.cell? ⟨(ad261.add ((x4_1).toNat * 7)).block, (ad261.add ((x4_1).toNat * 7)).off + 4, none⟩ = some (.int .i64 ((rd_T26 l0 x4_1).f0.f4)) ∧ w'.cell? ⟨(ad261.add ((x4_1).toNat * 7)).block, (ad261.add ((x4_1).toNat * 7)).off + 5, none⟩ = some (.int .i64 ((rd_T26 l0 x4_1).f0.f5)) ∧ w'.cell? ⟨(ad261.add ((x4_1).toNat * 7)).block, (ad261.add ((x4_1).toNat * 7)).off + 6, none⟩ = some (.int .i64 ((rd_T26 l0 x4_1).f1))) (ds := []) #[false, false, false, false, false, false, false, false, false, false, false, false, false, false] (by kernel_rfl) rfl rfl ⟨((HB.out.cell (World.block_lt_of_cell? w _ hw263_0)).trans hw263_0), ((HB.out.cell (World.block_lt_of_cell? w _ hw263_1)).trans hw263_1), ((HB.out.cell (World.block_lt_of_cell? w _ hw263_2)).trans hw263_2), ((HB.out.cell (World.block_lt_of_cell? w _ hw263_3)).trans hw263_3), ((HB.out.cell (World.block_lt_of_cell? w _ hw263_4)).trans hw263_4), ((HB.out.cell (World.block_lt_of_cell? w _ hw263_5)).trans hw263_5), ((HB.out.cell (World.block_lt_of_cell? w _ hw263_6)).trans hw263_6), ((HB.out.cell (World.block_lt_of_cell? w _ hw264_0)).trans hw264_0), ((HB.out.cell (World.block_lt_of_cell? w _ hw264_1)).trans hw264_1), ((HB.out.cell (World.block_lt_of_cell? w _ hw264_2)).trans hw264_2), ((HB.out.cell (World.block_lt_of_cell? w _ hw264_3)).trans hw264_3), ((HB.out.cell (World.block_lt_of_cell? w _ hw264_4)).trans hw264_4), ((HB.out.cell (World.block_lt_of_cell? w _ hw264_5)).trans hw264_5), ((HB.out.cell (World.block_lt_of_cell? w _ hw264_6)).trans hw264_6)⟩ (fun hHeld => ?_); refine with_tabW fuseeref09_May.tab8 fuseeref09_May.bits8 (fun HT_ HW_ => ?_)
            generalize w7.drew = w8 at HB hx263_0 hx263_1 hx263_2 hx263_3 hx263_4 hx263_5 hx263_6 hx264_0 hx264_1 hx264_2 hx264_3 hx264_4 hx264_5 hx264_6 hHeld ⊢
            refine pure_ (i := 0) (N := some 19) (v := ?_) (a' := ?_) #[true, false, false, false, false, false, false, false, false, false, false, false, false, false] rfl rfl (any_of HT_.out (by kernel_rfl)) (fun _ _ _ h => h) (Or.inl ⟨by rfl, ?_⟩) ?_ ?_
            rotate_left; focus (intro w'; go_simp; with_reducible rfl)
            rotate_left; focus (simp only [Act.put, List.setIfInBounds_toArray, List.set_cons_zero, List.set_cons_succ, i64_w, i32_w]; rfl)
            refine pure_ (i := 1) (N := some 20) (v := ?_) (a' := ?_) #[true, true, false, false, false, false, false, false, false, false, false, false, false, false] rfl rfl (any_of HT_.out (by kernel_rfl)) (fun _ _ _ h => h) (Or.inl ⟨by rfl, ?_⟩) ?_ ?_
            rotate_left; focus (intro w'; go_simp; with_reducible rfl)
            rotate_left; focus (simp only [Act.put, List.setIfInBounds_toArray, List.set_cons_zero, List.set_cons_succ, i64_w, i32_w]; rfl)
            refine pure_ (i := 2) (N := some 21) (v := ?_) (a' := ?_) #[true, true, true, false, false, false, false, false, false, false, false, false, false, false] rfl rfl (any_of HT_.out (by kernel_rfl)) (fun _ _ _ h => h) (Or.inl ⟨by rfl, ?_⟩) ?_ ?_
            rotate_left; focus (intro w'; go_simp; with_reducible rfl)
            rotate_left; focus (simp only [Act.put, List.setIfInBounds_toArray, List.set_cons_zero, List.set_cons_succ, i64_w, i32_w]; rfl)
            refine pure_ (i := 3) (N := some 22) (v := ?_) (a' := ?_) #[true, true, true, true, false, false, false, false, false, false, false, false, false, false] rfl rfl (any_of HT_.out (by kernel_rfl)) (fun _ _ _ h => h) (Or.inl ⟨by rfl, ?_⟩) ?_ ?_
            rotate_left; focus (intro w'; go_simp; with_reducible rfl)
            rotate_left; focus (simp only [Act.put, List.setIfInBounds_toArray, List.set_cons_zero, List.set_cons_succ, i64_w, i32_w]; rfl)
            refine pure_ (i := 4) (N := some 23) (v := ?_) (a' := ?_) #[true, true, true, true, true, false, false, false, false, false, false, false, false, false] rfl rfl (any_of HT_.out (by kernel_rfl)) (fun _ _ _ h => h) (Or.inl ⟨by rfl, ?_⟩) ?_ ?_
            rotate_left; focus (intro w'; go_simp; with_reducible rfl)
            rotate_left; focus (simp only [Act.put, List.setIfInBounds_toArray, List.set_cons_zero, List.set_cons_succ, i64_w, i32_w]; rfl)
            refine pure_ (i := 6) (N := some 25) (v := ?_) (a' := ?_) #[true, true, true, true, true, false, true, false, false, false, false, false, false, false] rfl rfl (any_of HT_.out (by kernel_rfl)) (fun _ _ _ h => h) (Or.inl ⟨by rfl, ?_⟩) ?_ ?_
            rotate_left; focus (intro w'; go_simp; with_reducible rfl)
            rotate_left; focus (simp only [Act.put, List.setIfInBounds_toArray, List.set_cons_zero, List.set_cons_succ, i64_w, i32_w]; rfl)
            refine pure_ (i := 7) (N := some 26) (v := ?_) (a' := ?_) #[true, true, true, true, true, false, true, true, false, false, false, false, false, false] rfl rfl (any_of HT_.out (by kernel_rfl)) (fun _ _ _ h => h) (Or.inl ⟨by rfl, ?_⟩) ?_ ?_
            rotate_left; focus (intro w'; go_simp; with_reducible rfl)
            rotate_left; focus (simp only [Act.put, List.setIfInBounds_toArray, List.set_cons_zero, List.set_cons_succ, i64_w, i32_w]; rfl)
            refine pure_ (i := 8) (N := some 27) (v := ?_) (a' := ?_) #[true, true, true, true, true, false, true, true, true, false, false, false, false, false] rfl rfl (any_of HT_.out (by kernel_rfl)) (fun _ _ _ h => h) (Or.inl ⟨by rfl, ?_⟩) ?_ ?_
            rotate_left; focus (intro w'; go_simp; with_reducible rfl)
            rotate_left; focus (simp only [Act.put, List.setIfInBounds_toArray, List.set_cons_zero, List.set_cons_succ, i64_w, i32_w]; rfl)
            refine pure_ (i := 9) (N := some 28) (v := ?_) (a' := ?_) #[true, true, true, true, true, false, true, true, true, true, false, false, false, false] rfl rfl (any_of HT_.out (by kernel_rfl)) (fun _ _ _ h => h) (Or.inl ⟨by rfl, ?_⟩) ?_ ?_
            rotate_left; focus (intro w'; go_simp; with_reducible rfl)
            rotate_left; focus (simp only [Act.put, List.setIfInBounds_toArray, List.set_cons_zero, List.set_cons_succ, i64_w, i32_w]; rfl)
            refine take_ (i := 5) (N := some 24) (v := ?_) (a' := ?_) #[true, true, true, true, true, true, true, true, true, true, false, false, false, false] rfl rfl (take_ofW HT_.out HW_.out (by kernel_rfl)) (fun _ _ _ h => h) (Or.inl ⟨by rfl, ?_⟩) hHeld ?_ ?_
            rotate_left
            · rintro w' ⟨s0, s1, s2, s3, s4, s5, s6, s7, s8, s9, s10, s11, s12, s13⟩
              go_simp
              with_reducible rfl
            rotate_left; focus (simp only [Act.put, List.setIfInBounds_toArray, List.set_cons_zero, List.set_cons_succ, i64_w, i32_w]; rfl)
            refine take_ (i := 10) (N := some 29) (v := ?_) (a' := ?_) #[true, true, true, true, true, true, true, true, true, true, true, false, false, false] rfl rfl (take_ofW HT_.out HW_.out (by kernel_rfl)) (fun _ _ _ h => h) (Or.inl ⟨by rfl, ?_⟩) hHeld ?_ ?_
            rotate_left
            · rintro w' ⟨s0, s1, s2, s3, s4, s5, s6, s7, s8, s9, s10, s11, s12, s13⟩
              go_simp
              with_reducible rfl
            rotate_left; focus (simp only [Act.put, List.setIfInBounds_toArray, List.set_cons_zero, List.set_cons_succ, i64_w, i32_w]; rfl)
            refine one_ (i := 11) (N := some 30) #[true, true, true, true, true, true, true, true, true, true, true, true, false, false] rfl rfl (one_of HT_.out (by kernel_rfl)) (by decide) (fun K hK => ?_)
            refine goes_ Try.func32 (by kernel_rfl) rfl #[.agg #[.int .i64 ((rd_T26 l0 x4_1).f0.f0), .int .i64 ((rd_T26 l0 x4_1).f0.f1), .int .i64 ((rd_T26 l0 x4_1).f0.f2), .int .i64 ((rd_T26 l0 x4_1).f0.f3), .int .i64 ((rd_T26 l0 x4_1).f0.f4), .int .i64 ((rd_T26 l0 x4_1).f0.f5)], .int .i64 ((rd_T26 l0 x4_1).f1)] (by rfl) rfl rfl (by (try simp only [List.map_toArray, List.map_cons, List.map_nil]); first | done | rfl | (simp only [List.length_drop, List.length_take]; rfl)) ?_
            with_reducible refine (fuseeref06_At.calls k1 ((rd_T26 l0 x4_1).f0.f0) ((rd_T26 l0 x4_1).f0.f1) ((rd_T26 l0 x4_1).f0.f2) ((rd_T26 l0 x4_1).f0.f3) ((rd_T26 l0 x4_1).f0.f4) ((rd_T26 l0 x4_1).f0.f5) ((rd_T26 l0 x4_1).f1) t265 _ A6.out).mono ?_
            rintro e w9 ⟨rfl, hb⟩
            refine ⟨_, rfl, ?_⟩
            have n0_ := bs HB hb
            clear HB
            have HB := n0_
            clear n0_
            (try clear hb)
            (try clear hb2)
            (try clear hk)
            (try clear hi)
            refine hK.out _ _ ⟨((HB.out.cell (World.block_lt_of_cell? w _ hw263_0)).trans hw263_0), ((HB.out.cell (World.block_lt_of_cell? w _ hw263_1)).trans hw263_1), ((HB.out.cell (World.block_lt_of_cell? w _ hw263_2)).trans hw263_2), ((HB.out.cell (World.block_lt_of_cell? w _ hw263_3)).trans hw263_3), ((HB.out.cell (World.block_lt_of_cell? w _ hw263_4)).trans hw263_4), ((HB.out.cell (World.block_lt_of_cell? w _ hw263_5)).trans hw263_5), ((HB.out.cell (World.block_lt_of_cell? w _ hw263_6)).trans hw263_6), ((HB.out.cell (World.block_lt_of_cell? w _ hw264_0)).trans hw264_0), ((HB.out.cell (World.block_lt_of_cell? w _ hw264_1)).trans hw264_1), ((HB.out.cell (World.block_lt_of_cell? w _ hw264_2)).trans hw264_2), ((HB.out.cell (World.block_lt_of_cell? w _ hw264_3)).trans hw264_3), ((HB.out.cell (World.block_lt_of_cell? w _ hw264_4)).trans hw264_4), ((HB.out.cell (World.block_lt_of_cell? w _ hw264_5)).trans hw264_5), ((HB.out.cell (World.block_lt_of_cell? w _ hw264_6)).trans hw264_6)⟩ (fun hHeld => ?_)
            clear hK K
            refine norm_ (a' := ?_) ?_ ?_
            rotate_left
            · show Act.put _ (some 30) _ = _
              simp only [Act.put, List.setIfInBounds_toArray, List.set_cons_zero, List.set_cons_succ, i64_w, i32_w]
              rfl
            refine pure_ (i := 12) (N := some 31) (v := ?_) (a' := ?_) #[true, true, true, true, true, true, true, true, true, true, true, true, true, false] rfl rfl (any_of HT_.out (by kernel_rfl)) (fun _ _ _ h => h) (Or.inl ⟨by rfl, ?_⟩) ?_ ?_
            rotate_left; focus (intro w'; go_simp; with_reducible rfl)
            rotate_left; focus (simp only [Act.put, List.setIfInBounds_toArray, List.set_cons_zero, List.set_cons_succ, i64_w, i32_w]; rfl)
            refine pure_ (i := 13) (N := some 3) (v := ?_) (a' := ?_) #[true, true, true, true, true, true, true, true, true, true, true, true, true, true] rfl rfl (any_of HT_.out (by kernel_rfl)) (fun _ _ _ h => h) (Or.inl ⟨by rfl, ?_⟩) ?_ ?_
            rotate_left; focus (intro w'; go_simp; with_reducible rfl)
            rotate_left; focus (simp only [Act.put, List.setIfInBounds_toArray, List.set_cons_zero, List.set_cons_succ, i64_w, i32_w]; rfl)
            refine done_ (done_of HT_.out (by kernel_rfl)) ?_
            try go_wp2
            go_roundg k1
            case measure => have := HK1.out; omega
            case rel => exact ⟨(wrap64 (x3_1 + t265)), (wrap64 (x4_1 + 1)), (by first | rfl | (simp; done) | (simp [*]; done)), (by first | rfl | (simp; done) | (simp [*]; done)), H', ⟨by have := HK1.out; omega⟩, ⟨by repeat (first | (with_reducible first | exact HB.out | apply below_alloc | apply pw_below_drewN | apply below_drew1) | exact HB.out)⟩⟩
          · replace c5 := Bool.eq_false_iff.mpr c5
            subst c5
            rw [if_neg (show ¬ (false = true) by decide)] at H
            obtain rfl := Option.some.inj H
            have p261 : 0 ≤ (x4_1 : Int) := of_decide_eq_true (by first | (with_reducible assumption) | assumption)
            have q261 : x4_1 < (l0.length : Int) := of_decide_eq_true (by first | (with_reducible assumption) | assumption)
            obtain ⟨ad261, e261, hx261_0, hx261_1, hx261_2, hx261_3, hx261_4, hx261_5, hx261_6⟩ := at_T26 HR0.out x4_1 p261 q261
            cases e261
            replace hx261_0 := (HB.out.cell (World.block_lt_of_cell? w _ hx261_0)).trans hx261_0
            replace hx261_1 := (HB.out.cell (World.block_lt_of_cell? w _ hx261_1)).trans hx261_1
            replace hx261_2 := (HB.out.cell (World.block_lt_of_cell? w _ hx261_2)).trans hx261_2
            replace hx261_3 := (HB.out.cell (World.block_lt_of_cell? w _ hx261_3)).trans hx261_3
            replace hx261_4 := (HB.out.cell (World.block_lt_of_cell? w _ hx261_4)).trans hx261_4
            replace hx261_5 := (HB.out.cell (World.block_lt_of_cell? w _ hx261_5)).trans hx261_5
            replace hx261_6 := (HB.out.cell (World.block_lt_of_cell? w _ hx261_6)).trans hx261_6
            replace p261 := eq_true p261
            replace q261 := eq_true q261
            go_wp2_with (first | ((with_reducible refine gate_callee (f := 31) rfl ?_); refine goesL_ (some 16) rfl rfl Try.func31 (by kernel_rfl) rfl #[.agg #[.int .i64 ((rd_T26 l0 x4_1).f0.f0), .int .i64 ((rd_T26 l0 x4_1).f0.f1), .int .i64 ((rd_T26 l0 x4_1).f0.f2), .int .i64 ((rd_T26 l0 x4_1).f0.f3), .int .i64 ((rd_T26 l0 x4_1).f0.f4), .int .i64 ((rd_T26 l0 x4_1).f0.f5), .int .i64 ((rd_T26 l0 x4_1).f1)]] rfl (by (try simp only [List.map_toArray, List.map_cons, List.map_nil]); first | done | rfl | (simp only [List.length_drop, List.length_take]; rfl)) ?_; (with_reducible refine (fuseeref09_may.calls ((rd_T26 l0 x4_1).f0.f0) ((rd_T26 l0 x4_1).f0.f1) ((rd_T26 l0 x4_1).f0.f2) ((rd_T26 l0 x4_1).f0.f3) ((rd_T26 l0 x4_1).f0.f4) ((rd_T26 l0 x4_1).f0.f5) ((rd_T26 l0 x4_1).f1) false _ A4.out).mono ?_); rintro e w10 ⟨rfl, hb⟩; refine ⟨_, rfl, ?_⟩; have n0_ := bs HB hb; clear HB; have HB := n0_; clear n0_; (try clear hb); (try clear hb2); (try clear hk); (try clear hi)))
            go_ret
            exact ⟨by first | rfl | (simp [errW_none, errW_some] <;> rfl) | (simp [*, errW_none, errW_some] <;> rfl) | (exfalso; contradiction), by repeat (first | (with_reducible first | exact HB.out | apply below_alloc | apply pw_below_drewN | apply below_drew1) | exact HB.out)⟩
        · rw [if_neg c3] at H
          exact absurd H (by simp)
      · rw [if_neg c2] at H
        have c2b0 : decide (x4_1 < (l0.length : Int)) = false := decide_eq_false c2
        clear c2
        by_cases c11 : (l0.length : Int) ≤ 4
        · rw [if_pos c11] at H
          have c11b0 : decide ((l0.length : Int) ≤ 4) = true := decide_eq_true c11
          have c11b1 : decide (l0.length ≤ 4) = true := decide_eq_true (by omega)
          clear c11
          obtain rfl := Option.some.inj H
          go_wp2
          go_ret
          exact ⟨by first | rfl | (simp [errW_none, errW_some] <;> rfl) | (simp [*, errW_none, errW_some] <;> rfl) | (exfalso; contradiction), by repeat (first | (with_reducible first | exact HB.out | apply below_alloc | apply pw_below_drewN | apply below_drew1) | exact HB.out)⟩
        · rw [if_neg c11] at H
          have c11b0 : decide ((l0.length : Int) ≤ 4) = false := decide_eq_false c11
          have c11b1 : decide (l0.length ≤ 4) = false := decide_eq_false (by omega)
          clear c11
          obtain rfl := Option.some.inj H
          go_wp2
          go_ret
          exact ⟨by first | rfl | (simp [errW_none, errW_some] <;> rfl) | (simp [*, errW_none, errW_some] <;> rfl) | (exfalso; contradiction), by repeat (first | (with_reducible first | exact HB.out | apply below_alloc | apply pw_below_drewN | apply below_drew1) | exact HB.out)⟩

/-! ### fuseeref02_in: function 44 -/
def fuseeref02_in.f (a0 : Int) : Option (Bool) := if a0 ≥ 0 then (some (decide (a0 ≤ 1099511627776))) else (some false)
set_option maxHeartbeats 8000000 in
set_option maxRecDepth 100000 in
theorem fuseeref02_in.calls (a0 : Int) (r : Bool) (w : World) (h : fuseeref02_in.f a0 = some r) :
    Calls Try.prog 44 #[.int .i64 a0] w fun e w' => e = .returned (.bool r) ∧ Drawn0 w w' := by
  have H : (if a0 ≥ 0 then (some (decide (a0 ≤ 1099511627776))) else (some false)) = some r := h
  clear h
  by_cases c2 : a0 ≥ 0
  · rw [if_pos c2] at H
    have c2b0 : decide (0 ≤ a0) = true := decide_eq_true c2
    clear c2
    obtain rfl := Option.some.inj H
    go_enter Try.func44, Try.ntmps44
    go_wp2
    go_ret
    exact ⟨by first | rfl | (simp; done) | (simp [*]; done) | (exfalso; contradiction), by repeat (first | exact Drawn0.refl _ | apply Drawn0.step)⟩
  · rw [if_neg c2] at H
    have c2b0 : decide (0 ≤ a0) = false := decide_eq_false c2
    clear c2
    obtain rfl := Option.some.inj H
    go_enter Try.func44, Try.ntmps44
    go_wp2
    go_ret
    exact ⟨by first | rfl | (simp; done) | (simp [*]; done) | (exfalso; contradiction), by repeat (first | exact Drawn0.refl _ | apply Drawn0.step)⟩

/-! ### fuseeref02_Most: function 33 -/
def fuseeref02_Most.j0 : Nat → Int → Int → Int → Bool → Option (Int)
  | 0, _, _, _, _ => none
  | k + 1, x0, x1, x2, x20 => if x20 = true then (some 0) else (if x1 = 0 then (none) else (if (wrap64 ((wrap64 (Int.tdiv (wrap64 (x2 * x0)) x1)) * x1)) < (wrap64 (x2 * x0)) then (some (wrap64 ((wrap64 (Int.tdiv (wrap64 (x2 * x0)) x1)) + 1))) else (some (wrap64 (Int.tdiv (wrap64 (x2 * x0)) x1)))))
def fuseeref02_Most.f (k : Nat) (a0 : Int) (a1 : Int) (a2 : Int) : Option (Int) := (fuseeref02_May.f a0 a1).bind fun t266 => ((fuseeref02_in.f a2).bind fun t267 => (if t266 = true then (fuseeref02_Most.j0 k a0 a1 a2 (!t267)) else (fuseeref02_Most.j0 k a0 a1 a2 true)))
theorem fuseeref02_Most.mono_l : ∀ k, (∀ y0 y1 y2 y3, LeO (fuseeref02_Most.j0 k y0 y1 y2 y3) (fuseeref02_Most.j0 (k + 1) y0 y1 y2 y3))
  | 0 => fun _ _ _ _ r h => by simp [fuseeref02_Most.j0] at h
  | k + 1 => by
    have ih0 := fuseeref02_Most.mono_l k
    · intro y0 y1 y2 y3
      unfold fuseeref02_Most.j0
      repeat' first
      | (with_reducible exact ih0 _ _ _ _)
      | (with_reducible exact LeO.refl _)
      | (with_reducible exact LeO.none _)
      | (with_reducible refine LeO.ite ?_ ?_)
      | (with_reducible refine LeO.bind ?_ (fun _ => ?_))
      | exact ih0 _ _ _ _
      | exact LeO.none _
      | refine LeO.ite ?_ ?_
      | refine LeO.bind ?_ (fun _ => ?_)
theorem fuseeref02_Most.mono : ∀ a0 a1 a2 k, LeO (fuseeref02_Most.f k a0 a1 a2) (fuseeref02_Most.f (k + 1) a0 a1 a2) := by
  intro a0 a1 a2 k
  have ih0 := fuseeref02_Most.mono_l k
  unfold fuseeref02_Most.f
  repeat' first
      | (with_reducible exact ih0 _ _ _ _)
      | (with_reducible exact LeO.refl _)
      | (with_reducible exact LeO.none _)
      | (with_reducible refine LeO.ite ?_ ?_)
      | (with_reducible refine LeO.bind ?_ (fun _ => ?_))
      | exact ih0 _ _ _ _
      | exact LeO.none _
      | refine LeO.ite ?_ ?_
      | refine LeO.bind ?_ (fun _ => ?_)
set_option maxHeartbeats 8000000 in
set_option maxRecDepth 100000 in
theorem fuseeref02_Most.calls (k : Nat) (a0 : Int) (a1 : Int) (a2 : Int) (r : Int) (w : World) (h : fuseeref02_Most.f k a0 a1 a2 = some r) :
    Calls Try.prog 33 #[.int .i64 a0, .int .i64 a1, .int .i64 a2] w fun e w' => e = .returned (.int .i64 r) ∧ Drawn0 w w' := by
  have H : ((fuseeref02_May.f a0 a1).bind fun t266 => ((fuseeref02_in.f a2).bind fun t267 => (if t266 = true then (fuseeref02_Most.j0 k a0 a1 a2 (!t267)) else (fuseeref02_Most.j0 k a0 a1 a2 true)))) = some r := h
  clear h
  replace H := Option.bind_eq_some_iff.mp H
  obtain ⟨t266, A40, H⟩ := H
  try dsimp only at H
  have A4 := Aside0.mk A40
  clear A40
  replace H := Option.bind_eq_some_iff.mp H
  obtain ⟨t267, A50, H⟩ := H
  try dsimp only at H
  have A5 := Aside0.mk A50
  clear A50
  have HC6 := Aside0.mk H
  clear H
  go_enter Try.func33, Try.ntmps33
  go_upto_region 3 with (first | ((with_reducible refine gate_callee (f := 43) rfl ?_); refine goesL_ (some 12) rfl rfl Try.func43 (by kernel_rfl) rfl #[.int .i64 a0, .int .i64 a1] rfl (by (try simp only [List.map_toArray, List.map_cons, List.map_nil]); first | done | rfl | (simp only [List.length_drop, List.length_take]; rfl)) ?_; (with_reducible refine (fuseeref02_May.calls a0 a1 t266 _ A4.out).mono ?_); rintro e w' ⟨rfl, ⟨nd, rfl⟩⟩; refine ⟨_, rfl, ?_⟩) | ((with_reducible refine gate_callee (f := 44) rfl ?_); refine goesL_ (some 14) rfl rfl Try.func44 (by kernel_rfl) rfl #[.int .i64 a2] rfl (by (try simp only [List.map_toArray, List.map_cons, List.map_nil]); first | done | rfl | (simp only [List.length_drop, List.length_take]; rfl)) ?_; (with_reducible refine (fuseeref02_in.calls a2 t267 _ A5.out).mono ?_); rintro e w' ⟨rfl, ⟨nd, rfl⟩⟩; refine ⟨_, rfl, ?_⟩))
  (try simp only [Act.put, List.setIfInBounds_toArray, List.set_cons_zero, List.set_cons_succ])
  go_cut [20] (fun v20 wc => ∃ (kq : Nat) (x20_5 : Bool), v20 = .bool x20_5 ∧ Aside0 (fuseeref02_Most.j0 kq a0 a1 a2 x20_5 = some r) ∧ Aside0 (kq ≤ k) ∧ Drawn0 w wc)
  case first =>
    have H := HC6.out
    clear HC6
    by_cases c7 : t266 = true
    · subst c7
      rw [if_pos rfl] at H
      have H' := Aside0.mk H
      clear H
      go_wp2
      go_meet
      case rel => exact ⟨_, (!t267), (by first | rfl | (simp; done) | (simp [*]; done)), H', ⟨by first | omega | exact Nat.le_refl _⟩, by repeat (first | exact Drawn0.refl _ | apply Drawn0.step)⟩
    · replace c7 := Bool.eq_false_iff.mpr c7
      subst c7
      rw [if_neg (show ¬ (false = true) by decide)] at H
      have H' := Aside0.mk H
      clear H
      go_wp2
      go_meet
      case rel => exact ⟨_, (true), (by first | rfl | (simp; done) | (simp [*]; done)), H', ⟨by first | omega | exact Nat.le_refl _⟩, by repeat (first | exact Drawn0.refl _ | apply Drawn0.step)⟩
  case rest =>
    clear HC6
    try clear p2
    try clear c3
    try clear c4
    try clear c7
    obtain ⟨kq, x20_5, rfl, HA, HJ5, ⟨mc5, rfl⟩⟩ := hcut
    cases kq with
    | zero => exact absurd HA.out (by simp [fuseeref02_Most.j0])
    | succ kj5 =>
      have H := HA.out
      clear HA
      simp only [fuseeref02_Most.j0] at H
      by_cases c8 : x20_5 = true
      · subst c8
        rw [if_pos rfl] at H
        obtain rfl := Option.some.inj H
        go_wp2
        go_ret
        exact ⟨by first | rfl | (simp; done) | (simp [*]; done) | (exfalso; contradiction), by repeat (first | exact Drawn0.refl _ | apply Drawn0.step)⟩
      · replace c8 := Bool.eq_false_iff.mpr c8
        subst c8
        rw [if_neg (show ¬ (false = true) by decide)] at H
        by_cases c9 : a1 = 0
        · rw [if_pos c9] at H
          exact absurd H (by simp)
        · rw [if_neg c9] at H
          have c9b0 : (a1 == 0) = false := beq_eq_false_iff_ne.mpr c9
          have c9b1 : (a1 != 0) = true := bne_iff_ne.mpr c9
          by_cases c10 : (wrap64 ((wrap64 (Int.tdiv (wrap64 (a2 * a0)) a1)) * a1)) < (wrap64 (a2 * a0))
          · rw [if_pos c10] at H
            have c10b0 : decide ((wrap64 ((wrap64 (Int.tdiv (wrap64 (a2 * a0)) a1)) * a1)) < (wrap64 (a2 * a0))) = true := decide_eq_true c10
            clear c10
            obtain rfl := Option.some.inj H
            go_wp2
            go_ret
            exact ⟨by first | rfl | (simp; done) | (simp [*]; done) | (exfalso; contradiction), by repeat (first | exact Drawn0.refl _ | apply Drawn0.step)⟩
          · rw [if_neg c10] at H
            have c10b0 : decide ((wrap64 ((wrap64 (Int.tdiv (wrap64 (a2 * a0)) a1)) * a1)) < (wrap64 (a2 * a0))) = false := decide_eq_false c10
            clear c10
            obtain rfl := Option.some.inj H
            go_wp2
            go_ret
            exact ⟨by first | rfl | (simp; done) | (simp [*]; done) | (exfalso; contradiction), by repeat (first | exact Drawn0.refl _ | apply Drawn0.step)⟩

/-! ### fuseeref09_Of: function 17 -/
def fuseeref09_Of.f (k : Nat) (a0_0 : Int) (a0_1 : Int) (a0_2 : Int) (a0_3 : Int) (a0_4 : Int) (a0_5 : Int) (a0_6 : Int) (a1 : Int) : Option (Int) := (fuseeref09_may.f a0_0 a0_1 a0_2 a0_3 a0_4 a0_5 a0_6).bind fun t269 => (if t269 = true then (if a1 < 0 then (some 0) else (if a1 > 1099511627776 then (some 0) else (if a0_6 = 0 then (none) else ((fuseeref02_Most.f k a0_3 a0_4 (wrap64 (Int.tdiv a1 a0_6))).bind fun t270 => (some (wrap64 (a0_0 * t270))))))) else (some 0))
theorem fuseeref09_Of.mono : ∀ a0 a1 a2 a3 a4 a5 a6 a7 k, LeO (fuseeref09_Of.f k a0 a1 a2 a3 a4 a5 a6 a7) (fuseeref09_Of.f (k + 1) a0 a1 a2 a3 a4 a5 a6 a7) := by
  intro a0 a1 a2 a3 a4 a5 a6 a7 k
  unfold fuseeref09_Of.f
  repeat' first
      | (with_reducible exact fuseeref02_Most.mono _ _ _ _)
      | (with_reducible exact LeO.refl _)
      | (with_reducible exact LeO.none _)
      | (with_reducible refine LeO.ite ?_ ?_)
      | (with_reducible refine LeO.bind ?_ (fun _ => ?_))
      | exact fuseeref02_Most.mono _ _ _ _
      | exact LeO.none _
      | refine LeO.ite ?_ ?_
      | refine LeO.bind ?_ (fun _ => ?_)
set_option maxHeartbeats 8000000 in
set_option maxRecDepth 100000 in
theorem fuseeref09_Of.calls (k : Nat) (a0_0 : Int) (a0_1 : Int) (a0_2 : Int) (a0_3 : Int) (a0_4 : Int) (a0_5 : Int) (a0_6 : Int) (a1 : Int) (r : Int) (w : World) (h : fuseeref09_Of.f k a0_0 a0_1 a0_2 a0_3 a0_4 a0_5 a0_6 a1 = some r) :
    Calls Try.prog 17 #[.agg #[.int .i64 a0_0, .int .i64 a0_1, .int .i64 a0_2, .int .i64 a0_3, .int .i64 a0_4, .int .i64 a0_5, .int .i64 a0_6], .int .i64 a1] w fun e w' => e = .returned (.int .i64 r) ∧ Below w.heap.size w w' := by
  have hu26 := Try.underlying26
  have HB := Aside0.mk (Below.refl w.heap.size w)
  have H : ((fuseeref09_may.f a0_0 a0_1 a0_2 a0_3 a0_4 a0_5 a0_6).bind fun t269 => (if t269 = true then (if a1 < 0 then (some 0) else (if a1 > 1099511627776 then (some 0) else (if a0_6 = 0 then (none) else ((fuseeref02_Most.f k a0_3 a0_4 (wrap64 (Int.tdiv a1 a0_6))).bind fun t270 => (some (wrap64 (a0_0 * t270))))))) else (some 0))) = some r := h
  clear h
  replace H := Option.bind_eq_some_iff.mp H
  obtain ⟨t269, A30, H⟩ := H
  try dsimp only at H
  have A3 := Aside0.mk A30
  clear A30
  by_cases c4 : t269 = true
  · subst c4
    rw [if_pos rfl] at H
    by_cases c5 : a1 < 0
    · rw [if_pos c5] at H
      have c5b0 : decide (a1 < 0) = true := decide_eq_true c5
      clear c5
      obtain rfl := Option.some.inj H
      go_enter Try.func17, Try.ntmps17
      go_wp2_with (first | ((with_reducible refine gate_dst (N := 2) rfl ?_); refine box_event ?hg (N := 2) ?hd (cs := #[.int .i64 a0_0, .int .i64 a0_1, .int .i64 a0_2, .int .i64 a0_3, .int .i64 a0_4, .int .i64 a0_5, .int .i64 a0_6]) (t := 26) ?hr ?_; (case hd => rfl); (case hg => rfl); (case hr => first | (go_simp; done) | (go_simp; rfl)); intro gb268 hg w6 hbox hb; have n0_ := bs HB hb; have n1_ := Aside0.mk (hbox); have n2_ := bz HB hg; have n3_ := bz HB hg; clear HB; have HB := n0_; have BK268 := n1_; have GW268 := n2_; have GE268 := n3_; clear n0_ n1_ n2_ n3_; clear hb hbox hg; obtain ⟨hcz7_0, hcz7_1, hcz7_2, hcz7_3, hcz7_4, hcz7_5, hcz7_6⟩ := cc7 BK268; obtain ⟨hfz7_0, hfz7_1, hfz7_2, hfz7_3, hfz7_4, hfz7_5, hfz7_6⟩ := cf7 BK268) | (go_at_call 31; (with_reducible refine (fuseeref09_may.calls a0_0 a0_1 a0_2 a0_3 a0_4 a0_5 a0_6 true _ A3.out).mono ?_); rintro e w8 ⟨rfl, hb⟩; have n0_ := bb BK268 hb; have n1_ := bs HB hb; clear BK268; clear HB; have BK268 := n0_; have HB := n1_; clear n0_ n1_; (try clear hb); (try clear hb2); (try clear hk); (try clear hi)))
      repeat (go_quiet (first | ((with_reducible refine gate_dst (N := 2) rfl ?_); refine box_event ?hg (N := 2) ?hd (cs := #[.int .i64 a0_0, .int .i64 a0_1, .int .i64 a0_2, .int .i64 a0_3, .int .i64 a0_4, .int .i64 a0_5, .int .i64 a0_6]) (t := 26) ?hr ?_; (case hd => rfl); (case hg => rfl); (case hr => first | (go_simp; done) | (go_simp; rfl)); intro gb268 hg w6 hbox hb; have n0_ := bs HB hb; have n1_ := Aside0.mk (hbox); have n2_ := bz HB hg; have n3_ := bz HB hg; clear HB; have HB := n0_; have BK268 := n1_; have GW268 := n2_; have GE268 := n3_; clear n0_ n1_ n2_ n3_; clear hb hbox hg; obtain ⟨hcz7_0, hcz7_1, hcz7_2, hcz7_3, hcz7_4, hcz7_5, hcz7_6⟩ := cc7 BK268; obtain ⟨hfz7_0, hfz7_1, hfz7_2, hfz7_3, hfz7_4, hfz7_5, hfz7_6⟩ := cf7 BK268) | (go_at_call 31; (with_reducible refine (fuseeref09_may.calls a0_0 a0_1 a0_2 a0_3 a0_4 a0_5 a0_6 true _ A3.out).mono ?_); rintro e w8 ⟨rfl, hb⟩; have n0_ := bb BK268 hb; have n1_ := bs HB hb; clear BK268; clear HB; have BK268 := n0_; have HB := n1_; clear n0_ n1_; (try clear hb); (try clear hb2); (try clear hk); (try clear hi))); try go_wp2_with (first | ((with_reducible refine gate_dst (N := 2) rfl ?_); refine box_event ?hg (N := 2) ?hd (cs := #[.int .i64 a0_0, .int .i64 a0_1, .int .i64 a0_2, .int .i64 a0_3, .int .i64 a0_4, .int .i64 a0_5, .int .i64 a0_6]) (t := 26) ?hr ?_; (case hd => rfl); (case hg => rfl); (case hr => first | (go_simp; done) | (go_simp; rfl)); intro gb268 hg w6 hbox hb; have n0_ := bs HB hb; have n1_ := Aside0.mk (hbox); have n2_ := bz HB hg; have n3_ := bz HB hg; clear HB; have HB := n0_; have BK268 := n1_; have GW268 := n2_; have GE268 := n3_; clear n0_ n1_ n2_ n3_; clear hb hbox hg; (try clear hcz7_0 hcz7_1 hcz7_2 hcz7_3 hcz7_4 hcz7_5 hcz7_6 hfz7_0 hfz7_1 hfz7_2 hfz7_3 hfz7_4 hfz7_5 hfz7_6); obtain ⟨hcz7_0, hcz7_1, hcz7_2, hcz7_3, hcz7_4, hcz7_5, hcz7_6⟩ := cc7 BK268; obtain ⟨hfz7_0, hfz7_1, hfz7_2, hfz7_3, hfz7_4, hfz7_5, hfz7_6⟩ := cf7 BK268) | (go_at_call 31; (with_reducible refine (fuseeref09_may.calls a0_0 a0_1 a0_2 a0_3 a0_4 a0_5 a0_6 true _ A3.out).mono ?_); rintro e w8 ⟨rfl, hb⟩; have n0_ := bb BK268 hb; have n1_ := bs HB hb; clear BK268; clear HB; have BK268 := n0_; have HB := n1_; clear n0_ n1_; (try clear hb); (try clear hb2); (try clear hk); (try clear hi))))
      go_ret
      exact ⟨by first | rfl | (simp [errW_none, errW_some] <;> rfl) | (simp [*, errW_none, errW_some] <;> rfl) | (exfalso; contradiction), by repeat (first | (with_reducible first | exact HB.out | apply below_alloc | apply pw_below_drewN | apply below_drew1 | refine below_set ?_ GE268.out) | exact HB.out)⟩
    · rw [if_neg c5] at H
      have c5b0 : decide (a1 < 0) = false := decide_eq_false c5
      clear c5
      by_cases c9 : a1 > 1099511627776
      · rw [if_pos c9] at H
        have c9b0 : decide (1099511627776 < a1) = true := decide_eq_true c9
        clear c9
        obtain rfl := Option.some.inj H
        go_enter Try.func17, Try.ntmps17
        go_wp2_with (first | ((with_reducible refine gate_dst (N := 2) rfl ?_); refine box_event ?hg (N := 2) ?hd (cs := #[.int .i64 a0_0, .int .i64 a0_1, .int .i64 a0_2, .int .i64 a0_3, .int .i64 a0_4, .int .i64 a0_5, .int .i64 a0_6]) (t := 26) ?hr ?_; (case hd => rfl); (case hg => rfl); (case hr => first | (go_simp; done) | (go_simp; rfl)); intro gb268 hg w10 hbox hb; have n0_ := bs HB hb; have n1_ := Aside0.mk (hbox); have n2_ := bz HB hg; have n3_ := bz HB hg; clear HB; have HB := n0_; have BK268 := n1_; have GW268 := n2_; have GE268 := n3_; clear n0_ n1_ n2_ n3_; clear hb hbox hg; obtain ⟨hcz11_0, hcz11_1, hcz11_2, hcz11_3, hcz11_4, hcz11_5, hcz11_6⟩ := cc7 BK268; obtain ⟨hfz11_0, hfz11_1, hfz11_2, hfz11_3, hfz11_4, hfz11_5, hfz11_6⟩ := cf7 BK268) | (go_at_call 31; (with_reducible refine (fuseeref09_may.calls a0_0 a0_1 a0_2 a0_3 a0_4 a0_5 a0_6 true _ A3.out).mono ?_); rintro e w12 ⟨rfl, hb⟩; have n0_ := bb BK268 hb; have n1_ := bs HB hb; clear BK268; clear HB; have BK268 := n0_; have HB := n1_; clear n0_ n1_; (try clear hb); (try clear hb2); (try clear hk); (try clear hi)))
        repeat (go_quiet (first | ((with_reducible refine gate_dst (N := 2) rfl ?_); refine box_event ?hg (N := 2) ?hd (cs := #[.int .i64 a0_0, .int .i64 a0_1, .int .i64 a0_2, .int .i64 a0_3, .int .i64 a0_4, .int .i64 a0_5, .int .i64 a0_6]) (t := 26) ?hr ?_; (case hd => rfl); (case hg => rfl); (case hr => first | (go_simp; done) | (go_simp; rfl)); intro gb268 hg w10 hbox hb; have n0_ := bs HB hb; have n1_ := Aside0.mk (hbox); have n2_ := bz HB hg; have n3_ := bz HB hg; clear HB; have HB := n0_; have BK268 := n1_; have GW268 := n2_; have GE268 := n3_; clear n0_ n1_ n2_ n3_; clear hb hbox hg; obtain ⟨hcz11_0, hcz11_1, hcz11_2, hcz11_3, hcz11_4, hcz11_5, hcz11_6⟩ := cc7 BK268; obtain ⟨hfz11_0, hfz11_1, hfz11_2, hfz11_3, hfz11_4, hfz11_5, hfz11_6⟩ := cf7 BK268) | (go_at_call 31; (with_reducible refine (fuseeref09_may.calls a0_0 a0_1 a0_2 a0_3 a0_4 a0_5 a0_6 true _ A3.out).mono ?_); rintro e w12 ⟨rfl, hb⟩; have n0_ := bb BK268 hb; have n1_ := bs HB hb; clear BK268; clear HB; have BK268 := n0_; have HB := n1_; clear n0_ n1_; (try clear hb); (try clear hb2); (try clear hk); (try clear hi))); try go_wp2_with (first | ((with_reducible refine gate_dst (N := 2) rfl ?_); refine box_event ?hg (N := 2) ?hd (cs := #[.int .i64 a0_0, .int .i64 a0_1, .int .i64 a0_2, .int .i64 a0_3, .int .i64 a0_4, .int .i64 a0_5, .int .i64 a0_6]) (t := 26) ?hr ?_; (case hd => rfl); (case hg => rfl); (case hr => first | (go_simp; done) | (go_simp; rfl)); intro gb268 hg w10 hbox hb; have n0_ := bs HB hb; have n1_ := Aside0.mk (hbox); have n2_ := bz HB hg; have n3_ := bz HB hg; clear HB; have HB := n0_; have BK268 := n1_; have GW268 := n2_; have GE268 := n3_; clear n0_ n1_ n2_ n3_; clear hb hbox hg; (try clear hcz11_0 hcz11_1 hcz11_2 hcz11_3 hcz11_4 hcz11_5 hcz11_6 hfz11_0 hfz11_1 hfz11_2 hfz11_3 hfz11_4 hfz11_5 hfz11_6); obtain ⟨hcz11_0, hcz11_1, hcz11_2, hcz11_3, hcz11_4, hcz11_5, hcz11_6⟩ := cc7 BK268; obtain ⟨hfz11_0, hfz11_1, hfz11_2, hfz11_3, hfz11_4, hfz11_5, hfz11_6⟩ := cf7 BK268) | (go_at_call 31; (with_reducible refine (fuseeref09_may.calls a0_0 a0_1 a0_2 a0_3 a0_4 a0_5 a0_6 true _ A3.out).mono ?_); rintro e w12 ⟨rfl, hb⟩; have n0_ := bb BK268 hb; have n1_ := bs HB hb; clear BK268; clear HB; have BK268 := n0_; have HB := n1_; clear n0_ n1_; (try clear hb); (try clear hb2); (try clear hk); (try clear hi))))
        go_ret
        exact ⟨by first | rfl | (simp [errW_none, errW_some] <;> rfl) | (simp [*, errW_none, errW_some] <;> rfl) | (exfalso; contradiction), by repeat (first | (with_reducible first | exact HB.out | apply below_alloc | apply pw_below_drewN | apply below_drew1 | refine below_set ?_ GE268.out) | exact HB.out)⟩
      · rw [if_neg c9] at H
        have c9b0 : decide (1099511627776 < a1) = false := decide_eq_false c9
        clear c9
        by_cases c13 : a0_6 = 0
        · rw [if_pos c13] at H
          exact absurd H (by simp)
        · rw [if_neg c13] at H
          have c13b0 : (a0_6 == 0) = false := beq_eq_false_iff_ne.mpr c13
          have c13b1 : (a0_6 != 0) = true := bne_iff_ne.mpr c13
          replace H := Option.bind_eq_some_iff.mp H
          obtain ⟨t270, A140, H⟩ := H
          try dsimp only at H
          have A14 := Aside0.mk A140
          clear A140
          obtain rfl := Option.some.inj H
          go_enter Try.func17, Try.ntmps17
          go_wp2_with (first | ((with_reducible refine gate_dst (N := 2) rfl ?_); refine box_event ?hg (N := 2) ?hd (cs := #[.int .i64 a0_0, .int .i64 a0_1, .int .i64 a0_2, .int .i64 a0_3, .int .i64 a0_4, .int .i64 a0_5, .int .i64 a0_6]) (t := 26) ?hr ?_; (case hd => rfl); (case hg => rfl); (case hr => first | (go_simp; done) | (go_simp; rfl)); intro gb268 hg w15 hbox hb; have n0_ := bs HB hb; have n1_ := Aside0.mk (hbox); have n2_ := bz HB hg; have n3_ := bz HB hg; clear HB; have HB := n0_; have BK268 := n1_; have GW268 := n2_; have GE268 := n3_; clear n0_ n1_ n2_ n3_; clear hb hbox hg; obtain ⟨hcz16_0, hcz16_1, hcz16_2, hcz16_3, hcz16_4, hcz16_5, hcz16_6⟩ := cc7 BK268; obtain ⟨hfz16_0, hfz16_1, hfz16_2, hfz16_3, hfz16_4, hfz16_5, hfz16_6⟩ := cf7 BK268) | (go_at_call 31; (with_reducible refine (fuseeref09_may.calls a0_0 a0_1 a0_2 a0_3 a0_4 a0_5 a0_6 true _ A3.out).mono ?_); rintro e w17 ⟨rfl, hb⟩; have n0_ := bb BK268 hb; have n1_ := bs HB hb; clear BK268; clear HB; have BK268 := n0_; have HB := n1_; clear n0_ n1_; (try clear hb); (try clear hb2); (try clear hk); (try clear hi); (try clear hcz16_0 hcz16_1 hcz16_2 hcz16_3 hcz16_4 hcz16_5 hcz16_6 hfz16_0 hfz16_1 hfz16_2 hfz16_3 hfz16_4 hfz16_5 hfz16_6); obtain ⟨hcz18_0, hcz18_1, hcz18_2, hcz18_3, hcz18_4, hcz18_5, hcz18_6⟩ := cc7 BK268; obtain ⟨hfz18_0, hfz18_1, hfz18_2, hfz18_3, hfz18_4, hfz18_5, hfz18_6⟩ := cf7 BK268) | (go_at_call 33; (with_reducible refine (fuseeref02_Most.calls k a0_3 a0_4 (wrap64 (Int.tdiv a1 a0_6)) t270 _ A14.out).mono ?_); rintro e w' ⟨rfl, ⟨nd, rfl⟩⟩; (try first | exact ⟨rfl, _, World.drewN_drewN _ _ _⟩ | exact ⟨rfl, _, Eq.trans (World.drewN_drewN _ _ _) (congrArg (World.drewN _) (Nat.add_assoc _ _ _))⟩)))
          repeat (go_quiet (first | ((with_reducible refine gate_dst (N := 2) rfl ?_); refine box_event ?hg (N := 2) ?hd (cs := #[.int .i64 a0_0, .int .i64 a0_1, .int .i64 a0_2, .int .i64 a0_3, .int .i64 a0_4, .int .i64 a0_5, .int .i64 a0_6]) (t := 26) ?hr ?_; (case hd => rfl); (case hg => rfl); (case hr => first | (go_simp; done) | (go_simp; rfl)); intro gb268 hg w15 hbox hb; have n0_ := bs HB hb; have n1_ := Aside0.mk (hbox); have n2_ := bz HB hg; have n3_ := bz HB hg; clear HB; have HB := n0_; have BK268 := n1_; have GW268 := n2_; have GE268 := n3_; clear n0_ n1_ n2_ n3_; clear hb hbox hg; obtain ⟨hcz16_0, hcz16_1, hcz16_2, hcz16_3, hcz16_4, hcz16_5, hcz16_6⟩ := cc7 BK268; obtain ⟨hfz16_0, hfz16_1, hfz16_2, hfz16_3, hfz16_4, hfz16_5, hfz16_6⟩ := cf7 BK268) | (go_at_call 31; (with_reducible refine (fuseeref09_may.calls a0_0 a0_1 a0_2 a0_3 a0_4 a0_5 a0_6 true _ A3.out).mono ?_); rintro e w17 ⟨rfl, hb⟩; have n0_ := bb BK268 hb; have n1_ := bs HB hb; clear BK268; clear HB; have BK268 := n0_; have HB := n1_; clear n0_ n1_; (try clear hb); (try clear hb2); (try clear hk); (try clear hi); (try clear hcz16_0 hcz16_1 hcz16_2 hcz16_3 hcz16_4 hcz16_5 hcz16_6 hfz16_0 hfz16_1 hfz16_2 hfz16_3 hfz16_4 hfz16_5 hfz16_6); obtain ⟨hcz18_0, hcz18_1, hcz18_2, hcz18_3, hcz18_4, hcz18_5, hcz18_6⟩ := cc7 BK268; obtain ⟨hfz18_0, hfz18_1, hfz18_2, hfz18_3, hfz18_4, hfz18_5, hfz18_6⟩ := cf7 BK268) | (go_at_call 33; (with_reducible refine (fuseeref02_Most.calls k a0_3 a0_4 (wrap64 (Int.tdiv a1 a0_6)) t270 _ A14.out).mono ?_); rintro e w' ⟨rfl, ⟨nd, rfl⟩⟩; (try first | exact ⟨rfl, _, World.drewN_drewN _ _ _⟩ | exact ⟨rfl, _, Eq.trans (World.drewN_drewN _ _ _) (congrArg (World.drewN _) (Nat.add_assoc _ _ _))⟩))); try go_wp2_with (first | ((with_reducible refine gate_dst (N := 2) rfl ?_); refine box_event ?hg (N := 2) ?hd (cs := #[.int .i64 a0_0, .int .i64 a0_1, .int .i64 a0_2, .int .i64 a0_3, .int .i64 a0_4, .int .i64 a0_5, .int .i64 a0_6]) (t := 26) ?hr ?_; (case hd => rfl); (case hg => rfl); (case hr => first | (go_simp; done) | (go_simp; rfl)); intro gb268 hg w15 hbox hb; have n0_ := bs HB hb; have n1_ := Aside0.mk (hbox); have n2_ := bz HB hg; have n3_ := bz HB hg; clear HB; have HB := n0_; have BK268 := n1_; have GW268 := n2_; have GE268 := n3_; clear n0_ n1_ n2_ n3_; clear hb hbox hg; (try clear hcz16_0 hcz16_1 hcz16_2 hcz16_3 hcz16_4 hcz16_5 hcz16_6 hfz16_0 hfz16_1 hfz16_2 hfz16_3 hfz16_4 hfz16_5 hfz16_6); (try clear hcz18_0 hcz18_1 hcz18_2 hcz18_3 hcz18_4 hcz18_5 hcz18_6 hfz18_0 hfz18_1 hfz18_2 hfz18_3 hfz18_4 hfz18_5 hfz18_6); obtain ⟨hcz16_0, hcz16_1, hcz16_2, hcz16_3, hcz16_4, hcz16_5, hcz16_6⟩ := cc7 BK268; obtain ⟨hfz16_0, hfz16_1, hfz16_2, hfz16_3, hfz16_4, hfz16_5, hfz16_6⟩ := cf7 BK268) | (go_at_call 31; (with_reducible refine (fuseeref09_may.calls a0_0 a0_1 a0_2 a0_3 a0_4 a0_5 a0_6 true _ A3.out).mono ?_); rintro e w17 ⟨rfl, hb⟩; have n0_ := bb BK268 hb; have n1_ := bs HB hb; clear BK268; clear HB; have BK268 := n0_; have HB := n1_; clear n0_ n1_; (try clear hb); (try clear hb2); (try clear hk); (try clear hi); (try clear hcz16_0 hcz16_1 hcz16_2 hcz16_3 hcz16_4 hcz16_5 hcz16_6 hfz16_0 hfz16_1 hfz16_2 hfz16_3 hfz16_4 hfz16_5 hfz16_6 hcz16_0 hcz16_1 hcz16_2 hcz16_3 hcz16_4 hcz16_5 hcz16_6 hfz16_0 hfz16_1 hfz16_2 hfz16_3 hfz16_4 hfz16_5 hfz16_6); (try clear hcz18_0 hcz18_1 hcz18_2 hcz18_3 hcz18_4 hcz18_5 hcz18_6 hfz18_0 hfz18_1 hfz18_2 hfz18_3 hfz18_4 hfz18_5 hfz18_6); obtain ⟨hcz18_0, hcz18_1, hcz18_2, hcz18_3, hcz18_4, hcz18_5, hcz18_6⟩ := cc7 BK268; obtain ⟨hfz18_0, hfz18_1, hfz18_2, hfz18_3, hfz18_4, hfz18_5, hfz18_6⟩ := cf7 BK268) | (go_at_call 33; (with_reducible refine (fuseeref02_Most.calls k a0_3 a0_4 (wrap64 (Int.tdiv a1 a0_6)) t270 _ A14.out).mono ?_); rintro e w' ⟨rfl, ⟨nd, rfl⟩⟩; (try first | exact ⟨rfl, _, World.drewN_drewN _ _ _⟩ | exact ⟨rfl, _, Eq.trans (World.drewN_drewN _ _ _) (congrArg (World.drewN _) (Nat.add_assoc _ _ _))⟩))))
          go_ret
          exact ⟨by first | rfl | (simp [errW_none, errW_some] <;> rfl) | (simp [*, errW_none, errW_some] <;> rfl) | (exfalso; contradiction), by repeat (first | (with_reducible first | exact HB.out | apply below_alloc | apply pw_below_drewN | apply below_drew1 | refine below_set ?_ GE268.out) | exact HB.out)⟩
  · replace c4 := Bool.eq_false_iff.mpr c4
    subst c4
    rw [if_neg (show ¬ (false = true) by decide)] at H
    obtain rfl := Option.some.inj H
    go_enter Try.func17, Try.ntmps17
    go_wp2_with (first | ((with_reducible refine gate_dst (N := 2) rfl ?_); refine box_event ?hg (N := 2) ?hd (cs := #[.int .i64 a0_0, .int .i64 a0_1, .int .i64 a0_2, .int .i64 a0_3, .int .i64 a0_4, .int .i64 a0_5, .int .i64 a0_6]) (t := 26) ?hr ?_; (case hd => rfl); (case hg => rfl); (case hr => first | (go_simp; done) | (go_simp; rfl)); intro gb268 hg w19 hbox hb; have n0_ := bs HB hb; have n1_ := Aside0.mk (hbox); have n2_ := bz HB hg; have n3_ := bz HB hg; clear HB; have HB := n0_; have BK268 := n1_; have GW268 := n2_; have GE268 := n3_; clear n0_ n1_ n2_ n3_; clear hb hbox hg; obtain ⟨hcz20_0, hcz20_1, hcz20_2, hcz20_3, hcz20_4, hcz20_5, hcz20_6⟩ := cc7 BK268; obtain ⟨hfz20_0, hfz20_1, hfz20_2, hfz20_3, hfz20_4, hfz20_5, hfz20_6⟩ := cf7 BK268) | (go_at_call 31; (with_reducible refine (fuseeref09_may.calls a0_0 a0_1 a0_2 a0_3 a0_4 a0_5 a0_6 false _ A3.out).mono ?_); rintro e w21 ⟨rfl, hb⟩; have n0_ := bb BK268 hb; have n1_ := bs HB hb; clear BK268; clear HB; have BK268 := n0_; have HB := n1_; clear n0_ n1_; (try clear hb); (try clear hb2); (try clear hk); (try clear hi)))
    repeat (go_quiet (first | ((with_reducible refine gate_dst (N := 2) rfl ?_); refine box_event ?hg (N := 2) ?hd (cs := #[.int .i64 a0_0, .int .i64 a0_1, .int .i64 a0_2, .int .i64 a0_3, .int .i64 a0_4, .int .i64 a0_5, .int .i64 a0_6]) (t := 26) ?hr ?_; (case hd => rfl); (case hg => rfl); (case hr => first | (go_simp; done) | (go_simp; rfl)); intro gb268 hg w19 hbox hb; have n0_ := bs HB hb; have n1_ := Aside0.mk (hbox); have n2_ := bz HB hg; have n3_ := bz HB hg; clear HB; have HB := n0_; have BK268 := n1_; have GW268 := n2_; have GE268 := n3_; clear n0_ n1_ n2_ n3_; clear hb hbox hg; obtain ⟨hcz20_0, hcz20_1, hcz20_2, hcz20_3, hcz20_4, hcz20_5, hcz20_6⟩ := cc7 BK268; obtain ⟨hfz20_0, hfz20_1, hfz20_2, hfz20_3, hfz20_4, hfz20_5, hfz20_6⟩ := cf7 BK268) | (go_at_call 31; (with_reducible refine (fuseeref09_may.calls a0_0 a0_1 a0_2 a0_3 a0_4 a0_5 a0_6 false _ A3.out).mono ?_); rintro e w21 ⟨rfl, hb⟩; have n0_ := bb BK268 hb; have n1_ := bs HB hb; clear BK268; clear HB; have BK268 := n0_; have HB := n1_; clear n0_ n1_; (try clear hb); (try clear hb2); (try clear hk); (try clear hi))); try go_wp2_with (first | ((with_reducible refine gate_dst (N := 2) rfl ?_); refine box_event ?hg (N := 2) ?hd (cs := #[.int .i64 a0_0, .int .i64 a0_1, .int .i64 a0_2, .int .i64 a0_3, .int .i64 a0_4, .int .i64 a0_5, .int .i64 a0_6]) (t := 26) ?hr ?_; (case hd => rfl); (case hg => rfl); (case hr => first | (go_simp; done) | (go_simp; rfl)); intro gb268 hg w19 hbox hb; have n0_ := bs HB hb; have n1_ := Aside0.mk (hbox); have n2_ := bz HB hg; have n3_ := bz HB hg; clear HB; have HB := n0_; have BK268 := n1_; have GW268 := n2_; have GE268 := n3_; clear n0_ n1_ n2_ n3_; clear hb hbox hg; (try clear hcz20_0 hcz20_1 hcz20_2 hcz20_3 hcz20_4 hcz20_5 hcz20_6 hfz20_0 hfz20_1 hfz20_2 hfz20_3 hfz20_4 hfz20_5 hfz20_6); obtain ⟨hcz20_0, hcz20_1, hcz20_2, hcz20_3, hcz20_4, hcz20_5, hcz20_6⟩ := cc7 BK268; obtain ⟨hfz20_0, hfz20_1, hfz20_2, hfz20_3, hfz20_4, hfz20_5, hfz20_6⟩ := cf7 BK268) | (go_at_call 31; (with_reducible refine (fuseeref09_may.calls a0_0 a0_1 a0_2 a0_3 a0_4 a0_5 a0_6 false _ A3.out).mono ?_); rintro e w21 ⟨rfl, hb⟩; have n0_ := bb BK268 hb; have n1_ := bs HB hb; clear BK268; clear HB; have BK268 := n0_; have HB := n1_; clear n0_ n1_; (try clear hb); (try clear hb2); (try clear hk); (try clear hi))))
    go_ret
    exact ⟨by first | rfl | (simp [errW_none, errW_some] <;> rfl) | (simp [*, errW_none, errW_some] <;> rfl) | (exfalso; contradiction), by repeat (first | (with_reducible first | exact HB.out | apply below_alloc | apply pw_below_drewN | apply below_drew1 | refine below_set ?_ GE268.out) | exact HB.out)⟩

end Go.Proofs.Ytngledpkoeioiaa.P
