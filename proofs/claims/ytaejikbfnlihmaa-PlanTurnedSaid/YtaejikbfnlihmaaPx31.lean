-- Written by a program of this session (hprint.py), out of the translation; functions that the print does not take are given by hand.
import Derived.Test.YtaejikbfnlihmaaPx0
import Derived.Test.YtaejikbfnlihmaaPx2
import Derived.Test.YtaejikbfnlihmaaPx17
namespace Go.Proofs.Ytaejikbfnlihmaa.P
open Go.RowKit Go.Proofs.YtaejikbfnlihmaaM Go.Proofs.YtaejikbfnlihmaaW.PrintWords Go.Proofs.YtaejikbfnlihmaaW.PrintLast Go.Proofs.YtaejikbfnlihmaaW.PrintMore
attribute [local go_sem] max2_int min2_int max_two min_two max_three min_three max_four min_four   -- for this text's walks alone
set_option linter.unusedVariables false
set_option linter.unusedSimpArgs false

attribute [local go_sem high] eqA42
/-! ### fuseelaw10_PlanTurned: function 7 -/
mutual
def fuseelaw10_PlanTurned.l0 : Nat → List (S40) → List (S40) → Int → Option (Bool)
  | 0, _, _, _ => none
  | k + 1, x0, x4, x5 => if x5 > 0 then (if 0 ≤ (wrap64 (x5 - 1)) then (if (wrap64 (x5 - 1)) < (x0.length : Int) then (if x4.length < 2932031007402 then (fuseelaw10_PlanTurned.l0 k x0 (x4 ++ [(⟨(rd_T40 x0 (wrap64 (x5 - 1))).f0, (rd_T40 x0 (wrap64 (x5 - 1))).f1, (rd_T40 x0 (wrap64 (x5 - 1))).f2, (rd_T40 x0 (wrap64 (x5 - 1))).f3, (rd_T40 x0 (wrap64 (x5 - 1))).f4, (rd_T40 x0 (wrap64 (x5 - 1))).f5⟩ : S40)]) (wrap64 (x5 - 1))) else (none)) else (none)) else (none)) else ((plan_Target.f k x0).bind fun bt421 => ((plan_Target.f k x4).bind fun bt425 => (if bt421.2 = bt425.2 then (if (bt421.1.length : Int) = (bt425.1.length : Int) then (fuseelaw10_PlanTurned.l1 k bt421.1 bt425.1 0) else (none)) else (none))))
def fuseelaw10_PlanTurned.l1 : Nat → List (S42) → List (S42) → Int → Option (Bool)
  | 0, _, _, _ => none
  | k + 1, x6, x8, x10 => if x10 < (x6.length : Int) then (if 0 ≤ x10 then (if 0 ≤ (wrap64 ((wrap64 ((x8.length : Int) - 1)) - x10)) then (if (wrap64 ((wrap64 ((x8.length : Int) - 1)) - x10)) < (x8.length : Int) then (if ((!(((rd_T42 x6 x10).f0.f0) == ((rd_T42 x8 (wrap64 ((wrap64 ((x8.length : Int) - 1)) - x10))).f0.f0)) || (!(((rd_T42 x6 x10).f0.f1) == ((rd_T42 x8 (wrap64 ((wrap64 ((x8.length : Int) - 1)) - x10))).f0.f1)) || (!(((rd_T42 x6 x10).f0.f2) == ((rd_T42 x8 (wrap64 ((wrap64 ((x8.length : Int) - 1)) - x10))).f0.f2)) || (!(((rd_T42 x6 x10).f0.f3) == ((rd_T42 x8 (wrap64 ((wrap64 ((x8.length : Int) - 1)) - x10))).f0.f3)) || (!(((rd_T42 x6 x10).f0.f4) == ((rd_T42 x8 (wrap64 ((wrap64 ((x8.length : Int) - 1)) - x10))).f0.f4)) || (!(((rd_T42 x6 x10).f0.f5) == ((rd_T42 x8 (wrap64 ((wrap64 ((x8.length : Int) - 1)) - x10))).f0.f5)))))))) || (!(((rd_T42 x6 x10).f1) == ((rd_T42 x8 (wrap64 ((wrap64 ((x8.length : Int) - 1)) - x10))).f1)))) = true then (none) else (fuseelaw10_PlanTurned.l1 k x6 x8 (wrap64 (x10 + 1)))) else (none)) else (none)) else (none)) else (some true)
end
def fuseelaw10_PlanTurned.f (k : Nat) (l0 : List (S40)) : Option (Bool) := (fuseelaw10_awake.f k).bind fun t416 => (if t416 = true then (if (l0.length : Int) > 4 then (some t416) else (fuseelaw10_PlanTurned.l0 k l0 ([] : List (S40)) (l0.length : Int))) else (some t416))
theorem fuseelaw10_PlanTurned.mono_l : ∀ k, (∀ y0 y1 y2, LeO (fuseelaw10_PlanTurned.l0 k y0 y1 y2) (fuseelaw10_PlanTurned.l0 (k + 1) y0 y1 y2)) ∧ (∀ y0 y1 y2, LeO (fuseelaw10_PlanTurned.l1 k y0 y1 y2) (fuseelaw10_PlanTurned.l1 (k + 1) y0 y1 y2))
  | 0 => ⟨fun _ _ _ r h => by simp [fuseelaw10_PlanTurned.l0] at h, fun _ _ _ r h => by simp [fuseelaw10_PlanTurned.l1] at h⟩
  | k + 1 => by
    obtain ⟨ih0, ih1⟩ := fuseelaw10_PlanTurned.mono_l k
    refine ⟨?_, ?_⟩
    · intro y0 y1 y2
      unfold fuseelaw10_PlanTurned.l0
      repeat' first
      | (with_reducible exact ih0 _ _ _)
      | (with_reducible exact ih1 _ _ _)
      | (with_reducible exact fuseelaw10_awake.mono _)
      | (with_reducible exact plan_Target.mono _ _)
      | (with_reducible exact LeO.refl _)
      | (with_reducible exact LeO.none _)
      | (with_reducible refine LeO.ite ?_ ?_)
      | (with_reducible refine LeO.bind ?_ (fun _ => ?_))
      | exact ih0 _ _ _
      | exact ih1 _ _ _
      | exact fuseelaw10_awake.mono _
      | exact plan_Target.mono _ _
      | exact LeO.none _
      | refine LeO.ite ?_ ?_
      | refine LeO.bind ?_ (fun _ => ?_)
    · intro y0 y1 y2
      unfold fuseelaw10_PlanTurned.l1
      repeat' first
      | (with_reducible exact ih0 _ _ _)
      | (with_reducible exact ih1 _ _ _)
      | (with_reducible exact fuseelaw10_awake.mono _)
      | (with_reducible exact plan_Target.mono _ _)
      | (with_reducible exact LeO.refl _)
      | (with_reducible exact LeO.none _)
      | (with_reducible refine LeO.ite ?_ ?_)
      | (with_reducible refine LeO.bind ?_ (fun _ => ?_))
      | exact ih0 _ _ _
      | exact ih1 _ _ _
      | exact fuseelaw10_awake.mono _
      | exact plan_Target.mono _ _
      | exact LeO.none _
      | refine LeO.ite ?_ ?_
      | refine LeO.bind ?_ (fun _ => ?_)
theorem fuseelaw10_PlanTurned.mono : ∀ a0 k, LeO (fuseelaw10_PlanTurned.f k a0) (fuseelaw10_PlanTurned.f (k + 1) a0) := by
  intro a0 k
  obtain ⟨ih0, ih1⟩ := fuseelaw10_PlanTurned.mono_l k
  unfold fuseelaw10_PlanTurned.f
  repeat' first
      | (with_reducible exact ih0 _ _ _)
      | (with_reducible exact ih1 _ _ _)
      | (with_reducible exact fuseelaw10_awake.mono _)
      | (with_reducible exact plan_Target.mono _ _)
      | (with_reducible exact LeO.refl _)
      | (with_reducible exact LeO.none _)
      | (with_reducible refine LeO.ite ?_ ?_)
      | (with_reducible refine LeO.bind ?_ (fun _ => ?_))
      | exact ih0 _ _ _
      | exact ih1 _ _ _
      | exact fuseelaw10_awake.mono _
      | exact plan_Target.mono _ _
      | exact LeO.none _
      | refine LeO.ite ?_ ?_
      | refine LeO.bind ?_ (fun _ => ?_)
set_option maxHeartbeats 8000000 in
set_option maxRecDepth 100000 in
theorem fuseelaw10_PlanTurned.calls (k : Nat) (A0 : Option Addr) (c0 : Nat) (l0 : List (S40)) (r : Bool) (w : World) (hr0 : Kd.C k40 w A0 l0.length l0) (hc0 : l0.length ≤ c0) (h : fuseelaw10_PlanTurned.f k l0 = some r) :
    Calls Try.prog 7 #[.slice A0 l0.length c0] w fun e w' => e = .returned (.bool r) ∧ Below w.heap.size w w' := by
  have hu40 := Try.underlying40
  have hu42 := Try.underlying42
  have HR0 := Aside0.mk hr0
  have HC0 := Aside0.mk hc0
  clear hr0 hc0
  have HB := Aside0.mk (Below.refl w.heap.size w)
  have H : ((fuseelaw10_awake.f k).bind fun t416 => (if t416 = true then (if (l0.length : Int) > 4 then (some t416) else (fuseelaw10_PlanTurned.l0 k l0 ([] : List (S40)) (l0.length : Int))) else (some t416))) = some r := h
  clear h
  replace H := Option.bind_eq_some_iff.mp H
  obtain ⟨t416, A20, H⟩ := H
  try dsimp only at H
  have A2 := Aside0.mk A20
  clear A20
  by_cases c3 : t416 = true
  · subst c3
    rw [if_pos rfl] at H
    by_cases c4 : (l0.length : Int) > 4
    · rw [if_pos c4] at H
      have c4b0 : decide (4 < (l0.length : Int)) = true := decide_eq_true c4
      have c4b1 : decide (4 < l0.length) = true := decide_eq_true (by omega)
      clear c4
      obtain rfl := Option.some.inj H
      go_enter Try.func7, Try.ntmps7
      go_wp2_with (first | (go_at_call 10; (with_reducible refine (fuseelaw10_awake.calls k  true _ A2.out).mono ?_); rintro e w5 ⟨rfl, hb⟩; have n0_ := bs HB hb; clear HB; have HB := n0_; clear n0_; (try clear hb); (try clear hb2); (try clear hk); (try clear hi)))
      repeat (go_quiet (first | (go_at_call 10; (with_reducible refine (fuseelaw10_awake.calls k  true _ A2.out).mono ?_); rintro e w5 ⟨rfl, hb⟩; have n0_ := bs HB hb; clear HB; have HB := n0_; clear n0_; (try clear hb); (try clear hb2); (try clear hk); (try clear hi))); try go_wp2_with (first | (go_at_call 10; (with_reducible refine (fuseelaw10_awake.calls k  true _ A2.out).mono ?_); rintro e w5 ⟨rfl, hb⟩; have n0_ := bs HB hb; clear HB; have HB := n0_; clear n0_; (try clear hb); (try clear hb2); (try clear hk); (try clear hi))))
      go_ret
      exact ⟨by first | rfl | (simp [errW_none, errW_some] <;> rfl) | (simp [*, errW_none, errW_some] <;> rfl) | (exfalso; contradiction), by repeat (first | (with_reducible first | exact HB.out | apply below_alloc | apply pw_below_drewN | apply below_drew1) | exact HB.out)⟩
    · rw [if_neg c4] at H
      have c4b0 : decide (4 < (l0.length : Int)) = false := decide_eq_false c4
      have c4b1 : decide (4 < l0.length) = false := decide_eq_false (by omega)
      clear c4
      have H' := Aside0.mk H
      clear H
      go_enter Try.func7, Try.ntmps7
      go_wp2_with (first | (go_at_call 10; (with_reducible refine (fuseelaw10_awake.calls k  true _ A2.out).mono ?_); rintro e w6 ⟨rfl, hb⟩; have n0_ := bs HB hb; clear HB; have HB := n0_; clear n0_; (try clear hb); (try clear hb2); (try clear hk); (try clear hi)))
      repeat (go_quiet (first | (go_at_call 10; (with_reducible refine (fuseelaw10_awake.calls k  true _ A2.out).mono ?_); rintro e w6 ⟨rfl, hb⟩; have n0_ := bs HB hb; clear HB; have HB := n0_; clear n0_; (try clear hb); (try clear hb2); (try clear hk); (try clear hi))); try go_wp2_with (first | (go_at_call 10; (with_reducible refine (fuseelaw10_awake.calls k  true _ A2.out).mono ?_); rintro e w6 ⟨rfl, hb⟩; have n0_ := bs HB hb; clear HB; have HB := n0_; clear n0_; (try clear hb); (try clear hb2); (try clear hk); (try clear hi))))
      go_loopg [4, 5] k (fun kq v4 v5 w' => ∃ (x4_1 : List (S40)) (x5_1 : Int), v5 = .int .i64 x5_1 ∧ Aside0 (fuseelaw10_PlanTurned.l0 kq l0 x4_1 x5_1 = some r) ∧ Aside0 (kq ≤ k) ∧ Aside0 (Kd.R k40 40 w' w.heap.size (fun _ => True) v4 x4_1) ∧ Aside0 (Below w.heap.size w w'))
      case atStart => exact ⟨(([] : List (S40))), ((l0.length : Int)), (by first | rfl | (simp; done) | (simp [*]; done)), H', ⟨Nat.le_refl _⟩, ⟨by first | exact Kd.R_nil _ _ _ _ _ | exact Kd.N_nil _ _ _ _ _ | exact Kd.V_nil _ _ _ _ _ | exact Kd.Q_nil _ _ _ _ _ | exact Kd.S_nil _ _ _ _ _⟩, ⟨by repeat (first | (with_reducible first | exact HB.out | apply below_alloc | apply pw_below_drewN | apply below_drew1) | exact HB.out)⟩⟩
      case round =>
        clear H'
        try clear p2
        try clear c3
        try clear c4
        try clear c4b0
        try clear c4b1
        obtain ⟨x4_1, x5_1, rfl, HA, HK1, HO_4, HB⟩ := hrel
        cases gk with
        | zero => exact absurd HA.out (by simp [fuseelaw10_PlanTurned.l0])
        | succ k1 =>
          have H := HA.out
          clear HA
          simp only [fuseelaw10_PlanTurned.l0] at H
          by_cases c7 : x5_1 > 0
          · rw [if_pos c7] at H
            have c7b0 : decide (0 < x5_1) = true := decide_eq_true c7
            clear c7
            obtain ⟨ji8, hji8⟩ : ∃ j_ : Int, (wrap64 (x5_1 - 1)) = j_ := ⟨_, rfl⟩
            replace H : (if 0 ≤ (ji8) then (if (ji8) < (l0.length : Int) then (if x4_1.length < 2932031007402 then (fuseelaw10_PlanTurned.l0 k1 l0 (x4_1 ++ [(⟨(rd_T40 l0 (ji8)).f0, (rd_T40 l0 (ji8)).f1, (rd_T40 l0 (ji8)).f2, (rd_T40 l0 (ji8)).f3, (rd_T40 l0 (ji8)).f4, (rd_T40 l0 (ji8)).f5⟩ : S40)]) ji8) else (none)) else (none)) else (none)) = some r := by first | (rw [hji8] at H; exact H) | (simp only [hji8] at H ⊢; exact H)
            have hji8w : (IntKind.i64.wrap (x5_1 - 1)) = ji8 := (i64_w _).trans hji8
            by_cases c9 : 0 ≤ (ji8)
            · rw [if_pos c9] at H
              have c9b0 : decide (0 ≤ (ji8)) = true := decide_eq_true c9
              clear c9
              by_cases c10 : (ji8) < (l0.length : Int)
              · rw [if_pos c10] at H
                have c10b0 : decide ((ji8) < (l0.length : Int)) = true := decide_eq_true c10
                clear c10
                by_cases c11 : x4_1.length < 2932031007402
                · rw [if_pos c11] at H
                  have LMc11 := Aside0.mk c11
                  clear c11
                  obtain ⟨y418, hy418⟩ : ∃ y_ : List (S40), y_ = (x4_1 ++ [(⟨(rd_T40 l0 (ji8)).f0, (rd_T40 l0 (ji8)).f1, (rd_T40 l0 (ji8)).f2, (rd_T40 l0 (ji8)).f3, (rd_T40 l0 (ji8)).f4, (rd_T40 l0 (ji8)).f5⟩ : S40)]) := ⟨_, rfl⟩
                  replace H : (fuseelaw10_PlanTurned.l0 k1 l0 y418 ji8) = some r := by first | (rw [hy418]; with_reducible exact H) | (have H2_ := (Option.bind_some _ _).symm.trans H; rw [hy418]; with_reducible exact H2_) | (have H2_ := (Option.bind_some _ _).symm.trans H; with_reducible exact H2_) | with_reducible exact H | (rw [hy418]; exact H) | exact H
                  have Ny418 := Aside0.mk hy418
                  clear hy418
                  have H' := Aside0.mk H
                  clear H
                  have p417 : 0 ≤ ((ji8) : Int) := of_decide_eq_true (by first | (with_reducible assumption) | assumption)
                  have q417 : (ji8) < (l0.length : Int) := of_decide_eq_true (by first | (with_reducible assumption) | assumption)
                  obtain ⟨ad417, e417, hx417_0, hx417_1, hx417_2, hx417_3, hx417_4, hx417_5⟩ := at_T40 HR0.out (ji8) p417 q417
                  cases e417
                  replace hx417_0 := (HB.out.cell (World.block_lt_of_cell? w _ hx417_0)).trans hx417_0
                  replace hx417_1 := (HB.out.cell (World.block_lt_of_cell? w _ hx417_1)).trans hx417_1
                  replace hx417_2 := (HB.out.cell (World.block_lt_of_cell? w _ hx417_2)).trans hx417_2
                  replace hx417_3 := (HB.out.cell (World.block_lt_of_cell? w _ hx417_3)).trans hx417_3
                  replace hx417_4 := (HB.out.cell (World.block_lt_of_cell? w _ hx417_4)).trans hx417_4
                  replace hx417_5 := (HB.out.cell (World.block_lt_of_cell? w _ hx417_5)).trans hx417_5
                  replace p417 := eq_true p417
                  replace q417 := eq_true q417
                  go_wp2_with (first | ((with_reducible refine gate_builtin (b := .append) (xs := #[.tmp 26, .tmp 32]) rfl ?_); (try (refine gate_guard (by rfl) ?_; dsimp only)); at_builtin; refine Kd.R_append k40 (w0 := w) w.heap.size rfl (.tmp 26) (.tmp 32) 22 40 (.agg #[(.int .i64 0), (.int .i64 0), (.int .i64 0), (.int .i64 0), (.int .i64 0), (.int .i64 0)]) 48 rfl Try.underlying22 info40 rfl (by decide) (by omega) u4 x4_1 (⟨(rd_T40 l0 (ji8)).f0, (rd_T40 l0 (ji8)).f1, (rd_T40 l0 (ji8)).f2, (rd_T40 l0 (ji8)).f3, (rd_T40 l0 (ji8)).f4, (rd_T40 l0 (ji8)).f5⟩ : S40) [.int .i64 ((rd_T40 l0 (ji8)).f0), .int .i64 ((rd_T40 l0 (ji8)).f1), .int .i64 ((rd_T40 l0 (ji8)).f2), .int .i64 ((rd_T40 l0 (ji8)).f3), .int .i64 ((rd_T40 l0 (ji8)).f4), .int .i64 ((rd_T40 l0 (ji8)).f5)] (fun _ => True) (fun _ => False) rfl rfl ?aP (fun _ hk => hk.elim) ?aF ?aO ?aB ?aS ?aL ?_; (case aP => exact k40_mkM _ _ _ (⟨(rd_T40 l0 (ji8)).f0, (rd_T40 l0 (ji8)).f1, (rd_T40 l0 (ji8)).f2, (rd_T40 l0 (ji8)).f3, (rd_T40 l0 (ji8)).f4, (rd_T40 l0 (ji8)).f5⟩ : S40)); (case aB => exact (by repeat (first | (with_reducible first | exact HB.out | apply below_alloc | apply pw_below_drewN | apply below_drew1) | exact HB.out))); (case aF => exact (fun _ _ => trivial)); (case aO => exact (by (with_reducible repeat (first | apply Kd.R_alloc | apply Kd.R_drewN | apply Kd.R_drew)); exact HO_4.out)); (case aS => exact (below_size (by repeat (first | (with_reducible first | exact HB.out | apply below_alloc | apply pw_below_drewN | apply below_drew1) | exact HB.out)))); (case aL => have := LMc11.out; omega); intro v419 w12 ho hb hg hat; rw [← Ny418.out] at ho; have n0_ := Aside0.mk (hb); have n1_ := Aside0.mk (ho); clear HB; clear HO_4; have HB := n0_; have HO420 := n1_; clear n0_ n1_; clear ho hb hg hat))
                  repeat (go_quiet (first | ((with_reducible refine gate_builtin (b := .append) (xs := #[.tmp 26, .tmp 32]) rfl ?_); (try (refine gate_guard (by rfl) ?_; dsimp only)); at_builtin; refine Kd.R_append k40 (w0 := w) w.heap.size rfl (.tmp 26) (.tmp 32) 22 40 (.agg #[(.int .i64 0), (.int .i64 0), (.int .i64 0), (.int .i64 0), (.int .i64 0), (.int .i64 0)]) 48 rfl Try.underlying22 info40 rfl (by decide) (by omega) u4 x4_1 (⟨(rd_T40 l0 (ji8)).f0, (rd_T40 l0 (ji8)).f1, (rd_T40 l0 (ji8)).f2, (rd_T40 l0 (ji8)).f3, (rd_T40 l0 (ji8)).f4, (rd_T40 l0 (ji8)).f5⟩ : S40) [.int .i64 ((rd_T40 l0 (ji8)).f0), .int .i64 ((rd_T40 l0 (ji8)).f1), .int .i64 ((rd_T40 l0 (ji8)).f2), .int .i64 ((rd_T40 l0 (ji8)).f3), .int .i64 ((rd_T40 l0 (ji8)).f4), .int .i64 ((rd_T40 l0 (ji8)).f5)] (fun _ => True) (fun _ => False) rfl rfl ?aP (fun _ hk => hk.elim) ?aF ?aO ?aB ?aS ?aL ?_; (case aP => exact k40_mkM _ _ _ (⟨(rd_T40 l0 (ji8)).f0, (rd_T40 l0 (ji8)).f1, (rd_T40 l0 (ji8)).f2, (rd_T40 l0 (ji8)).f3, (rd_T40 l0 (ji8)).f4, (rd_T40 l0 (ji8)).f5⟩ : S40)); (case aB => exact (by repeat (first | (with_reducible first | exact HB.out | apply below_alloc | apply pw_below_drewN | apply below_drew1) | exact HB.out))); (case aF => exact (fun _ _ => trivial)); (case aO => exact (by (with_reducible repeat (first | apply Kd.R_alloc | apply Kd.R_drewN | apply Kd.R_drew)); exact HO_4.out)); (case aS => exact (below_size (by repeat (first | (with_reducible first | exact HB.out | apply below_alloc | apply pw_below_drewN | apply below_drew1) | exact HB.out)))); (case aL => have := LMc11.out; omega); intro v419 w12 ho hb hg hat; rw [← Ny418.out] at ho; have n0_ := Aside0.mk (hb); have n1_ := Aside0.mk (ho); clear HB; clear HO_4; have HB := n0_; have HO420 := n1_; clear n0_ n1_; clear ho hb hg hat)); try go_wp2_with (first | ((with_reducible refine gate_builtin (b := .append) (xs := #[.tmp 26, .tmp 32]) rfl ?_); (try (refine gate_guard (by rfl) ?_; dsimp only)); at_builtin; refine Kd.R_append k40 (w0 := w) w.heap.size rfl (.tmp 26) (.tmp 32) 22 40 (.agg #[(.int .i64 0), (.int .i64 0), (.int .i64 0), (.int .i64 0), (.int .i64 0), (.int .i64 0)]) 48 rfl Try.underlying22 info40 rfl (by decide) (by omega) u4 x4_1 (⟨(rd_T40 l0 (ji8)).f0, (rd_T40 l0 (ji8)).f1, (rd_T40 l0 (ji8)).f2, (rd_T40 l0 (ji8)).f3, (rd_T40 l0 (ji8)).f4, (rd_T40 l0 (ji8)).f5⟩ : S40) [.int .i64 ((rd_T40 l0 (ji8)).f0), .int .i64 ((rd_T40 l0 (ji8)).f1), .int .i64 ((rd_T40 l0 (ji8)).f2), .int .i64 ((rd_T40 l0 (ji8)).f3), .int .i64 ((rd_T40 l0 (ji8)).f4), .int .i64 ((rd_T40 l0 (ji8)).f5)] (fun _ => True) (fun _ => False) rfl rfl ?aP (fun _ hk => hk.elim) ?aF ?aO ?aB ?aS ?aL ?_; (case aP => exact k40_mkM _ _ _ (⟨(rd_T40 l0 (ji8)).f0, (rd_T40 l0 (ji8)).f1, (rd_T40 l0 (ji8)).f2, (rd_T40 l0 (ji8)).f3, (rd_T40 l0 (ji8)).f4, (rd_T40 l0 (ji8)).f5⟩ : S40)); (case aB => exact (by repeat (first | (with_reducible first | exact HB.out | apply below_alloc | apply pw_below_drewN | apply below_drew1) | exact HB.out))); (case aF => exact (fun _ _ => trivial)); (case aO => exact (by (with_reducible repeat (first | apply Kd.R_alloc | apply Kd.R_drewN | apply Kd.R_drew)); exact HO_4.out)); (case aS => exact (below_size (by repeat (first | (with_reducible first | exact HB.out | apply below_alloc | apply pw_below_drewN | apply below_drew1) | exact HB.out)))); (case aL => have := LMc11.out; omega); intro v419 w12 ho hb hg hat; rw [← Ny418.out] at ho; have n0_ := Aside0.mk (hb); have n1_ := Aside0.mk (ho); clear HB; clear HO_4; have HB := n0_; have HO420 := n1_; clear n0_ n1_; clear ho hb hg hat)))
                  go_roundg k1
                  case measure => have := HK1.out; omega
                  case rel => exact ⟨(y418), (ji8), (by first | rfl | (simp; done) | (simp only [← hji8] <;> (first | rfl | simp)) | (simp [*]; done)), H', ⟨by have := HK1.out; omega⟩, ⟨by (with_reducible repeat (first | apply Kd.R_alloc | apply Kd.R_drewN | apply Kd.R_drew)); exact HO420.out⟩, ⟨by repeat (first | (with_reducible first | exact HB.out | apply below_alloc | apply pw_below_drewN | apply below_drew1) | exact HB.out)⟩⟩
                · rw [if_neg c11] at H
                  exact absurd H (by simp)
              · rw [if_neg c10] at H
                exact absurd H (by simp)
            · rw [if_neg c9] at H
              exact absurd H (by simp)
          · rw [if_neg c7] at H
            have c7b0 : decide (0 < x5_1) = false := decide_eq_false c7
            clear c7
            replace H := Option.bind_eq_some_iff.mp H
            obtain ⟨⟨t421, t422⟩, A130, H⟩ := H
            try dsimp only at H
            have A13 := Aside0.mk A130
            clear A130
            replace H := Option.bind_eq_some_iff.mp H
            obtain ⟨⟨t425, t426⟩, A140, H⟩ := H
            try dsimp only at H
            have A14 := Aside0.mk A140
            clear A140
            by_cases c15 : t422 = t426
            · rw [if_pos c15] at H
              have c15b0 : (t422 == t426) = true := beq_iff_eq.mpr c15
              have c15b1 : (t422 != t426) = false := bne_eq_false_iff_eq.mpr c15
              clear c15
              by_cases c16 : (t421.length : Int) = (t425.length : Int)
              · rw [if_pos c16] at H
                have c16b0 : ((t421.length : Int) == (t425.length : Int)) = true := beq_iff_eq.mpr c16
                have c16b1 : ((t421.length : Int) != (t425.length : Int)) = false := bne_eq_false_iff_eq.mpr c16
                have c16b2 : (t421.length == t425.length) = true := by first | simpa using c16 | (simp at c16 ⊢; omega)
                clear c16
                have H' := Aside0.mk H
                clear H
                go_wp2_with (first | (go_at_call 13; (with_reducible refine (plan_Target.calls k1 _ _ l0 t421 t422 _ ?side1 ?side2 A13.out).mono ?_); (case side1 => repeat (first | exact (Kd.C_below HR0.out HB.out) | (with_reducible refine Kd.C_alloc ?_ _) | (with_reducible refine Kd.C_drewN ?_ _) | (with_reducible refine Kd.C_drew ?_))); (case side2 => exact HC0.out); rintro e w17 ⟨v423, rfl, ho0, hb⟩; have n0_ := Aside0.mk (Kd.R_below (by (with_reducible repeat (first | apply Kd.R_alloc | apply Kd.R_drewN | apply Kd.R_drew)); exact HO_4.out) hb); have n1_ := Aside0.mk (Kd.R_lower ho0 (below_size (by repeat (first | (with_reducible first | exact HB.out | apply below_alloc | apply pw_below_drewN | apply below_drew1) | exact HB.out)))); have n2_ := bs HB hb; clear HO_4; clear HB; have HO_4 := n0_; have HO424 := n1_; have HB := n2_; clear n0_ n1_ n2_; (try clear hb); (try clear hb2); (try clear hk); (try clear hi); (try clear ho0); obtain ⟨Ao18, co18, eo18⟩ := Kd.R_slice HO_4.out; subst eo18) | (go_at_call 13; (with_reducible refine (plan_Target.calls k1 _ _ x4_1 t425 t426 _ ?side1 ?side2 A14.out).mono ?_); (case side1 => repeat (first | exact (Kd.R_reads' HO_4.out).2.2 | (with_reducible refine Kd.C_alloc ?_ _) | (with_reducible refine Kd.C_drewN ?_ _) | (with_reducible refine Kd.C_drew ?_))); (case side2 => exact (Kd.R_reads' HO_4.out).2.1); rintro e w19 ⟨v427, rfl, ho0, hb⟩; have n0_ := Aside0.mk (Kd.R_below (by (with_reducible repeat (first | apply Kd.R_alloc | apply Kd.R_drewN | apply Kd.R_drew)); exact HO_4.out) hb); have n1_ := Aside0.mk (Kd.R_elder' (by (with_reducible repeat (first | apply Kd.R_alloc | apply Kd.R_drewN | apply Kd.R_drew)); exact HO424.out) (Kd.R_base ho0) hb); have n2_ := Aside0.mk (Kd.R_lower (Kd.R_new' ho0 (Kd.R_lt (by (with_reducible repeat (first | apply Kd.R_alloc | apply Kd.R_drewN | apply Kd.R_drew)); exact HO424.out))) (below_size (by repeat (first | (with_reducible first | exact HB.out | apply below_alloc | apply pw_below_drewN | apply below_drew1) | exact HB.out)))); have n3_ := bs HB hb; clear HO_4; clear HO424; clear HB; have HO_4 := n0_; have HO424 := n1_; have HO428 := n2_; have HB := n3_; clear n0_ n1_ n2_ n3_; (try clear hb); (try clear hb2); (try clear hk); (try clear hi); (try clear ho0); obtain ⟨Ao20, co20, eo20⟩ := Kd.R_slice HO424.out; subst eo20; obtain ⟨Ao21, co21, eo21⟩ := Kd.R_slice HO428.out; subst eo21))
                repeat (go_quiet (first | (go_at_call 13; (with_reducible refine (plan_Target.calls k1 _ _ l0 t421 t422 _ ?side1 ?side2 A13.out).mono ?_); (case side1 => repeat (first | exact (Kd.C_below HR0.out HB.out) | (with_reducible refine Kd.C_alloc ?_ _) | (with_reducible refine Kd.C_drewN ?_ _) | (with_reducible refine Kd.C_drew ?_))); (case side2 => exact HC0.out); rintro e w17 ⟨v423, rfl, ho0, hb⟩; have n0_ := Aside0.mk (Kd.R_below (by (with_reducible repeat (first | apply Kd.R_alloc | apply Kd.R_drewN | apply Kd.R_drew)); exact HO_4.out) hb); have n1_ := Aside0.mk (Kd.R_lower ho0 (below_size (by repeat (first | (with_reducible first | exact HB.out | apply below_alloc | apply pw_below_drewN | apply below_drew1) | exact HB.out)))); have n2_ := bs HB hb; clear HO_4; clear HB; have HO_4 := n0_; have HO424 := n1_; have HB := n2_; clear n0_ n1_ n2_; (try clear hb); (try clear hb2); (try clear hk); (try clear hi); (try clear ho0); obtain ⟨Ao18, co18, eo18⟩ := Kd.R_slice HO_4.out; subst eo18) | (go_at_call 13; (with_reducible refine (plan_Target.calls k1 _ _ x4_1 t425 t426 _ ?side1 ?side2 A14.out).mono ?_); (case side1 => repeat (first | exact (Kd.R_reads' HO_4.out).2.2 | (with_reducible refine Kd.C_alloc ?_ _) | (with_reducible refine Kd.C_drewN ?_ _) | (with_reducible refine Kd.C_drew ?_))); (case side2 => exact (Kd.R_reads' HO_4.out).2.1); rintro e w19 ⟨v427, rfl, ho0, hb⟩; have n0_ := Aside0.mk (Kd.R_below (by (with_reducible repeat (first | apply Kd.R_alloc | apply Kd.R_drewN | apply Kd.R_drew)); exact HO_4.out) hb); have n1_ := Aside0.mk (Kd.R_elder' (by (with_reducible repeat (first | apply Kd.R_alloc | apply Kd.R_drewN | apply Kd.R_drew)); exact HO424.out) (Kd.R_base ho0) hb); have n2_ := Aside0.mk (Kd.R_lower (Kd.R_new' ho0 (Kd.R_lt (by (with_reducible repeat (first | apply Kd.R_alloc | apply Kd.R_drewN | apply Kd.R_drew)); exact HO424.out))) (below_size (by repeat (first | (with_reducible first | exact HB.out | apply below_alloc | apply pw_below_drewN | apply below_drew1) | exact HB.out)))); have n3_ := bs HB hb; clear HO_4; clear HO424; clear HB; have HO_4 := n0_; have HO424 := n1_; have HO428 := n2_; have HB := n3_; clear n0_ n1_ n2_ n3_; (try clear hb); (try clear hb2); (try clear hk); (try clear hi); (try clear ho0); obtain ⟨Ao20, co20, eo20⟩ := Kd.R_slice HO424.out; subst eo20; obtain ⟨Ao21, co21, eo21⟩ := Kd.R_slice HO428.out; subst eo21)); try go_wp2_with (first | (go_at_call 13; (with_reducible refine (plan_Target.calls k1 _ _ l0 t421 t422 _ ?side1 ?side2 A13.out).mono ?_); (case side1 => repeat (first | exact (Kd.C_below HR0.out HB.out) | (with_reducible refine Kd.C_alloc ?_ _) | (with_reducible refine Kd.C_drewN ?_ _) | (with_reducible refine Kd.C_drew ?_))); (case side2 => exact HC0.out); rintro e w17 ⟨v423, rfl, ho0, hb⟩; have n0_ := Aside0.mk (Kd.R_below (by (with_reducible repeat (first | apply Kd.R_alloc | apply Kd.R_drewN | apply Kd.R_drew)); exact HO_4.out) hb); have n1_ := Aside0.mk (Kd.R_lower ho0 (below_size (by repeat (first | (with_reducible first | exact HB.out | apply below_alloc | apply pw_below_drewN | apply below_drew1) | exact HB.out)))); have n2_ := bs HB hb; clear HO_4; clear HB; have HO_4 := n0_; have HO424 := n1_; have HB := n2_; clear n0_ n1_ n2_; (try clear hb); (try clear hb2); (try clear hk); (try clear hi); (try clear ho0); obtain ⟨Ao18, co18, eo18⟩ := Kd.R_slice HO_4.out; subst eo18) | (go_at_call 13; (with_reducible refine (plan_Target.calls k1 _ _ x4_1 t425 t426 _ ?side1 ?side2 A14.out).mono ?_); (case side1 => repeat (first | exact (Kd.R_reads' HO_4.out).2.2 | (with_reducible refine Kd.C_alloc ?_ _) | (with_reducible refine Kd.C_drewN ?_ _) | (with_reducible refine Kd.C_drew ?_))); (case side2 => exact (Kd.R_reads' HO_4.out).2.1); rintro e w19 ⟨v427, rfl, ho0, hb⟩; have n0_ := Aside0.mk (Kd.R_below (by (with_reducible repeat (first | apply Kd.R_alloc | apply Kd.R_drewN | apply Kd.R_drew)); exact HO_4.out) hb); have n1_ := Aside0.mk (Kd.R_elder' (by (with_reducible repeat (first | apply Kd.R_alloc | apply Kd.R_drewN | apply Kd.R_drew)); exact HO424.out) (Kd.R_base ho0) hb); have n2_ := Aside0.mk (Kd.R_lower (Kd.R_new' ho0 (Kd.R_lt (by (with_reducible repeat (first | apply Kd.R_alloc | apply Kd.R_drewN | apply Kd.R_drew)); exact HO424.out))) (below_size (by repeat (first | (with_reducible first | exact HB.out | apply below_alloc | apply pw_below_drewN | apply below_drew1) | exact HB.out)))); have n3_ := bs HB hb; clear HO_4; clear HO424; clear HB; have HO_4 := n0_; have HO424 := n1_; have HO428 := n2_; have HB := n3_; clear n0_ n1_ n2_ n3_; (try clear hb); (try clear hb2); (try clear hk); (try clear hi); (try clear ho0); obtain ⟨Ao20, co20, eo20⟩ := Kd.R_slice HO424.out; subst eo20; obtain ⟨Ao21, co21, eo21⟩ := Kd.R_slice HO428.out; subst eo21)))
                go_loopg [10] k1 (fun kq v10 w' => ∃ (x10_2 : Int), v10 = .int .i64 x10_2 ∧ Aside0 (fuseelaw10_PlanTurned.l1 kq t421 t425 x10_2 = some r) ∧ Aside0 (kq ≤ k1) ∧ Aside0 (Kd.R k42 42 w' w.heap.size (fun k_ => some k_ ≠ ((.slice Ao21 t425.length co21) : Value).ownBlock) (.slice Ao20 t421.length co20) t421) ∧ Aside0 (Kd.R k42 42 w' w.heap.size (fun k_ => some k_ ≠ ((.slice Ao20 t421.length co20) : Value).ownBlock) (.slice Ao21 t425.length co21) t425) ∧ Aside0 (Below w.heap.size w w'))
                case atStart => exact ⟨(0), (by first | rfl | (simp; done) | (simp [*]; done)), H', ⟨Nat.le_refl _⟩, ⟨by (with_reducible repeat (first | apply Kd.R_alloc | apply Kd.R_drewN | apply Kd.R_drew)); exact Kd.R_mono HO424.out (fun _ hk => hk.2)⟩, ⟨by (with_reducible repeat (first | apply Kd.R_alloc | apply Kd.R_drewN | apply Kd.R_drew)); exact Kd.R_mono HO428.out (fun _ hk => hk.2)⟩, ⟨by repeat (first | (with_reducible first | exact HB.out | apply below_alloc | apply pw_below_drewN | apply below_drew1) | exact HB.out)⟩⟩
                case round =>
                  clear H'
                  try clear c1
                  try clear p2
                  try clear c3
                  try clear c4
                  try clear c4b0
                  try clear c4b1
                  try clear p4
                  try clear q4
                  try clear hx4
                  try clear p6
                  try clear c7
                  try clear c7b0
                  try clear c9
                  try clear c9b0
                  try clear c10
                  try clear c10b0
                  try clear c11
                  try clear c15
                  try clear c15b0
                  try clear c15b1
                  try clear c16
                  try clear c16b0
                  try clear c16b1
                  try clear c16b2
                  try clear hx417_0
                  try clear hx417_1
                  try clear hx417_2
                  try clear hx417_3
                  try clear hx417_4
                  try clear hx417_5
                  try clear p2
                  try clear p417
                  try clear q417
                  obtain ⟨x10_2, rfl, HA, HK2, HO_6, HO_8, HB⟩ := hrel
                  cases gk with
                  | zero => exact absurd HA.out (by simp [fuseelaw10_PlanTurned.l1])
                  | succ k2 =>
                    have H := HA.out
                    clear HA
                    simp only [fuseelaw10_PlanTurned.l1] at H
                    by_cases c22 : x10_2 < (t421.length : Int)
                    · rw [if_pos c22] at H
                      have c22b0 : decide (x10_2 < (t421.length : Int)) = true := decide_eq_true c22
                      clear c22
                      by_cases c23 : 0 ≤ x10_2
                      · rw [if_pos c23] at H
                        have c23b0 : decide (0 ≤ x10_2) = true := decide_eq_true c23
                        clear c23
                        obtain ⟨ji24, hji24⟩ : ∃ j_ : Int, (wrap64 ((wrap64 ((t425.length : Int) - 1)) - x10_2)) = j_ := ⟨_, rfl⟩
                        replace H : (if 0 ≤ (ji24) then (if (ji24) < (t425.length : Int) then (if ((!(((rd_T42 t421 x10_2).f0.f0) == ((rd_T42 t425 (ji24)).f0.f0)) || (!(((rd_T42 t421 x10_2).f0.f1) == ((rd_T42 t425 (ji24)).f0.f1)) || (!(((rd_T42 t421 x10_2).f0.f2) == ((rd_T42 t425 (ji24)).f0.f2)) || (!(((rd_T42 t421 x10_2).f0.f3) == ((rd_T42 t425 (ji24)).f0.f3)) || (!(((rd_T42 t421 x10_2).f0.f4) == ((rd_T42 t425 (ji24)).f0.f4)) || (!(((rd_T42 t421 x10_2).f0.f5) == ((rd_T42 t425 (ji24)).f0.f5)))))))) || (!(((rd_T42 t421 x10_2).f1) == ((rd_T42 t425 (ji24)).f1)))) = true then (none) else (fuseelaw10_PlanTurned.l1 k2 t421 t425 (wrap64 (x10_2 + 1)))) else (none)) else (none)) = some r := by first | (rw [hji24] at H; exact H) | (simp only [hji24] at H ⊢; exact H)
                        have hji24w : (IntKind.i64.wrap ((wrap64 ((t425.length : Int) - 1)) - x10_2)) = ji24 := (i64_w _).trans hji24
                        by_cases c25 : 0 ≤ (ji24)
                        · rw [if_pos c25] at H
                          have c25b0 : decide (0 ≤ (ji24)) = true := decide_eq_true c25
                          clear c25
                          by_cases c26 : (ji24) < (t425.length : Int)
                          · rw [if_pos c26] at H
                            have c26b0 : decide ((ji24) < (t425.length : Int)) = true := decide_eq_true c26
                            clear c26
                            by_cases c27 : ((!(((rd_T42 t421 x10_2).f0.f0) == ((rd_T42 t425 (ji24)).f0.f0)) || (!(((rd_T42 t421 x10_2).f0.f1) == ((rd_T42 t425 (ji24)).f0.f1)) || (!(((rd_T42 t421 x10_2).f0.f2) == ((rd_T42 t425 (ji24)).f0.f2)) || (!(((rd_T42 t421 x10_2).f0.f3) == ((rd_T42 t425 (ji24)).f0.f3)) || (!(((rd_T42 t421 x10_2).f0.f4) == ((rd_T42 t425 (ji24)).f0.f4)) || (!(((rd_T42 t421 x10_2).f0.f5) == ((rd_T42 t425 (ji24)).f0.f5)))))))) || (!(((rd_T42 t421 x10_2).f1) == ((rd_T42 t425 (ji24)).f1)))) = true
                            · rw [if_pos c27] at H
                              exact absurd H (by simp)
                            · rw [if_neg c27] at H
                              have c27b0 : ((!(((rd_T42 t421 x10_2).f0.f0) == ((rd_T42 t425 (ji24)).f0.f0)) || (!(((rd_T42 t421 x10_2).f0.f1) == ((rd_T42 t425 (ji24)).f0.f1)) || (!(((rd_T42 t421 x10_2).f0.f2) == ((rd_T42 t425 (ji24)).f0.f2)) || (!(((rd_T42 t421 x10_2).f0.f3) == ((rd_T42 t425 (ji24)).f0.f3)) || (!(((rd_T42 t421 x10_2).f0.f4) == ((rd_T42 t425 (ji24)).f0.f4)) || (!(((rd_T42 t421 x10_2).f0.f5) == ((rd_T42 t425 (ji24)).f0.f5)))))))) || (!(((rd_T42 t421 x10_2).f1) == ((rd_T42 t425 (ji24)).f1)))) = false := by simpa using c27
                              clear c27
                              have H' := Aside0.mk H
                              clear H
                              have p429 : 0 ≤ (x10_2 : Int) := of_decide_eq_true (by first | (with_reducible assumption) | assumption)
                              have q429 : x10_2 < (t421.length : Int) := of_decide_eq_true (by first | (with_reducible assumption) | assumption)
                              obtain ⟨ad429, e429, hx429_0, hx429_1, hx429_2, hx429_3, hx429_4, hx429_5, hx429_6⟩ := at_T42 (Kd.R_reads' HO_6.out).2.2 x10_2 p429 q429
                              cases e429
                              replace p429 := eq_true p429
                              replace q429 := eq_true q429
                              have p430 : 0 ≤ ((ji24) : Int) := of_decide_eq_true (by first | (with_reducible assumption) | assumption)
                              have q430 : (ji24) < (t425.length : Int) := of_decide_eq_true (by first | (with_reducible assumption) | assumption)
                              obtain ⟨ad430, e430, hx430_0, hx430_1, hx430_2, hx430_3, hx430_4, hx430_5, hx430_6⟩ := at_T42 (Kd.R_reads' HO_8.out).2.2 (ji24) p430 q430
                              cases e430
                              replace p430 := eq_true p430
                              replace q430 := eq_true q430
                              go_wp2
                              repeat (go_quiet (fail); try go_wp2)
                              go_roundg k2
                              case measure => have := HK1.out; have := HK2.out; omega
                              case rel => exact ⟨(wrap64 (x10_2 + 1)), (by first | rfl | (simp; done) | (simp [*]; done)), H', ⟨by have := HK1.out; have := HK2.out; omega⟩, ⟨by (with_reducible repeat (first | apply Kd.R_alloc | apply Kd.R_drewN | apply Kd.R_drew)); exact HO_6.out⟩, ⟨by (with_reducible repeat (first | apply Kd.R_alloc | apply Kd.R_drewN | apply Kd.R_drew)); exact HO_8.out⟩, ⟨by repeat (first | (with_reducible first | exact HB.out | apply below_alloc | apply pw_below_drewN | apply below_drew1) | exact HB.out)⟩⟩
                          · rw [if_neg c26] at H
                            exact absurd H (by simp)
                        · rw [if_neg c25] at H
                          exact absurd H (by simp)
                      · rw [if_neg c23] at H
                        exact absurd H (by simp)
                    · rw [if_neg c22] at H
                      have c22b0 : decide (x10_2 < (t421.length : Int)) = false := decide_eq_false c22
                      clear c22
                      obtain rfl := Option.some.inj H
                      go_wp2
                      repeat (go_quiet (fail); try go_wp2)
                      go_ret
                      exact ⟨by first | rfl | (simp [errW_none, errW_some] <;> rfl) | (simp [*, errW_none, errW_some] <;> rfl) | (exfalso; first | contradiction | (revert c15b0 c16b0; simp +contextual; done)), by repeat (first | (with_reducible first | exact HB.out | apply below_alloc | apply pw_below_drewN | apply below_drew1) | exact HB.out)⟩
              · rw [if_neg c16] at H
                exact absurd H (by simp)
            · rw [if_neg c15] at H
              exact absurd H (by simp)
  · replace c3 := Bool.eq_false_iff.mpr c3
    subst c3
    rw [if_neg (show ¬ (false = true) by decide)] at H
    obtain rfl := Option.some.inj H
    go_enter Try.func7, Try.ntmps7
    go_wp2_with (first | (go_at_call 10; (with_reducible refine (fuseelaw10_awake.calls k  false _ A2.out).mono ?_); rintro e w28 ⟨rfl, hb⟩; have n0_ := bs HB hb; clear HB; have HB := n0_; clear n0_; (try clear hb); (try clear hb2); (try clear hk); (try clear hi)))
    repeat (go_quiet (first | (go_at_call 10; (with_reducible refine (fuseelaw10_awake.calls k  false _ A2.out).mono ?_); rintro e w28 ⟨rfl, hb⟩; have n0_ := bs HB hb; clear HB; have HB := n0_; clear n0_; (try clear hb); (try clear hb2); (try clear hk); (try clear hi))); try go_wp2_with (first | (go_at_call 10; (with_reducible refine (fuseelaw10_awake.calls k  false _ A2.out).mono ?_); rintro e w28 ⟨rfl, hb⟩; have n0_ := bs HB hb; clear HB; have HB := n0_; clear n0_; (try clear hb); (try clear hb2); (try clear hk); (try clear hi))))
    go_ret
    exact ⟨by first | rfl | (simp [errW_none, errW_some] <;> rfl) | (simp [*, errW_none, errW_some] <;> rfl) | (exfalso; contradiction), by repeat (first | (with_reducible first | exact HB.out | apply below_alloc | apply pw_below_drewN | apply below_drew1) | exact HB.out)⟩

end Go.Proofs.Ytaejikbfnlihmaa.P
