-- Written by a program of this session (hprint.py), out of the translation; functions that the print does not take are given by hand.
import Derived.Test.YtaejikbfnlihmaaPx0
import Derived.Test.YtaejikbfnlihmaaPx6
import Derived.Test.YtaejikbfnlihmaaPx7
namespace Go.Proofs.Ytaejikbfnlihmaa.P
open Go.RowKit Go.Proofs.YtaejikbfnlihmaaM Go.Proofs.YtaejikbfnlihmaaW.PrintWords Go.Proofs.YtaejikbfnlihmaaW.PrintLast Go.Proofs.YtaejikbfnlihmaaW.PrintMore
attribute [local go_sem] max2_int min2_int max_two min_two max_three min_three max_four min_four   -- for this text's walks alone
set_option linter.unusedVariables false
set_option linter.unusedSimpArgs false

/-! ### units_Fits: function 43 -/
def units_Fits.f (l0 : List Int) : Option (Bool) := (units_Sum.f l0).bind fun bt136 => (if bt136.2 = true then (some (decide (bt136.1 ≤ 983040))) else (some false))
set_option maxHeartbeats 8000000 in
set_option maxRecDepth 100000 in
theorem units_Fits.calls (A0 : Option Addr) (c0 : Nat) (l0 : List Int) (r : Bool) (w : World) (hr0 : Kd.C (Kd.int .i64) w A0 l0.length l0) (hc0 : l0.length ≤ c0) (h : units_Fits.f l0 = some r) :
    Calls Try.prog 43 #[.slice A0 l0.length c0] w fun e w' => e = .returned (.bool r) ∧ Below w.heap.size w w' := by
  have HR0 := Aside0.mk hr0
  have HC0 := Aside0.mk hc0
  clear hr0 hc0
  have HB := Aside0.mk (Below.refl w.heap.size w)
  have H : ((units_Sum.f l0).bind fun bt136 => (if bt136.2 = true then (some (decide (bt136.1 ≤ 983040))) else (some false))) = some r := h
  clear h
  replace H := Option.bind_eq_some_iff.mp H
  obtain ⟨⟨t136, t137⟩, A20, H⟩ := H
  try dsimp only at H
  have A2 := Aside0.mk A20
  clear A20
  by_cases c3 : t137 = true
  · subst c3
    rw [if_pos rfl] at H
    obtain rfl := Option.some.inj H
    go_enter Try.func43, Try.ntmps43
    go_wp2_with (first | ((with_reducible refine gate_callee (f := 50) rfl ?_); refine goesL_ (some 7) rfl rfl Try.func50 (by kernel_rfl) rfl #[.slice A0 l0.length c0] rfl (by (try simp only [List.map_toArray, List.map_cons, List.map_nil]); first | done | rfl | (simp only [List.length_drop, List.length_take]; rfl)) ?_; (with_reducible refine (units_Sum.calls _ _ l0 t136 true _ ?side1 ?side2 A2.out).mono ?_); (case side1 => repeat (first | exact HR0.out | (with_reducible refine Kd.C_alloc ?_ _) | (with_reducible refine Kd.C_drewN ?_ _) | (with_reducible refine Kd.C_drew ?_))); (case side2 => exact HC0.out); rintro e w4 ⟨rfl, hb⟩; refine ⟨_, rfl, ?_⟩; have n0_ := bs HB hb; clear HB; have HB := n0_; clear n0_; (try clear hb); (try clear hb2); (try clear hk); (try clear hi)))
    go_ret
    exact ⟨by first | rfl | (simp [errW_none, errW_some] <;> rfl) | (simp [*, errW_none, errW_some] <;> rfl) | (exfalso; contradiction), by repeat (first | (with_reducible first | exact HB.out | apply below_alloc | apply pw_below_drewN | apply below_drew1) | exact HB.out)⟩
  · replace c3 := Bool.eq_false_iff.mpr c3
    subst c3
    rw [if_neg (show ¬ (false = true) by decide)] at H
    obtain rfl := Option.some.inj H
    go_enter Try.func43, Try.ntmps43
    go_wp2_with (first | ((with_reducible refine gate_callee (f := 50) rfl ?_); refine goesL_ (some 7) rfl rfl Try.func50 (by kernel_rfl) rfl #[.slice A0 l0.length c0] rfl (by (try simp only [List.map_toArray, List.map_cons, List.map_nil]); first | done | rfl | (simp only [List.length_drop, List.length_take]; rfl)) ?_; (with_reducible refine (units_Sum.calls _ _ l0 t136 false _ ?side1 ?side2 A2.out).mono ?_); (case side1 => repeat (first | exact HR0.out | (with_reducible refine Kd.C_alloc ?_ _) | (with_reducible refine Kd.C_drewN ?_ _) | (with_reducible refine Kd.C_drew ?_))); (case side2 => exact HC0.out); rintro e w5 ⟨rfl, hb⟩; refine ⟨_, rfl, ?_⟩; have n0_ := bs HB hb; clear HB; have HB := n0_; clear n0_; (try clear hb); (try clear hb2); (try clear hk); (try clear hi)))
    go_ret
    exact ⟨by first | rfl | (simp [errW_none, errW_some] <;> rfl) | (simp [*, errW_none, errW_some] <;> rfl) | (exfalso; contradiction), by repeat (first | (with_reducible first | exact HB.out | apply below_alloc | apply pw_below_drewN | apply below_drew1) | exact HB.out)⟩

/-! ### demand_May: function 19 -/
def demand_May.l0 : Nat → List (S42) → List Int → List (S42) → Int → Int → Option (Bool)
  | 0, _, _, _, _, _ => none
  | k + 1, x0, x3, x6, x7, x8 => if x8 < x7 then (if 0 ≤ x8 then (if x8 < (x6.length : Int) then ((demand_may.f ((rd_T42 x6 x8).f0.f0) ((rd_T42 x6 x8).f0.f1) ((rd_T42 x6 x8).f0.f2) ((rd_T42 x6 x8).f0.f3) ((rd_T42 x6 x8).f0.f4) ((rd_T42 x6 x8).f0.f5) ((rd_T42 x6 x8).f1)).bind fun t141 => (if t141 = true then ((units_At.f ((rd_T42 x6 x8).f0.f0) ((rd_T42 x6 x8).f0.f1) ((rd_T42 x6 x8).f0.f2) ((rd_T42 x6 x8).f0.f3) ((rd_T42 x6 x8).f0.f4) ((rd_T42 x6 x8).f0.f5) ((rd_T42 x6 x8).f1)).bind fun t142 => (if x3.length < 17592186044416 then (demand_May.l0 k x0 (x3 ++ [t142]) x6 x7 (wrap64 (x8 + 1))) else (none))) else (some false))) else (none)) else (none)) else (if (x0.length : Int) ≤ 4 then ((units_Fits.f x3).bind fun t138 => (some t138)) else (some false))
def demand_May.f (k : Nat) (l0 : List (S42)) : Option (Bool) := demand_May.l0 k l0 ([] : List Int) l0 (l0.length : Int) 0
theorem demand_May.mono_l : ∀ k, (∀ y0 y1 y2 y3 y4, LeO (demand_May.l0 k y0 y1 y2 y3 y4) (demand_May.l0 (k + 1) y0 y1 y2 y3 y4))
  | 0 => fun _ _ _ _ _ r h => by simp [demand_May.l0] at h
  | k + 1 => by
    have ih0 := demand_May.mono_l k
    · intro y0 y1 y2 y3 y4
      unfold demand_May.l0
      repeat' first
      | (with_reducible exact ih0 _ _ _ _ _)
      | (with_reducible exact LeO.refl _)
      | (with_reducible exact LeO.none _)
      | (with_reducible refine LeO.ite ?_ ?_)
      | (with_reducible refine LeO.bind ?_ (fun _ => ?_))
      | exact ih0 _ _ _ _ _
      | exact LeO.none _
      | refine LeO.ite ?_ ?_
      | refine LeO.bind ?_ (fun _ => ?_)
theorem demand_May.mono : ∀ a0 k, LeO (demand_May.f k a0) (demand_May.f (k + 1) a0) := by
  intro a0 k
  have ih0 := demand_May.mono_l k
  unfold demand_May.f
  repeat' first
      | (with_reducible exact ih0 _ _ _ _ _)
      | (with_reducible exact LeO.refl _)
      | (with_reducible exact LeO.none _)
      | (with_reducible refine LeO.ite ?_ ?_)
      | (with_reducible refine LeO.bind ?_ (fun _ => ?_))
      | exact ih0 _ _ _ _ _
      | exact LeO.none _
      | refine LeO.ite ?_ ?_
      | refine LeO.bind ?_ (fun _ => ?_)
set_option maxHeartbeats 8000000 in
set_option maxRecDepth 100000 in
theorem demand_May.calls (k : Nat) (A0 : Option Addr) (c0 : Nat) (l0 : List (S42)) (r : Bool) (w : World) (hr0 : Kd.C k42 w A0 l0.length l0) (hc0 : l0.length ≤ c0) (h : demand_May.f k l0 = some r) :
    Calls Try.prog 19 #[.slice A0 l0.length c0] w fun e w' => e = .returned (.bool r) ∧ Below w.heap.size w w' := by
  have hu42 := Try.underlying42
  have hu40 := Try.underlying40
  have HR0 := Aside0.mk hr0
  have HC0 := Aside0.mk hc0
  clear hr0 hc0
  have HB := Aside0.mk (Below.refl w.heap.size w)
  have H : (demand_May.l0 k l0 ([] : List Int) l0 (l0.length : Int) 0) = some r := h
  clear h
  have H' := Aside0.mk H
  clear H
  go_enter Try.func19, Try.ntmps19
  go_wp2
  go_loopg [3, 8] k (fun kq v3 v8 w' => ∃ (x3_1 : List Int) (x8_1 : Int), v8 = .int .i64 x8_1 ∧ Aside0 (demand_May.l0 kq l0 x3_1 l0 (l0.length : Int) x8_1 = some r) ∧ Aside0 (kq ≤ k) ∧ Aside0 (Kd.R (Kd.int .i64) 3 w' w.heap.size (fun _ => True) v3 x3_1) ∧ Aside0 (Below w.heap.size w w'))
  case atStart => exact ⟨(([] : List Int)), (0), (by first | rfl | (simp; done) | (simp [*]; done)), H', ⟨Nat.le_refl _⟩, ⟨by first | exact Kd.R_nil _ _ _ _ _ | exact Kd.N_nil _ _ _ _ _ | exact Kd.V_nil _ _ _ _ _ | exact Kd.Q_nil _ _ _ _ _ | exact Kd.S_nil _ _ _ _ _⟩, ⟨by repeat (first | (with_reducible first | exact HB.out | apply below_alloc | apply pw_below_drewN | apply below_drew1) | exact HB.out)⟩⟩
  case round =>
    clear H'
    try clear c1
    obtain ⟨x3_1, x8_1, rfl, HA, HK1, HO_3, HB⟩ := hrel
    cases gk with
    | zero => exact absurd HA.out (by simp [demand_May.l0])
    | succ k1 =>
      have H := HA.out
      clear HA
      simp only [demand_May.l0] at H
      by_cases c2 : x8_1 < (l0.length : Int)
      · rw [if_pos c2] at H
        have c2b0 : decide (x8_1 < (l0.length : Int)) = true := decide_eq_true c2
        clear c2
        by_cases c3 : 0 ≤ x8_1
        · rw [if_pos c3] at H
          have c3b0 : decide (0 ≤ x8_1) = true := decide_eq_true c3
          clear c3
          by_cases c4 : x8_1 < (l0.length : Int)
          · rw [if_pos c4] at H
            have c4b0 : decide (x8_1 < (l0.length : Int)) = true := decide_eq_true c4
            clear c4
            replace H := Option.bind_eq_some_iff.mp H
            obtain ⟨t141, A50, H⟩ := H
            try dsimp only at H
            have A5 := Aside0.mk A50
            clear A50
            by_cases c6 : t141 = true
            · subst c6
              rw [if_pos rfl] at H
              replace H := Option.bind_eq_some_iff.mp H
              obtain ⟨t142, A70, H⟩ := H
              try dsimp only at H
              have A7 := Aside0.mk A70
              clear A70
              by_cases c8 : x3_1.length < 17592186044416
              · rw [if_pos c8] at H
                have LMc8 := Aside0.mk c8
                clear c8
                obtain ⟨y143, hy143⟩ : ∃ y_ : List Int, y_ = (x3_1 ++ [t142]) := ⟨_, rfl⟩
                replace H : (demand_May.l0 k1 l0 y143 l0 (l0.length : Int) (wrap64 (x8_1 + 1))) = some r := by first | (rw [hy143]; with_reducible exact H) | (have H2_ := (Option.bind_some _ _).symm.trans H; rw [hy143]; with_reducible exact H2_) | (have H2_ := (Option.bind_some _ _).symm.trans H; with_reducible exact H2_) | with_reducible exact H | (rw [hy143]; exact H) | exact H
                have Ny143 := Aside0.mk hy143
                clear hy143
                have H' := Aside0.mk H
                clear H
                have p139 : 0 ≤ (x8_1 : Int) := of_decide_eq_true (by first | (with_reducible assumption) | assumption)
                have q139 : x8_1 < (l0.length : Int) := of_decide_eq_true (by first | (with_reducible assumption) | assumption)
                obtain ⟨ad139, e139, hx139_0, hx139_1, hx139_2, hx139_3, hx139_4, hx139_5, hx139_6⟩ := at_T42 HR0.out x8_1 p139 q139
                cases e139
                replace hx139_0 := (HB.out.cell (World.block_lt_of_cell? w _ hx139_0)).trans hx139_0
                replace hx139_1 := (HB.out.cell (World.block_lt_of_cell? w _ hx139_1)).trans hx139_1
                replace hx139_2 := (HB.out.cell (World.block_lt_of_cell? w _ hx139_2)).trans hx139_2
                replace hx139_3 := (HB.out.cell (World.block_lt_of_cell? w _ hx139_3)).trans hx139_3
                replace hx139_4 := (HB.out.cell (World.block_lt_of_cell? w _ hx139_4)).trans hx139_4
                replace hx139_5 := (HB.out.cell (World.block_lt_of_cell? w _ hx139_5)).trans hx139_5
                replace hx139_6 := (HB.out.cell (World.block_lt_of_cell? w _ hx139_6)).trans hx139_6
                replace p139 := eq_true p139
                replace q139 := eq_true q139
                go_wp2_with (first | ((with_reducible refine gate_dst (N := 5) rfl ?_); refine box_event ?hg (N := 5) ?hd (cs := #[.int .i64 0, .int .i64 0, .int .i64 0, .int .i64 0, .int .i64 0, .int .i64 0, .int .i64 0]) (t := 42) ?hr ?_; (case hd => rfl); (case hg => rfl); (case hr => first | (go_simp; done) | (go_simp; rfl)); intro gb140 hg w9 hbox hb; have n0_ := Aside0.mk (Kd.R_below (by (with_reducible repeat (first | apply Kd.R_alloc | apply Kd.R_drewN | apply Kd.R_drew)); exact HO_3.out) hb); have n1_ := bs HB hb; have n2_ := Aside0.mk (hbox); have n3_ := bz HB hg; have n4_ := bz HB hg; clear HO_3; clear HB; have HO_3 := n0_; have HB := n1_; have BK140 := n2_; have GW140 := n3_; have GE140 := n4_; clear n0_ n1_ n2_ n3_ n4_; clear hb hbox hg; obtain ⟨hcz10_0, hcz10_1, hcz10_2, hcz10_3, hcz10_4, hcz10_5, hcz10_6⟩ := cc7 BK140; obtain ⟨hfz10_0, hfz10_1, hfz10_2, hfz10_3, hfz10_4, hfz10_5, hfz10_6⟩ := cf7 BK140) | ((with_reducible refine gate_callee (f := 42) rfl ?_); refine goesL_ (some 13) rfl rfl Try.func42 (by kernel_rfl) rfl #[.agg #[.int .i64 ((rd_T42 l0 x8_1).f0.f0), .int .i64 ((rd_T42 l0 x8_1).f0.f1), .int .i64 ((rd_T42 l0 x8_1).f0.f2), .int .i64 ((rd_T42 l0 x8_1).f0.f3), .int .i64 ((rd_T42 l0 x8_1).f0.f4), .int .i64 ((rd_T42 l0 x8_1).f0.f5), .int .i64 ((rd_T42 l0 x8_1).f1)]] rfl (by (try simp only [List.map_toArray, List.map_cons, List.map_nil]); first | done | rfl | (simp only [List.length_drop, List.length_take]; rfl)) ?_; (with_reducible refine (demand_may.calls ((rd_T42 l0 x8_1).f0.f0) ((rd_T42 l0 x8_1).f0.f1) ((rd_T42 l0 x8_1).f0.f2) ((rd_T42 l0 x8_1).f0.f3) ((rd_T42 l0 x8_1).f0.f4) ((rd_T42 l0 x8_1).f0.f5) ((rd_T42 l0 x8_1).f1) true _ A5.out).mono ?_); rintro e w11 ⟨rfl, hb⟩; refine ⟨_, rfl, ?_⟩; have n0_ := Aside0.mk (Kd.R_below (by (with_reducible repeat (first | apply Kd.R_alloc | apply Kd.R_drewN | apply Kd.R_drew)); exact (Kd.R_mono (Kd.R_far (p := ⟨gb140, 6, none⟩) (Kd.R_far (p := ⟨gb140, 5, none⟩) (Kd.R_far (p := ⟨gb140, 4, none⟩) (Kd.R_far (p := ⟨gb140, 3, none⟩) (Kd.R_far (p := ⟨gb140, 2, none⟩) (Kd.R_far (p := ⟨gb140, 1, none⟩) (Kd.R_far (p := ⟨gb140, 0, none⟩) (Kd.R_types HO_3.out BK140.out (by decide)) (fun _ hk => hk.2) (.int .i64 ((rd_T42 l0 x8_1).f0.f0))) (fun _ hk => hk.2) (.int .i64 ((rd_T42 l0 x8_1).f0.f1))) (fun _ hk => hk.2) (.int .i64 ((rd_T42 l0 x8_1).f0.f2))) (fun _ hk => hk.2) (.int .i64 ((rd_T42 l0 x8_1).f0.f3))) (fun _ hk => hk.2) (.int .i64 ((rd_T42 l0 x8_1).f0.f4))) (fun _ hk => hk.2) (.int .i64 ((rd_T42 l0 x8_1).f0.f5))) (fun _ hk => hk.2) (.int .i64 ((rd_T42 l0 x8_1).f1))) (fun _ h_ => h_.1))) hb); have n1_ := Aside0.mk (blk_below (g := gb140) (o := .cells #[.int .i64 ((rd_T42 l0 x8_1).f0.f0), .int .i64 ((rd_T42 l0 x8_1).f0.f1), .int .i64 ((rd_T42 l0 x8_1).f0.f2), .int .i64 ((rd_T42 l0 x8_1).f0.f3), .int .i64 ((rd_T42 l0 x8_1).f0.f4), .int .i64 ((rd_T42 l0 x8_1).f0.f5), .int .i64 ((rd_T42 l0 x8_1).f1)] 42 (0, 0)) (by (with_reducible repeat (first | refine bN ?_ _ | refine bD ?_ | refine bA ?_ _)); refine blk_put (cs := #[.int .i64 ((rd_T42 l0 x8_1).f0.f0), .int .i64 ((rd_T42 l0 x8_1).f0.f1), .int .i64 ((rd_T42 l0 x8_1).f0.f2), .int .i64 ((rd_T42 l0 x8_1).f0.f3), .int .i64 ((rd_T42 l0 x8_1).f0.f4), .int .i64 ((rd_T42 l0 x8_1).f0.f5), .int .i64 0]) ?_ 6 _ rfl; (with_reducible repeat (first | refine bN ?_ _ | refine bD ?_ | refine bA ?_ _)); refine blk_put (cs := #[.int .i64 ((rd_T42 l0 x8_1).f0.f0), .int .i64 ((rd_T42 l0 x8_1).f0.f1), .int .i64 ((rd_T42 l0 x8_1).f0.f2), .int .i64 ((rd_T42 l0 x8_1).f0.f3), .int .i64 ((rd_T42 l0 x8_1).f0.f4), .int .i64 0, .int .i64 0]) ?_ 5 _ rfl; (with_reducible repeat (first | refine bN ?_ _ | refine bD ?_ | refine bA ?_ _)); refine blk_put (cs := #[.int .i64 ((rd_T42 l0 x8_1).f0.f0), .int .i64 ((rd_T42 l0 x8_1).f0.f1), .int .i64 ((rd_T42 l0 x8_1).f0.f2), .int .i64 ((rd_T42 l0 x8_1).f0.f3), .int .i64 0, .int .i64 0, .int .i64 0]) ?_ 4 _ rfl; (with_reducible repeat (first | refine bN ?_ _ | refine bD ?_ | refine bA ?_ _)); refine blk_put (cs := #[.int .i64 ((rd_T42 l0 x8_1).f0.f0), .int .i64 ((rd_T42 l0 x8_1).f0.f1), .int .i64 ((rd_T42 l0 x8_1).f0.f2), .int .i64 0, .int .i64 0, .int .i64 0, .int .i64 0]) ?_ 3 _ rfl; (with_reducible repeat (first | refine bN ?_ _ | refine bD ?_ | refine bA ?_ _)); refine blk_put (cs := #[.int .i64 ((rd_T42 l0 x8_1).f0.f0), .int .i64 ((rd_T42 l0 x8_1).f0.f1), .int .i64 0, .int .i64 0, .int .i64 0, .int .i64 0, .int .i64 0]) ?_ 2 _ rfl; (with_reducible repeat (first | refine bN ?_ _ | refine bD ?_ | refine bA ?_ _)); refine blk_put (cs := #[.int .i64 ((rd_T42 l0 x8_1).f0.f0), .int .i64 0, .int .i64 0, .int .i64 0, .int .i64 0, .int .i64 0, .int .i64 0]) ?_ 1 _ rfl; (with_reducible repeat (first | refine bN ?_ _ | refine bD ?_ | refine bA ?_ _)); refine blk_put (cs := #[.int .i64 0, .int .i64 0, .int .i64 0, .int .i64 0, .int .i64 0, .int .i64 0, .int .i64 0]) ?_ 0 _ rfl; (with_reducible repeat (first | refine bN ?_ _ | refine bD ?_ | refine bA ?_ _)); exact BK140.out) hb); have n2_ := bs HB hb; clear HO_3; clear BK140; clear HB; have HO_3 := n0_; have BK140 := n1_; have HB := n2_; clear n0_ n1_ n2_; (try clear hb); (try clear hb2); (try clear hk); (try clear hi); (try clear hcz10_0 hcz10_1 hcz10_2 hcz10_3 hcz10_4 hcz10_5 hcz10_6 hfz10_0 hfz10_1 hfz10_2 hfz10_3 hfz10_4 hfz10_5 hfz10_6); have hcz12_0 : w11.cell? ⟨gb140, 0, none⟩ = some (.int .i64 ((rd_T42 l0 x8_1).f0.f0)) := (blk_cell BK140.out 0).trans rfl; have hcz12_1 : w11.cell? ⟨gb140, 1, none⟩ = some (.int .i64 ((rd_T42 l0 x8_1).f0.f1)) := (blk_cell BK140.out 1).trans rfl; have hcz12_2 : w11.cell? ⟨gb140, 2, none⟩ = some (.int .i64 ((rd_T42 l0 x8_1).f0.f2)) := (blk_cell BK140.out 2).trans rfl; have hcz12_3 : w11.cell? ⟨gb140, 3, none⟩ = some (.int .i64 ((rd_T42 l0 x8_1).f0.f3)) := (blk_cell BK140.out 3).trans rfl; have hcz12_4 : w11.cell? ⟨gb140, 4, none⟩ = some (.int .i64 ((rd_T42 l0 x8_1).f0.f4)) := (blk_cell BK140.out 4).trans rfl; have hcz12_5 : w11.cell? ⟨gb140, 5, none⟩ = some (.int .i64 ((rd_T42 l0 x8_1).f0.f5)) := (blk_cell BK140.out 5).trans rfl; have hcz12_6 : w11.cell? ⟨gb140, 6, none⟩ = some (.int .i64 ((rd_T42 l0 x8_1).f1)) := (blk_cell BK140.out 6).trans rfl; obtain ⟨hfz12_0, hfz12_1, hfz12_2, hfz12_3, hfz12_4, hfz12_5, hfz12_6⟩ := cf7 BK140) | ((with_reducible refine gate_callee (f := 25) rfl ?_); refine goesL_ (some 20) rfl rfl Try.func25 (by kernel_rfl) rfl #[.agg #[.int .i64 ((rd_T42 l0 x8_1).f0.f0), .int .i64 ((rd_T42 l0 x8_1).f0.f1), .int .i64 ((rd_T42 l0 x8_1).f0.f2), .int .i64 ((rd_T42 l0 x8_1).f0.f3), .int .i64 ((rd_T42 l0 x8_1).f0.f4), .int .i64 ((rd_T42 l0 x8_1).f0.f5)], .int .i64 ((rd_T42 l0 x8_1).f1)] rfl (by (try simp only [List.map_toArray, List.map_cons, List.map_nil]); first | done | rfl | (simp only [List.length_drop, List.length_take]; rfl)) ?_; (with_reducible refine (units_At.calls ((rd_T42 l0 x8_1).f0.f0) ((rd_T42 l0 x8_1).f0.f1) ((rd_T42 l0 x8_1).f0.f2) ((rd_T42 l0 x8_1).f0.f3) ((rd_T42 l0 x8_1).f0.f4) ((rd_T42 l0 x8_1).f0.f5) ((rd_T42 l0 x8_1).f1) t142 _ A7.out).mono ?_); rintro e w13 ⟨rfl, hb⟩; refine ⟨_, rfl, ?_⟩; have n0_ := Aside0.mk (Kd.R_below (by (with_reducible repeat (first | apply Kd.R_alloc | apply Kd.R_drewN | apply Kd.R_drew)); exact HO_3.out) hb); have n1_ := bb BK140 hb; have n2_ := bs HB hb; clear HO_3; clear BK140; clear HB; have HO_3 := n0_; have BK140 := n1_; have HB := n2_; clear n0_ n1_ n2_; (try clear hb); (try clear hb2); (try clear hk); (try clear hi)) | ((with_reducible refine gate_builtin (b := .append) (xs := #[.tmp 15, .tmp 21]) rfl ?_); at_builtin; refine Kd.R_append (Kd.int .i64) (w0 := w) w.heap.size rfl (.tmp 15) (.tmp 21) 55 3 (.int .i64 0) 8 rfl Try.underlying55 info3 rfl (by decide) (by omega) u3 x3_1 t142 [.int .i64 t142] (fun _ => True) (fun _ => False) rfl rfl ?aP (fun _ hk => hk.elim) ?aF ?aO ?aB ?aS ?aL ?_; (case aP => exact rfl); (case aB => exact (by repeat (first | (with_reducible first | exact HB.out | apply below_alloc | apply pw_below_drewN | apply below_drew1 | refine below_set ?_ GE140.out) | exact HB.out))); (case aF => exact (fun _ _ => trivial)); (case aO => exact (by (with_reducible repeat (first | apply Kd.R_alloc | apply Kd.R_drewN | apply Kd.R_drew)); exact HO_3.out)); (case aS => exact (below_size (by repeat (first | (with_reducible first | exact HB.out | apply below_alloc | apply pw_below_drewN | apply below_drew1 | refine below_set ?_ GE140.out) | exact HB.out)))); (case aL => have := LMc8.out; omega); intro v144 w14 ho hb hg hat; rw [← Ny143.out] at ho; have n0_ := Aside0.mk (blk_grown (g := gb140) (o := .cells #[.int .i64 ((rd_T42 l0 x8_1).f0.f0), .int .i64 ((rd_T42 l0 x8_1).f0.f1), .int .i64 ((rd_T42 l0 x8_1).f0.f2), .int .i64 ((rd_T42 l0 x8_1).f0.f3), .int .i64 ((rd_T42 l0 x8_1).f0.f4), .int .i64 ((rd_T42 l0 x8_1).f0.f5), .int .i64 ((rd_T42 l0 x8_1).f1)] 42 (0, 0)) (by (with_reducible repeat (first | refine bN ?_ _ | refine bD ?_ | refine bA ?_ _)); exact BK140.out) hg (Kd.R_ne HO_3.out BK140.out (by decide))); have n1_ := Aside0.mk (hb); have n2_ := Aside0.mk (ho); clear BK140; clear HB; clear HO_3; have BK140 := n0_; have HB := n1_; have HO145 := n2_; clear n0_ n1_ n2_; clear ho hb hg hat))
                go_roundg k1
                case measure => have := HK1.out; omega
                case rel => exact ⟨(y143), (wrap64 (x8_1 + 1)), (by first | rfl | (simp; done) | (simp [*]; done)), H', ⟨by have := HK1.out; omega⟩, ⟨by (with_reducible repeat (first | apply Kd.R_alloc | apply Kd.R_drewN | apply Kd.R_drew)); exact HO145.out⟩, ⟨by repeat (first | (with_reducible first | exact HB.out | apply below_alloc | apply pw_below_drewN | apply below_drew1 | refine below_set ?_ GE140.out) | exact HB.out)⟩⟩
              · rw [if_neg c8] at H
                exact absurd H (by simp)
            · replace c6 := Bool.eq_false_iff.mpr c6
              subst c6
              rw [if_neg (show ¬ (false = true) by decide)] at H
              obtain rfl := Option.some.inj H
              have p139 : 0 ≤ (x8_1 : Int) := of_decide_eq_true (by first | (with_reducible assumption) | assumption)
              have q139 : x8_1 < (l0.length : Int) := of_decide_eq_true (by first | (with_reducible assumption) | assumption)
              obtain ⟨ad139, e139, hx139_0, hx139_1, hx139_2, hx139_3, hx139_4, hx139_5, hx139_6⟩ := at_T42 HR0.out x8_1 p139 q139
              cases e139
              replace hx139_0 := (HB.out.cell (World.block_lt_of_cell? w _ hx139_0)).trans hx139_0
              replace hx139_1 := (HB.out.cell (World.block_lt_of_cell? w _ hx139_1)).trans hx139_1
              replace hx139_2 := (HB.out.cell (World.block_lt_of_cell? w _ hx139_2)).trans hx139_2
              replace hx139_3 := (HB.out.cell (World.block_lt_of_cell? w _ hx139_3)).trans hx139_3
              replace hx139_4 := (HB.out.cell (World.block_lt_of_cell? w _ hx139_4)).trans hx139_4
              replace hx139_5 := (HB.out.cell (World.block_lt_of_cell? w _ hx139_5)).trans hx139_5
              replace hx139_6 := (HB.out.cell (World.block_lt_of_cell? w _ hx139_6)).trans hx139_6
              replace p139 := eq_true p139
              replace q139 := eq_true q139
              go_wp2_with (first | ((with_reducible refine gate_dst (N := 5) rfl ?_); refine box_event ?hg (N := 5) ?hd (cs := #[.int .i64 0, .int .i64 0, .int .i64 0, .int .i64 0, .int .i64 0, .int .i64 0, .int .i64 0]) (t := 42) ?hr ?_; (case hd => rfl); (case hg => rfl); (case hr => first | (go_simp; done) | (go_simp; rfl)); intro gb140 hg w15 hbox hb; have n0_ := Aside0.mk (Kd.R_below (by (with_reducible repeat (first | apply Kd.R_alloc | apply Kd.R_drewN | apply Kd.R_drew)); exact HO_3.out) hb); have n1_ := bs HB hb; have n2_ := Aside0.mk (hbox); have n3_ := bz HB hg; have n4_ := bz HB hg; clear HO_3; clear HB; have HO_3 := n0_; have HB := n1_; have BK140 := n2_; have GW140 := n3_; have GE140 := n4_; clear n0_ n1_ n2_ n3_ n4_; clear hb hbox hg; obtain ⟨hcz16_0, hcz16_1, hcz16_2, hcz16_3, hcz16_4, hcz16_5, hcz16_6⟩ := cc7 BK140; obtain ⟨hfz16_0, hfz16_1, hfz16_2, hfz16_3, hfz16_4, hfz16_5, hfz16_6⟩ := cf7 BK140) | ((with_reducible refine gate_callee (f := 42) rfl ?_); refine goesL_ (some 13) rfl rfl Try.func42 (by kernel_rfl) rfl #[.agg #[.int .i64 ((rd_T42 l0 x8_1).f0.f0), .int .i64 ((rd_T42 l0 x8_1).f0.f1), .int .i64 ((rd_T42 l0 x8_1).f0.f2), .int .i64 ((rd_T42 l0 x8_1).f0.f3), .int .i64 ((rd_T42 l0 x8_1).f0.f4), .int .i64 ((rd_T42 l0 x8_1).f0.f5), .int .i64 ((rd_T42 l0 x8_1).f1)]] rfl (by (try simp only [List.map_toArray, List.map_cons, List.map_nil]); first | done | rfl | (simp only [List.length_drop, List.length_take]; rfl)) ?_; (with_reducible refine (demand_may.calls ((rd_T42 l0 x8_1).f0.f0) ((rd_T42 l0 x8_1).f0.f1) ((rd_T42 l0 x8_1).f0.f2) ((rd_T42 l0 x8_1).f0.f3) ((rd_T42 l0 x8_1).f0.f4) ((rd_T42 l0 x8_1).f0.f5) ((rd_T42 l0 x8_1).f1) false _ A5.out).mono ?_); rintro e w17 ⟨rfl, hb⟩; refine ⟨_, rfl, ?_⟩; have n0_ := Aside0.mk (Kd.R_below (by (with_reducible repeat (first | apply Kd.R_alloc | apply Kd.R_drewN | apply Kd.R_drew)); exact (Kd.R_mono (Kd.R_far (p := ⟨gb140, 6, none⟩) (Kd.R_far (p := ⟨gb140, 5, none⟩) (Kd.R_far (p := ⟨gb140, 4, none⟩) (Kd.R_far (p := ⟨gb140, 3, none⟩) (Kd.R_far (p := ⟨gb140, 2, none⟩) (Kd.R_far (p := ⟨gb140, 1, none⟩) (Kd.R_far (p := ⟨gb140, 0, none⟩) (Kd.R_types HO_3.out BK140.out (by decide)) (fun _ hk => hk.2) (.int .i64 ((rd_T42 l0 x8_1).f0.f0))) (fun _ hk => hk.2) (.int .i64 ((rd_T42 l0 x8_1).f0.f1))) (fun _ hk => hk.2) (.int .i64 ((rd_T42 l0 x8_1).f0.f2))) (fun _ hk => hk.2) (.int .i64 ((rd_T42 l0 x8_1).f0.f3))) (fun _ hk => hk.2) (.int .i64 ((rd_T42 l0 x8_1).f0.f4))) (fun _ hk => hk.2) (.int .i64 ((rd_T42 l0 x8_1).f0.f5))) (fun _ hk => hk.2) (.int .i64 ((rd_T42 l0 x8_1).f1))) (fun _ h_ => h_.1))) hb); have n1_ := Aside0.mk (blk_below (g := gb140) (o := .cells #[.int .i64 ((rd_T42 l0 x8_1).f0.f0), .int .i64 ((rd_T42 l0 x8_1).f0.f1), .int .i64 ((rd_T42 l0 x8_1).f0.f2), .int .i64 ((rd_T42 l0 x8_1).f0.f3), .int .i64 ((rd_T42 l0 x8_1).f0.f4), .int .i64 ((rd_T42 l0 x8_1).f0.f5), .int .i64 ((rd_T42 l0 x8_1).f1)] 42 (0, 0)) (by (with_reducible repeat (first | refine bN ?_ _ | refine bD ?_ | refine bA ?_ _)); refine blk_put (cs := #[.int .i64 ((rd_T42 l0 x8_1).f0.f0), .int .i64 ((rd_T42 l0 x8_1).f0.f1), .int .i64 ((rd_T42 l0 x8_1).f0.f2), .int .i64 ((rd_T42 l0 x8_1).f0.f3), .int .i64 ((rd_T42 l0 x8_1).f0.f4), .int .i64 ((rd_T42 l0 x8_1).f0.f5), .int .i64 0]) ?_ 6 _ rfl; (with_reducible repeat (first | refine bN ?_ _ | refine bD ?_ | refine bA ?_ _)); refine blk_put (cs := #[.int .i64 ((rd_T42 l0 x8_1).f0.f0), .int .i64 ((rd_T42 l0 x8_1).f0.f1), .int .i64 ((rd_T42 l0 x8_1).f0.f2), .int .i64 ((rd_T42 l0 x8_1).f0.f3), .int .i64 ((rd_T42 l0 x8_1).f0.f4), .int .i64 0, .int .i64 0]) ?_ 5 _ rfl; (with_reducible repeat (first | refine bN ?_ _ | refine bD ?_ | refine bA ?_ _)); refine blk_put (cs := #[.int .i64 ((rd_T42 l0 x8_1).f0.f0), .int .i64 ((rd_T42 l0 x8_1).f0.f1), .int .i64 ((rd_T42 l0 x8_1).f0.f2), .int .i64 ((rd_T42 l0 x8_1).f0.f3), .int .i64 0, .int .i64 0, .int .i64 0]) ?_ 4 _ rfl; (with_reducible repeat (first | refine bN ?_ _ | refine bD ?_ | refine bA ?_ _)); refine blk_put (cs := #[.int .i64 ((rd_T42 l0 x8_1).f0.f0), .int .i64 ((rd_T42 l0 x8_1).f0.f1), .int .i64 ((rd_T42 l0 x8_1).f0.f2), .int .i64 0, .int .i64 0, .int .i64 0, .int .i64 0]) ?_ 3 _ rfl; (with_reducible repeat (first | refine bN ?_ _ | refine bD ?_ | refine bA ?_ _)); refine blk_put (cs := #[.int .i64 ((rd_T42 l0 x8_1).f0.f0), .int .i64 ((rd_T42 l0 x8_1).f0.f1), .int .i64 0, .int .i64 0, .int .i64 0, .int .i64 0, .int .i64 0]) ?_ 2 _ rfl; (with_reducible repeat (first | refine bN ?_ _ | refine bD ?_ | refine bA ?_ _)); refine blk_put (cs := #[.int .i64 ((rd_T42 l0 x8_1).f0.f0), .int .i64 0, .int .i64 0, .int .i64 0, .int .i64 0, .int .i64 0, .int .i64 0]) ?_ 1 _ rfl; (with_reducible repeat (first | refine bN ?_ _ | refine bD ?_ | refine bA ?_ _)); refine blk_put (cs := #[.int .i64 0, .int .i64 0, .int .i64 0, .int .i64 0, .int .i64 0, .int .i64 0, .int .i64 0]) ?_ 0 _ rfl; (with_reducible repeat (first | refine bN ?_ _ | refine bD ?_ | refine bA ?_ _)); exact BK140.out) hb); have n2_ := bs HB hb; clear HO_3; clear BK140; clear HB; have HO_3 := n0_; have BK140 := n1_; have HB := n2_; clear n0_ n1_ n2_; (try clear hb); (try clear hb2); (try clear hk); (try clear hi)))
              go_ret
              exact ⟨by first | rfl | (simp [errW_none, errW_some] <;> rfl) | (simp [*, errW_none, errW_some] <;> rfl) | (exfalso; contradiction), by repeat (first | (with_reducible first | exact HB.out | apply below_alloc | apply pw_below_drewN | apply below_drew1 | refine below_set ?_ GE140.out) | exact HB.out)⟩
          · rw [if_neg c4] at H
            exact absurd H (by simp)
        · rw [if_neg c3] at H
          exact absurd H (by simp)
      · rw [if_neg c2] at H
        have c2b0 : decide (x8_1 < (l0.length : Int)) = false := decide_eq_false c2
        clear c2
        by_cases c18 : (l0.length : Int) ≤ 4
        · rw [if_pos c18] at H
          have c18b0 : decide ((l0.length : Int) ≤ 4) = true := decide_eq_true c18
          have c18b1 : decide (l0.length ≤ 4) = true := decide_eq_true (by omega)
          clear c18
          replace H := Option.bind_eq_some_iff.mp H
          obtain ⟨t138, A190, H⟩ := H
          try dsimp only at H
          have A19 := Aside0.mk A190
          clear A190
          obtain rfl := Option.some.inj H
          obtain ⟨Ao20, co20, eo20⟩ := Kd.R_slice HO_3.out
          subst eo20
          go_wp2_with (first | (go_at_call 43; (with_reducible refine (units_Fits.calls _ _ x3_1 t138 _ ?side1 ?side2 A19.out).mono ?_); (case side1 => repeat (first | exact (Kd.R_reads' HO_3.out).2.2 | (with_reducible refine Kd.C_alloc ?_ _) | (with_reducible refine Kd.C_drewN ?_ _) | (with_reducible refine Kd.C_drew ?_))); (case side2 => exact (Kd.R_reads' HO_3.out).2.1); rintro e w21 ⟨rfl, hb⟩; have n0_ := Aside0.mk (Kd.R_below (by (with_reducible repeat (first | apply Kd.R_alloc | apply Kd.R_drewN | apply Kd.R_drew)); exact HO_3.out) hb); have n1_ := bs HB hb; clear HO_3; clear HB; have HO_3 := n0_; have HB := n1_; clear n0_ n1_; (try clear hb); (try clear hb2); (try clear hk); (try clear hi)))
          go_ret
          exact ⟨by first | rfl | (simp [errW_none, errW_some] <;> rfl) | (simp [*, errW_none, errW_some] <;> rfl) | (exfalso; contradiction), by repeat (first | (with_reducible first | exact HB.out | apply below_alloc | apply pw_below_drewN | apply below_drew1) | exact HB.out)⟩
        · rw [if_neg c18] at H
          have c18b0 : decide ((l0.length : Int) ≤ 4) = false := decide_eq_false c18
          have c18b1 : decide (l0.length ≤ 4) = false := decide_eq_false (by omega)
          clear c18
          obtain rfl := Option.some.inj H
          go_wp2
          go_ret
          exact ⟨by first | rfl | (simp [errW_none, errW_some] <;> rfl) | (simp [*, errW_none, errW_some] <;> rfl) | (exfalso; contradiction), by repeat (first | (with_reducible first | exact HB.out | apply below_alloc | apply pw_below_drewN | apply below_drew1) | exact HB.out)⟩

-- NOT PRINTED: function 97 (period_steps_each)

/-! ### period_list: function 88 -/
def period_list.num (a0 a1 a2 : Int) : Nat := ((a2 - a0) / a1 + 1).toNat
def period_list.nums (a0 a1 : Int) (m : Nat) : List Int := (List.range m).map fun (i : Nat) => a0 + (i : Int) * a1
theorem period_list.nums_succ (a0 a1 : Int) (m : Nat) : period_list.nums a0 a1 (m + 1) = period_list.nums a0 a1 m ++ [a0 + (m : Int) * a1] := by
  unfold period_list.nums; rw [List.range_succ, List.map_append]; rfl
theorem period_list.nums_len (a0 a1 : Int) (m : Nat) : (period_list.nums a0 a1 m).length = m := by unfold period_list.nums; simp
theorem period_list.le_iff {a0 a1 a2 : Int} (h : 1 ≤ a1) (k : Nat) : a0 + (k : Int) * a1 ≤ a2 ↔ k < period_list.num a0 a1 a2 := by
  unfold period_list.num
  have := Int.le_ediv_iff_mul_le (a := (k : Int)) (b := a2 - a0) (c := a1) (by omega)
  constructor
  · intro q
    have := this.2 (by omega)
    omega
  · intro q
    have := this.1 (by omega)
    omega
theorem period_list.num_nil : period_list.nums 0 1 0 = [] := rfl
def period_list.f (a0_0 : Int) (a0_1 : Int) (a0_2 : Int) : Option (List Int) :=
  if 1 ≤ a0_1 ∧ 0 ≤ a0_0 ∧ a0_0 ≤ 2199023255552 ∧ a0_1 ≤ 2199023255552 ∧ a0_2 ≤ 2199023255552 ∧ (period_list.num a0_0 a0_1 a0_2 : Nat) ≤ 10000 then some (period_list.nums a0_0 a0_1 (period_list.num a0_0 a0_1 a0_2)) else none
section

attribute [local go_sem] Oper.semAt_some
def period_list.Kp (n₀ Bn : Nat) (W W' : World) : Prop := Below n₀ W W' ∧ ∀ cs, W.heap[Bn]? = some (.cells cs 99 (0, 0)) → W'.heap[Bn]? = some (.cells cs 99 (0, 0))
theorem period_list.Kp_t {n₀ Bn : Nat} {A B C : World} (h : period_list.Kp n₀ Bn A B) (k : period_list.Kp n₀ Bn B C) : period_list.Kp n₀ Bn A C := ⟨h.1.trans k.1, fun cs q => k.2 cs (h.2 cs q)⟩
theorem period_list.Kp_b {n₀ Bn : Nat} {w : World} (hn : n₀ ≤ w.heap.size) (W : World) (l : Nat) (o o' : Obj) (hl : w.heap.size ≤ l) (h : W.heap[l]? = some o) (hc : o.isCells = false) (hw : o.isWalk = false) : period_list.Kp n₀ Bn W (W.putObj l o') :=
  ⟨belowK_b hn W l o o' hl h hc hw, fun cs q => by
    have : Bn ≠ l := fun e => by subst e; rw [q] at h; cases h; cases hc
    exact (World.putObj_heap_other this).trans q⟩
set_option maxRecDepth 100000 in
set_option maxHeartbeats 4000000 in
/-- The iterator: for every body that keeps the numbers. -/
theorem period_list.each1_in (F : Fence) (n : Nat) (h6 : F.fn 102) (hro : F.round = none) (hn : 1 ≤ n) (l Bn n₀ : Nat) (a0 a1 a2 : Int) (h1 : 1 ≤ a1) (h2 : 0 ≤ a0) (h3 : a0 ≤ 2199023255552) (h4 : a1 ≤ 2199023255552) (h5 : a2 ≤ 2199023255552) (J Jx : List Int → World → Prop)
    (hY : ∀ pre x W, J pre W → pre.length < period_list.num a0 a1 a2 → YieldAt F (n - 1) Try.prog l #[.int .i64 x] W fun e W' =>
      (e = .returned (.bool true) ∧ J (pre ++ [x]) W' ∧ period_list.Kp n₀ Bn W W') ∨ (e = .returned (.bool false) ∧ Jx (pre ++ [x]) W'))
    (W : World) (hBn : W.heap[Bn]? = some (.cells #[.int .i64 a0, .int .i64 a1, .int .i64 a2] 99 (0, 0))) (h0 : J [] W) :
    CallsIn F n Try.prog 102 #[.func (.yield l) #[] #[], .pointer (some ⟨Bn, 0, none⟩)] W fun e W' => (∃ v, e = .returned v) ∧
      ((∃ ys, ys = period_list.nums a0 a1 (period_list.num a0 a1 a2) ∧ J ys W') ∨ (∃ pre, True ∧ Jx pre W')) := by
  have hB := Aside0.mk hBn
  have c0 : W.cell? ⟨Bn, 0, none⟩ = some (.int .i64 a0) := (blk_cell hBn 0).trans rfl
  have c1 : W.cell? ⟨Bn, 1, none⟩ = some (.int .i64 a1) := (blk_cell hBn 1).trans rfl
  have c2 : W.cell? ⟨Bn, 2, none⟩ = some (.int .i64 a2) := (blk_cell hBn 2).trans rfl
  have hu := Try.underlying99
  clear hBn
  refine callsIn_of_wp Try.func102 rfl h6 ?_ hro
  simp only [Try.ntmps102, List.size_toArray, List.length_cons, List.length_nil, Nat.reduceAdd, Nat.reduceSub, Array.replicate_succ, Array.replicate_zero, List.push_toArray, List.append_toArray, List.nil_append, List.cons_append]
  gi_wp2
  clear c0 c1 c2
  gi_loopw [3] (fun p wr => ∃ (k : Nat) (x : Int), p = .int .i64 x ∧ Aside0 (x = a0 + (k : Int) * a1 ∧ k ≤ period_list.num a0 a1 a2 ∧ J (period_list.nums a0 a1 k) wr ∧ wr.heap[Bn]? = some (.cells #[.int .i64 a0, .int .i64 a1, .int .i64 a2] 99 (0, 0))))
    (fun p _ => (a2 + a1 - intOf p).toNat)
  case atStart =>
    exact ⟨0, a0, rfl, ⟨by simp, by omega, h0, hB.out⟩⟩
  case round =>
    obtain ⟨k, x, rfl, G⟩ := hrel
    have hb := Aside0.mk G.out.2.2.2
    have c0 : wr.cell? ⟨Bn, 0, none⟩ = some (.int .i64 a0) := (blk_cell hb.out 0).trans rfl
    have c1 : wr.cell? ⟨Bn, 1, none⟩ = some (.int .i64 a1) := (blk_cell hb.out 1).trans rfl
    have c2 : wr.cell? ⟨Bn, 2, none⟩ = some (.int .i64 a2) := (blk_cell hb.out 2).trans rfl
    have hle := period_list.le_iff (a0 := a0) (a2 := a2) h1 k
    rw [← G.out.1] at hle
    by_cases c : x ≤ a2
    · have hk : k < period_list.num a0 a1 a2 := hle.1 c
      obtain ⟨fn, tmps, assign, body, hy, hR⟩ := hY _ x wr G.out.2.2.1 (by rw [period_list.nums_len]; exact hk)
      have hx0 : 0 ≤ x := by
        have := Int.mul_nonneg (Int.natCast_nonneg k) (show 0 ≤ a1 by omega)
        have := G.out.1
        omega
      have hns := Aside0.mk (show period_list.nums a0 a1 k ++ [x] = period_list.nums a0 a1 (k + 1) by rw [period_list.nums_succ, G.out.1])
      have hxs := Aside0.mk (show x + a1 = a0 + ((k + 1 : Nat) : Int) * a1 by rw [G.out.1, Int.natCast_add, Int.add_mul]; omega)
      have HK := Aside0.mk hk
      clear hle hk G
      gi_wp2
      refine hR.mono ?_
      rintro e W3 (⟨rfl, hJ3, hk3⟩ | ⟨rfl, hJx3⟩)
      · have hb3 := Aside0.mk (hk3.2 _ hb.out)
        have HJ3 := Aside0.mk hJ3
        clear hk3 hJ3 c0 c1 c2
        have c0 : W3.cell? ⟨Bn, 0, none⟩ = some (.int .i64 a0) := (blk_cell hb3.out 0).trans rfl
        have c1 : W3.cell? ⟨Bn, 1, none⟩ = some (.int .i64 a1) := (blk_cell hb3.out 1).trans rfl
        have c2 : W3.cell? ⟨Bn, 2, none⟩ = some (.int .i64 a2) := (blk_cell hb3.out 2).trans rfl
        gi_wp2
        go_roundw
        case rel => exact ⟨k + 1, x + a1, rfl, ⟨hxs.out, HK.out, by rw [← hns.out]; exact HJ3.out, hb3.out⟩⟩
        case measure => simp [intOf]; omega
      · have HJ3 := Aside0.mk hJx3
        clear hJx3
        gi_wp2
        go_end0
        exact ⟨⟨_, rfl⟩, .inr ⟨_, trivial, HJ3.out⟩⟩
    · have hk : k = period_list.num a0 a1 a2 := by
        have := G.out.2.1
        have : ¬ k < period_list.num a0 a1 a2 := fun q => c (hle.2 q)
        omega
      have d1 : decide (x ≤ a2) = false := decide_eq_false c
      have HJ := Aside0.mk (show J (period_list.nums a0 a1 (period_list.num a0 a1 a2)) wr by rw [← hk]; exact G.out.2.2.1)
      clear hle hk G c
      gi_wp2
      all_goals
        refine ⟨fun _ h => (by cases h), ?_⟩
        gi_wp2
        go_end0
        exact ⟨⟨_, rfl⟩, .inl ⟨_, rfl, HJ.out⟩⟩
set_option maxHeartbeats 1000000 in
/-- The function that hands back the iterator. -/
theorem period_list.each_in (F : Fence) (n : Nat) (h5 : F.fn 97) (hro : F.round = none) (a0 a1 a2 : Int) (w : World) :
    CallsIn F n Try.prog 97 #[.agg #[.int .i64 a0, .int .i64 a1, .int .i64 a2]] w fun e w' => e = .returned (.func (.func 102) #[] #[.pointer (some ⟨w.heap.size, 0, none⟩)]) ∧ w' = w.alloc (.cells #[.int .i64 a0, .int .i64 a1, .int .i64 a2] 99) := by
  have hu := Try.underlying99
  have hmf : ∀ (fn : Fn) (first cap : Array Value) (w : World), (Instr.makeFunc fn first cap).run Try.prog w = .ok (.func fn first cap) w := fun _ _ _ _ => rfl
  refine callsIn_of_wp Try.func97 rfl h5 ?_ hro
  simp only [Try.ntmps97, List.size_toArray, List.length_cons, List.length_nil, Nat.reduceAdd, Nat.reduceSub, Array.replicate_succ, Array.replicate_zero, List.push_toArray, List.append_toArray, List.nil_append, List.cons_append]
  gi_wp2
  go_ret
  exact ⟨rfl, rfl⟩
theorem period_list.stops (F : Fence) (n : Nat) (h6 : F.fn 102) (hro : F.round = none) (hn : 1 ≤ n) (Bn n₀ : Nat) (a0 a1 a2 : Int) (h1 : 1 ≤ a1) (h2 : 0 ≤ a0) (h3 : a0 ≤ 2199023255552) (h4 : a1 ≤ 2199023255552) (h5 : a2 ≤ 2199023255552) (w : World) (hBn : Bn < w.heap.size)
    (hc : w.heap[Bn]? = some (.cells #[.int .i64 a0, .int .i64 a1, .int .i64 a2] 99 (0, 0))) :
    SeqStopsK F n Try.prog 102 #[.pointer (some ⟨Bn, 0, none⟩)] (fun x : Int => #[Value.int .i64 x]) (period_list.Kp n₀ Bn) (fun ys => ys = period_list.nums a0 a1 (period_list.num a0 a1 a2)) (fun _ => True) (period_list.num a0 a1 a2) w := fun l J Jx W hW _ _ hY h0 =>
  period_list.each1_in F n h6 hro hn l Bn n₀ a0 a1 a2 h1 h2 h3 h4 h5 J Jx hY W (blk_below hc hW) h0
set_option maxRecDepth 100000 in
set_option maxHeartbeats 4000000 in
theorem period_list.list_in (F : Fence) (n : Nat) (h3 : F.fn 88) (h4 : F.fn 97) (h5 : F.fn 102) (hro : F.round = none) (hn : 3 ≤ n) (a0 a1 a2 : Int) (g1 : 1 ≤ a1) (g2 : 0 ≤ a0) (g3 : a0 ≤ 2199023255552) (g4 : a1 ≤ 2199023255552) (g5 : a2 ≤ 2199023255552) (g6 : period_list.num a0 a1 a2 ≤ 10000) (w : World) :
    CallsIn F n Try.prog 88 #[.agg #[.int .i64 a0, .int .i64 a1, .int .i64 a2]] w fun e W' => ∃ v, e = .returned v ∧ W'.ownsRow w.heap.size 3 1 v (period_list.nums a0 a1 (period_list.num a0 a1 a2)).length ((period_list.nums a0 a1 (period_list.num a0 a1 a2)).map (Value.int .i64)) ∧ Below w.heap.size w W' := by
  have h1 : 1 ≤ n := by omega
  have hu := Try.underlying99
  have inf : (Try.prog.info? 3).map (fun i => (i.zero, i.size, i.bytes)) = some (some (.int .i64 0), 1, 8) := by kernel_rfl
  obtain ⟨i0, hi, hz0, hz1, hz2⟩ := info_parts inf
  clear inf
  refine callsIn_of_wp_marks Try.func88 rfl h3 ?_ hro
  simp only [Try.ntmps88, List.size_toArray, List.length_cons, List.length_nil, Nat.reduceAdd, Nat.reduceSub, Array.replicate_succ, Array.replicate_zero, List.push_toArray, List.append_toArray, List.nil_append, List.cons_append]
  gi_wp2_with fail
  refine (period_list.each_in F (n - 1) h4 hro a0 a1 a2 _).mono ?_
  rintro e w' ⟨rfl, rfl⟩
  gi_wp2_with fail
  have bO := Boxed.new (w.alloc (.cells #[.int .i64 a0, .int .i64 a1, .int .i64 a2] 99)) 55 (.slice none 0 0)
  rw [World.size_alloc] at bO
  have hbn := blk_new ((w.alloc (.cells #[.int .i64 a0, .int .i64 a1, .int .i64 a2] 99)).alloc (.cells #[.slice none 0 0] 55)) (.cells #[.int .i64 a0, .int .i64 a1, .int .i64 a2] 99)
  rw [World.size_alloc, World.size_alloc] at hbn
  have hB0 : Below w.heap.size w (((w.alloc (.cells #[.int .i64 a0, .int .i64 a1, .int .i64 a2] 99)).alloc (.cells #[.slice none 0 0] 55)).alloc (.cells #[.int .i64 a0, .int .i64 a1, .int .i64 a2] 99)) := below_alloc (below_alloc (below_alloc (Below.refl _ w) _) _) _
  refine wpIn_rangeFunc_ownG hro h1 (gf := 102) (lb := #[.pointer (some ⟨w.heap.size + 1 + 1, 0, none⟩)]) rfl h5 (Go.Proofs.enters_of Try.func102 (by kernel_rfl) rfl)
    (period_list.stops F (n - 1) h5 hro (by omega) (w.heap.size + 1 + 1) w.heap.size a0 a1 a2 g1 g2 g3 g4 g5 _ (by simp) hbn) period_list.Kp_t (period_list.Kp_b (by simp; omega)) (Below.refl _ _) (fun _ => rfl)
    (fun pre W => (∃ v, Boxed W (w.heap.size + 1) 55 v ∧ W.ownsRow w.heap.size 3 1 v pre.length (pre.map (Value.int .i64)) ∧ True) ∧ Below w.heap.size w W)
    (fun _ _ _ => False)
    (OwnFrom.and (Own.from (holdsRow_own w.heap.size (w.heap.size + 1) 55 3 1 (fun (pre : List Int) => pre.length) (fun (pre : List Int) => pre.map (Value.int .i64)) (fun pre v => True)) _) (ownFrom_below (Nat.le_refl _) (by simp; omega)))
    (fun _ _ _ _ _ hs _ _ => hs)
    ⟨⟨_, bO.alloc _, World.ownsRow_nil _ _ _ _, trivial⟩, hB0⟩
    (fun x => { tmps := #[.agg #[.int .i64 a0, .int .i64 a1, .int .i64 a2], .pointer (some ⟨w.heap.size, 0, none⟩), .slice none 0 0, .func (.func 97) #[] #[], .pointer (some ⟨w.heap.size + 1, 0, none⟩), .int .i64 x, .func (.func 97) #[] #[], .agg #[.int .i64 a0, .int .i64 a1, .int .i64 a2], .func (.func 102) #[] #[.pointer (some ⟨w.heap.size + 1 + 1, 0, none⟩)], .int .i64 x, undef, undef, undef, undef, undef], defers := [] }) ?assign ?body ?done ?stop
  case assign =>
    intro l x W K hK
    gi_wp2
    exact hK
  case body =>
    rintro l pre x W ⟨⟨v, hv, hrow, _⟩, hB⟩ hlt
    have hc := hv.cell
    have hpl : pre.length ≤ 10000 := by omega
    gi_wp2_with (gi_at_builtin; refine wpListIn_append_own _ rfl _ _ 55 rfl w.heap.size 3 i0 (.int .i64 0) 1 8 Try.underlying55 hi hz0 hz1 hz2 rfl (by decide) _ _ _ rfl (hrow.alloc _) ⟨W.heap.size, 0, none⟩ 1 1 [.int .i64 x] rfl rfl (cell_one_new _ _ _) (by simp [Value.oneCell']) (by unfold maxLen; omega) (by omega) (by have := hB.size; simp; omega) ?_; intro v' w1 hown' hgrow _; obtain ⟨g', cap', rfl⟩ := ownsRow_succ hown'; obtain ⟨hv1, hv2, hr2, hk2, hb2⟩ := hv.appended (by decide) hrow hB.size (by omega) hown' hgrow; have hc1 := hv1.cell; have hf1 := hv1.frozen)
    refine ⟨hk2.from _, ⟨hb2, fun cs q => ?_⟩, ⟨⟨_, hv2, by simpa using hr2, trivial⟩, hB.trans hb2⟩⟩
    exact blk_far (blk_grown (blk_alloc q _) hgrow (own_ne hrow q (by decide))) (by simp) _
  case done =>
    rintro D ys W hD rfl ⟨⟨v, hv, hrow, _⟩, hB⟩ hK
    have hc := hv.cell
    gi_wp2
    refine ⟨by simp, .inl ⟨_, _, rfl, run_takeDeferred hK, ?_⟩⟩
    exact ⟨_, results_tmp rfl _ _ _, v, rfl, ownsRow_putObj hrow _ hK rfl, hB.trans (belowK_b (w := w) (Nat.le_refl _) W D _ _ (by simp at hD; omega) hK rfl rfl)⟩
  case stop =>
    rintro D c pre W _ _ h _
    exact h.elim
end
theorem period_list.calls (a0_0 : Int) (a0_1 : Int) (a0_2 : Int) (r : List Int) (w : World) (h : period_list.f a0_0 a0_1 a0_2 = some r) :
    Calls Try.prog 88 #[.agg #[.int .i64 a0_0, .int .i64 a0_1, .int .i64 a0_2]] w fun e w' => ∃ v0_ : Value, e = .returned (v0_) ∧ Kd.R (Kd.int .i64) 3 w' w.heap.size (fun _ => True) v0_ r ∧ Below w.heap.size w w' := by
  unfold period_list.f at h
  split at h
  case isTrue c =>
    obtain rfl := Option.some.inj h
    refine (callsIn_wide (n := 3)).1 ?_
    refine (period_list.list_in Fence.wide 3 trivial trivial trivial rfl (by omega) a0_0 a0_1 a0_2 c.1 c.2.1 c.2.2.1 c.2.2.2.1 c.2.2.2.2.1 c.2.2.2.2.2 w).mono ?_
    rintro e w' ⟨v, rfl, ho, hb⟩
    exact ⟨v, rfl, Kd.R_of_own ho (fun _ _ => trivial), hb⟩
  case isFalse c => cases h

/-! ### period_Ends: function 65 -/
def period_Ends.f (a0_0 : Int) (a0_1 : Int) (a0_2 : Int) (a0_3 : Int) (a0_4 : Int) (a0_5 : Int) (a1 : Int) (a2 : Int) (a3 : Int) : Option (List Int) := (units_At.f a0_0 a0_1 a0_2 a0_3 a0_4 a0_5 a1).bind fun t147 => (if t147 = 0 then (some ([] : List Int)) else (if a2 < 0 then (some ([] : List Int)) else (if a2 > a3 then (some ([] : List Int)) else (if a3 > 1099511627776 then (some ([] : List Int)) else (if (wrap64 (a3 - a2)) > 5000 then (some ([] : List Int)) else ((period_list.f (wrap64 (a2 + a1)) a1 a3).bind fun t148 => (some t148)))))))
set_option maxHeartbeats 8000000 in
set_option maxRecDepth 100000 in
theorem period_Ends.calls (a0_0 : Int) (a0_1 : Int) (a0_2 : Int) (a0_3 : Int) (a0_4 : Int) (a0_5 : Int) (a1 : Int) (a2 : Int) (a3 : Int) (r : List Int) (w : World) (h : period_Ends.f a0_0 a0_1 a0_2 a0_3 a0_4 a0_5 a1 a2 a3 = some r) :
    Calls Try.prog 65 #[.agg #[.int .i64 a0_0, .int .i64 a0_1, .int .i64 a0_2, .int .i64 a0_3, .int .i64 a0_4, .int .i64 a0_5], .int .i64 a1, .int .i64 a2, .int .i64 a3] w fun e w' => ∃ v0_ : Value, e = .returned (v0_) ∧ Kd.R (Kd.int .i64) 3 w' w.heap.size (fun _ => True) v0_ r ∧ Below w.heap.size w w' := by
  have hu40 := Try.underlying40
  have hu99 := Try.underlying99
  have HB := Aside0.mk (Below.refl w.heap.size w)
  have H : ((units_At.f a0_0 a0_1 a0_2 a0_3 a0_4 a0_5 a1).bind fun t147 => (if t147 = 0 then (some ([] : List Int)) else (if a2 < 0 then (some ([] : List Int)) else (if a2 > a3 then (some ([] : List Int)) else (if a3 > 1099511627776 then (some ([] : List Int)) else (if (wrap64 (a3 - a2)) > 5000 then (some ([] : List Int)) else ((period_list.f (wrap64 (a2 + a1)) a1 a3).bind fun t148 => (some t148)))))))) = some r := h
  clear h
  replace H := Option.bind_eq_some_iff.mp H
  obtain ⟨t147, A50, H⟩ := H
  try dsimp only at H
  have A5 := Aside0.mk A50
  clear A50
  by_cases c6 : t147 = 0
  · rw [if_pos c6] at H
    have c6b0 : (t147 == 0) = true := beq_iff_eq.mpr c6
    have c6b1 : (t147 != 0) = false := bne_eq_false_iff_eq.mpr c6
    clear c6
    obtain rfl := Option.some.inj H
    go_enter Try.func65, Try.ntmps65
    go_wp2_with (first | ((with_reducible refine gate_dst (N := 4) rfl ?_); refine box_event ?hg (N := 4) ?hd (cs := #[.int .i64 a0_0, .int .i64 a0_1, .int .i64 a0_2, .int .i64 a0_3, .int .i64 a0_4, .int .i64 a0_5]) (t := 40) ?hr ?_; (case hd => rfl); (case hg => rfl); (case hr => first | (go_simp; done) | (go_simp; rfl)); intro gb146 hg w7 hbox hb; have n0_ := bs HB hb; have n1_ := Aside0.mk (hbox); have n2_ := bz HB hg; have n3_ := bz HB hg; clear HB; have HB := n0_; have BK146 := n1_; have GW146 := n2_; have GE146 := n3_; clear n0_ n1_ n2_ n3_; clear hb hbox hg; obtain ⟨hcz8_0, hcz8_1, hcz8_2, hcz8_3, hcz8_4, hcz8_5⟩ := cc6 BK146; obtain ⟨hfz8_0, hfz8_1, hfz8_2, hfz8_3, hfz8_4, hfz8_5⟩ := cf6 BK146) | ((with_reducible refine gate_callee (f := 25) rfl ?_); refine goesL_ (some 11) rfl rfl Try.func25 (by kernel_rfl) rfl #[.agg #[.int .i64 a0_0, .int .i64 a0_1, .int .i64 a0_2, .int .i64 a0_3, .int .i64 a0_4, .int .i64 a0_5], .int .i64 a1] rfl (by (try simp only [List.map_toArray, List.map_cons, List.map_nil]); first | done | rfl | (simp only [List.length_drop, List.length_take]; rfl)) ?_; (with_reducible refine (units_At.calls a0_0 a0_1 a0_2 a0_3 a0_4 a0_5 a1 t147 _ A5.out).mono ?_); rintro e w9 ⟨rfl, hb⟩; refine ⟨_, rfl, ?_⟩; have n0_ := bb BK146 hb; have n1_ := bs HB hb; clear BK146; clear HB; have BK146 := n0_; have HB := n1_; clear n0_ n1_; (try clear hb); (try clear hb2); (try clear hk); (try clear hi)))
    go_ret
    exact ⟨_, by first | rfl | (simp [errW_none, errW_some] <;> rfl) | (simp [*, errW_none, errW_some] <;> rfl) | (exfalso; contradiction), by first | exact Kd.R_nil _ _ _ _ _ | exact Kd.N_nil _ _ _ _ _ | exact Kd.V_nil _ _ _ _ _ | exact Kd.Q_nil _ _ _ _ _ | exact Kd.S_nil _ _ _ _ _, by repeat (first | (with_reducible first | exact HB.out | apply below_alloc | apply pw_below_drewN | apply below_drew1 | refine below_set ?_ GE146.out) | exact HB.out)⟩
  · rw [if_neg c6] at H
    have c6b0 : (t147 == 0) = false := beq_eq_false_iff_ne.mpr c6
    have c6b1 : (t147 != 0) = true := bne_iff_ne.mpr c6
    by_cases c10 : a2 < 0
    · rw [if_pos c10] at H
      have c10b0 : decide (a2 < 0) = true := decide_eq_true c10
      clear c10
      obtain rfl := Option.some.inj H
      go_enter Try.func65, Try.ntmps65
      go_wp2_with (first | ((with_reducible refine gate_dst (N := 4) rfl ?_); refine box_event ?hg (N := 4) ?hd (cs := #[.int .i64 a0_0, .int .i64 a0_1, .int .i64 a0_2, .int .i64 a0_3, .int .i64 a0_4, .int .i64 a0_5]) (t := 40) ?hr ?_; (case hd => rfl); (case hg => rfl); (case hr => first | (go_simp; done) | (go_simp; rfl)); intro gb146 hg w11 hbox hb; have n0_ := bs HB hb; have n1_ := Aside0.mk (hbox); have n2_ := bz HB hg; have n3_ := bz HB hg; clear HB; have HB := n0_; have BK146 := n1_; have GW146 := n2_; have GE146 := n3_; clear n0_ n1_ n2_ n3_; clear hb hbox hg; obtain ⟨hcz12_0, hcz12_1, hcz12_2, hcz12_3, hcz12_4, hcz12_5⟩ := cc6 BK146; obtain ⟨hfz12_0, hfz12_1, hfz12_2, hfz12_3, hfz12_4, hfz12_5⟩ := cf6 BK146) | ((with_reducible refine gate_callee (f := 25) rfl ?_); refine goesL_ (some 11) rfl rfl Try.func25 (by kernel_rfl) rfl #[.agg #[.int .i64 a0_0, .int .i64 a0_1, .int .i64 a0_2, .int .i64 a0_3, .int .i64 a0_4, .int .i64 a0_5], .int .i64 a1] rfl (by (try simp only [List.map_toArray, List.map_cons, List.map_nil]); first | done | rfl | (simp only [List.length_drop, List.length_take]; rfl)) ?_; (with_reducible refine (units_At.calls a0_0 a0_1 a0_2 a0_3 a0_4 a0_5 a1 t147 _ A5.out).mono ?_); rintro e w13 ⟨rfl, hb⟩; refine ⟨_, rfl, ?_⟩; have n0_ := bb BK146 hb; have n1_ := bs HB hb; clear BK146; clear HB; have BK146 := n0_; have HB := n1_; clear n0_ n1_; (try clear hb); (try clear hb2); (try clear hk); (try clear hi)))
      go_ret
      exact ⟨_, by first | rfl | (simp [errW_none, errW_some] <;> rfl) | (simp [*, errW_none, errW_some] <;> rfl) | (exfalso; contradiction), by first | exact Kd.R_nil _ _ _ _ _ | exact Kd.N_nil _ _ _ _ _ | exact Kd.V_nil _ _ _ _ _ | exact Kd.Q_nil _ _ _ _ _ | exact Kd.S_nil _ _ _ _ _, by repeat (first | (with_reducible first | exact HB.out | apply below_alloc | apply pw_below_drewN | apply below_drew1 | refine below_set ?_ GE146.out) | exact HB.out)⟩
    · rw [if_neg c10] at H
      have c10b0 : decide (a2 < 0) = false := decide_eq_false c10
      clear c10
      by_cases c14 : a2 > a3
      · rw [if_pos c14] at H
        have c14b0 : decide (a3 < a2) = true := decide_eq_true c14
        clear c14
        obtain rfl := Option.some.inj H
        go_enter Try.func65, Try.ntmps65
        go_wp2_with (first | ((with_reducible refine gate_dst (N := 4) rfl ?_); refine box_event ?hg (N := 4) ?hd (cs := #[.int .i64 a0_0, .int .i64 a0_1, .int .i64 a0_2, .int .i64 a0_3, .int .i64 a0_4, .int .i64 a0_5]) (t := 40) ?hr ?_; (case hd => rfl); (case hg => rfl); (case hr => first | (go_simp; done) | (go_simp; rfl)); intro gb146 hg w15 hbox hb; have n0_ := bs HB hb; have n1_ := Aside0.mk (hbox); have n2_ := bz HB hg; have n3_ := bz HB hg; clear HB; have HB := n0_; have BK146 := n1_; have GW146 := n2_; have GE146 := n3_; clear n0_ n1_ n2_ n3_; clear hb hbox hg; obtain ⟨hcz16_0, hcz16_1, hcz16_2, hcz16_3, hcz16_4, hcz16_5⟩ := cc6 BK146; obtain ⟨hfz16_0, hfz16_1, hfz16_2, hfz16_3, hfz16_4, hfz16_5⟩ := cf6 BK146) | ((with_reducible refine gate_callee (f := 25) rfl ?_); refine goesL_ (some 11) rfl rfl Try.func25 (by kernel_rfl) rfl #[.agg #[.int .i64 a0_0, .int .i64 a0_1, .int .i64 a0_2, .int .i64 a0_3, .int .i64 a0_4, .int .i64 a0_5], .int .i64 a1] rfl (by (try simp only [List.map_toArray, List.map_cons, List.map_nil]); first | done | rfl | (simp only [List.length_drop, List.length_take]; rfl)) ?_; (with_reducible refine (units_At.calls a0_0 a0_1 a0_2 a0_3 a0_4 a0_5 a1 t147 _ A5.out).mono ?_); rintro e w17 ⟨rfl, hb⟩; refine ⟨_, rfl, ?_⟩; have n0_ := bb BK146 hb; have n1_ := bs HB hb; clear BK146; clear HB; have BK146 := n0_; have HB := n1_; clear n0_ n1_; (try clear hb); (try clear hb2); (try clear hk); (try clear hi)))
        go_ret
        exact ⟨_, by first | rfl | (simp [errW_none, errW_some] <;> rfl) | (simp [*, errW_none, errW_some] <;> rfl) | (exfalso; contradiction), by first | exact Kd.R_nil _ _ _ _ _ | exact Kd.N_nil _ _ _ _ _ | exact Kd.V_nil _ _ _ _ _ | exact Kd.Q_nil _ _ _ _ _ | exact Kd.S_nil _ _ _ _ _, by repeat (first | (with_reducible first | exact HB.out | apply below_alloc | apply pw_below_drewN | apply below_drew1 | refine below_set ?_ GE146.out) | exact HB.out)⟩
      · rw [if_neg c14] at H
        have c14b0 : decide (a3 < a2) = false := decide_eq_false c14
        clear c14
        by_cases c18 : a3 > 1099511627776
        · rw [if_pos c18] at H
          have c18b0 : decide (1099511627776 < a3) = true := decide_eq_true c18
          clear c18
          obtain rfl := Option.some.inj H
          go_enter Try.func65, Try.ntmps65
          go_wp2_with (first | ((with_reducible refine gate_dst (N := 4) rfl ?_); refine box_event ?hg (N := 4) ?hd (cs := #[.int .i64 a0_0, .int .i64 a0_1, .int .i64 a0_2, .int .i64 a0_3, .int .i64 a0_4, .int .i64 a0_5]) (t := 40) ?hr ?_; (case hd => rfl); (case hg => rfl); (case hr => first | (go_simp; done) | (go_simp; rfl)); intro gb146 hg w19 hbox hb; have n0_ := bs HB hb; have n1_ := Aside0.mk (hbox); have n2_ := bz HB hg; have n3_ := bz HB hg; clear HB; have HB := n0_; have BK146 := n1_; have GW146 := n2_; have GE146 := n3_; clear n0_ n1_ n2_ n3_; clear hb hbox hg; obtain ⟨hcz20_0, hcz20_1, hcz20_2, hcz20_3, hcz20_4, hcz20_5⟩ := cc6 BK146; obtain ⟨hfz20_0, hfz20_1, hfz20_2, hfz20_3, hfz20_4, hfz20_5⟩ := cf6 BK146) | ((with_reducible refine gate_callee (f := 25) rfl ?_); refine goesL_ (some 11) rfl rfl Try.func25 (by kernel_rfl) rfl #[.agg #[.int .i64 a0_0, .int .i64 a0_1, .int .i64 a0_2, .int .i64 a0_3, .int .i64 a0_4, .int .i64 a0_5], .int .i64 a1] rfl (by (try simp only [List.map_toArray, List.map_cons, List.map_nil]); first | done | rfl | (simp only [List.length_drop, List.length_take]; rfl)) ?_; (with_reducible refine (units_At.calls a0_0 a0_1 a0_2 a0_3 a0_4 a0_5 a1 t147 _ A5.out).mono ?_); rintro e w21 ⟨rfl, hb⟩; refine ⟨_, rfl, ?_⟩; have n0_ := bb BK146 hb; have n1_ := bs HB hb; clear BK146; clear HB; have BK146 := n0_; have HB := n1_; clear n0_ n1_; (try clear hb); (try clear hb2); (try clear hk); (try clear hi)))
          go_ret
          exact ⟨_, by first | rfl | (simp [errW_none, errW_some] <;> rfl) | (simp [*, errW_none, errW_some] <;> rfl) | (exfalso; contradiction), by first | exact Kd.R_nil _ _ _ _ _ | exact Kd.N_nil _ _ _ _ _ | exact Kd.V_nil _ _ _ _ _ | exact Kd.Q_nil _ _ _ _ _ | exact Kd.S_nil _ _ _ _ _, by repeat (first | (with_reducible first | exact HB.out | apply below_alloc | apply pw_below_drewN | apply below_drew1 | refine below_set ?_ GE146.out) | exact HB.out)⟩
        · rw [if_neg c18] at H
          have c18b0 : decide (1099511627776 < a3) = false := decide_eq_false c18
          clear c18
          by_cases c22 : (wrap64 (a3 - a2)) > 5000
          · rw [if_pos c22] at H
            have c22b0 : decide (5000 < (wrap64 (a3 - a2))) = true := decide_eq_true c22
            clear c22
            obtain rfl := Option.some.inj H
            go_enter Try.func65, Try.ntmps65
            go_wp2_with (first | ((with_reducible refine gate_dst (N := 4) rfl ?_); refine box_event ?hg (N := 4) ?hd (cs := #[.int .i64 a0_0, .int .i64 a0_1, .int .i64 a0_2, .int .i64 a0_3, .int .i64 a0_4, .int .i64 a0_5]) (t := 40) ?hr ?_; (case hd => rfl); (case hg => rfl); (case hr => first | (go_simp; done) | (go_simp; rfl)); intro gb146 hg w23 hbox hb; have n0_ := bs HB hb; have n1_ := Aside0.mk (hbox); have n2_ := bz HB hg; have n3_ := bz HB hg; clear HB; have HB := n0_; have BK146 := n1_; have GW146 := n2_; have GE146 := n3_; clear n0_ n1_ n2_ n3_; clear hb hbox hg; obtain ⟨hcz24_0, hcz24_1, hcz24_2, hcz24_3, hcz24_4, hcz24_5⟩ := cc6 BK146; obtain ⟨hfz24_0, hfz24_1, hfz24_2, hfz24_3, hfz24_4, hfz24_5⟩ := cf6 BK146) | ((with_reducible refine gate_callee (f := 25) rfl ?_); refine goesL_ (some 11) rfl rfl Try.func25 (by kernel_rfl) rfl #[.agg #[.int .i64 a0_0, .int .i64 a0_1, .int .i64 a0_2, .int .i64 a0_3, .int .i64 a0_4, .int .i64 a0_5], .int .i64 a1] rfl (by (try simp only [List.map_toArray, List.map_cons, List.map_nil]); first | done | rfl | (simp only [List.length_drop, List.length_take]; rfl)) ?_; (with_reducible refine (units_At.calls a0_0 a0_1 a0_2 a0_3 a0_4 a0_5 a1 t147 _ A5.out).mono ?_); rintro e w25 ⟨rfl, hb⟩; refine ⟨_, rfl, ?_⟩; have n0_ := bb BK146 hb; have n1_ := bs HB hb; clear BK146; clear HB; have BK146 := n0_; have HB := n1_; clear n0_ n1_; (try clear hb); (try clear hb2); (try clear hk); (try clear hi)))
            go_ret
            exact ⟨_, by first | rfl | (simp [errW_none, errW_some] <;> rfl) | (simp [*, errW_none, errW_some] <;> rfl) | (exfalso; contradiction), by first | exact Kd.R_nil _ _ _ _ _ | exact Kd.N_nil _ _ _ _ _ | exact Kd.V_nil _ _ _ _ _ | exact Kd.Q_nil _ _ _ _ _ | exact Kd.S_nil _ _ _ _ _, by repeat (first | (with_reducible first | exact HB.out | apply below_alloc | apply pw_below_drewN | apply below_drew1 | refine below_set ?_ GE146.out) | exact HB.out)⟩
          · rw [if_neg c22] at H
            have c22b0 : decide (5000 < (wrap64 (a3 - a2))) = false := decide_eq_false c22
            clear c22
            replace H := Option.bind_eq_some_iff.mp H
            obtain ⟨t148, A260, H⟩ := H
            try dsimp only at H
            have A26 := Aside0.mk A260
            clear A260
            obtain rfl := Option.some.inj H
            go_enter Try.func65, Try.ntmps65
            go_wp2_with (first | ((with_reducible refine gate_dst (N := 4) rfl ?_); refine box_event ?hg (N := 4) ?hd (cs := #[.int .i64 a0_0, .int .i64 a0_1, .int .i64 a0_2, .int .i64 a0_3, .int .i64 a0_4, .int .i64 a0_5]) (t := 40) ?hr ?_; (case hd => rfl); (case hg => rfl); (case hr => first | (go_simp; done) | (go_simp; rfl)); intro gb146 hg w27 hbox hb; have n0_ := bs HB hb; have n1_ := Aside0.mk (hbox); have n2_ := bz HB hg; have n3_ := bz HB hg; clear HB; have HB := n0_; have BK146 := n1_; have GW146 := n2_; have GE146 := n3_; clear n0_ n1_ n2_ n3_; clear hb hbox hg; obtain ⟨hcz28_0, hcz28_1, hcz28_2, hcz28_3, hcz28_4, hcz28_5⟩ := cc6 BK146; obtain ⟨hfz28_0, hfz28_1, hfz28_2, hfz28_3, hfz28_4, hfz28_5⟩ := cf6 BK146) | ((with_reducible refine gate_callee (f := 25) rfl ?_); refine goesL_ (some 11) rfl rfl Try.func25 (by kernel_rfl) rfl #[.agg #[.int .i64 a0_0, .int .i64 a0_1, .int .i64 a0_2, .int .i64 a0_3, .int .i64 a0_4, .int .i64 a0_5], .int .i64 a1] rfl (by (try simp only [List.map_toArray, List.map_cons, List.map_nil]); first | done | rfl | (simp only [List.length_drop, List.length_take]; rfl)) ?_; (with_reducible refine (units_At.calls a0_0 a0_1 a0_2 a0_3 a0_4 a0_5 a1 t147 _ A5.out).mono ?_); rintro e w29 ⟨rfl, hb⟩; refine ⟨_, rfl, ?_⟩; have n0_ := bb BK146 hb; have n1_ := bs HB hb; clear BK146; clear HB; have BK146 := n0_; have HB := n1_; clear n0_ n1_; (try clear hb); (try clear hb2); (try clear hk); (try clear hi)) | ((with_reducible refine gate_callee (f := 88) rfl ?_); refine goesL_ (some 38) rfl rfl Try.func88 (by kernel_rfl) rfl #[.agg #[.int .i64 (wrap64 (a2 + a1)), .int .i64 a1, .int .i64 a3]] rfl (by (try simp only [List.map_toArray, List.map_cons, List.map_nil]); first | done | rfl | (simp only [List.length_drop, List.length_take]; rfl)) ?_; (with_reducible refine (period_list.calls (wrap64 (a2 + a1)) a1 a3 t148 _ A26.out).mono ?_); rintro e w30 ⟨v149, rfl, ho0, hb⟩; refine ⟨_, rfl, ?_⟩; have n0_ := Aside0.mk (Kd.R_lower ho0 (below_size (by repeat (first | (with_reducible first | exact HB.out | apply below_alloc | apply pw_below_drewN | apply below_drew1 | refine below_set ?_ GE146.out) | exact HB.out)))); have n1_ := bb BK146 hb; have n2_ := bs HB hb; clear BK146; clear HB; have HO150 := n0_; have BK146 := n1_; have HB := n2_; clear n0_ n1_ n2_; (try clear hb); (try clear hb2); (try clear hk); (try clear hi); (try clear ho0)))
            go_ret
            exact ⟨_, by first | rfl | (simp [errW_none, errW_some] <;> rfl) | (simp [*, errW_none, errW_some] <;> rfl) | (exfalso; contradiction), by (with_reducible repeat (first | apply Kd.R_alloc | apply Kd.R_drewN | apply Kd.R_drew)); exact HO150.out, by repeat (first | (with_reducible first | exact HB.out | apply below_alloc | apply pw_below_drewN | apply below_drew1 | refine below_set ?_ GE146.out) | exact HB.out)⟩

end Go.Proofs.Ytaejikbfnlihmaa.P
