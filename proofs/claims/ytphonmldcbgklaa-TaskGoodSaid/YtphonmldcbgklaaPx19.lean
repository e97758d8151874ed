-- Written by a program of this session (hprint.py), out of the translation; functions that the print does not take are given by hand.
import Derived.Test.YtphonmldcbgklaaPx0
import Derived.Test.YtphonmldcbgklaaPx3
import Derived.Test.YtphonmldcbgklaaPx10
import Derived.Test.YtphonmldcbgklaaPx12
import Derived.Test.YtphonmldcbgklaaPx17
import Derived.Test.YtphonmldcbgklaaPx18
namespace Go.Proofs.Ytphonmldcbgklaa.P
open Go.RowKit Go.Proofs.YtphonmldcbgklaaM Go.Proofs.YtphonmldcbgklaaW.PrintWords Go.Proofs.YtphonmldcbgklaaW.PrintLast Go.Proofs.YtphonmldcbgklaaW.PrintMore
attribute [local go_sem] max2_int min2_int max_two min_two max_three min_three max_four min_four   -- for this text's walks alone
set_option linter.unusedVariables false
set_option linter.unusedSimpArgs false

attribute [local go_sem high] eqA28
/-! ### fuseelaw15_TaskGood: function 6 -/
theorem mem_tail_ {w0 W : World} {b : Nat × List Value × TypeId} {m : List (Nat × List Value × TypeId)} (h : Mem w0 W (b :: m)) : Mem w0 W m := ⟨h.1, (List.pairwise_cons.1 (by simpa using h.2.1)).2, fun c hc => h.2.2 c (List.mem_cons_of_mem _ hc)⟩
def fuseelaw15_TaskGood.l0 : Nat → Int → Int → Int → Int → Int → Int → Int → Int → Int → Int → Int → Int → Int → Bool → Int → Int → Int → Bool → Int → Int → Int → Int → Int → Bool → Option (Bool)
  | 0, _, _, _, _, _, _, _, _, _, _, _, _, _, _, _, _, _, _, _, _, _, _, _, _ => none
  | k + 1, x6, x7, x439000, x439001, x439002, x439003, x439004, x439005, x439006, x439007, x439008, x439009, x439010, x439011, x439012, x439013, x439014, x439015, x439016, x439017, x439018, x439019, x439020, x439021 => if x7 ≤ x6 then ((task_Run.f x439000 x439001 x439002 x439003 x439004 x439005 x439006 x439007 x439008 x439009 x439010 x439011 x439012 x439013 x439014 x439015 x439016 x439017 x439018 x439019 x439020 x439021).bind fun bt441 => (if ((bt441.2.2.2.2.2.2.2.2.2.2.2.2.2.2.2.2.2.2.2.2.2.2 == 0) != (decide (x7 < x6))) = true then (none) else (if bt441.2.2.2.2.2.2.2.2.2.2.2.2.2.2.2.2.2.2.2.2.2.2 = 0 then (if (!(bt441.2.2.2.2.2.2.2.2.2.2.2.2.2.2.2.2.2.2.2.1 == x439019) || (!(bt441.2.2.2.2.2.2.2.2.2.2.2.2.2.2.2.2.2.2.2.2.1 == x439020))) = true then (none) else (if x7 = x6 then (if ((bt441.2.2.2.2.2.2.2.2.2.2.2.2.2.2.2.2.2.2.2.2.2.2 == 1) == (decide (x439017 ≤ x439016))) = true then (if bt441.2.2.2.2.2.2.2.2.2.2.2.1 = true then (none) else ((ring_Good.f bt441.2.2.2.2.2.2.2.2.2.2.2.2.2.2.2.2.2.2.2.1 bt441.2.2.2.2.2.2.2.2.2.2.2.2.2.2.2.2.2.2.2.2.1 1).bind fun t465 => (some ((t465 == 1) == (decide (x439017 ≤ x439016)))))) else (none)) else (fuseelaw15_TaskGood.l0 k x6 (wrap64 (x7 + 1)) bt441.1 bt441.2.1 bt441.2.2.1 bt441.2.2.2.1 bt441.2.2.2.2.1 bt441.2.2.2.2.2.1 bt441.2.2.2.2.2.2.1 bt441.2.2.2.2.2.2.2.1 bt441.2.2.2.2.2.2.2.2.1 bt441.2.2.2.2.2.2.2.2.2.1 bt441.2.2.2.2.2.2.2.2.2.2.1 bt441.2.2.2.2.2.2.2.2.2.2.2.1 bt441.2.2.2.2.2.2.2.2.2.2.2.2.1 bt441.2.2.2.2.2.2.2.2.2.2.2.2.2.1 bt441.2.2.2.2.2.2.2.2.2.2.2.2.2.2.1 bt441.2.2.2.2.2.2.2.2.2.2.2.2.2.2.2.1 bt441.2.2.2.2.2.2.2.2.2.2.2.2.2.2.2.2.1 bt441.2.2.2.2.2.2.2.2.2.2.2.2.2.2.2.2.2.1 bt441.2.2.2.2.2.2.2.2.2.2.2.2.2.2.2.2.2.2.1 bt441.2.2.2.2.2.2.2.2.2.2.2.2.2.2.2.2.2.2.2.1 bt441.2.2.2.2.2.2.2.2.2.2.2.2.2.2.2.2.2.2.2.2.1 bt441.2.2.2.2.2.2.2.2.2.2.2.2.2.2.2.2.2.2.2.2.2.1))) else (if x7 = x6 then (if ((bt441.2.2.2.2.2.2.2.2.2.2.2.2.2.2.2.2.2.2.2.2.2.2 == 1) == (decide (x439017 ≤ x439016))) = true then (if bt441.2.2.2.2.2.2.2.2.2.2.2.1 = true then (none) else ((ring_Good.f bt441.2.2.2.2.2.2.2.2.2.2.2.2.2.2.2.2.2.2.2.1 bt441.2.2.2.2.2.2.2.2.2.2.2.2.2.2.2.2.2.2.2.2.1 1).bind fun t466 => (some ((t466 == 1) == (decide (x439017 ≤ x439016)))))) else (none)) else (fuseelaw15_TaskGood.l0 k x6 (wrap64 (x7 + 1)) bt441.1 bt441.2.1 bt441.2.2.1 bt441.2.2.2.1 bt441.2.2.2.2.1 bt441.2.2.2.2.2.1 bt441.2.2.2.2.2.2.1 bt441.2.2.2.2.2.2.2.1 bt441.2.2.2.2.2.2.2.2.1 bt441.2.2.2.2.2.2.2.2.2.1 bt441.2.2.2.2.2.2.2.2.2.2.1 bt441.2.2.2.2.2.2.2.2.2.2.2.1 bt441.2.2.2.2.2.2.2.2.2.2.2.2.1 bt441.2.2.2.2.2.2.2.2.2.2.2.2.2.1 bt441.2.2.2.2.2.2.2.2.2.2.2.2.2.2.1 bt441.2.2.2.2.2.2.2.2.2.2.2.2.2.2.2.1 bt441.2.2.2.2.2.2.2.2.2.2.2.2.2.2.2.2.1 bt441.2.2.2.2.2.2.2.2.2.2.2.2.2.2.2.2.2.1 bt441.2.2.2.2.2.2.2.2.2.2.2.2.2.2.2.2.2.2.1 bt441.2.2.2.2.2.2.2.2.2.2.2.2.2.2.2.2.2.2.2.1 bt441.2.2.2.2.2.2.2.2.2.2.2.2.2.2.2.2.2.2.2.2.1 bt441.2.2.2.2.2.2.2.2.2.2.2.2.2.2.2.2.2.2.2.2.2.1))))) else (none)
def fuseelaw15_TaskGood.f (k : Nat) (a0_0 : Int) (a0_1 : Int) (a0_2 : Int) (a0_3 : Int) (a0_4 : Int) (a0_5 : Int) (a0_6 : Int) (a0_7 : Int) (a0_8 : Int) (a0_9 : Int) (a0_10 : Int) (a0_11 : Bool) (a0_12 : Int) (a0_13 : Int) (a0_14 : Int) (a0_15 : Bool) (a0_16 : Int) (a0_17 : Int) (a0_18 : Int) (a0_19 : Int) (a0_20 : Int) (a0_21 : Bool) (a1 : Int) : Option (Bool) := (fuseelaw15_awake.f k).bind fun t439 => (if t439 = true then (if a0_11 = true then ((task_May.f k a0_0 a0_1 a0_2 a0_3 a0_4 a0_5 a0_6 a0_7 a0_8 a0_9 a0_10 a0_11 a0_12 a0_13 a0_14 a0_15 a0_16 a0_17 a0_18 a0_19 a0_20 a0_21 a1).bind fun t440 => (if t440 = true then (if a0_17 < a0_16 then (fuseelaw15_TaskGood.l0 k (wrap64 (a0_17 - a0_18)) 1 a0_0 a0_1 a0_2 a0_3 a0_4 a0_5 a0_6 a0_7 a0_8 a0_9 a0_10 a0_11 a0_12 a0_13 a0_14 a0_15 a0_16 a0_17 a0_18 a0_19 a0_20 a0_21) else (fuseelaw15_TaskGood.l0 k (wrap64 (a0_16 - a0_18)) 1 a0_0 a0_1 a0_2 a0_3 a0_4 a0_5 a0_6 a0_7 a0_8 a0_9 a0_10 a0_11 a0_12 a0_13 a0_14 a0_15 a0_16 a0_17 a0_18 a0_19 a0_20 a0_21)) else (some t439))) else (some t439)) else (some t439))
theorem fuseelaw15_TaskGood.mono_l : ∀ k, (∀ y0 y1 y2 y3 y4 y5 y6 y7 y8 y9 y10 y11 y12 y13 y14 y15 y16 y17 y18 y19 y20 y21 y22 y23, LeO (fuseelaw15_TaskGood.l0 k y0 y1 y2 y3 y4 y5 y6 y7 y8 y9 y10 y11 y12 y13 y14 y15 y16 y17 y18 y19 y20 y21 y22 y23) (fuseelaw15_TaskGood.l0 (k + 1) y0 y1 y2 y3 y4 y5 y6 y7 y8 y9 y10 y11 y12 y13 y14 y15 y16 y17 y18 y19 y20 y21 y22 y23))
  | 0 => fun _ _ _ _ _ _ _ _ _ _ _ _ _ _ _ _ _ _ _ _ _ _ _ _ r h => by simp [fuseelaw15_TaskGood.l0] at h
  | k + 1 => by
    have ih0 := fuseelaw15_TaskGood.mono_l k
    · intro y0 y1 y2 y3 y4 y5 y6 y7 y8 y9 y10 y11 y12 y13 y14 y15 y16 y17 y18 y19 y20 y21 y22 y23
      unfold fuseelaw15_TaskGood.l0
      repeat' first
      | (with_reducible exact ih0 _ _ _ _ _ _ _ _ _ _ _ _ _ _ _ _ _ _ _ _ _ _ _ _)
      | (with_reducible exact fuseelaw15_awake.mono _)
      | (with_reducible exact task_May.mono _ _ _ _ _ _ _ _ _ _ _ _ _ _ _ _ _ _ _ _ _ _ _ _)
      | (with_reducible exact LeO.refl _)
      | (with_reducible exact LeO.none _)
      | (with_reducible refine LeO.ite ?_ ?_)
      | (with_reducible refine LeO.bind ?_ (fun _ => ?_))
      | exact ih0 _ _ _ _ _ _ _ _ _ _ _ _ _ _ _ _ _ _ _ _ _ _ _ _
      | exact fuseelaw15_awake.mono _
      | exact task_May.mono _ _ _ _ _ _ _ _ _ _ _ _ _ _ _ _ _ _ _ _ _ _ _ _
      | exact LeO.none _
      | refine LeO.ite ?_ ?_
      | refine LeO.bind ?_ (fun _ => ?_)
theorem fuseelaw15_TaskGood.mono : ∀ a0 a1 a2 a3 a4 a5 a6 a7 a8 a9 a10 a11 a12 a13 a14 a15 a16 a17 a18 a19 a20 a21 a22 k, LeO (fuseelaw15_TaskGood.f k a0 a1 a2 a3 a4 a5 a6 a7 a8 a9 a10 a11 a12 a13 a14 a15 a16 a17 a18 a19 a20 a21 a22) (fuseelaw15_TaskGood.f (k + 1) a0 a1 a2 a3 a4 a5 a6 a7 a8 a9 a10 a11 a12 a13 a14 a15 a16 a17 a18 a19 a20 a21 a22) := by
  intro a0 a1 a2 a3 a4 a5 a6 a7 a8 a9 a10 a11 a12 a13 a14 a15 a16 a17 a18 a19 a20 a21 a22 k
  have ih0 := fuseelaw15_TaskGood.mono_l k
  unfold fuseelaw15_TaskGood.f
  repeat' first
      | (with_reducible exact ih0 _ _ _ _ _ _ _ _ _ _ _ _ _ _ _ _ _ _ _ _ _ _ _ _)
      | (with_reducible exact fuseelaw15_awake.mono _)
      | (with_reducible exact task_May.mono _ _ _ _ _ _ _ _ _ _ _ _ _ _ _ _ _ _ _ _ _ _ _ _)
      | (with_reducible exact LeO.refl _)
      | (with_reducible exact LeO.none _)
      | (with_reducible refine LeO.ite ?_ ?_)
      | (with_reducible refine LeO.bind ?_ (fun _ => ?_))
      | exact ih0 _ _ _ _ _ _ _ _ _ _ _ _ _ _ _ _ _ _ _ _ _ _ _ _
      | exact fuseelaw15_awake.mono _
      | exact task_May.mono _ _ _ _ _ _ _ _ _ _ _ _ _ _ _ _ _ _ _ _ _ _ _ _
      | exact LeO.none _
      | refine LeO.ite ?_ ?_
      | refine LeO.bind ?_ (fun _ => ?_)
set_option maxHeartbeats 64000000 in
set_option maxRecDepth 100000 in
theorem fuseelaw15_TaskGood.calls (k : Nat) (a0_0 : Int) (a0_1 : Int) (a0_2 : Int) (a0_3 : Int) (a0_4 : Int) (a0_5 : Int) (a0_6 : Int) (a0_7 : Int) (a0_8 : Int) (a0_9 : Int) (a0_10 : Int) (a0_11 : Bool) (a0_12 : Int) (a0_13 : Int) (a0_14 : Int) (a0_15 : Bool) (a0_16 : Int) (a0_17 : Int) (a0_18 : Int) (a0_19 : Int) (a0_20 : Int) (a0_21 : Bool) (a1 : Int) (r : Bool) (w : World) (h : fuseelaw15_TaskGood.f k a0_0 a0_1 a0_2 a0_3 a0_4 a0_5 a0_6 a0_7 a0_8 a0_9 a0_10 a0_11 a0_12 a0_13 a0_14 a0_15 a0_16 a0_17 a0_18 a0_19 a0_20 a0_21 a1 = some r) :
    Calls Try.prog 6 #[.agg #[.int .i64 a0_0, .int .i64 a0_1, .int .i64 a0_2, .int .i64 a0_3, .int .i64 a0_4, .int .i64 a0_5, .int .i64 a0_6, .int .i64 a0_7, .int .i64 a0_8, .int .i64 a0_9, .int .i64 a0_10, .bool a0_11, .int .i64 a0_12, .int .i64 a0_13, .int .i64 a0_14, .bool a0_15, .int .i64 a0_16, .int .i64 a0_17, .int .i64 a0_18, .int .i64 a0_19, .int .u64 a0_20, .bool a0_21], .int .i64 a1] w fun e w' => e = .returned (.bool r) ∧ Below w.heap.size w w' := by
  have hu30 := Try.underlying30
  have hu28 := Try.underlying28
  have M := Aside0.mk (Mem.nil w)
  have H : ((fuseelaw15_awake.f k).bind fun t439 => (if t439 = true then (if a0_11 = true then ((task_May.f k a0_0 a0_1 a0_2 a0_3 a0_4 a0_5 a0_6 a0_7 a0_8 a0_9 a0_10 a0_11 a0_12 a0_13 a0_14 a0_15 a0_16 a0_17 a0_18 a0_19 a0_20 a0_21 a1).bind fun t440 => (if t440 = true then (if a0_17 < a0_16 then (fuseelaw15_TaskGood.l0 k (wrap64 (a0_17 - a0_18)) 1 a0_0 a0_1 a0_2 a0_3 a0_4 a0_5 a0_6 a0_7 a0_8 a0_9 a0_10 a0_11 a0_12 a0_13 a0_14 a0_15 a0_16 a0_17 a0_18 a0_19 a0_20 a0_21) else (fuseelaw15_TaskGood.l0 k (wrap64 (a0_16 - a0_18)) 1 a0_0 a0_1 a0_2 a0_3 a0_4 a0_5 a0_6 a0_7 a0_8 a0_9 a0_10 a0_11 a0_12 a0_13 a0_14 a0_15 a0_16 a0_17 a0_18 a0_19 a0_20 a0_21)) else (some t439))) else (some t439)) else (some t439))) = some r := h
  clear h
  replace H := Option.bind_eq_some_iff.mp H
  obtain ⟨t439, A30, H⟩ := H
  try dsimp only at H
  have A3 := Aside0.mk A30
  clear A30
  by_cases c4 : t439 = true
  · subst c4
    rw [if_pos rfl] at H
    by_cases c5 : a0_11 = true
    · subst c5
      rw [if_pos rfl] at H
      replace H := Option.bind_eq_some_iff.mp H
      obtain ⟨t440, A60, H⟩ := H
      try dsimp only at H
      have A6 := Aside0.mk A60
      clear A60
      by_cases c7 : t440 = true
      · subst c7
        rw [if_pos rfl] at H
        by_cases c8 : a0_17 < a0_16
        · rw [if_pos c8] at H
          have c8b0 : decide (a0_17 < a0_16) = true := decide_eq_true c8
          clear c8
          have H' := Aside0.mk H
          clear H
          go_enter Try.func6, Try.ntmps6
          go_wp2_with (first | ((with_reducible refine gate_dst (N := 2) rfl ?_); (try (refine gate_guard (by rfl) ?_; dsimp only)); (refine mem_box (w0 := ?_) (m := ?_) (cs := ?_) (u := ?_) 30 _ rfl rfl ?hx ?hc ?hM ?_; (case hM => exact M.out); (case hx => (conv => lhs; whnf); try exact rfl); (case hc => simp only [Value.cells, List.toList_toArray]; rfl)); intro gb438 W_ M_; have N_ := Aside0.mk M_; clear M M_; have M := N_; clear N_) | ((with_reducible refine gate_callee (f := 7) rfl ?_); refine goesL_ (some 11) rfl rfl Try.func7 (by kernel_rfl) rfl #[] rfl (by (try simp only [List.map_toArray, List.map_cons, List.map_nil]); first | done | rfl | (simp only [List.length_drop, List.length_take]; rfl)) ?_; (with_reducible refine (fuseelaw15_awake.calls k  true _ A3.out).mono ?_); rintro e w10 ⟨rfl, hb⟩; refine ⟨_, rfl, ?_⟩; have N_ := Aside0.mk (Mem.call (by repeat (first | exact M.out | apply Mem.drewN | apply Mem.drew)) hb); clear M; have M := N_; clear N_; (try clear hb); (try clear hb2); (try clear hk); (try clear hi)) | (go_at_call 8; (with_reducible refine (task_May.calls k a0_0 a0_1 a0_2 a0_3 a0_4 a0_5 a0_6 a0_7 a0_8 a0_9 a0_10 true a0_12 a0_13 a0_14 a0_15 a0_16 a0_17 a0_18 a0_19 a0_20 a0_21 a1 true _ A6.out).mono ?_); rintro e w12 ⟨rfl, hb⟩; have N_ := Aside0.mk (Mem.call (by repeat (first | exact M.out | apply Mem.drewN | apply Mem.drew)) hb); clear M; have M := N_; clear N_; (try clear hb); (try clear hb2); (try clear hk); (try clear hi)) | ((with_reducible refine gate_load rfl ?_); (try (refine gate_guard (by rfl) ?_; dsimp only)); first | (refine mem_load1 (w0 := ?_) (m := ?_) (cs := ?_) (e := ?_) (v := ?_) (g := ?_) (off := ?_) _ _ rfl rfl ?ha ?hp ?hM ?hm ?hv ?_; (case ha => first | exact Try.isAgg3 | exact Try.isAgg4); (case hp => (conv => lhs; whnf); try exact rfl); (case hM => exact M.out); (case hm => repeat (first | exact List.Mem.head _ | apply List.Mem.tail)); (case hv => (conv => lhs; whnf); try exact rfl)) | (refine mem_load (w0 := ?_) (m := ?_) (k := ?_) (cs := ?_) (e := ?_) (seg := ?_) (g := ?_) (off := ?_) _ _ rfl rfl ?ha ?hz ?hp ?hM ?hm ?hs ?hl ?_; (case ha => first | exact Try.isAgg28 | exact Try.isAgg30); (case hz => first | exact Try.sizeOf28 | exact Try.sizeOf30); (case hp => (conv => lhs; whnf); try exact rfl); (case hM => exact M.out); (case hm => repeat (first | exact List.Mem.head _ | apply List.Mem.tail)); (case hs => simp only [List.take, List.drop]; rfl); (case hl => rfl))) | ((with_reducible refine gate_st rfl ?_); refine mem_store (w0 := ?_) (m := ?_) (m' := ?_) (seg := ?_) (u := ?_) (g := ?_) (off := ?_) _ _ _ rfl rfl rfl ?hp ?hx ?hc ?hz ?h1 ?hM ?hU ?_; (case hM => exact M.out); (case hp => (conv => lhs; whnf); try exact rfl); (case hx => (conv => lhs; whnf); try exact rfl); (case hc => simp only [Value.cells, List.toList_toArray]; rfl); (case hz => first | exact Try.sizeOf30); (case h1 => rfl); (case hU => (repeat (first | (refine Upd.head (cs' := ?_) ?hf ?he; (case hf => exact Nat.le_of_ble_eq_true rfl); (case he => simp only [List.take, List.drop, List.length, List.cons_append, List.nil_append, Nat.reduceAdd, Nat.zero_add]; all_goals rfl)) | (refine Upd.tail (r' := ?_) ?_; rotate_left)))); intro W_ M_; have N_ := Aside0.mk M_; clear M M_; have M := N_; clear N_))
          go_loopg [7] k (fun kq v7 w' => ∃ (x7_1 : Int) (x439000_1 : Int) (x439001_1 : Int) (x439002_1 : Int) (x439003_1 : Int) (x439004_1 : Int) (x439005_1 : Int) (x439006_1 : Int) (x439007_1 : Int) (x439008_1 : Int) (x439009_1 : Int) (x439010_1 : Int) (x439011_1 : Bool) (x439012_1 : Int) (x439013_1 : Int) (x439014_1 : Int) (x439015_1 : Bool) (x439016_1 : Int) (x439017_1 : Int) (x439018_1 : Int) (x439019_1 : Int) (x439020_1 : Int) (x439021_1 : Bool), v7 = .int .i64 x7_1 ∧ Aside0 (fuseelaw15_TaskGood.l0 kq (wrap64 (a0_17 - a0_18)) x7_1 x439000_1 x439001_1 x439002_1 x439003_1 x439004_1 x439005_1 x439006_1 x439007_1 x439008_1 x439009_1 x439010_1 x439011_1 x439012_1 x439013_1 x439014_1 x439015_1 x439016_1 x439017_1 x439018_1 x439019_1 x439020_1 x439021_1 = some r) ∧ Aside0 (kq ≤ k) ∧ Aside0 (Mem w w' [(gb438, [.int .i64 x439000_1, .int .i64 x439001_1, .int .i64 x439002_1, .int .i64 x439003_1, .int .i64 x439004_1, .int .i64 x439005_1, .int .i64 x439006_1, .int .i64 x439007_1, .int .i64 x439008_1, .int .i64 x439009_1, .int .i64 x439010_1, .bool x439011_1, .int .i64 x439012_1, .int .i64 x439013_1, .int .i64 x439014_1, .bool x439015_1, .int .i64 x439016_1, .int .i64 x439017_1, .int .i64 x439018_1, .int .i64 x439019_1, .int .u64 x439020_1, .bool x439021_1], 30)]))
          case atStart => exact ⟨(1), (a0_0), (a0_1), (a0_2), (a0_3), (a0_4), (a0_5), (a0_6), (a0_7), (a0_8), (a0_9), (a0_10), (true), (a0_12), (a0_13), (a0_14), (a0_15), (a0_16), (a0_17), (a0_18), (a0_19), (a0_20), (a0_21), (by first | rfl | (simp; done) | (simp [*]; done)), H', ⟨Nat.le_refl _⟩, ⟨by first | exact M.out | exact mem_tail_ M.out | exact mem_tail_ (mem_tail_ M.out) | exact mem_tail_ (mem_tail_ (mem_tail_ M.out))⟩⟩
          case round =>
            clear H'
            try clear p2
            try clear c4
            try clear c5
            try clear c6
            try clear p6
            try clear c7
            try clear c8
            try clear c8b0
            obtain ⟨x7_1, x439000_1, x439001_1, x439002_1, x439003_1, x439004_1, x439005_1, x439006_1, x439007_1, x439008_1, x439009_1, x439010_1, x439011_1, x439012_1, x439013_1, x439014_1, x439015_1, x439016_1, x439017_1, x439018_1, x439019_1, x439020_1, x439021_1, rfl, HA, HK1, M⟩ := hrel
            cases gk with
            | zero => exact absurd HA.out (by simp [fuseelaw15_TaskGood.l0])
            | succ k1 =>
              have H := HA.out
              clear HA
              simp only [fuseelaw15_TaskGood.l0] at H
              by_cases c14 : x7_1 ≤ (wrap64 (a0_17 - a0_18))
              · rw [if_pos c14] at H
                have c14b0 : decide (x7_1 ≤ (wrap64 (a0_17 - a0_18))) = true := decide_eq_true c14
                clear c14
                replace H := Option.bind_eq_some_iff.mp H
                obtain ⟨⟨t441, t442, t443, t444, t445, t446, t447, t448, t449, t450, t451, t452, t453, t454, t455, t456, t457, t458, t459, t460, t461, t462, t463⟩, A150, H⟩ := H
                try dsimp only at H
                have A15 := Aside0.mk A150
                clear A150
                by_cases c16 : ((t463 == 0) != (decide (x7_1 < (wrap64 (a0_17 - a0_18))))) = true
                · rw [if_pos c16] at H
                  exact absurd H (by simp)
                · rw [if_neg c16] at H
                  have c16b0 : ((t463 == 0) != (decide (x7_1 < (wrap64 (a0_17 - a0_18))))) = false := by simpa using c16
                  (try (have c16b1 : decide ((t463 == 0) = (decide (x7_1 < (wrap64 (a0_17 - a0_18))))) = true := by simpa using c16))
                  (try (have c16b2 : ((t463 == 0) == (decide (x7_1 < (wrap64 (a0_17 - a0_18))))) = true := by simpa using c16))
                  clear c16
                  by_cases c17 : t463 = 0
                  · rw [if_pos c17] at H
                    have c17b0 : (t463 == 0) = true := beq_iff_eq.mpr c17
                    have c17b1 : (t463 != 0) = false := bne_eq_false_iff_eq.mpr c17
                    clear c17
                    by_cases c18 : (!(t460 == x439019_1) || (!(t461 == x439020_1))) = true
                    · rw [if_pos c18] at H
                      exact absurd H (by simp)
                    · rw [if_neg c18] at H
                      have c18b0 : (!(t460 == x439019_1) || (!(t461 == x439020_1))) = false := by simpa using c18
                      clear c18
                      by_cases c19 : x7_1 = (wrap64 (a0_17 - a0_18))
                      · rw [if_pos c19] at H
                        have c19b0 : (x7_1 == (wrap64 (a0_17 - a0_18))) = true := beq_iff_eq.mpr c19
                        have c19b1 : (x7_1 != (wrap64 (a0_17 - a0_18))) = false := bne_eq_false_iff_eq.mpr c19
                        clear c19
                        by_cases c20 : ((t463 == 1) == (decide (x439017_1 ≤ x439016_1))) = true
                        · rw [if_pos c20] at H
                          have c20b0 : ((t463 == 1) == (decide (x439017_1 ≤ x439016_1))) = true := c20
                          (try (have c20b1 : decide ((t463 == 1) = (decide (x439017_1 ≤ x439016_1))) = true := by simpa using c20))
                          (try (have c20b2 : ((t463 == 1) == (decide (x439017_1 ≤ x439016_1))) = true := by simpa using c20))
                          clear c20
                          by_cases c21 : t452 = true
                          · subst c21
                            rw [if_pos rfl] at H
                            exact absurd H (by simp)
                          · replace c21 := Bool.eq_false_iff.mpr c21
                            subst c21
                            rw [if_neg (show ¬ (false = true) by decide)] at H
                            replace H := Option.bind_eq_some_iff.mp H
                            obtain ⟨t465, A220, H⟩ := H
                            try dsimp only at H
                            have A22 := Aside0.mk A220
                            clear A220
                            obtain rfl := Option.some.inj H
                            go_wp2_with (first | ((with_reducible refine gate_callee (f := 14) rfl ?_); refine goesL_ (some 55) rfl rfl Try.func14 (by kernel_rfl) rfl #[.agg #[.int .i64 x439000_1, .int .i64 x439001_1, .int .i64 x439002_1, .int .i64 x439003_1, .int .i64 x439004_1, .int .i64 x439005_1, .int .i64 x439006_1, .int .i64 x439007_1, .int .i64 x439008_1, .int .i64 x439009_1, .int .i64 x439010_1, .bool x439011_1, .int .i64 x439012_1, .int .i64 x439013_1, .int .i64 x439014_1, .bool x439015_1, .int .i64 x439016_1, .int .i64 x439017_1, .int .i64 x439018_1, .int .i64 x439019_1, .int .u64 x439020_1, .bool x439021_1]] rfl (by (try simp only [List.map_toArray, List.map_cons, List.map_nil]); first | done | rfl | (simp only [List.length_drop, List.length_take]; rfl)) ?_; (with_reducible refine (task_Run.calls x439000_1 x439001_1 x439002_1 x439003_1 x439004_1 x439005_1 x439006_1 x439007_1 x439008_1 x439009_1 x439010_1 x439011_1 x439012_1 x439013_1 x439014_1 x439015_1 x439016_1 x439017_1 x439018_1 x439019_1 x439020_1 x439021_1 t441 t442 t443 t444 t445 t446 t447 t448 t449 t450 t451 false t453 t454 t455 t456 t457 t458 t459 t460 t461 t462 t463 _ A15.out).mono ?_); rintro e w24 ⟨rfl, hb⟩; refine ⟨_, rfl, ?_⟩; have N_ := Aside0.mk (Mem.call (by repeat (first | exact M.out | apply Mem.drewN | apply Mem.drew)) hb); clear M; have M := N_; clear N_; (try clear hb); (try clear hb2); (try clear hk); (try clear hi)) | ((with_reducible refine gate_dst (N := 8) rfl ?_); (try (refine gate_guard (by rfl) ?_; dsimp only)); (refine mem_alloc (w0 := ?_) (m := ?_) (cs := ?_) 30 rfl rfl Try.zeroValue30 ?hc ?hM ?_; (case hM => exact M.out); (case hc => simp only [Value.cells, List.toList_toArray]; rfl)); intro gb464 W_ M_; have N_ := Aside0.mk M_; clear M M_; have M := N_; clear N_) | (go_at_call 15; (with_reducible refine (ring_Good.calls t460 t461 1 t465 _ A22.out).mono ?_); rintro e w29 ⟨rfl, hb⟩; have N_ := Aside0.mk (Mem.call (by repeat (first | exact M.out | apply Mem.drewN | apply Mem.drew)) hb); clear M; have M := N_; clear N_; (try clear hb); (try clear hb2); (try clear hk); (try clear hi)) | ((with_reducible refine gate_load rfl ?_); (try (refine gate_guard (by rfl) ?_; dsimp only)); first | (refine mem_load1 (w0 := ?_) (m := ?_) (cs := ?_) (e := ?_) (v := ?_) (g := ?_) (off := ?_) _ _ rfl rfl ?ha ?hp ?hM ?hm ?hv ?_; (case ha => first | exact Try.isAgg3 | exact Try.isAgg4); (case hp => (conv => lhs; whnf); try exact rfl); (case hM => exact M.out); (case hm => repeat (first | exact List.Mem.head _ | apply List.Mem.tail)); (case hv => (conv => lhs; whnf); try exact rfl)) | (refine mem_load (w0 := ?_) (m := ?_) (k := ?_) (cs := ?_) (e := ?_) (seg := ?_) (g := ?_) (off := ?_) _ _ rfl rfl ?ha ?hz ?hp ?hM ?hm ?hs ?hl ?_; (case ha => first | exact Try.isAgg28 | exact Try.isAgg30); (case hz => first | exact Try.sizeOf28 | exact Try.sizeOf30); (case hp => (conv => lhs; whnf); try exact rfl); (case hM => exact M.out); (case hm => repeat (first | exact List.Mem.head _ | apply List.Mem.tail)); (case hs => simp only [List.take, List.drop]; rfl); (case hl => rfl))) | ((with_reducible refine gate_st rfl ?_); refine mem_store (w0 := ?_) (m := ?_) (m' := ?_) (seg := ?_) (u := ?_) (g := ?_) (off := ?_) _ _ _ rfl rfl rfl ?hp ?hx ?hc ?hz ?h1 ?hM ?hU ?_; (case hM => exact M.out); (case hp => (conv => lhs; whnf); try exact rfl); (case hx => (conv => lhs; whnf); try exact rfl); (case hc => simp only [Value.cells, List.toList_toArray]; rfl); (case hz => first | exact Try.sizeOf30); (case h1 => rfl); (case hU => (repeat (first | (refine Upd.head (cs' := ?_) ?hf ?he; (case hf => exact Nat.le_of_ble_eq_true rfl); (case he => simp only [List.take, List.drop, List.length, List.cons_append, List.nil_append, Nat.reduceAdd, Nat.zero_add]; all_goals rfl)) | (refine Upd.tail (r' := ?_) ?_; rotate_left)))); intro W_ M_; have N_ := Aside0.mk M_; clear M M_; have M := N_; clear N_))
                            all_goals try (exfalso; first | (rw [c17b0] at c16b0; simp at c16b0; omega) | (rw [c61b0] at c16b0; simp at c16b0; omega) | (rw [c17b0] at c60b0; simp at c60b0; omega) | (rw [c61b0] at c60b0; simp at c60b0; omega))
                            go_ret
                            exact ⟨by first | rfl | (simp [errW_none, errW_some] <;> rfl) | (simp [*, errW_none, errW_some] <;> rfl) | (exfalso; first | contradiction | (revert c17b0 c18b0 c19b0; simp +contextual; done)), by exact Mem.below (by repeat (first | exact M.out | apply Mem.drewN | apply Mem.drew))⟩
                        · rw [if_neg c20] at H
                          exact absurd H (by simp)
                      · rw [if_neg c19] at H
                        have c19b0 : (x7_1 == (wrap64 (a0_17 - a0_18))) = false := beq_eq_false_iff_ne.mpr c19
                        have c19b1 : (x7_1 != (wrap64 (a0_17 - a0_18))) = true := bne_iff_ne.mpr c19
                        have H' := Aside0.mk H
                        clear H
                        go_wp2_with (first | ((with_reducible refine gate_callee (f := 14) rfl ?_); refine goesL_ (some 55) rfl rfl Try.func14 (by kernel_rfl) rfl #[.agg #[.int .i64 x439000_1, .int .i64 x439001_1, .int .i64 x439002_1, .int .i64 x439003_1, .int .i64 x439004_1, .int .i64 x439005_1, .int .i64 x439006_1, .int .i64 x439007_1, .int .i64 x439008_1, .int .i64 x439009_1, .int .i64 x439010_1, .bool x439011_1, .int .i64 x439012_1, .int .i64 x439013_1, .int .i64 x439014_1, .bool x439015_1, .int .i64 x439016_1, .int .i64 x439017_1, .int .i64 x439018_1, .int .i64 x439019_1, .int .u64 x439020_1, .bool x439021_1]] rfl (by (try simp only [List.map_toArray, List.map_cons, List.map_nil]); first | done | rfl | (simp only [List.length_drop, List.length_take]; rfl)) ?_; (with_reducible refine (task_Run.calls x439000_1 x439001_1 x439002_1 x439003_1 x439004_1 x439005_1 x439006_1 x439007_1 x439008_1 x439009_1 x439010_1 x439011_1 x439012_1 x439013_1 x439014_1 x439015_1 x439016_1 x439017_1 x439018_1 x439019_1 x439020_1 x439021_1 t441 t442 t443 t444 t445 t446 t447 t448 t449 t450 t451 t452 t453 t454 t455 t456 t457 t458 t459 t460 t461 t462 t463 _ A15.out).mono ?_); rintro e w31 ⟨rfl, hb⟩; refine ⟨_, rfl, ?_⟩; have N_ := Aside0.mk (Mem.call (by repeat (first | exact M.out | apply Mem.drewN | apply Mem.drew)) hb); clear M; have M := N_; clear N_; (try clear hb); (try clear hb2); (try clear hk); (try clear hi)) | ((with_reducible refine gate_dst (N := 8) rfl ?_); (try (refine gate_guard (by rfl) ?_; dsimp only)); (refine mem_alloc (w0 := ?_) (m := ?_) (cs := ?_) 30 rfl rfl Try.zeroValue30 ?hc ?hM ?_; (case hM => exact M.out); (case hc => simp only [Value.cells, List.toList_toArray]; rfl)); intro gb464 W_ M_; have N_ := Aside0.mk M_; clear M M_; have M := N_; clear N_) | ((with_reducible refine gate_load rfl ?_); (try (refine gate_guard (by rfl) ?_; dsimp only)); first | (refine mem_load1 (w0 := ?_) (m := ?_) (cs := ?_) (e := ?_) (v := ?_) (g := ?_) (off := ?_) _ _ rfl rfl ?ha ?hp ?hM ?hm ?hv ?_; (case ha => first | exact Try.isAgg3 | exact Try.isAgg4); (case hp => (conv => lhs; whnf); try exact rfl); (case hM => exact M.out); (case hm => repeat (first | exact List.Mem.head _ | apply List.Mem.tail)); (case hv => (conv => lhs; whnf); try exact rfl)) | (refine mem_load (w0 := ?_) (m := ?_) (k := ?_) (cs := ?_) (e := ?_) (seg := ?_) (g := ?_) (off := ?_) _ _ rfl rfl ?ha ?hz ?hp ?hM ?hm ?hs ?hl ?_; (case ha => first | exact Try.isAgg28 | exact Try.isAgg30); (case hz => first | exact Try.sizeOf28 | exact Try.sizeOf30); (case hp => (conv => lhs; whnf); try exact rfl); (case hM => exact M.out); (case hm => repeat (first | exact List.Mem.head _ | apply List.Mem.tail)); (case hs => simp only [List.take, List.drop]; rfl); (case hl => rfl))) | ((with_reducible refine gate_st rfl ?_); refine mem_store (w0 := ?_) (m := ?_) (m' := ?_) (seg := ?_) (u := ?_) (g := ?_) (off := ?_) _ _ _ rfl rfl rfl ?hp ?hx ?hc ?hz ?h1 ?hM ?hU ?_; (case hM => exact M.out); (case hp => (conv => lhs; whnf); try exact rfl); (case hx => (conv => lhs; whnf); try exact rfl); (case hc => simp only [Value.cells, List.toList_toArray]; rfl); (case hz => first | exact Try.sizeOf30); (case h1 => rfl); (case hU => (repeat (first | (refine Upd.head (cs' := ?_) ?hf ?he; (case hf => exact Nat.le_of_ble_eq_true rfl); (case he => simp only [List.take, List.drop, List.length, List.cons_append, List.nil_append, Nat.reduceAdd, Nat.zero_add]; all_goals rfl)) | (refine Upd.tail (r' := ?_) ?_; rotate_left)))); intro W_ M_; have N_ := Aside0.mk M_; clear M M_; have M := N_; clear N_))
                        all_goals try (exfalso; first | (rw [c17b0] at c16b0; simp at c16b0; omega) | (rw [c61b0] at c16b0; simp at c16b0; omega) | (rw [c17b0] at c60b0; simp at c60b0; omega) | (rw [c61b0] at c60b0; simp at c60b0; omega))
                        go_roundg k1
                        case measure => have := HK1.out; omega
                        case rel => exact ⟨(wrap64 (x7_1 + 1)), (t441), (t442), (t443), (t444), (t445), (t446), (t447), (t448), (t449), (t450), (t451), (t452), (t453), (t454), (t455), (t456), (t457), (t458), (t459), (t460), (t461), (t462), (by first | rfl | (simp; done) | (simp [*]; done)), H', ⟨by have := HK1.out; omega⟩, ⟨by first | exact M.out | exact mem_tail_ M.out | exact mem_tail_ (mem_tail_ M.out) | exact mem_tail_ (mem_tail_ (mem_tail_ M.out))⟩⟩
                  · rw [if_neg c17] at H
                    have c17b0 : (t463 == 0) = false := beq_eq_false_iff_ne.mpr c17
                    have c17b1 : (t463 != 0) = true := bne_iff_ne.mpr c17
                    by_cases c36 : x7_1 = (wrap64 (a0_17 - a0_18))
                    · rw [if_pos c36] at H
                      have c36b0 : (x7_1 == (wrap64 (a0_17 - a0_18))) = true := beq_iff_eq.mpr c36
                      have c36b1 : (x7_1 != (wrap64 (a0_17 - a0_18))) = false := bne_eq_false_iff_eq.mpr c36
                      clear c36
                      by_cases c37 : ((t463 == 1) == (decide (x439017_1 ≤ x439016_1))) = true
                      · rw [if_pos c37] at H
                        have c37b0 : ((t463 == 1) == (decide (x439017_1 ≤ x439016_1))) = true := c37
                        (try (have c37b1 : decide ((t463 == 1) = (decide (x439017_1 ≤ x439016_1))) = true := by simpa using c37))
                        (try (have c37b2 : ((t463 == 1) == (decide (x439017_1 ≤ x439016_1))) = true := by simpa using c37))
                        clear c37
                        by_cases c38 : t452 = true
                        · subst c38
                          rw [if_pos rfl] at H
                          exact absurd H (by simp)
                        · replace c38 := Bool.eq_false_iff.mpr c38
                          subst c38
                          rw [if_neg (show ¬ (false = true) by decide)] at H
                          replace H := Option.bind_eq_some_iff.mp H
                          obtain ⟨t466, A390, H⟩ := H
                          try dsimp only at H
                          have A39 := Aside0.mk A390
                          clear A390
                          obtain rfl := Option.some.inj H
                          go_wp2_with (first | ((with_reducible refine gate_callee (f := 14) rfl ?_); refine goesL_ (some 55) rfl rfl Try.func14 (by kernel_rfl) rfl #[.agg #[.int .i64 x439000_1, .int .i64 x439001_1, .int .i64 x439002_1, .int .i64 x439003_1, .int .i64 x439004_1, .int .i64 x439005_1, .int .i64 x439006_1, .int .i64 x439007_1, .int .i64 x439008_1, .int .i64 x439009_1, .int .i64 x439010_1, .bool x439011_1, .int .i64 x439012_1, .int .i64 x439013_1, .int .i64 x439014_1, .bool x439015_1, .int .i64 x439016_1, .int .i64 x439017_1, .int .i64 x439018_1, .int .i64 x439019_1, .int .u64 x439020_1, .bool x439021_1]] rfl (by (try simp only [List.map_toArray, List.map_cons, List.map_nil]); first | done | rfl | (simp only [List.length_drop, List.length_take]; rfl)) ?_; (with_reducible refine (task_Run.calls x439000_1 x439001_1 x439002_1 x439003_1 x439004_1 x439005_1 x439006_1 x439007_1 x439008_1 x439009_1 x439010_1 x439011_1 x439012_1 x439013_1 x439014_1 x439015_1 x439016_1 x439017_1 x439018_1 x439019_1 x439020_1 x439021_1 t441 t442 t443 t444 t445 t446 t447 t448 t449 t450 t451 false t453 t454 t455 t456 t457 t458 t459 t460 t461 t462 t463 _ A15.out).mono ?_); rintro e w41 ⟨rfl, hb⟩; refine ⟨_, rfl, ?_⟩; have N_ := Aside0.mk (Mem.call (by repeat (first | exact M.out | apply Mem.drewN | apply Mem.drew)) hb); clear M; have M := N_; clear N_; (try clear hb); (try clear hb2); (try clear hk); (try clear hi)) | ((with_reducible refine gate_dst (N := 8) rfl ?_); (try (refine gate_guard (by rfl) ?_; dsimp only)); (refine mem_alloc (w0 := ?_) (m := ?_) (cs := ?_) 30 rfl rfl Try.zeroValue30 ?hc ?hM ?_; (case hM => exact M.out); (case hc => simp only [Value.cells, List.toList_toArray]; rfl)); intro gb464 W_ M_; have N_ := Aside0.mk M_; clear M M_; have M := N_; clear N_) | (go_at_call 15; (with_reducible refine (ring_Good.calls t460 t461 1 t466 _ A39.out).mono ?_); rintro e w46 ⟨rfl, hb⟩; have N_ := Aside0.mk (Mem.call (by repeat (first | exact M.out | apply Mem.drewN | apply Mem.drew)) hb); clear M; have M := N_; clear N_; (try clear hb); (try clear hb2); (try clear hk); (try clear hi)) | ((with_reducible refine gate_load rfl ?_); (try (refine gate_guard (by rfl) ?_; dsimp only)); first | (refine mem_load1 (w0 := ?_) (m := ?_) (cs := ?_) (e := ?_) (v := ?_) (g := ?_) (off := ?_) _ _ rfl rfl ?ha ?hp ?hM ?hm ?hv ?_; (case ha => first | exact Try.isAgg3 | exact Try.isAgg4); (case hp => (conv => lhs; whnf); try exact rfl); (case hM => exact M.out); (case hm => repeat (first | exact List.Mem.head _ | apply List.Mem.tail)); (case hv => (conv => lhs; whnf); try exact rfl)) | (refine mem_load (w0 := ?_) (m := ?_) (k := ?_) (cs := ?_) (e := ?_) (seg := ?_) (g := ?_) (off := ?_) _ _ rfl rfl ?ha ?hz ?hp ?hM ?hm ?hs ?hl ?_; (case ha => first | exact Try.isAgg28 | exact Try.isAgg30); (case hz => first | exact Try.sizeOf28 | exact Try.sizeOf30); (case hp => (conv => lhs; whnf); try exact rfl); (case hM => exact M.out); (case hm => repeat (first | exact List.Mem.head _ | apply List.Mem.tail)); (case hs => simp only [List.take, List.drop]; rfl); (case hl => rfl))) | ((with_reducible refine gate_st rfl ?_); refine mem_store (w0 := ?_) (m := ?_) (m' := ?_) (seg := ?_) (u := ?_) (g := ?_) (off := ?_) _ _ _ rfl rfl rfl ?hp ?hx ?hc ?hz ?h1 ?hM ?hU ?_; (case hM => exact M.out); (case hp => (conv => lhs; whnf); try exact rfl); (case hx => (conv => lhs; whnf); try exact rfl); (case hc => simp only [Value.cells, List.toList_toArray]; rfl); (case hz => first | exact Try.sizeOf30); (case h1 => rfl); (case hU => (repeat (first | (refine Upd.head (cs' := ?_) ?hf ?he; (case hf => exact Nat.le_of_ble_eq_true rfl); (case he => simp only [List.take, List.drop, List.length, List.cons_append, List.nil_append, Nat.reduceAdd, Nat.zero_add]; all_goals rfl)) | (refine Upd.tail (r' := ?_) ?_; rotate_left)))); intro W_ M_; have N_ := Aside0.mk M_; clear M M_; have M := N_; clear N_))
                          all_goals try (exfalso; first | (rw [c17b0] at c16b0; simp at c16b0; omega) | (rw [c61b0] at c16b0; simp at c16b0; omega) | (rw [c17b0] at c60b0; simp at c60b0; omega) | (rw [c61b0] at c60b0; simp at c60b0; omega))
                          go_ret
                          exact ⟨by first | rfl | (simp [errW_none, errW_some] <;> rfl) | (simp [*, errW_none, errW_some] <;> rfl) | (exfalso; first | contradiction | (revert c17b0 c36b0; simp +contextual; done)), by exact Mem.below (by repeat (first | exact M.out | apply Mem.drewN | apply Mem.drew))⟩
                      · rw [if_neg c37] at H
                        exact absurd H (by simp)
                    · rw [if_neg c36] at H
                      have c36b0 : (x7_1 == (wrap64 (a0_17 - a0_18))) = false := beq_eq_false_iff_ne.mpr c36
                      have c36b1 : (x7_1 != (wrap64 (a0_17 - a0_18))) = true := bne_iff_ne.mpr c36
                      have H' := Aside0.mk H
                      clear H
                      go_wp2_with (first | ((with_reducible refine gate_callee (f := 14) rfl ?_); refine goesL_ (some 55) rfl rfl Try.func14 (by kernel_rfl) rfl #[.agg #[.int .i64 x439000_1, .int .i64 x439001_1, .int .i64 x439002_1, .int .i64 x439003_1, .int .i64 x439004_1, .int .i64 x439005_1, .int .i64 x439006_1, .int .i64 x439007_1, .int .i64 x439008_1, .int .i64 x439009_1, .int .i64 x439010_1, .bool x439011_1, .int .i64 x439012_1, .int .i64 x439013_1, .int .i64 x439014_1, .bool x439015_1, .int .i64 x439016_1, .int .i64 x439017_1, .int .i64 x439018_1, .int .i64 x439019_1, .int .u64 x439020_1, .bool x439021_1]] rfl (by (try simp only [List.map_toArray, List.map_cons, List.map_nil]); first | done | rfl | (simp only [List.length_drop, List.length_take]; rfl)) ?_; (with_reducible refine (task_Run.calls x439000_1 x439001_1 x439002_1 x439003_1 x439004_1 x439005_1 x439006_1 x439007_1 x439008_1 x439009_1 x439010_1 x439011_1 x439012_1 x439013_1 x439014_1 x439015_1 x439016_1 x439017_1 x439018_1 x439019_1 x439020_1 x439021_1 t441 t442 t443 t444 t445 t446 t447 t448 t449 t450 t451 t452 t453 t454 t455 t456 t457 t458 t459 t460 t461 t462 t463 _ A15.out).mono ?_); rintro e w48 ⟨rfl, hb⟩; refine ⟨_, rfl, ?_⟩; have N_ := Aside0.mk (Mem.call (by repeat (first | exact M.out | apply Mem.drewN | apply Mem.drew)) hb); clear M; have M := N_; clear N_; (try clear hb); (try clear hb2); (try clear hk); (try clear hi)) | ((with_reducible refine gate_dst (N := 8) rfl ?_); (try (refine gate_guard (by rfl) ?_; dsimp only)); (refine mem_alloc (w0 := ?_) (m := ?_) (cs := ?_) 30 rfl rfl Try.zeroValue30 ?hc ?hM ?_; (case hM => exact M.out); (case hc => simp only [Value.cells, List.toList_toArray]; rfl)); intro gb464 W_ M_; have N_ := Aside0.mk M_; clear M M_; have M := N_; clear N_) | ((with_reducible refine gate_load rfl ?_); (try (refine gate_guard (by rfl) ?_; dsimp only)); first | (refine mem_load1 (w0 := ?_) (m := ?_) (cs := ?_) (e := ?_) (v := ?_) (g := ?_) (off := ?_) _ _ rfl rfl ?ha ?hp ?hM ?hm ?hv ?_; (case ha => first | exact Try.isAgg3 | exact Try.isAgg4); (case hp => (conv => lhs; whnf); try exact rfl); (case hM => exact M.out); (case hm => repeat (first | exact List.Mem.head _ | apply List.Mem.tail)); (case hv => (conv => lhs; whnf); try exact rfl)) | (refine mem_load (w0 := ?_) (m := ?_) (k := ?_) (cs := ?_) (e := ?_) (seg := ?_) (g := ?_) (off := ?_) _ _ rfl rfl ?ha ?hz ?hp ?hM ?hm ?hs ?hl ?_; (case ha => first | exact Try.isAgg28 | exact Try.isAgg30); (case hz => first | exact Try.sizeOf28 | exact Try.sizeOf30); (case hp => (conv => lhs; whnf); try exact rfl); (case hM => exact M.out); (case hm => repeat (first | exact List.Mem.head _ | apply List.Mem.tail)); (case hs => simp only [List.take, List.drop]; rfl); (case hl => rfl))) | ((with_reducible refine gate_st rfl ?_); refine mem_store (w0 := ?_) (m := ?_) (m' := ?_) (seg := ?_) (u := ?_) (g := ?_) (off := ?_) _ _ _ rfl rfl rfl ?hp ?hx ?hc ?hz ?h1 ?hM ?hU ?_; (case hM => exact M.out); (case hp => (conv => lhs; whnf); try exact rfl); (case hx => (conv => lhs; whnf); try exact rfl); (case hc => simp only [Value.cells, List.toList_toArray]; rfl); (case hz => first | exact Try.sizeOf30); (case h1 => rfl); (case hU => (repeat (first | (refine Upd.head (cs' := ?_) ?hf ?he; (case hf => exact Nat.le_of_ble_eq_true rfl); (case he => simp only [List.take, List.drop, List.length, List.cons_append, List.nil_append, Nat.reduceAdd, Nat.zero_add]; all_goals rfl)) | (refine Upd.tail (r' := ?_) ?_; rotate_left)))); intro W_ M_; have N_ := Aside0.mk M_; clear M M_; have M := N_; clear N_))
                      all_goals try (exfalso; first | (rw [c17b0] at c16b0; simp at c16b0; omega) | (rw [c61b0] at c16b0; simp at c16b0; omega) | (rw [c17b0] at c60b0; simp at c60b0; omega) | (rw [c61b0] at c60b0; simp at c60b0; omega))
                      go_roundg k1
                      case measure => have := HK1.out; omega
                      case rel => exact ⟨(wrap64 (x7_1 + 1)), (t441), (t442), (t443), (t444), (t445), (t446), (t447), (t448), (t449), (t450), (t451), (t452), (t453), (t454), (t455), (t456), (t457), (t458), (t459), (t460), (t461), (t462), (by first | rfl | (simp; done) | (simp [*]; done)), H', ⟨by have := HK1.out; omega⟩, ⟨by first | exact M.out | exact mem_tail_ M.out | exact mem_tail_ (mem_tail_ M.out) | exact mem_tail_ (mem_tail_ (mem_tail_ M.out))⟩⟩
              · rw [if_neg c14] at H
                exact absurd H (by simp)
        · rw [if_neg c8] at H
          have c8b0 : decide (a0_17 < a0_16) = false := decide_eq_false c8
          clear c8
          have H' := Aside0.mk H
          clear H
          go_enter Try.func6, Try.ntmps6
          go_wp2_with (first | ((with_reducible refine gate_dst (N := 2) rfl ?_); (try (refine gate_guard (by rfl) ?_; dsimp only)); (refine mem_box (w0 := ?_) (m := ?_) (cs := ?_) (u := ?_) 30 _ rfl rfl ?hx ?hc ?hM ?_; (case hM => exact M.out); (case hx => (conv => lhs; whnf); try exact rfl); (case hc => simp only [Value.cells, List.toList_toArray]; rfl)); intro gb438 W_ M_; have N_ := Aside0.mk M_; clear M M_; have M := N_; clear N_) | ((with_reducible refine gate_callee (f := 7) rfl ?_); refine goesL_ (some 11) rfl rfl Try.func7 (by kernel_rfl) rfl #[] rfl (by (try simp only [List.map_toArray, List.map_cons, List.map_nil]); first | done | rfl | (simp only [List.length_drop, List.length_take]; rfl)) ?_; (with_reducible refine (fuseelaw15_awake.calls k  true _ A3.out).mono ?_); rintro e w54 ⟨rfl, hb⟩; refine ⟨_, rfl, ?_⟩; have N_ := Aside0.mk (Mem.call (by repeat (first | exact M.out | apply Mem.drewN | apply Mem.drew)) hb); clear M; have M := N_; clear N_; (try clear hb); (try clear hb2); (try clear hk); (try clear hi)) | (go_at_call 8; (with_reducible refine (task_May.calls k a0_0 a0_1 a0_2 a0_3 a0_4 a0_5 a0_6 a0_7 a0_8 a0_9 a0_10 true a0_12 a0_13 a0_14 a0_15 a0_16 a0_17 a0_18 a0_19 a0_20 a0_21 a1 true _ A6.out).mono ?_); rintro e w56 ⟨rfl, hb⟩; have N_ := Aside0.mk (Mem.call (by repeat (first | exact M.out | apply Mem.drewN | apply Mem.drew)) hb); clear M; have M := N_; clear N_; (try clear hb); (try clear hb2); (try clear hk); (try clear hi)) | ((with_reducible refine gate_load rfl ?_); (try (refine gate_guard (by rfl) ?_; dsimp only)); first | (refine mem_load1 (w0 := ?_) (m := ?_) (cs := ?_) (e := ?_) (v := ?_) (g := ?_) (off := ?_) _ _ rfl rfl ?ha ?hp ?hM ?hm ?hv ?_; (case ha => first | exact Try.isAgg3 | exact Try.isAgg4); (case hp => (conv => lhs; whnf); try exact rfl); (case hM => exact M.out); (case hm => repeat (first | exact List.Mem.head _ | apply List.Mem.tail)); (case hv => (conv => lhs; whnf); try exact rfl)) | (refine mem_load (w0 := ?_) (m := ?_) (k := ?_) (cs := ?_) (e := ?_) (seg := ?_) (g := ?_) (off := ?_) _ _ rfl rfl ?ha ?hz ?hp ?hM ?hm ?hs ?hl ?_; (case ha => first | exact Try.isAgg28 | exact Try.isAgg30); (case hz => first | exact Try.sizeOf28 | exact Try.sizeOf30); (case hp => (conv => lhs; whnf); try exact rfl); (case hM => exact M.out); (case hm => repeat (first | exact List.Mem.head _ | apply List.Mem.tail)); (case hs => simp only [List.take, List.drop]; rfl); (case hl => rfl))) | ((with_reducible refine gate_st rfl ?_); refine mem_store (w0 := ?_) (m := ?_) (m' := ?_) (seg := ?_) (u := ?_) (g := ?_) (off := ?_) _ _ _ rfl rfl rfl ?hp ?hx ?hc ?hz ?h1 ?hM ?hU ?_; (case hM => exact M.out); (case hp => (conv => lhs; whnf); try exact rfl); (case hx => (conv => lhs; whnf); try exact rfl); (case hc => simp only [Value.cells, List.toList_toArray]; rfl); (case hz => first | exact Try.sizeOf30); (case h1 => rfl); (case hU => (repeat (first | (refine Upd.head (cs' := ?_) ?hf ?he; (case hf => exact Nat.le_of_ble_eq_true rfl); (case he => simp only [List.take, List.drop, List.length, List.cons_append, List.nil_append, Nat.reduceAdd, Nat.zero_add]; all_goals rfl)) | (refine Upd.tail (r' := ?_) ?_; rotate_left)))); intro W_ M_; have N_ := Aside0.mk M_; clear M M_; have M := N_; clear N_))
          go_loopg [7] k (fun kq v7 w' => ∃ (x7_1 : Int) (x439000_1 : Int) (x439001_1 : Int) (x439002_1 : Int) (x439003_1 : Int) (x439004_1 : Int) (x439005_1 : Int) (x439006_1 : Int) (x439007_1 : Int) (x439008_1 : Int) (x439009_1 : Int) (x439010_1 : Int) (x439011_1 : Bool) (x439012_1 : Int) (x439013_1 : Int) (x439014_1 : Int) (x439015_1 : Bool) (x439016_1 : Int) (x439017_1 : Int) (x439018_1 : Int) (x439019_1 : Int) (x439020_1 : Int) (x439021_1 : Bool), v7 = .int .i64 x7_1 ∧ Aside0 (fuseelaw15_TaskGood.l0 kq (wrap64 (a0_16 - a0_18)) x7_1 x439000_1 x439001_1 x439002_1 x439003_1 x439004_1 x439005_1 x439006_1 x439007_1 x439008_1 x439009_1 x439010_1 x439011_1 x439012_1 x439013_1 x439014_1 x439015_1 x439016_1 x439017_1 x439018_1 x439019_1 x439020_1 x439021_1 = some r) ∧ Aside0 (kq ≤ k) ∧ Aside0 (Mem w w' [(gb438, [.int .i64 x439000_1, .int .i64 x439001_1, .int .i64 x439002_1, .int .i64 x439003_1, .int .i64 x439004_1, .int .i64 x439005_1, .int .i64 x439006_1, .int .i64 x439007_1, .int .i64 x439008_1, .int .i64 x439009_1, .int .i64 x439010_1, .bool x439011_1, .int .i64 x439012_1, .int .i64 x439013_1, .int .i64 x439014_1, .bool x439015_1, .int .i64 x439016_1, .int .i64 x439017_1, .int .i64 x439018_1, .int .i64 x439019_1, .int .u64 x439020_1, .bool x439021_1], 30)]))
          case atStart => exact ⟨(1), (a0_0), (a0_1), (a0_2), (a0_3), (a0_4), (a0_5), (a0_6), (a0_7), (a0_8), (a0_9), (a0_10), (true), (a0_12), (a0_13), (a0_14), (a0_15), (a0_16), (a0_17), (a0_18), (a0_19), (a0_20), (a0_21), (by first | rfl | (simp; done) | (simp [*]; done)), H', ⟨Nat.le_refl _⟩, ⟨by first | exact M.out | exact mem_tail_ M.out | exact mem_tail_ (mem_tail_ M.out) | exact mem_tail_ (mem_tail_ (mem_tail_ M.out))⟩⟩
          case round =>
            clear H'
            try clear c1
            try clear c2
            try clear p2
            try clear c3
            try clear c4
            try clear c5
            try clear c6
            try clear p6
            try clear c7
            try clear c8
            try clear c8b0
            try clear c14
            try clear c14b0
            try clear c16
            try clear c16b0
            try clear c16b1
            try clear c16b2
            try clear c17
            try clear c17b0
            try clear c17b1
            try clear c18
            try clear c18b0
            try clear c19
            try clear c19b0
            try clear c19b1
            try clear c20
            try clear c20b0
            try clear c20b1
            try clear c20b2
            try clear c21
            try clear c26
            try clear c33
            try clear c36
            try clear c36b0
            try clear c36b1
            try clear c37
            try clear c37b0
            try clear c37b1
            try clear c37b2
            try clear c38
            try clear c43
            try clear c50
            try clear p2
            try clear p6
            obtain ⟨x7_1, x439000_1, x439001_1, x439002_1, x439003_1, x439004_1, x439005_1, x439006_1, x439007_1, x439008_1, x439009_1, x439010_1, x439011_1, x439012_1, x439013_1, x439014_1, x439015_1, x439016_1, x439017_1, x439018_1, x439019_1, x439020_1, x439021_1, rfl, HA, HK1, M⟩ := hrel
            cases gk with
            | zero => exact absurd HA.out (by simp [fuseelaw15_TaskGood.l0])
            | succ k1 =>
              have H := HA.out
              clear HA
              simp only [fuseelaw15_TaskGood.l0] at H
              by_cases c58 : x7_1 ≤ (wrap64 (a0_16 - a0_18))
              · rw [if_pos c58] at H
                have c58b0 : decide (x7_1 ≤ (wrap64 (a0_16 - a0_18))) = true := decide_eq_true c58
                clear c58
                replace H := Option.bind_eq_some_iff.mp H
                obtain ⟨⟨t441, t442, t443, t444, t445, t446, t447, t448, t449, t450, t451, t452, t453, t454, t455, t456, t457, t458, t459, t460, t461, t462, t463⟩, A590, H⟩ := H
                try dsimp only at H
                have A59 := Aside0.mk A590
                clear A590
                by_cases c60 : ((t463 == 0) != (decide (x7_1 < (wrap64 (a0_16 - a0_18))))) = true
                · rw [if_pos c60] at H
                  exact absurd H (by simp)
                · rw [if_neg c60] at H
                  have c60b0 : ((t463 == 0) != (decide (x7_1 < (wrap64 (a0_16 - a0_18))))) = false := by simpa using c60
                  (try (have c60b1 : decide ((t463 == 0) = (decide (x7_1 < (wrap64 (a0_16 - a0_18))))) = true := by simpa using c60))
                  (try (have c60b2 : ((t463 == 0) == (decide (x7_1 < (wrap64 (a0_16 - a0_18))))) = true := by simpa using c60))
                  clear c60
                  by_cases c61 : t463 = 0
                  · rw [if_pos c61] at H
                    have c61b0 : (t463 == 0) = true := beq_iff_eq.mpr c61
                    have c61b1 : (t463 != 0) = false := bne_eq_false_iff_eq.mpr c61
                    clear c61
                    by_cases c62 : (!(t460 == x439019_1) || (!(t461 == x439020_1))) = true
                    · rw [if_pos c62] at H
                      exact absurd H (by simp)
                    · rw [if_neg c62] at H
                      have c62b0 : (!(t460 == x439019_1) || (!(t461 == x439020_1))) = false := by simpa using c62
                      clear c62
                      by_cases c63 : x7_1 = (wrap64 (a0_16 - a0_18))
                      · rw [if_pos c63] at H
                        have c63b0 : (x7_1 == (wrap64 (a0_16 - a0_18))) = true := beq_iff_eq.mpr c63
                        have c63b1 : (x7_1 != (wrap64 (a0_16 - a0_18))) = false := bne_eq_false_iff_eq.mpr c63
                        clear c63
                        by_cases c64 : ((t463 == 1) == (decide (x439017_1 ≤ x439016_1))) = true
                        · rw [if_pos c64] at H
                          have c64b0 : ((t463 == 1) == (decide (x439017_1 ≤ x439016_1))) = true := c64
                          (try (have c64b1 : decide ((t463 == 1) = (decide (x439017_1 ≤ x439016_1))) = true := by simpa using c64))
                          (try (have c64b2 : ((t463 == 1) == (decide (x439017_1 ≤ x439016_1))) = true := by simpa using c64))
                          clear c64
                          by_cases c65 : t452 = true
                          · subst c65
                            rw [if_pos rfl] at H
                            exact absurd H (by simp)
                          · replace c65 := Bool.eq_false_iff.mpr c65
                            subst c65
                            rw [if_neg (show ¬ (false = true) by decide)] at H
                            replace H := Option.bind_eq_some_iff.mp H
                            obtain ⟨t465, A660, H⟩ := H
                            try dsimp only at H
                            have A66 := Aside0.mk A660
                            clear A660
                            obtain rfl := Option.some.inj H
                            go_wp2_with (first | ((with_reducible refine gate_callee (f := 14) rfl ?_); refine goesL_ (some 55) rfl rfl Try.func14 (by kernel_rfl) rfl #[.agg #[.int .i64 x439000_1, .int .i64 x439001_1, .int .i64 x439002_1, .int .i64 x439003_1, .int .i64 x439004_1, .int .i64 x439005_1, .int .i64 x439006_1, .int .i64 x439007_1, .int .i64 x439008_1, .int .i64 x439009_1, .int .i64 x439010_1, .bool x439011_1, .int .i64 x439012_1, .int .i64 x439013_1, .int .i64 x439014_1, .bool x439015_1, .int .i64 x439016_1, .int .i64 x439017_1, .int .i64 x439018_1, .int .i64 x439019_1, .int .u64 x439020_1, .bool x439021_1]] rfl (by (try simp only [List.map_toArray, List.map_cons, List.map_nil]); first | done | rfl | (simp only [List.length_drop, List.length_take]; rfl)) ?_; (with_reducible refine (task_Run.calls x439000_1 x439001_1 x439002_1 x439003_1 x439004_1 x439005_1 x439006_1 x439007_1 x439008_1 x439009_1 x439010_1 x439011_1 x439012_1 x439013_1 x439014_1 x439015_1 x439016_1 x439017_1 x439018_1 x439019_1 x439020_1 x439021_1 t441 t442 t443 t444 t445 t446 t447 t448 t449 t450 t451 false t453 t454 t455 t456 t457 t458 t459 t460 t461 t462 t463 _ A59.out).mono ?_); rintro e w68 ⟨rfl, hb⟩; refine ⟨_, rfl, ?_⟩; have N_ := Aside0.mk (Mem.call (by repeat (first | exact M.out | apply Mem.drewN | apply Mem.drew)) hb); clear M; have M := N_; clear N_; (try clear hb); (try clear hb2); (try clear hk); (try clear hi)) | ((with_reducible refine gate_dst (N := 8) rfl ?_); (try (refine gate_guard (by rfl) ?_; dsimp only)); (refine mem_alloc (w0 := ?_) (m := ?_) (cs := ?_) 30 rfl rfl Try.zeroValue30 ?hc ?hM ?_; (case hM => exact M.out); (case hc => simp only [Value.cells, List.toList_toArray]; rfl)); intro gb464 W_ M_; have N_ := Aside0.mk M_; clear M M_; have M := N_; clear N_) | (go_at_call 15; (with_reducible refine (ring_Good.calls t460 t461 1 t465 _ A66.out).mono ?_); rintro e w73 ⟨rfl, hb⟩; have N_ := Aside0.mk (Mem.call (by repeat (first | exact M.out | apply Mem.drewN | apply Mem.drew)) hb); clear M; have M := N_; clear N_; (try clear hb); (try clear hb2); (try clear hk); (try clear hi)) | ((with_reducible refine gate_load rfl ?_); (try (refine gate_guard (by rfl) ?_; dsimp only)); first | (refine mem_load1 (w0 := ?_) (m := ?_) (cs := ?_) (e := ?_) (v := ?_) (g := ?_) (off := ?_) _ _ rfl rfl ?ha ?hp ?hM ?hm ?hv ?_; (case ha => first | exact Try.isAgg3 | exact Try.isAgg4); (case hp => (conv => lhs; whnf); try exact rfl); (case hM => exact M.out); (case hm => repeat (first | exact List.Mem.head _ | apply List.Mem.tail)); (case hv => (conv => lhs; whnf); try exact rfl)) | (refine mem_load (w0 := ?_) (m := ?_) (k := ?_) (cs := ?_) (e := ?_) (seg := ?_) (g := ?_) (off := ?_) _ _ rfl rfl ?ha ?hz ?hp ?hM ?hm ?hs ?hl ?_; (case ha => first | exact Try.isAgg28 | exact Try.isAgg30); (case hz => first | exact Try.sizeOf28 | exact Try.sizeOf30); (case hp => (conv => lhs; whnf); try exact rfl); (case hM => exact M.out); (case hm => repeat (first | exact List.Mem.head _ | apply List.Mem.tail)); (case hs => simp only [List.take, List.drop]; rfl); (case hl => rfl))) | ((with_reducible refine gate_st rfl ?_); refine mem_store (w0 := ?_) (m := ?_) (m' := ?_) (seg := ?_) (u := ?_) (g := ?_) (off := ?_) _ _ _ rfl rfl rfl ?hp ?hx ?hc ?hz ?h1 ?hM ?hU ?_; (case hM => exact M.out); (case hp => (conv => lhs; whnf); try exact rfl); (case hx => (conv => lhs; whnf); try exact rfl); (case hc => simp only [Value.cells, List.toList_toArray]; rfl); (case hz => first | exact Try.sizeOf30); (case h1 => rfl); (case hU => (repeat (first | (refine Upd.head (cs' := ?_) ?hf ?he; (case hf => exact Nat.le_of_ble_eq_true rfl); (case he => simp only [List.take, List.drop, List.length, List.cons_append, List.nil_append, Nat.reduceAdd, Nat.zero_add]; all_goals rfl)) | (refine Upd.tail (r' := ?_) ?_; rotate_left)))); intro W_ M_; have N_ := Aside0.mk M_; clear M M_; have M := N_; clear N_))
                            all_goals try (exfalso; first | (rw [c17b0] at c16b0; simp at c16b0; omega) | (rw [c61b0] at c16b0; simp at c16b0; omega) | (rw [c17b0] at c60b0; simp at c60b0; omega) | (rw [c61b0] at c60b0; simp at c60b0; omega))
                            go_ret
                            exact ⟨by first | rfl | (simp [errW_none, errW_some] <;> rfl) | (simp [*, errW_none, errW_some] <;> rfl) | (exfalso; first | contradiction | (revert c61b0 c62b0 c63b0; simp +contextual; done)), by exact Mem.below (by repeat (first | exact M.out | apply Mem.drewN | apply Mem.drew))⟩
                        · rw [if_neg c64] at H
                          exact absurd H (by simp)
                      · rw [if_neg c63] at H
                        have c63b0 : (x7_1 == (wrap64 (a0_16 - a0_18))) = false := beq_eq_false_iff_ne.mpr c63
                        have c63b1 : (x7_1 != (wrap64 (a0_16 - a0_18))) = true := bne_iff_ne.mpr c63
                        have H' := Aside0.mk H
                        clear H
                        go_wp2_with (first | ((with_reducible refine gate_callee (f := 14) rfl ?_); refine goesL_ (some 55) rfl rfl Try.func14 (by kernel_rfl) rfl #[.agg #[.int .i64 x439000_1, .int .i64 x439001_1, .int .i64 x439002_1, .int .i64 x439003_1, .int .i64 x439004_1, .int .i64 x439005_1, .int .i64 x439006_1, .int .i64 x439007_1, .int .i64 x439008_1, .int .i64 x439009_1, .int .i64 x439010_1, .bool x439011_1, .int .i64 x439012_1, .int .i64 x439013_1, .int .i64 x439014_1, .bool x439015_1, .int .i64 x439016_1, .int .i64 x439017_1, .int .i64 x439018_1, .int .i64 x439019_1, .int .u64 x439020_1, .bool x439021_1]] rfl (by (try simp only [List.map_toArray, List.map_cons, List.map_nil]); first | done | rfl | (simp only [List.length_drop, List.length_take]; rfl)) ?_; (with_reducible refine (task_Run.calls x439000_1 x439001_1 x439002_1 x439003_1 x439004_1 x439005_1 x439006_1 x439007_1 x439008_1 x439009_1 x439010_1 x439011_1 x439012_1 x439013_1 x439014_1 x439015_1 x439016_1 x439017_1 x439018_1 x439019_1 x439020_1 x439021_1 t441 t442 t443 t444 t445 t446 t447 t448 t449 t450 t451 t452 t453 t454 t455 t456 t457 t458 t459 t460 t461 t462 t463 _ A59.out).mono ?_); rintro e w75 ⟨rfl, hb⟩; refine ⟨_, rfl, ?_⟩; have N_ := Aside0.mk (Mem.call (by repeat (first | exact M.out | apply Mem.drewN | apply Mem.drew)) hb); clear M; have M := N_; clear N_; (try clear hb); (try clear hb2); (try clear hk); (try clear hi)) | ((with_reducible refine gate_dst (N := 8) rfl ?_); (try (refine gate_guard (by rfl) ?_; dsimp only)); (refine mem_alloc (w0 := ?_) (m := ?_) (cs := ?_) 30 rfl rfl Try.zeroValue30 ?hc ?hM ?_; (case hM => exact M.out); (case hc => simp only [Value.cells, List.toList_toArray]; rfl)); intro gb464 W_ M_; have N_ := Aside0.mk M_; clear M M_; have M := N_; clear N_) | ((with_reducible refine gate_load rfl ?_); (try (refine gate_guard (by rfl) ?_; dsimp only)); first | (refine mem_load1 (w0 := ?_) (m := ?_) (cs := ?_) (e := ?_) (v := ?_) (g := ?_) (off := ?_) _ _ rfl rfl ?ha ?hp ?hM ?hm ?hv ?_; (case ha => first | exact Try.isAgg3 | exact Try.isAgg4); (case hp => (conv => lhs; whnf); try exact rfl); (case hM => exact M.out); (case hm => repeat (first | exact List.Mem.head _ | apply List.Mem.tail)); (case hv => (conv => lhs; whnf); try exact rfl)) | (refine mem_load (w0 := ?_) (m := ?_) (k := ?_) (cs := ?_) (e := ?_) (seg := ?_) (g := ?_) (off := ?_) _ _ rfl rfl ?ha ?hz ?hp ?hM ?hm ?hs ?hl ?_; (case ha => first | exact Try.isAgg28 | exact Try.isAgg30); (case hz => first | exact Try.sizeOf28 | exact Try.sizeOf30); (case hp => (conv => lhs; whnf); try exact rfl); (case hM => exact M.out); (case hm => repeat (first | exact List.Mem.head _ | apply List.Mem.tail)); (case hs => simp only [List.take, List.drop]; rfl); (case hl => rfl))) | ((with_reducible refine gate_st rfl ?_); refine mem_store (w0 := ?_) (m := ?_) (m' := ?_) (seg := ?_) (u := ?_) (g := ?_) (off := ?_) _ _ _ rfl rfl rfl ?hp ?hx ?hc ?hz ?h1 ?hM ?hU ?_; (case hM => exact M.out); (case hp => (conv => lhs; whnf); try exact rfl); (case hx => (conv => lhs; whnf); try exact rfl); (case hc => simp only [Value.cells, List.toList_toArray]; rfl); (case hz => first | exact Try.sizeOf30); (case h1 => rfl); (case hU => (repeat (first | (refine Upd.head (cs' := ?_) ?hf ?he; (case hf => exact Nat.le_of_ble_eq_true rfl); (case he => simp only [List.take, List.drop, List.length, List.cons_append, List.nil_append, Nat.reduceAdd, Nat.zero_add]; all_goals rfl)) | (refine Upd.tail (r' := ?_) ?_; rotate_left)))); intro W_ M_; have N_ := Aside0.mk M_; clear M M_; have M := N_; clear N_))
                        all_goals try (exfalso; first | (rw [c17b0] at c16b0; simp at c16b0; omega) | (rw [c61b0] at c16b0; simp at c16b0; omega) | (rw [c17b0] at c60b0; simp at c60b0; omega) | (rw [c61b0] at c60b0; simp at c60b0; omega))
                        go_roundg k1
                        case measure => have := HK1.out; omega
                        case rel => exact ⟨(wrap64 (x7_1 + 1)), (t441), (t442), (t443), (t444), (t445), (t446), (t447), (t448), (t449), (t450), (t451), (t452), (t453), (t454), (t455), (t456), (t457), (t458), (t459), (t460), (t461), (t462), (by first | rfl | (simp; done) | (simp [*]; done)), H', ⟨by have := HK1.out; omega⟩, ⟨by first | exact M.out | exact mem_tail_ M.out | exact mem_tail_ (mem_tail_ M.out) | exact mem_tail_ (mem_tail_ (mem_tail_ M.out))⟩⟩
                  · rw [if_neg c61] at H
                    have c61b0 : (t463 == 0) = false := beq_eq_false_iff_ne.mpr c61
                    have c61b1 : (t463 != 0) = true := bne_iff_ne.mpr c61
                    by_cases c80 : x7_1 = (wrap64 (a0_16 - a0_18))
                    · rw [if_pos c80] at H
                      have c80b0 : (x7_1 == (wrap64 (a0_16 - a0_18))) = true := beq_iff_eq.mpr c80
                      have c80b1 : (x7_1 != (wrap64 (a0_16 - a0_18))) = false := bne_eq_false_iff_eq.mpr c80
                      clear c80
                      by_cases c81 : ((t463 == 1) == (decide (x439017_1 ≤ x439016_1))) = true
                      · rw [if_pos c81] at H
                        have c81b0 : ((t463 == 1) == (decide (x439017_1 ≤ x439016_1))) = true := c81
                        (try (have c81b1 : decide ((t463 == 1) = (decide (x439017_1 ≤ x439016_1))) = true := by simpa using c81))
                        (try (have c81b2 : ((t463 == 1) == (decide (x439017_1 ≤ x439016_1))) = true := by simpa using c81))
                        clear c81
                        by_cases c82 : t452 = true
                        · subst c82
                          rw [if_pos rfl] at H
                          exact absurd H (by simp)
                        · replace c82 := Bool.eq_false_iff.mpr c82
                          subst c82
                          rw [if_neg (show ¬ (false = true) by decide)] at H
                          replace H := Option.bind_eq_some_iff.mp H
                          obtain ⟨t466, A830, H⟩ := H
                          try dsimp only at H
                          have A83 := Aside0.mk A830
                          clear A830
                          obtain rfl := Option.some.inj H
                          go_wp2_with (first | ((with_reducible refine gate_callee (f := 14) rfl ?_); refine goesL_ (some 55) rfl rfl Try.func14 (by kernel_rfl) rfl #[.agg #[.int .i64 x439000_1, .int .i64 x439001_1, .int .i64 x439002_1, .int .i64 x439003_1, .int .i64 x439004_1, .int .i64 x439005_1, .int .i64 x439006_1, .int .i64 x439007_1, .int .i64 x439008_1, .int .i64 x439009_1, .int .i64 x439010_1, .bool x439011_1, .int .i64 x439012_1, .int .i64 x439013_1, .int .i64 x439014_1, .bool x439015_1, .int .i64 x439016_1, .int .i64 x439017_1, .int .i64 x439018_1, .int .i64 x439019_1, .int .u64 x439020_1, .bool x439021_1]] rfl (by (try simp only [List.map_toArray, List.map_cons, List.map_nil]); first | done | rfl | (simp only [List.length_drop, List.length_take]; rfl)) ?_; (with_reducible refine (task_Run.calls x439000_1 x439001_1 x439002_1 x439003_1 x439004_1 x439005_1 x439006_1 x439007_1 x439008_1 x439009_1 x439010_1 x439011_1 x439012_1 x439013_1 x439014_1 x439015_1 x439016_1 x439017_1 x439018_1 x439019_1 x439020_1 x439021_1 t441 t442 t443 t444 t445 t446 t447 t448 t449 t450 t451 false t453 t454 t455 t456 t457 t458 t459 t460 t461 t462 t463 _ A59.out).mono ?_); rintro e w85 ⟨rfl, hb⟩; refine ⟨_, rfl, ?_⟩; have N_ := Aside0.mk (Mem.call (by repeat (first | exact M.out | apply Mem.drewN | apply Mem.drew)) hb); clear M; have M := N_; clear N_; (try clear hb); (try clear hb2); (try clear hk); (try clear hi)) | ((with_reducible refine gate_dst (N := 8) rfl ?_); (try (refine gate_guard (by rfl) ?_; dsimp only)); (refine mem_alloc (w0 := ?_) (m := ?_) (cs := ?_) 30 rfl rfl Try.zeroValue30 ?hc ?hM ?_; (case hM => exact M.out); (case hc => simp only [Value.cells, List.toList_toArray]; rfl)); intro gb464 W_ M_; have N_ := Aside0.mk M_; clear M M_; have M := N_; clear N_) | (go_at_call 15; (with_reducible refine (ring_Good.calls t460 t461 1 t466 _ A83.out).mono ?_); rintro e w90 ⟨rfl, hb⟩; have N_ := Aside0.mk (Mem.call (by repeat (first | exact M.out | apply Mem.drewN | apply Mem.drew)) hb); clear M; have M := N_; clear N_; (try clear hb); (try clear hb2); (try clear hk); (try clear hi)) | ((with_reducible refine gate_load rfl ?_); (try (refine gate_guard (by rfl) ?_; dsimp only)); first | (refine mem_load1 (w0 := ?_) (m := ?_) (cs := ?_) (e := ?_) (v := ?_) (g := ?_) (off := ?_) _ _ rfl rfl ?ha ?hp ?hM ?hm ?hv ?_; (case ha => first | exact Try.isAgg3 | exact Try.isAgg4); (case hp => (conv => lhs; whnf); try exact rfl); (case hM => exact M.out); (case hm => repeat (first | exact List.Mem.head _ | apply List.Mem.tail)); (case hv => (conv => lhs; whnf); try exact rfl)) | (refine mem_load (w0 := ?_) (m := ?_) (k := ?_) (cs := ?_) (e := ?_) (seg := ?_) (g := ?_) (off := ?_) _ _ rfl rfl ?ha ?hz ?hp ?hM ?hm ?hs ?hl ?_; (case ha => first | exact Try.isAgg28 | exact Try.isAgg30); (case hz => first | exact Try.sizeOf28 | exact Try.sizeOf30); (case hp => (conv => lhs; whnf); try exact rfl); (case hM => exact M.out); (case hm => repeat (first | exact List.Mem.head _ | apply List.Mem.tail)); (case hs => simp only [List.take, List.drop]; rfl); (case hl => rfl))) | ((with_reducible refine gate_st rfl ?_); refine mem_store (w0 := ?_) (m := ?_) (m' := ?_) (seg := ?_) (u := ?_) (g := ?_) (off := ?_) _ _ _ rfl rfl rfl ?hp ?hx ?hc ?hz ?h1 ?hM ?hU ?_; (case hM => exact M.out); (case hp => (conv => lhs; whnf); try exact rfl); (case hx => (conv => lhs; whnf); try exact rfl); (case hc => simp only [Value.cells, List.toList_toArray]; rfl); (case hz => first | exact Try.sizeOf30); (case h1 => rfl); (case hU => (repeat (first | (refine Upd.head (cs' := ?_) ?hf ?he; (case hf => exact Nat.le_of_ble_eq_true rfl); (case he => simp only [List.take, List.drop, List.length, List.cons_append, List.nil_append, Nat.reduceAdd, Nat.zero_add]; all_goals rfl)) | (refine Upd.tail (r' := ?_) ?_; rotate_left)))); intro W_ M_; have N_ := Aside0.mk M_; clear M M_; have M := N_; clear N_))
                          all_goals try (exfalso; first | (rw [c17b0] at c16b0; simp at c16b0; omega) | (rw [c61b0] at c16b0; simp at c16b0; omega) | (rw [c17b0] at c60b0; simp at c60b0; omega) | (rw [c61b0] at c60b0; simp at c60b0; omega))
                          go_ret
                          exact ⟨by first | rfl | (simp [errW_none, errW_some] <;> rfl) | (simp [*, errW_none, errW_some] <;> rfl) | (exfalso; first | contradiction | (revert c61b0 c80b0; simp +contextual; done)), by exact Mem.below (by repeat (first | exact M.out | apply Mem.drewN | apply Mem.drew))⟩
                      · rw [if_neg c81] at H
                        exact absurd H (by simp)
                    · rw [if_neg c80] at H
                      have c80b0 : (x7_1 == (wrap64 (a0_16 - a0_18))) = false := beq_eq_false_iff_ne.mpr c80
                      have c80b1 : (x7_1 != (wrap64 (a0_16 - a0_18))) = true := bne_iff_ne.mpr c80
                      have H' := Aside0.mk H
                      clear H
                      go_wp2_with (first | ((with_reducible refine gate_callee (f := 14) rfl ?_); refine goesL_ (some 55) rfl rfl Try.func14 (by kernel_rfl) rfl #[.agg #[.int .i64 x439000_1, .int .i64 x439001_1, .int .i64 x439002_1, .int .i64 x439003_1, .int .i64 x439004_1, .int .i64 x439005_1, .int .i64 x439006_1, .int .i64 x439007_1, .int .i64 x439008_1, .int .i64 x439009_1, .int .i64 x439010_1, .bool x439011_1, .int .i64 x439012_1, .int .i64 x439013_1, .int .i64 x439014_1, .bool x439015_1, .int .i64 x439016_1, .int .i64 x439017_1, .int .i64 x439018_1, .int .i64 x439019_1, .int .u64 x439020_1, .bool x439021_1]] rfl (by (try simp only [List.map_toArray, List.map_cons, List.map_nil]); first | done | rfl | (simp only [List.length_drop, List.length_take]; rfl)) ?_; (with_reducible refine (task_Run.calls x439000_1 x439001_1 x439002_1 x439003_1 x439004_1 x439005_1 x439006_1 x439007_1 x439008_1 x439009_1 x439010_1 x439011_1 x439012_1 x439013_1 x439014_1 x439015_1 x439016_1 x439017_1 x439018_1 x439019_1 x439020_1 x439021_1 t441 t442 t443 t444 t445 t446 t447 t448 t449 t450 t451 t452 t453 t454 t455 t456 t457 t458 t459 t460 t461 t462 t463 _ A59.out).mono ?_); rintro e w92 ⟨rfl, hb⟩; refine ⟨_, rfl, ?_⟩; have N_ := Aside0.mk (Mem.call (by repeat (first | exact M.out | apply Mem.drewN | apply Mem.drew)) hb); clear M; have M := N_; clear N_; (try clear hb); (try clear hb2); (try clear hk); (try clear hi)) | ((with_reducible refine gate_dst (N := 8) rfl ?_); (try (refine gate_guard (by rfl) ?_; dsimp only)); (refine mem_alloc (w0 := ?_) (m := ?_) (cs := ?_) 30 rfl rfl Try.zeroValue30 ?hc ?hM ?_; (case hM => exact M.out); (case hc => simp only [Value.cells, List.toList_toArray]; rfl)); intro gb464 W_ M_; have N_ := Aside0.mk M_; clear M M_; have M := N_; clear N_) | ((with_reducible refine gate_load rfl ?_); (try (refine gate_guard (by rfl) ?_; dsimp only)); first | (refine mem_load1 (w0 := ?_) (m := ?_) (cs := ?_) (e := ?_) (v := ?_) (g := ?_) (off := ?_) _ _ rfl rfl ?ha ?hp ?hM ?hm ?hv ?_; (case ha => first | exact Try.isAgg3 | exact Try.isAgg4); (case hp => (conv => lhs; whnf); try exact rfl); (case hM => exact M.out); (case hm => repeat (first | exact List.Mem.head _ | apply List.Mem.tail)); (case hv => (conv => lhs; whnf); try exact rfl)) | (refine mem_load (w0 := ?_) (m := ?_) (k := ?_) (cs := ?_) (e := ?_) (seg := ?_) (g := ?_) (off := ?_) _ _ rfl rfl ?ha ?hz ?hp ?hM ?hm ?hs ?hl ?_; (case ha => first | exact Try.isAgg28 | exact Try.isAgg30); (case hz => first | exact Try.sizeOf28 | exact Try.sizeOf30); (case hp => (conv => lhs; whnf); try exact rfl); (case hM => exact M.out); (case hm => repeat (first | exact List.Mem.head _ | apply List.Mem.tail)); (case hs => simp only [List.take, List.drop]; rfl); (case hl => rfl))) | ((with_reducible refine gate_st rfl ?_); refine mem_store (w0 := ?_) (m := ?_) (m' := ?_) (seg := ?_) (u := ?_) (g := ?_) (off := ?_) _ _ _ rfl rfl rfl ?hp ?hx ?hc ?hz ?h1 ?hM ?hU ?_; (case hM => exact M.out); (case hp => (conv => lhs; whnf); try exact rfl); (case hx => (conv => lhs; whnf); try exact rfl); (case hc => simp only [Value.cells, List.toList_toArray]; rfl); (case hz => first | exact Try.sizeOf30); (case h1 => rfl); (case hU => (repeat (first | (refine Upd.head (cs' := ?_) ?hf ?he; (case hf => exact Nat.le_of_ble_eq_true rfl); (case he => simp only [List.take, List.drop, List.length, List.cons_append, List.nil_append, Nat.reduceAdd, Nat.zero_add]; all_goals rfl)) | (refine Upd.tail (r' := ?_) ?_; rotate_left)))); intro W_ M_; have N_ := Aside0.mk M_; clear M M_; have M := N_; clear N_))
                      all_goals try (exfalso; first | (rw [c17b0] at c16b0; simp at c16b0; omega) | (rw [c61b0] at c16b0; simp at c16b0; omega) | (rw [c17b0] at c60b0; simp at c60b0; omega) | (rw [c61b0] at c60b0; simp at c60b0; omega))
                      go_roundg k1
                      case measure => have := HK1.out; omega
                      case rel => exact ⟨(wrap64 (x7_1 + 1)), (t441), (t442), (t443), (t444), (t445), (t446), (t447), (t448), (t449), (t450), (t451), (t452), (t453), (t454), (t455), (t456), (t457), (t458), (t459), (t460), (t461), (t462), (by first | rfl | (simp; done) | (simp [*]; done)), H', ⟨by have := HK1.out; omega⟩, ⟨by first | exact M.out | exact mem_tail_ M.out | exact mem_tail_ (mem_tail_ M.out) | exact mem_tail_ (mem_tail_ (mem_tail_ M.out))⟩⟩
              · rw [if_neg c58] at H
                exact absurd H (by simp)
      · replace c7 := Bool.eq_false_iff.mpr c7
        subst c7
        rw [if_neg (show ¬ (false = true) by decide)] at H
        obtain rfl := Option.some.inj H
        go_enter Try.func6, Try.ntmps6
        go_wp2_with (first | ((with_reducible refine gate_dst (N := 2) rfl ?_); (try (refine gate_guard (by rfl) ?_; dsimp only)); (refine mem_box (w0 := ?_) (m := ?_) (cs := ?_) (u := ?_) 30 _ rfl rfl ?hx ?hc ?hM ?_; (case hM => exact M.out); (case hx => (conv => lhs; whnf); try exact rfl); (case hc => simp only [Value.cells, List.toList_toArray]; rfl)); intro gb438 W_ M_; have N_ := Aside0.mk M_; clear M M_; have M := N_; clear N_) | ((with_reducible refine gate_callee (f := 7) rfl ?_); refine goesL_ (some 11) rfl rfl Try.func7 (by kernel_rfl) rfl #[] rfl (by (try simp only [List.map_toArray, List.map_cons, List.map_nil]); first | done | rfl | (simp only [List.length_drop, List.length_take]; rfl)) ?_; (with_reducible refine (fuseelaw15_awake.calls k  true _ A3.out).mono ?_); rintro e w98 ⟨rfl, hb⟩; refine ⟨_, rfl, ?_⟩; have N_ := Aside0.mk (Mem.call (by repeat (first | exact M.out | apply Mem.drewN | apply Mem.drew)) hb); clear M; have M := N_; clear N_; (try clear hb); (try clear hb2); (try clear hk); (try clear hi)) | (go_at_call 8; (with_reducible refine (task_May.calls k a0_0 a0_1 a0_2 a0_3 a0_4 a0_5 a0_6 a0_7 a0_8 a0_9 a0_10 true a0_12 a0_13 a0_14 a0_15 a0_16 a0_17 a0_18 a0_19 a0_20 a0_21 a1 false _ A6.out).mono ?_); rintro e w100 ⟨rfl, hb⟩; have N_ := Aside0.mk (Mem.call (by repeat (first | exact M.out | apply Mem.drewN | apply Mem.drew)) hb); clear M; have M := N_; clear N_; (try clear hb); (try clear hb2); (try clear hk); (try clear hi)) | ((with_reducible refine gate_load rfl ?_); (try (refine gate_guard (by rfl) ?_; dsimp only)); first | (refine mem_load1 (w0 := ?_) (m := ?_) (cs := ?_) (e := ?_) (v := ?_) (g := ?_) (off := ?_) _ _ rfl rfl ?ha ?hp ?hM ?hm ?hv ?_; (case ha => first | exact Try.isAgg3 | exact Try.isAgg4); (case hp => (conv => lhs; whnf); try exact rfl); (case hM => exact M.out); (case hm => repeat (first | exact List.Mem.head _ | apply List.Mem.tail)); (case hv => (conv => lhs; whnf); try exact rfl)) | (refine mem_load (w0 := ?_) (m := ?_) (k := ?_) (cs := ?_) (e := ?_) (seg := ?_) (g := ?_) (off := ?_) _ _ rfl rfl ?ha ?hz ?hp ?hM ?hm ?hs ?hl ?_; (case ha => first | exact Try.isAgg28 | exact Try.isAgg30); (case hz => first | exact Try.sizeOf28 | exact Try.sizeOf30); (case hp => (conv => lhs; whnf); try exact rfl); (case hM => exact M.out); (case hm => repeat (first | exact List.Mem.head _ | apply List.Mem.tail)); (case hs => simp only [List.take, List.drop]; rfl); (case hl => rfl))) | ((with_reducible refine gate_st rfl ?_); refine mem_store (w0 := ?_) (m := ?_) (m' := ?_) (seg := ?_) (u := ?_) (g := ?_) (off := ?_) _ _ _ rfl rfl rfl ?hp ?hx ?hc ?hz ?h1 ?hM ?hU ?_; (case hM => exact M.out); (case hp => (conv => lhs; whnf); try exact rfl); (case hx => (conv => lhs; whnf); try exact rfl); (case hc => simp only [Value.cells, List.toList_toArray]; rfl); (case hz => first | exact Try.sizeOf30); (case h1 => rfl); (case hU => (repeat (first | (refine Upd.head (cs' := ?_) ?hf ?he; (case hf => exact Nat.le_of_ble_eq_true rfl); (case he => simp only [List.take, List.drop, List.length, List.cons_append, List.nil_append, Nat.reduceAdd, Nat.zero_add]; all_goals rfl)) | (refine Upd.tail (r' := ?_) ?_; rotate_left)))); intro W_ M_; have N_ := Aside0.mk M_; clear M M_; have M := N_; clear N_))
        all_goals try (exfalso; first | (rw [c17b0] at c16b0; simp at c16b0; omega) | (rw [c61b0] at c16b0; simp at c16b0; omega) | (rw [c17b0] at c60b0; simp at c60b0; omega) | (rw [c61b0] at c60b0; simp at c60b0; omega))
        go_ret
        exact ⟨by first | rfl | (simp [errW_none, errW_some] <;> rfl) | (simp [*, errW_none, errW_some] <;> rfl) | (exfalso; contradiction), by exact Mem.below (by repeat (first | exact M.out | apply Mem.drewN | apply Mem.drew))⟩
    · replace c5 := Bool.eq_false_iff.mpr c5
      subst c5
      rw [if_neg (show ¬ (false = true) by decide)] at H
      obtain rfl := Option.some.inj H
      go_enter Try.func6, Try.ntmps6
      go_wp2_with (first | ((with_reducible refine gate_dst (N := 2) rfl ?_); (try (refine gate_guard (by rfl) ?_; dsimp only)); (refine mem_box (w0 := ?_) (m := ?_) (cs := ?_) (u := ?_) 30 _ rfl rfl ?hx ?hc ?hM ?_; (case hM => exact M.out); (case hx => (conv => lhs; whnf); try exact rfl); (case hc => simp only [Value.cells, List.toList_toArray]; rfl)); intro gb438 W_ M_; have N_ := Aside0.mk M_; clear M M_; have M := N_; clear N_) | ((with_reducible refine gate_callee (f := 7) rfl ?_); refine goesL_ (some 11) rfl rfl Try.func7 (by kernel_rfl) rfl #[] rfl (by (try simp only [List.map_toArray, List.map_cons, List.map_nil]); first | done | rfl | (simp only [List.length_drop, List.length_take]; rfl)) ?_; (with_reducible refine (fuseelaw15_awake.calls k  true _ A3.out).mono ?_); rintro e w102 ⟨rfl, hb⟩; refine ⟨_, rfl, ?_⟩; have N_ := Aside0.mk (Mem.call (by repeat (first | exact M.out | apply Mem.drewN | apply Mem.drew)) hb); clear M; have M := N_; clear N_; (try clear hb); (try clear hb2); (try clear hk); (try clear hi)) | ((with_reducible refine gate_load rfl ?_); (try (refine gate_guard (by rfl) ?_; dsimp only)); first | (refine mem_load1 (w0 := ?_) (m := ?_) (cs := ?_) (e := ?_) (v := ?_) (g := ?_) (off := ?_) _ _ rfl rfl ?ha ?hp ?hM ?hm ?hv ?_; (case ha => first | exact Try.isAgg3 | exact Try.isAgg4); (case hp => (conv => lhs; whnf); try exact rfl); (case hM => exact M.out); (case hm => repeat (first | exact List.Mem.head _ | apply List.Mem.tail)); (case hv => (conv => lhs; whnf); try exact rfl)) | (refine mem_load (w0 := ?_) (m := ?_) (k := ?_) (cs := ?_) (e := ?_) (seg := ?_) (g := ?_) (off := ?_) _ _ rfl rfl ?ha ?hz ?hp ?hM ?hm ?hs ?hl ?_; (case ha => first | exact Try.isAgg28 | exact Try.isAgg30); (case hz => first | exact Try.sizeOf28 | exact Try.sizeOf30); (case hp => (conv => lhs; whnf); try exact rfl); (case hM => exact M.out); (case hm => repeat (first | exact List.Mem.head _ | apply List.Mem.tail)); (case hs => simp only [List.take, List.drop]; rfl); (case hl => rfl))) | ((with_reducible refine gate_st rfl ?_); refine mem_store (w0 := ?_) (m := ?_) (m' := ?_) (seg := ?_) (u := ?_) (g := ?_) (off := ?_) _ _ _ rfl rfl rfl ?hp ?hx ?hc ?hz ?h1 ?hM ?hU ?_; (case hM => exact M.out); (case hp => (conv => lhs; whnf); try exact rfl); (case hx => (conv => lhs; whnf); try exact rfl); (case hc => simp only [Value.cells, List.toList_toArray]; rfl); (case hz => first | exact Try.sizeOf30); (case h1 => rfl); (case hU => (repeat (first | (refine Upd.head (cs' := ?_) ?hf ?he; (case hf => exact Nat.le_of_ble_eq_true rfl); (case he => simp only [List.take, List.drop, List.length, List.cons_append, List.nil_append, Nat.reduceAdd, Nat.zero_add]; all_goals rfl)) | (refine Upd.tail (r' := ?_) ?_; rotate_left)))); intro W_ M_; have N_ := Aside0.mk M_; clear M M_; have M := N_; clear N_))
      all_goals try (exfalso; first | (rw [c17b0] at c16b0; simp at c16b0; omega) | (rw [c61b0] at c16b0; simp at c16b0; omega) | (rw [c17b0] at c60b0; simp at c60b0; omega) | (rw [c61b0] at c60b0; simp at c60b0; omega))
      go_ret
      exact ⟨by first | rfl | (simp [errW_none, errW_some] <;> rfl) | (simp [*, errW_none, errW_some] <;> rfl) | (exfalso; contradiction), by exact Mem.below (by repeat (first | exact M.out | apply Mem.drewN | apply Mem.drew))⟩
  · replace c4 := Bool.eq_false_iff.mpr c4
    subst c4
    rw [if_neg (show ¬ (false = true) by decide)] at H
    obtain rfl := Option.some.inj H
    go_enter Try.func6, Try.ntmps6
    go_wp2_with (first | ((with_reducible refine gate_dst (N := 2) rfl ?_); (try (refine gate_guard (by rfl) ?_; dsimp only)); (refine mem_box (w0 := ?_) (m := ?_) (cs := ?_) (u := ?_) 30 _ rfl rfl ?hx ?hc ?hM ?_; (case hM => exact M.out); (case hx => (conv => lhs; whnf); try exact rfl); (case hc => simp only [Value.cells, List.toList_toArray]; rfl)); intro gb438 W_ M_; have N_ := Aside0.mk M_; clear M M_; have M := N_; clear N_) | ((with_reducible refine gate_callee (f := 7) rfl ?_); refine goesL_ (some 11) rfl rfl Try.func7 (by kernel_rfl) rfl #[] rfl (by (try simp only [List.map_toArray, List.map_cons, List.map_nil]); first | done | rfl | (simp only [List.length_drop, List.length_take]; rfl)) ?_; (with_reducible refine (fuseelaw15_awake.calls k  false _ A3.out).mono ?_); rintro e w105 ⟨rfl, hb⟩; refine ⟨_, rfl, ?_⟩; have N_ := Aside0.mk (Mem.call (by repeat (first | exact M.out | apply Mem.drewN | apply Mem.drew)) hb); clear M; have M := N_; clear N_; (try clear hb); (try clear hb2); (try clear hk); (try clear hi)) | ((with_reducible refine gate_load rfl ?_); (try (refine gate_guard (by rfl) ?_; dsimp only)); first | (refine mem_load1 (w0 := ?_) (m := ?_) (cs := ?_) (e := ?_) (v := ?_) (g := ?_) (off := ?_) _ _ rfl rfl ?ha ?hp ?hM ?hm ?hv ?_; (case ha => first | exact Try.isAgg3 | exact Try.isAgg4); (case hp => (conv => lhs; whnf); try exact rfl); (case hM => exact M.out); (case hm => repeat (first | exact List.Mem.head _ | apply List.Mem.tail)); (case hv => (conv => lhs; whnf); try exact rfl)) | (refine mem_load (w0 := ?_) (m := ?_) (k := ?_) (cs := ?_) (e := ?_) (seg := ?_) (g := ?_) (off := ?_) _ _ rfl rfl ?ha ?hz ?hp ?hM ?hm ?hs ?hl ?_; (case ha => first | exact Try.isAgg28 | exact Try.isAgg30); (case hz => first | exact Try.sizeOf28 | exact Try.sizeOf30); (case hp => (conv => lhs; whnf); try exact rfl); (case hM => exact M.out); (case hm => repeat (first | exact List.Mem.head _ | apply List.Mem.tail)); (case hs => simp only [List.take, List.drop]; rfl); (case hl => rfl))) | ((with_reducible refine gate_st rfl ?_); refine mem_store (w0 := ?_) (m := ?_) (m' := ?_) (seg := ?_) (u := ?_) (g := ?_) (off := ?_) _ _ _ rfl rfl rfl ?hp ?hx ?hc ?hz ?h1 ?hM ?hU ?_; (case hM => exact M.out); (case hp => (conv => lhs; whnf); try exact rfl); (case hx => (conv => lhs; whnf); try exact rfl); (case hc => simp only [Value.cells, List.toList_toArray]; rfl); (case hz => first | exact Try.sizeOf30); (case h1 => rfl); (case hU => (repeat (first | (refine Upd.head (cs' := ?_) ?hf ?he; (case hf => exact Nat.le_of_ble_eq_true rfl); (case he => simp only [List.take, List.drop, List.length, List.cons_append, List.nil_append, Nat.reduceAdd, Nat.zero_add]; all_goals rfl)) | (refine Upd.tail (r' := ?_) ?_; rotate_left)))); intro W_ M_; have N_ := Aside0.mk M_; clear M M_; have M := N_; clear N_))
    all_goals try (exfalso; first | (rw [c17b0] at c16b0; simp at c16b0; omega) | (rw [c61b0] at c16b0; simp at c16b0; omega) | (rw [c17b0] at c60b0; simp at c60b0; omega) | (rw [c61b0] at c60b0; simp at c60b0; omega))
    go_ret
    exact ⟨by first | rfl | (simp [errW_none, errW_some] <;> rfl) | (simp [*, errW_none, errW_some] <;> rfl) | (exfalso; contradiction), by exact Mem.below (by repeat (first | exact M.out | apply Mem.drewN | apply Mem.drew))⟩

end Go.Proofs.Ytphonmldcbgklaa.P
