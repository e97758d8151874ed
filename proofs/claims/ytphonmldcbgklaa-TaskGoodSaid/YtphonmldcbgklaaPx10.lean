-- Written by a program of this session (hprint.py), out of the translation; functions that the print does not take are given by hand.
import Derived.Test.YtphonmldcbgklaaPx0
import Derived.Test.YtphonmldcbgklaaPx5
import Derived.Test.YtphonmldcbgklaaPx8
import Derived.Test.YtphonmldcbgklaaPx9
namespace Go.Proofs.Ytphonmldcbgklaa.P
open Go.RowKit Go.Proofs.YtphonmldcbgklaaM Go.Proofs.YtphonmldcbgklaaW.PrintWords Go.Proofs.YtphonmldcbgklaaW.PrintLast Go.Proofs.YtphonmldcbgklaaW.PrintMore
attribute [local go_sem] max2_int min2_int max_two min_two max_three min_three max_four min_four   -- for this text's walks alone
set_option linter.unusedVariables false
set_option linter.unusedSimpArgs false

/-! ### task_May: function 8 -/
def task_May.j0 : Nat → Int → Bool → Int → Int → Int → Int → Int → Int → Int → Int → Int → Int → Int → Bool → Int → Int → Int → Bool → Int → Int → Int → Int → Int → Bool → Option (Bool)
  | 0, _, _, _, _, _, _, _, _, _, _, _, _, _, _, _, _, _, _, _, _, _, _, _, _ => none
  | k + 1, x1, x29, x121000, x121001, x121002, x121003, x121004, x121005, x121006, x121007, x121008, x121009, x121010, x121011, x121012, x121013, x121014, x121015, x121016, x121017, x121018, x121019, x121020, x121021 => if x29 = true then (some false) else ((task_Live.f x121000 x121001 x121002 x121003 x121004 x121005 x121006 x121007 x121008 x121009 x121010 x121011 x121012 x121013 x121014 x121015 x121016 x121017 x121018 x121019 x121020 x121021).bind fun bt123 => ((live_May.f (([(⟨(⟨bt123.1, bt123.2.1, bt123.2.2.1, bt123.2.2.2.1, bt123.2.2.2.2.1, bt123.2.2.2.2.2.1⟩ : S23), (⟨bt123.2.2.2.2.2.2.1, bt123.2.2.2.2.2.2.2.1, bt123.2.2.2.2.2.2.2.2.1, bt123.2.2.2.2.2.2.2.2.2.1, bt123.2.2.2.2.2.2.2.2.2.2.1, bt123.2.2.2.2.2.2.2.2.2.2.2.1, bt123.2.2.2.2.2.2.2.2.2.2.2.2.1, bt123.2.2.2.2.2.2.2.2.2.2.2.2.2.1⟩ : S25), bt123.2.2.2.2.2.2.2.2.2.2.2.2.2.2.1, bt123.2.2.2.2.2.2.2.2.2.2.2.2.2.2.2.1, bt123.2.2.2.2.2.2.2.2.2.2.2.2.2.2.2.2⟩ : S38)] : List (S38))) x1).bind fun t143 => (if t143 = true then ((job_May.f x121001 x121002 x121003 x121004 x121005 x121006 x121011 x121012 x121013 x121014 x121015 x121016 x121017 x121018).bind fun t144 => (if t144 = true then ((task_work_over.f x121000 x121001 x121002 x121003 x121004 x121005 x121006 x121007 x121008 x121009 x121010 x121011 x121012 x121013 x121014 x121015 x121016 x121017 x121018 x121019 x121020 x121021).bind fun t145 => (some (x121019 == (mn t145 60)))) else (some false))) else (some false))))
def task_May.f (k : Nat) (a0_0 : Int) (a0_1 : Int) (a0_2 : Int) (a0_3 : Int) (a0_4 : Int) (a0_5 : Int) (a0_6 : Int) (a0_7 : Int) (a0_8 : Int) (a0_9 : Int) (a0_10 : Int) (a0_11 : Bool) (a0_12 : Int) (a0_13 : Int) (a0_14 : Int) (a0_15 : Bool) (a0_16 : Int) (a0_17 : Int) (a0_18 : Int) (a0_19 : Int) (a0_20 : Int) (a0_21 : Bool) (a1 : Int) : Option (Bool) := if a0_0 < 0 then (task_May.j0 k a1 true a0_0 a0_1 a0_2 a0_3 a0_4 a0_5 a0_6 a0_7 a0_8 a0_9 a0_10 a0_11 a0_12 a0_13 a0_14 a0_15 a0_16 a0_17 a0_18 a0_19 a0_20 a0_21) else (if a0_0 > 549755813888 then (task_May.j0 k a1 true a0_0 a0_1 a0_2 a0_3 a0_4 a0_5 a0_6 a0_7 a0_8 a0_9 a0_10 a0_11 a0_12 a0_13 a0_14 a0_15 a0_16 a0_17 a0_18 a0_19 a0_20 a0_21) else (if a0_7 < 1 then (task_May.j0 k a1 true a0_0 a0_1 a0_2 a0_3 a0_4 a0_5 a0_6 a0_7 a0_8 a0_9 a0_10 a0_11 a0_12 a0_13 a0_14 a0_15 a0_16 a0_17 a0_18 a0_19 a0_20 a0_21) else (if a0_7 > 48 then (task_May.j0 k a1 true a0_0 a0_1 a0_2 a0_3 a0_4 a0_5 a0_6 a0_7 a0_8 a0_9 a0_10 a0_11 a0_12 a0_13 a0_14 a0_15 a0_16 a0_17 a0_18 a0_19 a0_20 a0_21) else ((ring_May.f a0_19 a0_20).bind fun t121 => (task_May.j0 k a1 (!t121) a0_0 a0_1 a0_2 a0_3 a0_4 a0_5 a0_6 a0_7 a0_8 a0_9 a0_10 a0_11 a0_12 a0_13 a0_14 a0_15 a0_16 a0_17 a0_18 a0_19 a0_20 a0_21)))))
theorem task_May.mono_l : ∀ k, (∀ y0 y1 y2 y3 y4 y5 y6 y7 y8 y9 y10 y11 y12 y13 y14 y15 y16 y17 y18 y19 y20 y21 y22 y23, LeO (task_May.j0 k y0 y1 y2 y3 y4 y5 y6 y7 y8 y9 y10 y11 y12 y13 y14 y15 y16 y17 y18 y19 y20 y21 y22 y23) (task_May.j0 (k + 1) y0 y1 y2 y3 y4 y5 y6 y7 y8 y9 y10 y11 y12 y13 y14 y15 y16 y17 y18 y19 y20 y21 y22 y23))
  | 0 => fun _ _ _ _ _ _ _ _ _ _ _ _ _ _ _ _ _ _ _ _ _ _ _ _ r h => by simp [task_May.j0] at h
  | k + 1 => by
    have ih0 := task_May.mono_l k
    · intro y0 y1 y2 y3 y4 y5 y6 y7 y8 y9 y10 y11 y12 y13 y14 y15 y16 y17 y18 y19 y20 y21 y22 y23
      unfold task_May.j0
      repeat' first
      | (with_reducible exact ih0 _ _ _ _ _ _ _ _ _ _ _ _ _ _ _ _ _ _ _ _ _ _ _ _)
      | (with_reducible exact LeO.refl _)
      | (with_reducible exact LeO.none _)
      | (with_reducible refine LeO.ite ?_ ?_)
      | (with_reducible refine LeO.bind ?_ (fun _ => ?_))
      | exact ih0 _ _ _ _ _ _ _ _ _ _ _ _ _ _ _ _ _ _ _ _ _ _ _ _
      | exact LeO.none _
      | refine LeO.ite ?_ ?_
      | refine LeO.bind ?_ (fun _ => ?_)
theorem task_May.mono : ∀ a0 a1 a2 a3 a4 a5 a6 a7 a8 a9 a10 a11 a12 a13 a14 a15 a16 a17 a18 a19 a20 a21 a22 k, LeO (task_May.f k a0 a1 a2 a3 a4 a5 a6 a7 a8 a9 a10 a11 a12 a13 a14 a15 a16 a17 a18 a19 a20 a21 a22) (task_May.f (k + 1) a0 a1 a2 a3 a4 a5 a6 a7 a8 a9 a10 a11 a12 a13 a14 a15 a16 a17 a18 a19 a20 a21 a22) := by
  intro a0 a1 a2 a3 a4 a5 a6 a7 a8 a9 a10 a11 a12 a13 a14 a15 a16 a17 a18 a19 a20 a21 a22 k
  have ih0 := task_May.mono_l k
  unfold task_May.f
  repeat' first
      | (with_reducible exact ih0 _ _ _ _ _ _ _ _ _ _ _ _ _ _ _ _ _ _ _ _ _ _ _ _)
      | (with_reducible exact LeO.refl _)
      | (with_reducible exact LeO.none _)
      | (with_reducible refine LeO.ite ?_ ?_)
      | (with_reducible refine LeO.bind ?_ (fun _ => ?_))
      | exact ih0 _ _ _ _ _ _ _ _ _ _ _ _ _ _ _ _ _ _ _ _ _ _ _ _
      | exact LeO.none _
      | refine LeO.ite ?_ ?_
      | refine LeO.bind ?_ (fun _ => ?_)
def task_May.T4 : Bool × List (List Nat × List Nat) := (true, [([], []), ([0], [0]), ([1], [1]), ([], []), ([2, 3, 1], [2, 3]), ([4, 4], [4]), ([5], [5]), ([6, 5], [5, 6]), ([5], [5]), ([8, 5], [5, 8]), ([7, 9, 5, 5], [5, 7, 9]), ([5, 10], [5, 10]), ([11, 10], [11]), ([12], [12]), ([13, 12], [12, 13]), ([14, 12], [12, 14]), ([12], [12]), ([16, 12, 12], [12, 16]), ([17, 12], [12, 17]), ([15, 18, 12], [12, 15, 18]), ([12, 19], [12, 19]), ([20, 17, 0, 1, 2, 3, 4, 5, 6, 7, 8, 9, 10, 11, 12, 13, 14, 15, 16, 17, 18, 19, 20], [20])])
def task_May.B4 : List Nat := [0, 1, 3, 0, 15, 31, 63, 127, 63, 319, 1023, 2047, 4095, 8191, 16383, 32767, 8191, 73727, 204799, 524287, 1048575, 2097151]
theorem task_May.tab4 : rtab .any (opsOf Try.f8 4) = task_May.T4 := by kernel_rfl
theorem task_May.bits4 : waitsOk task_May.T4.2 task_May.B4 = true := by kernel_rfl
set_option maxHeartbeats 64000000 in
set_option maxRecDepth 100000 in
theorem task_May.calls (k : Nat) (a0_0 : Int) (a0_1 : Int) (a0_2 : Int) (a0_3 : Int) (a0_4 : Int) (a0_5 : Int) (a0_6 : Int) (a0_7 : Int) (a0_8 : Int) (a0_9 : Int) (a0_10 : Int) (a0_11 : Bool) (a0_12 : Int) (a0_13 : Int) (a0_14 : Int) (a0_15 : Bool) (a0_16 : Int) (a0_17 : Int) (a0_18 : Int) (a0_19 : Int) (a0_20 : Int) (a0_21 : Bool) (a1 : Int) (r : Bool) (w : World) (h : task_May.f k a0_0 a0_1 a0_2 a0_3 a0_4 a0_5 a0_6 a0_7 a0_8 a0_9 a0_10 a0_11 a0_12 a0_13 a0_14 a0_15 a0_16 a0_17 a0_18 a0_19 a0_20 a0_21 a1 = some r) :
    Calls Try.prog 8 #[.agg #[.int .i64 a0_0, .int .i64 a0_1, .int .i64 a0_2, .int .i64 a0_3, .int .i64 a0_4, .int .i64 a0_5, .int .i64 a0_6, .int .i64 a0_7, .int .i64 a0_8, .int .i64 a0_9, .int .i64 a0_10, .bool a0_11, .int .i64 a0_12, .int .i64 a0_13, .int .i64 a0_14, .bool a0_15, .int .i64 a0_16, .int .i64 a0_17, .int .i64 a0_18, .int .i64 a0_19, .int .u64 a0_20, .bool a0_21], .int .i64 a1] w fun e w' => e = .returned (.bool r) ∧ Below w.heap.size w w' := by
  have hu30 := Try.underlying30
  have hu28 := Try.underlying28
  have hu51 := Try.underlying51
  have hu23 := Try.underlying23
  have hu25 := Try.underlying25
  have M := Aside0.mk (Mem.nil w)
  have H : (if a0_0 < 0 then (task_May.j0 k a1 true a0_0 a0_1 a0_2 a0_3 a0_4 a0_5 a0_6 a0_7 a0_8 a0_9 a0_10 a0_11 a0_12 a0_13 a0_14 a0_15 a0_16 a0_17 a0_18 a0_19 a0_20 a0_21) else (if a0_0 > 549755813888 then (task_May.j0 k a1 true a0_0 a0_1 a0_2 a0_3 a0_4 a0_5 a0_6 a0_7 a0_8 a0_9 a0_10 a0_11 a0_12 a0_13 a0_14 a0_15 a0_16 a0_17 a0_18 a0_19 a0_20 a0_21) else (if a0_7 < 1 then (task_May.j0 k a1 true a0_0 a0_1 a0_2 a0_3 a0_4 a0_5 a0_6 a0_7 a0_8 a0_9 a0_10 a0_11 a0_12 a0_13 a0_14 a0_15 a0_16 a0_17 a0_18 a0_19 a0_20 a0_21) else (if a0_7 > 48 then (task_May.j0 k a1 true a0_0 a0_1 a0_2 a0_3 a0_4 a0_5 a0_6 a0_7 a0_8 a0_9 a0_10 a0_11 a0_12 a0_13 a0_14 a0_15 a0_16 a0_17 a0_18 a0_19 a0_20 a0_21) else ((ring_May.f a0_19 a0_20).bind fun t121 => (task_May.j0 k a1 (!t121) a0_0 a0_1 a0_2 a0_3 a0_4 a0_5 a0_6 a0_7 a0_8 a0_9 a0_10 a0_11 a0_12 a0_13 a0_14 a0_15 a0_16 a0_17 a0_18 a0_19 a0_20 a0_21)))))) = some r := h
  clear h
  have HC3 := Aside0.mk H
  clear H
  go_enter Try.func8, Try.ntmps8
  go_upto_region 1 with (first | ((with_reducible refine gate_dst (N := 2) rfl ?_); (try (refine gate_guard (by rfl) ?_; dsimp only)); (refine mem_box (w0 := ?_) (m := ?_) (cs := ?_) (u := ?_) 30 _ rfl rfl ?hx ?hc ?hM ?_; (case hM => repeat (first | exact M.out | apply Mem.drewN | apply Mem.drew)); (case hx => (conv => lhs; whnf); try exact rfl); (case hc => simp only [Value.cells, List.toList_toArray]; rfl)); intro gb120 W_ M_; have N_ := Aside0.mk M_; clear M M_; have M := N_; clear N_) | ((with_reducible refine gate_load rfl ?_); (try (refine gate_guard (by rfl) ?_; dsimp only)); first | (refine mem_load1 (w0 := ?_) (m := ?_) (cs := ?_) (e := ?_) (v := ?_) (g := ?_) (off := ?_) _ _ rfl rfl ?ha ?hp ?hM ?hm ?hv ?_; (case ha => first | exact Try.isAgg3); (case hp => (conv => lhs; whnf); try exact rfl); (case hM => repeat (first | exact M.out | apply Mem.drewN | apply Mem.drew)); (case hm => repeat (first | exact List.Mem.head _ | apply List.Mem.tail)); (case hv => (conv => lhs; whnf); try exact rfl)) | (refine mem_load (w0 := ?_) (m := ?_) (k := ?_) (cs := ?_) (e := ?_) (seg := ?_) (g := ?_) (off := ?_) _ _ rfl rfl ?ha ?hz ?hp ?hM ?hm ?hs ?hl ?_; (case ha => first | exact Try.isAgg23 | exact Try.isAgg25 | exact Try.isAgg28 | exact Try.isAgg30 | exact Try.isAgg51); (case hz => first | exact Try.sizeOf23 | exact Try.sizeOf25 | exact Try.sizeOf28 | exact Try.sizeOf30 | exact Try.sizeOf51); (case hp => (conv => lhs; whnf); try exact rfl); (case hM => repeat (first | exact M.out | apply Mem.drewN | apply Mem.drew)); (case hm => repeat (first | exact List.Mem.head _ | apply List.Mem.tail)); (case hs => simp only [List.take, List.drop]; rfl); (case hl => rfl))) | ((with_reducible refine gate_st rfl ?_); refine mem_store (w0 := ?_) (m := ?_) (m' := ?_) (seg := ?_) (u := ?_) (g := ?_) (off := ?_) _ _ _ rfl rfl rfl ?hp ?hx ?hc ?hz ?h1 ?hM ?hU ?_; (case hM => repeat (first | exact M.out | apply Mem.drewN | apply Mem.drew)); (case hp => (conv => lhs; whnf); try exact rfl); (case hx => (conv => lhs; whnf); try exact rfl); (case hc => simp only [Value.cells, List.toList_toArray]; rfl); (case hz => first | exact Try.sizeOf51); (case h1 => rfl); (case hU => (repeat (first | (refine Upd.head (cs' := ?_) ?hf ?he; (case hf => exact Nat.le_of_ble_eq_true rfl); (case he => simp only [List.take, List.drop, List.length, List.cons_append, List.nil_append, Nat.reduceAdd, Nat.zero_add]; all_goals rfl)) | (refine Upd.tail (r' := ?_) ?_; rotate_left)))); intro W_ M_; have N_ := Aside0.mk M_; clear M M_; have M := N_; clear N_))
  (try simp only [Act.put, List.setIfInBounds_toArray, List.set_cons_zero, List.set_cons_succ])
  go_cut [29] (fun v29 wc => ∃ (kq : Nat) (x29_2 : Bool), v29 = .bool x29_2 ∧ Aside0 (task_May.j0 kq a1 x29_2 a0_0 a0_1 a0_2 a0_3 a0_4 a0_5 a0_6 a0_7 a0_8 a0_9 a0_10 a0_11 a0_12 a0_13 a0_14 a0_15 a0_16 a0_17 a0_18 a0_19 a0_20 a0_21 = some r) ∧ Aside0 (kq ≤ k) ∧ Aside0 (Mem w wc [(gb120, [.int .i64 a0_0, .int .i64 a0_1, .int .i64 a0_2, .int .i64 a0_3, .int .i64 a0_4, .int .i64 a0_5, .int .i64 a0_6, .int .i64 a0_7, .int .i64 a0_8, .int .i64 a0_9, .int .i64 a0_10, .bool a0_11, .int .i64 a0_12, .int .i64 a0_13, .int .i64 a0_14, .bool a0_15, .int .i64 a0_16, .int .i64 a0_17, .int .i64 a0_18, .int .i64 a0_19, .int .u64 a0_20, .bool a0_21], 30)]))
  case first =>
    have H := HC3.out
    clear HC3
    by_cases c5 : a0_0 < 0
    · rw [if_pos c5] at H
      have c5b0 : decide (a0_0 < 0) = true := decide_eq_true c5
      clear c5
      (first | rw [c5b0] | (simp only [i64_w, i32_w]; rw [c5b0]) | skip)
      have H' := Aside0.mk H
      clear H
      go_wp2_with (first | ((with_reducible refine gate_load rfl ?_); (try (refine gate_guard (by rfl) ?_; dsimp only)); first | (refine mem_load1 (w0 := ?_) (m := ?_) (cs := ?_) (e := ?_) (v := ?_) (g := ?_) (off := ?_) _ _ rfl rfl ?ha ?hp ?hM ?hm ?hv ?_; (case ha => first | exact Try.isAgg3); (case hp => (conv => lhs; whnf); try exact rfl); (case hM => repeat (first | exact M.out | apply Mem.drewN | apply Mem.drew)); (case hm => repeat (first | exact List.Mem.head _ | apply List.Mem.tail)); (case hv => (conv => lhs; whnf); try exact rfl)) | (refine mem_load (w0 := ?_) (m := ?_) (k := ?_) (cs := ?_) (e := ?_) (seg := ?_) (g := ?_) (off := ?_) _ _ rfl rfl ?ha ?hz ?hp ?hM ?hm ?hs ?hl ?_; (case ha => first | exact Try.isAgg23 | exact Try.isAgg25 | exact Try.isAgg28 | exact Try.isAgg30 | exact Try.isAgg51); (case hz => first | exact Try.sizeOf23 | exact Try.sizeOf25 | exact Try.sizeOf28 | exact Try.sizeOf30 | exact Try.sizeOf51); (case hp => (conv => lhs; whnf); try exact rfl); (case hM => repeat (first | exact M.out | apply Mem.drewN | apply Mem.drew)); (case hm => repeat (first | exact List.Mem.head _ | apply List.Mem.tail)); (case hs => simp only [List.take, List.drop]; rfl); (case hl => rfl))) | ((with_reducible refine gate_st rfl ?_); refine mem_store (w0 := ?_) (m := ?_) (m' := ?_) (seg := ?_) (u := ?_) (g := ?_) (off := ?_) _ _ _ rfl rfl rfl ?hp ?hx ?hc ?hz ?h1 ?hM ?hU ?_; (case hM => repeat (first | exact M.out | apply Mem.drewN | apply Mem.drew)); (case hp => (conv => lhs; whnf); try exact rfl); (case hx => (conv => lhs; whnf); try exact rfl); (case hc => simp only [Value.cells, List.toList_toArray]; rfl); (case hz => first | exact Try.sizeOf51); (case h1 => rfl); (case hU => (repeat (first | (refine Upd.head (cs' := ?_) ?hf ?he; (case hf => exact Nat.le_of_ble_eq_true rfl); (case he => simp only [List.take, List.drop, List.length, List.cons_append, List.nil_append, Nat.reduceAdd, Nat.zero_add]; all_goals rfl)) | (refine Upd.tail (r' := ?_) ?_; rotate_left)))); intro W_ M_; have N_ := Aside0.mk M_; clear M M_; have M := N_; clear N_))
      go_meet
      case rel => exact ⟨_, (true), (by first | rfl | (simp; done) | (simp [*]; done)), H', ⟨by first | omega | exact Nat.le_refl _⟩, M⟩
    · rw [if_neg c5] at H
      have c5b0 : decide (a0_0 < 0) = false := decide_eq_false c5
      clear c5
      (first | rw [c5b0] | (simp only [i64_w, i32_w]; rw [c5b0]) | skip)
      by_cases c7 : a0_0 > 549755813888
      · rw [if_pos c7] at H
        have c7b0 : decide (549755813888 < a0_0) = true := decide_eq_true c7
        clear c7
        have H' := Aside0.mk H
        clear H
        go_wp2_with (first | ((with_reducible refine gate_load rfl ?_); (try (refine gate_guard (by rfl) ?_; dsimp only)); first | (refine mem_load1 (w0 := ?_) (m := ?_) (cs := ?_) (e := ?_) (v := ?_) (g := ?_) (off := ?_) _ _ rfl rfl ?ha ?hp ?hM ?hm ?hv ?_; (case ha => first | exact Try.isAgg3); (case hp => (conv => lhs; whnf); try exact rfl); (case hM => repeat (first | exact M.out | apply Mem.drewN | apply Mem.drew)); (case hm => repeat (first | exact List.Mem.head _ | apply List.Mem.tail)); (case hv => (conv => lhs; whnf); try exact rfl)) | (refine mem_load (w0 := ?_) (m := ?_) (k := ?_) (cs := ?_) (e := ?_) (seg := ?_) (g := ?_) (off := ?_) _ _ rfl rfl ?ha ?hz ?hp ?hM ?hm ?hs ?hl ?_; (case ha => first | exact Try.isAgg23 | exact Try.isAgg25 | exact Try.isAgg28 | exact Try.isAgg30 | exact Try.isAgg51); (case hz => first | exact Try.sizeOf23 | exact Try.sizeOf25 | exact Try.sizeOf28 | exact Try.sizeOf30 | exact Try.sizeOf51); (case hp => (conv => lhs; whnf); try exact rfl); (case hM => repeat (first | exact M.out | apply Mem.drewN | apply Mem.drew)); (case hm => repeat (first | exact List.Mem.head _ | apply List.Mem.tail)); (case hs => simp only [List.take, List.drop]; rfl); (case hl => rfl))) | ((with_reducible refine gate_st rfl ?_); refine mem_store (w0 := ?_) (m := ?_) (m' := ?_) (seg := ?_) (u := ?_) (g := ?_) (off := ?_) _ _ _ rfl rfl rfl ?hp ?hx ?hc ?hz ?h1 ?hM ?hU ?_; (case hM => repeat (first | exact M.out | apply Mem.drewN | apply Mem.drew)); (case hp => (conv => lhs; whnf); try exact rfl); (case hx => (conv => lhs; whnf); try exact rfl); (case hc => simp only [Value.cells, List.toList_toArray]; rfl); (case hz => first | exact Try.sizeOf51); (case h1 => rfl); (case hU => (repeat (first | (refine Upd.head (cs' := ?_) ?hf ?he; (case hf => exact Nat.le_of_ble_eq_true rfl); (case he => simp only [List.take, List.drop, List.length, List.cons_append, List.nil_append, Nat.reduceAdd, Nat.zero_add]; all_goals rfl)) | (refine Upd.tail (r' := ?_) ?_; rotate_left)))); intro W_ M_; have N_ := Aside0.mk M_; clear M M_; have M := N_; clear N_))
        go_meet
        case rel => exact ⟨_, (true), (by first | rfl | (simp; done) | (simp [*]; done)), H', ⟨by first | omega | exact Nat.le_refl _⟩, M⟩
      · rw [if_neg c7] at H
        have c7b0 : decide (549755813888 < a0_0) = false := decide_eq_false c7
        clear c7
        by_cases c9 : a0_7 < 1
        · rw [if_pos c9] at H
          have c9b0 : decide (a0_7 < 1) = true := decide_eq_true c9
          clear c9
          have H' := Aside0.mk H
          clear H
          go_wp2_with (first | ((with_reducible refine gate_load rfl ?_); (try (refine gate_guard (by rfl) ?_; dsimp only)); first | (refine mem_load1 (w0 := ?_) (m := ?_) (cs := ?_) (e := ?_) (v := ?_) (g := ?_) (off := ?_) _ _ rfl rfl ?ha ?hp ?hM ?hm ?hv ?_; (case ha => first | exact Try.isAgg3); (case hp => (conv => lhs; whnf); try exact rfl); (case hM => repeat (first | exact M.out | apply Mem.drewN | apply Mem.drew)); (case hm => repeat (first | exact List.Mem.head _ | apply List.Mem.tail)); (case hv => (conv => lhs; whnf); try exact rfl)) | (refine mem_load (w0 := ?_) (m := ?_) (k := ?_) (cs := ?_) (e := ?_) (seg := ?_) (g := ?_) (off := ?_) _ _ rfl rfl ?ha ?hz ?hp ?hM ?hm ?hs ?hl ?_; (case ha => first | exact Try.isAgg23 | exact Try.isAgg25 | exact Try.isAgg28 | exact Try.isAgg30 | exact Try.isAgg51); (case hz => first | exact Try.sizeOf23 | exact Try.sizeOf25 | exact Try.sizeOf28 | exact Try.sizeOf30 | exact Try.sizeOf51); (case hp => (conv => lhs; whnf); try exact rfl); (case hM => repeat (first | exact M.out | apply Mem.drewN | apply Mem.drew)); (case hm => repeat (first | exact List.Mem.head _ | apply List.Mem.tail)); (case hs => simp only [List.take, List.drop]; rfl); (case hl => rfl))) | ((with_reducible refine gate_st rfl ?_); refine mem_store (w0 := ?_) (m := ?_) (m' := ?_) (seg := ?_) (u := ?_) (g := ?_) (off := ?_) _ _ _ rfl rfl rfl ?hp ?hx ?hc ?hz ?h1 ?hM ?hU ?_; (case hM => repeat (first | exact M.out | apply Mem.drewN | apply Mem.drew)); (case hp => (conv => lhs; whnf); try exact rfl); (case hx => (conv => lhs; whnf); try exact rfl); (case hc => simp only [Value.cells, List.toList_toArray]; rfl); (case hz => first | exact Try.sizeOf51); (case h1 => rfl); (case hU => (repeat (first | (refine Upd.head (cs' := ?_) ?hf ?he; (case hf => exact Nat.le_of_ble_eq_true rfl); (case he => simp only [List.take, List.drop, List.length, List.cons_append, List.nil_append, Nat.reduceAdd, Nat.zero_add]; all_goals rfl)) | (refine Upd.tail (r' := ?_) ?_; rotate_left)))); intro W_ M_; have N_ := Aside0.mk M_; clear M M_; have M := N_; clear N_))
          go_meet
          case rel => exact ⟨_, (true), (by first | rfl | (simp; done) | (simp [*]; done)), H', ⟨by first | omega | exact Nat.le_refl _⟩, M⟩
        · rw [if_neg c9] at H
          have c9b0 : decide (a0_7 < 1) = false := decide_eq_false c9
          clear c9
          by_cases c11 : a0_7 > 48
          · rw [if_pos c11] at H
            have c11b0 : decide (48 < a0_7) = true := decide_eq_true c11
            clear c11
            have H' := Aside0.mk H
            clear H
            go_wp2_with (first | ((with_reducible refine gate_load rfl ?_); (try (refine gate_guard (by rfl) ?_; dsimp only)); first | (refine mem_load1 (w0 := ?_) (m := ?_) (cs := ?_) (e := ?_) (v := ?_) (g := ?_) (off := ?_) _ _ rfl rfl ?ha ?hp ?hM ?hm ?hv ?_; (case ha => first | exact Try.isAgg3); (case hp => (conv => lhs; whnf); try exact rfl); (case hM => repeat (first | exact M.out | apply Mem.drewN | apply Mem.drew)); (case hm => repeat (first | exact List.Mem.head _ | apply List.Mem.tail)); (case hv => (conv => lhs; whnf); try exact rfl)) | (refine mem_load (w0 := ?_) (m := ?_) (k := ?_) (cs := ?_) (e := ?_) (seg := ?_) (g := ?_) (off := ?_) _ _ rfl rfl ?ha ?hz ?hp ?hM ?hm ?hs ?hl ?_; (case ha => first | exact Try.isAgg23 | exact Try.isAgg25 | exact Try.isAgg28 | exact Try.isAgg30 | exact Try.isAgg51); (case hz => first | exact Try.sizeOf23 | exact Try.sizeOf25 | exact Try.sizeOf28 | exact Try.sizeOf30 | exact Try.sizeOf51); (case hp => (conv => lhs; whnf); try exact rfl); (case hM => repeat (first | exact M.out | apply Mem.drewN | apply Mem.drew)); (case hm => repeat (first | exact List.Mem.head _ | apply List.Mem.tail)); (case hs => simp only [List.take, List.drop]; rfl); (case hl => rfl))) | ((with_reducible refine gate_st rfl ?_); refine mem_store (w0 := ?_) (m := ?_) (m' := ?_) (seg := ?_) (u := ?_) (g := ?_) (off := ?_) _ _ _ rfl rfl rfl ?hp ?hx ?hc ?hz ?h1 ?hM ?hU ?_; (case hM => repeat (first | exact M.out | apply Mem.drewN | apply Mem.drew)); (case hp => (conv => lhs; whnf); try exact rfl); (case hx => (conv => lhs; whnf); try exact rfl); (case hc => simp only [Value.cells, List.toList_toArray]; rfl); (case hz => first | exact Try.sizeOf51); (case h1 => rfl); (case hU => (repeat (first | (refine Upd.head (cs' := ?_) ?hf ?he; (case hf => exact Nat.le_of_ble_eq_true rfl); (case he => simp only [List.take, List.drop, List.length, List.cons_append, List.nil_append, Nat.reduceAdd, Nat.zero_add]; all_goals rfl)) | (refine Upd.tail (r' := ?_) ?_; rotate_left)))); intro W_ M_; have N_ := Aside0.mk M_; clear M M_; have M := N_; clear N_))
            go_meet
            case rel => exact ⟨_, (true), (by first | rfl | (simp; done) | (simp [*]; done)), H', ⟨by first | omega | exact Nat.le_refl _⟩, M⟩
          · rw [if_neg c11] at H
            have c11b0 : decide (48 < a0_7) = false := decide_eq_false c11
            clear c11
            replace H := Option.bind_eq_some_iff.mp H
            obtain ⟨t121, A130, H⟩ := H
            try dsimp only at H
            have A13 := Aside0.mk A130
            clear A130
            have H' := Aside0.mk H
            clear H
            go_wp2_with (first | (go_at_call 18; (with_reducible refine (ring_May.calls a0_19 a0_20 t121 _ A13.out).mono ?_); rintro e w15 ⟨rfl, hb⟩; have N_ := Aside0.mk (Mem.call (by repeat (first | exact M.out | apply Mem.drewN | apply Mem.drew)) hb); clear M; have M := N_; clear N_; (try clear hb); (try clear hb2); (try clear hk); (try clear hi)) | ((with_reducible refine gate_load rfl ?_); (try (refine gate_guard (by rfl) ?_; dsimp only)); first | (refine mem_load1 (w0 := ?_) (m := ?_) (cs := ?_) (e := ?_) (v := ?_) (g := ?_) (off := ?_) _ _ rfl rfl ?ha ?hp ?hM ?hm ?hv ?_; (case ha => first | exact Try.isAgg3); (case hp => (conv => lhs; whnf); try exact rfl); (case hM => repeat (first | exact M.out | apply Mem.drewN | apply Mem.drew)); (case hm => repeat (first | exact List.Mem.head _ | apply List.Mem.tail)); (case hv => (conv => lhs; whnf); try exact rfl)) | (refine mem_load (w0 := ?_) (m := ?_) (k := ?_) (cs := ?_) (e := ?_) (seg := ?_) (g := ?_) (off := ?_) _ _ rfl rfl ?ha ?hz ?hp ?hM ?hm ?hs ?hl ?_; (case ha => first | exact Try.isAgg23 | exact Try.isAgg25 | exact Try.isAgg28 | exact Try.isAgg30 | exact Try.isAgg51); (case hz => first | exact Try.sizeOf23 | exact Try.sizeOf25 | exact Try.sizeOf28 | exact Try.sizeOf30 | exact Try.sizeOf51); (case hp => (conv => lhs; whnf); try exact rfl); (case hM => repeat (first | exact M.out | apply Mem.drewN | apply Mem.drew)); (case hm => repeat (first | exact List.Mem.head _ | apply List.Mem.tail)); (case hs => simp only [List.take, List.drop]; rfl); (case hl => rfl))) | ((with_reducible refine gate_st rfl ?_); refine mem_store (w0 := ?_) (m := ?_) (m' := ?_) (seg := ?_) (u := ?_) (g := ?_) (off := ?_) _ _ _ rfl rfl rfl ?hp ?hx ?hc ?hz ?h1 ?hM ?hU ?_; (case hM => repeat (first | exact M.out | apply Mem.drewN | apply Mem.drew)); (case hp => (conv => lhs; whnf); try exact rfl); (case hx => (conv => lhs; whnf); try exact rfl); (case hc => simp only [Value.cells, List.toList_toArray]; rfl); (case hz => first | exact Try.sizeOf51); (case h1 => rfl); (case hU => (repeat (first | (refine Upd.head (cs' := ?_) ?hf ?he; (case hf => exact Nat.le_of_ble_eq_true rfl); (case he => simp only [List.take, List.drop, List.length, List.cons_append, List.nil_append, Nat.reduceAdd, Nat.zero_add]; all_goals rfl)) | (refine Upd.tail (r' := ?_) ?_; rotate_left)))); intro W_ M_; have N_ := Aside0.mk M_; clear M M_; have M := N_; clear N_))
            go_meet
            case rel => exact ⟨_, (!t121), (by first | rfl | (simp; done) | (simp [*]; done)), H', ⟨by first | omega | exact Nat.le_refl _⟩, M⟩
  case rest =>
    clear HC3
    try clear c1
    try clear p2
    try clear c5
    try clear c5b0
    try clear c7
    try clear c7b0
    try clear c8
    try clear c9
    try clear c9b0
    try clear c11
    try clear c11b0
    obtain ⟨kq, x29_2, rfl, HA, HJ2, M⟩ := hcut
    cases kq with
    | zero => exact absurd HA.out (by simp [task_May.j0])
    | succ kj2 =>
      have H := HA.out
      clear HA
      simp only [task_May.j0] at H
      by_cases c16 : x29_2 = true
      · subst c16
        rw [if_pos rfl] at H
        obtain rfl := Option.some.inj H
        go_wp2_with (first | ((with_reducible refine gate_load rfl ?_); (try (refine gate_guard (by rfl) ?_; dsimp only)); first | (refine mem_load1 (w0 := ?_) (m := ?_) (cs := ?_) (e := ?_) (v := ?_) (g := ?_) (off := ?_) _ _ rfl rfl ?ha ?hp ?hM ?hm ?hv ?_; (case ha => first | exact Try.isAgg3); (case hp => (conv => lhs; whnf); try exact rfl); (case hM => repeat (first | exact M.out | apply Mem.drewN | apply Mem.drew)); (case hm => repeat (first | exact List.Mem.head _ | apply List.Mem.tail)); (case hv => (conv => lhs; whnf); try exact rfl)) | (refine mem_load (w0 := ?_) (m := ?_) (k := ?_) (cs := ?_) (e := ?_) (seg := ?_) (g := ?_) (off := ?_) _ _ rfl rfl ?ha ?hz ?hp ?hM ?hm ?hs ?hl ?_; (case ha => first | exact Try.isAgg23 | exact Try.isAgg25 | exact Try.isAgg28 | exact Try.isAgg30 | exact Try.isAgg51); (case hz => first | exact Try.sizeOf23 | exact Try.sizeOf25 | exact Try.sizeOf28 | exact Try.sizeOf30 | exact Try.sizeOf51); (case hp => (conv => lhs; whnf); try exact rfl); (case hM => repeat (first | exact M.out | apply Mem.drewN | apply Mem.drew)); (case hm => repeat (first | exact List.Mem.head _ | apply List.Mem.tail)); (case hs => simp only [List.take, List.drop]; rfl); (case hl => rfl))) | ((with_reducible refine gate_st rfl ?_); refine mem_store (w0 := ?_) (m := ?_) (m' := ?_) (seg := ?_) (u := ?_) (g := ?_) (off := ?_) _ _ _ rfl rfl rfl ?hp ?hx ?hc ?hz ?h1 ?hM ?hU ?_; (case hM => repeat (first | exact M.out | apply Mem.drewN | apply Mem.drew)); (case hp => (conv => lhs; whnf); try exact rfl); (case hx => (conv => lhs; whnf); try exact rfl); (case hc => simp only [Value.cells, List.toList_toArray]; rfl); (case hz => first | exact Try.sizeOf51); (case h1 => rfl); (case hU => (repeat (first | (refine Upd.head (cs' := ?_) ?hf ?he; (case hf => exact Nat.le_of_ble_eq_true rfl); (case he => simp only [List.take, List.drop, List.length, List.cons_append, List.nil_append, Nat.reduceAdd, Nat.zero_add]; all_goals rfl)) | (refine Upd.tail (r' := ?_) ?_; rotate_left)))); intro W_ M_; have N_ := Aside0.mk M_; clear M M_; have M := N_; clear N_))
        go_ret
        exact ⟨by first | rfl | (simp [errW_none, errW_some] <;> rfl) | (simp [*, errW_none, errW_some] <;> rfl) | (exfalso; contradiction), by exact Mem.below (by repeat (first | exact M.out | apply Mem.drewN | apply Mem.drew))⟩
      · replace c16 := Bool.eq_false_iff.mpr c16
        subst c16
        rw [if_neg (show ¬ (false = true) by decide)] at H
        replace H := Option.bind_eq_some_iff.mp H
        obtain ⟨⟨t123, t124, t125, t126, t127, t128, t129, t130, t131, t132, t133, t134, t135, t136, t137, t138, t139⟩, A170, H⟩ := H
        try dsimp only at H
        have A17 := Aside0.mk A170
        clear A170
        obtain ⟨y140, hy140⟩ : ∃ y_ : List (S38), y_ = (([(⟨(⟨t123, t124, t125, t126, t127, t128⟩ : S23), (⟨t129, t130, t131, t132, t133, t134, t135, t136⟩ : S25), t137, t138, t139⟩ : S38)] : List (S38))) := ⟨_, rfl⟩
        replace H : ((live_May.f y140 a1).bind fun t143 => (if t143 = true then ((job_May.f a0_1 a0_2 a0_3 a0_4 a0_5 a0_6 a0_11 a0_12 a0_13 a0_14 a0_15 a0_16 a0_17 a0_18).bind fun t144 => (if t144 = true then ((task_work_over.f a0_0 a0_1 a0_2 a0_3 a0_4 a0_5 a0_6 a0_7 a0_8 a0_9 a0_10 a0_11 a0_12 a0_13 a0_14 a0_15 a0_16 a0_17 a0_18 a0_19 a0_20 a0_21).bind fun t145 => (some (a0_19 == (mn t145 60)))) else (some false))) else (some false))) = some r := by first | (rw [hy140]; with_reducible exact H) | (have H2_ := (Option.bind_some _ _).symm.trans H; rw [hy140]; with_reducible exact H2_) | (have H2_ := (Option.bind_some _ _).symm.trans H; with_reducible exact H2_) | with_reducible exact H | (rw [hy140]; exact H) | exact H
        have Ny140 := Aside0.mk hy140
        clear hy140
        replace H := Option.bind_eq_some_iff.mp H
        obtain ⟨t143, A180, H⟩ := H
        try dsimp only at H
        have A18 := Aside0.mk A180
        clear A180
        by_cases c19 : t143 = true
        · subst c19
          rw [if_pos rfl] at H
          replace H := Option.bind_eq_some_iff.mp H
          obtain ⟨t144, A200, H⟩ := H
          try dsimp only at H
          have A20 := Aside0.mk A200
          clear A200
          by_cases c21 : t144 = true
          · subst c21
            rw [if_pos rfl] at H
            replace H := Option.bind_eq_some_iff.mp H
            obtain ⟨t145, A220, H⟩ := H
            try dsimp only at H
            have A22 := Aside0.mk A220
            clear A220
            obtain ⟨ji23, hji23⟩ : ∃ j_ : Int, (mn t145 60) = j_ := ⟨_, rfl⟩
            replace H : (some (a0_19 == (ji23))) = some r := by first | (rw [hji23] at H; exact H) | (simp only [hji23] at H ⊢; exact H)
            (try rw [hji23] at A17)
            (try rw [hji23] at A18)
            (try rw [hji23] at A20)
            (try rw [hji23] at A22)
            (try (have hji23h : ji23 ≤ 60 := by (rw [← hji23]; unfold mn; (repeat' split) <;> omega)))
            (try (have hji23g : ji23 ≤ 64 := by omega))
            have hji23_ : (if 60 < t145 then 60 else t145) = ji23 := hji23
            obtain rfl := Option.some.inj H
            try go_wp2_with (first | ((with_reducible refine gate_dst (N := 5) rfl ?_); (try (refine gate_guard (by rfl) ?_; dsimp only)); (refine mem_alloc (w0 := ?_) (m := ?_) (cs := ?_) 51 rfl rfl Try.zeroValue51 ?hc ?hM ?_; (case hM => repeat (first | exact M.out | apply Mem.drewN | apply Mem.drew)); (case hc => simp only [Value.cells, List.toList_toArray]; rfl)); intro gb122 W_ M_; have N_ := Aside0.mk M_; clear M M_; have M := N_; clear N_) | ((with_reducible refine gate_load rfl ?_); (try (refine gate_guard (by rfl) ?_; dsimp only)); first | (refine mem_load1 (w0 := ?_) (m := ?_) (cs := ?_) (e := ?_) (v := ?_) (g := ?_) (off := ?_) _ _ rfl rfl ?ha ?hp ?hM ?hm ?hv ?_; (case ha => first | exact Try.isAgg3); (case hp => (conv => lhs; whnf); try exact rfl); (case hM => repeat (first | exact M.out | apply Mem.drewN | apply Mem.drew)); (case hm => repeat (first | exact List.Mem.head _ | apply List.Mem.tail)); (case hv => (conv => lhs; whnf); try exact rfl)) | (refine mem_load (w0 := ?_) (m := ?_) (k := ?_) (cs := ?_) (e := ?_) (seg := ?_) (g := ?_) (off := ?_) _ _ rfl rfl ?ha ?hz ?hp ?hM ?hm ?hs ?hl ?_; (case ha => first | exact Try.isAgg23 | exact Try.isAgg25 | exact Try.isAgg28 | exact Try.isAgg30 | exact Try.isAgg51); (case hz => first | exact Try.sizeOf23 | exact Try.sizeOf25 | exact Try.sizeOf28 | exact Try.sizeOf30 | exact Try.sizeOf51); (case hp => (conv => lhs; whnf); try exact rfl); (case hM => repeat (first | exact M.out | apply Mem.drewN | apply Mem.drew)); (case hm => repeat (first | exact List.Mem.head _ | apply List.Mem.tail)); (case hs => simp only [List.take, List.drop]; rfl); (case hl => rfl))) | ((with_reducible refine gate_st rfl ?_); refine mem_store (w0 := ?_) (m := ?_) (m' := ?_) (seg := ?_) (u := ?_) (g := ?_) (off := ?_) _ _ _ rfl rfl rfl ?hp ?hx ?hc ?hz ?h1 ?hM ?hU ?_; (case hM => repeat (first | exact M.out | apply Mem.drewN | apply Mem.drew)); (case hp => (conv => lhs; whnf); try exact rfl); (case hx => (conv => lhs; whnf); try exact rfl); (case hc => simp only [Value.cells, List.toList_toArray]; rfl); (case hz => first | exact Try.sizeOf51); (case h1 => rfl); (case hU => (repeat (first | (refine Upd.head (cs' := ?_) ?hf ?he; (case hf => exact Nat.le_of_ble_eq_true rfl); (case he => simp only [List.take, List.drop, List.length, List.cons_append, List.nil_append, Nat.reduceAdd, Nat.zero_add]; all_goals rfl)) | (refine Upd.tail (r' := ?_) ?_; rotate_left)))); intro W_ M_; have N_ := Aside0.mk M_; clear M M_; have M := N_; clear N_))
            refine start_ (n := 22) (S := fun w' => Mem w w' _) (ds := []) #[false, false, false, false, false, false, false, false, false, false, false, false, false, false, false, false, false, false, false, false, false, false] (by kernel_rfl) rfl rfl (Mem.drew (by repeat (first | exact M.out | apply Mem.drewN | apply Mem.drew))) (fun hHeld => ?_); refine with_tabW task_May.tab4 task_May.bits4 (fun HT_ HW_ => ?_)
            refine pure_ (i := 3) (N := some 35) (v := ?_) (a' := ?_) #[false, false, false, true, false, false, false, false, false, false, false, false, false, false, false, false, false, false, false, false, false, false] rfl rfl (any_of HT_.out (by kernel_rfl)) (fun _ _ _ h => h) (Or.inl ⟨by rfl, ?_⟩) ?_ ?_
            rotate_left; focus (intro w'; go_simp; with_reducible rfl)
            rotate_left; focus (simp only [Act.put, List.setIfInBounds_toArray, List.set_cons_zero, List.set_cons_succ, i64_w, i32_w]; rfl)
            refine take_ (i := 0) (N := some 32) (v := ?_) (a' := ?_) #[true, false, false, true, false, false, false, false, false, false, false, false, false, false, false, false, false, false, false, false, false, false] rfl rfl (take_ofW HT_.out HW_.out (by kernel_rfl)) (fun _ _ _ h => h) (Or.inl ⟨by rfl, ?_⟩) hHeld ?_ ?_
            rotate_left
            · first | (refine mem_exec_load1 (w0 := ?_) (m := ?_) (cs := ?_) (e := ?_) (v := ?_) (g := ?_) (off := ?_) 3 ?_ ?ho Try.isAgg3 ?hp ?hm ?hv; (case ho => rfl); (case hp => (conv => lhs; whnf); try exact rfl); (case hm => repeat (first | exact List.Mem.head _ | apply List.Mem.tail)); (case hv => (conv => lhs; whnf); try exact rfl)) | (refine mem_exec_load (w0 := ?_) (m := ?_) (cs := ?_) (e := ?_) (seg := ?_) (g := ?_) (off := ?_) 23 ?_ ?ho Try.isAgg23 Try.sizeOf23 ?hp ?hm ?hs ?hl; (case ho => rfl); (case hp => (conv => lhs; whnf); try exact rfl); (case hm => repeat (first | exact List.Mem.head _ | apply List.Mem.tail)); (case hs => simp only [List.take, List.drop]; rfl); (case hl => rfl)) | (refine mem_exec_load (w0 := ?_) (m := ?_) (cs := ?_) (e := ?_) (seg := ?_) (g := ?_) (off := ?_) 25 ?_ ?ho Try.isAgg25 Try.sizeOf25 ?hp ?hm ?hs ?hl; (case ho => rfl); (case hp => (conv => lhs; whnf); try exact rfl); (case hm => repeat (first | exact List.Mem.head _ | apply List.Mem.tail)); (case hs => simp only [List.take, List.drop]; rfl); (case hl => rfl)) | (refine mem_exec_load (w0 := ?_) (m := ?_) (cs := ?_) (e := ?_) (seg := ?_) (g := ?_) (off := ?_) 28 ?_ ?ho Try.isAgg28 Try.sizeOf28 ?hp ?hm ?hs ?hl; (case ho => rfl); (case hp => (conv => lhs; whnf); try exact rfl); (case hm => repeat (first | exact List.Mem.head _ | apply List.Mem.tail)); (case hs => simp only [List.take, List.drop]; rfl); (case hl => rfl)) | (refine mem_exec_load (w0 := ?_) (m := ?_) (cs := ?_) (e := ?_) (seg := ?_) (g := ?_) (off := ?_) 30 ?_ ?ho Try.isAgg30 Try.sizeOf30 ?hp ?hm ?hs ?hl; (case ho => rfl); (case hp => (conv => lhs; whnf); try exact rfl); (case hm => repeat (first | exact List.Mem.head _ | apply List.Mem.tail)); (case hs => simp only [List.take, List.drop]; rfl); (case hl => rfl)) | (refine mem_exec_load (w0 := ?_) (m := ?_) (cs := ?_) (e := ?_) (seg := ?_) (g := ?_) (off := ?_) 51 ?_ ?ho Try.isAgg51 Try.sizeOf51 ?hp ?hm ?hs ?hl; (case ho => rfl); (case hp => (conv => lhs; whnf); try exact rfl); (case hm => repeat (first | exact List.Mem.head _ | apply List.Mem.tail)); (case hs => simp only [List.take, List.drop]; rfl); (case hl => rfl)) | (intro w' M'; go_simp; with_reducible rfl)
            rotate_left; focus (simp only [Act.put, List.setIfInBounds_toArray, List.set_cons_zero, List.set_cons_succ, i64_w, i32_w]; rfl)
            refine one_ (i := 1) (N := some 33) #[true, true, false, true, false, false, false, false, false, false, false, false, false, false, false, false, false, false, false, false, false, false] rfl rfl (one_of HT_.out (by kernel_rfl)) (by decide) (fun K hK => ?_)
            refine goes_ Try.func11 (by kernel_rfl) rfl #[.agg #[.int .i64 a0_0, .int .i64 a0_1, .int .i64 a0_2, .int .i64 a0_3, .int .i64 a0_4, .int .i64 a0_5, .int .i64 a0_6, .int .i64 a0_7, .int .i64 a0_8, .int .i64 a0_9, .int .i64 a0_10, .bool a0_11, .int .i64 a0_12, .int .i64 a0_13, .int .i64 a0_14, .bool a0_15, .int .i64 a0_16, .int .i64 a0_17, .int .i64 a0_18, .int .i64 a0_19, .int .u64 a0_20, .bool a0_21]] (by rfl) rfl rfl (by (try simp only [List.map_toArray, List.map_cons, List.map_nil]); first | done | rfl | (simp only [List.length_drop, List.length_take]; rfl)) ?_
            with_reducible refine (task_Live.calls a0_0 a0_1 a0_2 a0_3 a0_4 a0_5 a0_6 a0_7 a0_8 a0_9 a0_10 a0_11 a0_12 a0_13 a0_14 a0_15 a0_16 a0_17 a0_18 a0_19 a0_20 a0_21 t123 t124 t125 t126 t127 t128 t129 t130 t131 t132 t133 t134 t135 t136 t137 t138 t139 _ A17.out).mono ?_
            rintro e w30 ⟨rfl, hb⟩
            refine ⟨_, rfl, ?_⟩
            have hHeld := Mem.call hHeld hb
            (try clear hb)
            (try clear hb2)
            (try clear hk)
            (try clear hi)
            refine hK.out _ _ hHeld (fun hHeld => ?_)
            clear hK K
            refine norm_ (a' := ?_) ?_ ?_
            rotate_left
            · show Act.put _ (some 33) _ = _
              simp only [Act.put, List.setIfInBounds_toArray, List.set_cons_zero, List.set_cons_succ, i64_w, i32_w]
              rfl
            refine one_ (i := 2) (N := some 34) #[true, true, true, true, false, false, false, false, false, false, false, false, false, false, false, false, false, false, false, false, false, false] rfl rfl (one_of HT_.out (by kernel_rfl)) (by decide) (fun K hK => ?_)
            refine Kd.R_lit_step k38 _ 38 ?hg (N := 34) ?hd (xs := ([(⟨(⟨t123, t124, t125, t126, t127, t128⟩ : S23), (⟨t129, t130, t131, t132, t133, t134, t135, t136⟩ : S25), t137, t138, t139⟩ : S38)] : List (S38))) (inner := [.int .i64 t123, .int .i64 t124, .int .i64 t125, .int .i64 t126, .int .i64 t127, .int .i64 t128, .bool t129, .int .i64 t130, .int .i64 t131, .int .i64 t132, .bool t133, .int .i64 t134, .int .i64 t135, .int .i64 t136, .int .i64 t137, .int .i64 t138, .int .i64 t139]) (ok := fun _ => True) (okp := fun _ => True) ?hr ?hp (fun _ hk => hk) trivial (Below.refl _ _) (Nat.le_refl _) (by simp) ?_; (case hd => rfl); (case hg => rfl); (case hr => first | (go_simp; done) | (go_simp; rfl)); (case hp => exact (Reps.front (show Kd.M k38 _ _ _ (⟨(⟨t123, t124, t125, t126, t127, t128⟩ : S23), (⟨t129, t130, t131, t132, t133, t134, t135, t136⟩ : S25), t137, t138, t139⟩ : S38) [.int .i64 t123, .int .i64 t124, .int .i64 t125, .int .i64 t126, .int .i64 t127, .int .i64 t128, .bool t129, .int .i64 t130, .int .i64 t131, .int .i64 t132, .bool t133, .int .i64 t134, .int .i64 t135, .int .i64 t136, .int .i64 t137, .int .i64 t138, .int .i64 t139] from (k38_mkM _ _ _ (⟨(⟨t123, t124, t125, t126, t127, t128⟩ : S23), (⟨t129, t130, t131, t132, t133, t134, t135, t136⟩ : S25), t137, t138, t139⟩ : S38) )) rfl (Reps.none _ _) rfl))
            intro v141 w31 ho32 hb hg_ hnew_
            clear hg_ hnew_
            (first | rw [← Ny140.out] at ho32 | (simp only [Int.reduceToNat] at ho32; rw [← Ny140.out] at ho32))
            have q0_ := Aside0.mk (Kd.R_lower ho32 (below_size (by exact Mem.below hHeld)))
            have hHeld := Mem.call hHeld hb
            (try clear HO142)
            have HO142 := q0_
            clear q0_
            clear hb ho32
            obtain ⟨Ao33, co33, eo33⟩ := Kd.R_slice HO142.out
            (first | subst eo33 | (injection eo33 with f1_ f2_ f3_; have f4_ := f1_.symm; have f5_ := f3_.symm; clear f1_ f2_ f3_; subst f4_; subst f5_))
            refine hK.out _ _ hHeld (fun hHeld => ?_)
            clear hK K
            refine norm_ (a' := ?_) ?_ ?_
            rotate_left
            · show Act.put _ (some 34) _ = _
              simp only [Act.put, List.setIfInBounds_toArray, List.set_cons_zero, List.set_cons_succ, i64_w, i32_w]
              rfl
            refine one_ (i := 4) (N := some 36) #[true, true, true, true, true, false, false, false, false, false, false, false, false, false, false, false, false, false, false, false, false, false] rfl rfl (one_of HT_.out (by kernel_rfl)) (by decide) (fun K hK => ?_)
            refine goes_ Try.func12 (by kernel_rfl) rfl #[.slice Ao33 y140.length co33, .int .i64 a1] (by rfl) rfl rfl (by (try simp only [List.map_toArray, List.map_cons, List.map_nil]); first | done | rfl | (simp only [List.length_drop, List.length_take]; rfl)) ?_
            with_reducible refine (live_May.calls _ _ y140 a1 true _ ?side1 ?side2 A18.out).mono ?_
            (case side1 => repeat (first | exact (Kd.R_reads' HO142.out).2.2 | (with_reducible refine Kd.C_alloc ?_ _) | (with_reducible refine Kd.C_drewN ?_ _) | (with_reducible refine Kd.C_drew ?_)))
            (case side2 => exact (Kd.R_reads' HO142.out).2.1)
            rintro e w34 ⟨rfl, hb⟩
            refine ⟨_, rfl, ?_⟩
            have q0_ := Aside0.mk (Kd.R_below (by (with_reducible repeat (first | apply Kd.R_alloc | apply Kd.R_drewN | apply Kd.R_drew)); exact HO142.out) hb)
            have hHeld := Mem.call hHeld hb
            (try clear HO142)
            have HO142 := q0_
            clear q0_
            (try clear hb)
            (try clear hb2)
            (try clear hk)
            (try clear hi)
            refine hK.out _ _ hHeld (fun hHeld => ?_)
            clear hK K
            refine norm_ (a' := ?_) ?_ ?_
            rotate_left
            · show Act.put _ (some 36) _ = _
              simp only [Act.put, List.setIfInBounds_toArray, List.set_cons_zero, List.set_cons_succ, i64_w, i32_w]
              rfl
            refine pure_ (i := 5) (N := some 37) (v := ?_) (a' := ?_) #[true, true, true, true, true, true, false, false, false, false, false, false, false, false, false, false, false, false, false, false, false, false] rfl rfl (any_of HT_.out (by kernel_rfl)) (fun _ _ _ h => h) (Or.inl ⟨by rfl, ?_⟩) ?_ ?_
            rotate_left; focus (intro w'; go_simp; with_reducible rfl)
            rotate_left; focus (simp only [Act.put, List.setIfInBounds_toArray, List.set_cons_zero, List.set_cons_succ, i64_w, i32_w]; rfl)
            refine pure_ (i := 6) (N := some 38) (v := ?_) (a' := ?_) #[true, true, true, true, true, true, true, false, false, false, false, false, false, false, false, false, false, false, false, false, false, false] rfl rfl (any_of HT_.out (by kernel_rfl)) (fun _ _ _ h => h) (Or.inl ⟨by rfl, ?_⟩) ?_ ?_
            rotate_left; focus (intro w'; go_simp; with_reducible rfl)
            rotate_left; focus (simp only [Act.put, List.setIfInBounds_toArray, List.set_cons_zero, List.set_cons_succ, i64_w, i32_w]; rfl)
            refine pure_ (i := 8) (N := some 40) (v := ?_) (a' := ?_) #[true, true, true, true, true, true, true, false, true, false, false, false, false, false, false, false, false, false, false, false, false, false] rfl rfl (any_of HT_.out (by kernel_rfl)) (fun _ _ _ h => h) (Or.inl ⟨by rfl, ?_⟩) ?_ ?_
            rotate_left; focus (intro w'; go_simp; with_reducible rfl)
            rotate_left; focus (simp only [Act.put, List.setIfInBounds_toArray, List.set_cons_zero, List.set_cons_succ, i64_w, i32_w]; rfl)
            refine take_ (i := 7) (N := some 39) (v := ?_) (a' := ?_) #[true, true, true, true, true, true, true, true, true, false, false, false, false, false, false, false, false, false, false, false, false, false] rfl rfl (take_ofW HT_.out HW_.out (by kernel_rfl)) (fun _ _ _ h => h) (Or.inl ⟨by rfl, ?_⟩) hHeld ?_ ?_
            rotate_left
            · first | (refine mem_exec_load1 (w0 := ?_) (m := ?_) (cs := ?_) (e := ?_) (v := ?_) (g := ?_) (off := ?_) 3 ?_ ?ho Try.isAgg3 ?hp ?hm ?hv; (case ho => rfl); (case hp => (conv => lhs; whnf); try exact rfl); (case hm => repeat (first | exact List.Mem.head _ | apply List.Mem.tail)); (case hv => (conv => lhs; whnf); try exact rfl)) | (refine mem_exec_load (w0 := ?_) (m := ?_) (cs := ?_) (e := ?_) (seg := ?_) (g := ?_) (off := ?_) 23 ?_ ?ho Try.isAgg23 Try.sizeOf23 ?hp ?hm ?hs ?hl; (case ho => rfl); (case hp => (conv => lhs; whnf); try exact rfl); (case hm => repeat (first | exact List.Mem.head _ | apply List.Mem.tail)); (case hs => simp only [List.take, List.drop]; rfl); (case hl => rfl)) | (refine mem_exec_load (w0 := ?_) (m := ?_) (cs := ?_) (e := ?_) (seg := ?_) (g := ?_) (off := ?_) 25 ?_ ?ho Try.isAgg25 Try.sizeOf25 ?hp ?hm ?hs ?hl; (case ho => rfl); (case hp => (conv => lhs; whnf); try exact rfl); (case hm => repeat (first | exact List.Mem.head _ | apply List.Mem.tail)); (case hs => simp only [List.take, List.drop]; rfl); (case hl => rfl)) | (refine mem_exec_load (w0 := ?_) (m := ?_) (cs := ?_) (e := ?_) (seg := ?_) (g := ?_) (off := ?_) 28 ?_ ?ho Try.isAgg28 Try.sizeOf28 ?hp ?hm ?hs ?hl; (case ho => rfl); (case hp => (conv => lhs; whnf); try exact rfl); (case hm => repeat (first | exact List.Mem.head _ | apply List.Mem.tail)); (case hs => simp only [List.take, List.drop]; rfl); (case hl => rfl)) | (refine mem_exec_load (w0 := ?_) (m := ?_) (cs := ?_) (e := ?_) (seg := ?_) (g := ?_) (off := ?_) 30 ?_ ?ho Try.isAgg30 Try.sizeOf30 ?hp ?hm ?hs ?hl; (case ho => rfl); (case hp => (conv => lhs; whnf); try exact rfl); (case hm => repeat (first | exact List.Mem.head _ | apply List.Mem.tail)); (case hs => simp only [List.take, List.drop]; rfl); (case hl => rfl)) | (refine mem_exec_load (w0 := ?_) (m := ?_) (cs := ?_) (e := ?_) (seg := ?_) (g := ?_) (off := ?_) 51 ?_ ?ho Try.isAgg51 Try.sizeOf51 ?hp ?hm ?hs ?hl; (case ho => rfl); (case hp => (conv => lhs; whnf); try exact rfl); (case hm => repeat (first | exact List.Mem.head _ | apply List.Mem.tail)); (case hs => simp only [List.take, List.drop]; rfl); (case hl => rfl)) | (intro w' M'; go_simp; with_reducible rfl)
            rotate_left; focus (simp only [Act.put, List.setIfInBounds_toArray, List.set_cons_zero, List.set_cons_succ, i64_w, i32_w]; rfl)
            refine take_ (i := 9) (N := some 41) (v := ?_) (a' := ?_) #[true, true, true, true, true, true, true, true, true, true, false, false, false, false, false, false, false, false, false, false, false, false] rfl rfl (take_ofW HT_.out HW_.out (by kernel_rfl)) (fun _ _ _ h => h) (Or.inl ⟨by rfl, ?_⟩) hHeld ?_ ?_
            rotate_left
            · first | (refine mem_exec_load1 (w0 := ?_) (m := ?_) (cs := ?_) (e := ?_) (v := ?_) (g := ?_) (off := ?_) 3 ?_ ?ho Try.isAgg3 ?hp ?hm ?hv; (case ho => rfl); (case hp => (conv => lhs; whnf); try exact rfl); (case hm => repeat (first | exact List.Mem.head _ | apply List.Mem.tail)); (case hv => (conv => lhs; whnf); try exact rfl)) | (refine mem_exec_load (w0 := ?_) (m := ?_) (cs := ?_) (e := ?_) (seg := ?_) (g := ?_) (off := ?_) 23 ?_ ?ho Try.isAgg23 Try.sizeOf23 ?hp ?hm ?hs ?hl; (case ho => rfl); (case hp => (conv => lhs; whnf); try exact rfl); (case hm => repeat (first | exact List.Mem.head _ | apply List.Mem.tail)); (case hs => simp only [List.take, List.drop]; rfl); (case hl => rfl)) | (refine mem_exec_load (w0 := ?_) (m := ?_) (cs := ?_) (e := ?_) (seg := ?_) (g := ?_) (off := ?_) 25 ?_ ?ho Try.isAgg25 Try.sizeOf25 ?hp ?hm ?hs ?hl; (case ho => rfl); (case hp => (conv => lhs; whnf); try exact rfl); (case hm => repeat (first | exact List.Mem.head _ | apply List.Mem.tail)); (case hs => simp only [List.take, List.drop]; rfl); (case hl => rfl)) | (refine mem_exec_load (w0 := ?_) (m := ?_) (cs := ?_) (e := ?_) (seg := ?_) (g := ?_) (off := ?_) 28 ?_ ?ho Try.isAgg28 Try.sizeOf28 ?hp ?hm ?hs ?hl; (case ho => rfl); (case hp => (conv => lhs; whnf); try exact rfl); (case hm => repeat (first | exact List.Mem.head _ | apply List.Mem.tail)); (case hs => simp only [List.take, List.drop]; rfl); (case hl => rfl)) | (refine mem_exec_load (w0 := ?_) (m := ?_) (cs := ?_) (e := ?_) (seg := ?_) (g := ?_) (off := ?_) 30 ?_ ?ho Try.isAgg30 Try.sizeOf30 ?hp ?hm ?hs ?hl; (case ho => rfl); (case hp => (conv => lhs; whnf); try exact rfl); (case hm => repeat (first | exact List.Mem.head _ | apply List.Mem.tail)); (case hs => simp only [List.take, List.drop]; rfl); (case hl => rfl)) | (refine mem_exec_load (w0 := ?_) (m := ?_) (cs := ?_) (e := ?_) (seg := ?_) (g := ?_) (off := ?_) 51 ?_ ?ho Try.isAgg51 Try.sizeOf51 ?hp ?hm ?hs ?hl; (case ho => rfl); (case hp => (conv => lhs; whnf); try exact rfl); (case hm => repeat (first | exact List.Mem.head _ | apply List.Mem.tail)); (case hs => simp only [List.take, List.drop]; rfl); (case hl => rfl)) | (intro w' M'; go_simp; with_reducible rfl)
            rotate_left; focus (simp only [Act.put, List.setIfInBounds_toArray, List.set_cons_zero, List.set_cons_succ, i64_w, i32_w]; rfl)
            refine one_ (i := 10) (N := some 42) #[true, true, true, true, true, true, true, true, true, true, true, false, false, false, false, false, false, false, false, false, false, false] rfl rfl (one_of HT_.out (by kernel_rfl)) (by decide) (fun K hK => ?_)
            refine goes_ Try.func19 (by kernel_rfl) rfl #[.agg #[.int .i64 a0_1, .int .i64 a0_2, .int .i64 a0_3, .int .i64 a0_4, .int .i64 a0_5, .int .i64 a0_6], .agg #[.bool a0_11, .int .i64 a0_12, .int .i64 a0_13, .int .i64 a0_14, .bool a0_15, .int .i64 a0_16, .int .i64 a0_17, .int .i64 a0_18]] (by rfl) rfl rfl (by (try simp only [List.map_toArray, List.map_cons, List.map_nil]); first | done | rfl | (simp only [List.length_drop, List.length_take]; rfl)) ?_
            with_reducible refine (job_May.calls a0_1 a0_2 a0_3 a0_4 a0_5 a0_6 a0_11 a0_12 a0_13 a0_14 a0_15 a0_16 a0_17 a0_18 true _ A20.out).mono ?_
            rintro e w35 ⟨rfl, hb⟩
            refine ⟨_, rfl, ?_⟩
            have q0_ := Aside0.mk (Kd.R_below (by (with_reducible repeat (first | apply Kd.R_alloc | apply Kd.R_drewN | apply Kd.R_drew)); exact HO142.out) hb)
            have hHeld := Mem.call hHeld hb
            (try clear HO142)
            have HO142 := q0_
            clear q0_
            (try clear hb)
            (try clear hb2)
            (try clear hk)
            (try clear hi)
            refine hK.out _ _ hHeld (fun hHeld => ?_)
            clear hK K
            refine norm_ (a' := ?_) ?_ ?_
            rotate_left
            · show Act.put _ (some 42) _ = _
              simp only [Act.put, List.setIfInBounds_toArray, List.set_cons_zero, List.set_cons_succ, i64_w, i32_w]
              rfl
            refine pure_ (i := 11) (N := some 43) (v := ?_) (a' := ?_) #[true, true, true, true, true, true, true, true, true, true, true, true, false, false, false, false, false, false, false, false, false, false] rfl rfl (any_of HT_.out (by kernel_rfl)) (fun _ _ _ h => h) (Or.inl ⟨by rfl, ?_⟩) ?_ ?_
            rotate_left; focus (intro w'; go_simp; with_reducible rfl)
            rotate_left; focus (simp only [Act.put, List.setIfInBounds_toArray, List.set_cons_zero, List.set_cons_succ, i64_w, i32_w]; rfl)
            refine pure_ (i := 12) (N := some 44) (v := ?_) (a' := ?_) #[true, true, true, true, true, true, true, true, true, true, true, true, true, false, false, false, false, false, false, false, false, false] rfl rfl (any_of HT_.out (by kernel_rfl)) (fun _ _ _ h => h) (Or.inl ⟨by rfl, ?_⟩) ?_ ?_
            rotate_left; focus (intro w'; go_simp; with_reducible rfl)
            rotate_left; focus (simp only [Act.put, List.setIfInBounds_toArray, List.set_cons_zero, List.set_cons_succ, i64_w, i32_w]; rfl)
            refine pure_ (i := 13) (N := some 45) (v := ?_) (a' := ?_) #[true, true, true, true, true, true, true, true, true, true, true, true, true, true, false, false, false, false, false, false, false, false] rfl rfl (any_of HT_.out (by kernel_rfl)) (fun _ _ _ h => h) (Or.inl ⟨by rfl, ?_⟩) ?_ ?_
            rotate_left; focus (intro w'; go_simp; with_reducible rfl)
            rotate_left; focus (simp only [Act.put, List.setIfInBounds_toArray, List.set_cons_zero, List.set_cons_succ, i64_w, i32_w]; rfl)
            refine pure_ (i := 14) (N := some 46) (v := ?_) (a' := ?_) #[true, true, true, true, true, true, true, true, true, true, true, true, true, true, true, false, false, false, false, false, false, false] rfl rfl (any_of HT_.out (by kernel_rfl)) (fun _ _ _ h => h) (Or.inl ⟨by rfl, ?_⟩) ?_ ?_
            rotate_left; focus (intro w'; go_simp; with_reducible rfl)
            rotate_left; focus (simp only [Act.put, List.setIfInBounds_toArray, List.set_cons_zero, List.set_cons_succ, i64_w, i32_w]; rfl)
            refine take_ (i := 15) (N := some 47) (v := ?_) (a' := ?_) #[true, true, true, true, true, true, true, true, true, true, true, true, true, true, true, true, false, false, false, false, false, false] rfl rfl (take_ofW HT_.out HW_.out (by kernel_rfl)) (fun _ _ _ h => h) (Or.inl ⟨by rfl, ?_⟩) hHeld ?_ ?_
            rotate_left
            · first | (refine mem_exec_load1 (w0 := ?_) (m := ?_) (cs := ?_) (e := ?_) (v := ?_) (g := ?_) (off := ?_) 3 ?_ ?ho Try.isAgg3 ?hp ?hm ?hv; (case ho => rfl); (case hp => (conv => lhs; whnf); try exact rfl); (case hm => repeat (first | exact List.Mem.head _ | apply List.Mem.tail)); (case hv => (conv => lhs; whnf); try exact rfl)) | (refine mem_exec_load (w0 := ?_) (m := ?_) (cs := ?_) (e := ?_) (seg := ?_) (g := ?_) (off := ?_) 23 ?_ ?ho Try.isAgg23 Try.sizeOf23 ?hp ?hm ?hs ?hl; (case ho => rfl); (case hp => (conv => lhs; whnf); try exact rfl); (case hm => repeat (first | exact List.Mem.head _ | apply List.Mem.tail)); (case hs => simp only [List.take, List.drop]; rfl); (case hl => rfl)) | (refine mem_exec_load (w0 := ?_) (m := ?_) (cs := ?_) (e := ?_) (seg := ?_) (g := ?_) (off := ?_) 25 ?_ ?ho Try.isAgg25 Try.sizeOf25 ?hp ?hm ?hs ?hl; (case ho => rfl); (case hp => (conv => lhs; whnf); try exact rfl); (case hm => repeat (first | exact List.Mem.head _ | apply List.Mem.tail)); (case hs => simp only [List.take, List.drop]; rfl); (case hl => rfl)) | (refine mem_exec_load (w0 := ?_) (m := ?_) (cs := ?_) (e := ?_) (seg := ?_) (g := ?_) (off := ?_) 28 ?_ ?ho Try.isAgg28 Try.sizeOf28 ?hp ?hm ?hs ?hl; (case ho => rfl); (case hp => (conv => lhs; whnf); try exact rfl); (case hm => repeat (first | exact List.Mem.head _ | apply List.Mem.tail)); (case hs => simp only [List.take, List.drop]; rfl); (case hl => rfl)) | (refine mem_exec_load (w0 := ?_) (m := ?_) (cs := ?_) (e := ?_) (seg := ?_) (g := ?_) (off := ?_) 30 ?_ ?ho Try.isAgg30 Try.sizeOf30 ?hp ?hm ?hs ?hl; (case ho => rfl); (case hp => (conv => lhs; whnf); try exact rfl); (case hm => repeat (first | exact List.Mem.head _ | apply List.Mem.tail)); (case hs => simp only [List.take, List.drop]; rfl); (case hl => rfl)) | (refine mem_exec_load (w0 := ?_) (m := ?_) (cs := ?_) (e := ?_) (seg := ?_) (g := ?_) (off := ?_) 51 ?_ ?ho Try.isAgg51 Try.sizeOf51 ?hp ?hm ?hs ?hl; (case ho => rfl); (case hp => (conv => lhs; whnf); try exact rfl); (case hm => repeat (first | exact List.Mem.head _ | apply List.Mem.tail)); (case hs => simp only [List.take, List.drop]; rfl); (case hl => rfl)) | (intro w' M'; go_simp; with_reducible rfl)
            rotate_left; focus (simp only [Act.put, List.setIfInBounds_toArray, List.set_cons_zero, List.set_cons_succ, i64_w, i32_w]; rfl)
            refine take_ (i := 16) (N := some 48) (v := ?_) (a' := ?_) #[true, true, true, true, true, true, true, true, true, true, true, true, true, true, true, true, true, false, false, false, false, false] rfl rfl (take_ofW HT_.out HW_.out (by kernel_rfl)) (fun _ _ _ h => h) (Or.inl ⟨by rfl, ?_⟩) hHeld ?_ ?_
            rotate_left
            · first | (refine mem_exec_load1 (w0 := ?_) (m := ?_) (cs := ?_) (e := ?_) (v := ?_) (g := ?_) (off := ?_) 3 ?_ ?ho Try.isAgg3 ?hp ?hm ?hv; (case ho => rfl); (case hp => (conv => lhs; whnf); try exact rfl); (case hm => repeat (first | exact List.Mem.head _ | apply List.Mem.tail)); (case hv => (conv => lhs; whnf); try exact rfl)) | (refine mem_exec_load (w0 := ?_) (m := ?_) (cs := ?_) (e := ?_) (seg := ?_) (g := ?_) (off := ?_) 23 ?_ ?ho Try.isAgg23 Try.sizeOf23 ?hp ?hm ?hs ?hl; (case ho => rfl); (case hp => (conv => lhs; whnf); try exact rfl); (case hm => repeat (first | exact List.Mem.head _ | apply List.Mem.tail)); (case hs => simp only [List.take, List.drop]; rfl); (case hl => rfl)) | (refine mem_exec_load (w0 := ?_) (m := ?_) (cs := ?_) (e := ?_) (seg := ?_) (g := ?_) (off := ?_) 25 ?_ ?ho Try.isAgg25 Try.sizeOf25 ?hp ?hm ?hs ?hl; (case ho => rfl); (case hp => (conv => lhs; whnf); try exact rfl); (case hm => repeat (first | exact List.Mem.head _ | apply List.Mem.tail)); (case hs => simp only [List.take, List.drop]; rfl); (case hl => rfl)) | (refine mem_exec_load (w0 := ?_) (m := ?_) (cs := ?_) (e := ?_) (seg := ?_) (g := ?_) (off := ?_) 28 ?_ ?ho Try.isAgg28 Try.sizeOf28 ?hp ?hm ?hs ?hl; (case ho => rfl); (case hp => (conv => lhs; whnf); try exact rfl); (case hm => repeat (first | exact List.Mem.head _ | apply List.Mem.tail)); (case hs => simp only [List.take, List.drop]; rfl); (case hl => rfl)) | (refine mem_exec_load (w0 := ?_) (m := ?_) (cs := ?_) (e := ?_) (seg := ?_) (g := ?_) (off := ?_) 30 ?_ ?ho Try.isAgg30 Try.sizeOf30 ?hp ?hm ?hs ?hl; (case ho => rfl); (case hp => (conv => lhs; whnf); try exact rfl); (case hm => repeat (first | exact List.Mem.head _ | apply List.Mem.tail)); (case hs => simp only [List.take, List.drop]; rfl); (case hl => rfl)) | (refine mem_exec_load (w0 := ?_) (m := ?_) (cs := ?_) (e := ?_) (seg := ?_) (g := ?_) (off := ?_) 51 ?_ ?ho Try.isAgg51 Try.sizeOf51 ?hp ?hm ?hs ?hl; (case ho => rfl); (case hp => (conv => lhs; whnf); try exact rfl); (case hm => repeat (first | exact List.Mem.head _ | apply List.Mem.tail)); (case hs => simp only [List.take, List.drop]; rfl); (case hl => rfl)) | (intro w' M'; go_simp; with_reducible rfl)
            rotate_left; focus (simp only [Act.put, List.setIfInBounds_toArray, List.set_cons_zero, List.set_cons_succ, i64_w, i32_w]; rfl)
            refine one_ (i := 17) (N := some 49) #[true, true, true, true, true, true, true, true, true, true, true, true, true, true, true, true, true, true, false, false, false, false] rfl rfl (one_of HT_.out (by kernel_rfl)) (by decide) (fun K hK => ?_)
            refine goes_ Try.func20 (by kernel_rfl) rfl #[.agg #[.int .i64 a0_0, .int .i64 a0_1, .int .i64 a0_2, .int .i64 a0_3, .int .i64 a0_4, .int .i64 a0_5, .int .i64 a0_6, .int .i64 a0_7, .int .i64 a0_8, .int .i64 a0_9, .int .i64 a0_10, .bool a0_11, .int .i64 a0_12, .int .i64 a0_13, .int .i64 a0_14, .bool a0_15, .int .i64 a0_16, .int .i64 a0_17, .int .i64 a0_18, .int .i64 a0_19, .int .u64 a0_20, .bool a0_21]] (by rfl) rfl rfl (by (try simp only [List.map_toArray, List.map_cons, List.map_nil]); first | done | rfl | (simp only [List.length_drop, List.length_take]; rfl)) ?_
            with_reducible refine (task_work_over.calls a0_0 a0_1 a0_2 a0_3 a0_4 a0_5 a0_6 a0_7 a0_8 a0_9 a0_10 a0_11 a0_12 a0_13 a0_14 a0_15 a0_16 a0_17 a0_18 a0_19 a0_20 a0_21 t145 _ A22.out).mono ?_
            rintro e w36 ⟨rfl, hb⟩
            refine ⟨_, rfl, ?_⟩
            have q0_ := Aside0.mk (Kd.R_below (by (with_reducible repeat (first | apply Kd.R_alloc | apply Kd.R_drewN | apply Kd.R_drew)); exact HO142.out) hb)
            have hHeld := Mem.call hHeld hb
            (try clear HO142)
            have HO142 := q0_
            clear q0_
            (try clear hb)
            (try clear hb2)
            (try clear hk)
            (try clear hi)
            refine hK.out _ _ hHeld (fun hHeld => ?_)
            clear hK K
            refine norm_ (a' := ?_) ?_ ?_
            rotate_left
            · show Act.put _ (some 49) _ = _
              simp only [Act.put, List.setIfInBounds_toArray, List.set_cons_zero, List.set_cons_succ, i64_w, i32_w]
              rfl
            refine pure_ (i := 18) (N := some 50) (v := ?_) (a' := ?_) #[true, true, true, true, true, true, true, true, true, true, true, true, true, true, true, true, true, true, true, false, false, false] rfl rfl (any_of HT_.out (by kernel_rfl)) (fun _ _ _ h => h) (Or.inl ⟨by rfl, ?_⟩) ?_ ?_
            rotate_left; focus (intro w'; go_simp; with_reducible rfl)
            rotate_left; focus (simp only [Act.put, List.setIfInBounds_toArray, List.set_cons_zero, List.set_cons_succ, i64_w, i32_w]; rfl)
            refine pure_ (i := 19) (N := some 51) (v := ?_) (a' := ?_) #[true, true, true, true, true, true, true, true, true, true, true, true, true, true, true, true, true, true, true, true, false, false] rfl rfl (any_of HT_.out (by kernel_rfl)) (fun _ _ _ h => h) (Or.inl ⟨by rfl, ?_⟩) ?_ ?_
            rotate_left; focus (intro w'; go_simp; with_reducible rfl)
            rotate_left; focus (simp only [Act.put, List.setIfInBounds_toArray, List.set_cons_zero, List.set_cons_succ, i64_w, i32_w]; rfl)
            refine pure_ (i := 20) (N := some 52) (v := ?_) (a' := ?_) #[true, true, true, true, true, true, true, true, true, true, true, true, true, true, true, true, true, true, true, true, true, false] rfl rfl (any_of HT_.out (by kernel_rfl)) (fun _ _ _ h => h) (Or.inl ⟨by rfl, ?_⟩) ?_ ?_
            rotate_left; focus (intro w'; go_simp; with_reducible rfl)
            rotate_left; focus (simp only [Act.put, List.setIfInBounds_toArray, List.set_cons_zero, List.set_cons_succ, i64_w, i32_w]; rfl)
            refine pure_ (i := 21) (N := some 4) (v := ?_) (a' := ?_) #[true, true, true, true, true, true, true, true, true, true, true, true, true, true, true, true, true, true, true, true, true, true] rfl rfl (any_of HT_.out (by kernel_rfl)) (fun _ _ _ h => h) (Or.inl ⟨by rfl, ?_⟩) ?_ ?_
            rotate_left; focus (intro w'; go_simp; with_reducible rfl)
            rotate_left; focus (simp only [Act.put, List.setIfInBounds_toArray, List.set_cons_zero, List.set_cons_succ, i64_w, i32_w]; rfl)
            refine done_ (done_of HT_.out (by kernel_rfl)) ?_
            have M := Aside0.mk hHeld
            try go_wp2_with (first | ((with_reducible refine gate_load rfl ?_); (try (refine gate_guard (by rfl) ?_; dsimp only)); first | (refine mem_load1 (w0 := ?_) (m := ?_) (cs := ?_) (e := ?_) (v := ?_) (g := ?_) (off := ?_) _ _ rfl rfl ?ha ?hp ?hM ?hm ?hv ?_; (case ha => first | exact Try.isAgg3); (case hp => (conv => lhs; whnf); try exact rfl); (case hM => repeat (first | exact M.out | apply Mem.drewN | apply Mem.drew)); (case hm => repeat (first | exact List.Mem.head _ | apply List.Mem.tail)); (case hv => (conv => lhs; whnf); try exact rfl)) | (refine mem_load (w0 := ?_) (m := ?_) (k := ?_) (cs := ?_) (e := ?_) (seg := ?_) (g := ?_) (off := ?_) _ _ rfl rfl ?ha ?hz ?hp ?hM ?hm ?hs ?hl ?_; (case ha => first | exact Try.isAgg23 | exact Try.isAgg25 | exact Try.isAgg28 | exact Try.isAgg30 | exact Try.isAgg51); (case hz => first | exact Try.sizeOf23 | exact Try.sizeOf25 | exact Try.sizeOf28 | exact Try.sizeOf30 | exact Try.sizeOf51); (case hp => (conv => lhs; whnf); try exact rfl); (case hM => repeat (first | exact M.out | apply Mem.drewN | apply Mem.drew)); (case hm => repeat (first | exact List.Mem.head _ | apply List.Mem.tail)); (case hs => simp only [List.take, List.drop]; rfl); (case hl => rfl))) | ((with_reducible refine gate_st rfl ?_); refine mem_store (w0 := ?_) (m := ?_) (m' := ?_) (seg := ?_) (u := ?_) (g := ?_) (off := ?_) _ _ _ rfl rfl rfl ?hp ?hx ?hc ?hz ?h1 ?hM ?hU ?_; (case hM => repeat (first | exact M.out | apply Mem.drewN | apply Mem.drew)); (case hp => (conv => lhs; whnf); try exact rfl); (case hx => (conv => lhs; whnf); try exact rfl); (case hc => simp only [Value.cells, List.toList_toArray]; rfl); (case hz => first | exact Try.sizeOf51); (case h1 => rfl); (case hU => (repeat (first | (refine Upd.head (cs' := ?_) ?hf ?he; (case hf => exact Nat.le_of_ble_eq_true rfl); (case he => simp only [List.take, List.drop, List.length, List.cons_append, List.nil_append, Nat.reduceAdd, Nat.zero_add]; all_goals rfl)) | (refine Upd.tail (r' := ?_) ?_; rotate_left)))); intro W_ M_; have N_ := Aside0.mk M_; clear M M_; have M := N_; clear N_))
            go_ret
            exact ⟨by first | rfl | (simp [errW_none, errW_some] <;> rfl) | (simp only [← hji23]; first | rfl | (simp [errW_none, errW_some] <;> rfl)) | (simp [*, errW_none, errW_some] <;> rfl) | (exfalso; contradiction), by exact Mem.below (by repeat (first | exact M.out | apply Mem.drewN | apply Mem.drew))⟩
          · replace c21 := Bool.eq_false_iff.mpr c21
            subst c21
            rw [if_neg (show ¬ (false = true) by decide)] at H
            obtain rfl := Option.some.inj H
            try go_wp2_with (first | ((with_reducible refine gate_dst (N := 5) rfl ?_); (try (refine gate_guard (by rfl) ?_; dsimp only)); (refine mem_alloc (w0 := ?_) (m := ?_) (cs := ?_) 51 rfl rfl Try.zeroValue51 ?hc ?hM ?_; (case hM => repeat (first | exact M.out | apply Mem.drewN | apply Mem.drew)); (case hc => simp only [Value.cells, List.toList_toArray]; rfl)); intro gb122 W_ M_; have N_ := Aside0.mk M_; clear M M_; have M := N_; clear N_) | ((with_reducible refine gate_load rfl ?_); (try (refine gate_guard (by rfl) ?_; dsimp only)); first | (refine mem_load1 (w0 := ?_) (m := ?_) (cs := ?_) (e := ?_) (v := ?_) (g := ?_) (off := ?_) _ _ rfl rfl ?ha ?hp ?hM ?hm ?hv ?_; (case ha => first | exact Try.isAgg3); (case hp => (conv => lhs; whnf); try exact rfl); (case hM => repeat (first | exact M.out | apply Mem.drewN | apply Mem.drew)); (case hm => repeat (first | exact List.Mem.head _ | apply List.Mem.tail)); (case hv => (conv => lhs; whnf); try exact rfl)) | (refine mem_load (w0 := ?_) (m := ?_) (k := ?_) (cs := ?_) (e := ?_) (seg := ?_) (g := ?_) (off := ?_) _ _ rfl rfl ?ha ?hz ?hp ?hM ?hm ?hs ?hl ?_; (case ha => first | exact Try.isAgg23 | exact Try.isAgg25 | exact Try.isAgg28 | exact Try.isAgg30 | exact Try.isAgg51); (case hz => first | exact Try.sizeOf23 | exact Try.sizeOf25 | exact Try.sizeOf28 | exact Try.sizeOf30 | exact Try.sizeOf51); (case hp => (conv => lhs; whnf); try exact rfl); (case hM => repeat (first | exact M.out | apply Mem.drewN | apply Mem.drew)); (case hm => repeat (first | exact List.Mem.head _ | apply List.Mem.tail)); (case hs => simp only [List.take, List.drop]; rfl); (case hl => rfl))) | ((with_reducible refine gate_st rfl ?_); refine mem_store (w0 := ?_) (m := ?_) (m' := ?_) (seg := ?_) (u := ?_) (g := ?_) (off := ?_) _ _ _ rfl rfl rfl ?hp ?hx ?hc ?hz ?h1 ?hM ?hU ?_; (case hM => repeat (first | exact M.out | apply Mem.drewN | apply Mem.drew)); (case hp => (conv => lhs; whnf); try exact rfl); (case hx => (conv => lhs; whnf); try exact rfl); (case hc => simp only [Value.cells, List.toList_toArray]; rfl); (case hz => first | exact Try.sizeOf51); (case h1 => rfl); (case hU => (repeat (first | (refine Upd.head (cs' := ?_) ?hf ?he; (case hf => exact Nat.le_of_ble_eq_true rfl); (case he => simp only [List.take, List.drop, List.length, List.cons_append, List.nil_append, Nat.reduceAdd, Nat.zero_add]; all_goals rfl)) | (refine Upd.tail (r' := ?_) ?_; rotate_left)))); intro W_ M_; have N_ := Aside0.mk M_; clear M M_; have M := N_; clear N_))
            refine start_ (n := 22) (S := fun w' => Mem w w' _) (ds := []) #[false, false, false, false, false, false, false, false, false, false, false, false, false, false, false, false, false, false, false, false, false, false] (by kernel_rfl) rfl rfl (Mem.drew (by repeat (first | exact M.out | apply Mem.drewN | apply Mem.drew))) (fun hHeld => ?_); refine with_tabW task_May.tab4 task_May.bits4 (fun HT_ HW_ => ?_)
            refine pure_ (i := 3) (N := some 35) (v := ?_) (a' := ?_) #[false, false, false, true, false, false, false, false, false, false, false, false, false, false, false, false, false, false, false, false, false, false] rfl rfl (any_of HT_.out (by kernel_rfl)) (fun _ _ _ h => h) (Or.inl ⟨by rfl, ?_⟩) ?_ ?_
            rotate_left; focus (intro w'; go_simp; with_reducible rfl)
            rotate_left; focus (simp only [Act.put, List.setIfInBounds_toArray, List.set_cons_zero, List.set_cons_succ, i64_w, i32_w]; rfl)
            refine take_ (i := 0) (N := some 32) (v := ?_) (a' := ?_) #[true, false, false, true, false, false, false, false, false, false, false, false, false, false, false, false, false, false, false, false, false, false] rfl rfl (take_ofW HT_.out HW_.out (by kernel_rfl)) (fun _ _ _ h => h) (Or.inl ⟨by rfl, ?_⟩) hHeld ?_ ?_
            rotate_left
            · first | (refine mem_exec_load1 (w0 := ?_) (m := ?_) (cs := ?_) (e := ?_) (v := ?_) (g := ?_) (off := ?_) 3 ?_ ?ho Try.isAgg3 ?hp ?hm ?hv; (case ho => rfl); (case hp => (conv => lhs; whnf); try exact rfl); (case hm => repeat (first | exact List.Mem.head _ | apply List.Mem.tail)); (case hv => (conv => lhs; whnf); try exact rfl)) | (refine mem_exec_load (w0 := ?_) (m := ?_) (cs := ?_) (e := ?_) (seg := ?_) (g := ?_) (off := ?_) 23 ?_ ?ho Try.isAgg23 Try.sizeOf23 ?hp ?hm ?hs ?hl; (case ho => rfl); (case hp => (conv => lhs; whnf); try exact rfl); (case hm => repeat (first | exact List.Mem.head _ | apply List.Mem.tail)); (case hs => simp only [List.take, List.drop]; rfl); (case hl => rfl)) | (refine mem_exec_load (w0 := ?_) (m := ?_) (cs := ?_) (e := ?_) (seg := ?_) (g := ?_) (off := ?_) 25 ?_ ?ho Try.isAgg25 Try.sizeOf25 ?hp ?hm ?hs ?hl; (case ho => rfl); (case hp => (conv => lhs; whnf); try exact rfl); (case hm => repeat (first | exact List.Mem.head _ | apply List.Mem.tail)); (case hs => simp only [List.take, List.drop]; rfl); (case hl => rfl)) | (refine mem_exec_load (w0 := ?_) (m := ?_) (cs := ?_) (e := ?_) (seg := ?_) (g := ?_) (off := ?_) 28 ?_ ?ho Try.isAgg28 Try.sizeOf28 ?hp ?hm ?hs ?hl; (case ho => rfl); (case hp => (conv => lhs; whnf); try exact rfl); (case hm => repeat (first | exact List.Mem.head _ | apply List.Mem.tail)); (case hs => simp only [List.take, List.drop]; rfl); (case hl => rfl)) | (refine mem_exec_load (w0 := ?_) (m := ?_) (cs := ?_) (e := ?_) (seg := ?_) (g := ?_) (off := ?_) 30 ?_ ?ho Try.isAgg30 Try.sizeOf30 ?hp ?hm ?hs ?hl; (case ho => rfl); (case hp => (conv => lhs; whnf); try exact rfl); (case hm => repeat (first | exact List.Mem.head _ | apply List.Mem.tail)); (case hs => simp only [List.take, List.drop]; rfl); (case hl => rfl)) | (refine mem_exec_load (w0 := ?_) (m := ?_) (cs := ?_) (e := ?_) (seg := ?_) (g := ?_) (off := ?_) 51 ?_ ?ho Try.isAgg51 Try.sizeOf51 ?hp ?hm ?hs ?hl; (case ho => rfl); (case hp => (conv => lhs; whnf); try exact rfl); (case hm => repeat (first | exact List.Mem.head _ | apply List.Mem.tail)); (case hs => simp only [List.take, List.drop]; rfl); (case hl => rfl)) | (intro w' M'; go_simp; with_reducible rfl)
            rotate_left; focus (simp only [Act.put, List.setIfInBounds_toArray, List.set_cons_zero, List.set_cons_succ, i64_w, i32_w]; rfl)
            refine one_ (i := 1) (N := some 33) #[true, true, false, true, false, false, false, false, false, false, false, false, false, false, false, false, false, false, false, false, false, false] rfl rfl (one_of HT_.out (by kernel_rfl)) (by decide) (fun K hK => ?_)
            refine goes_ Try.func11 (by kernel_rfl) rfl #[.agg #[.int .i64 a0_0, .int .i64 a0_1, .int .i64 a0_2, .int .i64 a0_3, .int .i64 a0_4, .int .i64 a0_5, .int .i64 a0_6, .int .i64 a0_7, .int .i64 a0_8, .int .i64 a0_9, .int .i64 a0_10, .bool a0_11, .int .i64 a0_12, .int .i64 a0_13, .int .i64 a0_14, .bool a0_15, .int .i64 a0_16, .int .i64 a0_17, .int .i64 a0_18, .int .i64 a0_19, .int .u64 a0_20, .bool a0_21]] (by rfl) rfl rfl (by (try simp only [List.map_toArray, List.map_cons, List.map_nil]); first | done | rfl | (simp only [List.length_drop, List.length_take]; rfl)) ?_
            with_reducible refine (task_Live.calls a0_0 a0_1 a0_2 a0_3 a0_4 a0_5 a0_6 a0_7 a0_8 a0_9 a0_10 a0_11 a0_12 a0_13 a0_14 a0_15 a0_16 a0_17 a0_18 a0_19 a0_20 a0_21 t123 t124 t125 t126 t127 t128 t129 t130 t131 t132 t133 t134 t135 t136 t137 t138 t139 _ A17.out).mono ?_
            rintro e w43 ⟨rfl, hb⟩
            refine ⟨_, rfl, ?_⟩
            have hHeld := Mem.call hHeld hb
            (try clear hb)
            (try clear hb2)
            (try clear hk)
            (try clear hi)
            refine hK.out _ _ hHeld (fun hHeld => ?_)
            clear hK K
            refine norm_ (a' := ?_) ?_ ?_
            rotate_left
            · show Act.put _ (some 33) _ = _
              simp only [Act.put, List.setIfInBounds_toArray, List.set_cons_zero, List.set_cons_succ, i64_w, i32_w]
              rfl
            refine one_ (i := 2) (N := some 34) #[true, true, true, true, false, false, false, false, false, false, false, false, false, false, false, false, false, false, false, false, false, false] rfl rfl (one_of HT_.out (by kernel_rfl)) (by decide) (fun K hK => ?_)
            refine Kd.R_lit_step k38 _ 38 ?hg (N := 34) ?hd (xs := ([(⟨(⟨t123, t124, t125, t126, t127, t128⟩ : S23), (⟨t129, t130, t131, t132, t133, t134, t135, t136⟩ : S25), t137, t138, t139⟩ : S38)] : List (S38))) (inner := [.int .i64 t123, .int .i64 t124, .int .i64 t125, .int .i64 t126, .int .i64 t127, .int .i64 t128, .bool t129, .int .i64 t130, .int .i64 t131, .int .i64 t132, .bool t133, .int .i64 t134, .int .i64 t135, .int .i64 t136, .int .i64 t137, .int .i64 t138, .int .i64 t139]) (ok := fun _ => True) (okp := fun _ => True) ?hr ?hp (fun _ hk => hk) trivial (Below.refl _ _) (Nat.le_refl _) (by simp) ?_; (case hd => rfl); (case hg => rfl); (case hr => first | (go_simp; done) | (go_simp; rfl)); (case hp => exact (Reps.front (show Kd.M k38 _ _ _ (⟨(⟨t123, t124, t125, t126, t127, t128⟩ : S23), (⟨t129, t130, t131, t132, t133, t134, t135, t136⟩ : S25), t137, t138, t139⟩ : S38) [.int .i64 t123, .int .i64 t124, .int .i64 t125, .int .i64 t126, .int .i64 t127, .int .i64 t128, .bool t129, .int .i64 t130, .int .i64 t131, .int .i64 t132, .bool t133, .int .i64 t134, .int .i64 t135, .int .i64 t136, .int .i64 t137, .int .i64 t138, .int .i64 t139] from (k38_mkM _ _ _ (⟨(⟨t123, t124, t125, t126, t127, t128⟩ : S23), (⟨t129, t130, t131, t132, t133, t134, t135, t136⟩ : S25), t137, t138, t139⟩ : S38) )) rfl (Reps.none _ _) rfl))
            intro v141 w44 ho45 hb hg_ hnew_
            clear hg_ hnew_
            (first | rw [← Ny140.out] at ho45 | (simp only [Int.reduceToNat] at ho45; rw [← Ny140.out] at ho45))
            have q0_ := Aside0.mk (Kd.R_lower ho45 (below_size (by exact Mem.below hHeld)))
            have hHeld := Mem.call hHeld hb
            (try clear HO142)
            have HO142 := q0_
            clear q0_
            clear hb ho45
            obtain ⟨Ao46, co46, eo46⟩ := Kd.R_slice HO142.out
            (first | subst eo46 | (injection eo46 with f1_ f2_ f3_; have f4_ := f1_.symm; have f5_ := f3_.symm; clear f1_ f2_ f3_; subst f4_; subst f5_))
            refine hK.out _ _ hHeld (fun hHeld => ?_)
            clear hK K
            refine norm_ (a' := ?_) ?_ ?_
            rotate_left
            · show Act.put _ (some 34) _ = _
              simp only [Act.put, List.setIfInBounds_toArray, List.set_cons_zero, List.set_cons_succ, i64_w, i32_w]
              rfl
            refine one_ (i := 4) (N := some 36) #[true, true, true, true, true, false, false, false, false, false, false, false, false, false, false, false, false, false, false, false, false, false] rfl rfl (one_of HT_.out (by kernel_rfl)) (by decide) (fun K hK => ?_)
            refine goes_ Try.func12 (by kernel_rfl) rfl #[.slice Ao46 y140.length co46, .int .i64 a1] (by rfl) rfl rfl (by (try simp only [List.map_toArray, List.map_cons, List.map_nil]); first | done | rfl | (simp only [List.length_drop, List.length_take]; rfl)) ?_
            with_reducible refine (live_May.calls _ _ y140 a1 true _ ?side1 ?side2 A18.out).mono ?_
            (case side1 => repeat (first | exact (Kd.R_reads' HO142.out).2.2 | (with_reducible refine Kd.C_alloc ?_ _) | (with_reducible refine Kd.C_drewN ?_ _) | (with_reducible refine Kd.C_drew ?_)))
            (case side2 => exact (Kd.R_reads' HO142.out).2.1)
            rintro e w47 ⟨rfl, hb⟩
            refine ⟨_, rfl, ?_⟩
            have q0_ := Aside0.mk (Kd.R_below (by (with_reducible repeat (first | apply Kd.R_alloc | apply Kd.R_drewN | apply Kd.R_drew)); exact HO142.out) hb)
            have hHeld := Mem.call hHeld hb
            (try clear HO142)
            have HO142 := q0_
            clear q0_
            (try clear hb)
            (try clear hb2)
            (try clear hk)
            (try clear hi)
            refine hK.out _ _ hHeld (fun hHeld => ?_)
            clear hK K
            refine norm_ (a' := ?_) ?_ ?_
            rotate_left
            · show Act.put _ (some 36) _ = _
              simp only [Act.put, List.setIfInBounds_toArray, List.set_cons_zero, List.set_cons_succ, i64_w, i32_w]
              rfl
            refine pure_ (i := 5) (N := some 37) (v := ?_) (a' := ?_) #[true, true, true, true, true, true, false, false, false, false, false, false, false, false, false, false, false, false, false, false, false, false] rfl rfl (any_of HT_.out (by kernel_rfl)) (fun _ _ _ h => h) (Or.inl ⟨by rfl, ?_⟩) ?_ ?_
            rotate_left; focus (intro w'; go_simp; with_reducible rfl)
            rotate_left; focus (simp only [Act.put, List.setIfInBounds_toArray, List.set_cons_zero, List.set_cons_succ, i64_w, i32_w]; rfl)
            refine pure_ (i := 6) (N := some 38) (v := ?_) (a' := ?_) #[true, true, true, true, true, true, true, false, false, false, false, false, false, false, false, false, false, false, false, false, false, false] rfl rfl (any_of HT_.out (by kernel_rfl)) (fun _ _ _ h => h) (Or.inl ⟨by rfl, ?_⟩) ?_ ?_
            rotate_left; focus (intro w'; go_simp; with_reducible rfl)
            rotate_left; focus (simp only [Act.put, List.setIfInBounds_toArray, List.set_cons_zero, List.set_cons_succ, i64_w, i32_w]; rfl)
            refine pure_ (i := 8) (N := some 40) (v := ?_) (a' := ?_) #[true, true, true, true, true, true, true, false, true, false, false, false, false, false, false, false, false, false, false, false, false, false] rfl rfl (any_of HT_.out (by kernel_rfl)) (fun _ _ _ h => h) (Or.inl ⟨by rfl, ?_⟩) ?_ ?_
            rotate_left; focus (intro w'; go_simp; with_reducible rfl)
            rotate_left; focus (simp only [Act.put, List.setIfInBounds_toArray, List.set_cons_zero, List.set_cons_succ, i64_w, i32_w]; rfl)
            refine take_ (i := 7) (N := some 39) (v := ?_) (a' := ?_) #[true, true, true, true, true, true, true, true, true, false, false, false, false, false, false, false, false, false, false, false, false, false] rfl rfl (take_ofW HT_.out HW_.out (by kernel_rfl)) (fun _ _ _ h => h) (Or.inl ⟨by rfl, ?_⟩) hHeld ?_ ?_
            rotate_left
            · first | (refine mem_exec_load1 (w0 := ?_) (m := ?_) (cs := ?_) (e := ?_) (v := ?_) (g := ?_) (off := ?_) 3 ?_ ?ho Try.isAgg3 ?hp ?hm ?hv; (case ho => rfl); (case hp => (conv => lhs; whnf); try exact rfl); (case hm => repeat (first | exact List.Mem.head _ | apply List.Mem.tail)); (case hv => (conv => lhs; whnf); try exact rfl)) | (refine mem_exec_load (w0 := ?_) (m := ?_) (cs := ?_) (e := ?_) (seg := ?_) (g := ?_) (off := ?_) 23 ?_ ?ho Try.isAgg23 Try.sizeOf23 ?hp ?hm ?hs ?hl; (case ho => rfl); (case hp => (conv => lhs; whnf); try exact rfl); (case hm => repeat (first | exact List.Mem.head _ | apply List.Mem.tail)); (case hs => simp only [List.take, List.drop]; rfl); (case hl => rfl)) | (refine mem_exec_load (w0 := ?_) (m := ?_) (cs := ?_) (e := ?_) (seg := ?_) (g := ?_) (off := ?_) 25 ?_ ?ho Try.isAgg25 Try.sizeOf25 ?hp ?hm ?hs ?hl; (case ho => rfl); (case hp => (conv => lhs; whnf); try exact rfl); (case hm => repeat (first | exact List.Mem.head _ | apply List.Mem.tail)); (case hs => simp only [List.take, List.drop]; rfl); (case hl => rfl)) | (refine mem_exec_load (w0 := ?_) (m := ?_) (cs := ?_) (e := ?_) (seg := ?_) (g := ?_) (off := ?_) 28 ?_ ?ho Try.isAgg28 Try.sizeOf28 ?hp ?hm ?hs ?hl; (case ho => rfl); (case hp => (conv => lhs; whnf); try exact rfl); (case hm => repeat (first | exact List.Mem.head _ | apply List.Mem.tail)); (case hs => simp only [List.take, List.drop]; rfl); (case hl => rfl)) | (refine mem_exec_load (w0 := ?_) (m := ?_) (cs := ?_) (e := ?_) (seg := ?_) (g := ?_) (off := ?_) 30 ?_ ?ho Try.isAgg30 Try.sizeOf30 ?hp ?hm ?hs ?hl; (case ho => rfl); (case hp => (conv => lhs; whnf); try exact rfl); (case hm => repeat (first | exact List.Mem.head _ | apply List.Mem.tail)); (case hs => simp only [List.take, List.drop]; rfl); (case hl => rfl)) | (refine mem_exec_load (w0 := ?_) (m := ?_) (cs := ?_) (e := ?_) (seg := ?_) (g := ?_) (off := ?_) 51 ?_ ?ho Try.isAgg51 Try.sizeOf51 ?hp ?hm ?hs ?hl; (case ho => rfl); (case hp => (conv => lhs; whnf); try exact rfl); (case hm => repeat (first | exact List.Mem.head _ | apply List.Mem.tail)); (case hs => simp only [List.take, List.drop]; rfl); (case hl => rfl)) | (intro w' M'; go_simp; with_reducible rfl)
            rotate_left; focus (simp only [Act.put, List.setIfInBounds_toArray, List.set_cons_zero, List.set_cons_succ, i64_w, i32_w]; rfl)
            refine take_ (i := 9) (N := some 41) (v := ?_) (a' := ?_) #[true, true, true, true, true, true, true, true, true, true, false, false, false, false, false, false, false, false, false, false, false, false] rfl rfl (take_ofW HT_.out HW_.out (by kernel_rfl)) (fun _ _ _ h => h) (Or.inl ⟨by rfl, ?_⟩) hHeld ?_ ?_
            rotate_left
            · first | (refine mem_exec_load1 (w0 := ?_) (m := ?_) (cs := ?_) (e := ?_) (v := ?_) (g := ?_) (off := ?_) 3 ?_ ?ho Try.isAgg3 ?hp ?hm ?hv; (case ho => rfl); (case hp => (conv => lhs; whnf); try exact rfl); (case hm => repeat (first | exact List.Mem.head _ | apply List.Mem.tail)); (case hv => (conv => lhs; whnf); try exact rfl)) | (refine mem_exec_load (w0 := ?_) (m := ?_) (cs := ?_) (e := ?_) (seg := ?_) (g := ?_) (off := ?_) 23 ?_ ?ho Try.isAgg23 Try.sizeOf23 ?hp ?hm ?hs ?hl; (case ho => rfl); (case hp => (conv => lhs; whnf); try exact rfl); (case hm => repeat (first | exact List.Mem.head _ | apply List.Mem.tail)); (case hs => simp only [List.take, List.drop]; rfl); (case hl => rfl)) | (refine mem_exec_load (w0 := ?_) (m := ?_) (cs := ?_) (e := ?_) (seg := ?_) (g := ?_) (off := ?_) 25 ?_ ?ho Try.isAgg25 Try.sizeOf25 ?hp ?hm ?hs ?hl; (case ho => rfl); (case hp => (conv => lhs; whnf); try exact rfl); (case hm => repeat (first | exact List.Mem.head _ | apply List.Mem.tail)); (case hs => simp only [List.take, List.drop]; rfl); (case hl => rfl)) | (refine mem_exec_load (w0 := ?_) (m := ?_) (cs := ?_) (e := ?_) (seg := ?_) (g := ?_) (off := ?_) 28 ?_ ?ho Try.isAgg28 Try.sizeOf28 ?hp ?hm ?hs ?hl; (case ho => rfl); (case hp => (conv => lhs; whnf); try exact rfl); (case hm => repeat (first | exact List.Mem.head _ | apply List.Mem.tail)); (case hs => simp only [List.take, List.drop]; rfl); (case hl => rfl)) | (refine mem_exec_load (w0 := ?_) (m := ?_) (cs := ?_) (e := ?_) (seg := ?_) (g := ?_) (off := ?_) 30 ?_ ?ho Try.isAgg30 Try.sizeOf30 ?hp ?hm ?hs ?hl; (case ho => rfl); (case hp => (conv => lhs; whnf); try exact rfl); (case hm => repeat (first | exact List.Mem.head _ | apply List.Mem.tail)); (case hs => simp only [List.take, List.drop]; rfl); (case hl => rfl)) | (refine mem_exec_load (w0 := ?_) (m := ?_) (cs := ?_) (e := ?_) (seg := ?_) (g := ?_) (off := ?_) 51 ?_ ?ho Try.isAgg51 Try.sizeOf51 ?hp ?hm ?hs ?hl; (case ho => rfl); (case hp => (conv => lhs; whnf); try exact rfl); (case hm => repeat (first | exact List.Mem.head _ | apply List.Mem.tail)); (case hs => simp only [List.take, List.drop]; rfl); (case hl => rfl)) | (intro w' M'; go_simp; with_reducible rfl)
            rotate_left; focus (simp only [Act.put, List.setIfInBounds_toArray, List.set_cons_zero, List.set_cons_succ, i64_w, i32_w]; rfl)
            refine one_ (i := 10) (N := some 42) #[true, true, true, true, true, true, true, true, true, true, true, false, false, false, false, false, false, false, false, false, false, false] rfl rfl (one_of HT_.out (by kernel_rfl)) (by decide) (fun K hK => ?_)
            refine goes_ Try.func19 (by kernel_rfl) rfl #[.agg #[.int .i64 a0_1, .int .i64 a0_2, .int .i64 a0_3, .int .i64 a0_4, .int .i64 a0_5, .int .i64 a0_6], .agg #[.bool a0_11, .int .i64 a0_12, .int .i64 a0_13, .int .i64 a0_14, .bool a0_15, .int .i64 a0_16, .int .i64 a0_17, .int .i64 a0_18]] (by rfl) rfl rfl (by (try simp only [List.map_toArray, List.map_cons, List.map_nil]); first | done | rfl | (simp only [List.length_drop, List.length_take]; rfl)) ?_
            with_reducible refine (job_May.calls a0_1 a0_2 a0_3 a0_4 a0_5 a0_6 a0_11 a0_12 a0_13 a0_14 a0_15 a0_16 a0_17 a0_18 false _ A20.out).mono ?_
            rintro e w48 ⟨rfl, hb⟩
            refine ⟨_, rfl, ?_⟩
            have q0_ := Aside0.mk (Kd.R_below (by (with_reducible repeat (first | apply Kd.R_alloc | apply Kd.R_drewN | apply Kd.R_drew)); exact HO142.out) hb)
            have hHeld := Mem.call hHeld hb
            (try clear HO142)
            have HO142 := q0_
            clear q0_
            (try clear hb)
            (try clear hb2)
            (try clear hk)
            (try clear hi)
            refine hK.out _ _ hHeld (fun hHeld => ?_)
            clear hK K
            refine norm_ (a' := ?_) ?_ ?_
            rotate_left
            · show Act.put _ (some 42) _ = _
              simp only [Act.put, List.setIfInBounds_toArray, List.set_cons_zero, List.set_cons_succ, i64_w, i32_w]
              rfl
            refine pure_ (i := 11) (N := some 43) (v := ?_) (a' := ?_) #[true, true, true, true, true, true, true, true, true, true, true, true, false, false, false, false, false, false, false, false, false, false] rfl rfl (any_of HT_.out (by kernel_rfl)) (fun _ _ _ h => h) (Or.inl ⟨by rfl, ?_⟩) ?_ ?_
            rotate_left; focus (intro w'; go_simp; with_reducible rfl)
            rotate_left; focus (simp only [Act.put, List.setIfInBounds_toArray, List.set_cons_zero, List.set_cons_succ, i64_w, i32_w]; rfl)
            refine pure_ (i := 12) (N := some 44) (v := ?_) (a' := ?_) #[true, true, true, true, true, true, true, true, true, true, true, true, true, false, false, false, false, false, false, false, false, false] rfl rfl (any_of HT_.out (by kernel_rfl)) (fun _ _ _ h => h) (Or.inl ⟨by rfl, ?_⟩) ?_ ?_
            rotate_left; focus (intro w'; go_simp; with_reducible rfl)
            rotate_left; focus (simp only [Act.put, List.setIfInBounds_toArray, List.set_cons_zero, List.set_cons_succ, i64_w, i32_w]; rfl)
            refine pure_ (i := 13) (N := some 45) (v := undef) (a' := ?_) #[true, true, true, true, true, true, true, true, true, true, true, true, true, true, false, false, false, false, false, false, false, false] rfl rfl (any_of HT_.out (by kernel_rfl)) (fun _ _ _ h => h) (Or.inr ⟨by rfl, rfl⟩) ?_ ?_
            rotate_left; focus (simp only [Act.put, List.setIfInBounds_toArray, List.set_cons_zero, List.set_cons_succ, i64_w, i32_w]; rfl)
            refine pure_ (i := 14) (N := some 46) (v := undef) (a' := ?_) #[true, true, true, true, true, true, true, true, true, true, true, true, true, true, true, false, false, false, false, false, false, false] rfl rfl (any_of HT_.out (by kernel_rfl)) (fun _ _ _ h => h) (Or.inr ⟨by rfl, rfl⟩) ?_ ?_
            rotate_left; focus (simp only [Act.put, List.setIfInBounds_toArray, List.set_cons_zero, List.set_cons_succ, i64_w, i32_w]; rfl)
            refine pure_ (i := 15) (N := some 47) (v := undef) (a' := ?_) #[true, true, true, true, true, true, true, true, true, true, true, true, true, true, true, true, false, false, false, false, false, false] rfl rfl (any_of HT_.out (by kernel_rfl)) (fun _ _ _ h => h) (Or.inr ⟨by rfl, rfl⟩) ?_ ?_
            rotate_left; focus (simp only [Act.put, List.setIfInBounds_toArray, List.set_cons_zero, List.set_cons_succ, i64_w, i32_w]; rfl)
            refine pure_ (i := 16) (N := some 48) (v := undef) (a' := ?_) #[true, true, true, true, true, true, true, true, true, true, true, true, true, true, true, true, true, false, false, false, false, false] rfl rfl (any_of HT_.out (by kernel_rfl)) (fun _ _ _ h => h) (Or.inr ⟨by rfl, rfl⟩) ?_ ?_
            rotate_left; focus (simp only [Act.put, List.setIfInBounds_toArray, List.set_cons_zero, List.set_cons_succ, i64_w, i32_w]; rfl)
            refine pure_ (i := 17) (N := some 49) (v := undef) (a' := ?_) #[true, true, true, true, true, true, true, true, true, true, true, true, true, true, true, true, true, true, false, false, false, false] rfl rfl (any_of HT_.out (by kernel_rfl)) (fun _ _ _ h => h) (Or.inr ⟨by rfl, rfl⟩) ?_ ?_
            rotate_left; focus (simp only [Act.put, List.setIfInBounds_toArray, List.set_cons_zero, List.set_cons_succ, i64_w, i32_w]; rfl)
            refine pure_ (i := 18) (N := some 50) (v := undef) (a' := ?_) #[true, true, true, true, true, true, true, true, true, true, true, true, true, true, true, true, true, true, true, false, false, false] rfl rfl (any_of HT_.out (by kernel_rfl)) (fun _ _ _ h => h) (Or.inr ⟨by rfl, rfl⟩) ?_ ?_
            rotate_left; focus (simp only [Act.put, List.setIfInBounds_toArray, List.set_cons_zero, List.set_cons_succ, i64_w, i32_w]; rfl)
            refine pure_ (i := 19) (N := some 51) (v := undef) (a' := ?_) #[true, true, true, true, true, true, true, true, true, true, true, true, true, true, true, true, true, true, true, true, false, false] rfl rfl (any_of HT_.out (by kernel_rfl)) (fun _ _ _ h => h) (Or.inr ⟨by rfl, rfl⟩) ?_ ?_
            rotate_left; focus (simp only [Act.put, List.setIfInBounds_toArray, List.set_cons_zero, List.set_cons_succ, i64_w, i32_w]; rfl)
            refine pure_ (i := 20) (N := some 52) (v := ?_) (a' := ?_) #[true, true, true, true, true, true, true, true, true, true, true, true, true, true, true, true, true, true, true, true, true, false] rfl rfl (any_of HT_.out (by kernel_rfl)) (fun _ _ _ h => h) (Or.inl ⟨by rfl, ?_⟩) ?_ ?_
            rotate_left; focus (intro w'; go_simp; with_reducible rfl)
            rotate_left; focus (simp only [Act.put, List.setIfInBounds_toArray, List.set_cons_zero, List.set_cons_succ, i64_w, i32_w]; rfl)
            refine pure_ (i := 21) (N := some 4) (v := ?_) (a' := ?_) #[true, true, true, true, true, true, true, true, true, true, true, true, true, true, true, true, true, true, true, true, true, true] rfl rfl (any_of HT_.out (by kernel_rfl)) (fun _ _ _ h => h) (Or.inl ⟨by rfl, ?_⟩) ?_ ?_
            rotate_left; focus (intro w'; go_simp; with_reducible rfl)
            rotate_left; focus (simp only [Act.put, List.setIfInBounds_toArray, List.set_cons_zero, List.set_cons_succ, i64_w, i32_w]; rfl)
            refine done_ (done_of HT_.out (by kernel_rfl)) ?_
            have M := Aside0.mk hHeld
            try go_wp2_with (first | ((with_reducible refine gate_load rfl ?_); (try (refine gate_guard (by rfl) ?_; dsimp only)); first | (refine mem_load1 (w0 := ?_) (m := ?_) (cs := ?_) (e := ?_) (v := ?_) (g := ?_) (off := ?_) _ _ rfl rfl ?ha ?hp ?hM ?hm ?hv ?_; (case ha => first | exact Try.isAgg3); (case hp => (conv => lhs; whnf); try exact rfl); (case hM => repeat (first | exact M.out | apply Mem.drewN | apply Mem.drew)); (case hm => repeat (first | exact List.Mem.head _ | apply List.Mem.tail)); (case hv => (conv => lhs; whnf); try exact rfl)) | (refine mem_load (w0 := ?_) (m := ?_) (k := ?_) (cs := ?_) (e := ?_) (seg := ?_) (g := ?_) (off := ?_) _ _ rfl rfl ?ha ?hz ?hp ?hM ?hm ?hs ?hl ?_; (case ha => first | exact Try.isAgg23 | exact Try.isAgg25 | exact Try.isAgg28 | exact Try.isAgg30 | exact Try.isAgg51); (case hz => first | exact Try.sizeOf23 | exact Try.sizeOf25 | exact Try.sizeOf28 | exact Try.sizeOf30 | exact Try.sizeOf51); (case hp => (conv => lhs; whnf); try exact rfl); (case hM => repeat (first | exact M.out | apply Mem.drewN | apply Mem.drew)); (case hm => repeat (first | exact List.Mem.head _ | apply List.Mem.tail)); (case hs => simp only [List.take, List.drop]; rfl); (case hl => rfl))) | ((with_reducible refine gate_st rfl ?_); refine mem_store (w0 := ?_) (m := ?_) (m' := ?_) (seg := ?_) (u := ?_) (g := ?_) (off := ?_) _ _ _ rfl rfl rfl ?hp ?hx ?hc ?hz ?h1 ?hM ?hU ?_; (case hM => repeat (first | exact M.out | apply Mem.drewN | apply Mem.drew)); (case hp => (conv => lhs; whnf); try exact rfl); (case hx => (conv => lhs; whnf); try exact rfl); (case hc => simp only [Value.cells, List.toList_toArray]; rfl); (case hz => first | exact Try.sizeOf51); (case h1 => rfl); (case hU => (repeat (first | (refine Upd.head (cs' := ?_) ?hf ?he; (case hf => exact Nat.le_of_ble_eq_true rfl); (case he => simp only [List.take, List.drop, List.length, List.cons_append, List.nil_append, Nat.reduceAdd, Nat.zero_add]; all_goals rfl)) | (refine Upd.tail (r' := ?_) ?_; rotate_left)))); intro W_ M_; have N_ := Aside0.mk M_; clear M M_; have M := N_; clear N_))
            go_ret
            exact ⟨by first | rfl | (simp [errW_none, errW_some] <;> rfl) | (simp [*, errW_none, errW_some] <;> rfl) | (exfalso; contradiction), by exact Mem.below (by repeat (first | exact M.out | apply Mem.drewN | apply Mem.drew))⟩
        · replace c19 := Bool.eq_false_iff.mpr c19
          subst c19
          rw [if_neg (show ¬ (false = true) by decide)] at H
          obtain rfl := Option.some.inj H
          try go_wp2_with (first | ((with_reducible refine gate_dst (N := 5) rfl ?_); (try (refine gate_guard (by rfl) ?_; dsimp only)); (refine mem_alloc (w0 := ?_) (m := ?_) (cs := ?_) 51 rfl rfl Try.zeroValue51 ?hc ?hM ?_; (case hM => repeat (first | exact M.out | apply Mem.drewN | apply Mem.drew)); (case hc => simp only [Value.cells, List.toList_toArray]; rfl)); intro gb122 W_ M_; have N_ := Aside0.mk M_; clear M M_; have M := N_; clear N_) | ((with_reducible refine gate_load rfl ?_); (try (refine gate_guard (by rfl) ?_; dsimp only)); first | (refine mem_load1 (w0 := ?_) (m := ?_) (cs := ?_) (e := ?_) (v := ?_) (g := ?_) (off := ?_) _ _ rfl rfl ?ha ?hp ?hM ?hm ?hv ?_; (case ha => first | exact Try.isAgg3); (case hp => (conv => lhs; whnf); try exact rfl); (case hM => repeat (first | exact M.out | apply Mem.drewN | apply Mem.drew)); (case hm => repeat (first | exact List.Mem.head _ | apply List.Mem.tail)); (case hv => (conv => lhs; whnf); try exact rfl)) | (refine mem_load (w0 := ?_) (m := ?_) (k := ?_) (cs := ?_) (e := ?_) (seg := ?_) (g := ?_) (off := ?_) _ _ rfl rfl ?ha ?hz ?hp ?hM ?hm ?hs ?hl ?_; (case ha => first | exact Try.isAgg23 | exact Try.isAgg25 | exact Try.isAgg28 | exact Try.isAgg30 | exact Try.isAgg51); (case hz => first | exact Try.sizeOf23 | exact Try.sizeOf25 | exact Try.sizeOf28 | exact Try.sizeOf30 | exact Try.sizeOf51); (case hp => (conv => lhs; whnf); try exact rfl); (case hM => repeat (first | exact M.out | apply Mem.drewN | apply Mem.drew)); (case hm => repeat (first | exact List.Mem.head _ | apply List.Mem.tail)); (case hs => simp only [List.take, List.drop]; rfl); (case hl => rfl))) | ((with_reducible refine gate_st rfl ?_); refine mem_store (w0 := ?_) (m := ?_) (m' := ?_) (seg := ?_) (u := ?_) (g := ?_) (off := ?_) _ _ _ rfl rfl rfl ?hp ?hx ?hc ?hz ?h1 ?hM ?hU ?_; (case hM => repeat (first | exact M.out | apply Mem.drewN | apply Mem.drew)); (case hp => (conv => lhs; whnf); try exact rfl); (case hx => (conv => lhs; whnf); try exact rfl); (case hc => simp only [Value.cells, List.toList_toArray]; rfl); (case hz => first | exact Try.sizeOf51); (case h1 => rfl); (case hU => (repeat (first | (refine Upd.head (cs' := ?_) ?hf ?he; (case hf => exact Nat.le_of_ble_eq_true rfl); (case he => simp only [List.take, List.drop, List.length, List.cons_append, List.nil_append, Nat.reduceAdd, Nat.zero_add]; all_goals rfl)) | (refine Upd.tail (r' := ?_) ?_; rotate_left)))); intro W_ M_; have N_ := Aside0.mk M_; clear M M_; have M := N_; clear N_))
          refine start_ (n := 22) (S := fun w' => Mem w w' _) (ds := []) #[false, false, false, false, false, false, false, false, false, false, false, false, false, false, false, false, false, false, false, false, false, false] (by kernel_rfl) rfl rfl (Mem.drew (by repeat (first | exact M.out | apply Mem.drewN | apply Mem.drew))) (fun hHeld => ?_); refine with_tabW task_May.tab4 task_May.bits4 (fun HT_ HW_ => ?_)
          refine pure_ (i := 3) (N := some 35) (v := ?_) (a' := ?_) #[false, false, false, true, false, false, false, false, false, false, false, false, false, false, false, false, false, false, false, false, false, false] rfl rfl (any_of HT_.out (by kernel_rfl)) (fun _ _ _ h => h) (Or.inl ⟨by rfl, ?_⟩) ?_ ?_
          rotate_left; focus (intro w'; go_simp; with_reducible rfl)
          rotate_left; focus (simp only [Act.put, List.setIfInBounds_toArray, List.set_cons_zero, List.set_cons_succ, i64_w, i32_w]; rfl)
          refine take_ (i := 0) (N := some 32) (v := ?_) (a' := ?_) #[true, false, false, true, false, false, false, false, false, false, false, false, false, false, false, false, false, false, false, false, false, false] rfl rfl (take_ofW HT_.out HW_.out (by kernel_rfl)) (fun _ _ _ h => h) (Or.inl ⟨by rfl, ?_⟩) hHeld ?_ ?_
          rotate_left
          · first | (refine mem_exec_load1 (w0 := ?_) (m := ?_) (cs := ?_) (e := ?_) (v := ?_) (g := ?_) (off := ?_) 3 ?_ ?ho Try.isAgg3 ?hp ?hm ?hv; (case ho => rfl); (case hp => (conv => lhs; whnf); try exact rfl); (case hm => repeat (first | exact List.Mem.head _ | apply List.Mem.tail)); (case hv => (conv => lhs; whnf); try exact rfl)) | (refine mem_exec_load (w0 := ?_) (m := ?_) (cs := ?_) (e := ?_) (seg := ?_) (g := ?_) (off := ?_) 23 ?_ ?ho Try.isAgg23 Try.sizeOf23 ?hp ?hm ?hs ?hl; (case ho => rfl); (case hp => (conv => lhs; whnf); try exact rfl); (case hm => repeat (first | exact List.Mem.head _ | apply List.Mem.tail)); (case hs => simp only [List.take, List.drop]; rfl); (case hl => rfl)) | (refine mem_exec_load (w0 := ?_) (m := ?_) (cs := ?_) (e := ?_) (seg := ?_) (g := ?_) (off := ?_) 25 ?_ ?ho Try.isAgg25 Try.sizeOf25 ?hp ?hm ?hs ?hl; (case ho => rfl); (case hp => (conv => lhs; whnf); try exact rfl); (case hm => repeat (first | exact List.Mem.head _ | apply List.Mem.tail)); (case hs => simp only [List.take, List.drop]; rfl); (case hl => rfl)) | (refine mem_exec_load (w0 := ?_) (m := ?_) (cs := ?_) (e := ?_) (seg := ?_) (g := ?_) (off := ?_) 28 ?_ ?ho Try.isAgg28 Try.sizeOf28 ?hp ?hm ?hs ?hl; (case ho => rfl); (case hp => (conv => lhs; whnf); try exact rfl); (case hm => repeat (first | exact List.Mem.head _ | apply List.Mem.tail)); (case hs => simp only [List.take, List.drop]; rfl); (case hl => rfl)) | (refine mem_exec_load (w0 := ?_) (m := ?_) (cs := ?_) (e := ?_) (seg := ?_) (g := ?_) (off := ?_) 30 ?_ ?ho Try.isAgg30 Try.sizeOf30 ?hp ?hm ?hs ?hl; (case ho => rfl); (case hp => (conv => lhs; whnf); try exact rfl); (case hm => repeat (first | exact List.Mem.head _ | apply List.Mem.tail)); (case hs => simp only [List.take, List.drop]; rfl); (case hl => rfl)) | (refine mem_exec_load (w0 := ?_) (m := ?_) (cs := ?_) (e := ?_) (seg := ?_) (g := ?_) (off := ?_) 51 ?_ ?ho Try.isAgg51 Try.sizeOf51 ?hp ?hm ?hs ?hl; (case ho => rfl); (case hp => (conv => lhs; whnf); try exact rfl); (case hm => repeat (first | exact List.Mem.head _ | apply List.Mem.tail)); (case hs => simp only [List.take, List.drop]; rfl); (case hl => rfl)) | (intro w' M'; go_simp; with_reducible rfl)
          rotate_left; focus (simp only [Act.put, List.setIfInBounds_toArray, List.set_cons_zero, List.set_cons_succ, i64_w, i32_w]; rfl)
          refine one_ (i := 1) (N := some 33) #[true, true, false, true, false, false, false, false, false, false, false, false, false, false, false, false, false, false, false, false, false, false] rfl rfl (one_of HT_.out (by kernel_rfl)) (by decide) (fun K hK => ?_)
          refine goes_ Try.func11 (by kernel_rfl) rfl #[.agg #[.int .i64 a0_0, .int .i64 a0_1, .int .i64 a0_2, .int .i64 a0_3, .int .i64 a0_4, .int .i64 a0_5, .int .i64 a0_6, .int .i64 a0_7, .int .i64 a0_8, .int .i64 a0_9, .int .i64 a0_10, .bool a0_11, .int .i64 a0_12, .int .i64 a0_13, .int .i64 a0_14, .bool a0_15, .int .i64 a0_16, .int .i64 a0_17, .int .i64 a0_18, .int .i64 a0_19, .int .u64 a0_20, .bool a0_21]] (by rfl) rfl rfl (by (try simp only [List.map_toArray, List.map_cons, List.map_nil]); first | done | rfl | (simp only [List.length_drop, List.length_take]; rfl)) ?_
          with_reducible refine (task_Live.calls a0_0 a0_1 a0_2 a0_3 a0_4 a0_5 a0_6 a0_7 a0_8 a0_9 a0_10 a0_11 a0_12 a0_13 a0_14 a0_15 a0_16 a0_17 a0_18 a0_19 a0_20 a0_21 t123 t124 t125 t126 t127 t128 t129 t130 t131 t132 t133 t134 t135 t136 t137 t138 t139 _ A17.out).mono ?_
          rintro e w55 ⟨rfl, hb⟩
          refine ⟨_, rfl, ?_⟩
          have hHeld := Mem.call hHeld hb
          (try clear hb)
          (try clear hb2)
          (try clear hk)
          (try clear hi)
          refine hK.out _ _ hHeld (fun hHeld => ?_)
          clear hK K
          refine norm_ (a' := ?_) ?_ ?_
          rotate_left
          · show Act.put _ (some 33) _ = _
            simp only [Act.put, List.setIfInBounds_toArray, List.set_cons_zero, List.set_cons_succ, i64_w, i32_w]
            rfl
          refine one_ (i := 2) (N := some 34) #[true, true, true, true, false, false, false, false, false, false, false, false, false, false, false, false, false, false, false, false, false, false] rfl rfl (one_of HT_.out (by kernel_rfl)) (by decide) (fun K hK => ?_)
          refine Kd.R_lit_step k38 _ 38 ?hg (N := 34) ?hd (xs := ([(⟨(⟨t123, t124, t125, t126, t127, t128⟩ : S23), (⟨t129, t130, t131, t132, t133, t134, t135, t136⟩ : S25), t137, t138, t139⟩ : S38)] : List (S38))) (inner := [.int .i64 t123, .int .i64 t124, .int .i64 t125, .int .i64 t126, .int .i64 t127, .int .i64 t128, .bool t129, .int .i64 t130, .int .i64 t131, .int .i64 t132, .bool t133, .int .i64 t134, .int .i64 t135, .int .i64 t136, .int .i64 t137, .int .i64 t138, .int .i64 t139]) (ok := fun _ => True) (okp := fun _ => True) ?hr ?hp (fun _ hk => hk) trivial (Below.refl _ _) (Nat.le_refl _) (by simp) ?_; (case hd => rfl); (case hg => rfl); (case hr => first | (go_simp; done) | (go_simp; rfl)); (case hp => exact (Reps.front (show Kd.M k38 _ _ _ (⟨(⟨t123, t124, t125, t126, t127, t128⟩ : S23), (⟨t129, t130, t131, t132, t133, t134, t135, t136⟩ : S25), t137, t138, t139⟩ : S38) [.int .i64 t123, .int .i64 t124, .int .i64 t125, .int .i64 t126, .int .i64 t127, .int .i64 t128, .bool t129, .int .i64 t130, .int .i64 t131, .int .i64 t132, .bool t133, .int .i64 t134, .int .i64 t135, .int .i64 t136, .int .i64 t137, .int .i64 t138, .int .i64 t139] from (k38_mkM _ _ _ (⟨(⟨t123, t124, t125, t126, t127, t128⟩ : S23), (⟨t129, t130, t131, t132, t133, t134, t135, t136⟩ : S25), t137, t138, t139⟩ : S38) )) rfl (Reps.none _ _) rfl))
          intro v141 w56 ho57 hb hg_ hnew_
          clear hg_ hnew_
          (first | rw [← Ny140.out] at ho57 | (simp only [Int.reduceToNat] at ho57; rw [← Ny140.out] at ho57))
          have q0_ := Aside0.mk (Kd.R_lower ho57 (below_size (by exact Mem.below hHeld)))
          have hHeld := Mem.call hHeld hb
          (try clear HO142)
          have HO142 := q0_
          clear q0_
          clear hb ho57
          obtain ⟨Ao58, co58, eo58⟩ := Kd.R_slice HO142.out
          (first | subst eo58 | (injection eo58 with f1_ f2_ f3_; have f4_ := f1_.symm; have f5_ := f3_.symm; clear f1_ f2_ f3_; subst f4_; subst f5_))
          refine hK.out _ _ hHeld (fun hHeld => ?_)
          clear hK K
          refine norm_ (a' := ?_) ?_ ?_
          rotate_left
          · show Act.put _ (some 34) _ = _
            simp only [Act.put, List.setIfInBounds_toArray, List.set_cons_zero, List.set_cons_succ, i64_w, i32_w]
            rfl
          refine one_ (i := 4) (N := some 36) #[true, true, true, true, true, false, false, false, false, false, false, false, false, false, false, false, false, false, false, false, false, false] rfl rfl (one_of HT_.out (by kernel_rfl)) (by decide) (fun K hK => ?_)
          refine goes_ Try.func12 (by kernel_rfl) rfl #[.slice Ao58 y140.length co58, .int .i64 a1] (by rfl) rfl rfl (by (try simp only [List.map_toArray, List.map_cons, List.map_nil]); first | done | rfl | (simp only [List.length_drop, List.length_take]; rfl)) ?_
          with_reducible refine (live_May.calls _ _ y140 a1 false _ ?side1 ?side2 A18.out).mono ?_
          (case side1 => repeat (first | exact (Kd.R_reads' HO142.out).2.2 | (with_reducible refine Kd.C_alloc ?_ _) | (with_reducible refine Kd.C_drewN ?_ _) | (with_reducible refine Kd.C_drew ?_)))
          (case side2 => exact (Kd.R_reads' HO142.out).2.1)
          rintro e w59 ⟨rfl, hb⟩
          refine ⟨_, rfl, ?_⟩
          have q0_ := Aside0.mk (Kd.R_below (by (with_reducible repeat (first | apply Kd.R_alloc | apply Kd.R_drewN | apply Kd.R_drew)); exact HO142.out) hb)
          have hHeld := Mem.call hHeld hb
          (try clear HO142)
          have HO142 := q0_
          clear q0_
          (try clear hb)
          (try clear hb2)
          (try clear hk)
          (try clear hi)
          refine hK.out _ _ hHeld (fun hHeld => ?_)
          clear hK K
          refine norm_ (a' := ?_) ?_ ?_
          rotate_left
          · show Act.put _ (some 36) _ = _
            simp only [Act.put, List.setIfInBounds_toArray, List.set_cons_zero, List.set_cons_succ, i64_w, i32_w]
            rfl
          refine pure_ (i := 5) (N := some 37) (v := ?_) (a' := ?_) #[true, true, true, true, true, true, false, false, false, false, false, false, false, false, false, false, false, false, false, false, false, false] rfl rfl (any_of HT_.out (by kernel_rfl)) (fun _ _ _ h => h) (Or.inl ⟨by rfl, ?_⟩) ?_ ?_
          rotate_left; focus (intro w'; go_simp; with_reducible rfl)
          rotate_left; focus (simp only [Act.put, List.setIfInBounds_toArray, List.set_cons_zero, List.set_cons_succ, i64_w, i32_w]; rfl)
          refine pure_ (i := 6) (N := some 38) (v := undef) (a' := ?_) #[true, true, true, true, true, true, true, false, false, false, false, false, false, false, false, false, false, false, false, false, false, false] rfl rfl (any_of HT_.out (by kernel_rfl)) (fun _ _ _ h => h) (Or.inr ⟨by rfl, rfl⟩) ?_ ?_
          rotate_left; focus (simp only [Act.put, List.setIfInBounds_toArray, List.set_cons_zero, List.set_cons_succ, i64_w, i32_w]; rfl)
          refine pure_ (i := 7) (N := some 39) (v := undef) (a' := ?_) #[true, true, true, true, true, true, true, true, false, false, false, false, false, false, false, false, false, false, false, false, false, false] rfl rfl (any_of HT_.out (by kernel_rfl)) (fun _ _ _ h => h) (Or.inr ⟨by rfl, rfl⟩) ?_ ?_
          rotate_left; focus (simp only [Act.put, List.setIfInBounds_toArray, List.set_cons_zero, List.set_cons_succ, i64_w, i32_w]; rfl)
          refine pure_ (i := 8) (N := some 40) (v := undef) (a' := ?_) #[true, true, true, true, true, true, true, true, true, false, false, false, false, false, false, false, false, false, false, false, false, false] rfl rfl (any_of HT_.out (by kernel_rfl)) (fun _ _ _ h => h) (Or.inr ⟨by rfl, rfl⟩) ?_ ?_
          rotate_left; focus (simp only [Act.put, List.setIfInBounds_toArray, List.set_cons_zero, List.set_cons_succ, i64_w, i32_w]; rfl)
          refine pure_ (i := 9) (N := some 41) (v := undef) (a' := ?_) #[true, true, true, true, true, true, true, true, true, true, false, false, false, false, false, false, false, false, false, false, false, false] rfl rfl (any_of HT_.out (by kernel_rfl)) (fun _ _ _ h => h) (Or.inr ⟨by rfl, rfl⟩) ?_ ?_
          rotate_left; focus (simp only [Act.put, List.setIfInBounds_toArray, List.set_cons_zero, List.set_cons_succ, i64_w, i32_w]; rfl)
          refine pure_ (i := 10) (N := some 42) (v := undef) (a' := ?_) #[true, true, true, true, true, true, true, true, true, true, true, false, false, false, false, false, false, false, false, false, false, false] rfl rfl (any_of HT_.out (by kernel_rfl)) (fun _ _ _ h => h) (Or.inr ⟨by rfl, rfl⟩) ?_ ?_
          rotate_left; focus (simp only [Act.put, List.setIfInBounds_toArray, List.set_cons_zero, List.set_cons_succ, i64_w, i32_w]; rfl)
          refine pure_ (i := 11) (N := some 43) (v := ?_) (a' := ?_) #[true, true, true, true, true, true, true, true, true, true, true, true, false, false, false, false, false, false, false, false, false, false] rfl rfl (any_of HT_.out (by kernel_rfl)) (fun _ _ _ h => h) (Or.inl ⟨by rfl, ?_⟩) ?_ ?_
          rotate_left; focus (intro w'; go_simp; with_reducible rfl)
          rotate_left; focus (simp only [Act.put, List.setIfInBounds_toArray, List.set_cons_zero, List.set_cons_succ, i64_w, i32_w]; rfl)
          refine pure_ (i := 12) (N := some 44) (v := ?_) (a' := ?_) #[true, true, true, true, true, true, true, true, true, true, true, true, true, false, false, false, false, false, false, false, false, false] rfl rfl (any_of HT_.out (by kernel_rfl)) (fun _ _ _ h => h) (Or.inl ⟨by rfl, ?_⟩) ?_ ?_
          rotate_left; focus (intro w'; go_simp; with_reducible rfl)
          rotate_left; focus (simp only [Act.put, List.setIfInBounds_toArray, List.set_cons_zero, List.set_cons_succ, i64_w, i32_w]; rfl)
          refine pure_ (i := 13) (N := some 45) (v := undef) (a' := ?_) #[true, true, true, true, true, true, true, true, true, true, true, true, true, true, false, false, false, false, false, false, false, false] rfl rfl (any_of HT_.out (by kernel_rfl)) (fun _ _ _ h => h) (Or.inr ⟨by rfl, rfl⟩) ?_ ?_
          rotate_left; focus (simp only [Act.put, List.setIfInBounds_toArray, List.set_cons_zero, List.set_cons_succ, i64_w, i32_w]; rfl)
          refine pure_ (i := 14) (N := some 46) (v := undef) (a' := ?_) #[true, true, true, true, true, true, true, true, true, true, true, true, true, true, true, false, false, false, false, false, false, false] rfl rfl (any_of HT_.out (by kernel_rfl)) (fun _ _ _ h => h) (Or.inr ⟨by rfl, rfl⟩) ?_ ?_
          rotate_left; focus (simp only [Act.put, List.setIfInBounds_toArray, List.set_cons_zero, List.set_cons_succ, i64_w, i32_w]; rfl)
          refine pure_ (i := 15) (N := some 47) (v := undef) (a' := ?_) #[true, true, true, true, true, true, true, true, true, true, true, true, true, true, true, true, false, false, false, false, false, false] rfl rfl (any_of HT_.out (by kernel_rfl)) (fun _ _ _ h => h) (Or.inr ⟨by rfl, rfl⟩) ?_ ?_
          rotate_left; focus (simp only [Act.put, List.setIfInBounds_toArray, List.set_cons_zero, List.set_cons_succ, i64_w, i32_w]; rfl)
          refine pure_ (i := 16) (N := some 48) (v := undef) (a' := ?_) #[true, true, true, true, true, true, true, true, true, true, true, true, true, true, true, true, true, false, false, false, false, false] rfl rfl (any_of HT_.out (by kernel_rfl)) (fun _ _ _ h => h) (Or.inr ⟨by rfl, rfl⟩) ?_ ?_
          rotate_left; focus (simp only [Act.put, List.setIfInBounds_toArray, List.set_cons_zero, List.set_cons_succ, i64_w, i32_w]; rfl)
          refine pure_ (i := 17) (N := some 49) (v := undef) (a' := ?_) #[true, true, true, true, true, true, true, true, true, true, true, true, true, true, true, true, true, true, false, false, false, false] rfl rfl (any_of HT_.out (by kernel_rfl)) (fun _ _ _ h => h) (Or.inr ⟨by rfl, rfl⟩) ?_ ?_
          rotate_left; focus (simp only [Act.put, List.setIfInBounds_toArray, List.set_cons_zero, List.set_cons_succ, i64_w, i32_w]; rfl)
          refine pure_ (i := 18) (N := some 50) (v := undef) (a' := ?_) #[true, true, true, true, true, true, true, true, true, true, true, true, true, true, true, true, true, true, true, false, false, false] rfl rfl (any_of HT_.out (by kernel_rfl)) (fun _ _ _ h => h) (Or.inr ⟨by rfl, rfl⟩) ?_ ?_
          rotate_left; focus (simp only [Act.put, List.setIfInBounds_toArray, List.set_cons_zero, List.set_cons_succ, i64_w, i32_w]; rfl)
          refine pure_ (i := 19) (N := some 51) (v := undef) (a' := ?_) #[true, true, true, true, true, true, true, true, true, true, true, true, true, true, true, true, true, true, true, true, false, false] rfl rfl (any_of HT_.out (by kernel_rfl)) (fun _ _ _ h => h) (Or.inr ⟨by rfl, rfl⟩) ?_ ?_
          rotate_left; focus (simp only [Act.put, List.setIfInBounds_toArray, List.set_cons_zero, List.set_cons_succ, i64_w, i32_w]; rfl)
          refine pure_ (i := 20) (N := some 52) (v := ?_) (a' := ?_) #[true, true, true, true, true, true, true, true, true, true, true, true, true, true, true, true, true, true, true, true, true, false] rfl rfl (any_of HT_.out (by kernel_rfl)) (fun _ _ _ h => h) (Or.inl ⟨by rfl, ?_⟩) ?_ ?_
          rotate_left; focus (intro w'; go_simp; with_reducible rfl)
          rotate_left; focus (simp only [Act.put, List.setIfInBounds_toArray, List.set_cons_zero, List.set_cons_succ, i64_w, i32_w]; rfl)
          refine pure_ (i := 21) (N := some 4) (v := ?_) (a' := ?_) #[true, true, true, true, true, true, true, true, true, true, true, true, true, true, true, true, true, true, true, true, true, true] rfl rfl (any_of HT_.out (by kernel_rfl)) (fun _ _ _ h => h) (Or.inl ⟨by rfl, ?_⟩) ?_ ?_
          rotate_left; focus (intro w'; go_simp; with_reducible rfl)
          rotate_left; focus (simp only [Act.put, List.setIfInBounds_toArray, List.set_cons_zero, List.set_cons_succ, i64_w, i32_w]; rfl)
          refine done_ (done_of HT_.out (by kernel_rfl)) ?_
          have M := Aside0.mk hHeld
          try go_wp2_with (first | ((with_reducible refine gate_load rfl ?_); (try (refine gate_guard (by rfl) ?_; dsimp only)); first | (refine mem_load1 (w0 := ?_) (m := ?_) (cs := ?_) (e := ?_) (v := ?_) (g := ?_) (off := ?_) _ _ rfl rfl ?ha ?hp ?hM ?hm ?hv ?_; (case ha => first | exact Try.isAgg3); (case hp => (conv => lhs; whnf); try exact rfl); (case hM => repeat (first | exact M.out | apply Mem.drewN | apply Mem.drew)); (case hm => repeat (first | exact List.Mem.head _ | apply List.Mem.tail)); (case hv => (conv => lhs; whnf); try exact rfl)) | (refine mem_load (w0 := ?_) (m := ?_) (k := ?_) (cs := ?_) (e := ?_) (seg := ?_) (g := ?_) (off := ?_) _ _ rfl rfl ?ha ?hz ?hp ?hM ?hm ?hs ?hl ?_; (case ha => first | exact Try.isAgg23 | exact Try.isAgg25 | exact Try.isAgg28 | exact Try.isAgg30 | exact Try.isAgg51); (case hz => first | exact Try.sizeOf23 | exact Try.sizeOf25 | exact Try.sizeOf28 | exact Try.sizeOf30 | exact Try.sizeOf51); (case hp => (conv => lhs; whnf); try exact rfl); (case hM => repeat (first | exact M.out | apply Mem.drewN | apply Mem.drew)); (case hm => repeat (first | exact List.Mem.head _ | apply List.Mem.tail)); (case hs => simp only [List.take, List.drop]; rfl); (case hl => rfl))) | ((with_reducible refine gate_st rfl ?_); refine mem_store (w0 := ?_) (m := ?_) (m' := ?_) (seg := ?_) (u := ?_) (g := ?_) (off := ?_) _ _ _ rfl rfl rfl ?hp ?hx ?hc ?hz ?h1 ?hM ?hU ?_; (case hM => repeat (first | exact M.out | apply Mem.drewN | apply Mem.drew)); (case hp => (conv => lhs; whnf); try exact rfl); (case hx => (conv => lhs; whnf); try exact rfl); (case hc => simp only [Value.cells, List.toList_toArray]; rfl); (case hz => first | exact Try.sizeOf51); (case h1 => rfl); (case hU => (repeat (first | (refine Upd.head (cs' := ?_) ?hf ?he; (case hf => exact Nat.le_of_ble_eq_true rfl); (case he => simp only [List.take, List.drop, List.length, List.cons_append, List.nil_append, Nat.reduceAdd, Nat.zero_add]; all_goals rfl)) | (refine Upd.tail (r' := ?_) ?_; rotate_left)))); intro W_ M_; have N_ := Aside0.mk M_; clear M M_; have M := N_; clear N_))
          go_ret
          exact ⟨by first | rfl | (simp [errW_none, errW_some] <;> rfl) | (simp [*, errW_none, errW_some] <;> rfl) | (exfalso; contradiction), by exact Mem.below (by repeat (first | exact M.out | apply Mem.drewN | apply Mem.drew))⟩

end Go.Proofs.Ytphonmldcbgklaa.P
