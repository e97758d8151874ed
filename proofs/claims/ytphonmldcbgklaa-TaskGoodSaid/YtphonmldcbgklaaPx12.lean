-- Written by a program of this session (hprint.py), out of the translation; functions that the print does not take are given by hand.
import Derived.Test.YtphonmldcbgklaaPx0
import Derived.Test.YtphonmldcbgklaaPx10
import Derived.Test.YtphonmldcbgklaaPx11
namespace Go.Proofs.Ytphonmldcbgklaa.P
open Go.RowKit Go.Proofs.YtphonmldcbgklaaM Go.Proofs.YtphonmldcbgklaaW.PrintWords Go.Proofs.YtphonmldcbgklaaW.PrintLast Go.Proofs.YtphonmldcbgklaaW.PrintMore
attribute [local go_sem] max2_int min2_int max_two min_two max_three min_three max_four min_four   -- for this text's walks alone
set_option linter.unusedVariables false
set_option linter.unusedSimpArgs false

/-! ### task_Begin: function 9 -/
def task_Begin.j0 : Nat → Int → Int → Bool → Int → Int → Int → Int → Int → Int → Int → Int → Int → Int → Int → Bool → Int → Int → Int → Bool → Int → Int → Int → Int → Int → Bool → Option (Int × Int × Int × Int × Int × Int × Int × Int × Int × Int × Int × Bool × Int × Int × Int × Bool × Int × Int × Int × Int × Int × Bool × Bool)
  | 0, _, _, _, _, _, _, _, _, _, _, _, _, _, _, _, _, _, _, _, _, _, _, _, _, _ => none
  | k + 1, x1, x2, x18, x152000, x152001, x152002, x152003, x152004, x152005, x152006, x152007, x152008, x152009, x152010, x152011, x152012, x152013, x152014, x152015, x152016, x152017, x152018, x152019, x152020, x152021 => if x18 = true then (some (x152000, x152001, x152002, x152003, x152004, x152005, x152006, x152007, x152008, x152009, x152010, x152011, x152012, x152013, x152014, x152015, x152016, x152017, x152018, x152019, x152020, x152021, false)) else ((job_New.f x152001 x152002 x152003 x152004 x152005 x152006 x152010 x1 (wrap64 (x1 + x152008)) x2).bind fun bt153 => (if bt153.2.2.2.2.2.2.2.2 = true then (if x152021 = true then (some (x152000, x152001, x152002, x152003, x152004, x152005, x152006, x152008, x152008, wrap64 (x1 + x152008), wrap64 (x152010 + 1), bt153.1, bt153.2.1, bt153.2.2.1, bt153.2.2.2.1, bt153.2.2.2.2.1, bt153.2.2.2.2.2.1, bt153.2.2.2.2.2.2.1, bt153.2.2.2.2.2.2.2.1, x152019, x152020, decide (x2 ≤ x152001), true)) else (some (x152000, x152001, x152002, x152003, x152004, x152005, x152006, x152008, x152008, wrap64 (x1 + x152008), wrap64 (x152010 + 1), bt153.1, bt153.2.1, bt153.2.2.1, bt153.2.2.2.1, bt153.2.2.2.2.1, bt153.2.2.2.2.2.1, bt153.2.2.2.2.2.2.1, bt153.2.2.2.2.2.2.2.1, x152019, x152020, false, true))) else (some (x152000, x152001, x152002, x152003, x152004, x152005, x152006, x152007, x152008, x152009, x152010, x152011, x152012, x152013, x152014, x152015, x152016, x152017, x152018, x152019, x152020, x152021, false))))
def task_Begin.f (k : Nat) (a0_0 : Int) (a0_1 : Int) (a0_2 : Int) (a0_3 : Int) (a0_4 : Int) (a0_5 : Int) (a0_6 : Int) (a0_7 : Int) (a0_8 : Int) (a0_9 : Int) (a0_10 : Int) (a0_11 : Bool) (a0_12 : Int) (a0_13 : Int) (a0_14 : Int) (a0_15 : Bool) (a0_16 : Int) (a0_17 : Int) (a0_18 : Int) (a0_19 : Int) (a0_20 : Int) (a0_21 : Bool) (a1 : Int) (a2 : Int) : Option (Int × Int × Int × Int × Int × Int × Int × Int × Int × Int × Int × Bool × Int × Int × Int × Bool × Int × Int × Int × Int × Int × Bool × Bool) := if a0_11 = true then (task_Begin.j0 k a1 a2 true a0_0 a0_1 a0_2 a0_3 a0_4 a0_5 a0_6 a0_7 a0_8 a0_9 a0_10 a0_11 a0_12 a0_13 a0_14 a0_15 a0_16 a0_17 a0_18 a0_19 a0_20 a0_21) else (task_Begin.j0 k a1 a2 (a1 != a0_9) a0_0 a0_1 a0_2 a0_3 a0_4 a0_5 a0_6 a0_7 a0_8 a0_9 a0_10 a0_11 a0_12 a0_13 a0_14 a0_15 a0_16 a0_17 a0_18 a0_19 a0_20 a0_21)
theorem task_Begin.mono_l : ∀ k, (∀ y0 y1 y2 y3 y4 y5 y6 y7 y8 y9 y10 y11 y12 y13 y14 y15 y16 y17 y18 y19 y20 y21 y22 y23 y24, LeO (task_Begin.j0 k y0 y1 y2 y3 y4 y5 y6 y7 y8 y9 y10 y11 y12 y13 y14 y15 y16 y17 y18 y19 y20 y21 y22 y23 y24) (task_Begin.j0 (k + 1) y0 y1 y2 y3 y4 y5 y6 y7 y8 y9 y10 y11 y12 y13 y14 y15 y16 y17 y18 y19 y20 y21 y22 y23 y24))
  | 0 => fun _ _ _ _ _ _ _ _ _ _ _ _ _ _ _ _ _ _ _ _ _ _ _ _ _ r h => by simp [task_Begin.j0] at h
  | k + 1 => by
    have ih0 := task_Begin.mono_l k
    · intro y0 y1 y2 y3 y4 y5 y6 y7 y8 y9 y10 y11 y12 y13 y14 y15 y16 y17 y18 y19 y20 y21 y22 y23 y24
      unfold task_Begin.j0
      repeat' first
      | (with_reducible exact ih0 _ _ _ _ _ _ _ _ _ _ _ _ _ _ _ _ _ _ _ _ _ _ _ _ _)
      | (with_reducible exact LeO.refl _)
      | (with_reducible exact LeO.none _)
      | (with_reducible refine LeO.ite ?_ ?_)
      | (with_reducible refine LeO.bind ?_ (fun _ => ?_))
      | exact ih0 _ _ _ _ _ _ _ _ _ _ _ _ _ _ _ _ _ _ _ _ _ _ _ _ _
      | exact LeO.none _
      | refine LeO.ite ?_ ?_
      | refine LeO.bind ?_ (fun _ => ?_)
theorem task_Begin.mono : ∀ a0 a1 a2 a3 a4 a5 a6 a7 a8 a9 a10 a11 a12 a13 a14 a15 a16 a17 a18 a19 a20 a21 a22 a23 k, LeO (task_Begin.f k a0 a1 a2 a3 a4 a5 a6 a7 a8 a9 a10 a11 a12 a13 a14 a15 a16 a17 a18 a19 a20 a21 a22 a23) (task_Begin.f (k + 1) a0 a1 a2 a3 a4 a5 a6 a7 a8 a9 a10 a11 a12 a13 a14 a15 a16 a17 a18 a19 a20 a21 a22 a23) := by
  intro a0 a1 a2 a3 a4 a5 a6 a7 a8 a9 a10 a11 a12 a13 a14 a15 a16 a17 a18 a19 a20 a21 a22 a23 k
  have ih0 := task_Begin.mono_l k
  unfold task_Begin.f
  repeat' first
      | (with_reducible exact ih0 _ _ _ _ _ _ _ _ _ _ _ _ _ _ _ _ _ _ _ _ _ _ _ _ _)
      | (with_reducible exact LeO.refl _)
      | (with_reducible exact LeO.none _)
      | (with_reducible refine LeO.ite ?_ ?_)
      | (with_reducible refine LeO.bind ?_ (fun _ => ?_))
      | exact ih0 _ _ _ _ _ _ _ _ _ _ _ _ _ _ _ _ _ _ _ _ _ _ _ _ _
      | exact LeO.none _
      | refine LeO.ite ?_ ?_
      | refine LeO.bind ?_ (fun _ => ?_)
set_option maxHeartbeats 64000000 in
set_option maxRecDepth 100000 in
theorem task_Begin.calls (k : Nat) (a0_0 : Int) (a0_1 : Int) (a0_2 : Int) (a0_3 : Int) (a0_4 : Int) (a0_5 : Int) (a0_6 : Int) (a0_7 : Int) (a0_8 : Int) (a0_9 : Int) (a0_10 : Int) (a0_11 : Bool) (a0_12 : Int) (a0_13 : Int) (a0_14 : Int) (a0_15 : Bool) (a0_16 : Int) (a0_17 : Int) (a0_18 : Int) (a0_19 : Int) (a0_20 : Int) (a0_21 : Bool) (a1 : Int) (a2 : Int) (r1 : Int) (r2 : Int) (r3 : Int) (r4 : Int) (r5 : Int) (r6 : Int) (r7 : Int) (r8 : Int) (r9 : Int) (r10 : Int) (r11 : Int) (r12 : Bool) (r13 : Int) (r14 : Int) (r15 : Int) (r16 : Bool) (r17 : Int) (r18 : Int) (r19 : Int) (r20 : Int) (r21 : Int) (r22 : Bool) (r23 : Bool) (w : World) (h : task_Begin.f k a0_0 a0_1 a0_2 a0_3 a0_4 a0_5 a0_6 a0_7 a0_8 a0_9 a0_10 a0_11 a0_12 a0_13 a0_14 a0_15 a0_16 a0_17 a0_18 a0_19 a0_20 a0_21 a1 a2 = some (r1, r2, r3, r4, r5, r6, r7, r8, r9, r10, r11, r12, r13, r14, r15, r16, r17, r18, r19, r20, r21, r22, r23)) :
    Calls Try.prog 9 #[.agg #[.int .i64 a0_0, .int .i64 a0_1, .int .i64 a0_2, .int .i64 a0_3, .int .i64 a0_4, .int .i64 a0_5, .int .i64 a0_6, .int .i64 a0_7, .int .i64 a0_8, .int .i64 a0_9, .int .i64 a0_10, .bool a0_11, .int .i64 a0_12, .int .i64 a0_13, .int .i64 a0_14, .bool a0_15, .int .i64 a0_16, .int .i64 a0_17, .int .i64 a0_18, .int .i64 a0_19, .int .u64 a0_20, .bool a0_21], .int .i64 a1, .int .i64 a2] w fun e w' => e = .returned (.tuple #[.agg #[.int .i64 r1, .int .i64 r2, .int .i64 r3, .int .i64 r4, .int .i64 r5, .int .i64 r6, .int .i64 r7, .int .i64 r8, .int .i64 r9, .int .i64 r10, .int .i64 r11, .bool r12, .int .i64 r13, .int .i64 r14, .int .i64 r15, .bool r16, .int .i64 r17, .int .i64 r18, .int .i64 r19, .int .i64 r20, .int .u64 r21, .bool r22], .bool r23]) ∧ Below w.heap.size w w' := by
  have hu30 := Try.underlying30
  have hu23 := Try.underlying23
  have hu25 := Try.underlying25
  have M := Aside0.mk (Mem.nil w)
  have H : (if a0_11 = true then (task_Begin.j0 k a1 a2 true a0_0 a0_1 a0_2 a0_3 a0_4 a0_5 a0_6 a0_7 a0_8 a0_9 a0_10 a0_11 a0_12 a0_13 a0_14 a0_15 a0_16 a0_17 a0_18 a0_19 a0_20 a0_21) else (task_Begin.j0 k a1 a2 (a1 != a0_9) a0_0 a0_1 a0_2 a0_3 a0_4 a0_5 a0_6 a0_7 a0_8 a0_9 a0_10 a0_11 a0_12 a0_13 a0_14 a0_15 a0_16 a0_17 a0_18 a0_19 a0_20 a0_21)) = some (r1, r2, r3, r4, r5, r6, r7, r8, r9, r10, r11, r12, r13, r14, r15, r16, r17, r18, r19, r20, r21, r22, r23) := h
  clear h
  have HC4 := Aside0.mk H
  clear H
  go_enter Try.func9, Try.ntmps9
  go_upto_region 1 with (first | ((with_reducible refine gate_dst (N := 3) rfl ?_); (try (refine gate_guard (by rfl) ?_; dsimp only)); (refine mem_box (w0 := ?_) (m := ?_) (cs := ?_) (u := ?_) 30 _ rfl rfl ?hx ?hc ?hM ?_; (case hM => exact M.out); (case hx => (conv => lhs; whnf); try exact rfl); (case hc => simp only [Value.cells, List.toList_toArray]; rfl)); intro gb151 W_ M_; have N_ := Aside0.mk M_; clear M M_; have M := N_; clear N_) | ((with_reducible refine gate_dst (N := 6) rfl ?_); (try (refine gate_guard (by rfl) ?_; dsimp only)); (refine mem_alloc (w0 := ?_) (m := ?_) (cs := ?_) 30 rfl rfl Try.zeroValue30 ?hc ?hM ?_; (case hM => exact M.out); (case hc => simp only [Value.cells, List.toList_toArray]; rfl)); intro gb152 W_ M_; have N_ := Aside0.mk M_; clear M M_; have M := N_; clear N_) | ((with_reducible refine gate_load rfl ?_); (try (refine gate_guard (by rfl) ?_; dsimp only)); first | (refine mem_load1 (w0 := ?_) (m := ?_) (cs := ?_) (e := ?_) (v := ?_) (g := ?_) (off := ?_) _ _ rfl rfl ?ha ?hp ?hM ?hm ?hv ?_; (case ha => first | exact Try.isAgg3 | exact Try.isAgg4); (case hp => (conv => lhs; whnf); try exact rfl); (case hM => exact M.out); (case hm => repeat (first | exact List.Mem.head _ | apply List.Mem.tail)); (case hv => (conv => lhs; whnf); try exact rfl)) | (refine mem_load (w0 := ?_) (m := ?_) (k := ?_) (cs := ?_) (e := ?_) (seg := ?_) (g := ?_) (off := ?_) _ _ rfl rfl ?ha ?hz ?hp ?hM ?hm ?hs ?hl ?_; (case ha => first | exact Try.isAgg23 | exact Try.isAgg25 | exact Try.isAgg30); (case hz => first | exact Try.sizeOf23 | exact Try.sizeOf25 | exact Try.sizeOf30); (case hp => (conv => lhs; whnf); try exact rfl); (case hM => exact M.out); (case hm => repeat (first | exact List.Mem.head _ | apply List.Mem.tail)); (case hs => simp only [List.take, List.drop]; rfl); (case hl => rfl))) | ((with_reducible refine gate_st rfl ?_); refine mem_store (w0 := ?_) (m := ?_) (m' := ?_) (seg := ?_) (u := ?_) (g := ?_) (off := ?_) _ _ _ rfl rfl rfl ?hp ?hx ?hc ?hz ?h1 ?hM ?hU ?_; (case hM => exact M.out); (case hp => (conv => lhs; whnf); try exact rfl); (case hx => (conv => lhs; whnf); try exact rfl); (case hc => simp only [Value.cells, List.toList_toArray]; rfl); (case hz => first | exact Try.sizeOf3 | exact Try.sizeOf4 | exact Try.sizeOf25 | exact Try.sizeOf30); (case h1 => rfl); (case hU => (repeat (first | (refine Upd.head (cs' := ?_) ?hf ?he; (case hf => exact Nat.le_of_ble_eq_true rfl); (case he => simp only [List.take, List.drop, List.length, List.cons_append, List.nil_append, Nat.reduceAdd, Nat.zero_add]; all_goals rfl)) | (refine Upd.tail (r' := ?_) ?_; rotate_left)))); intro W_ M_; have N_ := Aside0.mk M_; clear M M_; have M := N_; clear N_))
  (try simp only [Act.put, List.setIfInBounds_toArray, List.set_cons_zero, List.set_cons_succ])
  go_cut [18] (fun v18 wc => ∃ (kq : Nat) (x18_3 : Bool), v18 = .bool x18_3 ∧ Aside0 (task_Begin.j0 kq a1 a2 x18_3 a0_0 a0_1 a0_2 a0_3 a0_4 a0_5 a0_6 a0_7 a0_8 a0_9 a0_10 a0_11 a0_12 a0_13 a0_14 a0_15 a0_16 a0_17 a0_18 a0_19 a0_20 a0_21 = some (r1, r2, r3, r4, r5, r6, r7, r8, r9, r10, r11, r12, r13, r14, r15, r16, r17, r18, r19, r20, r21, r22, r23)) ∧ Aside0 (kq ≤ k) ∧ Aside0 (Mem w wc [(gb152, [.int .i64 0, .int .i64 0, .int .i64 0, .int .i64 0, .int .i64 0, .int .i64 0, .int .i64 0, .int .i64 0, .int .i64 0, .int .i64 0, .int .i64 0, .bool false, .int .i64 0, .int .i64 0, .int .i64 0, .bool false, .int .i64 0, .int .i64 0, .int .i64 0, .int .i64 0, .int .u64 0, .bool false], 30), (gb151, [.int .i64 a0_0, .int .i64 a0_1, .int .i64 a0_2, .int .i64 a0_3, .int .i64 a0_4, .int .i64 a0_5, .int .i64 a0_6, .int .i64 a0_7, .int .i64 a0_8, .int .i64 a0_9, .int .i64 a0_10, .bool a0_11, .int .i64 a0_12, .int .i64 a0_13, .int .i64 a0_14, .bool a0_15, .int .i64 a0_16, .int .i64 a0_17, .int .i64 a0_18, .int .i64 a0_19, .int .u64 a0_20, .bool a0_21], 30)]))
  case first =>
    have H := HC4.out
    clear HC4
    by_cases c7 : a0_11 = true
    · subst c7
      rw [if_pos rfl] at H
      have H' := Aside0.mk H
      clear H
      go_wp2_with (first | ((with_reducible refine gate_load rfl ?_); (try (refine gate_guard (by rfl) ?_; dsimp only)); first | (refine mem_load1 (w0 := ?_) (m := ?_) (cs := ?_) (e := ?_) (v := ?_) (g := ?_) (off := ?_) _ _ rfl rfl ?ha ?hp ?hM ?hm ?hv ?_; (case ha => first | exact Try.isAgg3 | exact Try.isAgg4); (case hp => (conv => lhs; whnf); try exact rfl); (case hM => exact M.out); (case hm => repeat (first | exact List.Mem.head _ | apply List.Mem.tail)); (case hv => (conv => lhs; whnf); try exact rfl)) | (refine mem_load (w0 := ?_) (m := ?_) (k := ?_) (cs := ?_) (e := ?_) (seg := ?_) (g := ?_) (off := ?_) _ _ rfl rfl ?ha ?hz ?hp ?hM ?hm ?hs ?hl ?_; (case ha => first | exact Try.isAgg23 | exact Try.isAgg25 | exact Try.isAgg30); (case hz => first | exact Try.sizeOf23 | exact Try.sizeOf25 | exact Try.sizeOf30); (case hp => (conv => lhs; whnf); try exact rfl); (case hM => exact M.out); (case hm => repeat (first | exact List.Mem.head _ | apply List.Mem.tail)); (case hs => simp only [List.take, List.drop]; rfl); (case hl => rfl))) | ((with_reducible refine gate_st rfl ?_); refine mem_store (w0 := ?_) (m := ?_) (m' := ?_) (seg := ?_) (u := ?_) (g := ?_) (off := ?_) _ _ _ rfl rfl rfl ?hp ?hx ?hc ?hz ?h1 ?hM ?hU ?_; (case hM => exact M.out); (case hp => (conv => lhs; whnf); try exact rfl); (case hx => (conv => lhs; whnf); try exact rfl); (case hc => simp only [Value.cells, List.toList_toArray]; rfl); (case hz => first | exact Try.sizeOf3 | exact Try.sizeOf4 | exact Try.sizeOf25 | exact Try.sizeOf30); (case h1 => rfl); (case hU => (repeat (first | (refine Upd.head (cs' := ?_) ?hf ?he; (case hf => exact Nat.le_of_ble_eq_true rfl); (case he => simp only [List.take, List.drop, List.length, List.cons_append, List.nil_append, Nat.reduceAdd, Nat.zero_add]; all_goals rfl)) | (refine Upd.tail (r' := ?_) ?_; rotate_left)))); intro W_ M_; have N_ := Aside0.mk M_; clear M M_; have M := N_; clear N_))
      go_meet
      case rel => exact ⟨_, (true), (by first | rfl | (simp; done) | (simp [*]; done)), H', ⟨by first | omega | exact Nat.le_refl _⟩, M⟩
    · replace c7 := Bool.eq_false_iff.mpr c7
      subst c7
      rw [if_neg (show ¬ (false = true) by decide)] at H
      have H' := Aside0.mk H
      clear H
      go_wp2_with (first | ((with_reducible refine gate_load rfl ?_); (try (refine gate_guard (by rfl) ?_; dsimp only)); first | (refine mem_load1 (w0 := ?_) (m := ?_) (cs := ?_) (e := ?_) (v := ?_) (g := ?_) (off := ?_) _ _ rfl rfl ?ha ?hp ?hM ?hm ?hv ?_; (case ha => first | exact Try.isAgg3 | exact Try.isAgg4); (case hp => (conv => lhs; whnf); try exact rfl); (case hM => exact M.out); (case hm => repeat (first | exact List.Mem.head _ | apply List.Mem.tail)); (case hv => (conv => lhs; whnf); try exact rfl)) | (refine mem_load (w0 := ?_) (m := ?_) (k := ?_) (cs := ?_) (e := ?_) (seg := ?_) (g := ?_) (off := ?_) _ _ rfl rfl ?ha ?hz ?hp ?hM ?hm ?hs ?hl ?_; (case ha => first | exact Try.isAgg23 | exact Try.isAgg25 | exact Try.isAgg30); (case hz => first | exact Try.sizeOf23 | exact Try.sizeOf25 | exact Try.sizeOf30); (case hp => (conv => lhs; whnf); try exact rfl); (case hM => exact M.out); (case hm => repeat (first | exact List.Mem.head _ | apply List.Mem.tail)); (case hs => simp only [List.take, List.drop]; rfl); (case hl => rfl))) | ((with_reducible refine gate_st rfl ?_); refine mem_store (w0 := ?_) (m := ?_) (m' := ?_) (seg := ?_) (u := ?_) (g := ?_) (off := ?_) _ _ _ rfl rfl rfl ?hp ?hx ?hc ?hz ?h1 ?hM ?hU ?_; (case hM => exact M.out); (case hp => (conv => lhs; whnf); try exact rfl); (case hx => (conv => lhs; whnf); try exact rfl); (case hc => simp only [Value.cells, List.toList_toArray]; rfl); (case hz => first | exact Try.sizeOf3 | exact Try.sizeOf4 | exact Try.sizeOf25 | exact Try.sizeOf30); (case h1 => rfl); (case hU => (repeat (first | (refine Upd.head (cs' := ?_) ?hf ?he; (case hf => exact Nat.le_of_ble_eq_true rfl); (case he => simp only [List.take, List.drop, List.length, List.cons_append, List.nil_append, Nat.reduceAdd, Nat.zero_add]; all_goals rfl)) | (refine Upd.tail (r' := ?_) ?_; rotate_left)))); intro W_ M_; have N_ := Aside0.mk M_; clear M M_; have M := N_; clear N_))
      go_meet
      case rel => exact ⟨_, ((a1 != a0_9)), (by first | rfl | (simp; done) | (simp [*]; done)), H', ⟨by first | omega | exact Nat.le_refl _⟩, M⟩
  case rest =>
    clear HC4
    try clear c1
    try clear p2
    try clear c7
    try clear c8
    try clear c9
    try clear c10
    obtain ⟨kq, x18_3, rfl, HA, HJ3, M⟩ := hcut
    cases kq with
    | zero => exact absurd HA.out (by simp [task_Begin.j0])
    | succ kj3 =>
      have H := HA.out
      clear HA
      simp only [task_Begin.j0] at H
      by_cases c12 : x18_3 = true
      · subst c12
        rw [if_pos rfl] at H
        simp only [Option.some.injEq, Prod.mk.injEq] at H
        obtain ⟨rfl, rfl, rfl, rfl, rfl, rfl, rfl, rfl, rfl, rfl, rfl, rfl, rfl, rfl, rfl, rfl, rfl, rfl, rfl, rfl, rfl, rfl, rfl⟩ := H
        go_wp2_with (first | ((with_reducible refine gate_load rfl ?_); (try (refine gate_guard (by rfl) ?_; dsimp only)); first | (refine mem_load1 (w0 := ?_) (m := ?_) (cs := ?_) (e := ?_) (v := ?_) (g := ?_) (off := ?_) _ _ rfl rfl ?ha ?hp ?hM ?hm ?hv ?_; (case ha => first | exact Try.isAgg3 | exact Try.isAgg4); (case hp => (conv => lhs; whnf); try exact rfl); (case hM => exact M.out); (case hm => repeat (first | exact List.Mem.head _ | apply List.Mem.tail)); (case hv => (conv => lhs; whnf); try exact rfl)) | (refine mem_load (w0 := ?_) (m := ?_) (k := ?_) (cs := ?_) (e := ?_) (seg := ?_) (g := ?_) (off := ?_) _ _ rfl rfl ?ha ?hz ?hp ?hM ?hm ?hs ?hl ?_; (case ha => first | exact Try.isAgg23 | exact Try.isAgg25 | exact Try.isAgg30); (case hz => first | exact Try.sizeOf23 | exact Try.sizeOf25 | exact Try.sizeOf30); (case hp => (conv => lhs; whnf); try exact rfl); (case hM => exact M.out); (case hm => repeat (first | exact List.Mem.head _ | apply List.Mem.tail)); (case hs => simp only [List.take, List.drop]; rfl); (case hl => rfl))) | ((with_reducible refine gate_st rfl ?_); refine mem_store (w0 := ?_) (m := ?_) (m' := ?_) (seg := ?_) (u := ?_) (g := ?_) (off := ?_) _ _ _ rfl rfl rfl ?hp ?hx ?hc ?hz ?h1 ?hM ?hU ?_; (case hM => exact M.out); (case hp => (conv => lhs; whnf); try exact rfl); (case hx => (conv => lhs; whnf); try exact rfl); (case hc => simp only [Value.cells, List.toList_toArray]; rfl); (case hz => first | exact Try.sizeOf3 | exact Try.sizeOf4 | exact Try.sizeOf25 | exact Try.sizeOf30); (case h1 => rfl); (case hU => (repeat (first | (refine Upd.head (cs' := ?_) ?hf ?he; (case hf => exact Nat.le_of_ble_eq_true rfl); (case he => simp only [List.take, List.drop, List.length, List.cons_append, List.nil_append, Nat.reduceAdd, Nat.zero_add]; all_goals rfl)) | (refine Upd.tail (r' := ?_) ?_; rotate_left)))); intro W_ M_; have N_ := Aside0.mk M_; clear M M_; have M := N_; clear N_))
        refine mem_end2 (w0 := ?_) (m := ?_) (g := ?_) (cs := ?_) (e := ?_) (v := ?_) rfl Try.isAgg30 Try.sizeOf30 ?hp ?hv ?hM ?hm ?hl rfl ?_; (case hp => rfl); (case hv => rfl); (case hM => exact M.out); (case hm => repeat (first | exact List.Mem.head _ | apply List.Mem.tail)); (case hl => rfl)
        exact ⟨by first | rfl | (simp [errW_none, errW_some] <;> rfl) | (simp [*, errW_none, errW_some] <;> rfl) | (exfalso; contradiction), by exact Mem.below (by repeat (first | exact M.out | apply Mem.drewN | apply Mem.drew))⟩
      · replace c12 := Bool.eq_false_iff.mpr c12
        subst c12
        rw [if_neg (show ¬ (false = true) by decide)] at H
        replace H := Option.bind_eq_some_iff.mp H
        obtain ⟨⟨t153, t154, t155, t156, t157, t158, t159, t160, t161⟩, A160, H⟩ := H
        try dsimp only at H
        have A16 := Aside0.mk A160
        clear A160
        by_cases c17 : t161 = true
        · subst c17
          rw [if_pos rfl] at H
          by_cases c18 : a0_21 = true
          · subst c18
            rw [if_pos rfl] at H
            simp only [Option.some.injEq, Prod.mk.injEq] at H
            obtain ⟨rfl, rfl, rfl, rfl, rfl, rfl, rfl, rfl, rfl, rfl, rfl, rfl, rfl, rfl, rfl, rfl, rfl, rfl, rfl, rfl, rfl, rfl, rfl⟩ := H
            go_wp2_with (first | ((with_reducible refine gate_callee (f := 21) rfl ?_); refine goesL_ (some 31) rfl rfl Try.func21 (by kernel_rfl) rfl #[.agg #[.int .i64 a0_1, .int .i64 a0_2, .int .i64 a0_3, .int .i64 a0_4, .int .i64 a0_5, .int .i64 a0_6], .int .i64 a0_10, .int .i64 a1, .int .i64 (wrap64 (a1 + a0_8)), .int .i64 a2] rfl (by (try simp only [List.map_toArray, List.map_cons, List.map_nil]); first | done | rfl | (simp only [List.length_drop, List.length_take]; rfl)) ?_; (with_reducible refine (job_New.calls a0_1 a0_2 a0_3 a0_4 a0_5 a0_6 a0_10 a1 (wrap64 (a1 + a0_8)) a2 t153 t154 t155 t156 t157 t158 t159 t160 true _ A16.out).mono ?_); rintro e w21 ⟨rfl, hb⟩; refine ⟨_, rfl, ?_⟩; have N_ := Aside0.mk (Mem.call (by repeat (first | exact M.out | apply Mem.drewN | apply Mem.drew)) hb); clear M; have M := N_; clear N_; (try clear hb); (try clear hb2); (try clear hk); (try clear hi)) | ((with_reducible refine gate_dst (N := 8) rfl ?_); (try (refine gate_guard (by rfl) ?_; dsimp only)); (refine mem_alloc (w0 := ?_) (m := ?_) (cs := ?_) 25 rfl rfl Try.zeroValue25 ?hc ?hM ?_; (case hM => exact M.out); (case hc => simp only [Value.cells, List.toList_toArray]; rfl)); intro gb162 W_ M_; have N_ := Aside0.mk M_; clear M M_; have M := N_; clear N_) | ((with_reducible refine gate_load rfl ?_); (try (refine gate_guard (by rfl) ?_; dsimp only)); first | (refine mem_load1 (w0 := ?_) (m := ?_) (cs := ?_) (e := ?_) (v := ?_) (g := ?_) (off := ?_) _ _ rfl rfl ?ha ?hp ?hM ?hm ?hv ?_; (case ha => first | exact Try.isAgg3 | exact Try.isAgg4); (case hp => (conv => lhs; whnf); try exact rfl); (case hM => exact M.out); (case hm => repeat (first | exact List.Mem.head _ | apply List.Mem.tail)); (case hv => (conv => lhs; whnf); try exact rfl)) | (refine mem_load (w0 := ?_) (m := ?_) (k := ?_) (cs := ?_) (e := ?_) (seg := ?_) (g := ?_) (off := ?_) _ _ rfl rfl ?ha ?hz ?hp ?hM ?hm ?hs ?hl ?_; (case ha => first | exact Try.isAgg23 | exact Try.isAgg25 | exact Try.isAgg30); (case hz => first | exact Try.sizeOf23 | exact Try.sizeOf25 | exact Try.sizeOf30); (case hp => (conv => lhs; whnf); try exact rfl); (case hM => exact M.out); (case hm => repeat (first | exact List.Mem.head _ | apply List.Mem.tail)); (case hs => simp only [List.take, List.drop]; rfl); (case hl => rfl))) | ((with_reducible refine gate_st rfl ?_); refine mem_store (w0 := ?_) (m := ?_) (m' := ?_) (seg := ?_) (u := ?_) (g := ?_) (off := ?_) _ _ _ rfl rfl rfl ?hp ?hx ?hc ?hz ?h1 ?hM ?hU ?_; (case hM => exact M.out); (case hp => (conv => lhs; whnf); try exact rfl); (case hx => (conv => lhs; whnf); try exact rfl); (case hc => simp only [Value.cells, List.toList_toArray]; rfl); (case hz => first | exact Try.sizeOf3 | exact Try.sizeOf4 | exact Try.sizeOf25 | exact Try.sizeOf30); (case h1 => rfl); (case hU => (repeat (first | (refine Upd.head (cs' := ?_) ?hf ?he; (case hf => exact Nat.le_of_ble_eq_true rfl); (case he => simp only [List.take, List.drop, List.length, List.cons_append, List.nil_append, Nat.reduceAdd, Nat.zero_add]; all_goals rfl)) | (refine Upd.tail (r' := ?_) ?_; rotate_left)))); intro W_ M_; have N_ := Aside0.mk M_; clear M M_; have M := N_; clear N_))
            refine mem_end2 (w0 := ?_) (m := ?_) (g := ?_) (cs := ?_) (e := ?_) (v := ?_) rfl Try.isAgg30 Try.sizeOf30 ?hp ?hv ?hM ?hm ?hl rfl ?_; (case hp => rfl); (case hv => rfl); (case hM => exact M.out); (case hm => repeat (first | exact List.Mem.head _ | apply List.Mem.tail)); (case hl => rfl)
            exact ⟨by first | rfl | (simp [errW_none, errW_some] <;> rfl) | (simp [*, errW_none, errW_some] <;> rfl) | (exfalso; contradiction), by exact Mem.below (by repeat (first | exact M.out | apply Mem.drewN | apply Mem.drew))⟩
          · replace c18 := Bool.eq_false_iff.mpr c18
            subst c18
            rw [if_neg (show ¬ (false = true) by decide)] at H
            simp only [Option.some.injEq, Prod.mk.injEq] at H
            obtain ⟨rfl, rfl, rfl, rfl, rfl, rfl, rfl, rfl, rfl, rfl, rfl, rfl, rfl, rfl, rfl, rfl, rfl, rfl, rfl, rfl, rfl, rfl, rfl⟩ := H
            go_wp2_with (first | ((with_reducible refine gate_callee (f := 21) rfl ?_); refine goesL_ (some 31) rfl rfl Try.func21 (by kernel_rfl) rfl #[.agg #[.int .i64 a0_1, .int .i64 a0_2, .int .i64 a0_3, .int .i64 a0_4, .int .i64 a0_5, .int .i64 a0_6], .int .i64 a0_10, .int .i64 a1, .int .i64 (wrap64 (a1 + a0_8)), .int .i64 a2] rfl (by (try simp only [List.map_toArray, List.map_cons, List.map_nil]); first | done | rfl | (simp only [List.length_drop, List.length_take]; rfl)) ?_; (with_reducible refine (job_New.calls a0_1 a0_2 a0_3 a0_4 a0_5 a0_6 a0_10 a1 (wrap64 (a1 + a0_8)) a2 t153 t154 t155 t156 t157 t158 t159 t160 true _ A16.out).mono ?_); rintro e w30 ⟨rfl, hb⟩; refine ⟨_, rfl, ?_⟩; have N_ := Aside0.mk (Mem.call (by repeat (first | exact M.out | apply Mem.drewN | apply Mem.drew)) hb); clear M; have M := N_; clear N_; (try clear hb); (try clear hb2); (try clear hk); (try clear hi)) | ((with_reducible refine gate_dst (N := 8) rfl ?_); (try (refine gate_guard (by rfl) ?_; dsimp only)); (refine mem_alloc (w0 := ?_) (m := ?_) (cs := ?_) 25 rfl rfl Try.zeroValue25 ?hc ?hM ?_; (case hM => exact M.out); (case hc => simp only [Value.cells, List.toList_toArray]; rfl)); intro gb162 W_ M_; have N_ := Aside0.mk M_; clear M M_; have M := N_; clear N_) | ((with_reducible refine gate_load rfl ?_); (try (refine gate_guard (by rfl) ?_; dsimp only)); first | (refine mem_load1 (w0 := ?_) (m := ?_) (cs := ?_) (e := ?_) (v := ?_) (g := ?_) (off := ?_) _ _ rfl rfl ?ha ?hp ?hM ?hm ?hv ?_; (case ha => first | exact Try.isAgg3 | exact Try.isAgg4); (case hp => (conv => lhs; whnf); try exact rfl); (case hM => exact M.out); (case hm => repeat (first | exact List.Mem.head _ | apply List.Mem.tail)); (case hv => (conv => lhs; whnf); try exact rfl)) | (refine mem_load (w0 := ?_) (m := ?_) (k := ?_) (cs := ?_) (e := ?_) (seg := ?_) (g := ?_) (off := ?_) _ _ rfl rfl ?ha ?hz ?hp ?hM ?hm ?hs ?hl ?_; (case ha => first | exact Try.isAgg23 | exact Try.isAgg25 | exact Try.isAgg30); (case hz => first | exact Try.sizeOf23 | exact Try.sizeOf25 | exact Try.sizeOf30); (case hp => (conv => lhs; whnf); try exact rfl); (case hM => exact M.out); (case hm => repeat (first | exact List.Mem.head _ | apply List.Mem.tail)); (case hs => simp only [List.take, List.drop]; rfl); (case hl => rfl))) | ((with_reducible refine gate_st rfl ?_); refine mem_store (w0 := ?_) (m := ?_) (m' := ?_) (seg := ?_) (u := ?_) (g := ?_) (off := ?_) _ _ _ rfl rfl rfl ?hp ?hx ?hc ?hz ?h1 ?hM ?hU ?_; (case hM => exact M.out); (case hp => (conv => lhs; whnf); try exact rfl); (case hx => (conv => lhs; whnf); try exact rfl); (case hc => simp only [Value.cells, List.toList_toArray]; rfl); (case hz => first | exact Try.sizeOf3 | exact Try.sizeOf4 | exact Try.sizeOf25 | exact Try.sizeOf30); (case h1 => rfl); (case hU => (repeat (first | (refine Upd.head (cs' := ?_) ?hf ?he; (case hf => exact Nat.le_of_ble_eq_true rfl); (case he => simp only [List.take, List.drop, List.length, List.cons_append, List.nil_append, Nat.reduceAdd, Nat.zero_add]; all_goals rfl)) | (refine Upd.tail (r' := ?_) ?_; rotate_left)))); intro W_ M_; have N_ := Aside0.mk M_; clear M M_; have M := N_; clear N_))
            refine mem_end2 (w0 := ?_) (m := ?_) (g := ?_) (cs := ?_) (e := ?_) (v := ?_) rfl Try.isAgg30 Try.sizeOf30 ?hp ?hv ?hM ?hm ?hl rfl ?_; (case hp => rfl); (case hv => rfl); (case hM => exact M.out); (case hm => repeat (first | exact List.Mem.head _ | apply List.Mem.tail)); (case hl => rfl)
            exact ⟨by first | rfl | (simp [errW_none, errW_some] <;> rfl) | (simp [*, errW_none, errW_some] <;> rfl) | (exfalso; contradiction), by exact Mem.below (by repeat (first | exact M.out | apply Mem.drewN | apply Mem.drew))⟩
        · replace c17 := Bool.eq_false_iff.mpr c17
          subst c17
          rw [if_neg (show ¬ (false = true) by decide)] at H
          simp only [Option.some.injEq, Prod.mk.injEq] at H
          obtain ⟨rfl, rfl, rfl, rfl, rfl, rfl, rfl, rfl, rfl, rfl, rfl, rfl, rfl, rfl, rfl, rfl, rfl, rfl, rfl, rfl, rfl, rfl, rfl⟩ := H
          go_wp2_with (first | ((with_reducible refine gate_callee (f := 21) rfl ?_); refine goesL_ (some 31) rfl rfl Try.func21 (by kernel_rfl) rfl #[.agg #[.int .i64 a0_1, .int .i64 a0_2, .int .i64 a0_3, .int .i64 a0_4, .int .i64 a0_5, .int .i64 a0_6], .int .i64 a0_10, .int .i64 a1, .int .i64 (wrap64 (a1 + a0_8)), .int .i64 a2] rfl (by (try simp only [List.map_toArray, List.map_cons, List.map_nil]); first | done | rfl | (simp only [List.length_drop, List.length_take]; rfl)) ?_; (with_reducible refine (job_New.calls a0_1 a0_2 a0_3 a0_4 a0_5 a0_6 a0_10 a1 (wrap64 (a1 + a0_8)) a2 t153 t154 t155 t156 t157 t158 t159 t160 false _ A16.out).mono ?_); rintro e w39 ⟨rfl, hb⟩; refine ⟨_, rfl, ?_⟩; have N_ := Aside0.mk (Mem.call (by repeat (first | exact M.out | apply Mem.drewN | apply Mem.drew)) hb); clear M; have M := N_; clear N_; (try clear hb); (try clear hb2); (try clear hk); (try clear hi)) | ((with_reducible refine gate_dst (N := 8) rfl ?_); (try (refine gate_guard (by rfl) ?_; dsimp only)); (refine mem_alloc (w0 := ?_) (m := ?_) (cs := ?_) 25 rfl rfl Try.zeroValue25 ?hc ?hM ?_; (case hM => exact M.out); (case hc => simp only [Value.cells, List.toList_toArray]; rfl)); intro gb162 W_ M_; have N_ := Aside0.mk M_; clear M M_; have M := N_; clear N_) | ((with_reducible refine gate_load rfl ?_); (try (refine gate_guard (by rfl) ?_; dsimp only)); first | (refine mem_load1 (w0 := ?_) (m := ?_) (cs := ?_) (e := ?_) (v := ?_) (g := ?_) (off := ?_) _ _ rfl rfl ?ha ?hp ?hM ?hm ?hv ?_; (case ha => first | exact Try.isAgg3 | exact Try.isAgg4); (case hp => (conv => lhs; whnf); try exact rfl); (case hM => exact M.out); (case hm => repeat (first | exact List.Mem.head _ | apply List.Mem.tail)); (case hv => (conv => lhs; whnf); try exact rfl)) | (refine mem_load (w0 := ?_) (m := ?_) (k := ?_) (cs := ?_) (e := ?_) (seg := ?_) (g := ?_) (off := ?_) _ _ rfl rfl ?ha ?hz ?hp ?hM ?hm ?hs ?hl ?_; (case ha => first | exact Try.isAgg23 | exact Try.isAgg25 | exact Try.isAgg30); (case hz => first | exact Try.sizeOf23 | exact Try.sizeOf25 | exact Try.sizeOf30); (case hp => (conv => lhs; whnf); try exact rfl); (case hM => exact M.out); (case hm => repeat (first | exact List.Mem.head _ | apply List.Mem.tail)); (case hs => simp only [List.take, List.drop]; rfl); (case hl => rfl))) | ((with_reducible refine gate_st rfl ?_); refine mem_store (w0 := ?_) (m := ?_) (m' := ?_) (seg := ?_) (u := ?_) (g := ?_) (off := ?_) _ _ _ rfl rfl rfl ?hp ?hx ?hc ?hz ?h1 ?hM ?hU ?_; (case hM => exact M.out); (case hp => (conv => lhs; whnf); try exact rfl); (case hx => (conv => lhs; whnf); try exact rfl); (case hc => simp only [Value.cells, List.toList_toArray]; rfl); (case hz => first | exact Try.sizeOf3 | exact Try.sizeOf4 | exact Try.sizeOf25 | exact Try.sizeOf30); (case h1 => rfl); (case hU => (repeat (first | (refine Upd.head (cs' := ?_) ?hf ?he; (case hf => exact Nat.le_of_ble_eq_true rfl); (case he => simp only [List.take, List.drop, List.length, List.cons_append, List.nil_append, Nat.reduceAdd, Nat.zero_add]; all_goals rfl)) | (refine Upd.tail (r' := ?_) ?_; rotate_left)))); intro W_ M_; have N_ := Aside0.mk M_; clear M M_; have M := N_; clear N_))
          refine mem_end2 (w0 := ?_) (m := ?_) (g := ?_) (cs := ?_) (e := ?_) (v := ?_) rfl Try.isAgg30 Try.sizeOf30 ?hp ?hv ?hM ?hm ?hl rfl ?_; (case hp => rfl); (case hv => rfl); (case hM => exact M.out); (case hm => repeat (first | exact List.Mem.head _ | apply List.Mem.tail)); (case hl => rfl)
          exact ⟨by first | rfl | (simp [errW_none, errW_some] <;> rfl) | (simp [*, errW_none, errW_some] <;> rfl) | (exfalso; contradiction), by exact Mem.below (by repeat (first | exact M.out | apply Mem.drewN | apply Mem.drew))⟩

/-! ### task_New: function 16 -/
def task_New.f (k : Nat) (a0 : Int) (a1_0 : Int) (a1_1 : Int) (a1_2 : Int) (a1_3 : Int) (a1_4 : Int) (a1_5 : Int) (a2 : Int) (a3 : Int) : Option (Int × Int × Int × Int × Int × Int × Int × Int × Int × Int × Int × Bool × Int × Int × Int × Bool × Int × Int × Int × Int × Int × Bool × Bool) := (task_May.f k a0 a1_0 a1_1 a1_2 a1_3 a1_4 a1_5 a2 a2 a3 0 false 0 0 0 false 0 0 0 0 0 true a3).bind fun t166 => (if t166 = true then (some (a0, a1_0, a1_1, a1_2, a1_3, a1_4, a1_5, a2, a2, a3, 0, false, 0, 0, 0, false, 0, 0, 0, 0, 0, true, true)) else (some (0, 0, 0, 0, 0, 0, 0, 0, 0, 0, 0, false, 0, 0, 0, false, 0, 0, 0, 0, 0, false, false)))
theorem task_New.mono : ∀ a0 a1 a2 a3 a4 a5 a6 a7 a8 k, LeO (task_New.f k a0 a1 a2 a3 a4 a5 a6 a7 a8) (task_New.f (k + 1) a0 a1 a2 a3 a4 a5 a6 a7 a8) := by
  intro a0 a1 a2 a3 a4 a5 a6 a7 a8 k
  unfold task_New.f
  repeat' first
      | (with_reducible exact task_May.mono _ _ _ _ _ _ _ _ _ _ _ _ _ _ _ _ _ _ _ _ _ _ _ _)
      | (with_reducible exact LeO.refl _)
      | (with_reducible exact LeO.none _)
      | (with_reducible refine LeO.ite ?_ ?_)
      | (with_reducible refine LeO.bind ?_ (fun _ => ?_))
      | exact task_May.mono _ _ _ _ _ _ _ _ _ _ _ _ _ _ _ _ _ _ _ _ _ _ _ _
      | exact LeO.none _
      | refine LeO.ite ?_ ?_
      | refine LeO.bind ?_ (fun _ => ?_)
set_option maxHeartbeats 8000000 in
set_option maxRecDepth 100000 in
theorem task_New.calls (k : Nat) (a0 : Int) (a1_0 : Int) (a1_1 : Int) (a1_2 : Int) (a1_3 : Int) (a1_4 : Int) (a1_5 : Int) (a2 : Int) (a3 : Int) (r1 : Int) (r2 : Int) (r3 : Int) (r4 : Int) (r5 : Int) (r6 : Int) (r7 : Int) (r8 : Int) (r9 : Int) (r10 : Int) (r11 : Int) (r12 : Bool) (r13 : Int) (r14 : Int) (r15 : Int) (r16 : Bool) (r17 : Int) (r18 : Int) (r19 : Int) (r20 : Int) (r21 : Int) (r22 : Bool) (r23 : Bool) (w : World) (h : task_New.f k a0 a1_0 a1_1 a1_2 a1_3 a1_4 a1_5 a2 a3 = some (r1, r2, r3, r4, r5, r6, r7, r8, r9, r10, r11, r12, r13, r14, r15, r16, r17, r18, r19, r20, r21, r22, r23)) :
    Calls Try.prog 16 #[.int .i64 a0, .agg #[.int .i64 a1_0, .int .i64 a1_1, .int .i64 a1_2, .int .i64 a1_3, .int .i64 a1_4, .int .i64 a1_5], .int .i64 a2, .int .i64 a3] w fun e w' => e = .returned (.tuple #[.agg #[.int .i64 r1, .int .i64 r2, .int .i64 r3, .int .i64 r4, .int .i64 r5, .int .i64 r6, .int .i64 r7, .int .i64 r8, .int .i64 r9, .int .i64 r10, .int .i64 r11, .bool r12, .int .i64 r13, .int .i64 r14, .int .i64 r15, .bool r16, .int .i64 r17, .int .i64 r18, .int .i64 r19, .int .i64 r20, .int .u64 r21, .bool r22], .bool r23]) ∧ Below w.heap.size w w' := by
  have hu23 := Try.underlying23
  have hu30 := Try.underlying30
  have M := Aside0.mk (Mem.nil w)
  have H : ((task_May.f k a0 a1_0 a1_1 a1_2 a1_3 a1_4 a1_5 a2 a2 a3 0 false 0 0 0 false 0 0 0 0 0 true a3).bind fun t166 => (if t166 = true then (some (a0, a1_0, a1_1, a1_2, a1_3, a1_4, a1_5, a2, a2, a3, 0, false, 0, 0, 0, false, 0, 0, 0, 0, 0, true, true)) else (some (0, 0, 0, 0, 0, 0, 0, 0, 0, 0, 0, false, 0, 0, 0, false, 0, 0, 0, 0, 0, false, false)))) = some (r1, r2, r3, r4, r5, r6, r7, r8, r9, r10, r11, r12, r13, r14, r15, r16, r17, r18, r19, r20, r21, r22, r23) := h
  clear h
  replace H := Option.bind_eq_some_iff.mp H
  obtain ⟨t166, A50, H⟩ := H
  try dsimp only at H
  have A5 := Aside0.mk A50
  clear A50
  by_cases c6 : t166 = true
  · subst c6
    rw [if_pos rfl] at H
    simp only [Option.some.injEq, Prod.mk.injEq] at H
    obtain ⟨rfl, rfl, rfl, rfl, rfl, rfl, rfl, rfl, rfl, rfl, rfl, rfl, rfl, rfl, rfl, rfl, rfl, rfl, rfl, rfl, rfl, rfl, rfl⟩ := H
    go_enter Try.func16, Try.ntmps16
    go_wp2_with (first | ((with_reducible refine gate_dst (N := 5) rfl ?_); (refine mem_box (w0 := ?_) (m := ?_) (cs := ?_) (u := ?_) 23 _ rfl rfl ?hx ?hc ?hM ?_; (case hM => exact M.out); (case hx => (conv => lhs; whnf); try exact rfl); (case hc => simp only [Value.cells, List.toList_toArray]; rfl)); intro gb163 W_ M_; have N_ := Aside0.mk M_; clear M M_; have M := N_; clear N_) | ((with_reducible refine gate_dst (N := 8) rfl ?_); (refine mem_alloc (w0 := ?_) (m := ?_) (cs := ?_) 30 rfl rfl Try.zeroValue30 ?hc ?hM ?_; (case hM => exact M.out); (case hc => simp only [Value.cells, List.toList_toArray]; rfl)); intro gb164 W_ M_; have N_ := Aside0.mk M_; clear M M_; have M := N_; clear N_) | ((with_reducible refine gate_dst (N := 10) rfl ?_); (refine mem_alloc (w0 := ?_) (m := ?_) (cs := ?_) 30 rfl rfl Try.zeroValue30 ?hc ?hM ?_; (case hM => exact M.out); (case hc => simp only [Value.cells, List.toList_toArray]; rfl)); intro gb165 W_ M_; have N_ := Aside0.mk M_; clear M M_; have M := N_; clear N_) | ((with_reducible refine gate_callee (f := 8) rfl ?_); refine goesL_ (some 19) rfl rfl Try.func8 (by kernel_rfl) rfl #[.agg #[.int .i64 a0, .int .i64 a1_0, .int .i64 a1_1, .int .i64 a1_2, .int .i64 a1_3, .int .i64 a1_4, .int .i64 a1_5, .int .i64 a2, .int .i64 a2, .int .i64 a3, .int .i64 0, .bool false, .int .i64 0, .int .i64 0, .int .i64 0, .bool false, .int .i64 0, .int .i64 0, .int .i64 0, .int .i64 0, .int .u64 0, .bool true], .int .i64 a3] rfl (by (try simp only [List.map_toArray, List.map_cons, List.map_nil]); first | done | rfl | (simp only [List.length_drop, List.length_take]; rfl)) ?_; (with_reducible refine (task_May.calls k a0 a1_0 a1_1 a1_2 a1_3 a1_4 a1_5 a2 a2 a3 0 false 0 0 0 false 0 0 0 0 0 true a3 true _ A5.out).mono ?_); rintro e w15 ⟨rfl, hb⟩; refine ⟨_, rfl, ?_⟩; have N_ := Aside0.mk (Mem.call (by repeat (first | exact M.out | apply Mem.drewN | apply Mem.drew)) hb); clear M; have M := N_; clear N_; (try clear hb); (try clear hb2); (try clear hk); (try clear hi)) | ((with_reducible refine gate_load rfl ?_); first | (refine mem_load (w0 := ?_) (m := ?_) (k := ?_) (cs := ?_) (e := ?_) (seg := ?_) (g := ?_) (off := ?_) _ _ rfl rfl ?ha ?hz ?hp ?hM ?hm ?hs ?hl ?_; (case ha => first | exact Try.isAgg23 | exact Try.isAgg30); (case hz => first | exact Try.sizeOf23 | exact Try.sizeOf30); (case hp => (conv => lhs; whnf); try exact rfl); (case hM => exact M.out); (case hm => repeat (first | exact List.Mem.head _ | apply List.Mem.tail)); (case hs => simp only [List.take, List.drop]; rfl); (case hl => rfl))) | ((with_reducible refine gate_st rfl ?_); refine mem_store (w0 := ?_) (m := ?_) (m' := ?_) (seg := ?_) (u := ?_) (g := ?_) (off := ?_) _ _ _ rfl rfl rfl ?hp ?hx ?hc ?hz ?h1 ?hM ?hU ?_; (case hM => exact M.out); (case hp => (conv => lhs; whnf); try exact rfl); (case hx => (conv => lhs; whnf); try exact rfl); (case hc => simp only [Value.cells, List.toList_toArray]; rfl); (case hz => first | exact Try.sizeOf30); (case h1 => rfl); (case hU => (repeat (first | (refine Upd.head (cs' := ?_) ?hf ?he; (case hf => exact Nat.le_of_ble_eq_true rfl); (case he => simp only [List.take, List.drop, List.length, List.cons_append, List.nil_append, Nat.reduceAdd, Nat.zero_add]; all_goals rfl)) | (refine Upd.tail (r' := ?_) ?_; rotate_left)))); intro W_ M_; have N_ := Aside0.mk M_; clear M M_; have M := N_; clear N_))
    refine mem_end2 (w0 := ?_) (m := ?_) (g := ?_) (cs := ?_) (e := ?_) (v := ?_) rfl Try.isAgg30 Try.sizeOf30 ?hp ?hv ?hM ?hm ?hl rfl ?_; (case hp => rfl); (case hv => rfl); (case hM => exact M.out); (case hm => repeat (first | exact List.Mem.head _ | apply List.Mem.tail)); (case hl => rfl)
    exact ⟨by first | rfl | (simp [errW_none, errW_some] <;> rfl) | (simp [*, errW_none, errW_some] <;> rfl) | (exfalso; contradiction), by exact Mem.below (by repeat (first | exact M.out | apply Mem.drewN | apply Mem.drew))⟩
  · replace c6 := Bool.eq_false_iff.mpr c6
    subst c6
    rw [if_neg (show ¬ (false = true) by decide)] at H
    simp only [Option.some.injEq, Prod.mk.injEq] at H
    obtain ⟨rfl, rfl, rfl, rfl, rfl, rfl, rfl, rfl, rfl, rfl, rfl, rfl, rfl, rfl, rfl, rfl, rfl, rfl, rfl, rfl, rfl, rfl, rfl⟩ := H
    go_enter Try.func16, Try.ntmps16
    go_wp2_with (first | ((with_reducible refine gate_dst (N := 5) rfl ?_); (refine mem_box (w0 := ?_) (m := ?_) (cs := ?_) (u := ?_) 23 _ rfl rfl ?hx ?hc ?hM ?_; (case hM => exact M.out); (case hx => (conv => lhs; whnf); try exact rfl); (case hc => simp only [Value.cells, List.toList_toArray]; rfl)); intro gb163 W_ M_; have N_ := Aside0.mk M_; clear M M_; have M := N_; clear N_) | ((with_reducible refine gate_dst (N := 8) rfl ?_); (refine mem_alloc (w0 := ?_) (m := ?_) (cs := ?_) 30 rfl rfl Try.zeroValue30 ?hc ?hM ?_; (case hM => exact M.out); (case hc => simp only [Value.cells, List.toList_toArray]; rfl)); intro gb164 W_ M_; have N_ := Aside0.mk M_; clear M M_; have M := N_; clear N_) | ((with_reducible refine gate_dst (N := 10) rfl ?_); (refine mem_alloc (w0 := ?_) (m := ?_) (cs := ?_) 30 rfl rfl Try.zeroValue30 ?hc ?hM ?_; (case hM => exact M.out); (case hc => simp only [Value.cells, List.toList_toArray]; rfl)); intro gb165 W_ M_; have N_ := Aside0.mk M_; clear M M_; have M := N_; clear N_) | ((with_reducible refine gate_callee (f := 8) rfl ?_); refine goesL_ (some 19) rfl rfl Try.func8 (by kernel_rfl) rfl #[.agg #[.int .i64 a0, .int .i64 a1_0, .int .i64 a1_1, .int .i64 a1_2, .int .i64 a1_3, .int .i64 a1_4, .int .i64 a1_5, .int .i64 a2, .int .i64 a2, .int .i64 a3, .int .i64 0, .bool false, .int .i64 0, .int .i64 0, .int .i64 0, .bool false, .int .i64 0, .int .i64 0, .int .i64 0, .int .i64 0, .int .u64 0, .bool true], .int .i64 a3] rfl (by (try simp only [List.map_toArray, List.map_cons, List.map_nil]); first | done | rfl | (simp only [List.length_drop, List.length_take]; rfl)) ?_; (with_reducible refine (task_May.calls k a0 a1_0 a1_1 a1_2 a1_3 a1_4 a1_5 a2 a2 a3 0 false 0 0 0 false 0 0 0 0 0 true a3 false _ A5.out).mono ?_); rintro e w26 ⟨rfl, hb⟩; refine ⟨_, rfl, ?_⟩; have N_ := Aside0.mk (Mem.call (by repeat (first | exact M.out | apply Mem.drewN | apply Mem.drew)) hb); clear M; have M := N_; clear N_; (try clear hb); (try clear hb2); (try clear hk); (try clear hi)) | ((with_reducible refine gate_load rfl ?_); first | (refine mem_load (w0 := ?_) (m := ?_) (k := ?_) (cs := ?_) (e := ?_) (seg := ?_) (g := ?_) (off := ?_) _ _ rfl rfl ?ha ?hz ?hp ?hM ?hm ?hs ?hl ?_; (case ha => first | exact Try.isAgg23 | exact Try.isAgg30); (case hz => first | exact Try.sizeOf23 | exact Try.sizeOf30); (case hp => (conv => lhs; whnf); try exact rfl); (case hM => exact M.out); (case hm => repeat (first | exact List.Mem.head _ | apply List.Mem.tail)); (case hs => simp only [List.take, List.drop]; rfl); (case hl => rfl))) | ((with_reducible refine gate_st rfl ?_); refine mem_store (w0 := ?_) (m := ?_) (m' := ?_) (seg := ?_) (u := ?_) (g := ?_) (off := ?_) _ _ _ rfl rfl rfl ?hp ?hx ?hc ?hz ?h1 ?hM ?hU ?_; (case hM => exact M.out); (case hp => (conv => lhs; whnf); try exact rfl); (case hx => (conv => lhs; whnf); try exact rfl); (case hc => simp only [Value.cells, List.toList_toArray]; rfl); (case hz => first | exact Try.sizeOf30); (case h1 => rfl); (case hU => (repeat (first | (refine Upd.head (cs' := ?_) ?hf ?he; (case hf => exact Nat.le_of_ble_eq_true rfl); (case he => simp only [List.take, List.drop, List.length, List.cons_append, List.nil_append, Nat.reduceAdd, Nat.zero_add]; all_goals rfl)) | (refine Upd.tail (r' := ?_) ?_; rotate_left)))); intro W_ M_; have N_ := Aside0.mk M_; clear M M_; have M := N_; clear N_))
    refine mem_end2 (w0 := ?_) (m := ?_) (g := ?_) (cs := ?_) (e := ?_) (v := ?_) rfl Try.isAgg30 Try.sizeOf30 ?hp ?hv ?hM ?hm ?hl rfl ?_; (case hp => rfl); (case hv => rfl); (case hM => exact M.out); (case hm => repeat (first | exact List.Mem.head _ | apply List.Mem.tail)); (case hl => rfl)
    exact ⟨by first | rfl | (simp [errW_none, errW_some] <;> rfl) | (simp [*, errW_none, errW_some] <;> rfl) | (exfalso; contradiction), by exact Mem.below (by repeat (first | exact M.out | apply Mem.drewN | apply Mem.drew))⟩

/-! ### fuseelaw05_One: function 17 -/
def fuseelaw05_One.f  : Option (Int × Int × Int × Int × Int × Int) := some (2, 10, 20, 1, 2, 3)
set_option maxHeartbeats 8000000 in
set_option maxRecDepth 100000 in
theorem fuseelaw05_One.calls  (r1 : Int) (r2 : Int) (r3 : Int) (r4 : Int) (r5 : Int) (r6 : Int) (w : World) (h : fuseelaw05_One.f  = some (r1, r2, r3, r4, r5, r6)) :
    Calls Try.prog 17 #[] w fun e w' => e = .returned (.agg #[.int .i64 r1, .int .i64 r2, .int .i64 r3, .int .i64 r4, .int .i64 r5, .int .i64 r6]) ∧ Below w.heap.size w w' := by
  have hu23 := Try.underlying23
  have M := Aside0.mk (Mem.nil w)
  have H : (some (2, 10, 20, 1, 2, 3)) = some (r1, r2, r3, r4, r5, r6) := h
  clear h
  simp only [Option.some.injEq, Prod.mk.injEq] at H
  obtain ⟨rfl, rfl, rfl, rfl, rfl, rfl⟩ := H
  go_enter Try.func17, Try.ntmps17
  go_wp2_with (first | ((with_reducible refine gate_dst (N := 0) rfl ?_); (refine mem_alloc (w0 := ?_) (m := ?_) (cs := ?_) 23 rfl rfl Try.zeroValue23 ?hc ?hM ?_; (case hM => exact M.out); (case hc => simp only [Value.cells, List.toList_toArray]; rfl)); intro gb167 W_ M_; have N_ := Aside0.mk M_; clear M M_; have M := N_; clear N_) | ((with_reducible refine gate_st rfl ?_); refine mem_store (w0 := ?_) (m := ?_) (m' := ?_) (seg := ?_) (u := ?_) (g := ?_) (off := ?_) _ _ _ rfl rfl rfl ?hp ?hx ?hc ?hz ?h1 ?hM ?hU ?_; (case hM => exact M.out); (case hp => (conv => lhs; whnf); try exact rfl); (case hx => (conv => lhs; whnf); try exact rfl); (case hc => simp only [Value.cells, List.toList_toArray]; rfl); (case hz => first | exact Try.sizeOf23); (case h1 => rfl); (case hU => (repeat (first | (refine Upd.head (cs' := ?_) ?hf ?he; (case hf => exact Nat.le_of_ble_eq_true rfl); (case he => simp only [List.take, List.drop, List.length, List.cons_append, List.nil_append, Nat.reduceAdd, Nat.zero_add]; all_goals rfl)) | (refine Upd.tail (r' := ?_) ?_; rotate_left)))); intro W_ M_; have N_ := Aside0.mk M_; clear M M_; have M := N_; clear N_))
  refine mem_end1 (w0 := ?_) (m := ?_) (g := ?_) (cs := ?_) (e := ?_) rfl Try.isAgg23 Try.sizeOf23 ?hp ?hM ?hm ?hl rfl ?_; (case hp => rfl); (case hM => exact M.out); (case hm => repeat (first | exact List.Mem.head _ | apply List.Mem.tail)); (case hl => rfl)
  exact ⟨by first | rfl | (simp [errW_none, errW_some] <;> rfl) | (simp [*, errW_none, errW_some] <;> rfl) | (exfalso; contradiction), by exact Mem.below (by repeat (first | exact M.out | apply Mem.drewN | apply Mem.drew))⟩

/-! ### fuseelaw15_awake: function 7 -/
def fuseelaw15_awake.f (k : Nat)  : Option (Bool) := (fuseelaw05_One.f).bind fun bt168 => ((task_New.f k 3 bt168.1 bt168.2.1 bt168.2.2.1 bt168.2.2.2.1 bt168.2.2.2.2.1 bt168.2.2.2.2.2 10 5).bind fun bt174 => ((task_Begin.f k bt174.1 bt174.2.1 bt174.2.2.1 bt174.2.2.2.1 bt174.2.2.2.2.1 bt174.2.2.2.2.2.1 bt174.2.2.2.2.2.2.1 bt174.2.2.2.2.2.2.2.1 bt174.2.2.2.2.2.2.2.2.1 bt174.2.2.2.2.2.2.2.2.2.1 bt174.2.2.2.2.2.2.2.2.2.2.1 bt174.2.2.2.2.2.2.2.2.2.2.2.1 bt174.2.2.2.2.2.2.2.2.2.2.2.2.1 bt174.2.2.2.2.2.2.2.2.2.2.2.2.2.1 bt174.2.2.2.2.2.2.2.2.2.2.2.2.2.2.1 bt174.2.2.2.2.2.2.2.2.2.2.2.2.2.2.2.1 bt174.2.2.2.2.2.2.2.2.2.2.2.2.2.2.2.2.1 bt174.2.2.2.2.2.2.2.2.2.2.2.2.2.2.2.2.2.1 bt174.2.2.2.2.2.2.2.2.2.2.2.2.2.2.2.2.2.2.1 bt174.2.2.2.2.2.2.2.2.2.2.2.2.2.2.2.2.2.2.2.1 bt174.2.2.2.2.2.2.2.2.2.2.2.2.2.2.2.2.2.2.2.2.1 bt174.2.2.2.2.2.2.2.2.2.2.2.2.2.2.2.2.2.2.2.2.2.1 5 2).bind fun bt198 => (if bt174.2.2.2.2.2.2.2.2.2.2.2.2.2.2.2.2.2.2.2.2.2.2 = true then ((task_May.f k bt174.1 bt174.2.1 bt174.2.2.1 bt174.2.2.2.1 bt174.2.2.2.2.1 bt174.2.2.2.2.2.1 bt174.2.2.2.2.2.2.1 bt174.2.2.2.2.2.2.2.1 bt174.2.2.2.2.2.2.2.2.1 bt174.2.2.2.2.2.2.2.2.2.1 bt174.2.2.2.2.2.2.2.2.2.2.1 bt174.2.2.2.2.2.2.2.2.2.2.2.1 bt174.2.2.2.2.2.2.2.2.2.2.2.2.1 bt174.2.2.2.2.2.2.2.2.2.2.2.2.2.1 bt174.2.2.2.2.2.2.2.2.2.2.2.2.2.2.1 bt174.2.2.2.2.2.2.2.2.2.2.2.2.2.2.2.1 bt174.2.2.2.2.2.2.2.2.2.2.2.2.2.2.2.2.1 bt174.2.2.2.2.2.2.2.2.2.2.2.2.2.2.2.2.2.1 bt174.2.2.2.2.2.2.2.2.2.2.2.2.2.2.2.2.2.2.1 bt174.2.2.2.2.2.2.2.2.2.2.2.2.2.2.2.2.2.2.2.1 bt174.2.2.2.2.2.2.2.2.2.2.2.2.2.2.2.2.2.2.2.2.1 bt174.2.2.2.2.2.2.2.2.2.2.2.2.2.2.2.2.2.2.2.2.2.1 5).bind fun t222 => (if t222 = true then (if bt198.2.2.2.2.2.2.2.2.2.2.2.2.2.2.2.2.2.2.2.2.2.2 = true then (if bt198.2.2.2.2.2.2.2.2.2.2.2.1 = true then (if bt198.2.2.2.2.2.2.2.2.2.2.2.2.1 = 0 then (if bt198.2.2.2.2.2.2.2.2.2.2.2.2.2.2.1 = 15 then (if bt198.2.2.2.2.2.2.2.2.2.1 = 15 then (some (bt198.2.2.2.2.2.2.2.2.2.2.1 == 1)) else (none)) else (none)) else (none)) else (none)) else (none)) else (none))) else (none))))
theorem fuseelaw15_awake.mono : ∀ k, LeO (fuseelaw15_awake.f k ) (fuseelaw15_awake.f (k + 1) ) := by
  intro  k
  unfold fuseelaw15_awake.f
  repeat' first
      | (with_reducible exact task_Begin.mono _ _ _ _ _ _ _ _ _ _ _ _ _ _ _ _ _ _ _ _ _ _ _ _ _)
      | (with_reducible exact task_May.mono _ _ _ _ _ _ _ _ _ _ _ _ _ _ _ _ _ _ _ _ _ _ _ _)
      | (with_reducible exact task_New.mono _ _ _ _ _ _ _ _ _ _)
      | (with_reducible exact LeO.refl _)
      | (with_reducible exact LeO.none _)
      | (with_reducible refine LeO.ite ?_ ?_)
      | (with_reducible refine LeO.bind ?_ (fun _ => ?_))
      | exact task_Begin.mono _ _ _ _ _ _ _ _ _ _ _ _ _ _ _ _ _ _ _ _ _ _ _ _ _
      | exact task_May.mono _ _ _ _ _ _ _ _ _ _ _ _ _ _ _ _ _ _ _ _ _ _ _ _
      | exact task_New.mono _ _ _ _ _ _ _ _ _ _
      | exact LeO.none _
      | refine LeO.ite ?_ ?_
      | refine LeO.bind ?_ (fun _ => ?_)
set_option maxHeartbeats 8000000 in
set_option maxRecDepth 100000 in
theorem fuseelaw15_awake.calls (k : Nat)  (r : Bool) (w : World) (h : fuseelaw15_awake.f k  = some r) :
    Calls Try.prog 7 #[] w fun e w' => e = .returned (.bool r) ∧ Below w.heap.size w w' := by
  have hu30 := Try.underlying30
  have M := Aside0.mk (Mem.nil w)
  have H : ((fuseelaw05_One.f).bind fun bt168 => ((task_New.f k 3 bt168.1 bt168.2.1 bt168.2.2.1 bt168.2.2.2.1 bt168.2.2.2.2.1 bt168.2.2.2.2.2 10 5).bind fun bt174 => ((task_Begin.f k bt174.1 bt174.2.1 bt174.2.2.1 bt174.2.2.2.1 bt174.2.2.2.2.1 bt174.2.2.2.2.2.1 bt174.2.2.2.2.2.2.1 bt174.2.2.2.2.2.2.2.1 bt174.2.2.2.2.2.2.2.2.1 bt174.2.2.2.2.2.2.2.2.2.1 bt174.2.2.2.2.2.2.2.2.2.2.1 bt174.2.2.2.2.2.2.2.2.2.2.2.1 bt174.2.2.2.2.2.2.2.2.2.2.2.2.1 bt174.2.2.2.2.2.2.2.2.2.2.2.2.2.1 bt174.2.2.2.2.2.2.2.2.2.2.2.2.2.2.1 bt174.2.2.2.2.2.2.2.2.2.2.2.2.2.2.2.1 bt174.2.2.2.2.2.2.2.2.2.2.2.2.2.2.2.2.1 bt174.2.2.2.2.2.2.2.2.2.2.2.2.2.2.2.2.2.1 bt174.2.2.2.2.2.2.2.2.2.2.2.2.2.2.2.2.2.2.1 bt174.2.2.2.2.2.2.2.2.2.2.2.2.2.2.2.2.2.2.2.1 bt174.2.2.2.2.2.2.2.2.2.2.2.2.2.2.2.2.2.2.2.2.1 bt174.2.2.2.2.2.2.2.2.2.2.2.2.2.2.2.2.2.2.2.2.2.1 5 2).bind fun bt198 => (if bt174.2.2.2.2.2.2.2.2.2.2.2.2.2.2.2.2.2.2.2.2.2.2 = true then ((task_May.f k bt174.1 bt174.2.1 bt174.2.2.1 bt174.2.2.2.1 bt174.2.2.2.2.1 bt174.2.2.2.2.2.1 bt174.2.2.2.2.2.2.1 bt174.2.2.2.2.2.2.2.1 bt174.2.2.2.2.2.2.2.2.1 bt174.2.2.2.2.2.2.2.2.2.1 bt174.2.2.2.2.2.2.2.2.2.2.1 bt174.2.2.2.2.2.2.2.2.2.2.2.1 bt174.2.2.2.2.2.2.2.2.2.2.2.2.1 bt174.2.2.2.2.2.2.2.2.2.2.2.2.2.1 bt174.2.2.2.2.2.2.2.2.2.2.2.2.2.2.1 bt174.2.2.2.2.2.2.2.2.2.2.2.2.2.2.2.1 bt174.2.2.2.2.2.2.2.2.2.2.2.2.2.2.2.2.1 bt174.2.2.2.2.2.2.2.2.2.2.2.2.2.2.2.2.2.1 bt174.2.2.2.2.2.2.2.2.2.2.2.2.2.2.2.2.2.2.1 bt174.2.2.2.2.2.2.2.2.2.2.2.2.2.2.2.2.2.2.2.1 bt174.2.2.2.2.2.2.2.2.2.2.2.2.2.2.2.2.2.2.2.2.1 bt174.2.2.2.2.2.2.2.2.2.2.2.2.2.2.2.2.2.2.2.2.2.1 5).bind fun t222 => (if t222 = true then (if bt198.2.2.2.2.2.2.2.2.2.2.2.2.2.2.2.2.2.2.2.2.2.2 = true then (if bt198.2.2.2.2.2.2.2.2.2.2.2.1 = true then (if bt198.2.2.2.2.2.2.2.2.2.2.2.2.1 = 0 then (if bt198.2.2.2.2.2.2.2.2.2.2.2.2.2.2.1 = 15 then (if bt198.2.2.2.2.2.2.2.2.2.1 = 15 then (some (bt198.2.2.2.2.2.2.2.2.2.2.1 == 1)) else (none)) else (none)) else (none)) else (none)) else (none)) else (none))) else (none))))) = some r := h
  clear h
  replace H := Option.bind_eq_some_iff.mp H
  obtain ⟨⟨t168, t169, t170, t171, t172, t173⟩, A10, H⟩ := H
  try dsimp only at H
  have A1 := Aside0.mk A10
  clear A10
  replace H := Option.bind_eq_some_iff.mp H
  obtain ⟨⟨t174, t175, t176, t177, t178, t179, t180, t181, t182, t183, t184, t185, t186, t187, t188, t189, t190, t191, t192, t193, t194, t195, t196⟩, A20, H⟩ := H
  try dsimp only at H
  have A2 := Aside0.mk A20
  clear A20
  replace H := Option.bind_eq_some_iff.mp H
  obtain ⟨⟨t198, t199, t200, t201, t202, t203, t204, t205, t206, t207, t208, t209, t210, t211, t212, t213, t214, t215, t216, t217, t218, t219, t220⟩, A30, H⟩ := H
  try dsimp only at H
  have A3 := Aside0.mk A30
  clear A30
  by_cases c4 : t196 = true
  · subst c4
    rw [if_pos rfl] at H
    replace H := Option.bind_eq_some_iff.mp H
    obtain ⟨t222, A50, H⟩ := H
    try dsimp only at H
    have A5 := Aside0.mk A50
    clear A50
    by_cases c6 : t222 = true
    · subst c6
      rw [if_pos rfl] at H
      by_cases c7 : t220 = true
      · subst c7
        rw [if_pos rfl] at H
        by_cases c8 : t209 = true
        · subst c8
          rw [if_pos rfl] at H
          by_cases c9 : t210 = 0
          · rw [if_pos c9] at H
            have c9b0 : (t210 == 0) = true := beq_iff_eq.mpr c9
            have c9b1 : (t210 != 0) = false := bne_eq_false_iff_eq.mpr c9
            clear c9
            by_cases c10 : t212 = 15
            · rw [if_pos c10] at H
              have c10b0 : (t212 == 15) = true := beq_iff_eq.mpr c10
              have c10b1 : (t212 != 15) = false := bne_eq_false_iff_eq.mpr c10
              clear c10
              by_cases c11 : t207 = 15
              · rw [if_pos c11] at H
                have c11b0 : (t207 == 15) = true := beq_iff_eq.mpr c11
                have c11b1 : (t207 != 15) = false := bne_eq_false_iff_eq.mpr c11
                clear c11
                obtain rfl := Option.some.inj H
                go_enter Try.func7, Try.ntmps7
                go_wp2_with (first | ((with_reducible refine gate_callee (f := 17) rfl ?_); refine goesL_ (some 6) rfl rfl Try.func17 (by kernel_rfl) rfl #[] rfl (by (try simp only [List.map_toArray, List.map_cons, List.map_nil]); first | done | rfl | (simp only [List.length_drop, List.length_take]; rfl)) ?_; (with_reducible refine (fuseelaw05_One.calls  t168 t169 t170 t171 t172 t173 _ A1.out).mono ?_); rintro e w12 ⟨rfl, hb⟩; refine ⟨_, rfl, ?_⟩; have N_ := Aside0.mk (Mem.call (by repeat (first | exact M.out | apply Mem.drewN | apply Mem.drew)) hb); clear M; have M := N_; clear N_; (try clear hb); (try clear hb2); (try clear hk); (try clear hi)) | ((with_reducible refine gate_callee (f := 16) rfl ?_); refine goesL_ (some 7) rfl rfl Try.func16 (by kernel_rfl) rfl #[.int .i64 3, .agg #[.int .i64 t168, .int .i64 t169, .int .i64 t170, .int .i64 t171, .int .i64 t172, .int .i64 t173], .int .i64 10, .int .i64 5] rfl (by (try simp only [List.map_toArray, List.map_cons, List.map_nil]); first | done | rfl | (simp only [List.length_drop, List.length_take]; rfl)) ?_; (with_reducible refine (task_New.calls k 3 t168 t169 t170 t171 t172 t173 10 5 t174 t175 t176 t177 t178 t179 t180 t181 t182 t183 t184 t185 t186 t187 t188 t189 t190 t191 t192 t193 t194 t195 true _ A2.out).mono ?_); rintro e w13 ⟨rfl, hb⟩; refine ⟨_, rfl, ?_⟩; have N_ := Aside0.mk (Mem.call (by repeat (first | exact M.out | apply Mem.drewN | apply Mem.drew)) hb); clear M; have M := N_; clear N_; (try clear hb); (try clear hb2); (try clear hk); (try clear hi)) | ((with_reducible refine gate_dst (N := 1) rfl ?_); (try (refine gate_guard (by rfl) ?_; dsimp only)); (refine mem_alloc (w0 := ?_) (m := ?_) (cs := ?_) 30 rfl rfl Try.zeroValue30 ?hc ?hM ?_; (case hM => exact M.out); (case hc => simp only [Value.cells, List.toList_toArray]; rfl)); intro gb197 W_ M_; have N_ := Aside0.mk M_; clear M M_; have M := N_; clear N_) | ((with_reducible refine gate_callee (f := 9) rfl ?_); refine goesL_ (some 12) rfl rfl Try.func9 (by kernel_rfl) rfl #[.agg #[.int .i64 t174, .int .i64 t175, .int .i64 t176, .int .i64 t177, .int .i64 t178, .int .i64 t179, .int .i64 t180, .int .i64 t181, .int .i64 t182, .int .i64 t183, .int .i64 t184, .bool t185, .int .i64 t186, .int .i64 t187, .int .i64 t188, .bool t189, .int .i64 t190, .int .i64 t191, .int .i64 t192, .int .i64 t193, .int .u64 t194, .bool t195], .int .i64 5, .int .i64 2] rfl (by (try simp only [List.map_toArray, List.map_cons, List.map_nil]); first | done | rfl | (simp only [List.length_drop, List.length_take]; rfl)) ?_; (with_reducible refine (task_Begin.calls k t174 t175 t176 t177 t178 t179 t180 t181 t182 t183 t184 t185 t186 t187 t188 t189 t190 t191 t192 t193 t194 t195 5 2 t198 t199 t200 t201 t202 t203 t204 t205 t206 t207 t208 true t210 t211 t212 t213 t214 t215 t216 t217 t218 t219 true _ A3.out).mono ?_); rintro e w16 ⟨rfl, hb⟩; refine ⟨_, rfl, ?_⟩; have N_ := Aside0.mk (Mem.call (by repeat (first | exact M.out | apply Mem.drewN | apply Mem.drew)) hb); clear M; have M := N_; clear N_; (try clear hb); (try clear hb2); (try clear hk); (try clear hi)) | ((with_reducible refine gate_dst (N := 3) rfl ?_); (try (refine gate_guard (by rfl) ?_; dsimp only)); (refine mem_alloc (w0 := ?_) (m := ?_) (cs := ?_) 30 rfl rfl Try.zeroValue30 ?hc ?hM ?_; (case hM => exact M.out); (case hc => simp only [Value.cells, List.toList_toArray]; rfl)); intro gb221 W_ M_; have N_ := Aside0.mk M_; clear M M_; have M := N_; clear N_) | (go_at_call 8; (with_reducible refine (task_May.calls k t174 t175 t176 t177 t178 t179 t180 t181 t182 t183 t184 t185 t186 t187 t188 t189 t190 t191 t192 t193 t194 t195 5 true _ A5.out).mono ?_); rintro e w21 ⟨rfl, hb⟩; have N_ := Aside0.mk (Mem.call (by repeat (first | exact M.out | apply Mem.drewN | apply Mem.drew)) hb); clear M; have M := N_; clear N_; (try clear hb); (try clear hb2); (try clear hk); (try clear hi)) | ((with_reducible refine gate_load rfl ?_); (try (refine gate_guard (by rfl) ?_; dsimp only)); first | (refine mem_load1 (w0 := ?_) (m := ?_) (cs := ?_) (e := ?_) (v := ?_) (g := ?_) (off := ?_) _ _ rfl rfl ?ha ?hp ?hM ?hm ?hv ?_; (case ha => first | exact Try.isAgg3 | exact Try.isAgg4); (case hp => (conv => lhs; whnf); try exact rfl); (case hM => exact M.out); (case hm => repeat (first | exact List.Mem.head _ | apply List.Mem.tail)); (case hv => (conv => lhs; whnf); try exact rfl)) | (refine mem_load (w0 := ?_) (m := ?_) (k := ?_) (cs := ?_) (e := ?_) (seg := ?_) (g := ?_) (off := ?_) _ _ rfl rfl ?ha ?hz ?hp ?hM ?hm ?hs ?hl ?_; (case ha => first | exact Try.isAgg30); (case hz => first | exact Try.sizeOf30); (case hp => (conv => lhs; whnf); try exact rfl); (case hM => exact M.out); (case hm => repeat (first | exact List.Mem.head _ | apply List.Mem.tail)); (case hs => simp only [List.take, List.drop]; rfl); (case hl => rfl))) | ((with_reducible refine gate_st rfl ?_); refine mem_store (w0 := ?_) (m := ?_) (m' := ?_) (seg := ?_) (u := ?_) (g := ?_) (off := ?_) _ _ _ rfl rfl rfl ?hp ?hx ?hc ?hz ?h1 ?hM ?hU ?_; (case hM => exact M.out); (case hp => (conv => lhs; whnf); try exact rfl); (case hx => (conv => lhs; whnf); try exact rfl); (case hc => simp only [Value.cells, List.toList_toArray]; rfl); (case hz => first | exact Try.sizeOf30); (case h1 => rfl); (case hU => (repeat (first | (refine Upd.head (cs' := ?_) ?hf ?he; (case hf => exact Nat.le_of_ble_eq_true rfl); (case he => simp only [List.take, List.drop, List.length, List.cons_append, List.nil_append, Nat.reduceAdd, Nat.zero_add]; all_goals rfl)) | (refine Upd.tail (r' := ?_) ?_; rotate_left)))); intro W_ M_; have N_ := Aside0.mk M_; clear M M_; have M := N_; clear N_))
                go_ret
                exact ⟨by first | rfl | (simp [errW_none, errW_some] <;> rfl) | (simp [*, errW_none, errW_some] <;> rfl) | (exfalso; first | contradiction | (revert c9b0 c10b0 c11b0; simp +contextual; done)), by exact Mem.below (by repeat (first | exact M.out | apply Mem.drewN | apply Mem.drew))⟩
              · rw [if_neg c11] at H
                exact absurd H (by simp)
            · rw [if_neg c10] at H
              exact absurd H (by simp)
          · rw [if_neg c9] at H
            exact absurd H (by simp)
        · replace c8 := Bool.eq_false_iff.mpr c8
          subst c8
          rw [if_neg (show ¬ (false = true) by decide)] at H
          exact absurd H (by simp)
      · replace c7 := Bool.eq_false_iff.mpr c7
        subst c7
        rw [if_neg (show ¬ (false = true) by decide)] at H
        exact absurd H (by simp)
    · replace c6 := Bool.eq_false_iff.mpr c6
      subst c6
      rw [if_neg (show ¬ (false = true) by decide)] at H
      exact absurd H (by simp)
  · replace c4 := Bool.eq_false_iff.mpr c4
    subst c4
    rw [if_neg (show ¬ (false = true) by decide)] at H
    exact absurd H (by simp)

end Go.Proofs.Ytphonmldcbgklaa.P
