-- Written by a program of this session (hprint.py), out of the translation; functions that the print does not take are given by hand.
import Derived.Test.YtphonmldcbgklaaPx0
namespace Go.Proofs.Ytphonmldcbgklaa.P
open Go.RowKit Go.Proofs.YtphonmldcbgklaaM Go.Proofs.YtphonmldcbgklaaW.PrintWords Go.Proofs.YtphonmldcbgklaaW.PrintLast Go.Proofs.YtphonmldcbgklaaW.PrintMore
attribute [local go_sem] max2_int min2_int max_two min_two max_three min_three max_four min_four   -- for this text's walks alone
set_option linter.unusedVariables false
set_option linter.unusedSimpArgs false

/-! ### task_Live: function 11 -/
def task_Live.f (a0_0 : Int) (a0_1 : Int) (a0_2 : Int) (a0_3 : Int) (a0_4 : Int) (a0_5 : Int) (a0_6 : Int) (a0_7 : Int) (a0_8 : Int) (a0_9 : Int) (a0_10 : Int) (a0_11 : Bool) (a0_12 : Int) (a0_13 : Int) (a0_14 : Int) (a0_15 : Bool) (a0_16 : Int) (a0_17 : Int) (a0_18 : Int) (a0_19 : Int) (a0_20 : Int) (a0_21 : Bool) : Option (Int × Int × Int × Int × Int × Int × Bool × Int × Int × Int × Bool × Int × Int × Int × Int × Int × Int) := if a0_11 = true then (some (a0_1, a0_2, a0_3, a0_4, a0_5, a0_6, a0_11, a0_12, a0_13, a0_14, a0_15, a0_16, a0_1, a0_18, a0_8, a0_9, a0_10)) else (some (a0_1, a0_2, a0_3, a0_4, a0_5, a0_6, a0_11, a0_12, a0_13, a0_14, a0_15, a0_16, a0_17, a0_18, a0_8, a0_9, a0_10))
set_option maxHeartbeats 8000000 in
set_option maxRecDepth 100000 in
theorem task_Live.calls (a0_0 : Int) (a0_1 : Int) (a0_2 : Int) (a0_3 : Int) (a0_4 : Int) (a0_5 : Int) (a0_6 : Int) (a0_7 : Int) (a0_8 : Int) (a0_9 : Int) (a0_10 : Int) (a0_11 : Bool) (a0_12 : Int) (a0_13 : Int) (a0_14 : Int) (a0_15 : Bool) (a0_16 : Int) (a0_17 : Int) (a0_18 : Int) (a0_19 : Int) (a0_20 : Int) (a0_21 : Bool) (r1 : Int) (r2 : Int) (r3 : Int) (r4 : Int) (r5 : Int) (r6 : Int) (r7 : Bool) (r8 : Int) (r9 : Int) (r10 : Int) (r11 : Bool) (r12 : Int) (r13 : Int) (r14 : Int) (r15 : Int) (r16 : Int) (r17 : Int) (w : World) (h : task_Live.f a0_0 a0_1 a0_2 a0_3 a0_4 a0_5 a0_6 a0_7 a0_8 a0_9 a0_10 a0_11 a0_12 a0_13 a0_14 a0_15 a0_16 a0_17 a0_18 a0_19 a0_20 a0_21 = some (r1, r2, r3, r4, r5, r6, r7, r8, r9, r10, r11, r12, r13, r14, r15, r16, r17)) :
    Calls Try.prog 11 #[.agg #[.int .i64 a0_0, .int .i64 a0_1, .int .i64 a0_2, .int .i64 a0_3, .int .i64 a0_4, .int .i64 a0_5, .int .i64 a0_6, .int .i64 a0_7, .int .i64 a0_8, .int .i64 a0_9, .int .i64 a0_10, .bool a0_11, .int .i64 a0_12, .int .i64 a0_13, .int .i64 a0_14, .bool a0_15, .int .i64 a0_16, .int .i64 a0_17, .int .i64 a0_18, .int .i64 a0_19, .int .u64 a0_20, .bool a0_21]] w fun e w' => e = .returned (.agg #[.int .i64 r1, .int .i64 r2, .int .i64 r3, .int .i64 r4, .int .i64 r5, .int .i64 r6, .bool r7, .int .i64 r8, .int .i64 r9, .int .i64 r10, .bool r11, .int .i64 r12, .int .i64 r13, .int .i64 r14, .int .i64 r15, .int .i64 r16, .int .i64 r17]) ∧ Below w.heap.size w w' := by
  have hu30 := Try.underlying30
  have hu38 := Try.underlying38
  have hu23 := Try.underlying23
  have hu25 := Try.underlying25
  have M := Aside0.mk (Mem.nil w)
  unfold task_Live.f at h
  cases a0_11 with
  | true =>
    rw [if_pos rfl] at h
    simp only [Option.some.injEq, Prod.mk.injEq] at h
    obtain ⟨rfl, rfl, rfl, rfl, rfl, rfl, rfl, rfl, rfl, rfl, rfl, rfl, rfl, rfl, rfl, rfl, rfl⟩ := h
    go_enter Try.func11, Try.ntmps11
    go_wp2_with (first | ((with_reducible refine gate_load (t := 38) rfl ?_); (try (refine gate_guard (by rfl) ?_; dsimp only)); refine mem_load (cs := ?_) (e := ?_) (seg := ?_) (g := ?_) (off := ?_) 38 _ rfl rfl Try.isAgg38 Try.sizeOf38 ?hp M.out ?hm ?hs ?hl ?_; (case hp => (conv => lhs; whnf); try exact rfl); (case hm => exact (by repeat (first | exact List.mem_cons_self | apply List.mem_cons_of_mem))); (case hs => simp only [List.take_succ_cons, List.take_zero, List.drop_succ_cons, List.drop_zero, List.cons_append, List.nil_append, List.length_cons, List.length_nil, Nat.reduceAdd, Nat.zero_add, List.take_nil, List.append_nil]; rfl); (case hl => rfl)) | ((with_reducible refine gate_load (t := 23) rfl ?_); (try (refine gate_guard (by rfl) ?_; dsimp only)); refine mem_load (cs := ?_) (e := ?_) (seg := ?_) (g := ?_) (off := ?_) 23 _ rfl rfl Try.isAgg23 Try.sizeOf23 ?hp M.out ?hm ?hs ?hl ?_; (case hp => (conv => lhs; whnf); try exact rfl); (case hm => exact (by repeat (first | exact List.mem_cons_self | apply List.mem_cons_of_mem))); (case hs => simp only [List.take_succ_cons, List.take_zero, List.drop_succ_cons, List.drop_zero, List.cons_append, List.nil_append, List.length_cons, List.length_nil, Nat.reduceAdd, Nat.zero_add, List.take_nil, List.append_nil]; rfl); (case hl => rfl)) | ((with_reducible refine gate_load (t := 25) rfl ?_); (try (refine gate_guard (by rfl) ?_; dsimp only)); refine mem_load (cs := ?_) (e := ?_) (seg := ?_) (g := ?_) (off := ?_) 25 _ rfl rfl Try.isAgg25 Try.sizeOf25 ?hp M.out ?hm ?hs ?hl ?_; (case hp => (conv => lhs; whnf); try exact rfl); (case hm => exact (by repeat (first | exact List.mem_cons_self | apply List.mem_cons_of_mem))); (case hs => simp only [List.take_succ_cons, List.take_zero, List.drop_succ_cons, List.drop_zero, List.cons_append, List.nil_append, List.length_cons, List.length_nil, Nat.reduceAdd, Nat.zero_add, List.take_nil, List.append_nil]; rfl); (case hl => rfl)) | ((with_reducible refine gate_load (t := 3) rfl ?_); (try (refine gate_guard (by rfl) ?_; dsimp only)); refine mem_load1 (cs := ?_) (e := ?_) (v := ?_) (g := ?_) (off := ?_) 3 _ rfl rfl Try.isAgg3 ?hp M.out ?hm ?hv ?_; (case hp => (conv => lhs; whnf); try exact rfl); (case hm => exact (by repeat (first | exact List.mem_cons_self | apply List.mem_cons_of_mem))); (case hv => (conv => lhs; whnf); try exact rfl)) | ((with_reducible refine gate_load (t := 4) rfl ?_); (try (refine gate_guard (by rfl) ?_; dsimp only)); refine mem_load1 (cs := ?_) (e := ?_) (v := ?_) (g := ?_) (off := ?_) 4 _ rfl rfl Try.isAgg4 ?hp M.out ?hm ?hv ?_; (case hp => (conv => lhs; whnf); try exact rfl); (case hm => exact (by repeat (first | exact List.mem_cons_self | apply List.mem_cons_of_mem))); (case hv => (conv => lhs; whnf); try exact rfl)) | ((with_reducible refine gate_alloc (t := 38) rfl ?_); refine mem_alloc (cs := ?_) 38 rfl rfl Try.zeroValue38 ?hc M.out ?_; (case hc => first | (simp only [Value.cells, List.toList_toArray]; rfl) | rfl); intro g_ W_ M_; have N_ := Aside0.mk M_; clear M M_; have M := N_; clear N_) | ((with_reducible refine gate_box (t := 30) rfl ?_); refine mem_box (cs := ?_) (u := ?_) 30 _ rfl rfl ?hx ?hc M.out ?_; (case hx => (conv => lhs; whnf); try exact rfl); (case hc => first | (simp only [Value.cells, List.toList_toArray]; rfl) | rfl); intro g_ W_ M_; have N_ := Aside0.mk M_; clear M M_; have M := N_; clear N_) | ((with_reducible refine gate_st (t := 38) rfl ?_); refine mem_store (m' := ?_) (seg := ?_) (u := ?_) (g := ?_) (off := ?_) 38 _ _ rfl rfl rfl ?hp ?hx ?hc ?hz ?h1 M.out ?hU ?_; (case hp => (conv => lhs; whnf); try exact rfl); (case hx => (conv => lhs; whnf); try exact rfl); (case hc => first | (simp only [Value.cells, List.toList_toArray]; rfl) | rfl); (case hz => exact Try.sizeOf38); (case h1 => rfl); (case hU => (repeat (first | (refine Upd.head (cs' := ?_) ?hf ?he; (case hf => exact Nat.le_of_ble_eq_true rfl); (case he => simp only [List.take_succ_cons, List.take_zero, List.drop_succ_cons, List.drop_zero, List.cons_append, List.nil_append, List.length_cons, List.length_nil, Nat.reduceAdd, Nat.zero_add, List.take_nil, List.append_nil]; all_goals rfl)) | (refine Upd.tail (r' := ?_) ?_; rotate_left)))); intro W_ M_; have N_ := Aside0.mk M_; clear M M_; have M := N_; clear N_) | ((with_reducible refine gate_st (t := 3) rfl ?_); refine mem_store (m' := ?_) (seg := ?_) (u := ?_) (g := ?_) (off := ?_) 3 _ _ rfl rfl rfl ?hp ?hx ?hc ?hz ?h1 M.out ?hU ?_; (case hp => (conv => lhs; whnf); try exact rfl); (case hx => (conv => lhs; whnf); try exact rfl); (case hc => first | (simp only [Value.cells, List.toList_toArray]; rfl) | rfl); (case hz => exact Try.sizeOf3); (case h1 => rfl); (case hU => (repeat (first | (refine Upd.head (cs' := ?_) ?hf ?he; (case hf => exact Nat.le_of_ble_eq_true rfl); (case he => simp only [List.take_succ_cons, List.take_zero, List.drop_succ_cons, List.drop_zero, List.cons_append, List.nil_append, List.length_cons, List.length_nil, Nat.reduceAdd, Nat.zero_add, List.take_nil, List.append_nil]; all_goals rfl)) | (refine Upd.tail (r' := ?_) ?_; rotate_left)))); intro W_ M_; have N_ := Aside0.mk M_; clear M M_; have M := N_; clear N_))
    (refine mem_end1 (g := ?_) (cs := ?_) (e := ?_) rfl Try.isAgg38 Try.sizeOf38 ?hp M.out ?hm ?hl rfl ?hR; (case hp => rfl); (case hm => exact (by repeat (first | exact List.mem_cons_self | apply List.mem_cons_of_mem))); (case hl => rfl); (case hR => exact ⟨rfl, M.out.1⟩))
  | false =>
    rw [if_neg Bool.false_ne_true] at h
    simp only [Option.some.injEq, Prod.mk.injEq] at h
    obtain ⟨rfl, rfl, rfl, rfl, rfl, rfl, rfl, rfl, rfl, rfl, rfl, rfl, rfl, rfl, rfl, rfl, rfl⟩ := h
    go_enter Try.func11, Try.ntmps11
    go_wp2_with (first | ((with_reducible refine gate_load (t := 38) rfl ?_); (try (refine gate_guard (by rfl) ?_; dsimp only)); refine mem_load (cs := ?_) (e := ?_) (seg := ?_) (g := ?_) (off := ?_) 38 _ rfl rfl Try.isAgg38 Try.sizeOf38 ?hp M.out ?hm ?hs ?hl ?_; (case hp => (conv => lhs; whnf); try exact rfl); (case hm => exact (by repeat (first | exact List.mem_cons_self | apply List.mem_cons_of_mem))); (case hs => simp only [List.take_succ_cons, List.take_zero, List.drop_succ_cons, List.drop_zero, List.cons_append, List.nil_append, List.length_cons, List.length_nil, Nat.reduceAdd, Nat.zero_add, List.take_nil, List.append_nil]; rfl); (case hl => rfl)) | ((with_reducible refine gate_load (t := 23) rfl ?_); (try (refine gate_guard (by rfl) ?_; dsimp only)); refine mem_load (cs := ?_) (e := ?_) (seg := ?_) (g := ?_) (off := ?_) 23 _ rfl rfl Try.isAgg23 Try.sizeOf23 ?hp M.out ?hm ?hs ?hl ?_; (case hp => (conv => lhs; whnf); try exact rfl); (case hm => exact (by repeat (first | exact List.mem_cons_self | apply List.mem_cons_of_mem))); (case hs => simp only [List.take_succ_cons, List.take_zero, List.drop_succ_cons, List.drop_zero, List.cons_append, List.nil_append, List.length_cons, List.length_nil, Nat.reduceAdd, Nat.zero_add, List.take_nil, List.append_nil]; rfl); (case hl => rfl)) | ((with_reducible refine gate_load (t := 25) rfl ?_); (try (refine gate_guard (by rfl) ?_; dsimp only)); refine mem_load (cs := ?_) (e := ?_) (seg := ?_) (g := ?_) (off := ?_) 25 _ rfl rfl Try.isAgg25 Try.sizeOf25 ?hp M.out ?hm ?hs ?hl ?_; (case hp => (conv => lhs; whnf); try exact rfl); (case hm => exact (by repeat (first | exact List.mem_cons_self | apply List.mem_cons_of_mem))); (case hs => simp only [List.take_succ_cons, List.take_zero, List.drop_succ_cons, List.drop_zero, List.cons_append, List.nil_append, List.length_cons, List.length_nil, Nat.reduceAdd, Nat.zero_add, List.take_nil, List.append_nil]; rfl); (case hl => rfl)) | ((with_reducible refine gate_load (t := 3) rfl ?_); (try (refine gate_guard (by rfl) ?_; dsimp only)); refine mem_load1 (cs := ?_) (e := ?_) (v := ?_) (g := ?_) (off := ?_) 3 _ rfl rfl Try.isAgg3 ?hp M.out ?hm ?hv ?_; (case hp => (conv => lhs; whnf); try exact rfl); (case hm => exact (by repeat (first | exact List.mem_cons_self | apply List.mem_cons_of_mem))); (case hv => (conv => lhs; whnf); try exact rfl)) | ((with_reducible refine gate_load (t := 4) rfl ?_); (try (refine gate_guard (by rfl) ?_; dsimp only)); refine mem_load1 (cs := ?_) (e := ?_) (v := ?_) (g := ?_) (off := ?_) 4 _ rfl rfl Try.isAgg4 ?hp M.out ?hm ?hv ?_; (case hp => (conv => lhs; whnf); try exact rfl); (case hm => exact (by repeat (first | exact List.mem_cons_self | apply List.mem_cons_of_mem))); (case hv => (conv => lhs; whnf); try exact rfl)) | ((with_reducible refine gate_alloc (t := 38) rfl ?_); refine mem_alloc (cs := ?_) 38 rfl rfl Try.zeroValue38 ?hc M.out ?_; (case hc => first | (simp only [Value.cells, List.toList_toArray]; rfl) | rfl); intro g_ W_ M_; have N_ := Aside0.mk M_; clear M M_; have M := N_; clear N_) | ((with_reducible refine gate_box (t := 30) rfl ?_); refine mem_box (cs := ?_) (u := ?_) 30 _ rfl rfl ?hx ?hc M.out ?_; (case hx => (conv => lhs; whnf); try exact rfl); (case hc => first | (simp only [Value.cells, List.toList_toArray]; rfl) | rfl); intro g_ W_ M_; have N_ := Aside0.mk M_; clear M M_; have M := N_; clear N_) | ((with_reducible refine gate_st (t := 38) rfl ?_); refine mem_store (m' := ?_) (seg := ?_) (u := ?_) (g := ?_) (off := ?_) 38 _ _ rfl rfl rfl ?hp ?hx ?hc ?hz ?h1 M.out ?hU ?_; (case hp => (conv => lhs; whnf); try exact rfl); (case hx => (conv => lhs; whnf); try exact rfl); (case hc => first | (simp only [Value.cells, List.toList_toArray]; rfl) | rfl); (case hz => exact Try.sizeOf38); (case h1 => rfl); (case hU => (repeat (first | (refine Upd.head (cs' := ?_) ?hf ?he; (case hf => exact Nat.le_of_ble_eq_true rfl); (case he => simp only [List.take_succ_cons, List.take_zero, List.drop_succ_cons, List.drop_zero, List.cons_append, List.nil_append, List.length_cons, List.length_nil, Nat.reduceAdd, Nat.zero_add, List.take_nil, List.append_nil]; all_goals rfl)) | (refine Upd.tail (r' := ?_) ?_; rotate_left)))); intro W_ M_; have N_ := Aside0.mk M_; clear M M_; have M := N_; clear N_) | ((with_reducible refine gate_st (t := 3) rfl ?_); refine mem_store (m' := ?_) (seg := ?_) (u := ?_) (g := ?_) (off := ?_) 3 _ _ rfl rfl rfl ?hp ?hx ?hc ?hz ?h1 M.out ?hU ?_; (case hp => (conv => lhs; whnf); try exact rfl); (case hx => (conv => lhs; whnf); try exact rfl); (case hc => first | (simp only [Value.cells, List.toList_toArray]; rfl) | rfl); (case hz => exact Try.sizeOf3); (case h1 => rfl); (case hU => (repeat (first | (refine Upd.head (cs' := ?_) ?hf ?he; (case hf => exact Nat.le_of_ble_eq_true rfl); (case he => simp only [List.take_succ_cons, List.take_zero, List.drop_succ_cons, List.drop_zero, List.cons_append, List.nil_append, List.length_cons, List.length_nil, Nat.reduceAdd, Nat.zero_add, List.take_nil, List.append_nil]; all_goals rfl)) | (refine Upd.tail (r' := ?_) ?_; rotate_left)))); intro W_ M_; have N_ := Aside0.mk M_; clear M M_; have M := N_; clear N_))
    (refine mem_end1 (g := ?_) (cs := ?_) (e := ?_) rfl Try.isAgg38 Try.sizeOf38 ?hp M.out ?hm ?hl rfl ?hR; (case hp => rfl); (case hm => exact (by repeat (first | exact List.mem_cons_self | apply List.mem_cons_of_mem))); (case hl => rfl); (case hR => exact ⟨rfl, M.out.1⟩))

/-! ### live_in: function 25 -/
def live_in.f (a0 : Int) (a1 : Int) (a2 : Int) : Option (Bool) := if a0 ≥ a1 then (some (decide (a0 ≤ a2))) else (some false)
set_option maxHeartbeats 8000000 in
set_option maxRecDepth 100000 in
theorem live_in.calls (a0 : Int) (a1 : Int) (a2 : Int) (r : Bool) (w : World) (h : live_in.f a0 a1 a2 = some r) :
    Calls Try.prog 25 #[.int .i64 a0, .int .i64 a1, .int .i64 a2] w fun e w' => e = .returned (.bool r) ∧ Drawn0 w w' := by
  have H : (if a0 ≥ a1 then (some (decide (a0 ≤ a2))) else (some false)) = some r := h
  clear h
  by_cases c4 : a0 ≥ a1
  · rw [if_pos c4] at H
    have c4b0 : decide (a1 ≤ a0) = true := decide_eq_true c4
    clear c4
    obtain rfl := Option.some.inj H
    go_enter Try.func25, Try.ntmps25
    go_wp2
    go_ret
    exact ⟨by first | rfl | (simp; done) | (simp [*]; done) | (exfalso; contradiction), by repeat (first | exact Drawn0.refl _ | apply Drawn0.step)⟩
  · rw [if_neg c4] at H
    have c4b0 : decide (a1 ≤ a0) = false := decide_eq_false c4
    clear c4
    obtain rfl := Option.some.inj H
    go_enter Try.func25, Try.ntmps25
    go_wp2
    go_ret
    exact ⟨by first | rfl | (simp; done) | (simp [*]; done) | (exfalso; contradiction), by repeat (first | exact Drawn0.refl _ | apply Drawn0.step)⟩

-- NOT PRINTED: function 37 (api_Live_37)

-- NOT PRINTED: function 26 (api_Live_26)

/-! ### pat_May: function 22 -/
def pat_May.f (a0 : Int) (a1 : Int) : Option (Bool) := if a0 ≥ 1 then (if a0 ≤ a1 then (some (decide (a1 ≤ 6))) else (some false)) else (some false)
set_option maxHeartbeats 8000000 in
set_option maxRecDepth 100000 in
theorem pat_May.calls (a0 : Int) (a1 : Int) (r : Bool) (w : World) (h : pat_May.f a0 a1 = some r) :
    Calls Try.prog 22 #[.int .i64 a0, .int .i64 a1] w fun e w' => e = .returned (.bool r) ∧ Drawn0 w w' := by
  have H : (if a0 ≥ 1 then (if a0 ≤ a1 then (some (decide (a1 ≤ 6))) else (some false)) else (some false)) = some r := h
  clear h
  by_cases c3 : a0 ≥ 1
  · rw [if_pos c3] at H
    have c3b0 : decide (1 ≤ a0) = true := decide_eq_true c3
    clear c3
    by_cases c4 : a0 ≤ a1
    · rw [if_pos c4] at H
      have c4b0 : decide (a0 ≤ a1) = true := decide_eq_true c4
      clear c4
      obtain rfl := Option.some.inj H
      go_enter Try.func22, Try.ntmps22
      go_wp2
      go_ret
      exact ⟨by first | rfl | (simp; done) | (simp [*]; done) | (exfalso; contradiction), by repeat (first | exact Drawn0.refl _ | apply Drawn0.step)⟩
    · rw [if_neg c4] at H
      have c4b0 : decide (a0 ≤ a1) = false := decide_eq_false c4
      clear c4
      obtain rfl := Option.some.inj H
      go_enter Try.func22, Try.ntmps22
      go_wp2
      go_ret
      exact ⟨by first | rfl | (simp; done) | (simp [*]; done) | (exfalso; contradiction), by repeat (first | exact Drawn0.refl _ | apply Drawn0.step)⟩
  · rw [if_neg c3] at H
    have c3b0 : decide (1 ≤ a0) = false := decide_eq_false c3
    clear c3
    obtain rfl := Option.some.inj H
    go_enter Try.func22, Try.ntmps22
    go_wp2
    go_ret
    exact ⟨by first | rfl | (simp; done) | (simp [*]; done) | (exfalso; contradiction), by repeat (first | exact Drawn0.refl _ | apply Drawn0.step)⟩

/-! ### pat_in: function 23 -/
def pat_in.f (a0 : Int) : Option (Bool) := if a0 ≥ 0 then (some (decide (a0 ≤ 1099511627776))) else (some false)
set_option maxHeartbeats 8000000 in
set_option maxRecDepth 100000 in
theorem pat_in.calls (a0 : Int) (r : Bool) (w : World) (h : pat_in.f a0 = some r) :
    Calls Try.prog 23 #[.int .i64 a0] w fun e w' => e = .returned (.bool r) ∧ Drawn0 w w' := by
  have H : (if a0 ≥ 0 then (some (decide (a0 ≤ 1099511627776))) else (some false)) = some r := h
  clear h
  by_cases c2 : a0 ≥ 0
  · rw [if_pos c2] at H
    have c2b0 : decide (0 ≤ a0) = true := decide_eq_true c2
    clear c2
    obtain rfl := Option.some.inj H
    go_enter Try.func23, Try.ntmps23
    go_wp2
    go_ret
    exact ⟨by first | rfl | (simp; done) | (simp [*]; done) | (exfalso; contradiction), by repeat (first | exact Drawn0.refl _ | apply Drawn0.step)⟩
  · rw [if_neg c2] at H
    have c2b0 : decide (0 ≤ a0) = false := decide_eq_false c2
    clear c2
    obtain rfl := Option.some.inj H
    go_enter Try.func23, Try.ntmps23
    go_wp2
    go_ret
    exact ⟨by first | rfl | (simp; done) | (simp [*]; done) | (exfalso; contradiction), by repeat (first | exact Drawn0.refl _ | apply Drawn0.step)⟩

/-! ### frac_in: function 56 -/
def frac_in.f (a0 : Int) (a1 : Int) (a2 : Int) : Option (Bool) := if a0 ≥ a1 then (some (decide (a0 ≤ a2))) else (some false)
set_option maxHeartbeats 8000000 in
set_option maxRecDepth 100000 in
theorem frac_in.calls (a0 : Int) (a1 : Int) (a2 : Int) (r : Bool) (w : World) (h : frac_in.f a0 a1 a2 = some r) :
    Calls Try.prog 56 #[.int .i64 a0, .int .i64 a1, .int .i64 a2] w fun e w' => e = .returned (.bool r) ∧ Drawn0 w w' := by
  have H : (if a0 ≥ a1 then (some (decide (a0 ≤ a2))) else (some false)) = some r := h
  clear h
  by_cases c4 : a0 ≥ a1
  · rw [if_pos c4] at H
    have c4b0 : decide (a1 ≤ a0) = true := decide_eq_true c4
    clear c4
    obtain rfl := Option.some.inj H
    go_enter Try.func56, Try.ntmps56
    go_wp2
    go_ret
    exact ⟨by first | rfl | (simp; done) | (simp [*]; done) | (exfalso; contradiction), by repeat (first | exact Drawn0.refl _ | apply Drawn0.step)⟩
  · rw [if_neg c4] at H
    have c4b0 : decide (a1 ≤ a0) = false := decide_eq_false c4
    clear c4
    obtain rfl := Option.some.inj H
    go_enter Try.func56, Try.ntmps56
    go_wp2
    go_ret
    exact ⟨by first | rfl | (simp; done) | (simp [*]; done) | (exfalso; contradiction), by repeat (first | exact Drawn0.refl _ | apply Drawn0.step)⟩

/-! ### frac_ratio_may: function 54 -/
def frac_ratio_may.f (a0_0 : Int) (a0_1 : Int) : Option (Bool) := (frac_in.f a0_0 0 4611686018427387904).bind fun t102 => (if t102 = true then ((frac_in.f a0_1 1 4611686018427387904).bind fun t103 => (some t103)) else (some false))
set_option maxHeartbeats 8000000 in
set_option maxRecDepth 100000 in
theorem frac_ratio_may.calls (a0_0 : Int) (a0_1 : Int) (r : Bool) (w : World) (h : frac_ratio_may.f a0_0 a0_1 = some r) :
    Calls Try.prog 54 #[.agg #[.int .i64 a0_0, .int .i64 a0_1]] w fun e w' => e = .returned (.bool r) ∧ Below w.heap.size w w' := by
  have hu91 := Try.underlying91
  have HB := Aside0.mk (Below.refl w.heap.size w)
  have H : ((frac_in.f a0_0 0 4611686018427387904).bind fun t102 => (if t102 = true then ((frac_in.f a0_1 1 4611686018427387904).bind fun t103 => (some t103)) else (some false))) = some r := h
  clear h
  replace H := Option.bind_eq_some_iff.mp H
  obtain ⟨t102, A20, H⟩ := H
  try dsimp only at H
  have A2 := Aside0.mk A20
  clear A20
  by_cases c3 : t102 = true
  · subst c3
    rw [if_pos rfl] at H
    replace H := Option.bind_eq_some_iff.mp H
    obtain ⟨t103, A40, H⟩ := H
    try dsimp only at H
    have A4 := Aside0.mk A40
    clear A40
    obtain rfl := Option.some.inj H
    go_enter Try.func54, Try.ntmps54
    go_wp2_with (first | ((with_reducible refine gate_dst (N := 1) rfl ?_); refine box_event ?hg (N := 1) ?hd (cs := #[.int .i64 a0_0, .int .i64 a0_1]) (t := 91) ?hr ?_; (case hd => rfl); (case hg => rfl); (case hr => first | (go_simp; done) | (go_simp; rfl)); intro gb101 hg w5 hbox hb; have n0_ := bs HB hb; have n1_ := Aside0.mk (hbox); have n2_ := bz HB hg; have n3_ := bz HB hg; clear HB; have HB := n0_; have BK101 := n1_; have GW101 := n2_; have GE101 := n3_; clear n0_ n1_ n2_ n3_; clear hb hbox hg; obtain ⟨hcz6_0, hcz6_1⟩ := cc2 BK101; obtain ⟨hfz6_0, hfz6_1⟩ := cf2 BK101) | ((with_reducible refine gate_callee (f := 56) rfl ?_); refine goesL_ (some 5) rfl rfl Try.func56 (by kernel_rfl) rfl #[.int .i64 a0_0, .int .i64 0, .int .i64 4611686018427387904] rfl (by (try simp only [List.map_toArray, List.map_cons, List.map_nil]); first | done | rfl | (simp only [List.length_drop, List.length_take]; rfl)) ?_; (with_reducible refine (frac_in.calls a0_0 0 4611686018427387904 true _ A2.out).mono ?_); rintro e w' ⟨rfl, ⟨nd, rfl⟩⟩; refine ⟨_, rfl, ?_⟩) | (go_at_call 56; (with_reducible refine (frac_in.calls a0_1 1 4611686018427387904 t103 _ A4.out).mono ?_); rintro e w' ⟨rfl, ⟨nd, rfl⟩⟩))
    go_ret
    exact ⟨by first | rfl | (simp [errW_none, errW_some] <;> rfl) | (simp [*, errW_none, errW_some] <;> rfl) | (exfalso; contradiction), by repeat (first | (with_reducible first | exact HB.out | apply below_alloc | apply pw_below_drewN | apply below_drew1 | refine below_set ?_ GE101.out) | exact HB.out)⟩
  · replace c3 := Bool.eq_false_iff.mpr c3
    subst c3
    rw [if_neg (show ¬ (false = true) by decide)] at H
    obtain rfl := Option.some.inj H
    go_enter Try.func54, Try.ntmps54
    go_wp2_with (first | ((with_reducible refine gate_dst (N := 1) rfl ?_); refine box_event ?hg (N := 1) ?hd (cs := #[.int .i64 a0_0, .int .i64 a0_1]) (t := 91) ?hr ?_; (case hd => rfl); (case hg => rfl); (case hr => first | (go_simp; done) | (go_simp; rfl)); intro gb101 hg w7 hbox hb; have n0_ := bs HB hb; have n1_ := Aside0.mk (hbox); have n2_ := bz HB hg; have n3_ := bz HB hg; clear HB; have HB := n0_; have BK101 := n1_; have GW101 := n2_; have GE101 := n3_; clear n0_ n1_ n2_ n3_; clear hb hbox hg; obtain ⟨hcz8_0, hcz8_1⟩ := cc2 BK101; obtain ⟨hfz8_0, hfz8_1⟩ := cf2 BK101) | ((with_reducible refine gate_callee (f := 56) rfl ?_); refine goesL_ (some 5) rfl rfl Try.func56 (by kernel_rfl) rfl #[.int .i64 a0_0, .int .i64 0, .int .i64 4611686018427387904] rfl (by (try simp only [List.map_toArray, List.map_cons, List.map_nil]); first | done | rfl | (simp only [List.length_drop, List.length_take]; rfl)) ?_; (with_reducible refine (frac_in.calls a0_0 0 4611686018427387904 false _ A2.out).mono ?_); rintro e w' ⟨rfl, ⟨nd, rfl⟩⟩; refine ⟨_, rfl, ?_⟩))
    go_ret
    exact ⟨by first | rfl | (simp [errW_none, errW_some] <;> rfl) | (simp [*, errW_none, errW_some] <;> rfl) | (exfalso; contradiction), by repeat (first | (with_reducible first | exact HB.out | apply below_alloc | apply pw_below_drewN | apply below_drew1 | refine below_set ?_ GE101.out) | exact HB.out)⟩

-- NOT PRINTED: function 41 (frac_told)

/-! ### frac_Ceil: function 36 -/
def frac_Ceil.f (a0 : Int) (a1 : Int) : Option (Int × Bool) := if 0 ≤ a0 ∧ a0 ≤ 4611686018427387904 ∧ 1 ≤ a1 ∧ a1 ≤ 4611686018427387904 then some (a0 / a1 + min (a0 % a1) 1, true) else some (0, false)
set_option maxHeartbeats 8000000 in
set_option maxRecDepth 100000 in
theorem frac_Ceil.calls (a0 : Int) (a1 : Int) (r1 : Int) (r2 : Bool) (w : World) (h : frac_Ceil.f a0 a1 = some (r1, r2)) :
    Calls Try.prog 36 #[.int .i64 a0, .int .i64 a1] w fun e w' => e = .returned (.tuple #[.int .i64 r1, .bool r2]) ∧ Below w.heap.size w w' := by
  have hmf : ∀ (fn : Fn) (first cap : Array Value) (w : World), (Instr.makeFunc fn first cap).run Try.prog w = .ok (.func fn first cap) w := fun _ _ _ _ => rfl
  have hu := Try.underlying91
  by_cases c0 : 0 ≤ a0
  · by_cases c1 : a0 ≤ 4611686018427387904
    · by_cases c2 : 1 ≤ a1
      · by_cases c3 : a1 ≤ 4611686018427387904
        · have H : frac_Ceil.f a0 a1 = some (a0 / a1 + min (a0 % a1) 1, true) := by unfold frac_Ceil.f; rw [if_pos ⟨c0, c1, c2, c3⟩]
          rw [H] at h
          simp only [Option.some.injEq, Prod.mk.injEq] at h
          obtain ⟨rfl, rfl⟩ := h
          clear H
          have d0 : decide (0 ≤ a0) = true := decide_eq_true c0
          have d1 : decide (a0 ≤ 4611686018427387904) = true := decide_eq_true c1
          have d2 : decide (1 ≤ a1) = true := decide_eq_true c2
          have d3 : decide (a1 ≤ 4611686018427387904) = true := decide_eq_true c3
          have d4 : ¬ a1 = 0 := by omega
          have hm := Int.emod_nonneg a0 d4
          have hq0 : 0 ≤ a0 / a1 := Int.ediv_nonneg c0 (by omega)
          have hq1 : a0 / a1 ≤ a0 := Int.ediv_le_self _ c0
          by_cases e : 1 < a0 % a1
          · have H : min (a0 % a1) 1 = 1 := by omega
            rw [H]
            clear H
            go_enter Try.func36, Try.ntmps36
            go_wp2
            go_quiet (fail)
            go_wp2
            go_ret2
            exact ⟨rfl, by repeat (first | exact Below.refl _ _ | apply below_alloc | apply pw_below_drewN | apply below_drew1)⟩
          · have H : min (a0 % a1) 1 = a0 % a1 := by omega
            rw [H]
            clear H
            go_enter Try.func36, Try.ntmps36
            go_wp2
            go_quiet (fail)
            go_wp2
            go_ret2
            exact ⟨rfl, by repeat (first | exact Below.refl _ _ | apply below_alloc | apply pw_below_drewN | apply below_drew1)⟩
        · have H : frac_Ceil.f a0 a1 = some (0, false) := by unfold frac_Ceil.f; rw [if_neg (fun h => c3 h.2.2.2)]
          rw [H] at h
          simp only [Option.some.injEq, Prod.mk.injEq] at h
          obtain ⟨rfl, rfl⟩ := h
          clear H
          have d0 : decide (0 ≤ a0) = true := decide_eq_true c0
          have d1 : decide (a0 ≤ 4611686018427387904) = true := decide_eq_true c1
          have d2 : decide (1 ≤ a1) = true := decide_eq_true c2
          have d3 : decide (a1 ≤ 4611686018427387904) = false := decide_eq_false c3
          go_enter Try.func36, Try.ntmps36
          go_wp2
          go_ret2
          exact ⟨rfl, by repeat (first | exact Below.refl _ _ | apply below_alloc | apply pw_below_drewN | apply below_drew1)⟩
      · have H : frac_Ceil.f a0 a1 = some (0, false) := by unfold frac_Ceil.f; rw [if_neg (fun h => c2 h.2.2.1)]
        rw [H] at h
        simp only [Option.some.injEq, Prod.mk.injEq] at h
        obtain ⟨rfl, rfl⟩ := h
        clear H
        have d0 : decide (0 ≤ a0) = true := decide_eq_true c0
        have d1 : decide (a0 ≤ 4611686018427387904) = true := decide_eq_true c1
        have d2 : decide (1 ≤ a1) = false := decide_eq_false c2
        go_enter Try.func36, Try.ntmps36
        go_wp2
        go_ret2
        exact ⟨rfl, by repeat (first | exact Below.refl _ _ | apply below_alloc | apply pw_below_drewN | apply below_drew1)⟩
    · have H : frac_Ceil.f a0 a1 = some (0, false) := by unfold frac_Ceil.f; rw [if_neg (fun h => c1 h.2.1)]
      rw [H] at h
      simp only [Option.some.injEq, Prod.mk.injEq] at h
      obtain ⟨rfl, rfl⟩ := h
      clear H
      have d0 : decide (0 ≤ a0) = true := decide_eq_true c0
      have d1 : decide (a0 ≤ 4611686018427387904) = false := decide_eq_false c1
      go_enter Try.func36, Try.ntmps36
      go_wp2
      go_ret2
      exact ⟨rfl, by repeat (first | exact Below.refl _ _ | apply below_alloc | apply pw_below_drewN | apply below_drew1)⟩
  · have H : frac_Ceil.f a0 a1 = some (0, false) := by unfold frac_Ceil.f; rw [if_neg (fun h => c0 h.1)]
    rw [H] at h
    simp only [Option.some.injEq, Prod.mk.injEq] at h
    obtain ⟨rfl, rfl⟩ := h
    clear H
    have d0 : decide (0 ≤ a0) = false := decide_eq_false c0
    go_enter Try.func36, Try.ntmps36
    go_wp2
    go_ret2
    exact ⟨rfl, by repeat (first | exact Below.refl _ _ | apply below_alloc | apply pw_below_drewN | apply below_drew1)⟩

/-! ### pat_of: function 24 -/
def pat_of.up (x k : Int) : Int := x / k + min (x % k) 1
def pat_of.on (m k q : Int) : Bool := decide (pat_of.up (q * m) k < pat_of.up ((q + 1) * m) k)
def pat_of.bit (m k i q : Int) : Bool := decide (q < i) && pat_of.on m k q
theorem pat_of.ceil (x k : Int) (h0 : 0 ≤ x) (h1 : x ≤ 100) (h2 : 1 ≤ k) (h3 : k ≤ 6) : frac_Ceil.f x k = some (pat_of.up x k, true) := by
  unfold frac_Ceil.f pat_of.up
  rw [if_pos ⟨h0, by omega, h2, by omega⟩]
def pat_of.cells (m k i : Int) : Array Value := #[.bool (pat_of.bit m k i 0), .bool (pat_of.bit m k i 1), .bool (pat_of.bit m k i 2), .bool (pat_of.bit m k i 3), .bool (pat_of.bit m k i 4), .bool (pat_of.bit m k i 5)]
theorem pat_of.put (m k i : Int) (h0 : 0 ≤ i) (h5 : i < 6) : (pat_of.cells m k i).setIfInBounds i.toNat (.bool (decide (pat_of.up (i * m) k < pat_of.up ((i + 1) * m) k))) = pat_of.cells m k (i + 1) := by
  have : i = 0 ∨ i = 1 ∨ i = 2 ∨ i = 3 ∨ i = 4 ∨ i = 5 := by omega
  rcases this with rfl | rfl | rfl | rfl | rfl | rfl <;> simp [pat_of.cells, pat_of.bit, pat_of.on]
theorem pat_of.was (m k i : Int) (h0 : 0 ≤ i) (h5 : i < 6) : (pat_of.cells m k i)[i.toNat]? = some (.bool false) := by
  have : i = 0 ∨ i = 1 ∨ i = 2 ∨ i = 3 ∨ i = 4 ∨ i = 5 := by omega
  rcases this with rfl | rfl | rfl | rfl | rfl | rfl <;> simp [pat_of.cells, pat_of.bit]
theorem pat_of.first (m k : Int) : pat_of.cells m k 0 = #[.bool false, .bool false, .bool false, .bool false, .bool false, .bool false] := by
  simp [pat_of.cells, pat_of.bit]
theorem pat_of.mul (i m k : Int) (h0 : 0 ≤ i) (h1 : i ≤ 6) (h2 : 1 ≤ m) (h3 : m ≤ 6) : 0 ≤ i * m ∧ i * m ≤ 100 := by
  have : i = 0 ∨ i = 1 ∨ i = 2 ∨ i = 3 ∨ i = 4 ∨ i = 5 ∨ i = 6 := by omega
  rcases this with rfl | rfl | rfl | rfl | rfl | rfl | rfl <;> omega
theorem pat_of.w64 (x : Int) (h : 0 ≤ x ∧ x ≤ 100) : wrap64 x = x := by
  obtain ⟨h0, h1⟩ := h
  unfold wrap64
  omega
set_option maxHeartbeats 32000000 in
set_option maxRecDepth 100000 in
theorem pat_of.calls (m k : Int) (w : World) (hm : 1 ≤ m) (hk : m ≤ k) (h6 : k ≤ 6) :
    Calls Try.prog 24 #[.int .i64 m, .int .i64 k] w fun e w' => e = .returned (.agg #[.bool (pat_of.bit m k k 0), .bool (pat_of.bit m k k 1), .bool (pat_of.bit m k k 2), .bool (pat_of.bit m k k 3), .bool (pat_of.bit m k k 4), .bool (pat_of.bit m k k 5)]) ∧ Below w.heap.size w w' := by
  go_enter Try.func24, Try.ntmps24
  go_wp2_with fail
  have B1 := Aside0.mk (below_alloc (below_alloc (Below.refl w.heap.size w) (.cells (#[.bool false, .bool false, .bool false, .bool false, .bool false, .bool false] : Array Value) 59)) (.cells (#[.bool false, .bool false, .bool false, .bool false, .bool false, .bool false] : Array Value) 59))
  have C1 := Aside0.mk (two_old w (.cells (#[.bool false, .bool false, .bool false, .bool false, .bool false, .bool false] : Array Value) 59) (.cells (#[.bool false, .bool false, .bool false, .bool false, .bool false, .bool false] : Array Value) 59))
  have D1 := Aside0.mk (two_new w (.cells (#[.bool false, .bool false, .bool false, .bool false, .bool false, .bool false] : Array Value) 59) (.cells (#[.bool false, .bool false, .bool false, .bool false, .bool false, .bool false] : Array Value) 59))
  go_loopw [12] (fun iv wr => ∃ i : Int, 0 ≤ i ∧ i ≤ k ∧ iv = .int .i64 i ∧ Aside0 (Below w.heap.size w wr ∧ wr.heap[w.heap.size]? = some (.cells #[.bool false, .bool false, .bool false, .bool false, .bool false, .bool false] 59 (0, 0)) ∧ wr.heap[w.heap.size + 1]? = some (.cells (pat_of.cells m k i) 59 (0, 0)))) (fun iv _ => (k - intOf iv).toNat)
  case atStart => exact ⟨0, by omega, by omega, rfl, ⟨B1.out, C1.out, pat_of.first m k ▸ D1.out⟩⟩
  case round =>
    clear B1 C1 D1
    obtain ⟨i, hi0, hik, rfl, F⟩ := hrel
    by_cases c1 : i < k
    · have d1 : decide (i < k) = true := decide_eq_true c1
      have x0 := pat_of.mul i m k hi0 (by omega) hm (by omega)
      have x1 := pat_of.mul (i + 1) m k (by omega) (by omega) hm (by omega)
      have w0 : wrap64 (i * m) = i * m := pat_of.w64 _ x0
      have w1 : wrap64 ((i + 1) * m) = (i + 1) * m := pat_of.w64 _ x1
      have w2 : wrap64 (i + 1) = (i + 1) := pat_of.w64 _ (by omega)
      have e0 := Aside0.mk (pat_of.ceil (i * m) k x0.1 x0.2 (by omega) h6)
      have e1 := Aside0.mk (pat_of.ceil ((i + 1) * m) k x1.1 x1.2 (by omega) h6)
      go_wp2_with fail
      refine (frac_Ceil.calls _ k _ true _ e0.out).mono ?_
      rintro e w2 ⟨rfl, hb⟩
      have F2 := Aside0.mk (show Below w.heap.size w w2 ∧ w2.heap[w.heap.size]? = _ ∧ w2.heap[w.heap.size + 1]? = _ from ⟨below_trans F.out.1 hb, blk_below F.out.2.1 hb, blk_below F.out.2.2 hb⟩)
      clear hb F
      go_wp2_with fail
      refine (frac_Ceil.calls _ k _ true _ e1.out).mono ?_
      rintro e w3 ⟨rfl, hb⟩
      have F3 := Aside0.mk (show Below w.heap.size w w3 ∧ w3.heap[w.heap.size]? = _ ∧ w3.heap[w.heap.size + 1]? = _ from ⟨below_trans F2.out.1 hb, blk_below F2.out.2.1 hb, blk_below F2.out.2.2 hb⟩)
      clear hb F2
      have st : w3.cell? ⟨w.heap.size + 1, i.toNat, none⟩ = some (.bool false) := (blk_cell F3.out.2.2 i.toNat).trans (pat_of.was m k i hi0 (by omega))
      have fz : w3.frozen? ⟨w.heap.size + 1, i.toNat, none⟩ = false := blk_frozen F3.out.2.2 i.toNat
      have fb := Aside0.mk (show Below w.heap.size w (w3.setCell ⟨w.heap.size + 1, i.toNat, none⟩ (.bool (decide (pat_of.up (i * m) k < pat_of.up ((i + 1) * m) k)))) from below_set F3.out.1 (by omega))
      have fc := Aside0.mk (blk_far F3.out.2.1 (p := ⟨w.heap.size + 1, i.toNat, none⟩) (by show w.heap.size ≠ w.heap.size + 1; omega) (.bool (decide (pat_of.up (i * m) k < pat_of.up ((i + 1) * m) k))))
      have fd := Aside0.mk (blk_put F3.out.2.2 i.toNat _ (pat_of.put m k i hi0 (by omega)))
      clear F3
      go_wp2
      all_goals first
        | exact ⟨⟨i + 1, by omega, by omega, rfl, ⟨fb.out, fc.out, fd.out⟩⟩, by simp [intOf]; omega⟩
        | trace_state
    · have d1 : decide (i < k) = false := decide_eq_false c1
      obtain rfl : i = k := by omega
      clear c1
      have q0 : wr.cell? ⟨w.heap.size + 1, 0, none⟩ = some (.bool (pat_of.bit m i i 0)) := (blk_cell F.out.2.2 0).trans rfl
      have q1 : wr.cell? ⟨w.heap.size + 1, 1, none⟩ = some (.bool (pat_of.bit m i i 1)) := (blk_cell F.out.2.2 1).trans rfl
      have q2 : wr.cell? ⟨w.heap.size + 1, 2, none⟩ = some (.bool (pat_of.bit m i i 2)) := (blk_cell F.out.2.2 2).trans rfl
      have q3 : wr.cell? ⟨w.heap.size + 1, 3, none⟩ = some (.bool (pat_of.bit m i i 3)) := (blk_cell F.out.2.2 3).trans rfl
      have q4 : wr.cell? ⟨w.heap.size + 1, 4, none⟩ = some (.bool (pat_of.bit m i i 4)) := (blk_cell F.out.2.2 4).trans rfl
      have q5 : wr.cell? ⟨w.heap.size + 1, 5, none⟩ = some (.bool (pat_of.bit m i i 5)) := (blk_cell F.out.2.2 5).trans rfl
      have H1 : (#[.bool (pat_of.bit m i i 0), .bool (pat_of.bit m i i 1), .bool (pat_of.bit m i i 2), .bool (pat_of.bit m i i 3), .bool (pat_of.bit m i i 4), .bool (pat_of.bit m i i 5)] : Array Value).all (·.oneCell') = true := by simp [Value.oneCell']
      go_wp2_with (refine wpList_store_row rfl 59 _ _ rfl w.heap.size #[.bool (pat_of.bit m i i 0), .bool (pat_of.bit m i i 1), .bool (pat_of.bit m i i 2), .bool (pat_of.bit m i i 3), .bool (pat_of.bit m i i 4), .bool (pat_of.bit m i i 5)] rfl rfl 59 #[.bool false, .bool false, .bool false, .bool false, .bool false, .bool false] F.out.2.1 (by kernel_rfl) rfl H1 ?_)
      refine bodyPost_ret (results_cell_row rfl _ _ w.heap.size 59 #[.bool (pat_of.bit m i i 0), .bool (pat_of.bit m i i 1), .bool (pat_of.bit m i i 2), .bool (pat_of.bit m i i 3), .bool (pat_of.bit m i i 4), .bool (pat_of.bit m i i 5)] (0, 0) _ rfl (setRow_heap _ _ _ _ _ _ F.out.2.1) Try.underlying59 rfl (by kernel_rfl)) rfl ⟨rfl, below_setRow F.out.1 (Nat.le_refl _) _⟩

/-! ### pat_On: function 10 -/
def pat_On.f (m k j : Int) : Option Bool := if 1 ≤ m ∧ m ≤ k ∧ k ≤ 6 ∧ 0 ≤ j ∧ j ≤ 1099511627776 then some (pat_of.on m k (j % k)) else some false
set_option maxHeartbeats 32000000 in
set_option maxRecDepth 100000 in
theorem pat_On.calls (m k j : Int) (r : Bool) (w : World) (h : pat_On.f m k j = some r) :
    Calls Try.prog 10 #[.int .i64 m, .int .i64 k, .int .i64 j] w fun e w' => e = .returned (.bool r) ∧ Below w.heap.size w w' := by
  have hu := Try.underlying59
  by_cases c1 : 1 ≤ m ∧ m ≤ k ∧ k ≤ 6
  · have M : pat_May.f m k = some true := by unfold pat_May.f; rw [if_pos c1.1, if_pos c1.2.1, decide_eq_true c1.2.2]
    by_cases c2 : 0 ≤ j ∧ j ≤ 1099511627776
    · have I : pat_in.f j = some true := by unfold pat_in.f; rw [if_pos c2.1, decide_eq_true c2.2]
      have H : pat_On.f m k j = some (pat_of.on m k (j % k)) := by unfold pat_On.f; rw [if_pos ⟨c1.1, c1.2.1, c1.2.2, c2.1, c2.2⟩]
      rw [H] at h
      simp only [Option.some.injEq] at h
      subst h
      clear H
      have hx : ∀ w : World, (Instr.index 59 (.agg #[.bool (pat_of.bit m k k 0), .bool (pat_of.bit m k k 1), .bool (pat_of.bit m k k 2), .bool (pat_of.bit m k k 3), .bool (pat_of.bit m k k 4), .bool (pat_of.bit m k k 5)]) (.int .i64 (j % k))).run Try.prog w = .ok (.bool (pat_of.on m k (j % k))) w := by
        have h0 := Int.emod_nonneg j (b := k) (by omega)
        have h1 := Int.emod_lt_of_pos j (b := k) (by omega)
        generalize j % k = q at h0 h1 ⊢
        have hq : q = 0 ∨ q = 1 ∨ q = 2 ∨ q = 3 ∨ q = 4 ∨ q = 5 := by omega
        have hb : pat_of.bit m k k q = pat_of.on m k q := by unfold pat_of.bit; rw [decide_eq_true h1, Bool.true_and]
        rw [← hb]
        rcases hq with rfl | rfl | rfl | rfl | rfl | rfl <;> intro w <;> kernel_rfl
      go_enter Try.func10, Try.ntmps10
      go_wp2_with fail
      go_region_with (first
        | (go_at_call 22; refine (pat_May.calls _ _ true _ M).mono ?_; rintro e w2 ⟨rfl, ⟨n2, rfl⟩⟩)
        | (go_at_call 23; refine (pat_in.calls _ true _ I).mono ?_; rintro e w2 ⟨rfl, ⟨n2, rfl⟩⟩)
        | (go_at_call 24; refine (pat_of.calls _ _ _ c1.1 c1.2.1 c1.2.2).mono ?_; rintro e w2 ⟨rfl, hb⟩))
      all_goals go_wp2
      all_goals refine bodyPost_ret (v := .bool (pat_of.on m k (j % k))) (by simp [results, Try.results10, go_sem]) rfl ⟨rfl, ?_⟩
      all_goals first
        | exact hb
        | exact below_trans (pw_below_drewN (pw_below_drewN (Below.refl _ _) _) _) hb
        | exact below_trans (pw_below_drewN (Below.refl _ _) _) hb
        | exact below_trans (pw_below_drewN (below_drew1 (Below.refl _ _)) _) hb
        | trace_state
    · have I : pat_in.f j = some false := by
        unfold pat_in.f
        by_cases a : j ≥ 0
        · rw [if_pos a, decide_eq_false (fun x => c2 ⟨a, x⟩)]
        · rw [if_neg a]
      have H : pat_On.f m k j = some false := by unfold pat_On.f; rw [if_neg (fun x => c2 ⟨x.2.2.2.1, x.2.2.2.2⟩)]
      rw [H] at h
      simp only [Option.some.injEq] at h
      subst h
      clear H c1 c2
      go_enter Try.func10, Try.ntmps10
      go_wp2_with fail
      go_quiet (first | (go_at_call 22; exact quiet_drawn (pat_May.calls _ _ _ _ M)) | (go_at_call 23; exact quiet_drawn (pat_in.calls _ _ _ I)))
      go_wp2
      exact bodyPost_ret (v := .bool false) (by simp [results, Try.results10, go_sem]) rfl ⟨rfl, pw_below_drewN (Below.refl _ _) _⟩
  · have M : pat_May.f m k = some false := by
      unfold pat_May.f
      by_cases a : m ≥ 1
      · rw [if_pos a]
        by_cases b : m ≤ k
        · rw [if_pos b, decide_eq_false (fun x => c1 ⟨a, b, x⟩)]
        · rw [if_neg b]
      · rw [if_neg a]
    have H : pat_On.f m k j = some false := by unfold pat_On.f; rw [if_neg (fun x => c1 ⟨x.1, x.2.1, x.2.2.1⟩)]
    rw [H] at h
    simp only [Option.some.injEq] at h
    subst h
    clear H c1
    go_enter Try.func10, Try.ntmps10
    go_wp2_with fail
    go_quiet (first | (go_at_call 22; exact quiet_drawn (pat_May.calls _ _ _ _ M)))
    go_wp2
    exact bodyPost_ret (v := .bool false) (by simp [results, Try.results10, go_sem]) rfl ⟨rfl, pw_below_drewN (Below.refl _ _) _⟩

-- NOT PRINTED: function 45 (spec_to)

end Go.Proofs.Ytphonmldcbgklaa.P
