-- Written by a program of this session (hprint.py), out of the translation; functions that the print does not take are given by hand.
import Derived.Test.YtceldebkpjgmkaaPx0
import Derived.Test.YtceldebkpjgmkaaPx4
import Derived.Test.YtceldebkpjgmkaaPx9
namespace Go.Proofs.Ytceldebkpjgmkaa.P
open Go.RowKit Go.Proofs.YtceldebkpjgmkaaM Go.Proofs.YtceldebkpjgmkaaW.PrintWords Go.Proofs.YtceldebkpjgmkaaW.PrintLast Go.Proofs.YtceldebkpjgmkaaW.PrintMore
attribute [local go_sem] max2_int min2_int max_two min_two max_three min_three max_four min_four   -- for this text's walks alone
set_option linter.unusedVariables false
set_option linter.unusedSimpArgs false

/-! ### frac_Ceil: function 56 -/
def frac_Ceil.f (a0 : Int) (a1 : Int) : Option (Int × Bool) := if 0 ≤ a0 ∧ a0 ≤ 4611686018427387904 ∧ 1 ≤ a1 ∧ a1 ≤ 4611686018427387904 then some (a0 / a1 + min (a0 % a1) 1, true) else some (0, false)
set_option maxHeartbeats 8000000 in
set_option maxRecDepth 100000 in
theorem frac_Ceil.calls (a0 : Int) (a1 : Int) (r1 : Int) (r2 : Bool) (w : World) (h : frac_Ceil.f a0 a1 = some (r1, r2)) :
    Calls Try.prog 56 #[.int .i64 a0, .int .i64 a1] w fun e w' => e = .returned (.tuple #[.int .i64 r1, .bool r2]) ∧ Below w.heap.size w w' := by
  have hmf : ∀ (fn : Fn) (first cap : Array Value) (w : World), (Instr.makeFunc fn first cap).run Try.prog w = .ok (.func fn first cap) w := fun _ _ _ _ => rfl
  have hu := Try.underlying98
  by_cases c0 : 0 ≤ a0
  · by_cases c1 : a0 ≤ 4611686018427387904
    · by_cases c2 : 1 ≤ a1
      · by_cases c3 : a1 ≤ 4611686018427387904
        · have H : frac_Ceil.f a0 a1 = some (a0 / a1 + min (a0 % a1) 1, true) := by unfold frac_Ceil.f; rw [if_pos ⟨c0, c1, c2, c3⟩]
          rw [H] at h
          simp only [Option.some.injEq, Prod.mk.injEq] at h
          obtain ⟨rfl, rfl⟩ := h
          clear H
          have d0 : decide (0 ≤ a0) = true := decide_eq_true c0
          have d1 : decide (a0 ≤ 4611686018427387904) = true := decide_eq_true c1
          have d2 : decide (1 ≤ a1) = true := decide_eq_true c2
          have d3 : decide (a1 ≤ 4611686018427387904) = true := decide_eq_true c3
          have d4 : ¬ a1 = 0 := by omega
          have hm := Int.emod_nonneg a0 d4
          have hq0 : 0 ≤ a0 / a1 := Int.ediv_nonneg c0 (by omega)
          have hq1 : a0 / a1 ≤ a0 := Int.ediv_le_self _ c0
          by_cases e : 1 < a0 % a1
          · have H : min (a0 % a1) 1 = 1 := by omega
            rw [H]
            clear H
            go_enter Try.func56, Try.ntmps56
            go_wp2
            go_quiet (fail)
            go_wp2
            go_ret2
            exact ⟨rfl, by repeat (first | exact Below.refl _ _ | apply below_alloc | apply pw_below_drewN | apply below_drew1)⟩
          · have H : min (a0 % a1) 1 = a0 % a1 := by omega
            rw [H]
            clear H
            go_enter Try.func56, Try.ntmps56
            go_wp2
            go_quiet (fail)
            go_wp2
            go_ret2
            exact ⟨rfl, by repeat (first | exact Below.refl _ _ | apply below_alloc | apply pw_below_drewN | apply below_drew1)⟩
        · have H : frac_Ceil.f a0 a1 = some (0, false) := by unfold frac_Ceil.f; rw [if_neg (fun h => c3 h.2.2.2)]
          rw [H] at h
          simp only [Option.some.injEq, Prod.mk.injEq] at h
          obtain ⟨rfl, rfl⟩ := h
          clear H
          have d0 : decide (0 ≤ a0) = true := decide_eq_true c0
          have d1 : decide (a0 ≤ 4611686018427387904) = true := decide_eq_true c1
          have d2 : decide (1 ≤ a1) = true := decide_eq_true c2
          have d3 : decide (a1 ≤ 4611686018427387904) = false := decide_eq_false c3
          go_enter Try.func56, Try.ntmps56
          go_wp2
          go_ret2
          exact ⟨rfl, by repeat (first | exact Below.refl _ _ | apply below_alloc | apply pw_below_drewN | apply below_drew1)⟩
      · have H : frac_Ceil.f a0 a1 = some (0, false) := by unfold frac_Ceil.f; rw [if_neg (fun h => c2 h.2.2.1)]
        rw [H] at h
        simp only [Option.some.injEq, Prod.mk.injEq] at h
        obtain ⟨rfl, rfl⟩ := h
        clear H
        have d0 : decide (0 ≤ a0) = true := decide_eq_true c0
        have d1 : decide (a0 ≤ 4611686018427387904) = true := decide_eq_true c1
        have d2 : decide (1 ≤ a1) = false := decide_eq_false c2
        go_enter Try.func56, Try.ntmps56
        go_wp2
        go_ret2
        exact ⟨rfl, by repeat (first | exact Below.refl _ _ | apply below_alloc | apply pw_below_drewN | apply below_drew1)⟩
    · have H : frac_Ceil.f a0 a1 = some (0, false) := by unfold frac_Ceil.f; rw [if_neg (fun h => c1 h.2.1)]
      rw [H] at h
      simp only [Option.some.injEq, Prod.mk.injEq] at h
      obtain ⟨rfl, rfl⟩ := h
      clear H
      have d0 : decide (0 ≤ a0) = true := decide_eq_true c0
      have d1 : decide (a0 ≤ 4611686018427387904) = false := decide_eq_false c1
      go_enter Try.func56, Try.ntmps56
      go_wp2
      go_ret2
      exact ⟨rfl, by repeat (first | exact Below.refl _ _ | apply below_alloc | apply pw_below_drewN | apply below_drew1)⟩
  · have H : frac_Ceil.f a0 a1 = some (0, false) := by unfold frac_Ceil.f; rw [if_neg (fun h => c0 h.1)]
    rw [H] at h
    simp only [Option.some.injEq, Prod.mk.injEq] at h
    obtain ⟨rfl, rfl⟩ := h
    clear H
    have d0 : decide (0 ≤ a0) = false := decide_eq_false c0
    go_enter Try.func56, Try.ntmps56
    go_wp2
    go_ret2
    exact ⟨rfl, by repeat (first | exact Below.refl _ _ | apply below_alloc | apply pw_below_drewN | apply below_drew1)⟩

/-! ### pat_of: function 38 -/
def pat_of.up (x k : Int) : Int := x / k + min (x % k) 1
def pat_of.on (m k q : Int) : Bool := decide (pat_of.up (q * m) k < pat_of.up ((q + 1) * m) k)
def pat_of.bit (m k i q : Int) : Bool := decide (q < i) && pat_of.on m k q
theorem pat_of.ceil (x k : Int) (h0 : 0 ≤ x) (h1 : x ≤ 100) (h2 : 1 ≤ k) (h3 : k ≤ 6) : frac_Ceil.f x k = some (pat_of.up x k, true) := by
  unfold frac_Ceil.f pat_of.up
  rw [if_pos ⟨h0, by omega, h2, by omega⟩]
def pat_of.cells (m k i : Int) : Array Value := #[.bool (pat_of.bit m k i 0), .bool (pat_of.bit m k i 1), .bool (pat_of.bit m k i 2), .bool (pat_of.bit m k i 3), .bool (pat_of.bit m k i 4), .bool (pat_of.bit m k i 5)]
theorem pat_of.put (m k i : Int) (h0 : 0 ≤ i) (h5 : i < 6) : (pat_of.cells m k i).setIfInBounds i.toNat (.bool (decide (pat_of.up (i * m) k < pat_of.up ((i + 1) * m) k))) = pat_of.cells m k (i + 1) := by
  have : i = 0 ∨ i = 1 ∨ i = 2 ∨ i = 3 ∨ i = 4 ∨ i = 5 := by omega
  rcases this with rfl | rfl | rfl | rfl | rfl | rfl <;> simp [pat_of.cells, pat_of.bit, pat_of.on]
theorem pat_of.was (m k i : Int) (h0 : 0 ≤ i) (h5 : i < 6) : (pat_of.cells m k i)[i.toNat]? = some (.bool false) := by
  have : i = 0 ∨ i = 1 ∨ i = 2 ∨ i = 3 ∨ i = 4 ∨ i = 5 := by omega
  rcases this with rfl | rfl | rfl | rfl | rfl | rfl <;> simp [pat_of.cells, pat_of.bit]
theorem pat_of.first (m k : Int) : pat_of.cells m k 0 = #[.bool false, .bool false, .bool false, .bool false, .bool false, .bool false] := by
  simp [pat_of.cells, pat_of.bit]
theorem pat_of.mul (i m k : Int) (h0 : 0 ≤ i) (h1 : i ≤ 6) (h2 : 1 ≤ m) (h3 : m ≤ 6) : 0 ≤ i * m ∧ i * m ≤ 100 := by
  have : i = 0 ∨ i = 1 ∨ i = 2 ∨ i = 3 ∨ i = 4 ∨ i = 5 ∨ i = 6 := by omega
  rcases this with rfl | rfl | rfl | rfl | rfl | rfl | rfl <;> omega
theorem pat_of.w64 (x : Int) (h : 0 ≤ x ∧ x ≤ 100) : wrap64 x = x := by
  obtain ⟨h0, h1⟩ := h
  unfold wrap64
  omega
set_option maxHeartbeats 32000000 in
set_option maxRecDepth 100000 in
theorem pat_of.calls (m k : Int) (w : World) (hm : 1 ≤ m) (hk : m ≤ k) (h6 : k ≤ 6) :
    Calls Try.prog 38 #[.int .i64 m, .int .i64 k] w fun e w' => e = .returned (.agg #[.bool (pat_of.bit m k k 0), .bool (pat_of.bit m k k 1), .bool (pat_of.bit m k k 2), .bool (pat_of.bit m k k 3), .bool (pat_of.bit m k k 4), .bool (pat_of.bit m k k 5)]) ∧ Below w.heap.size w w' := by
  go_enter Try.func38, Try.ntmps38
  go_wp2_with fail
  have B1 := Aside0.mk (below_alloc (below_alloc (Below.refl w.heap.size w) (.cells (#[.bool false, .bool false, .bool false, .bool false, .bool false, .bool false] : Array Value) 77)) (.cells (#[.bool false, .bool false, .bool false, .bool false, .bool false, .bool false] : Array Value) 77))
  have C1 := Aside0.mk (two_old w (.cells (#[.bool false, .bool false, .bool false, .bool false, .bool false, .bool false] : Array Value) 77) (.cells (#[.bool false, .bool false, .bool false, .bool false, .bool false, .bool false] : Array Value) 77))
  have D1 := Aside0.mk (two_new w (.cells (#[.bool false, .bool false, .bool false, .bool false, .bool false, .bool false] : Array Value) 77) (.cells (#[.bool false, .bool false, .bool false, .bool false, .bool false, .bool false] : Array Value) 77))
  go_loopw [12] (fun iv wr => ∃ i : Int, 0 ≤ i ∧ i ≤ k ∧ iv = .int .i64 i ∧ Aside0 (Below w.heap.size w wr ∧ wr.heap[w.heap.size]? = some (.cells #[.bool false, .bool false, .bool false, .bool false, .bool false, .bool false] 77 (0, 0)) ∧ wr.heap[w.heap.size + 1]? = some (.cells (pat_of.cells m k i) 77 (0, 0)))) (fun iv _ => (k - intOf iv).toNat)
  case atStart => exact ⟨0, by omega, by omega, rfl, ⟨B1.out, C1.out, pat_of.first m k ▸ D1.out⟩⟩
  case round =>
    clear B1 C1 D1
    obtain ⟨i, hi0, hik, rfl, F⟩ := hrel
    by_cases c1 : i < k
    · have d1 : decide (i < k) = true := decide_eq_true c1
      have x0 := pat_of.mul i m k hi0 (by omega) hm (by omega)
      have x1 := pat_of.mul (i + 1) m k (by omega) (by omega) hm (by omega)
      have w0 : wrap64 (i * m) = i * m := pat_of.w64 _ x0
      have w1 : wrap64 ((i + 1) * m) = (i + 1) * m := pat_of.w64 _ x1
      have w2 : wrap64 (i + 1) = (i + 1) := pat_of.w64 _ (by omega)
      have e0 := Aside0.mk (pat_of.ceil (i * m) k x0.1 x0.2 (by omega) h6)
      have e1 := Aside0.mk (pat_of.ceil ((i + 1) * m) k x1.1 x1.2 (by omega) h6)
      go_wp2_with fail
      refine (frac_Ceil.calls _ k _ true _ e0.out).mono ?_
      rintro e w2 ⟨rfl, hb⟩
      have F2 := Aside0.mk (show Below w.heap.size w w2 ∧ w2.heap[w.heap.size]? = _ ∧ w2.heap[w.heap.size + 1]? = _ from ⟨below_trans F.out.1 hb, blk_below F.out.2.1 hb, blk_below F.out.2.2 hb⟩)
      clear hb F
      go_wp2_with fail
      refine (frac_Ceil.calls _ k _ true _ e1.out).mono ?_
      rintro e w3 ⟨rfl, hb⟩
      have F3 := Aside0.mk (show Below w.heap.size w w3 ∧ w3.heap[w.heap.size]? = _ ∧ w3.heap[w.heap.size + 1]? = _ from ⟨below_trans F2.out.1 hb, blk_below F2.out.2.1 hb, blk_below F2.out.2.2 hb⟩)
      clear hb F2
      have st : w3.cell? ⟨w.heap.size + 1, i.toNat, none⟩ = some (.bool false) := (blk_cell F3.out.2.2 i.toNat).trans (pat_of.was m k i hi0 (by omega))
      have fz : w3.frozen? ⟨w.heap.size + 1, i.toNat, none⟩ = false := blk_frozen F3.out.2.2 i.toNat
      have fb := Aside0.mk (show Below w.heap.size w (w3.setCell ⟨w.heap.size + 1, i.toNat, none⟩ (.bool (decide (pat_of.up (i * m) k < pat_of.up ((i + 1) * m) k)))) from below_set F3.out.1 (by omega))
      have fc := Aside0.mk (blk_far F3.out.2.1 (p := ⟨w.heap.size + 1, i.toNat, none⟩) (by show w.heap.size ≠ w.heap.size + 1; omega) (.bool (decide (pat_of.up (i * m) k < pat_of.up ((i + 1) * m) k))))
      have fd := Aside0.mk (blk_put F3.out.2.2 i.toNat _ (pat_of.put m k i hi0 (by omega)))
      clear F3
      go_wp2
      all_goals first
        | exact ⟨⟨i + 1, by omega, by omega, rfl, ⟨fb.out, fc.out, fd.out⟩⟩, by simp [intOf]; omega⟩
        | trace_state
    · have d1 : decide (i < k) = false := decide_eq_false c1
      obtain rfl : i = k := by omega
      clear c1
      have q0 : wr.cell? ⟨w.heap.size + 1, 0, none⟩ = some (.bool (pat_of.bit m i i 0)) := (blk_cell F.out.2.2 0).trans rfl
      have q1 : wr.cell? ⟨w.heap.size + 1, 1, none⟩ = some (.bool (pat_of.bit m i i 1)) := (blk_cell F.out.2.2 1).trans rfl
      have q2 : wr.cell? ⟨w.heap.size + 1, 2, none⟩ = some (.bool (pat_of.bit m i i 2)) := (blk_cell F.out.2.2 2).trans rfl
      have q3 : wr.cell? ⟨w.heap.size + 1, 3, none⟩ = some (.bool (pat_of.bit m i i 3)) := (blk_cell F.out.2.2 3).trans rfl
      have q4 : wr.cell? ⟨w.heap.size + 1, 4, none⟩ = some (.bool (pat_of.bit m i i 4)) := (blk_cell F.out.2.2 4).trans rfl
      have q5 : wr.cell? ⟨w.heap.size + 1, 5, none⟩ = some (.bool (pat_of.bit m i i 5)) := (blk_cell F.out.2.2 5).trans rfl
      have H1 : (#[.bool (pat_of.bit m i i 0), .bool (pat_of.bit m i i 1), .bool (pat_of.bit m i i 2), .bool (pat_of.bit m i i 3), .bool (pat_of.bit m i i 4), .bool (pat_of.bit m i i 5)] : Array Value).all (·.oneCell') = true := by simp [Value.oneCell']
      go_wp2_with (refine wpList_store_row rfl 77 _ _ rfl w.heap.size #[.bool (pat_of.bit m i i 0), .bool (pat_of.bit m i i 1), .bool (pat_of.bit m i i 2), .bool (pat_of.bit m i i 3), .bool (pat_of.bit m i i 4), .bool (pat_of.bit m i i 5)] rfl rfl 77 #[.bool false, .bool false, .bool false, .bool false, .bool false, .bool false] F.out.2.1 (by kernel_rfl) rfl H1 ?_)
      refine bodyPost_ret (results_cell_row rfl _ _ w.heap.size 77 #[.bool (pat_of.bit m i i 0), .bool (pat_of.bit m i i 1), .bool (pat_of.bit m i i 2), .bool (pat_of.bit m i i 3), .bool (pat_of.bit m i i 4), .bool (pat_of.bit m i i 5)] (0, 0) _ rfl (setRow_heap _ _ _ _ _ _ F.out.2.1) Try.underlying77 rfl (by kernel_rfl)) rfl ⟨rfl, below_setRow F.out.1 (Nat.le_refl _) _⟩

/-! ### pat_On: function 25 -/
def pat_On.f (m k j : Int) : Option Bool := if 1 ≤ m ∧ m ≤ k ∧ k ≤ 6 ∧ 0 ≤ j ∧ j ≤ 1099511627776 then some (pat_of.on m k (j % k)) else some false
set_option maxHeartbeats 32000000 in
set_option maxRecDepth 100000 in
theorem pat_On.calls (m k j : Int) (r : Bool) (w : World) (h : pat_On.f m k j = some r) :
    Calls Try.prog 25 #[.int .i64 m, .int .i64 k, .int .i64 j] w fun e w' => e = .returned (.bool r) ∧ Below w.heap.size w w' := by
  have hu := Try.underlying77
  by_cases c1 : 1 ≤ m ∧ m ≤ k ∧ k ≤ 6
  · have M : pat_May.f m k = some true := by unfold pat_May.f; rw [if_pos c1.1, if_pos c1.2.1, decide_eq_true c1.2.2]
    by_cases c2 : 0 ≤ j ∧ j ≤ 1099511627776
    · have I : pat_in.f j = some true := by unfold pat_in.f; rw [if_pos c2.1, decide_eq_true c2.2]
      have H : pat_On.f m k j = some (pat_of.on m k (j % k)) := by unfold pat_On.f; rw [if_pos ⟨c1.1, c1.2.1, c1.2.2, c2.1, c2.2⟩]
      rw [H] at h
      simp only [Option.some.injEq] at h
      subst h
      clear H
      have hx : ∀ w : World, (Instr.index 77 (.agg #[.bool (pat_of.bit m k k 0), .bool (pat_of.bit m k k 1), .bool (pat_of.bit m k k 2), .bool (pat_of.bit m k k 3), .bool (pat_of.bit m k k 4), .bool (pat_of.bit m k k 5)]) (.int .i64 (j % k))).run Try.prog w = .ok (.bool (pat_of.on m k (j % k))) w := by
        have h0 := Int.emod_nonneg j (b := k) (by omega)
        have h1 := Int.emod_lt_of_pos j (b := k) (by omega)
        generalize j % k = q at h0 h1 ⊢
        have hq : q = 0 ∨ q = 1 ∨ q = 2 ∨ q = 3 ∨ q = 4 ∨ q = 5 := by omega
        have hb : pat_of.bit m k k q = pat_of.on m k q := by unfold pat_of.bit; rw [decide_eq_true h1, Bool.true_and]
        rw [← hb]
        rcases hq with rfl | rfl | rfl | rfl | rfl | rfl <;> intro w <;> kernel_rfl
      go_enter Try.func25, Try.ntmps25
      go_wp2_with fail
      go_region_with (first
        | (go_at_call 36; refine (pat_May.calls _ _ true _ M).mono ?_; rintro e w2 ⟨rfl, ⟨n2, rfl⟩⟩)
        | (go_at_call 37; refine (pat_in.calls _ true _ I).mono ?_; rintro e w2 ⟨rfl, ⟨n2, rfl⟩⟩)
        | (go_at_call 38; refine (pat_of.calls _ _ _ c1.1 c1.2.1 c1.2.2).mono ?_; rintro e w2 ⟨rfl, hb⟩))
      all_goals go_wp2
      all_goals refine bodyPost_ret (v := .bool (pat_of.on m k (j % k))) (by simp [results, Try.results25, go_sem]) rfl ⟨rfl, ?_⟩
      all_goals first
        | exact hb
        | exact below_trans (pw_below_drewN (pw_below_drewN (Below.refl _ _) _) _) hb
        | exact below_trans (pw_below_drewN (Below.refl _ _) _) hb
        | exact below_trans (pw_below_drewN (below_drew1 (Below.refl _ _)) _) hb
        | trace_state
    · have I : pat_in.f j = some false := by
        unfold pat_in.f
        by_cases a : j ≥ 0
        · rw [if_pos a, decide_eq_false (fun x => c2 ⟨a, x⟩)]
        · rw [if_neg a]
      have H : pat_On.f m k j = some false := by unfold pat_On.f; rw [if_neg (fun x => c2 ⟨x.2.2.2.1, x.2.2.2.2⟩)]
      rw [H] at h
      simp only [Option.some.injEq] at h
      subst h
      clear H c1 c2
      go_enter Try.func25, Try.ntmps25
      go_wp2_with fail
      go_quiet (first | (go_at_call 36; exact quiet_drawn (pat_May.calls _ _ _ _ M)) | (go_at_call 37; exact quiet_drawn (pat_in.calls _ _ _ I)))
      go_wp2
      exact bodyPost_ret (v := .bool false) (by simp [results, Try.results25, go_sem]) rfl ⟨rfl, pw_below_drewN (Below.refl _ _) _⟩
  · have M : pat_May.f m k = some false := by
      unfold pat_May.f
      by_cases a : m ≥ 1
      · rw [if_pos a]
        by_cases b : m ≤ k
        · rw [if_pos b, decide_eq_false (fun x => c1 ⟨a, b, x⟩)]
        · rw [if_neg b]
      · rw [if_neg a]
    have H : pat_On.f m k j = some false := by unfold pat_On.f; rw [if_neg (fun x => c1 ⟨x.1, x.2.1, x.2.2.1⟩)]
    rw [H] at h
    simp only [Option.some.injEq] at h
    subst h
    clear H c1
    go_enter Try.func25, Try.ntmps25
    go_wp2_with fail
    go_quiet (first | (go_at_call 36; exact quiet_drawn (pat_May.calls _ _ _ _ M)))
    go_wp2
    exact bodyPost_ret (v := .bool false) (by simp [results, Try.results25, go_sem]) rfl ⟨rfl, pw_below_drewN (Below.refl _ _) _⟩

end Go.Proofs.Ytceldebkpjgmkaa.P
