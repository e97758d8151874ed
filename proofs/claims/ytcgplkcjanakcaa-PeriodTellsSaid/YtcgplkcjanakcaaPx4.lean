-- Written by a program of this session (hprint.py), out of the translation; functions that the print does not take are given by hand.
import Derived.Test.YtcgplkcjanakcaaPx0
import Derived.Test.YtcgplkcjanakcaaPx2
import Derived.Test.YtcgplkcjanakcaaPx3
namespace Go.Proofs.Ytcgplkcjanakcaa.P
open Go.RowKit Go.Proofs.YtcgplkcjanakcaaM Go.Proofs.YtcgplkcjanakcaaW.PrintWords Go.Proofs.YtcgplkcjanakcaaW.PrintLast Go.Proofs.YtcgplkcjanakcaaW.PrintMore
attribute [local go_sem] max2_int min2_int max_two min_two max_three min_three max_four min_four   -- for this text's walks alone
set_option linter.unusedVariables false
set_option linter.unusedSimpArgs false

/-! ### fuseeref06_Ints: function 11 -/
def fuseeref06_Ints.l0 : Nat → List Int → List Int → Int → Option (Bool)
  | 0, _, _, _ => none
  | k + 1, x0, x1, x5 => if x5 < (x0.length : Int) then (if 0 ≤ x5 then (if x5 < (x1.length : Int) then (if (rd x0 x5) = (rd x1 x5) then (fuseeref06_Ints.l0 k x0 x1 (wrap64 (x5 + 1))) else (some false)) else (none)) else (none)) else (some true)
def fuseeref06_Ints.f (k : Nat) (l0 : List Int) (l1 : List Int) : Option (Bool) := if (l0.length : Int) = (l1.length : Int) then (fuseeref06_Ints.l0 k l0 l1 0) else (some false)
theorem fuseeref06_Ints.mono_l : ∀ k, (∀ y0 y1 y2, LeO (fuseeref06_Ints.l0 k y0 y1 y2) (fuseeref06_Ints.l0 (k + 1) y0 y1 y2))
  | 0 => fun _ _ _ r h => by simp [fuseeref06_Ints.l0] at h
  | k + 1 => by
    have ih0 := fuseeref06_Ints.mono_l k
    · intro y0 y1 y2
      unfold fuseeref06_Ints.l0
      repeat' first
      | (with_reducible exact ih0 _ _ _)
      | (with_reducible exact LeO.refl _)
      | (with_reducible exact LeO.none _)
      | (with_reducible refine LeO.ite ?_ ?_)
      | (with_reducible refine LeO.bind ?_ (fun _ => ?_))
      | exact ih0 _ _ _
      | exact LeO.none _
      | refine LeO.ite ?_ ?_
      | refine LeO.bind ?_ (fun _ => ?_)
theorem fuseeref06_Ints.mono : ∀ a0 a1 k, LeO (fuseeref06_Ints.f k a0 a1) (fuseeref06_Ints.f (k + 1) a0 a1) := by
  intro a0 a1 k
  have ih0 := fuseeref06_Ints.mono_l k
  unfold fuseeref06_Ints.f
  repeat' first
      | (with_reducible exact ih0 _ _ _)
      | (with_reducible exact LeO.refl _)
      | (with_reducible exact LeO.none _)
      | (with_reducible refine LeO.ite ?_ ?_)
      | (with_reducible refine LeO.bind ?_ (fun _ => ?_))
      | exact ih0 _ _ _
      | exact LeO.none _
      | refine LeO.ite ?_ ?_
      | refine LeO.bind ?_ (fun _ => ?_)
set_option maxHeartbeats 8000000 in
set_option maxRecDepth 100000 in
theorem fuseeref06_Ints.calls (k : Nat) (A0 : Option Addr) (c0 : Nat) (l0 : List Int) (A1 : Option Addr) (c1 : Nat) (l1 : List Int) (r : Bool) (w : World) (hr0 : Kd.C (Kd.int .i64) w A0 l0.length l0) (hc0 : l0.length ≤ c0) (hr1 : Kd.C (Kd.int .i64) w A1 l1.length l1) (hc1 : l1.length ≤ c1) (h : fuseeref06_Ints.f k l0 l1 = some r) :
    Calls Try.prog 11 #[.slice A0 l0.length c0, .slice A1 l1.length c1] w fun e w' => e = .returned (.bool r) ∧ Drawn0 w w' := by
  have HR0 := Aside0.mk hr0
  have HC0 := Aside0.mk hc0
  clear hr0 hc0
  have HR1 := Aside0.mk hr1
  have HC1 := Aside0.mk hc1
  clear hr1 hc1
  have H : (if (l0.length : Int) = (l1.length : Int) then (fuseeref06_Ints.l0 k l0 l1 0) else (some false)) = some r := h
  clear h
  by_cases c3 : (l0.length : Int) = (l1.length : Int)
  · rw [if_pos c3] at H
    have c3b0 : ((l0.length : Int) == (l1.length : Int)) = true := beq_iff_eq.mpr c3
    have c3b1 : ((l0.length : Int) != (l1.length : Int)) = false := bne_eq_false_iff_eq.mpr c3
    have c3b2 : (l0.length == l1.length) = true := by first | simpa using c3 | (simp at c3 ⊢; omega)
    clear c3
    have H' := Aside0.mk H
    clear H
    go_enter Try.func11, Try.ntmps11
    go_wp2
    repeat (go_quiet (fail); try go_wp2)
    go_loopg [5] k (fun kq v5 w' => ∃ (x5_1 : Int), v5 = .int .i64 x5_1 ∧ Aside0 (fuseeref06_Ints.l0 kq l0 l1 x5_1 = some r) ∧ Aside0 (kq ≤ k) ∧ Drawn0 w w')
    case atStart => exact ⟨(0), (by first | rfl | (simp; done) | (simp [*]; done)), H', ⟨Nat.le_refl _⟩, by repeat (first | exact Drawn0.refl _ | apply Drawn0.step)⟩
    case round =>
      clear H'
      try clear c1
      try clear p2
      try clear c3
      try clear c3b0
      try clear c3b1
      try clear c3b2
      obtain ⟨x5_1, rfl, HA, HK1, ⟨m1, rfl⟩⟩ := hrel
      cases gk with
      | zero => exact absurd HA.out (by simp [fuseeref06_Ints.l0])
      | succ k1 =>
        have H := HA.out
        clear HA
        simp only [fuseeref06_Ints.l0] at H
        by_cases c4 : x5_1 < (l0.length : Int)
        · rw [if_pos c4] at H
          have c4b0 : decide (x5_1 < (l0.length : Int)) = true := decide_eq_true c4
          clear c4
          by_cases c5 : 0 ≤ x5_1
          · rw [if_pos c5] at H
            have c5b0 : decide (0 ≤ x5_1) = true := decide_eq_true c5
            clear c5
            by_cases c6 : x5_1 < (l1.length : Int)
            · rw [if_pos c6] at H
              have c6b0 : decide (x5_1 < (l1.length : Int)) = true := decide_eq_true c6
              clear c6
              by_cases c7 : (rd l0 x5_1) = (rd l1 x5_1)
              · rw [if_pos c7] at H
                have c7b0 : ((rd l0 x5_1) == (rd l1 x5_1)) = true := beq_iff_eq.mpr c7
                have c7b1 : ((rd l0 x5_1) != (rd l1 x5_1)) = false := bne_eq_false_iff_eq.mpr c7
                clear c7
                have H' := Aside0.mk H
                clear H
                have p113 : 0 ≤ (x5_1 : Int) := of_decide_eq_true (by first | (with_reducible assumption) | assumption)
                have q113 : x5_1 < (l0.length : Int) := of_decide_eq_true (by first | (with_reducible assumption) | assumption)
                obtain ⟨ad113, e113, hx113_0⟩ := Kd.at_int HR0.out x5_1 p113 q113
                cases e113
                replace p113 := eq_true p113
                replace q113 := eq_true q113
                have p114 : 0 ≤ (x5_1 : Int) := of_decide_eq_true (by first | (with_reducible assumption) | assumption)
                have q114 : x5_1 < (l1.length : Int) := of_decide_eq_true (by first | (with_reducible assumption) | assumption)
                obtain ⟨ad114, e114, hx114_0⟩ := Kd.at_int HR1.out x5_1 p114 q114
                cases e114
                replace p114 := eq_true p114
                replace q114 := eq_true q114
                go_wp2
                repeat (go_quiet (fail); try go_wp2)
                go_roundg k1
                case measure => have := HK1.out; omega
                case rel => exact ⟨(wrap64 (x5_1 + 1)), (by first | rfl | (simp; done) | (simp [*]; done)), H', ⟨by have := HK1.out; omega⟩, by repeat (first | exact Drawn0.refl _ | apply Drawn0.step)⟩
              · rw [if_neg c7] at H
                have c7b0 : ((rd l0 x5_1) == (rd l1 x5_1)) = false := beq_eq_false_iff_ne.mpr c7
                have c7b1 : ((rd l0 x5_1) != (rd l1 x5_1)) = true := bne_iff_ne.mpr c7
                obtain rfl := Option.some.inj H
                have p113 : 0 ≤ (x5_1 : Int) := of_decide_eq_true (by first | (with_reducible assumption) | assumption)
                have q113 : x5_1 < (l0.length : Int) := of_decide_eq_true (by first | (with_reducible assumption) | assumption)
                obtain ⟨ad113, e113, hx113_0⟩ := Kd.at_int HR0.out x5_1 p113 q113
                cases e113
                replace p113 := eq_true p113
                replace q113 := eq_true q113
                have p114 : 0 ≤ (x5_1 : Int) := of_decide_eq_true (by first | (with_reducible assumption) | assumption)
                have q114 : x5_1 < (l1.length : Int) := of_decide_eq_true (by first | (with_reducible assumption) | assumption)
                obtain ⟨ad114, e114, hx114_0⟩ := Kd.at_int HR1.out x5_1 p114 q114
                cases e114
                replace p114 := eq_true p114
                replace q114 := eq_true q114
                go_wp2
                repeat (go_quiet (fail); try go_wp2)
                go_ret
                exact ⟨by first | rfl | (simp; done) | (simp [*]; done) | (exfalso; contradiction), by repeat (first | exact Drawn0.refl _ | apply Drawn0.step)⟩
            · rw [if_neg c6] at H
              exact absurd H (by simp)
          · rw [if_neg c5] at H
            exact absurd H (by simp)
        · rw [if_neg c4] at H
          have c4b0 : decide (x5_1 < (l0.length : Int)) = false := decide_eq_false c4
          clear c4
          obtain rfl := Option.some.inj H
          go_wp2
          repeat (go_quiet (fail); try go_wp2)
          go_ret
          exact ⟨by first | rfl | (simp; done) | (simp [*]; done) | (exfalso; contradiction), by repeat (first | exact Drawn0.refl _ | apply Drawn0.step)⟩
  · rw [if_neg c3] at H
    have c3b0 : ((l0.length : Int) == (l1.length : Int)) = false := beq_eq_false_iff_ne.mpr c3
    have c3b1 : ((l0.length : Int) != (l1.length : Int)) = true := bne_iff_ne.mpr c3
    have c3b2 : (l0.length == l1.length) = false := by first | simpa using c3 | (simp at c3 ⊢; omega)
    obtain rfl := Option.some.inj H
    go_enter Try.func11, Try.ntmps11
    go_wp2
    repeat (go_quiet (fail); try go_wp2)
    go_ret
    exact ⟨by first | rfl | (simp; done) | (simp [*]; done) | (exfalso; contradiction), by repeat (first | exact Drawn0.refl _ | apply Drawn0.step)⟩

-- NOT PRINTED: function 28 (period_steps_each)

/-! ### period_list: function 22 -/
def period_list.num (a0 a1 a2 : Int) : Nat := ((a2 - a0) / a1 + 1).toNat
def period_list.nums (a0 a1 : Int) (m : Nat) : List Int := (List.range m).map fun (i : Nat) => a0 + (i : Int) * a1
theorem period_list.nums_succ (a0 a1 : Int) (m : Nat) : period_list.nums a0 a1 (m + 1) = period_list.nums a0 a1 m ++ [a0 + (m : Int) * a1] := by
  unfold period_list.nums; rw [List.range_succ, List.map_append]; rfl
theorem period_list.nums_len (a0 a1 : Int) (m : Nat) : (period_list.nums a0 a1 m).length = m := by unfold period_list.nums; simp
theorem period_list.le_iff {a0 a1 a2 : Int} (h : 1 ≤ a1) (k : Nat) : a0 + (k : Int) * a1 ≤ a2 ↔ k < period_list.num a0 a1 a2 := by
  unfold period_list.num
  have := Int.le_ediv_iff_mul_le (a := (k : Int)) (b := a2 - a0) (c := a1) (by omega)
  constructor
  · intro q
    have := this.2 (by omega)
    omega
  · intro q
    have := this.1 (by omega)
    omega
theorem period_list.num_nil : period_list.nums 0 1 0 = [] := rfl
def period_list.f (a0_0 : Int) (a0_1 : Int) (a0_2 : Int) : Option (List Int) :=
  if 1 ≤ a0_1 ∧ 0 ≤ a0_0 ∧ a0_0 ≤ 2199023255552 ∧ a0_1 ≤ 2199023255552 ∧ a0_2 ≤ 2199023255552 ∧ (period_list.num a0_0 a0_1 a0_2 : Nat) ≤ 10000 then some (period_list.nums a0_0 a0_1 (period_list.num a0_0 a0_1 a0_2)) else none
section

attribute [local go_sem] Oper.semAt_some
def period_list.Kp (n₀ Bn : Nat) (W W' : World) : Prop := Below n₀ W W' ∧ ∀ cs, W.heap[Bn]? = some (.cells cs 41 (0, 0)) → W'.heap[Bn]? = some (.cells cs 41 (0, 0))
theorem period_list.Kp_t {n₀ Bn : Nat} {A B C : World} (h : period_list.Kp n₀ Bn A B) (k : period_list.Kp n₀ Bn B C) : period_list.Kp n₀ Bn A C := ⟨h.1.trans k.1, fun cs q => k.2 cs (h.2 cs q)⟩
theorem period_list.Kp_b {n₀ Bn : Nat} {w : World} (hn : n₀ ≤ w.heap.size) (W : World) (l : Nat) (o o' : Obj) (hl : w.heap.size ≤ l) (h : W.heap[l]? = some o) (hc : o.isCells = false) (hw : o.isWalk = false) : period_list.Kp n₀ Bn W (W.putObj l o') :=
  ⟨belowK_b hn W l o o' hl h hc hw, fun cs q => by
    have : Bn ≠ l := fun e => by subst e; rw [q] at h; cases h; cases hc
    exact (World.putObj_heap_other this).trans q⟩
set_option maxRecDepth 100000 in
set_option maxHeartbeats 4000000 in
/-- The iterator: for every body that keeps the numbers. -/
theorem period_list.each1_in (F : Fence) (n : Nat) (h6 : F.fn 40) (hro : F.round = none) (hn : 1 ≤ n) (l Bn n₀ : Nat) (a0 a1 a2 : Int) (h1 : 1 ≤ a1) (h2 : 0 ≤ a0) (h3 : a0 ≤ 2199023255552) (h4 : a1 ≤ 2199023255552) (h5 : a2 ≤ 2199023255552) (J Jx : List Int → World → Prop)
    (hY : ∀ pre x W, J pre W → pre.length < period_list.num a0 a1 a2 → YieldAt F (n - 1) Try.prog l #[.int .i64 x] W fun e W' =>
      (e = .returned (.bool true) ∧ J (pre ++ [x]) W' ∧ period_list.Kp n₀ Bn W W') ∨ (e = .returned (.bool false) ∧ Jx (pre ++ [x]) W'))
    (W : World) (hBn : W.heap[Bn]? = some (.cells #[.int .i64 a0, .int .i64 a1, .int .i64 a2] 41 (0, 0))) (h0 : J [] W) :
    CallsIn F n Try.prog 40 #[.func (.yield l) #[] #[], .pointer (some ⟨Bn, 0, none⟩)] W fun e W' => (∃ v, e = .returned v) ∧
      ((∃ ys, ys = period_list.nums a0 a1 (period_list.num a0 a1 a2) ∧ J ys W') ∨ (∃ pre, True ∧ Jx pre W')) := by
  have hB := Aside0.mk hBn
  have c0 : W.cell? ⟨Bn, 0, none⟩ = some (.int .i64 a0) := (blk_cell hBn 0).trans rfl
  have c1 : W.cell? ⟨Bn, 1, none⟩ = some (.int .i64 a1) := (blk_cell hBn 1).trans rfl
  have c2 : W.cell? ⟨Bn, 2, none⟩ = some (.int .i64 a2) := (blk_cell hBn 2).trans rfl
  have hu := Try.underlying41
  clear hBn
  refine callsIn_of_wp Try.func40 rfl h6 ?_ hro
  simp only [Try.ntmps40, List.size_toArray, List.length_cons, List.length_nil, Nat.reduceAdd, Nat.reduceSub, Array.replicate_succ, Array.replicate_zero, List.push_toArray, List.append_toArray, List.nil_append, List.cons_append]
  gi_wp2
  clear c0 c1 c2
  gi_loopw [3] (fun p wr => ∃ (k : Nat) (x : Int), p = .int .i64 x ∧ Aside0 (x = a0 + (k : Int) * a1 ∧ k ≤ period_list.num a0 a1 a2 ∧ J (period_list.nums a0 a1 k) wr ∧ wr.heap[Bn]? = some (.cells #[.int .i64 a0, .int .i64 a1, .int .i64 a2] 41 (0, 0))))
    (fun p _ => (a2 + a1 - intOf p).toNat)
  case atStart =>
    exact ⟨0, a0, rfl, ⟨by simp, by omega, h0, hB.out⟩⟩
  case round =>
    obtain ⟨k, x, rfl, G⟩ := hrel
    have hb := Aside0.mk G.out.2.2.2
    have c0 : wr.cell? ⟨Bn, 0, none⟩ = some (.int .i64 a0) := (blk_cell hb.out 0).trans rfl
    have c1 : wr.cell? ⟨Bn, 1, none⟩ = some (.int .i64 a1) := (blk_cell hb.out 1).trans rfl
    have c2 : wr.cell? ⟨Bn, 2, none⟩ = some (.int .i64 a2) := (blk_cell hb.out 2).trans rfl
    have hle := period_list.le_iff (a0 := a0) (a2 := a2) h1 k
    rw [← G.out.1] at hle
    by_cases c : x ≤ a2
    · have hk : k < period_list.num a0 a1 a2 := hle.1 c
      obtain ⟨fn, tmps, assign, body, hy, hR⟩ := hY _ x wr G.out.2.2.1 (by rw [period_list.nums_len]; exact hk)
      have hx0 : 0 ≤ x := by
        have := Int.mul_nonneg (Int.natCast_nonneg k) (show 0 ≤ a1 by omega)
        have := G.out.1
        omega
      have hns := Aside0.mk (show period_list.nums a0 a1 k ++ [x] = period_list.nums a0 a1 (k + 1) by rw [period_list.nums_succ, G.out.1])
      have hxs := Aside0.mk (show x + a1 = a0 + ((k + 1 : Nat) : Int) * a1 by rw [G.out.1, Int.natCast_add, Int.add_mul]; omega)
      have HK := Aside0.mk hk
      clear hle hk G
      gi_wp2
      refine hR.mono ?_
      rintro e W3 (⟨rfl, hJ3, hk3⟩ | ⟨rfl, hJx3⟩)
      · have hb3 := Aside0.mk (hk3.2 _ hb.out)
        have HJ3 := Aside0.mk hJ3
        clear hk3 hJ3 c0 c1 c2
        have c0 : W3.cell? ⟨Bn, 0, none⟩ = some (.int .i64 a0) := (blk_cell hb3.out 0).trans rfl
        have c1 : W3.cell? ⟨Bn, 1, none⟩ = some (.int .i64 a1) := (blk_cell hb3.out 1).trans rfl
        have c2 : W3.cell? ⟨Bn, 2, none⟩ = some (.int .i64 a2) := (blk_cell hb3.out 2).trans rfl
        gi_wp2
        go_roundw
        case rel => exact ⟨k + 1, x + a1, rfl, ⟨hxs.out, HK.out, by rw [← hns.out]; exact HJ3.out, hb3.out⟩⟩
        case measure => simp [intOf]; omega
      · have HJ3 := Aside0.mk hJx3
        clear hJx3
        gi_wp2
        go_end0
        exact ⟨⟨_, rfl⟩, .inr ⟨_, trivial, HJ3.out⟩⟩
    · have hk : k = period_list.num a0 a1 a2 := by
        have := G.out.2.1
        have : ¬ k < period_list.num a0 a1 a2 := fun q => c (hle.2 q)
        omega
      have d1 : decide (x ≤ a2) = false := decide_eq_false c
      have HJ := Aside0.mk (show J (period_list.nums a0 a1 (period_list.num a0 a1 a2)) wr by rw [← hk]; exact G.out.2.2.1)
      clear hle hk G c
      gi_wp2
      all_goals
        refine ⟨fun _ h => (by cases h), ?_⟩
        gi_wp2
        go_end0
        exact ⟨⟨_, rfl⟩, .inl ⟨_, rfl, HJ.out⟩⟩
set_option maxHeartbeats 1000000 in
/-- The function that hands back the iterator. -/
theorem period_list.each_in (F : Fence) (n : Nat) (h5 : F.fn 28) (hro : F.round = none) (a0 a1 a2 : Int) (w : World) :
    CallsIn F n Try.prog 28 #[.agg #[.int .i64 a0, .int .i64 a1, .int .i64 a2]] w fun e w' => e = .returned (.func (.func 40) #[] #[.pointer (some ⟨w.heap.size, 0, none⟩)]) ∧ w' = w.alloc (.cells #[.int .i64 a0, .int .i64 a1, .int .i64 a2] 41) := by
  have hu := Try.underlying41
  have hmf : ∀ (fn : Fn) (first cap : Array Value) (w : World), (Instr.makeFunc fn first cap).run Try.prog w = .ok (.func fn first cap) w := fun _ _ _ _ => rfl
  refine callsIn_of_wp Try.func28 rfl h5 ?_ hro
  simp only [Try.ntmps28, List.size_toArray, List.length_cons, List.length_nil, Nat.reduceAdd, Nat.reduceSub, Array.replicate_succ, Array.replicate_zero, List.push_toArray, List.append_toArray, List.nil_append, List.cons_append]
  gi_wp2
  go_ret
  exact ⟨rfl, rfl⟩
theorem period_list.stops (F : Fence) (n : Nat) (h6 : F.fn 40) (hro : F.round = none) (hn : 1 ≤ n) (Bn n₀ : Nat) (a0 a1 a2 : Int) (h1 : 1 ≤ a1) (h2 : 0 ≤ a0) (h3 : a0 ≤ 2199023255552) (h4 : a1 ≤ 2199023255552) (h5 : a2 ≤ 2199023255552) (w : World) (hBn : Bn < w.heap.size)
    (hc : w.heap[Bn]? = some (.cells #[.int .i64 a0, .int .i64 a1, .int .i64 a2] 41 (0, 0))) :
    SeqStopsK F n Try.prog 40 #[.pointer (some ⟨Bn, 0, none⟩)] (fun x : Int => #[Value.int .i64 x]) (period_list.Kp n₀ Bn) (fun ys => ys = period_list.nums a0 a1 (period_list.num a0 a1 a2)) (fun _ => True) (period_list.num a0 a1 a2) w := fun l J Jx W hW _ _ hY h0 =>
  period_list.each1_in F n h6 hro hn l Bn n₀ a0 a1 a2 h1 h2 h3 h4 h5 J Jx hY W (blk_below hc hW) h0
set_option maxRecDepth 100000 in
set_option maxHeartbeats 4000000 in
theorem period_list.list_in (F : Fence) (n : Nat) (h3 : F.fn 22) (h4 : F.fn 28) (h5 : F.fn 40) (hro : F.round = none) (hn : 3 ≤ n) (a0 a1 a2 : Int) (g1 : 1 ≤ a1) (g2 : 0 ≤ a0) (g3 : a0 ≤ 2199023255552) (g4 : a1 ≤ 2199023255552) (g5 : a2 ≤ 2199023255552) (g6 : period_list.num a0 a1 a2 ≤ 10000) (w : World) :
    CallsIn F n Try.prog 22 #[.agg #[.int .i64 a0, .int .i64 a1, .int .i64 a2]] w fun e W' => ∃ v, e = .returned v ∧ W'.ownsRow w.heap.size 3 1 v (period_list.nums a0 a1 (period_list.num a0 a1 a2)).length ((period_list.nums a0 a1 (period_list.num a0 a1 a2)).map (Value.int .i64)) ∧ Below w.heap.size w W' := by
  have h1 : 1 ≤ n := by omega
  have hu := Try.underlying41
  have inf : (Try.prog.info? 3).map (fun i => (i.zero, i.size, i.bytes)) = some (some (.int .i64 0), 1, 8) := by kernel_rfl
  obtain ⟨i0, hi, hz0, hz1, hz2⟩ := info_parts inf
  clear inf
  refine callsIn_of_wp_marks Try.func22 rfl h3 ?_ hro
  simp only [Try.ntmps22, List.size_toArray, List.length_cons, List.length_nil, Nat.reduceAdd, Nat.reduceSub, Array.replicate_succ, Array.replicate_zero, List.push_toArray, List.append_toArray, List.nil_append, List.cons_append]
  gi_wp2_with fail
  refine (period_list.each_in F (n - 1) h4 hro a0 a1 a2 _).mono ?_
  rintro e w' ⟨rfl, rfl⟩
  gi_wp2_with fail
  have bO := Boxed.new (w.alloc (.cells #[.int .i64 a0, .int .i64 a1, .int .i64 a2] 41)) 28 (.slice none 0 0)
  rw [World.size_alloc] at bO
  have hbn := blk_new ((w.alloc (.cells #[.int .i64 a0, .int .i64 a1, .int .i64 a2] 41)).alloc (.cells #[.slice none 0 0] 28)) (.cells #[.int .i64 a0, .int .i64 a1, .int .i64 a2] 41)
  rw [World.size_alloc, World.size_alloc] at hbn
  have hB0 : Below w.heap.size w (((w.alloc (.cells #[.int .i64 a0, .int .i64 a1, .int .i64 a2] 41)).alloc (.cells #[.slice none 0 0] 28)).alloc (.cells #[.int .i64 a0, .int .i64 a1, .int .i64 a2] 41)) := below_alloc (below_alloc (below_alloc (Below.refl _ w) _) _) _
  refine wpIn_rangeFunc_ownG hro h1 (gf := 40) (lb := #[.pointer (some ⟨w.heap.size + 1 + 1, 0, none⟩)]) rfl h5 (Go.Proofs.enters_of Try.func40 (by kernel_rfl) rfl)
    (period_list.stops F (n - 1) h5 hro (by omega) (w.heap.size + 1 + 1) w.heap.size a0 a1 a2 g1 g2 g3 g4 g5 _ (by simp) hbn) period_list.Kp_t (period_list.Kp_b (by simp; omega)) (Below.refl _ _) (fun _ => rfl)
    (fun pre W => (∃ v, Boxed W (w.heap.size + 1) 28 v ∧ W.ownsRow w.heap.size 3 1 v pre.length (pre.map (Value.int .i64)) ∧ True) ∧ Below w.heap.size w W)
    (fun _ _ _ => False)
    (OwnFrom.and (Own.from (holdsRow_own w.heap.size (w.heap.size + 1) 28 3 1 (fun (pre : List Int) => pre.length) (fun (pre : List Int) => pre.map (Value.int .i64)) (fun pre v => True)) _) (ownFrom_below (Nat.le_refl _) (by simp; omega)))
    (fun _ _ _ _ _ hs _ _ => hs)
    ⟨⟨_, bO.alloc _, World.ownsRow_nil _ _ _ _, trivial⟩, hB0⟩
    (fun x => { tmps := #[.agg #[.int .i64 a0, .int .i64 a1, .int .i64 a2], .pointer (some ⟨w.heap.size, 0, none⟩), .slice none 0 0, .func (.func 28) #[] #[], .pointer (some ⟨w.heap.size + 1, 0, none⟩), .int .i64 x, .func (.func 28) #[] #[], .agg #[.int .i64 a0, .int .i64 a1, .int .i64 a2], .func (.func 40) #[] #[.pointer (some ⟨w.heap.size + 1 + 1, 0, none⟩)], .int .i64 x, undef, undef, undef, undef, undef], defers := [] }) ?assign ?body ?done ?stop
  case assign =>
    intro l x W K hK
    gi_wp2
    exact hK
  case body =>
    rintro l pre x W ⟨⟨v, hv, hrow, _⟩, hB⟩ hlt
    have hc := hv.cell
    have hpl : pre.length ≤ 10000 := by omega
    gi_wp2_with (gi_at_builtin; refine wpListIn_append_own _ rfl _ _ 28 rfl w.heap.size 3 i0 (.int .i64 0) 1 8 Try.underlying28 hi hz0 hz1 hz2 rfl (by decide) _ _ _ rfl (hrow.alloc _) ⟨W.heap.size, 0, none⟩ 1 1 [.int .i64 x] rfl rfl (cell_one_new _ _ _) (by simp [Value.oneCell']) (by unfold maxLen; omega) (by omega) (by have := hB.size; simp; omega) ?_; intro v' w1 hown' hgrow _; obtain ⟨g', cap', rfl⟩ := ownsRow_succ hown'; obtain ⟨hv1, hv2, hr2, hk2, hb2⟩ := hv.appended (by decide) hrow hB.size (by omega) hown' hgrow; have hc1 := hv1.cell; have hf1 := hv1.frozen)
    refine ⟨hk2.from _, ⟨hb2, fun cs q => ?_⟩, ⟨⟨_, hv2, by simpa using hr2, trivial⟩, hB.trans hb2⟩⟩
    exact blk_far (blk_grown (blk_alloc q _) hgrow (own_ne hrow q (by decide))) (by simp) _
  case done =>
    rintro D ys W hD rfl ⟨⟨v, hv, hrow, _⟩, hB⟩ hK
    have hc := hv.cell
    gi_wp2
    refine ⟨by simp, .inl ⟨_, _, rfl, run_takeDeferred hK, ?_⟩⟩
    exact ⟨_, results_tmp rfl _ _ _, v, rfl, ownsRow_putObj hrow _ hK rfl, hB.trans (belowK_b (w := w) (Nat.le_refl _) W D _ _ (by simp at hD; omega) hK rfl rfl)⟩
  case stop =>
    rintro D c pre W _ _ h _
    exact h.elim
end
theorem period_list.calls (a0_0 : Int) (a0_1 : Int) (a0_2 : Int) (r : List Int) (w : World) (h : period_list.f a0_0 a0_1 a0_2 = some r) :
    Calls Try.prog 22 #[.agg #[.int .i64 a0_0, .int .i64 a0_1, .int .i64 a0_2]] w fun e w' => ∃ v0_ : Value, e = .returned (v0_) ∧ Kd.R (Kd.int .i64) 3 w' w.heap.size (fun _ => True) v0_ r ∧ Below w.heap.size w w' := by
  unfold period_list.f at h
  split at h
  case isTrue c =>
    obtain rfl := Option.some.inj h
    refine (callsIn_wide (n := 3)).1 ?_
    refine (period_list.list_in Fence.wide 3 trivial trivial trivial rfl (by omega) a0_0 a0_1 a0_2 c.1 c.2.1 c.2.2.1 c.2.2.2.1 c.2.2.2.2.1 c.2.2.2.2.2 w).mono ?_
    rintro e w' ⟨v, rfl, ho, hb⟩
    exact ⟨v, rfl, Kd.R_of_own ho (fun _ _ => trivial), hb⟩
  case isFalse c => cases h

/-! ### period_All: function 12 -/
def period_All.f (a0_0 : Int) (a0_1 : Int) (a0_2 : Int) (a0_3 : Int) (a0_4 : Int) (a0_5 : Int) : Option (List Int) := (spec_May.f a0_0 a0_1 a0_2 a0_3 a0_4 a0_5).bind fun t116 => (if t116 = true then ((period_list.f a0_1 1 a0_2).bind fun t117 => (some t117)) else (some ([] : List Int)))
set_option maxHeartbeats 8000000 in
set_option maxRecDepth 100000 in
theorem period_All.calls (a0_0 : Int) (a0_1 : Int) (a0_2 : Int) (a0_3 : Int) (a0_4 : Int) (a0_5 : Int) (r : List Int) (w : World) (h : period_All.f a0_0 a0_1 a0_2 a0_3 a0_4 a0_5 = some r) :
    Calls Try.prog 12 #[.agg #[.int .i64 a0_0, .int .i64 a0_1, .int .i64 a0_2, .int .i64 a0_3, .int .i64 a0_4, .int .i64 a0_5]] w fun e w' => ∃ v0_ : Value, e = .returned (v0_) ∧ Kd.R (Kd.int .i64) 3 w' w.heap.size (fun _ => True) v0_ r ∧ Below w.heap.size w w' := by
  have hu23 := Try.underlying23
  have hu41 := Try.underlying41
  have HB := Aside0.mk (Below.refl w.heap.size w)
  have H : ((spec_May.f a0_0 a0_1 a0_2 a0_3 a0_4 a0_5).bind fun t116 => (if t116 = true then ((period_list.f a0_1 1 a0_2).bind fun t117 => (some t117)) else (some ([] : List Int)))) = some r := h
  clear h
  replace H := Option.bind_eq_some_iff.mp H
  obtain ⟨t116, A20, H⟩ := H
  try dsimp only at H
  have A2 := Aside0.mk A20
  clear A20
  by_cases c3 : t116 = true
  · subst c3
    rw [if_pos rfl] at H
    replace H := Option.bind_eq_some_iff.mp H
    obtain ⟨t117, A40, H⟩ := H
    try dsimp only at H
    have A4 := Aside0.mk A40
    clear A40
    obtain rfl := Option.some.inj H
    go_enter Try.func12, Try.ntmps12
    go_wp2_with (first | ((with_reducible refine gate_dst (N := 1) rfl ?_); refine box_event ?hg (N := 1) ?hd (cs := #[.int .i64 a0_0, .int .i64 a0_1, .int .i64 a0_2, .int .i64 a0_3, .int .i64 a0_4, .int .i64 a0_5]) (t := 23) ?hr ?_; (case hd => rfl); (case hg => rfl); (case hr => first | (go_simp; done) | (go_simp; rfl)); intro gb115 hg w5 hbox hb; have n0_ := bs HB hb; have n1_ := Aside0.mk (hbox); have n2_ := bz HB hg; have n3_ := bz HB hg; clear HB; have HB := n0_; have BK115 := n1_; have GW115 := n2_; have GE115 := n3_; clear n0_ n1_ n2_ n3_; clear hb hbox hg; obtain ⟨hcz6_0, hcz6_1, hcz6_2, hcz6_3, hcz6_4, hcz6_5⟩ := cc6 BK115; obtain ⟨hfz6_0, hfz6_1, hfz6_2, hfz6_3, hfz6_4, hfz6_5⟩ := cf6 BK115) | ((with_reducible refine gate_callee (f := 16) rfl ?_); refine goesL_ (some 4) rfl rfl Try.func16 (by kernel_rfl) rfl #[.agg #[.int .i64 a0_0, .int .i64 a0_1, .int .i64 a0_2, .int .i64 a0_3, .int .i64 a0_4, .int .i64 a0_5]] rfl (by (try simp only [List.map_toArray, List.map_cons, List.map_nil]); first | done | rfl | (simp only [List.length_drop, List.length_take]; rfl)) ?_; (with_reducible refine (spec_May.calls a0_0 a0_1 a0_2 a0_3 a0_4 a0_5 true _ A2.out).mono ?_); rintro e w7 ⟨rfl, hb⟩; refine ⟨_, rfl, ?_⟩; have n0_ := bb BK115 hb; have n1_ := bs HB hb; clear BK115; clear HB; have BK115 := n0_; have HB := n1_; clear n0_ n1_; (try clear hb); (try clear hb2); (try clear hk); (try clear hi); (try clear hcz6_0 hcz6_1 hcz6_2 hcz6_3 hcz6_4 hcz6_5 hfz6_0 hfz6_1 hfz6_2 hfz6_3 hfz6_4 hfz6_5); obtain ⟨hcz8_0, hcz8_1, hcz8_2, hcz8_3, hcz8_4, hcz8_5⟩ := cc6 BK115; obtain ⟨hfz8_0, hfz8_1, hfz8_2, hfz8_3, hfz8_4, hfz8_5⟩ := cf6 BK115) | ((with_reducible refine gate_callee (f := 22) rfl ?_); refine goesL_ (some 11) rfl rfl Try.func22 (by kernel_rfl) rfl #[.agg #[.int .i64 a0_1, .int .i64 1, .int .i64 a0_2]] rfl (by (try simp only [List.map_toArray, List.map_cons, List.map_nil]); first | done | rfl | (simp only [List.length_drop, List.length_take]; rfl)) ?_; (with_reducible refine (period_list.calls a0_1 1 a0_2 t117 _ A4.out).mono ?_); rintro e w9 ⟨v118, rfl, ho0, hb⟩; refine ⟨_, rfl, ?_⟩; have n0_ := Aside0.mk (Kd.R_lower ho0 (below_size (by repeat (first | (with_reducible first | exact HB.out | apply below_alloc | apply pw_below_drewN | apply below_drew1 | refine below_set ?_ GE115.out) | exact HB.out)))); have n1_ := bb BK115 hb; have n2_ := bs HB hb; clear BK115; clear HB; have HO119 := n0_; have BK115 := n1_; have HB := n2_; clear n0_ n1_ n2_; (try clear hb); (try clear hb2); (try clear hk); (try clear hi); (try clear ho0)))
    go_ret
    exact ⟨_, by first | rfl | (simp [errW_none, errW_some] <;> rfl) | (simp [*, errW_none, errW_some] <;> rfl) | (exfalso; contradiction), by (with_reducible repeat (first | apply Kd.R_alloc | apply Kd.R_drewN | apply Kd.R_drew)); exact HO119.out, by repeat (first | (with_reducible first | exact HB.out | apply below_alloc | apply pw_below_drewN | apply below_drew1 | refine below_set ?_ GE115.out) | exact HB.out)⟩
  · replace c3 := Bool.eq_false_iff.mpr c3
    subst c3
    rw [if_neg (show ¬ (false = true) by decide)] at H
    obtain rfl := Option.some.inj H
    go_enter Try.func12, Try.ntmps12
    go_wp2_with (first | ((with_reducible refine gate_dst (N := 1) rfl ?_); refine box_event ?hg (N := 1) ?hd (cs := #[.int .i64 a0_0, .int .i64 a0_1, .int .i64 a0_2, .int .i64 a0_3, .int .i64 a0_4, .int .i64 a0_5]) (t := 23) ?hr ?_; (case hd => rfl); (case hg => rfl); (case hr => first | (go_simp; done) | (go_simp; rfl)); intro gb115 hg w10 hbox hb; have n0_ := bs HB hb; have n1_ := Aside0.mk (hbox); have n2_ := bz HB hg; have n3_ := bz HB hg; clear HB; have HB := n0_; have BK115 := n1_; have GW115 := n2_; have GE115 := n3_; clear n0_ n1_ n2_ n3_; clear hb hbox hg; obtain ⟨hcz11_0, hcz11_1, hcz11_2, hcz11_3, hcz11_4, hcz11_5⟩ := cc6 BK115; obtain ⟨hfz11_0, hfz11_1, hfz11_2, hfz11_3, hfz11_4, hfz11_5⟩ := cf6 BK115) | ((with_reducible refine gate_callee (f := 16) rfl ?_); refine goesL_ (some 4) rfl rfl Try.func16 (by kernel_rfl) rfl #[.agg #[.int .i64 a0_0, .int .i64 a0_1, .int .i64 a0_2, .int .i64 a0_3, .int .i64 a0_4, .int .i64 a0_5]] rfl (by (try simp only [List.map_toArray, List.map_cons, List.map_nil]); first | done | rfl | (simp only [List.length_drop, List.length_take]; rfl)) ?_; (with_reducible refine (spec_May.calls a0_0 a0_1 a0_2 a0_3 a0_4 a0_5 false _ A2.out).mono ?_); rintro e w12 ⟨rfl, hb⟩; refine ⟨_, rfl, ?_⟩; have n0_ := bb BK115 hb; have n1_ := bs HB hb; clear BK115; clear HB; have BK115 := n0_; have HB := n1_; clear n0_ n1_; (try clear hb); (try clear hb2); (try clear hk); (try clear hi)))
    go_ret
    exact ⟨_, by first | rfl | (simp [errW_none, errW_some] <;> rfl) | (simp [*, errW_none, errW_some] <;> rfl) | (exfalso; contradiction), by first | exact Kd.R_nil _ _ _ _ _ | exact Kd.N_nil _ _ _ _ _ | exact Kd.V_nil _ _ _ _ _ | exact Kd.Q_nil _ _ _ _ _ | exact Kd.S_nil _ _ _ _ _, by repeat (first | (with_reducible first | exact HB.out | apply below_alloc | apply pw_below_drewN | apply below_drew1 | refine below_set ?_ GE115.out) | exact HB.out)⟩

/-! ### period_Ends: function 14 -/
def period_Ends.f (a0_0 : Int) (a0_1 : Int) (a0_2 : Int) (a0_3 : Int) (a0_4 : Int) (a0_5 : Int) (a1 : Int) (a2 : Int) (a3 : Int) : Option (List Int) := (units_At.f a0_0 a0_1 a0_2 a0_3 a0_4 a0_5 a1).bind fun t121 => (if t121 = 0 then (some ([] : List Int)) else (if a2 < 0 then (some ([] : List Int)) else (if a2 > a3 then (some ([] : List Int)) else (if a3 > 1099511627776 then (some ([] : List Int)) else (if (wrap64 (a3 - a2)) > 5000 then (some ([] : List Int)) else ((period_list.f (wrap64 (a2 + a1)) a1 a3).bind fun t122 => (some t122)))))))
set_option maxHeartbeats 8000000 in
set_option maxRecDepth 100000 in
theorem period_Ends.calls (a0_0 : Int) (a0_1 : Int) (a0_2 : Int) (a0_3 : Int) (a0_4 : Int) (a0_5 : Int) (a1 : Int) (a2 : Int) (a3 : Int) (r : List Int) (w : World) (h : period_Ends.f a0_0 a0_1 a0_2 a0_3 a0_4 a0_5 a1 a2 a3 = some r) :
    Calls Try.prog 14 #[.agg #[.int .i64 a0_0, .int .i64 a0_1, .int .i64 a0_2, .int .i64 a0_3, .int .i64 a0_4, .int .i64 a0_5], .int .i64 a1, .int .i64 a2, .int .i64 a3] w fun e w' => ∃ v0_ : Value, e = .returned (v0_) ∧ Kd.R (Kd.int .i64) 3 w' w.heap.size (fun _ => True) v0_ r ∧ Below w.heap.size w w' := by
  have hu23 := Try.underlying23
  have hu41 := Try.underlying41
  have HB := Aside0.mk (Below.refl w.heap.size w)
  have H : ((units_At.f a0_0 a0_1 a0_2 a0_3 a0_4 a0_5 a1).bind fun t121 => (if t121 = 0 then (some ([] : List Int)) else (if a2 < 0 then (some ([] : List Int)) else (if a2 > a3 then (some ([] : List Int)) else (if a3 > 1099511627776 then (some ([] : List Int)) else (if (wrap64 (a3 - a2)) > 5000 then (some ([] : List Int)) else ((period_list.f (wrap64 (a2 + a1)) a1 a3).bind fun t122 => (some t122)))))))) = some r := h
  clear h
  replace H := Option.bind_eq_some_iff.mp H
  obtain ⟨t121, A50, H⟩ := H
  try dsimp only at H
  have A5 := Aside0.mk A50
  clear A50
  by_cases c6 : t121 = 0
  · rw [if_pos c6] at H
    have c6b0 : (t121 == 0) = true := beq_iff_eq.mpr c6
    have c6b1 : (t121 != 0) = false := bne_eq_false_iff_eq.mpr c6
    clear c6
    obtain rfl := Option.some.inj H
    go_enter Try.func14, Try.ntmps14
    go_wp2_with (first | ((with_reducible refine gate_dst (N := 4) rfl ?_); refine box_event ?hg (N := 4) ?hd (cs := #[.int .i64 a0_0, .int .i64 a0_1, .int .i64 a0_2, .int .i64 a0_3, .int .i64 a0_4, .int .i64 a0_5]) (t := 23) ?hr ?_; (case hd => rfl); (case hg => rfl); (case hr => first | (go_simp; done) | (go_simp; rfl)); intro gb120 hg w7 hbox hb; have n0_ := bs HB hb; have n1_ := Aside0.mk (hbox); have n2_ := bz HB hg; have n3_ := bz HB hg; clear HB; have HB := n0_; have BK120 := n1_; have GW120 := n2_; have GE120 := n3_; clear n0_ n1_ n2_ n3_; clear hb hbox hg; obtain ⟨hcz8_0, hcz8_1, hcz8_2, hcz8_3, hcz8_4, hcz8_5⟩ := cc6 BK120; obtain ⟨hfz8_0, hfz8_1, hfz8_2, hfz8_3, hfz8_4, hfz8_5⟩ := cf6 BK120) | ((with_reducible refine gate_callee (f := 17) rfl ?_); refine goesL_ (some 11) rfl rfl Try.func17 (by kernel_rfl) rfl #[.agg #[.int .i64 a0_0, .int .i64 a0_1, .int .i64 a0_2, .int .i64 a0_3, .int .i64 a0_4, .int .i64 a0_5], .int .i64 a1] rfl (by (try simp only [List.map_toArray, List.map_cons, List.map_nil]); first | done | rfl | (simp only [List.length_drop, List.length_take]; rfl)) ?_; (with_reducible refine (units_At.calls a0_0 a0_1 a0_2 a0_3 a0_4 a0_5 a1 t121 _ A5.out).mono ?_); rintro e w9 ⟨rfl, hb⟩; refine ⟨_, rfl, ?_⟩; have n0_ := bb BK120 hb; have n1_ := bs HB hb; clear BK120; clear HB; have BK120 := n0_; have HB := n1_; clear n0_ n1_; (try clear hb); (try clear hb2); (try clear hk); (try clear hi)))
    go_ret
    exact ⟨_, by first | rfl | (simp [errW_none, errW_some] <;> rfl) | (simp [*, errW_none, errW_some] <;> rfl) | (exfalso; contradiction), by first | exact Kd.R_nil _ _ _ _ _ | exact Kd.N_nil _ _ _ _ _ | exact Kd.V_nil _ _ _ _ _ | exact Kd.Q_nil _ _ _ _ _ | exact Kd.S_nil _ _ _ _ _, by repeat (first | (with_reducible first | exact HB.out | apply below_alloc | apply pw_below_drewN | apply below_drew1 | refine below_set ?_ GE120.out) | exact HB.out)⟩
  · rw [if_neg c6] at H
    have c6b0 : (t121 == 0) = false := beq_eq_false_iff_ne.mpr c6
    have c6b1 : (t121 != 0) = true := bne_iff_ne.mpr c6
    by_cases c10 : a2 < 0
    · rw [if_pos c10] at H
      have c10b0 : decide (a2 < 0) = true := decide_eq_true c10
      clear c10
      obtain rfl := Option.some.inj H
      go_enter Try.func14, Try.ntmps14
      go_wp2_with (first | ((with_reducible refine gate_dst (N := 4) rfl ?_); refine box_event ?hg (N := 4) ?hd (cs := #[.int .i64 a0_0, .int .i64 a0_1, .int .i64 a0_2, .int .i64 a0_3, .int .i64 a0_4, .int .i64 a0_5]) (t := 23) ?hr ?_; (case hd => rfl); (case hg => rfl); (case hr => first | (go_simp; done) | (go_simp; rfl)); intro gb120 hg w11 hbox hb; have n0_ := bs HB hb; have n1_ := Aside0.mk (hbox); have n2_ := bz HB hg; have n3_ := bz HB hg; clear HB; have HB := n0_; have BK120 := n1_; have GW120 := n2_; have GE120 := n3_; clear n0_ n1_ n2_ n3_; clear hb hbox hg; obtain ⟨hcz12_0, hcz12_1, hcz12_2, hcz12_3, hcz12_4, hcz12_5⟩ := cc6 BK120; obtain ⟨hfz12_0, hfz12_1, hfz12_2, hfz12_3, hfz12_4, hfz12_5⟩ := cf6 BK120) | ((with_reducible refine gate_callee (f := 17) rfl ?_); refine goesL_ (some 11) rfl rfl Try.func17 (by kernel_rfl) rfl #[.agg #[.int .i64 a0_0, .int .i64 a0_1, .int .i64 a0_2, .int .i64 a0_3, .int .i64 a0_4, .int .i64 a0_5], .int .i64 a1] rfl (by (try simp only [List.map_toArray, List.map_cons, List.map_nil]); first | done | rfl | (simp only [List.length_drop, List.length_take]; rfl)) ?_; (with_reducible refine (units_At.calls a0_0 a0_1 a0_2 a0_3 a0_4 a0_5 a1 t121 _ A5.out).mono ?_); rintro e w13 ⟨rfl, hb⟩; refine ⟨_, rfl, ?_⟩; have n0_ := bb BK120 hb; have n1_ := bs HB hb; clear BK120; clear HB; have BK120 := n0_; have HB := n1_; clear n0_ n1_; (try clear hb); (try clear hb2); (try clear hk); (try clear hi)))
      go_ret
      exact ⟨_, by first | rfl | (simp [errW_none, errW_some] <;> rfl) | (simp [*, errW_none, errW_some] <;> rfl) | (exfalso; contradiction), by first | exact Kd.R_nil _ _ _ _ _ | exact Kd.N_nil _ _ _ _ _ | exact Kd.V_nil _ _ _ _ _ | exact Kd.Q_nil _ _ _ _ _ | exact Kd.S_nil _ _ _ _ _, by repeat (first | (with_reducible first | exact HB.out | apply below_alloc | apply pw_below_drewN | apply below_drew1 | refine below_set ?_ GE120.out) | exact HB.out)⟩
    · rw [if_neg c10] at H
      have c10b0 : decide (a2 < 0) = false := decide_eq_false c10
      clear c10
      by_cases c14 : a2 > a3
      · rw [if_pos c14] at H
        have c14b0 : decide (a3 < a2) = true := decide_eq_true c14
        clear c14
        obtain rfl := Option.some.inj H
        go_enter Try.func14, Try.ntmps14
        go_wp2_with (first | ((with_reducible refine gate_dst (N := 4) rfl ?_); refine box_event ?hg (N := 4) ?hd (cs := #[.int .i64 a0_0, .int .i64 a0_1, .int .i64 a0_2, .int .i64 a0_3, .int .i64 a0_4, .int .i64 a0_5]) (t := 23) ?hr ?_; (case hd => rfl); (case hg => rfl); (case hr => first | (go_simp; done) | (go_simp; rfl)); intro gb120 hg w15 hbox hb; have n0_ := bs HB hb; have n1_ := Aside0.mk (hbox); have n2_ := bz HB hg; have n3_ := bz HB hg; clear HB; have HB := n0_; have BK120 := n1_; have GW120 := n2_; have GE120 := n3_; clear n0_ n1_ n2_ n3_; clear hb hbox hg; obtain ⟨hcz16_0, hcz16_1, hcz16_2, hcz16_3, hcz16_4, hcz16_5⟩ := cc6 BK120; obtain ⟨hfz16_0, hfz16_1, hfz16_2, hfz16_3, hfz16_4, hfz16_5⟩ := cf6 BK120) | ((with_reducible refine gate_callee (f := 17) rfl ?_); refine goesL_ (some 11) rfl rfl Try.func17 (by kernel_rfl) rfl #[.agg #[.int .i64 a0_0, .int .i64 a0_1, .int .i64 a0_2, .int .i64 a0_3, .int .i64 a0_4, .int .i64 a0_5], .int .i64 a1] rfl (by (try simp only [List.map_toArray, List.map_cons, List.map_nil]); first | done | rfl | (simp only [List.length_drop, List.length_take]; rfl)) ?_; (with_reducible refine (units_At.calls a0_0 a0_1 a0_2 a0_3 a0_4 a0_5 a1 t121 _ A5.out).mono ?_); rintro e w17 ⟨rfl, hb⟩; refine ⟨_, rfl, ?_⟩; have n0_ := bb BK120 hb; have n1_ := bs HB hb; clear BK120; clear HB; have BK120 := n0_; have HB := n1_; clear n0_ n1_; (try clear hb); (try clear hb2); (try clear hk); (try clear hi)))
        go_ret
        exact ⟨_, by first | rfl | (simp [errW_none, errW_some] <;> rfl) | (simp [*, errW_none, errW_some] <;> rfl) | (exfalso; contradiction), by first | exact Kd.R_nil _ _ _ _ _ | exact Kd.N_nil _ _ _ _ _ | exact Kd.V_nil _ _ _ _ _ | exact Kd.Q_nil _ _ _ _ _ | exact Kd.S_nil _ _ _ _ _, by repeat (first | (with_reducible first | exact HB.out | apply below_alloc | apply pw_below_drewN | apply below_drew1 | refine below_set ?_ GE120.out) | exact HB.out)⟩
      · rw [if_neg c14] at H
        have c14b0 : decide (a3 < a2) = false := decide_eq_false c14
        clear c14
        by_cases c18 : a3 > 1099511627776
        · rw [if_pos c18] at H
          have c18b0 : decide (1099511627776 < a3) = true := decide_eq_true c18
          clear c18
          obtain rfl := Option.some.inj H
          go_enter Try.func14, Try.ntmps14
          go_wp2_with (first | ((with_reducible refine gate_dst (N := 4) rfl ?_); refine box_event ?hg (N := 4) ?hd (cs := #[.int .i64 a0_0, .int .i64 a0_1, .int .i64 a0_2, .int .i64 a0_3, .int .i64 a0_4, .int .i64 a0_5]) (t := 23) ?hr ?_; (case hd => rfl); (case hg => rfl); (case hr => first | (go_simp; done) | (go_simp; rfl)); intro gb120 hg w19 hbox hb; have n0_ := bs HB hb; have n1_ := Aside0.mk (hbox); have n2_ := bz HB hg; have n3_ := bz HB hg; clear HB; have HB := n0_; have BK120 := n1_; have GW120 := n2_; have GE120 := n3_; clear n0_ n1_ n2_ n3_; clear hb hbox hg; obtain ⟨hcz20_0, hcz20_1, hcz20_2, hcz20_3, hcz20_4, hcz20_5⟩ := cc6 BK120; obtain ⟨hfz20_0, hfz20_1, hfz20_2, hfz20_3, hfz20_4, hfz20_5⟩ := cf6 BK120) | ((with_reducible refine gate_callee (f := 17) rfl ?_); refine goesL_ (some 11) rfl rfl Try.func17 (by kernel_rfl) rfl #[.agg #[.int .i64 a0_0, .int .i64 a0_1, .int .i64 a0_2, .int .i64 a0_3, .int .i64 a0_4, .int .i64 a0_5], .int .i64 a1] rfl (by (try simp only [List.map_toArray, List.map_cons, List.map_nil]); first | done | rfl | (simp only [List.length_drop, List.length_take]; rfl)) ?_; (with_reducible refine (units_At.calls a0_0 a0_1 a0_2 a0_3 a0_4 a0_5 a1 t121 _ A5.out).mono ?_); rintro e w21 ⟨rfl, hb⟩; refine ⟨_, rfl, ?_⟩; have n0_ := bb BK120 hb; have n1_ := bs HB hb; clear BK120; clear HB; have BK120 := n0_; have HB := n1_; clear n0_ n1_; (try clear hb); (try clear hb2); (try clear hk); (try clear hi)))
          go_ret
          exact ⟨_, by first | rfl | (simp [errW_none, errW_some] <;> rfl) | (simp [*, errW_none, errW_some] <;> rfl) | (exfalso; contradiction), by first | exact Kd.R_nil _ _ _ _ _ | exact Kd.N_nil _ _ _ _ _ | exact Kd.V_nil _ _ _ _ _ | exact Kd.Q_nil _ _ _ _ _ | exact Kd.S_nil _ _ _ _ _, by repeat (first | (with_reducible first | exact HB.out | apply below_alloc | apply pw_below_drewN | apply below_drew1 | refine below_set ?_ GE120.out) | exact HB.out)⟩
        · rw [if_neg c18] at H
          have c18b0 : decide (1099511627776 < a3) = false := decide_eq_false c18
          clear c18
          by_cases c22 : (wrap64 (a3 - a2)) > 5000
          · rw [if_pos c22] at H
            have c22b0 : decide (5000 < (wrap64 (a3 - a2))) = true := decide_eq_true c22
            clear c22
            obtain rfl := Option.some.inj H
            go_enter Try.func14, Try.ntmps14
            go_wp2_with (first | ((with_reducible refine gate_dst (N := 4) rfl ?_); refine box_event ?hg (N := 4) ?hd (cs := #[.int .i64 a0_0, .int .i64 a0_1, .int .i64 a0_2, .int .i64 a0_3, .int .i64 a0_4, .int .i64 a0_5]) (t := 23) ?hr ?_; (case hd => rfl); (case hg => rfl); (case hr => first | (go_simp; done) | (go_simp; rfl)); intro gb120 hg w23 hbox hb; have n0_ := bs HB hb; have n1_ := Aside0.mk (hbox); have n2_ := bz HB hg; have n3_ := bz HB hg; clear HB; have HB := n0_; have BK120 := n1_; have GW120 := n2_; have GE120 := n3_; clear n0_ n1_ n2_ n3_; clear hb hbox hg; obtain ⟨hcz24_0, hcz24_1, hcz24_2, hcz24_3, hcz24_4, hcz24_5⟩ := cc6 BK120; obtain ⟨hfz24_0, hfz24_1, hfz24_2, hfz24_3, hfz24_4, hfz24_5⟩ := cf6 BK120) | ((with_reducible refine gate_callee (f := 17) rfl ?_); refine goesL_ (some 11) rfl rfl Try.func17 (by kernel_rfl) rfl #[.agg #[.int .i64 a0_0, .int .i64 a0_1, .int .i64 a0_2, .int .i64 a0_3, .int .i64 a0_4, .int .i64 a0_5], .int .i64 a1] rfl (by (try simp only [List.map_toArray, List.map_cons, List.map_nil]); first | done | rfl | (simp only [List.length_drop, List.length_take]; rfl)) ?_; (with_reducible refine (units_At.calls a0_0 a0_1 a0_2 a0_3 a0_4 a0_5 a1 t121 _ A5.out).mono ?_); rintro e w25 ⟨rfl, hb⟩; refine ⟨_, rfl, ?_⟩; have n0_ := bb BK120 hb; have n1_ := bs HB hb; clear BK120; clear HB; have BK120 := n0_; have HB := n1_; clear n0_ n1_; (try clear hb); (try clear hb2); (try clear hk); (try clear hi)))
            go_ret
            exact ⟨_, by first | rfl | (simp [errW_none, errW_some] <;> rfl) | (simp [*, errW_none, errW_some] <;> rfl) | (exfalso; contradiction), by first | exact Kd.R_nil _ _ _ _ _ | exact Kd.N_nil _ _ _ _ _ | exact Kd.V_nil _ _ _ _ _ | exact Kd.Q_nil _ _ _ _ _ | exact Kd.S_nil _ _ _ _ _, by repeat (first | (with_reducible first | exact HB.out | apply below_alloc | apply pw_below_drewN | apply below_drew1 | refine below_set ?_ GE120.out) | exact HB.out)⟩
          · rw [if_neg c22] at H
            have c22b0 : decide (5000 < (wrap64 (a3 - a2))) = false := decide_eq_false c22
            clear c22
            replace H := Option.bind_eq_some_iff.mp H
            obtain ⟨t122, A260, H⟩ := H
            try dsimp only at H
            have A26 := Aside0.mk A260
            clear A260
            obtain rfl := Option.some.inj H
            go_enter Try.func14, Try.ntmps14
            go_wp2_with (first | ((with_reducible refine gate_dst (N := 4) rfl ?_); refine box_event ?hg (N := 4) ?hd (cs := #[.int .i64 a0_0, .int .i64 a0_1, .int .i64 a0_2, .int .i64 a0_3, .int .i64 a0_4, .int .i64 a0_5]) (t := 23) ?hr ?_; (case hd => rfl); (case hg => rfl); (case hr => first | (go_simp; done) | (go_simp; rfl)); intro gb120 hg w27 hbox hb; have n0_ := bs HB hb; have n1_ := Aside0.mk (hbox); have n2_ := bz HB hg; have n3_ := bz HB hg; clear HB; have HB := n0_; have BK120 := n1_; have GW120 := n2_; have GE120 := n3_; clear n0_ n1_ n2_ n3_; clear hb hbox hg; obtain ⟨hcz28_0, hcz28_1, hcz28_2, hcz28_3, hcz28_4, hcz28_5⟩ := cc6 BK120; obtain ⟨hfz28_0, hfz28_1, hfz28_2, hfz28_3, hfz28_4, hfz28_5⟩ := cf6 BK120) | ((with_reducible refine gate_callee (f := 17) rfl ?_); refine goesL_ (some 11) rfl rfl Try.func17 (by kernel_rfl) rfl #[.agg #[.int .i64 a0_0, .int .i64 a0_1, .int .i64 a0_2, .int .i64 a0_3, .int .i64 a0_4, .int .i64 a0_5], .int .i64 a1] rfl (by (try simp only [List.map_toArray, List.map_cons, List.map_nil]); first | done | rfl | (simp only [List.length_drop, List.length_take]; rfl)) ?_; (with_reducible refine (units_At.calls a0_0 a0_1 a0_2 a0_3 a0_4 a0_5 a1 t121 _ A5.out).mono ?_); rintro e w29 ⟨rfl, hb⟩; refine ⟨_, rfl, ?_⟩; have n0_ := bb BK120 hb; have n1_ := bs HB hb; clear BK120; clear HB; have BK120 := n0_; have HB := n1_; clear n0_ n1_; (try clear hb); (try clear hb2); (try clear hk); (try clear hi)) | ((with_reducible refine gate_callee (f := 22) rfl ?_); refine goesL_ (some 38) rfl rfl Try.func22 (by kernel_rfl) rfl #[.agg #[.int .i64 (wrap64 (a2 + a1)), .int .i64 a1, .int .i64 a3]] rfl (by (try simp only [List.map_toArray, List.map_cons, List.map_nil]); first | done | rfl | (simp only [List.length_drop, List.length_take]; rfl)) ?_; (with_reducible refine (period_list.calls (wrap64 (a2 + a1)) a1 a3 t122 _ A26.out).mono ?_); rintro e w30 ⟨v123, rfl, ho0, hb⟩; refine ⟨_, rfl, ?_⟩; have n0_ := Aside0.mk (Kd.R_lower ho0 (below_size (by repeat (first | (with_reducible first | exact HB.out | apply below_alloc | apply pw_below_drewN | apply below_drew1 | refine below_set ?_ GE120.out) | exact HB.out)))); have n1_ := bb BK120 hb; have n2_ := bs HB hb; clear BK120; clear HB; have HO124 := n0_; have BK120 := n1_; have HB := n2_; clear n0_ n1_ n2_; (try clear hb); (try clear hb2); (try clear hk); (try clear hi); (try clear ho0)))
            go_ret
            exact ⟨_, by first | rfl | (simp [errW_none, errW_some] <;> rfl) | (simp [*, errW_none, errW_some] <;> rfl) | (exfalso; contradiction), by (with_reducible repeat (first | apply Kd.R_alloc | apply Kd.R_drewN | apply Kd.R_drew)); exact HO124.out, by repeat (first | (with_reducible first | exact HB.out | apply below_alloc | apply pw_below_drewN | apply below_drew1 | refine below_set ?_ GE120.out) | exact HB.out)⟩

/-! ### fuseelaw05_One: function 19 -/
def fuseelaw05_One.f  : Option (Int × Int × Int × Int × Int × Int) := some (2, 10, 20, 1, 2, 3)
set_option maxHeartbeats 8000000 in
set_option maxRecDepth 100000 in
theorem fuseelaw05_One.calls  (r1 : Int) (r2 : Int) (r3 : Int) (r4 : Int) (r5 : Int) (r6 : Int) (w : World) (h : fuseelaw05_One.f  = some (r1, r2, r3, r4, r5, r6)) :
    Calls Try.prog 19 #[] w fun e w' => e = .returned (.agg #[.int .i64 r1, .int .i64 r2, .int .i64 r3, .int .i64 r4, .int .i64 r5, .int .i64 r6]) ∧ Below w.heap.size w w' := by
  have hu23 := Try.underlying23
  have HB := Aside0.mk (Below.refl w.heap.size w)
  have H : (some (2, 10, 20, 1, 2, 3)) = some (r1, r2, r3, r4, r5, r6) := h
  clear h
  simp only [Option.some.injEq, Prod.mk.injEq] at H
  obtain ⟨rfl, rfl, rfl, rfl, rfl, rfl⟩ := H
  go_enter Try.func19, Try.ntmps19
  go_wp2_with (first | ((with_reducible refine gate_dst (N := 0) rfl ?_); refine box_event ?hg (N := 0) ?hd (cs := #[.int .i64 0, .int .i64 0, .int .i64 0, .int .i64 0, .int .i64 0, .int .i64 0]) (t := 23) ?hr ?_; (case hd => rfl); (case hg => rfl); (case hr => first | (go_simp; done) | (go_simp; rfl)); intro gb125 hg w1 hbox hb; have n0_ := bs HB hb; have n1_ := Aside0.mk (hbox); have n2_ := bz HB hg; have n3_ := bz HB hg; clear HB; have HB := n0_; have BK125 := n1_; have GW125 := n2_; have GE125 := n3_; clear n0_ n1_ n2_ n3_; clear hb hbox hg; obtain ⟨hcz2_0, hcz2_1, hcz2_2, hcz2_3, hcz2_4, hcz2_5⟩ := cc6 BK125; obtain ⟨hfz2_0, hfz2_1, hfz2_2, hfz2_3, hfz2_4, hfz2_5⟩ := cf6 BK125))
  refine bodyPost_ret (results_cell_row rfl _ _ gb125 23 #[.int .i64 2, .int .i64 10, .int .i64 20, .int .i64 1, .int .i64 2, .int .i64 3] (0, 0) _ rfl (by (with_reducible repeat (first | refine bN ?_ _ | refine bD ?_ | refine bA ?_ _)); refine blk_put (cs := #[.int .i64 2, .int .i64 10, .int .i64 20, .int .i64 1, .int .i64 2, .int .i64 0]) ?_ 5 _ rfl; (with_reducible repeat (first | refine bN ?_ _ | refine bD ?_ | refine bA ?_ _)); refine blk_put (cs := #[.int .i64 2, .int .i64 10, .int .i64 20, .int .i64 1, .int .i64 0, .int .i64 0]) ?_ 4 _ rfl; (with_reducible repeat (first | refine bN ?_ _ | refine bD ?_ | refine bA ?_ _)); refine blk_put (cs := #[.int .i64 2, .int .i64 10, .int .i64 20, .int .i64 0, .int .i64 0, .int .i64 0]) ?_ 3 _ rfl; (with_reducible repeat (first | refine bN ?_ _ | refine bD ?_ | refine bA ?_ _)); refine blk_put (cs := #[.int .i64 2, .int .i64 10, .int .i64 0, .int .i64 0, .int .i64 0, .int .i64 0]) ?_ 2 _ rfl; (with_reducible repeat (first | refine bN ?_ _ | refine bD ?_ | refine bA ?_ _)); refine blk_put (cs := #[.int .i64 2, .int .i64 0, .int .i64 0, .int .i64 0, .int .i64 0, .int .i64 0]) ?_ 1 _ rfl; (with_reducible repeat (first | refine bN ?_ _ | refine bD ?_ | refine bA ?_ _)); refine blk_put (cs := #[.int .i64 0, .int .i64 0, .int .i64 0, .int .i64 0, .int .i64 0, .int .i64 0]) ?_ 0 _ rfl; (with_reducible repeat (first | refine bN ?_ _ | refine bD ?_ | refine bA ?_ _)); exact BK125.out) Try.underlying23 rfl (by kernel_rfl)) rfl ?_
  exact ⟨by first | rfl | (simp [errW_none, errW_some] <;> rfl) | (simp [*, errW_none, errW_some] <;> rfl) | (exfalso; contradiction), by repeat (first | (with_reducible first | exact HB.out | apply below_alloc | apply pw_below_drewN | apply below_drew1 | refine below_set ?_ GE125.out) | exact HB.out)⟩

end Go.Proofs.Ytcgplkcjanakcaa.P
