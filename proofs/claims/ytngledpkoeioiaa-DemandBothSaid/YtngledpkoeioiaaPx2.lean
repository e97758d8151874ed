-- Written by a program of this session (hprint.py), out of the translation; functions that the print does not take are given by hand.
import Derived.Test.YtngledpkoeioiaaPx0
import Derived.Test.YtngledpkoeioiaaPx1
namespace Go.Proofs.Ytngledpkoeioiaa.P
open Go.RowKit Go.Proofs.YtngledpkoeioiaaM Go.Proofs.YtngledpkoeioiaaW.PrintWords Go.Proofs.YtngledpkoeioiaaW.PrintLast Go.Proofs.YtngledpkoeioiaaW.PrintMore
attribute [local go_sem] max2_int min2_int max_two min_two max_three min_three max_four min_four   -- for this text's walks alone
set_option linter.unusedVariables false
set_option linter.unusedSimpArgs false

/-! ### spec_May: function 37 -/
def spec_May.ok (a0 a1 a2 a3 a4 a5 : Int) : Bool := decide (1 ≤ a0 ∧ a0 ≤ 6 ∧ a0 ≤ a1 ∧ a1 ≤ a2 ∧ a2 ≤ 48 ∧ (1 ≤ a3 ∧ a3 ≤ a4 ∧ a4 ≤ 6) ∧ 0 ≤ a5 ∧ a5 ≤ 8 ∧ (0 < a5 ∨ a1 = a2))
def spec_May.f (a0_0 : Int) (a0_1 : Int) (a0_2 : Int) (a0_3 : Int) (a0_4 : Int) (a0_5 : Int) : Option (Bool) := some (spec_May.ok a0_0 a0_1 a0_2 a0_3 a0_4 a0_5)
def spec_May.pass (k a0 a1 a2 a3 a4 a5 : Int) : Prop := (0 < k → 1 ≤ a0 ∧ a0 ≤ 6) ∧ (1 < k → a0 ≤ a1 ∧ a1 ≤ a2) ∧ (2 < k → 1 ≤ a2 ∧ a2 ≤ 48) ∧ (3 < k → 1 ≤ a3 ∧ a3 ≤ a4) ∧ (4 < k → 1 ≤ a4 ∧ a4 ≤ 6) ∧ (5 < k → 0 ≤ a5 ∧ a5 ≤ 8)
def spec_May.facts (w : World) (g b1 b2 b3 b4 b5 b6 b7 b8 b9 : Nat) (a0 a1 a2 a3 a4 a5 : Int) (W : World) : Prop := Below w.heap.size w W ∧ W.heap[g]? = some (.cells #[.int .i64 a0, .int .i64 a1, .int .i64 a2, .int .i64 a3, .int .i64 a4, .int .i64 a5] 24 (0, 0)) ∧ W.heap[b1]? = some (.cells #[.int .i64 1] 3 (0, 0)) ∧ W.heap[b2]? = some (.cells #[.int .i64 6] 3 (0, 0)) ∧ W.heap[b3]? = some (.cells #[.int .i64 1] 3 (0, 0)) ∧ W.heap[b4]? = some (.cells #[.int .i64 48] 3 (0, 0)) ∧ W.heap[b5]? = some (.cells #[.int .i64 1] 3 (0, 0)) ∧ W.heap[b6]? = some (.cells #[.int .i64 1] 3 (0, 0)) ∧ W.heap[b7]? = some (.cells #[.int .i64 6] 3 (0, 0)) ∧ W.heap[b8]? = some (.cells #[.int .i64 0] 3 (0, 0)) ∧ W.heap[b9]? = some (.cells #[.int .i64 8] 3 (0, 0))
theorem spec_May.facts_alloc {w : World} {g b1 b2 b3 b4 b5 b6 b7 b8 b9 : Nat} {a0 a1 a2 a3 a4 a5 : Int} {W : World} (h : spec_May.facts w g b1 b2 b3 b4 b5 b6 b7 b8 b9 a0 a1 a2 a3 a4 a5 W) (o : Obj) : spec_May.facts w g b1 b2 b3 b4 b5 b6 b7 b8 b9 a0 a1 a2 a3 a4 a5 (W.alloc o) :=
  ⟨below_alloc h.1 o, blk_alloc h.2.1 o, blk_alloc h.2.2.1 o, blk_alloc h.2.2.2.1 o, blk_alloc h.2.2.2.2.1 o, blk_alloc h.2.2.2.2.2.1 o, blk_alloc h.2.2.2.2.2.2.1 o, blk_alloc h.2.2.2.2.2.2.2.1 o, blk_alloc h.2.2.2.2.2.2.2.2.1 o, blk_alloc h.2.2.2.2.2.2.2.2.2.1 o, blk_alloc h.2.2.2.2.2.2.2.2.2.2 o⟩
theorem spec_May.facts_drewN {w : World} {g b1 b2 b3 b4 b5 b6 b7 b8 b9 : Nat} {a0 a1 a2 a3 a4 a5 : Int} {W : World} (h : spec_May.facts w g b1 b2 b3 b4 b5 b6 b7 b8 b9 a0 a1 a2 a3 a4 a5 W) (m : Nat) : spec_May.facts w g b1 b2 b3 b4 b5 b6 b7 b8 b9 a0 a1 a2 a3 a4 a5 (W.drewN m) := ⟨pw_below_drewN h.1 m, h.2⟩
theorem spec_May.pat (m k : Int) (b : Bool) (h : decide (1 ≤ m ∧ m ≤ k ∧ k ≤ 6) = b) : pat_May.f m k = some b := by
  subst h
  unfold pat_May.f
  by_cases h1 : m ≥ 1
  · rw [if_pos h1]
    by_cases h2 : m ≤ k
    · rw [if_pos h2]
      congr 1
      simp [h1, h2]
    · rw [if_neg h2]
      congr 1
      exact (decide_eq_false (by omega)).symm
  · rw [if_neg h1]
    congr 1
    exact (decide_eq_false (by omega)).symm
set_option maxHeartbeats 32000000 in
set_option maxRecDepth 100000 in
theorem spec_May.calls (a0_0 : Int) (a0_1 : Int) (a0_2 : Int) (a0_3 : Int) (a0_4 : Int) (a0_5 : Int) (r : Bool) (w : World) (h : spec_May.f a0_0 a0_1 a0_2 a0_3 a0_4 a0_5 = some r) :
    Calls Try.prog 37 #[.agg #[.int .i64 a0_0, .int .i64 a0_1, .int .i64 a0_2, .int .i64 a0_3, .int .i64 a0_4, .int .i64 a0_5]] w fun e w' => e = .returned (.bool r) ∧ Below w.heap.size w w' := by
  revert h
  generalize a0_0 = a0
  generalize a0_1 = a1
  generalize a0_2 = a2
  generalize a0_3 = a3
  generalize a0_4 = a4
  generalize a0_5 = a5
  intro h
  have HR := Aside0.mk (Option.some.inj h)
  clear h
  have hu := Try.underlying63
  have hu2 := Try.underlying24
  go_enter Try.func37, Try.ntmps37
  go_wp2_with fail
  refine (spec_parts.calls _).mono ?_
  rintro e w1 ⟨AV, b1, b2, b3, b4, b5, b6, b7, b8, b9, rfl, ⟨i0, i1, i2, i3, i4, i5⟩, hb, d1, d2, d3, d4, d5, d6, d7, d8, d9⟩
  have I0 := Aside0.mk i0
  have I1 := Aside0.mk i1
  have I2 := Aside0.mk i2
  have I3 := Aside0.mk i3
  have I4 := Aside0.mk i4
  have I5 := Aside0.mk i5
  clear i0 i1 i2 i3 i4 i5
  have F1 := Aside0.mk (show spec_May.facts w w.heap.size b1 b2 b3 b4 b5 b6 b7 b8 b9 a0 a1 a2 a3 a4 a5 w1 from ⟨below_trans (below_alloc (Below.refl w.heap.size w) _) hb, blk_below (blk_new w (.cells #[.int .i64 a0, .int .i64 a1, .int .i64 a2, .int .i64 a3, .int .i64 a4, .int .i64 a5] 24)) hb, d1, d2, d3, d4, d5, d6, d7, d8, d9⟩)
  have hg := Aside0.mk (show w.heap.size = w.heap.size from rfl)
  clear hb d1 d2 d3 d4 d5 d6 d7 d8 d9
  go_wp2_with fail
  clear hg
  go_loopw [7] (fun i wr => ∃ k : Int, (k = 0 ∨ k = 1 ∨ k = 2 ∨ k = 3 ∨ k = 4 ∨ k = 5 ∨ k = 6) ∧ i = .int .i64 k ∧ Aside0 (spec_May.pass k a0 a1 a2 a3 a4 a5) ∧ Aside0 (spec_May.facts w w.heap.size b1 b2 b3 b4 b5 b6 b7 b8 b9 a0 a1 a2 a3 a4 a5 wr)) (fun i _ => (6 - intOf i).toNat)
  case atStart => exact ⟨0, .inl rfl, rfl, ⟨by unfold spec_May.pass; omega⟩, F1⟩
  case round =>
    clear F1
    obtain ⟨k, hk, rfl, HP, F⟩ := hrel
    rcases hk with rfl | rfl | rfl | rfl | rfl | rfl | rfl
    · have i0 := I0.out
      have gs := blk_lt F.out.2.1
      have s0 : wr.cell? ⟨w.heap.size, 0, none⟩ = some (.int .i64 a0) := (blk_cell F.out.2.1 0).trans rfl
      have s1 : wr.cell? ⟨w.heap.size, 1, none⟩ = some (.int .i64 a1) := (blk_cell F.out.2.1 1).trans rfl
      have s2 : wr.cell? ⟨w.heap.size, 2, none⟩ = some (.int .i64 a2) := (blk_cell F.out.2.1 2).trans rfl
      have s3 : wr.cell? ⟨w.heap.size, 3, none⟩ = some (.int .i64 a3) := (blk_cell F.out.2.1 3).trans rfl
      have s4 : wr.cell? ⟨w.heap.size, 4, none⟩ = some (.int .i64 a4) := (blk_cell F.out.2.1 4).trans rfl
      have s5 : wr.cell? ⟨w.heap.size, 5, none⟩ = some (.int .i64 a5) := (blk_cell F.out.2.1 5).trans rfl
      have gn0 : w.heap.size < wr.heap.size := by omega
      have gn1 : w.heap.size < wr.heap.size + 1 := by omega
      have gn2 : w.heap.size < wr.heap.size + 1 + 1 := by omega
      have gn3 : w.heap.size < wr.heap.size + 1 + 1 + 1 := by omega
      have l1 := blk_lt F.out.2.2.1
      have c1 : wr.cell? ⟨b1, 0, none⟩ = some (.int .i64 1) := (blk_cell F.out.2.2.1 0).trans rfl
      have n1_0 : b1 < wr.heap.size := by omega
      have n1_1 : b1 < wr.heap.size + 1 := by omega
      have n1_2 : b1 < wr.heap.size + 1 + 1 := by omega
      have n1_3 : b1 < wr.heap.size + 1 + 1 + 1 := by omega
      have n1_4 : b1 < wr.heap.size + 1 + 1 + 1 + 1 := by omega
      have n1_5 : b1 < wr.heap.size + 1 + 1 + 1 + 1 + 1 := by omega
      clear l1
      have l2 := blk_lt F.out.2.2.2.1
      have c2 : wr.cell? ⟨b2, 0, none⟩ = some (.int .i64 6) := (blk_cell F.out.2.2.2.1 0).trans rfl
      have n2_0 : b2 < wr.heap.size := by omega
      have n2_1 : b2 < wr.heap.size + 1 := by omega
      have n2_2 : b2 < wr.heap.size + 1 + 1 := by omega
      have n2_3 : b2 < wr.heap.size + 1 + 1 + 1 := by omega
      have n2_4 : b2 < wr.heap.size + 1 + 1 + 1 + 1 := by omega
      have n2_5 : b2 < wr.heap.size + 1 + 1 + 1 + 1 + 1 := by omega
      clear l2
      clear gs
      by_cases q1 : a0 < 1
      · obtain rfl : false = r := by rw [← HR.out]; exact (decide_eq_false (by omega)).symm
        have e1 : decide (a0 < 1) = true := decide_eq_true q1
        clear q1
        go_wp2
        go_ret
        exact ⟨rfl, by repeat (first | exact F.out.1 | apply below_alloc | apply pw_below_drewN | apply below_drew1)⟩
      · have e1 : decide (a0 < 1) = false := decide_eq_false q1
        by_cases q2 : 6 < a0
        · obtain rfl : false = r := by rw [← HR.out]; exact (decide_eq_false (by omega)).symm
          have e2 : decide (6 < a0) = true := decide_eq_true q2
          clear q1 q2
          go_wp2
          go_ret
          exact ⟨rfl, by repeat (first | exact F.out.1 | apply below_alloc | apply pw_below_drewN | apply below_drew1)⟩
        · have e2 : decide (6 < a0) = false := decide_eq_false q2
          replace HP := Aside0.mk (show spec_May.pass 1 a0 a1 a2 a3 a4 a5 by have := HP.out; unfold spec_May.pass at this ⊢; omega)
          clear q1 q2
          go_wp2
          go_roundw
          case rel => exact ⟨1, by omega, rfl, HP, ⟨by repeat (first | exact F.out | apply spec_May.facts_alloc | apply spec_May.facts_drewN)⟩⟩
          case measure => simp [intOf]
    · have i0 := I1.out
      have gs := blk_lt F.out.2.1
      have s0 : wr.cell? ⟨w.heap.size, 0, none⟩ = some (.int .i64 a0) := (blk_cell F.out.2.1 0).trans rfl
      have s1 : wr.cell? ⟨w.heap.size, 1, none⟩ = some (.int .i64 a1) := (blk_cell F.out.2.1 1).trans rfl
      have s2 : wr.cell? ⟨w.heap.size, 2, none⟩ = some (.int .i64 a2) := (blk_cell F.out.2.1 2).trans rfl
      have s3 : wr.cell? ⟨w.heap.size, 3, none⟩ = some (.int .i64 a3) := (blk_cell F.out.2.1 3).trans rfl
      have s4 : wr.cell? ⟨w.heap.size, 4, none⟩ = some (.int .i64 a4) := (blk_cell F.out.2.1 4).trans rfl
      have s5 : wr.cell? ⟨w.heap.size, 5, none⟩ = some (.int .i64 a5) := (blk_cell F.out.2.1 5).trans rfl
      have gn0 : w.heap.size < wr.heap.size := by omega
      have gn1 : w.heap.size < wr.heap.size + 1 := by omega
      have gn2 : w.heap.size < wr.heap.size + 1 + 1 := by omega
      have gn3 : w.heap.size < wr.heap.size + 1 + 1 + 1 := by omega
      clear gs
      by_cases q1 : a1 < a0
      · obtain rfl : false = r := by rw [← HR.out]; exact (decide_eq_false (by omega)).symm
        have e1 : decide (a1 < a0) = true := decide_eq_true q1
        clear q1
        go_wp2
        go_ret
        exact ⟨rfl, by repeat (first | exact F.out.1 | apply below_alloc | apply pw_below_drewN | apply below_drew1)⟩
      · have e1 : decide (a1 < a0) = false := decide_eq_false q1
        by_cases q2 : a2 < a1
        · obtain rfl : false = r := by rw [← HR.out]; exact (decide_eq_false (by omega)).symm
          have e2 : decide (a2 < a1) = true := decide_eq_true q2
          clear q1 q2
          go_wp2
          go_ret
          exact ⟨rfl, by repeat (first | exact F.out.1 | apply below_alloc | apply pw_below_drewN | apply below_drew1)⟩
        · have e2 : decide (a2 < a1) = false := decide_eq_false q2
          replace HP := Aside0.mk (show spec_May.pass 2 a0 a1 a2 a3 a4 a5 by have := HP.out; unfold spec_May.pass at this ⊢; omega)
          clear q1 q2
          go_wp2
          go_roundw
          case rel => exact ⟨2, by omega, rfl, HP, ⟨by repeat (first | exact F.out | apply spec_May.facts_alloc | apply spec_May.facts_drewN)⟩⟩
          case measure => simp [intOf]
    · have i0 := I2.out
      have gs := blk_lt F.out.2.1
      have s0 : wr.cell? ⟨w.heap.size, 0, none⟩ = some (.int .i64 a0) := (blk_cell F.out.2.1 0).trans rfl
      have s1 : wr.cell? ⟨w.heap.size, 1, none⟩ = some (.int .i64 a1) := (blk_cell F.out.2.1 1).trans rfl
      have s2 : wr.cell? ⟨w.heap.size, 2, none⟩ = some (.int .i64 a2) := (blk_cell F.out.2.1 2).trans rfl
      have s3 : wr.cell? ⟨w.heap.size, 3, none⟩ = some (.int .i64 a3) := (blk_cell F.out.2.1 3).trans rfl
      have s4 : wr.cell? ⟨w.heap.size, 4, none⟩ = some (.int .i64 a4) := (blk_cell F.out.2.1 4).trans rfl
      have s5 : wr.cell? ⟨w.heap.size, 5, none⟩ = some (.int .i64 a5) := (blk_cell F.out.2.1 5).trans rfl
      have gn0 : w.heap.size < wr.heap.size := by omega
      have gn1 : w.heap.size < wr.heap.size + 1 := by omega
      have gn2 : w.heap.size < wr.heap.size + 1 + 1 := by omega
      have gn3 : w.heap.size < wr.heap.size + 1 + 1 + 1 := by omega
      have l3 := blk_lt F.out.2.2.2.2.1
      have c3 : wr.cell? ⟨b3, 0, none⟩ = some (.int .i64 1) := (blk_cell F.out.2.2.2.2.1 0).trans rfl
      have n3_0 : b3 < wr.heap.size := by omega
      have n3_1 : b3 < wr.heap.size + 1 := by omega
      have n3_2 : b3 < wr.heap.size + 1 + 1 := by omega
      have n3_3 : b3 < wr.heap.size + 1 + 1 + 1 := by omega
      have n3_4 : b3 < wr.heap.size + 1 + 1 + 1 + 1 := by omega
      have n3_5 : b3 < wr.heap.size + 1 + 1 + 1 + 1 + 1 := by omega
      clear l3
      have l4 := blk_lt F.out.2.2.2.2.2.1
      have c4 : wr.cell? ⟨b4, 0, none⟩ = some (.int .i64 48) := (blk_cell F.out.2.2.2.2.2.1 0).trans rfl
      have n4_0 : b4 < wr.heap.size := by omega
      have n4_1 : b4 < wr.heap.size + 1 := by omega
      have n4_2 : b4 < wr.heap.size + 1 + 1 := by omega
      have n4_3 : b4 < wr.heap.size + 1 + 1 + 1 := by omega
      have n4_4 : b4 < wr.heap.size + 1 + 1 + 1 + 1 := by omega
      have n4_5 : b4 < wr.heap.size + 1 + 1 + 1 + 1 + 1 := by omega
      clear l4
      clear gs
      by_cases q1 : a2 < 1
      · obtain rfl : false = r := by rw [← HR.out]; exact (decide_eq_false (by omega)).symm
        have e1 : decide (a2 < 1) = true := decide_eq_true q1
        clear q1
        go_wp2
        go_ret
        exact ⟨rfl, by repeat (first | exact F.out.1 | apply below_alloc | apply pw_below_drewN | apply below_drew1)⟩
      · have e1 : decide (a2 < 1) = false := decide_eq_false q1
        by_cases q2 : 48 < a2
        · obtain rfl : false = r := by rw [← HR.out]; exact (decide_eq_false (by omega)).symm
          have e2 : decide (48 < a2) = true := decide_eq_true q2
          clear q1 q2
          go_wp2
          go_ret
          exact ⟨rfl, by repeat (first | exact F.out.1 | apply below_alloc | apply pw_below_drewN | apply below_drew1)⟩
        · have e2 : decide (48 < a2) = false := decide_eq_false q2
          replace HP := Aside0.mk (show spec_May.pass 3 a0 a1 a2 a3 a4 a5 by have := HP.out; unfold spec_May.pass at this ⊢; omega)
          clear q1 q2
          go_wp2
          go_roundw
          case rel => exact ⟨3, by omega, rfl, HP, ⟨by repeat (first | exact F.out | apply spec_May.facts_alloc | apply spec_May.facts_drewN)⟩⟩
          case measure => simp [intOf]
    · have i0 := I3.out
      have gs := blk_lt F.out.2.1
      have s0 : wr.cell? ⟨w.heap.size, 0, none⟩ = some (.int .i64 a0) := (blk_cell F.out.2.1 0).trans rfl
      have s1 : wr.cell? ⟨w.heap.size, 1, none⟩ = some (.int .i64 a1) := (blk_cell F.out.2.1 1).trans rfl
      have s2 : wr.cell? ⟨w.heap.size, 2, none⟩ = some (.int .i64 a2) := (blk_cell F.out.2.1 2).trans rfl
      have s3 : wr.cell? ⟨w.heap.size, 3, none⟩ = some (.int .i64 a3) := (blk_cell F.out.2.1 3).trans rfl
      have s4 : wr.cell? ⟨w.heap.size, 4, none⟩ = some (.int .i64 a4) := (blk_cell F.out.2.1 4).trans rfl
      have s5 : wr.cell? ⟨w.heap.size, 5, none⟩ = some (.int .i64 a5) := (blk_cell F.out.2.1 5).trans rfl
      have gn0 : w.heap.size < wr.heap.size := by omega
      have gn1 : w.heap.size < wr.heap.size + 1 := by omega
      have gn2 : w.heap.size < wr.heap.size + 1 + 1 := by omega
      have gn3 : w.heap.size < wr.heap.size + 1 + 1 + 1 := by omega
      have l5 := blk_lt F.out.2.2.2.2.2.2.1
      have c5 : wr.cell? ⟨b5, 0, none⟩ = some (.int .i64 1) := (blk_cell F.out.2.2.2.2.2.2.1 0).trans rfl
      have n5_0 : b5 < wr.heap.size := by omega
      have n5_1 : b5 < wr.heap.size + 1 := by omega
      have n5_2 : b5 < wr.heap.size + 1 + 1 := by omega
      have n5_3 : b5 < wr.heap.size + 1 + 1 + 1 := by omega
      have n5_4 : b5 < wr.heap.size + 1 + 1 + 1 + 1 := by omega
      have n5_5 : b5 < wr.heap.size + 1 + 1 + 1 + 1 + 1 := by omega
      clear l5
      clear gs
      by_cases q1 : a3 < 1
      · obtain rfl : false = r := by rw [← HR.out]; exact (decide_eq_false (by omega)).symm
        have e1 : decide (a3 < 1) = true := decide_eq_true q1
        clear q1
        go_wp2
        go_ret
        exact ⟨rfl, by repeat (first | exact F.out.1 | apply below_alloc | apply pw_below_drewN | apply below_drew1)⟩
      · have e1 : decide (a3 < 1) = false := decide_eq_false q1
        by_cases q2 : a4 < a3
        · obtain rfl : false = r := by rw [← HR.out]; exact (decide_eq_false (by omega)).symm
          have e2 : decide (a4 < a3) = true := decide_eq_true q2
          clear q1 q2
          go_wp2
          go_ret
          exact ⟨rfl, by repeat (first | exact F.out.1 | apply below_alloc | apply pw_below_drewN | apply below_drew1)⟩
        · have e2 : decide (a4 < a3) = false := decide_eq_false q2
          replace HP := Aside0.mk (show spec_May.pass 4 a0 a1 a2 a3 a4 a5 by have := HP.out; unfold spec_May.pass at this ⊢; omega)
          clear q1 q2
          go_wp2
          go_roundw
          case rel => exact ⟨4, by omega, rfl, HP, ⟨by repeat (first | exact F.out | apply spec_May.facts_alloc | apply spec_May.facts_drewN)⟩⟩
          case measure => simp [intOf]
    · have i0 := I4.out
      have gs := blk_lt F.out.2.1
      have s0 : wr.cell? ⟨w.heap.size, 0, none⟩ = some (.int .i64 a0) := (blk_cell F.out.2.1 0).trans rfl
      have s1 : wr.cell? ⟨w.heap.size, 1, none⟩ = some (.int .i64 a1) := (blk_cell F.out.2.1 1).trans rfl
      have s2 : wr.cell? ⟨w.heap.size, 2, none⟩ = some (.int .i64 a2) := (blk_cell F.out.2.1 2).trans rfl
      have s3 : wr.cell? ⟨w.heap.size, 3, none⟩ = some (.int .i64 a3) := (blk_cell F.out.2.1 3).trans rfl
      have s4 : wr.cell? ⟨w.heap.size, 4, none⟩ = some (.int .i64 a4) := (blk_cell F.out.2.1 4).trans rfl
      have s5 : wr.cell? ⟨w.heap.size, 5, none⟩ = some (.int .i64 a5) := (blk_cell F.out.2.1 5).trans rfl
      have gn0 : w.heap.size < wr.heap.size := by omega
      have gn1 : w.heap.size < wr.heap.size + 1 := by omega
      have gn2 : w.heap.size < wr.heap.size + 1 + 1 := by omega
      have gn3 : w.heap.size < wr.heap.size + 1 + 1 + 1 := by omega
      have l6 := blk_lt F.out.2.2.2.2.2.2.2.1
      have c6 : wr.cell? ⟨b6, 0, none⟩ = some (.int .i64 1) := (blk_cell F.out.2.2.2.2.2.2.2.1 0).trans rfl
      have n6_0 : b6 < wr.heap.size := by omega
      have n6_1 : b6 < wr.heap.size + 1 := by omega
      have n6_2 : b6 < wr.heap.size + 1 + 1 := by omega
      have n6_3 : b6 < wr.heap.size + 1 + 1 + 1 := by omega
      have n6_4 : b6 < wr.heap.size + 1 + 1 + 1 + 1 := by omega
      have n6_5 : b6 < wr.heap.size + 1 + 1 + 1 + 1 + 1 := by omega
      clear l6
      have l7 := blk_lt F.out.2.2.2.2.2.2.2.2.1
      have c7 : wr.cell? ⟨b7, 0, none⟩ = some (.int .i64 6) := (blk_cell F.out.2.2.2.2.2.2.2.2.1 0).trans rfl
      have n7_0 : b7 < wr.heap.size := by omega
      have n7_1 : b7 < wr.heap.size + 1 := by omega
      have n7_2 : b7 < wr.heap.size + 1 + 1 := by omega
      have n7_3 : b7 < wr.heap.size + 1 + 1 + 1 := by omega
      have n7_4 : b7 < wr.heap.size + 1 + 1 + 1 + 1 := by omega
      have n7_5 : b7 < wr.heap.size + 1 + 1 + 1 + 1 + 1 := by omega
      clear l7
      clear gs
      by_cases q1 : a4 < 1
      · obtain rfl : false = r := by rw [← HR.out]; exact (decide_eq_false (by omega)).symm
        have e1 : decide (a4 < 1) = true := decide_eq_true q1
        clear q1
        go_wp2
        go_ret
        exact ⟨rfl, by repeat (first | exact F.out.1 | apply below_alloc | apply pw_below_drewN | apply below_drew1)⟩
      · have e1 : decide (a4 < 1) = false := decide_eq_false q1
        by_cases q2 : 6 < a4
        · obtain rfl : false = r := by rw [← HR.out]; exact (decide_eq_false (by omega)).symm
          have e2 : decide (6 < a4) = true := decide_eq_true q2
          clear q1 q2
          go_wp2
          go_ret
          exact ⟨rfl, by repeat (first | exact F.out.1 | apply below_alloc | apply pw_below_drewN | apply below_drew1)⟩
        · have e2 : decide (6 < a4) = false := decide_eq_false q2
          replace HP := Aside0.mk (show spec_May.pass 5 a0 a1 a2 a3 a4 a5 by have := HP.out; unfold spec_May.pass at this ⊢; omega)
          clear q1 q2
          go_wp2
          go_roundw
          case rel => exact ⟨5, by omega, rfl, HP, ⟨by repeat (first | exact F.out | apply spec_May.facts_alloc | apply spec_May.facts_drewN)⟩⟩
          case measure => simp [intOf]
    · have i0 := I5.out
      have gs := blk_lt F.out.2.1
      have s0 : wr.cell? ⟨w.heap.size, 0, none⟩ = some (.int .i64 a0) := (blk_cell F.out.2.1 0).trans rfl
      have s1 : wr.cell? ⟨w.heap.size, 1, none⟩ = some (.int .i64 a1) := (blk_cell F.out.2.1 1).trans rfl
      have s2 : wr.cell? ⟨w.heap.size, 2, none⟩ = some (.int .i64 a2) := (blk_cell F.out.2.1 2).trans rfl
      have s3 : wr.cell? ⟨w.heap.size, 3, none⟩ = some (.int .i64 a3) := (blk_cell F.out.2.1 3).trans rfl
      have s4 : wr.cell? ⟨w.heap.size, 4, none⟩ = some (.int .i64 a4) := (blk_cell F.out.2.1 4).trans rfl
      have s5 : wr.cell? ⟨w.heap.size, 5, none⟩ = some (.int .i64 a5) := (blk_cell F.out.2.1 5).trans rfl
      have gn0 : w.heap.size < wr.heap.size := by omega
      have gn1 : w.heap.size < wr.heap.size + 1 := by omega
      have gn2 : w.heap.size < wr.heap.size + 1 + 1 := by omega
      have gn3 : w.heap.size < wr.heap.size + 1 + 1 + 1 := by omega
      have l8 := blk_lt F.out.2.2.2.2.2.2.2.2.2.1
      have c8 : wr.cell? ⟨b8, 0, none⟩ = some (.int .i64 0) := (blk_cell F.out.2.2.2.2.2.2.2.2.2.1 0).trans rfl
      have n8_0 : b8 < wr.heap.size := by omega
      have n8_1 : b8 < wr.heap.size + 1 := by omega
      have n8_2 : b8 < wr.heap.size + 1 + 1 := by omega
      have n8_3 : b8 < wr.heap.size + 1 + 1 + 1 := by omega
      have n8_4 : b8 < wr.heap.size + 1 + 1 + 1 + 1 := by omega
      have n8_5 : b8 < wr.heap.size + 1 + 1 + 1 + 1 + 1 := by omega
      clear l8
      have l9 := blk_lt F.out.2.2.2.2.2.2.2.2.2.2
      have c9 : wr.cell? ⟨b9, 0, none⟩ = some (.int .i64 8) := (blk_cell F.out.2.2.2.2.2.2.2.2.2.2 0).trans rfl
      have n9_0 : b9 < wr.heap.size := by omega
      have n9_1 : b9 < wr.heap.size + 1 := by omega
      have n9_2 : b9 < wr.heap.size + 1 + 1 := by omega
      have n9_3 : b9 < wr.heap.size + 1 + 1 + 1 := by omega
      have n9_4 : b9 < wr.heap.size + 1 + 1 + 1 + 1 := by omega
      have n9_5 : b9 < wr.heap.size + 1 + 1 + 1 + 1 + 1 := by omega
      clear l9
      clear gs
      by_cases q1 : a5 < 0
      · obtain rfl : false = r := by rw [← HR.out]; exact (decide_eq_false (by omega)).symm
        have e1 : decide (a5 < 0) = true := decide_eq_true q1
        clear q1
        go_wp2
        go_ret
        exact ⟨rfl, by repeat (first | exact F.out.1 | apply below_alloc | apply pw_below_drewN | apply below_drew1)⟩
      · have e1 : decide (a5 < 0) = false := decide_eq_false q1
        by_cases q2 : 8 < a5
        · obtain rfl : false = r := by rw [← HR.out]; exact (decide_eq_false (by omega)).symm
          have e2 : decide (8 < a5) = true := decide_eq_true q2
          clear q1 q2
          go_wp2
          go_ret
          exact ⟨rfl, by repeat (first | exact F.out.1 | apply below_alloc | apply pw_below_drewN | apply below_drew1)⟩
        · have e2 : decide (8 < a5) = false := decide_eq_false q2
          replace HP := Aside0.mk (show spec_May.pass 6 a0 a1 a2 a3 a4 a5 by have := HP.out; unfold spec_May.pass at this ⊢; omega)
          clear q1 q2
          go_wp2
          go_roundw
          case rel => exact ⟨6, by omega, rfl, HP, ⟨by repeat (first | exact F.out | apply spec_May.facts_alloc | apply spec_May.facts_drewN)⟩⟩
          case measure => simp [intOf]
    · have s1 : wr.cell? ⟨w.heap.size, 1, none⟩ = some (.int .i64 a1) := (blk_cell F.out.2.1 1).trans rfl
      have s2 : wr.cell? ⟨w.heap.size, 2, none⟩ = some (.int .i64 a2) := (blk_cell F.out.2.1 2).trans rfl
      have s3 : wr.cell? ⟨w.heap.size, 3, none⟩ = some (.int .i64 a3) := (blk_cell F.out.2.1 3).trans rfl
      have s4 : wr.cell? ⟨w.heap.size, 4, none⟩ = some (.int .i64 a4) := (blk_cell F.out.2.1 4).trans rfl
      have s5 : wr.cell? ⟨w.heap.size, 5, none⟩ = some (.int .i64 a5) := (blk_cell F.out.2.1 5).trans rfl
      cases hm : decide (1 ≤ a3 ∧ a3 ≤ a4 ∧ a4 ≤ 6) with
      | false =>
        obtain rfl : false = r := by rw [← HR.out]; exact (decide_eq_false (fun q => absurd (of_decide_eq_false hm) (fun z => z q.2.2.2.2.2.1))).symm
        have hp := Aside0.mk (spec_May.pat a3 a4 false hm)
        clear hm
        go_wp2_with (go_at_call 34; (with_reducible refine (pat_May.calls a3 a4 false _ hp.out).mono ?_); rintro e w' ⟨rfl, ⟨nd, rfl⟩⟩)
        go_ret
        exact ⟨rfl, by repeat (first | exact F.out.1 | apply below_alloc | apply pw_below_drewN | apply below_drew1)⟩
      | true =>
        have hp := Aside0.mk (spec_May.pat a3 a4 true hm)
        have hm := of_decide_eq_true hm
        by_cases q1 : 0 < a5
        · obtain rfl : true = r := by rw [← HR.out]; exact (decide_eq_true (by have := HP.out; unfold spec_May.pass at this; omega)).symm
          have e1 : decide (0 < a5) = true := decide_eq_true q1
          clear q1 hm
          go_wp2_with (go_at_call 34; (with_reducible refine (pat_May.calls a3 a4 true _ hp.out).mono ?_); rintro e w' ⟨rfl, ⟨nd, rfl⟩⟩)
          go_ret
          exact ⟨rfl, by repeat (first | exact F.out.1 | apply below_alloc | apply pw_below_drewN | apply below_drew1)⟩
        · have e1 : decide (0 < a5) = false := decide_eq_false q1
          by_cases q2 : a1 = a2
          · obtain rfl : true = r := by rw [← HR.out]; exact (decide_eq_true (by have := HP.out; unfold spec_May.pass at this; omega)).symm
            have e2 : (a1 == a2) = true := beq_iff_eq.mpr q2
            clear q1 q2 hm
            go_wp2_with (go_at_call 34; (with_reducible refine (pat_May.calls a3 a4 true _ hp.out).mono ?_); rintro e w' ⟨rfl, ⟨nd, rfl⟩⟩)
            go_ret
            exact ⟨rfl, by repeat (first | exact F.out.1 | apply below_alloc | apply pw_below_drewN | apply below_drew1)⟩
          · obtain rfl : false = r := by rw [← HR.out]; exact (decide_eq_false (by omega)).symm
            have e2 : (a1 == a2) = false := beq_eq_false_iff_ne.mpr q2
            clear q1 q2 hm
            go_wp2_with (go_at_call 34; (with_reducible refine (pat_May.calls a3 a4 true _ hp.out).mono ?_); rintro e w' ⟨rfl, ⟨nd, rfl⟩⟩)
            go_ret
            exact ⟨rfl, by repeat (first | exact F.out.1 | apply below_alloc | apply pw_below_drewN | apply below_drew1)⟩

/-! ### units_At: function 27 -/
def units_At.f (a0_0 : Int) (a0_1 : Int) (a0_2 : Int) (a0_3 : Int) (a0_4 : Int) (a0_5 : Int) (a1 : Int) : Option (Int) := (spec_May.f a0_0 a0_1 a0_2 a0_3 a0_4 a0_5).bind fun t105 => (if t105 = true then (if a1 < a0_1 then (some 0) else (if a1 > a0_2 then (some 0) else ((frac_Ceil.f (wrap64 ((wrap64 (a0_0 * a0_3)) * 1048576)) (wrap64 (a0_4 * a1))).bind fun bt106 => (some bt106.1)))) else (some 0))
set_option maxHeartbeats 8000000 in
set_option maxRecDepth 100000 in
theorem units_At.calls (a0_0 : Int) (a0_1 : Int) (a0_2 : Int) (a0_3 : Int) (a0_4 : Int) (a0_5 : Int) (a1 : Int) (r : Int) (w : World) (h : units_At.f a0_0 a0_1 a0_2 a0_3 a0_4 a0_5 a1 = some r) :
    Calls Try.prog 27 #[.agg #[.int .i64 a0_0, .int .i64 a0_1, .int .i64 a0_2, .int .i64 a0_3, .int .i64 a0_4, .int .i64 a0_5], .int .i64 a1] w fun e w' => e = .returned (.int .i64 r) ∧ Below w.heap.size w w' := by
  have hu24 := Try.underlying24
  have HB := Aside0.mk (Below.refl w.heap.size w)
  have H : ((spec_May.f a0_0 a0_1 a0_2 a0_3 a0_4 a0_5).bind fun t105 => (if t105 = true then (if a1 < a0_1 then (some 0) else (if a1 > a0_2 then (some 0) else ((frac_Ceil.f (wrap64 ((wrap64 (a0_0 * a0_3)) * 1048576)) (wrap64 (a0_4 * a1))).bind fun bt106 => (some bt106.1)))) else (some 0))) = some r := h
  clear h
  replace H := Option.bind_eq_some_iff.mp H
  obtain ⟨t105, A30, H⟩ := H
  try dsimp only at H
  have A3 := Aside0.mk A30
  clear A30
  by_cases c4 : t105 = true
  · subst c4
    rw [if_pos rfl] at H
    by_cases c5 : a1 < a0_1
    · rw [if_pos c5] at H
      have c5b0 : decide (a1 < a0_1) = true := decide_eq_true c5
      clear c5
      obtain rfl := Option.some.inj H
      go_enter Try.func27, Try.ntmps27
      go_wp2_with (first | ((with_reducible refine gate_dst (N := 2) rfl ?_); refine box_event ?hg (N := 2) ?hd (cs := #[.int .i64 a0_0, .int .i64 a0_1, .int .i64 a0_2, .int .i64 a0_3, .int .i64 a0_4, .int .i64 a0_5]) (t := 24) ?hr ?_; (case hd => rfl); (case hg => rfl); (case hr => first | (go_simp; done) | (go_simp; rfl)); intro gb104 hg w6 hbox hb; have n0_ := bs HB hb; have n1_ := Aside0.mk (hbox); have n2_ := bz HB hg; have n3_ := bz HB hg; clear HB; have HB := n0_; have BK104 := n1_; have GW104 := n2_; have GE104 := n3_; clear n0_ n1_ n2_ n3_; clear hb hbox hg; obtain ⟨hcz7_0, hcz7_1, hcz7_2, hcz7_3, hcz7_4, hcz7_5⟩ := cc6 BK104; obtain ⟨hfz7_0, hfz7_1, hfz7_2, hfz7_3, hfz7_4, hfz7_5⟩ := cf6 BK104) | ((with_reducible refine gate_callee (f := 37) rfl ?_); refine goesL_ (some 8) rfl rfl Try.func37 (by kernel_rfl) rfl #[.agg #[.int .i64 a0_0, .int .i64 a0_1, .int .i64 a0_2, .int .i64 a0_3, .int .i64 a0_4, .int .i64 a0_5]] rfl (by (try simp only [List.map_toArray, List.map_cons, List.map_nil]); first | done | rfl | (simp only [List.length_drop, List.length_take]; rfl)) ?_; (with_reducible refine (spec_May.calls a0_0 a0_1 a0_2 a0_3 a0_4 a0_5 true _ A3.out).mono ?_); rintro e w8 ⟨rfl, hb⟩; refine ⟨_, rfl, ?_⟩; have n0_ := bb BK104 hb; have n1_ := bs HB hb; clear BK104; clear HB; have BK104 := n0_; have HB := n1_; clear n0_ n1_; (try clear hb); (try clear hb2); (try clear hk); (try clear hi); (try clear hcz7_0 hcz7_1 hcz7_2 hcz7_3 hcz7_4 hcz7_5 hfz7_0 hfz7_1 hfz7_2 hfz7_3 hfz7_4 hfz7_5); obtain ⟨hcz9_0, hcz9_1, hcz9_2, hcz9_3, hcz9_4, hcz9_5⟩ := cc6 BK104; obtain ⟨hfz9_0, hfz9_1, hfz9_2, hfz9_3, hfz9_4, hfz9_5⟩ := cf6 BK104))
      go_ret
      exact ⟨by first | rfl | (simp [errW_none, errW_some] <;> rfl) | (simp [*, errW_none, errW_some] <;> rfl) | (exfalso; contradiction), by repeat (first | (with_reducible first | exact HB.out | apply below_alloc | apply pw_below_drewN | apply below_drew1 | refine below_set ?_ GE104.out) | exact HB.out)⟩
    · rw [if_neg c5] at H
      have c5b0 : decide (a1 < a0_1) = false := decide_eq_false c5
      clear c5
      by_cases c10 : a1 > a0_2
      · rw [if_pos c10] at H
        have c10b0 : decide (a0_2 < a1) = true := decide_eq_true c10
        clear c10
        obtain rfl := Option.some.inj H
        go_enter Try.func27, Try.ntmps27
        go_wp2_with (first | ((with_reducible refine gate_dst (N := 2) rfl ?_); refine box_event ?hg (N := 2) ?hd (cs := #[.int .i64 a0_0, .int .i64 a0_1, .int .i64 a0_2, .int .i64 a0_3, .int .i64 a0_4, .int .i64 a0_5]) (t := 24) ?hr ?_; (case hd => rfl); (case hg => rfl); (case hr => first | (go_simp; done) | (go_simp; rfl)); intro gb104 hg w11 hbox hb; have n0_ := bs HB hb; have n1_ := Aside0.mk (hbox); have n2_ := bz HB hg; have n3_ := bz HB hg; clear HB; have HB := n0_; have BK104 := n1_; have GW104 := n2_; have GE104 := n3_; clear n0_ n1_ n2_ n3_; clear hb hbox hg; obtain ⟨hcz12_0, hcz12_1, hcz12_2, hcz12_3, hcz12_4, hcz12_5⟩ := cc6 BK104; obtain ⟨hfz12_0, hfz12_1, hfz12_2, hfz12_3, hfz12_4, hfz12_5⟩ := cf6 BK104) | ((with_reducible refine gate_callee (f := 37) rfl ?_); refine goesL_ (some 8) rfl rfl Try.func37 (by kernel_rfl) rfl #[.agg #[.int .i64 a0_0, .int .i64 a0_1, .int .i64 a0_2, .int .i64 a0_3, .int .i64 a0_4, .int .i64 a0_5]] rfl (by (try simp only [List.map_toArray, List.map_cons, List.map_nil]); first | done | rfl | (simp only [List.length_drop, List.length_take]; rfl)) ?_; (with_reducible refine (spec_May.calls a0_0 a0_1 a0_2 a0_3 a0_4 a0_5 true _ A3.out).mono ?_); rintro e w13 ⟨rfl, hb⟩; refine ⟨_, rfl, ?_⟩; have n0_ := bb BK104 hb; have n1_ := bs HB hb; clear BK104; clear HB; have BK104 := n0_; have HB := n1_; clear n0_ n1_; (try clear hb); (try clear hb2); (try clear hk); (try clear hi); (try clear hcz12_0 hcz12_1 hcz12_2 hcz12_3 hcz12_4 hcz12_5 hfz12_0 hfz12_1 hfz12_2 hfz12_3 hfz12_4 hfz12_5); obtain ⟨hcz14_0, hcz14_1, hcz14_2, hcz14_3, hcz14_4, hcz14_5⟩ := cc6 BK104; obtain ⟨hfz14_0, hfz14_1, hfz14_2, hfz14_3, hfz14_4, hfz14_5⟩ := cf6 BK104))
        go_ret
        exact ⟨by first | rfl | (simp [errW_none, errW_some] <;> rfl) | (simp [*, errW_none, errW_some] <;> rfl) | (exfalso; contradiction), by repeat (first | (with_reducible first | exact HB.out | apply below_alloc | apply pw_below_drewN | apply below_drew1 | refine below_set ?_ GE104.out) | exact HB.out)⟩
      · rw [if_neg c10] at H
        have c10b0 : decide (a0_2 < a1) = false := decide_eq_false c10
        clear c10
        replace H := Option.bind_eq_some_iff.mp H
        obtain ⟨⟨t106, t107⟩, A150, H⟩ := H
        try dsimp only at H
        have A15 := Aside0.mk A150
        clear A150
        obtain rfl := Option.some.inj H
        go_enter Try.func27, Try.ntmps27
        go_wp2_with (first | ((with_reducible refine gate_dst (N := 2) rfl ?_); refine box_event ?hg (N := 2) ?hd (cs := #[.int .i64 a0_0, .int .i64 a0_1, .int .i64 a0_2, .int .i64 a0_3, .int .i64 a0_4, .int .i64 a0_5]) (t := 24) ?hr ?_; (case hd => rfl); (case hg => rfl); (case hr => first | (go_simp; done) | (go_simp; rfl)); intro gb104 hg w16 hbox hb; have n0_ := bs HB hb; have n1_ := Aside0.mk (hbox); have n2_ := bz HB hg; have n3_ := bz HB hg; clear HB; have HB := n0_; have BK104 := n1_; have GW104 := n2_; have GE104 := n3_; clear n0_ n1_ n2_ n3_; clear hb hbox hg; obtain ⟨hcz17_0, hcz17_1, hcz17_2, hcz17_3, hcz17_4, hcz17_5⟩ := cc6 BK104; obtain ⟨hfz17_0, hfz17_1, hfz17_2, hfz17_3, hfz17_4, hfz17_5⟩ := cf6 BK104) | ((with_reducible refine gate_callee (f := 37) rfl ?_); refine goesL_ (some 8) rfl rfl Try.func37 (by kernel_rfl) rfl #[.agg #[.int .i64 a0_0, .int .i64 a0_1, .int .i64 a0_2, .int .i64 a0_3, .int .i64 a0_4, .int .i64 a0_5]] rfl (by (try simp only [List.map_toArray, List.map_cons, List.map_nil]); first | done | rfl | (simp only [List.length_drop, List.length_take]; rfl)) ?_; (with_reducible refine (spec_May.calls a0_0 a0_1 a0_2 a0_3 a0_4 a0_5 true _ A3.out).mono ?_); rintro e w18 ⟨rfl, hb⟩; refine ⟨_, rfl, ?_⟩; have n0_ := bb BK104 hb; have n1_ := bs HB hb; clear BK104; clear HB; have BK104 := n0_; have HB := n1_; clear n0_ n1_; (try clear hb); (try clear hb2); (try clear hk); (try clear hi); (try clear hcz17_0 hcz17_1 hcz17_2 hcz17_3 hcz17_4 hcz17_5 hfz17_0 hfz17_1 hfz17_2 hfz17_3 hfz17_4 hfz17_5); obtain ⟨hcz19_0, hcz19_1, hcz19_2, hcz19_3, hcz19_4, hcz19_5⟩ := cc6 BK104; obtain ⟨hfz19_0, hfz19_1, hfz19_2, hfz19_3, hfz19_4, hfz19_5⟩ := cf6 BK104) | ((with_reducible refine gate_callee (f := 29) rfl ?_); refine goesL_ (some 33) rfl rfl Try.func29 (by kernel_rfl) rfl #[.int .i64 (wrap64 ((wrap64 (a0_0 * a0_3)) * 1048576)), .int .i64 (wrap64 (a0_4 * a1))] rfl (by (try simp only [List.map_toArray, List.map_cons, List.map_nil]); first | done | rfl | (simp only [List.length_drop, List.length_take]; rfl)) ?_; (with_reducible refine (frac_Ceil.calls (wrap64 ((wrap64 (a0_0 * a0_3)) * 1048576)) (wrap64 (a0_4 * a1)) t106 t107 _ A15.out).mono ?_); rintro e w20 ⟨rfl, hb⟩; refine ⟨_, rfl, ?_⟩; have n0_ := bb BK104 hb; have n1_ := bs HB hb; clear BK104; clear HB; have BK104 := n0_; have HB := n1_; clear n0_ n1_; (try clear hb); (try clear hb2); (try clear hk); (try clear hi)))
        go_ret
        exact ⟨by first | rfl | (simp [errW_none, errW_some] <;> rfl) | (simp [*, errW_none, errW_some] <;> rfl) | (exfalso; contradiction), by repeat (first | (with_reducible first | exact HB.out | apply below_alloc | apply pw_below_drewN | apply below_drew1 | refine below_set ?_ GE104.out) | exact HB.out)⟩
  · replace c4 := Bool.eq_false_iff.mpr c4
    subst c4
    rw [if_neg (show ¬ (false = true) by decide)] at H
    obtain rfl := Option.some.inj H
    go_enter Try.func27, Try.ntmps27
    go_wp2_with (first | ((with_reducible refine gate_dst (N := 2) rfl ?_); refine box_event ?hg (N := 2) ?hd (cs := #[.int .i64 a0_0, .int .i64 a0_1, .int .i64 a0_2, .int .i64 a0_3, .int .i64 a0_4, .int .i64 a0_5]) (t := 24) ?hr ?_; (case hd => rfl); (case hg => rfl); (case hr => first | (go_simp; done) | (go_simp; rfl)); intro gb104 hg w21 hbox hb; have n0_ := bs HB hb; have n1_ := Aside0.mk (hbox); have n2_ := bz HB hg; have n3_ := bz HB hg; clear HB; have HB := n0_; have BK104 := n1_; have GW104 := n2_; have GE104 := n3_; clear n0_ n1_ n2_ n3_; clear hb hbox hg; obtain ⟨hcz22_0, hcz22_1, hcz22_2, hcz22_3, hcz22_4, hcz22_5⟩ := cc6 BK104; obtain ⟨hfz22_0, hfz22_1, hfz22_2, hfz22_3, hfz22_4, hfz22_5⟩ := cf6 BK104) | ((with_reducible refine gate_callee (f := 37) rfl ?_); refine goesL_ (some 8) rfl rfl Try.func37 (by kernel_rfl) rfl #[.agg #[.int .i64 a0_0, .int .i64 a0_1, .int .i64 a0_2, .int .i64 a0_3, .int .i64 a0_4, .int .i64 a0_5]] rfl (by (try simp only [List.map_toArray, List.map_cons, List.map_nil]); first | done | rfl | (simp only [List.length_drop, List.length_take]; rfl)) ?_; (with_reducible refine (spec_May.calls a0_0 a0_1 a0_2 a0_3 a0_4 a0_5 false _ A3.out).mono ?_); rintro e w23 ⟨rfl, hb⟩; refine ⟨_, rfl, ?_⟩; have n0_ := bb BK104 hb; have n1_ := bs HB hb; clear BK104; clear HB; have BK104 := n0_; have HB := n1_; clear n0_ n1_; (try clear hb); (try clear hb2); (try clear hk); (try clear hi)))
    go_ret
    exact ⟨by first | rfl | (simp [errW_none, errW_some] <;> rfl) | (simp [*, errW_none, errW_some] <;> rfl) | (exfalso; contradiction), by repeat (first | (with_reducible first | exact HB.out | apply below_alloc | apply pw_below_drewN | apply below_drew1 | refine below_set ?_ GE104.out) | exact HB.out)⟩

/-! ### demand_may: function 25 -/
def demand_may.f (a0_0 : Int) (a0_1 : Int) (a0_2 : Int) (a0_3 : Int) (a0_4 : Int) (a0_5 : Int) (a0_6 : Int) : Option (Bool) := (units_At.f a0_0 a0_1 a0_2 a0_3 a0_4 a0_5 a0_6).bind fun t109 => (some (decide (t109 > 0)))
set_option maxHeartbeats 8000000 in
set_option maxRecDepth 100000 in
theorem demand_may.calls (a0_0 : Int) (a0_1 : Int) (a0_2 : Int) (a0_3 : Int) (a0_4 : Int) (a0_5 : Int) (a0_6 : Int) (r : Bool) (w : World) (h : demand_may.f a0_0 a0_1 a0_2 a0_3 a0_4 a0_5 a0_6 = some r) :
    Calls Try.prog 25 #[.agg #[.int .i64 a0_0, .int .i64 a0_1, .int .i64 a0_2, .int .i64 a0_3, .int .i64 a0_4, .int .i64 a0_5, .int .i64 a0_6]] w fun e w' => e = .returned (.bool r) ∧ Below w.heap.size w w' := by
  have hu26 := Try.underlying26
  have hu24 := Try.underlying24
  have HB := Aside0.mk (Below.refl w.heap.size w)
  have H : ((units_At.f a0_0 a0_1 a0_2 a0_3 a0_4 a0_5 a0_6).bind fun t109 => (some (decide (t109 > 0)))) = some r := h
  clear h
  replace H := Option.bind_eq_some_iff.mp H
  obtain ⟨t109, A20, H⟩ := H
  try dsimp only at H
  have A2 := Aside0.mk A20
  clear A20
  obtain rfl := Option.some.inj H
  go_enter Try.func25, Try.ntmps25
  go_wp2_with (first | ((with_reducible refine gate_dst (N := 1) rfl ?_); refine box_event ?hg (N := 1) ?hd (cs := #[.int .i64 a0_0, .int .i64 a0_1, .int .i64 a0_2, .int .i64 a0_3, .int .i64 a0_4, .int .i64 a0_5, .int .i64 a0_6]) (t := 26) ?hr ?_; (case hd => rfl); (case hg => rfl); (case hr => first | (go_simp; done) | (go_simp; rfl)); intro gb108 hg w3 hbox hb; have n0_ := bs HB hb; have n1_ := Aside0.mk (hbox); have n2_ := bz HB hg; have n3_ := bz HB hg; clear HB; have HB := n0_; have BK108 := n1_; have GW108 := n2_; have GE108 := n3_; clear n0_ n1_ n2_ n3_; clear hb hbox hg; obtain ⟨hcz4_0, hcz4_1, hcz4_2, hcz4_3, hcz4_4, hcz4_5, hcz4_6⟩ := cc7 BK108; obtain ⟨hfz4_0, hfz4_1, hfz4_2, hfz4_3, hfz4_4, hfz4_5, hfz4_6⟩ := cf7 BK108) | ((with_reducible refine gate_callee (f := 27) rfl ?_); refine goesL_ (some 7) rfl rfl Try.func27 (by kernel_rfl) rfl #[.agg #[.int .i64 a0_0, .int .i64 a0_1, .int .i64 a0_2, .int .i64 a0_3, .int .i64 a0_4, .int .i64 a0_5], .int .i64 a0_6] rfl (by (try simp only [List.map_toArray, List.map_cons, List.map_nil]); first | done | rfl | (simp only [List.length_drop, List.length_take]; rfl)) ?_; (with_reducible refine (units_At.calls a0_0 a0_1 a0_2 a0_3 a0_4 a0_5 a0_6 t109 _ A2.out).mono ?_); rintro e w5 ⟨rfl, hb⟩; refine ⟨_, rfl, ?_⟩; have n0_ := bb BK108 hb; have n1_ := bs HB hb; clear BK108; clear HB; have BK108 := n0_; have HB := n1_; clear n0_ n1_; (try clear hb); (try clear hb2); (try clear hk); (try clear hi)))
  go_ret
  exact ⟨by first | rfl | (simp [errW_none, errW_some] <;> rfl) | (simp [*, errW_none, errW_some] <;> rfl) | (exfalso; contradiction), by repeat (first | (with_reducible first | exact HB.out | apply below_alloc | apply pw_below_drewN | apply below_drew1 | refine below_set ?_ GE108.out) | exact HB.out)⟩

/-! ### pat_in: function 35 -/
def pat_in.f (a0 : Int) : Option (Bool) := if a0 ≥ 0 then (some (decide (a0 ≤ 1099511627776))) else (some false)
set_option maxHeartbeats 8000000 in
set_option maxRecDepth 100000 in
theorem pat_in.calls (a0 : Int) (r : Bool) (w : World) (h : pat_in.f a0 = some r) :
    Calls Try.prog 35 #[.int .i64 a0] w fun e w' => e = .returned (.bool r) ∧ Drawn0 w w' := by
  have H : (if a0 ≥ 0 then (some (decide (a0 ≤ 1099511627776))) else (some false)) = some r := h
  clear h
  by_cases c2 : a0 ≥ 0
  · rw [if_pos c2] at H
    have c2b0 : decide (0 ≤ a0) = true := decide_eq_true c2
    clear c2
    obtain rfl := Option.some.inj H
    go_enter Try.func35, Try.ntmps35
    go_wp2
    go_ret
    exact ⟨by first | rfl | (simp; done) | (simp [*]; done) | (exfalso; contradiction), by repeat (first | exact Drawn0.refl _ | apply Drawn0.step)⟩
  · rw [if_neg c2] at H
    have c2b0 : decide (0 ≤ a0) = false := decide_eq_false c2
    clear c2
    obtain rfl := Option.some.inj H
    go_enter Try.func35, Try.ntmps35
    go_wp2
    go_ret
    exact ⟨by first | rfl | (simp; done) | (simp [*]; done) | (exfalso; contradiction), by repeat (first | exact Drawn0.refl _ | apply Drawn0.step)⟩

end Go.Proofs.Ytngledpkoeioiaa.P
