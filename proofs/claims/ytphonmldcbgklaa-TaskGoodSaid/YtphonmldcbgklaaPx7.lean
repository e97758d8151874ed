-- Written by a program of this session (hprint.py), out of the translation; functions that the print does not take are given by hand.
import Derived.Test.YtphonmldcbgklaaPx0
import Derived.Test.YtphonmldcbgklaaPx5
import Derived.Test.YtphonmldcbgklaaPx6
namespace Go.Proofs.Ytphonmldcbgklaa.P
open Go.RowKit Go.Proofs.YtphonmldcbgklaaM Go.Proofs.YtphonmldcbgklaaW.PrintWords Go.Proofs.YtphonmldcbgklaaW.PrintLast Go.Proofs.YtphonmldcbgklaaW.PrintMore
attribute [local go_sem] max2_int min2_int max_two min_two max_three min_three max_four min_four   -- for this text's walks alone
set_option linter.unusedVariables false
set_option linter.unusedSimpArgs false

/-! ### spec_May: function 35 -/
def spec_May.ok (a0 a1 a2 a3 a4 a5 : Int) : Bool := decide (1 ≤ a0 ∧ a0 ≤ 6 ∧ a0 ≤ a1 ∧ a1 ≤ a2 ∧ a2 ≤ 48 ∧ (1 ≤ a3 ∧ a3 ≤ a4 ∧ a4 ≤ 6) ∧ 0 ≤ a5 ∧ a5 ≤ 8 ∧ (0 < a5 ∨ a1 = a2))
def spec_May.f (a0_0 : Int) (a0_1 : Int) (a0_2 : Int) (a0_3 : Int) (a0_4 : Int) (a0_5 : Int) : Option (Bool) := some (spec_May.ok a0_0 a0_1 a0_2 a0_3 a0_4 a0_5)
def spec_May.pass (k a0 a1 a2 a3 a4 a5 : Int) : Prop := (0 < k → 1 ≤ a0 ∧ a0 ≤ 6) ∧ (1 < k → a0 ≤ a1 ∧ a1 ≤ a2) ∧ (2 < k → 1 ≤ a2 ∧ a2 ≤ 48) ∧ (3 < k → 1 ≤ a3 ∧ a3 ≤ a4) ∧ (4 < k → 1 ≤ a4 ∧ a4 ≤ 6) ∧ (5 < k → 0 ≤ a5 ∧ a5 ≤ 8)
def spec_May.facts (w : World) (g b1 b2 b3 b4 b5 b6 b7 b8 b9 : Nat) (a0 a1 a2 a3 a4 a5 : Int) (W : World) : Prop := Below w.heap.size w W ∧ W.heap[g]? = some (.cells #[.int .i64 a0, .int .i64 a1, .int .i64 a2, .int .i64 a3, .int .i64 a4, .int .i64 a5] 23 (0, 0)) ∧ W.heap[b1]? = some (.cells #[.int .i64 1] 3 (0, 0)) ∧ W.heap[b2]? = some (.cells #[.int .i64 6] 3 (0, 0)) ∧ W.heap[b3]? = some (.cells #[.int .i64 1] 3 (0, 0)) ∧ W.heap[b4]? = some (.cells #[.int .i64 48] 3 (0, 0)) ∧ W.heap[b5]? = some (.cells #[.int .i64 1] 3 (0, 0)) ∧ W.heap[b6]? = some (.cells #[.int .i64 1] 3 (0, 0)) ∧ W.heap[b7]? = some (.cells #[.int .i64 6] 3 (0, 0)) ∧ W.heap[b8]? = some (.cells #[.int .i64 0] 3 (0, 0)) ∧ W.heap[b9]? = some (.cells #[.int .i64 8] 3 (0, 0))
theorem spec_May.facts_alloc {w : World} {g b1 b2 b3 b4 b5 b6 b7 b8 b9 : Nat} {a0 a1 a2 a3 a4 a5 : Int} {W : World} (h : spec_May.facts w g b1 b2 b3 b4 b5 b6 b7 b8 b9 a0 a1 a2 a3 a4 a5 W) (o : Obj) : spec_May.facts w g b1 b2 b3 b4 b5 b6 b7 b8 b9 a0 a1 a2 a3 a4 a5 (W.alloc o) :=
  ⟨below_alloc h.1 o, blk_alloc h.2.1 o, blk_alloc h.2.2.1 o, blk_alloc h.2.2.2.1 o, blk_alloc h.2.2.2.2.1 o, blk_alloc h.2.2.2.2.2.1 o, blk_alloc h.2.2.2.2.2.2.1 o, blk_alloc h.2.2.2.2.2.2.2.1 o, blk_alloc h.2.2.2.2.2.2.2.2.1 o, blk_alloc h.2.2.2.2.2.2.2.2.2.1 o, blk_alloc h.2.2.2.2.2.2.2.2.2.2 o⟩
theorem spec_May.facts_drewN {w : World} {g b1 b2 b3 b4 b5 b6 b7 b8 b9 : Nat} {a0 a1 a2 a3 a4 a5 : Int} {W : World} (h : spec_May.facts w g b1 b2 b3 b4 b5 b6 b7 b8 b9 a0 a1 a2 a3 a4 a5 W) (m : Nat) : spec_May.facts w g b1 b2 b3 b4 b5 b6 b7 b8 b9 a0 a1 a2 a3 a4 a5 (W.drewN m) := ⟨pw_below_drewN h.1 m, h.2⟩
theorem spec_May.pat (m k : Int) (b : Bool) (h : decide (1 ≤ m ∧ m ≤ k ∧ k ≤ 6) = b) : pat_May.f m k = some b := by
  subst h
  unfold pat_May.f
  by_cases h1 : m ≥ 1
  · rw [if_pos h1]
    by_cases h2 : m ≤ k
    · rw [if_pos h2]
      congr 1
      simp [h1, h2]
    · rw [if_neg h2]
      congr 1
      exact (decide_eq_false (by omega)).symm
  · rw [if_neg h1]
    congr 1
    exact (decide_eq_false (by omega)).symm
set_option maxHeartbeats 32000000 in
set_option maxRecDepth 100000 in
theorem spec_May.calls (a0_0 : Int) (a0_1 : Int) (a0_2 : Int) (a0_3 : Int) (a0_4 : Int) (a0_5 : Int) (r : Bool) (w : World) (h : spec_May.f a0_0 a0_1 a0_2 a0_3 a0_4 a0_5 = some r) :
    Calls Try.prog 35 #[.agg #[.int .i64 a0_0, .int .i64 a0_1, .int .i64 a0_2, .int .i64 a0_3, .int .i64 a0_4, .int .i64 a0_5]] w fun e w' => e = .returned (.bool r) ∧ Below w.heap.size w w' := by
  revert h
  generalize a0_0 = a0
  generalize a0_1 = a1
  generalize a0_2 = a2
  generalize a0_3 = a3
  generalize a0_4 = a4
  generalize a0_5 = a5
  intro h
  have HR := Aside0.mk (Option.some.inj h)
  clear h
  have hu := Try.underlying85
  have hu2 := Try.underlying23
  go_enter Try.func35, Try.ntmps35
  go_wp2_with fail
  refine (spec_parts.calls _).mono ?_
  rintro e w1 ⟨AV, b1, b2, b3, b4, b5, b6, b7, b8, b9, rfl, ⟨i0, i1, i2, i3, i4, i5⟩, hb, d1, d2, d3, d4, d5, d6, d7, d8, d9⟩
  have I0 := Aside0.mk i0
  have I1 := Aside0.mk i1
  have I2 := Aside0.mk i2
  have I3 := Aside0.mk i3
  have I4 := Aside0.mk i4
  have I5 := Aside0.mk i5
  clear i0 i1 i2 i3 i4 i5
  have F1 := Aside0.mk (show spec_May.facts w w.heap.size b1 b2 b3 b4 b5 b6 b7 b8 b9 a0 a1 a2 a3 a4 a5 w1 from ⟨below_trans (below_alloc (Below.refl w.heap.size w) _) hb, blk_below (blk_new w (.cells #[.int .i64 a0, .int .i64 a1, .int .i64 a2, .int .i64 a3, .int .i64 a4, .int .i64 a5] 23)) hb, d1, d2, d3, d4, d5, d6, d7, d8, d9⟩)
  have hg := Aside0.mk (show w.heap.size = w.heap.size from rfl)
  clear hb d1 d2 d3 d4 d5 d6 d7 d8 d9
  go_wp2_with fail
  clear hg
  go_loopw [7] (fun i wr => ∃ k : Int, (k = 0 ∨ k = 1 ∨ k = 2 ∨ k = 3 ∨ k = 4 ∨ k = 5 ∨ k = 6) ∧ i = .int .i64 k ∧ Aside0 (spec_May.pass k a0 a1 a2 a3 a4 a5) ∧ Aside0 (spec_May.facts w w.heap.size b1 b2 b3 b4 b5 b6 b7 b8 b9 a0 a1 a2 a3 a4 a5 wr)) (fun i _ => (6 - intOf i).toNat)
  case atStart => exact ⟨0, .inl rfl, rfl, ⟨by unfold spec_May.pass; omega⟩, F1⟩
  case round =>
    clear F1
    obtain ⟨k, hk, rfl, HP, F⟩ := hrel
    rcases hk with rfl | rfl | rfl | rfl | rfl | rfl | rfl
    · have i0 := I0.out
      have gs := blk_lt F.out.2.1
      have s0 : wr.cell? ⟨w.heap.size, 0, none⟩ = some (.int .i64 a0) := (blk_cell F.out.2.1 0).trans rfl
      have s1 : wr.cell? ⟨w.heap.size, 1, none⟩ = some (.int .i64 a1) := (blk_cell F.out.2.1 1).trans rfl
      have s2 : wr.cell? ⟨w.heap.size, 2, none⟩ = some (.int .i64 a2) := (blk_cell F.out.2.1 2).trans rfl
      have s3 : wr.cell? ⟨w.heap.size, 3, none⟩ = some (.int .i64 a3) := (blk_cell F.out.2.1 3).trans rfl
      have s4 : wr.cell? ⟨w.heap.size, 4, none⟩ = some (.int .i64 a4) := (blk_cell F.out.2.1 4).trans rfl
      have s5 : wr.cell? ⟨w.heap.size, 5, none⟩ = some (.int .i64 a5) := (blk_cell F.out.2.1 5).trans rfl
      have gn0 : w.heap.size < wr.heap.size := by omega
      have gn1 : w.heap.size < wr.heap.size + 1 := by omega
      have gn2 : w.heap.size < wr.heap.size + 1 + 1 := by omega
      have gn3 : w.heap.size < wr.heap.size + 1 + 1 + 1 := by omega
      have l1 := blk_lt F.out.2.2.1
      have c1 : wr.cell? ⟨b1, 0, none⟩ = some (.int .i64 1) := (blk_cell F.out.2.2.1 0).trans rfl
      have n1_0 : b1 < wr.heap.size := by omega
      have n1_1 : b1 < wr.heap.size + 1 := by omega
      have n1_2 : b1 < wr.heap.size + 1 + 1 := by omega
      have n1_3 : b1 < wr.heap.size + 1 + 1 + 1 := by omega
      have n1_4 : b1 < wr.heap.size + 1 + 1 + 1 + 1 := by omega
      have n1_5 : b1 < wr.heap.size + 1 + 1 + 1 + 1 + 1 := by omega
      clear l1
      have l2 := blk_lt F.out.2.2.2.1
      have c2 : wr.cell? ⟨b2, 0, none⟩ = some (.int .i64 6) := (blk_cell F.out.2.2.2.1 0).trans rfl
      have n2_0 : b2 < wr.heap.size := by omega
      have n2_1 : b2 < wr.heap.size + 1 := by omega
      have n2_2 : b2 < wr.heap.size + 1 + 1 := by omega
      have n2_3 : b2 < wr.heap.size + 1 + 1 + 1 := by omega
      have n2_4 : b2 < wr.heap.size + 1 + 1 + 1 + 1 := by omega
      have n2_5 : b2 < wr.heap.size + 1 + 1 + 1 + 1 + 1 := by omega
      clear l2
      clear gs
      by_cases q1 : a0 < 1
      · obtain rfl : false = r := by rw [← HR.out]; exact (decide_eq_false (by omega)).symm
        have e1 : decide (a0 < 1) = true := decide_eq_true q1
        clear q1
        go_wp2
        go_ret
        exact ⟨rfl, by repeat (first | exact F.out.1 | apply below_alloc | apply pw_below_drewN | apply below_drew1)⟩
      · have e1 : decide (a0 < 1) = false := decide_eq_false q1
        by_cases q2 : 6 < a0
        · obtain rfl : false = r := by rw [← HR.out]; exact (decide_eq_false (by omega)).symm
          have e2 : decide (6 < a0) = true := decide_eq_true q2
          clear q1 q2
          go_wp2
          go_ret
          exact ⟨rfl, by repeat (first | exact F.out.1 | apply below_alloc | apply pw_below_drewN | apply below_drew1)⟩
        · have e2 : decide (6 < a0) = false := decide_eq_false q2
          replace HP := Aside0.mk (show spec_May.pass 1 a0 a1 a2 a3 a4 a5 by have := HP.out; unfold spec_May.pass at this ⊢; omega)
          clear q1 q2
          go_wp2
          go_roundw
          case rel => exact ⟨1, by omega, rfl, HP, ⟨by repeat (first | exact F.out | apply spec_May.facts_alloc | apply spec_May.facts_drewN)⟩⟩
          case measure => simp [intOf]
    · have i0 := I1.out
      have gs := blk_lt F.out.2.1
      have s0 : wr.cell? ⟨w.heap.size, 0, none⟩ = some (.int .i64 a0) := (blk_cell F.out.2.1 0).trans rfl
      have s1 : wr.cell? ⟨w.heap.size, 1, none⟩ = some (.int .i64 a1) := (blk_cell F.out.2.1 1).trans rfl
      have s2 : wr.cell? ⟨w.heap.size, 2, none⟩ = some (.int .i64 a2) := (blk_cell F.out.2.1 2).trans rfl
      have s3 : wr.cell? ⟨w.heap.size, 3, none⟩ = some (.int .i64 a3) := (blk_cell F.out.2.1 3).trans rfl
      have s4 : wr.cell? ⟨w.heap.size, 4, none⟩ = some (.int .i64 a4) := (blk_cell F.out.2.1 4).trans rfl
      have s5 : wr.cell? ⟨w.heap.size, 5, none⟩ = some (.int .i64 a5) := (blk_cell F.out.2.1 5).trans rfl
      have gn0 : w.heap.size < wr.heap.size := by omega
      have gn1 : w.heap.size < wr.heap.size + 1 := by omega
      have gn2 : w.heap.size < wr.heap.size + 1 + 1 := by omega
      have gn3 : w.heap.size < wr.heap.size + 1 + 1 + 1 := by omega
      clear gs
      by_cases q1 : a1 < a0
      · obtain rfl : false = r := by rw [← HR.out]; exact (decide_eq_false (by omega)).symm
        have e1 : decide (a1 < a0) = true := decide_eq_true q1
        clear q1
        go_wp2
        go_ret
        exact ⟨rfl, by repeat (first | exact F.out.1 | apply below_alloc | apply pw_below_drewN | apply below_drew1)⟩
      · have e1 : decide (a1 < a0) = false := decide_eq_false q1
        by_cases q2 : a2 < a1
        · obtain rfl : false = r := by rw [← HR.out]; exact (decide_eq_false (by omega)).symm
          have e2 : decide (a2 < a1) = true := decide_eq_true q2
          clear q1 q2
          go_wp2
          go_ret
          exact ⟨rfl, by repeat (first | exact F.out.1 | apply below_alloc | apply pw_below_drewN | apply below_drew1)⟩
        · have e2 : decide (a2 < a1) = false := decide_eq_false q2
          replace HP := Aside0.mk (show spec_May.pass 2 a0 a1 a2 a3 a4 a5 by have := HP.out; unfold spec_May.pass at this ⊢; omega)
          clear q1 q2
          go_wp2
          go_roundw
          case rel => exact ⟨2, by omega, rfl, HP, ⟨by repeat (first | exact F.out | apply spec_May.facts_alloc | apply spec_May.facts_drewN)⟩⟩
          case measure => simp [intOf]
    · have i0 := I2.out
      have gs := blk_lt F.out.2.1
      have s0 : wr.cell? ⟨w.heap.size, 0, none⟩ = some (.int .i64 a0) := (blk_cell F.out.2.1 0).trans rfl
      have s1 : wr.cell? ⟨w.heap.size, 1, none⟩ = some (.int .i64 a1) := (blk_cell F.out.2.1 1).trans rfl
      have s2 : wr.cell? ⟨w.heap.size, 2, none⟩ = some (.int .i64 a2) := (blk_cell F.out.2.1 2).trans rfl
      have s3 : wr.cell? ⟨w.heap.size, 3, none⟩ = some (.int .i64 a3) := (blk_cell F.out.2.1 3).trans rfl
      have s4 : wr.cell? ⟨w.heap.size, 4, none⟩ = some (.int .i64 a4) := (blk_cell F.out.2.1 4).trans rfl
      have s5 : wr.cell? ⟨w.heap.size, 5, none⟩ = some (.int .i64 a5) := (blk_cell F.out.2.1 5).trans rfl
      have gn0 : w.heap.size < wr.heap.size := by omega
      have gn1 : w.heap.size < wr.heap.size + 1 := by omega
      have gn2 : w.heap.size < wr.heap.size + 1 + 1 := by omega
      have gn3 : w.heap.size < wr.heap.size + 1 + 1 + 1 := by omega
      have l3 := blk_lt F.out.2.2.2.2.1
      have c3 : wr.cell? ⟨b3, 0, none⟩ = some (.int .i64 1) := (blk_cell F.out.2.2.2.2.1 0).trans rfl
      have n3_0 : b3 < wr.heap.size := by omega
      have n3_1 : b3 < wr.heap.size + 1 := by omega
      have n3_2 : b3 < wr.heap.size + 1 + 1 := by omega
      have n3_3 : b3 < wr.heap.size + 1 + 1 + 1 := by omega
      have n3_4 : b3 < wr.heap.size + 1 + 1 + 1 + 1 := by omega
      have n3_5 : b3 < wr.heap.size + 1 + 1 + 1 + 1 + 1 := by omega
      clear l3
      have l4 := blk_lt F.out.2.2.2.2.2.1
      have c4 : wr.cell? ⟨b4, 0, none⟩ = some (.int .i64 48) := (blk_cell F.out.2.2.2.2.2.1 0).trans rfl
      have n4_0 : b4 < wr.heap.size := by omega
      have n4_1 : b4 < wr.heap.size + 1 := by omega
      have n4_2 : b4 < wr.heap.size + 1 + 1 := by omega
      have n4_3 : b4 < wr.heap.size + 1 + 1 + 1 := by omega
      have n4_4 : b4 < wr.heap.size + 1 + 1 + 1 + 1 := by omega
      have n4_5 : b4 < wr.heap.size + 1 + 1 + 1 + 1 + 1 := by omega
      clear l4
      clear gs
      by_cases q1 : a2 < 1
      · obtain rfl : false = r := by rw [← HR.out]; exact (decide_eq_false (by omega)).symm
        have e1 : decide (a2 < 1) = true := decide_eq_true q1
        clear q1
        go_wp2
        go_ret
        exact ⟨rfl, by repeat (first | exact F.out.1 | apply below_alloc | apply pw_below_drewN | apply below_drew1)⟩
      · have e1 : decide (a2 < 1) = false := decide_eq_false q1
        by_cases q2 : 48 < a2
        · obtain rfl : false = r := by rw [← HR.out]; exact (decide_eq_false (by omega)).symm
          have e2 : decide (48 < a2) = true := decide_eq_true q2
          clear q1 q2
          go_wp2
          go_ret
          exact ⟨rfl, by repeat (first | exact F.out.1 | apply below_alloc | apply pw_below_drewN | apply below_drew1)⟩
        · have e2 : decide (48 < a2) = false := decide_eq_false q2
          replace HP := Aside0.mk (show spec_May.pass 3 a0 a1 a2 a3 a4 a5 by have := HP.out; unfold spec_May.pass at this ⊢; omega)
          clear q1 q2
          go_wp2
          go_roundw
          case rel => exact ⟨3, by omega, rfl, HP, ⟨by repeat (first | exact F.out | apply spec_May.facts_alloc | apply spec_May.facts_drewN)⟩⟩
          case measure => simp [intOf]
    · have i0 := I3.out
      have gs := blk_lt F.out.2.1
      have s0 : wr.cell? ⟨w.heap.size, 0, none⟩ = some (.int .i64 a0) := (blk_cell F.out.2.1 0).trans rfl
      have s1 : wr.cell? ⟨w.heap.size, 1, none⟩ = some (.int .i64 a1) := (blk_cell F.out.2.1 1).trans rfl
      have s2 : wr.cell? ⟨w.heap.size, 2, none⟩ = some (.int .i64 a2) := (blk_cell F.out.2.1 2).trans rfl
      have s3 : wr.cell? ⟨w.heap.size, 3, none⟩ = some (.int .i64 a3) := (blk_cell F.out.2.1 3).trans rfl
      have s4 : wr.cell? ⟨w.heap.size, 4, none⟩ = some (.int .i64 a4) := (blk_cell F.out.2.1 4).trans rfl
      have s5 : wr.cell? ⟨w.heap.size, 5, none⟩ = some (.int .i64 a5) := (blk_cell F.out.2.1 5).trans rfl
      have gn0 : w.heap.size < wr.heap.size := by omega
      have gn1 : w.heap.size < wr.heap.size + 1 := by omega
      have gn2 : w.heap.size < wr.heap.size + 1 + 1 := by omega
      have gn3 : w.heap.size < wr.heap.size + 1 + 1 + 1 := by omega
      have l5 := blk_lt F.out.2.2.2.2.2.2.1
      have c5 : wr.cell? ⟨b5, 0, none⟩ = some (.int .i64 1) := (blk_cell F.out.2.2.2.2.2.2.1 0).trans rfl
      have n5_0 : b5 < wr.heap.size := by omega
      have n5_1 : b5 < wr.heap.size + 1 := by omega
      have n5_2 : b5 < wr.heap.size + 1 + 1 := by omega
      have n5_3 : b5 < wr.heap.size + 1 + 1 + 1 := by omega
      have n5_4 : b5 < wr.heap.size + 1 + 1 + 1 + 1 := by omega
      have n5_5 : b5 < wr.heap.size + 1 + 1 + 1 + 1 + 1 := by omega
      clear l5
      clear gs
      by_cases q1 : a3 < 1
      · obtain rfl : false = r := by rw [← HR.out]; exact (decide_eq_false (by omega)).symm
        have e1 : decide (a3 < 1) = true := decide_eq_true q1
        clear q1
        go_wp2
        go_ret
        exact ⟨rfl, by repeat (first | exact F.out.1 | apply below_alloc | apply pw_below_drewN | apply below_drew1)⟩
      · have e1 : decide (a3 < 1) = false := decide_eq_false q1
        by_cases q2 : a4 < a3
        · obtain rfl : false = r := by rw [← HR.out]; exact (decide_eq_false (by omega)).symm
          have e2 : decide (a4 < a3) = true := decide_eq_true q2
          clear q1 q2
          go_wp2
          go_ret
          exact ⟨rfl, by repeat (first | exact F.out.1 | apply below_alloc | apply pw_below_drewN | apply below_drew1)⟩
        · have e2 : decide (a4 < a3) = false := decide_eq_false q2
          replace HP := Aside0.mk (show spec_May.pass 4 a0 a1 a2 a3 a4 a5 by have := HP.out; unfold spec_May.pass at this ⊢; omega)
          clear q1 q2
          go_wp2
          go_roundw
          case rel => exact ⟨4, by omega, rfl, HP, ⟨by repeat (first | exact F.out | apply spec_May.facts_alloc | apply spec_May.facts_drewN)⟩⟩
          case measure => simp [intOf]
    · have i0 := I4.out
      have gs := blk_lt F.out.2.1
      have s0 : wr.cell? ⟨w.heap.size, 0, none⟩ = some (.int .i64 a0) := (blk_cell F.out.2.1 0).trans rfl
      have s1 : wr.cell? ⟨w.heap.size, 1, none⟩ = some (.int .i64 a1) := (blk_cell F.out.2.1 1).trans rfl
      have s2 : wr.cell? ⟨w.heap.size, 2, none⟩ = some (.int .i64 a2) := (blk_cell F.out.2.1 2).trans rfl
      have s3 : wr.cell? ⟨w.heap.size, 3, none⟩ = some (.int .i64 a3) := (blk_cell F.out.2.1 3).trans rfl
      have s4 : wr.cell? ⟨w.heap.size, 4, none⟩ = some (.int .i64 a4) := (blk_cell F.out.2.1 4).trans rfl
      have s5 : wr.cell? ⟨w.heap.size, 5, none⟩ = some (.int .i64 a5) := (blk_cell F.out.2.1 5).trans rfl
      have gn0 : w.heap.size < wr.heap.size := by omega
      have gn1 : w.heap.size < wr.heap.size + 1 := by omega
      have gn2 : w.heap.size < wr.heap.size + 1 + 1 := by omega
      have gn3 : w.heap.size < wr.heap.size + 1 + 1 + 1 := by omega
      have l6 := blk_lt F.out.2.2.2.2.2.2.2.1
      have c6 : wr.cell? ⟨b6, 0, none⟩ = some (.int .i64 1) := (blk_cell F.out.2.2.2.2.2.2.2.1 0).trans rfl
      have n6_0 : b6 < wr.heap.size := by omega
      have n6_1 : b6 < wr.heap.size + 1 := by omega
      have n6_2 : b6 < wr.heap.size + 1 + 1 := by omega
      have n6_3 : b6 < wr.heap.size + 1 + 1 + 1 := by omega
      have n6_4 : b6 < wr.heap.size + 1 + 1 + 1 + 1 := by omega
      have n6_5 : b6 < wr.heap.size + 1 + 1 + 1 + 1 + 1 := by omega
      clear l6
      have l7 := blk_lt F.out.2.2.2.2.2.2.2.2.1
      have c7 : wr.cell? ⟨b7, 0, none⟩ = some (.int .i64 6) := (blk_cell F.out.2.2.2.2.2.2.2.2.1 0).trans rfl
      have n7_0 : b7 < wr.heap.size := by omega
      have n7_1 : b7 < wr.heap.size + 1 := by omega
      have n7_2 : b7 < wr.heap.size + 1 + 1 := by omega
      have n7_3 : b7 < wr.heap.size + 1 + 1 + 1 := by omega
      have n7_4 : b7 < wr.heap.size + 1 + 1 + 1 + 1 := by omega
      have n7_5 : b7 < wr.heap.size + 1 + 1 + 1 + 1 + 1 := by omega
      clear l7
      clear gs
      by_cases q1 : a4 < 1
      · obtain rfl : false = r := by rw [← HR.out]; exact (decide_eq_false (by omega)).symm
        have e1 : decide (a4 < 1) = true := decide_eq_true q1
        clear q1
        go_wp2
        go_ret
        exact ⟨rfl, by repeat (first | exact F.out.1 | apply below_alloc | apply pw_below_drewN | apply below_drew1)⟩
      · have e1 : decide (a4 < 1) = false := decide_eq_false q1
        by_cases q2 : 6 < a4
        · obtain rfl : false = r := by rw [← HR.out]; exact (decide_eq_false (by omega)).symm
          have e2 : decide (6 < a4) = true := decide_eq_true q2
          clear q1 q2
          go_wp2
          go_ret
          exact ⟨rfl, by repeat (first | exact F.out.1 | apply below_alloc | apply pw_below_drewN | apply below_drew1)⟩
        · have e2 : decide (6 < a4) = false := decide_eq_false q2
          replace HP := Aside0.mk (show spec_May.pass 5 a0 a1 a2 a3 a4 a5 by have := HP.out; unfold spec_May.pass at this ⊢; omega)
          clear q1 q2
          go_wp2
          go_roundw
          case rel => exact ⟨5, by omega, rfl, HP, ⟨by repeat (first | exact F.out | apply spec_May.facts_alloc | apply spec_May.facts_drewN)⟩⟩
          case measure => simp [intOf]
    · have i0 := I5.out
      have gs := blk_lt F.out.2.1
      have s0 : wr.cell? ⟨w.heap.size, 0, none⟩ = some (.int .i64 a0) := (blk_cell F.out.2.1 0).trans rfl
      have s1 : wr.cell? ⟨w.heap.size, 1, none⟩ = some (.int .i64 a1) := (blk_cell F.out.2.1 1).trans rfl
      have s2 : wr.cell? ⟨w.heap.size, 2, none⟩ = some (.int .i64 a2) := (blk_cell F.out.2.1 2).trans rfl
      have s3 : wr.cell? ⟨w.heap.size, 3, none⟩ = some (.int .i64 a3) := (blk_cell F.out.2.1 3).trans rfl
      have s4 : wr.cell? ⟨w.heap.size, 4, none⟩ = some (.int .i64 a4) := (blk_cell F.out.2.1 4).trans rfl
      have s5 : wr.cell? ⟨w.heap.size, 5, none⟩ = some (.int .i64 a5) := (blk_cell F.out.2.1 5).trans rfl
      have gn0 : w.heap.size < wr.heap.size := by omega
      have gn1 : w.heap.size < wr.heap.size + 1 := by omega
      have gn2 : w.heap.size < wr.heap.size + 1 + 1 := by omega
      have gn3 : w.heap.size < wr.heap.size + 1 + 1 + 1 := by omega
      have l8 := blk_lt F.out.2.2.2.2.2.2.2.2.2.1
      have c8 : wr.cell? ⟨b8, 0, none⟩ = some (.int .i64 0) := (blk_cell F.out.2.2.2.2.2.2.2.2.2.1 0).trans rfl
      have n8_0 : b8 < wr.heap.size := by omega
      have n8_1 : b8 < wr.heap.size + 1 := by omega
      have n8_2 : b8 < wr.heap.size + 1 + 1 := by omega
      have n8_3 : b8 < wr.heap.size + 1 + 1 + 1 := by omega
      have n8_4 : b8 < wr.heap.size + 1 + 1 + 1 + 1 := by omega
      have n8_5 : b8 < wr.heap.size + 1 + 1 + 1 + 1 + 1 := by omega
      clear l8
      have l9 := blk_lt F.out.2.2.2.2.2.2.2.2.2.2
      have c9 : wr.cell? ⟨b9, 0, none⟩ = some (.int .i64 8) := (blk_cell F.out.2.2.2.2.2.2.2.2.2.2 0).trans rfl
      have n9_0 : b9 < wr.heap.size := by omega
      have n9_1 : b9 < wr.heap.size + 1 := by omega
      have n9_2 : b9 < wr.heap.size + 1 + 1 := by omega
      have n9_3 : b9 < wr.heap.size + 1 + 1 + 1 := by omega
      have n9_4 : b9 < wr.heap.size + 1 + 1 + 1 + 1 := by omega
      have n9_5 : b9 < wr.heap.size + 1 + 1 + 1 + 1 + 1 := by omega
      clear l9
      clear gs
      by_cases q1 : a5 < 0
      · obtain rfl : false = r := by rw [← HR.out]; exact (decide_eq_false (by omega)).symm
        have e1 : decide (a5 < 0) = true := decide_eq_true q1
        clear q1
        go_wp2
        go_ret
        exact ⟨rfl, by repeat (first | exact F.out.1 | apply below_alloc | apply pw_below_drewN | apply below_drew1)⟩
      · have e1 : decide (a5 < 0) = false := decide_eq_false q1
        by_cases q2 : 8 < a5
        · obtain rfl : false = r := by rw [← HR.out]; exact (decide_eq_false (by omega)).symm
          have e2 : decide (8 < a5) = true := decide_eq_true q2
          clear q1 q2
          go_wp2
          go_ret
          exact ⟨rfl, by repeat (first | exact F.out.1 | apply below_alloc | apply pw_below_drewN | apply below_drew1)⟩
        · have e2 : decide (8 < a5) = false := decide_eq_false q2
          replace HP := Aside0.mk (show spec_May.pass 6 a0 a1 a2 a3 a4 a5 by have := HP.out; unfold spec_May.pass at this ⊢; omega)
          clear q1 q2
          go_wp2
          go_roundw
          case rel => exact ⟨6, by omega, rfl, HP, ⟨by repeat (first | exact F.out | apply spec_May.facts_alloc | apply spec_May.facts_drewN)⟩⟩
          case measure => simp [intOf]
    · have s1 : wr.cell? ⟨w.heap.size, 1, none⟩ = some (.int .i64 a1) := (blk_cell F.out.2.1 1).trans rfl
      have s2 : wr.cell? ⟨w.heap.size, 2, none⟩ = some (.int .i64 a2) := (blk_cell F.out.2.1 2).trans rfl
      have s3 : wr.cell? ⟨w.heap.size, 3, none⟩ = some (.int .i64 a3) := (blk_cell F.out.2.1 3).trans rfl
      have s4 : wr.cell? ⟨w.heap.size, 4, none⟩ = some (.int .i64 a4) := (blk_cell F.out.2.1 4).trans rfl
      have s5 : wr.cell? ⟨w.heap.size, 5, none⟩ = some (.int .i64 a5) := (blk_cell F.out.2.1 5).trans rfl
      cases hm : decide (1 ≤ a3 ∧ a3 ≤ a4 ∧ a4 ≤ 6) with
      | false =>
        obtain rfl : false = r := by rw [← HR.out]; exact (decide_eq_false (fun q => absurd (of_decide_eq_false hm) (fun z => z q.2.2.2.2.2.1))).symm
        have hp := Aside0.mk (spec_May.pat a3 a4 false hm)
        clear hm
        go_wp2_with (go_at_call 22; (with_reducible refine (pat_May.calls a3 a4 false _ hp.out).mono ?_); rintro e w' ⟨rfl, ⟨nd, rfl⟩⟩)
        go_ret
        exact ⟨rfl, by repeat (first | exact F.out.1 | apply below_alloc | apply pw_below_drewN | apply below_drew1)⟩
      | true =>
        have hp := Aside0.mk (spec_May.pat a3 a4 true hm)
        have hm := of_decide_eq_true hm
        by_cases q1 : 0 < a5
        · obtain rfl : true = r := by rw [← HR.out]; exact (decide_eq_true (by have := HP.out; unfold spec_May.pass at this; omega)).symm
          have e1 : decide (0 < a5) = true := decide_eq_true q1
          clear q1 hm
          go_wp2_with (go_at_call 22; (with_reducible refine (pat_May.calls a3 a4 true _ hp.out).mono ?_); rintro e w' ⟨rfl, ⟨nd, rfl⟩⟩)
          go_ret
          exact ⟨rfl, by repeat (first | exact F.out.1 | apply below_alloc | apply pw_below_drewN | apply below_drew1)⟩
        · have e1 : decide (0 < a5) = false := decide_eq_false q1
          by_cases q2 : a1 = a2
          · obtain rfl : true = r := by rw [← HR.out]; exact (decide_eq_true (by have := HP.out; unfold spec_May.pass at this; omega)).symm
            have e2 : (a1 == a2) = true := beq_iff_eq.mpr q2
            clear q1 q2 hm
            go_wp2_with (go_at_call 22; (with_reducible refine (pat_May.calls a3 a4 true _ hp.out).mono ?_); rintro e w' ⟨rfl, ⟨nd, rfl⟩⟩)
            go_ret
            exact ⟨rfl, by repeat (first | exact F.out.1 | apply below_alloc | apply pw_below_drewN | apply below_drew1)⟩
          · obtain rfl : false = r := by rw [← HR.out]; exact (decide_eq_false (by omega)).symm
            have e2 : (a1 == a2) = false := beq_eq_false_iff_ne.mpr q2
            clear q1 q2 hm
            go_wp2_with (go_at_call 22; (with_reducible refine (pat_May.calls a3 a4 true _ hp.out).mono ?_); rintro e w' ⟨rfl, ⟨nd, rfl⟩⟩)
            go_ret
            exact ⟨rfl, by repeat (first | exact F.out.1 | apply below_alloc | apply pw_below_drewN | apply below_drew1)⟩

end Go.Proofs.Ytphonmldcbgklaa.P
