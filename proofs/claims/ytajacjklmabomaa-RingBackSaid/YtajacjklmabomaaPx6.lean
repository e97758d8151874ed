-- Written by a program of this session (hprint.py), out of the translation; functions that the print does not take are given by hand.
import Derived.Test.YtajacjklmabomaaPx0
namespace Go.Proofs.Ytajacjklmabomaa.P
open Go.RowKit Go.Proofs.YtajacjklmabomaaM Go.Proofs.YtajacjklmabomaaW.PrintWords Go.Proofs.YtajacjklmabomaaW.PrintLast Go.Proofs.YtajacjklmabomaaW.PrintMore
attribute [local go_sem] max2_int min2_int max_two min_two max_three min_three max_four min_four   -- for this text's walks alone
set_option linter.unusedVariables false
set_option linter.unusedSimpArgs false

/-! ### fuseeref03_May: function 15 -/
mutual
def fuseeref03_May.j0 : Nat → Bool → Int → Int → Option (Bool)
  | 0, _, _, _ => none
  | k + 1, x12, x164000, x164001 => if x12 = true then (some false) else (fuseeref03_May.l0 k 1 0 x164000 x164001)
def fuseeref03_May.l0 : Nat → Int → Int → Int → Int → Option (Bool)
  | 0, _, _, _, _ => none
  | k + 1, x3, x4, x164000, x164001 => if x4 < x164000 then (fuseeref03_May.l0 k (IntKind.u64.wrap (x3 * 2)) (wrap64 (x4 + 1)) x164000 x164001) else (some (decide (x164001 < x3)))
end
def fuseeref03_May.f (k : Nat) (a0_0 : Int) (a0_1 : Int) : Option (Bool) := if a0_0 < 0 then (fuseeref03_May.j0 k true a0_0 a0_1) else (fuseeref03_May.j0 k (decide (a0_0 > 60)) a0_0 a0_1)
theorem fuseeref03_May.mono_l : ∀ k, (∀ y0 y1 y2, LeO (fuseeref03_May.j0 k y0 y1 y2) (fuseeref03_May.j0 (k + 1) y0 y1 y2)) ∧ (∀ y0 y1 y2 y3, LeO (fuseeref03_May.l0 k y0 y1 y2 y3) (fuseeref03_May.l0 (k + 1) y0 y1 y2 y3))
  | 0 => ⟨fun _ _ _ r h => by simp [fuseeref03_May.j0] at h, fun _ _ _ _ r h => by simp [fuseeref03_May.l0] at h⟩
  | k + 1 => by
    obtain ⟨ih0, ih1⟩ := fuseeref03_May.mono_l k
    refine ⟨?_, ?_⟩
    · intro y0 y1 y2
      unfold fuseeref03_May.j0
      repeat' first
      | (with_reducible exact ih0 _ _ _)
      | (with_reducible exact ih1 _ _ _ _)
      | (with_reducible exact LeO.refl _)
      | (with_reducible exact LeO.none _)
      | (with_reducible refine LeO.ite ?_ ?_)
      | (with_reducible refine LeO.bind ?_ (fun _ => ?_))
      | exact ih0 _ _ _
      | exact ih1 _ _ _ _
      | exact LeO.none _
      | refine LeO.ite ?_ ?_
      | refine LeO.bind ?_ (fun _ => ?_)
    · intro y0 y1 y2 y3
      unfold fuseeref03_May.l0
      repeat' first
      | (with_reducible exact ih0 _ _ _)
      | (with_reducible exact ih1 _ _ _ _)
      | (with_reducible exact LeO.refl _)
      | (with_reducible exact LeO.none _)
      | (with_reducible refine LeO.ite ?_ ?_)
      | (with_reducible refine LeO.bind ?_ (fun _ => ?_))
      | exact ih0 _ _ _
      | exact ih1 _ _ _ _
      | exact LeO.none _
      | refine LeO.ite ?_ ?_
      | refine LeO.bind ?_ (fun _ => ?_)
theorem fuseeref03_May.mono : ∀ a0 a1 k, LeO (fuseeref03_May.f k a0 a1) (fuseeref03_May.f (k + 1) a0 a1) := by
  intro a0 a1 k
  obtain ⟨ih0, ih1⟩ := fuseeref03_May.mono_l k
  unfold fuseeref03_May.f
  repeat' first
      | (with_reducible exact ih0 _ _ _)
      | (with_reducible exact ih1 _ _ _ _)
      | (with_reducible exact LeO.refl _)
      | (with_reducible exact LeO.none _)
      | (with_reducible refine LeO.ite ?_ ?_)
      | (with_reducible refine LeO.bind ?_ (fun _ => ?_))
      | exact ih0 _ _ _
      | exact ih1 _ _ _ _
      | exact LeO.none _
      | refine LeO.ite ?_ ?_
      | refine LeO.bind ?_ (fun _ => ?_)
set_option maxHeartbeats 8000000 in
set_option maxRecDepth 100000 in
theorem fuseeref03_May.calls (k : Nat) (a0_0 : Int) (a0_1 : Int) (r : Bool) (w : World) (h : fuseeref03_May.f k a0_0 a0_1 = some r) :
    Calls Try.prog 15 #[.agg #[.int .i64 a0_0, .int .u64 a0_1]] w fun e w' => e = .returned (.bool r) ∧ Below w.heap.size w w' := by
  have hu27 := Try.underlying27
  have HB := Aside0.mk (Below.refl w.heap.size w)
  have H : (if a0_0 < 0 then (fuseeref03_May.j0 k true a0_0 a0_1) else (fuseeref03_May.j0 k (decide (a0_0 > 60)) a0_0 a0_1)) = some r := h
  clear h
  have HC2 := Aside0.mk H
  clear H
  go_enter Try.func15, Try.ntmps15
  go_upto_region 1 with (first | ((with_reducible refine gate_dst (N := 1) rfl ?_); refine box_event ?hg (N := 1) ?hd (cs := #[.int .i64 a0_0, .int .u64 a0_1]) (t := 27) ?hr ?_; (case hd => rfl); (case hg => rfl); (case hr => first | (go_simp; done) | (go_simp; rfl)); intro gb163 hg w3 hbox hb; have n0_ := Aside0.mk (below_step (by repeat (first | (with_reducible first | exact HB.out | apply below_alloc | apply pw_below_drewN | apply below_drew1) | exact HB.out)) hb); have n1_ := Aside0.mk (hbox); have n2_ := Aside0.mk ((by rw [hg]; exact (below_size (by repeat (first | (with_reducible first | exact HB.out | apply below_alloc | apply pw_below_drewN | apply below_drew1) | exact HB.out))) : w.heap.size ≤ gb163)); have n3_ := Aside0.mk ((by rw [hg]; exact (below_size (by repeat (first | (with_reducible first | exact HB.out | apply below_alloc | apply pw_below_drewN | apply below_drew1) | exact HB.out))) : w.heap.size ≤ gb163)); clear HB; have HB := n0_; have BK163 := n1_; have GW163 := n2_; have GE163 := n3_; clear n0_ n1_ n2_ n3_; clear hb hbox hg))
  (try simp only [Act.put, List.setIfInBounds_toArray, List.set_cons_zero, List.set_cons_succ])
  go_cut [12] (fun v12 wc => ∃ (kq : Nat) (x12_1 : Bool), v12 = .bool x12_1 ∧ Aside0 (fuseeref03_May.j0 kq x12_1 a0_0 a0_1 = some r) ∧ Aside0 (kq ≤ k) ∧ Aside0 (wc.heap[gb163]? = some (.cells #[.int .i64 a0_0, .int .u64 a0_1] 27 (0, 0))) ∧ Aside0 (Below w.heap.size w wc))
  case first =>
    have H := HC2.out
    clear HC2
    by_cases c4 : a0_0 < 0
    · rw [if_pos c4] at H
      have c4b0 : decide (a0_0 < 0) = true := decide_eq_true c4
      clear c4
      (first | rw [c4b0] | (simp only [i64_w, i32_w]; rw [c4b0]) | skip)
      have H' := Aside0.mk H
      clear H
      have hcz5_0 : w3.cell? ⟨gb163, 0, none⟩ = some (.int .i64 a0_0) := (blk_cell BK163.out 0).trans rfl
      have hcz5_1 : w3.cell? ⟨gb163, 1, none⟩ = some (.int .u64 a0_1) := (blk_cell BK163.out 1).trans rfl
      have hfz5_0 := blk_frozen BK163.out 0
      have hfz5_1 := blk_frozen BK163.out 1
      go_wp2
      go_meet
      case rel => exact ⟨_, (true), (by first | rfl | (simp; done) | (simp [*]; done)), H', ⟨by first | omega | exact Nat.le_refl _⟩, ⟨by (with_reducible repeat (first | refine blk_drewN ?_ _ | refine blk_drew ?_ | refine blk_alloc ?_ _)); exact BK163.out⟩, ⟨by repeat (first | (with_reducible first | exact HB.out | apply below_alloc | apply pw_below_drewN | apply below_drew1 | refine below_set ?_ GE163.out) | exact HB.out)⟩⟩
    · rw [if_neg c4] at H
      have c4b0 : decide (a0_0 < 0) = false := decide_eq_false c4
      clear c4
      (first | rw [c4b0] | (simp only [i64_w, i32_w]; rw [c4b0]) | skip)
      have H' := Aside0.mk H
      clear H
      have hcz6_0 : w3.cell? ⟨gb163, 0, none⟩ = some (.int .i64 a0_0) := (blk_cell BK163.out 0).trans rfl
      have hcz6_1 : w3.cell? ⟨gb163, 1, none⟩ = some (.int .u64 a0_1) := (blk_cell BK163.out 1).trans rfl
      have hfz6_0 := blk_frozen BK163.out 0
      have hfz6_1 := blk_frozen BK163.out 1
      go_wp2
      go_meet
      case rel => exact ⟨_, (decide (a0_0 > 60)), (by first | rfl | (simp; done) | (simp [*]; done)), H', ⟨by first | omega | exact Nat.le_refl _⟩, ⟨by (with_reducible repeat (first | refine blk_drewN ?_ _ | refine blk_drew ?_ | refine blk_alloc ?_ _)); exact BK163.out⟩, ⟨by repeat (first | (with_reducible first | exact HB.out | apply below_alloc | apply pw_below_drewN | apply below_drew1 | refine below_set ?_ GE163.out) | exact HB.out)⟩⟩
  case rest =>
    clear HC2
    try clear c1
    try clear p2
    try clear c4
    try clear c4b0
    try clear hcz5_0
    try clear hcz5_1
    try clear hcz6_0
    try clear hcz6_1
    try clear hfz5_0
    try clear hfz5_1
    try clear hfz6_0
    try clear hfz6_1
    obtain ⟨kq, x12_1, rfl, HA, HJ1, BK163, HB⟩ := hcut
    cases kq with
    | zero => exact absurd HA.out (by simp [fuseeref03_May.j0])
    | succ kj1 =>
      have H := HA.out
      clear HA
      simp only [fuseeref03_May.j0] at H
      by_cases c7 : x12_1 = true
      · subst c7
        have H1 : (some false) = some r := by rw [if_pos rfl] at H; exact H
        clear H
        have H := H1
        clear H1
        obtain rfl := Option.some.inj H
        go_wp2
        go_ret
        exact ⟨by first | rfl | (simp [errW_none, errW_some] <;> rfl) | (simp [*, errW_none, errW_some] <;> rfl) | (exfalso; first | exact absurd ‹(false != false) = true› (by decide) | exact absurd ‹(true != true) = true› (by decide) | exact absurd ‹(true != false) = false› (by decide) | exact absurd ‹(false != true) = false› (by decide) | exact absurd ‹(false == false) = false› (by decide) | exact absurd ‹(true == true) = false› (by decide) | exact absurd ‹(true == false) = true› (by decide) | exact absurd ‹(false == true) = true› (by decide)), by repeat (first | (with_reducible first | exact HB.out | apply below_alloc | apply pw_below_drewN | apply below_drew1 | refine below_set ?_ GE163.out) | exact HB.out)⟩
      · replace c7 := Bool.eq_false_iff.mpr c7
        subst c7
        have H1 : (fuseeref03_May.l0 kj1 1 0 a0_0 a0_1) = some r := by rw [if_neg (show ¬ (false = true) by decide)] at H; exact H
        clear H
        have H := H1
        clear H1
        have H' := Aside0.mk H
        clear H
        go_wp2
        go_loopg [3, 4] kj1 (fun kq v3 v4 w' => ∃ (x3_2 : Int) (x4_2 : Int), v3 = .int .u64 x3_2 ∧ v4 = .int .i64 x4_2 ∧ Aside0 (fuseeref03_May.l0 kq x3_2 x4_2 a0_0 a0_1 = some r) ∧ Aside0 (kq ≤ kj1) ∧ Aside0 (w'.heap[gb163]? = some (.cells #[.int .i64 a0_0, .int .u64 a0_1] 27 (0, 0))) ∧ Aside0 (Below w.heap.size w w'))
        case atStart => exact ⟨(1), (0), (by first | rfl | (simp; done) | (simp [*]; done)), (by first | rfl | (simp; done) | (simp [*]; done)), H', ⟨Nat.le_refl _⟩, ⟨by (with_reducible repeat (first | refine blk_drewN ?_ _ | refine blk_drew ?_ | refine blk_alloc ?_ _)); exact BK163.out⟩, ⟨by repeat (first | (with_reducible first | exact HB.out | apply below_alloc | apply pw_below_drewN | apply below_drew1 | refine below_set ?_ GE163.out) | exact HB.out)⟩⟩
        case round =>
          clear H'
          try clear c1
          try clear p2
          try clear c4
          try clear c4b0
          try clear c7
          try clear hcz5_0
          try clear hcz5_1
          try clear hcz6_0
          try clear hcz6_1
          try clear hfz5_0
          try clear hfz5_1
          try clear hfz6_0
          try clear hfz6_1
          try clear p2
          obtain ⟨x3_2, x4_2, rfl, rfl, HA, HK2, BK163, HB⟩ := hrel
          cases gk with
          | zero => exact absurd HA.out (by simp [fuseeref03_May.l0])
          | succ k2 =>
            have H := HA.out
            clear HA
            simp only [fuseeref03_May.l0] at H
            by_cases c8 : x4_2 < a0_0
            · rw [if_pos c8] at H
              have c8b0 : decide (x4_2 < a0_0) = true := decide_eq_true c8
              clear c8
              have H' := Aside0.mk H
              clear H
              have hcz9_0 : wr.cell? ⟨gb163, 0, none⟩ = some (.int .i64 a0_0) := (blk_cell BK163.out 0).trans rfl
              have hcz9_1 : wr.cell? ⟨gb163, 1, none⟩ = some (.int .u64 a0_1) := (blk_cell BK163.out 1).trans rfl
              have hfz9_0 := blk_frozen BK163.out 0
              have hfz9_1 := blk_frozen BK163.out 1
              go_wp2
              go_roundg k2
              case measure => have := HJ1.out; have := HK2.out; omega
              case rel => exact ⟨(IntKind.u64.wrap (x3_2 * 2)), (wrap64 (x4_2 + 1)), (by first | rfl | (simp; done) | (simp [*]; done)), (by first | rfl | (simp; done) | (simp [*]; done)), H', ⟨by have := HJ1.out; have := HK2.out; omega⟩, ⟨by (with_reducible repeat (first | refine blk_drewN ?_ _ | refine blk_drew ?_ | refine blk_alloc ?_ _)); exact BK163.out⟩, ⟨by repeat (first | (with_reducible first | exact HB.out | apply below_alloc | apply pw_below_drewN | apply below_drew1 | refine below_set ?_ GE163.out) | exact HB.out)⟩⟩
            · rw [if_neg c8] at H
              have c8b0 : decide (x4_2 < a0_0) = false := decide_eq_false c8
              clear c8
              obtain rfl := Option.some.inj H
              have hcz10_0 : wr.cell? ⟨gb163, 0, none⟩ = some (.int .i64 a0_0) := (blk_cell BK163.out 0).trans rfl
              have hcz10_1 : wr.cell? ⟨gb163, 1, none⟩ = some (.int .u64 a0_1) := (blk_cell BK163.out 1).trans rfl
              have hfz10_0 := blk_frozen BK163.out 0
              have hfz10_1 := blk_frozen BK163.out 1
              go_wp2
              go_ret
              exact ⟨by first | rfl | (simp [errW_none, errW_some] <;> rfl) | (simp [*, errW_none, errW_some] <;> rfl) | (exfalso; first | exact absurd ‹(false != false) = true› (by decide) | exact absurd ‹(true != true) = true› (by decide) | exact absurd ‹(true != false) = false› (by decide) | exact absurd ‹(false != true) = false› (by decide) | exact absurd ‹(false == false) = false› (by decide) | exact absurd ‹(true == true) = false› (by decide) | exact absurd ‹(true == false) = true› (by decide) | exact absurd ‹(false == true) = true› (by decide)), by repeat (first | (with_reducible first | exact HB.out | apply below_alloc | apply pw_below_drewN | apply below_drew1 | refine below_set ?_ GE163.out) | exact HB.out)⟩

/-! ### fuseeref03_Of: function 17 -/
mutual
def fuseeref03_Of.j0 : Nat → List Bool → Option (Int × Int)
  | 0, _ => none
  | k + 1, x0 => fuseeref03_Of.l0 k x0 0 (x0.length : Int) 0
def fuseeref03_Of.l0 : Nat → List Bool → Int → Int → Int → Option (Int × Int)
  | 0, _, _, _, _ => none
  | k + 1, x0, x4, x171000, x171001 => if x4 < (x0.length : Int) then (if 0 ≤ x4 then (if rdOf false x0 x4 = true then (fuseeref03_Of.l0 k x0 (wrap64 (x4 + 1)) x171000 (IntKind.u64.wrap ((IntKind.u64.wrap (2 * x171001)) + 1))) else (fuseeref03_Of.l0 k x0 (wrap64 (x4 + 1)) x171000 (IntKind.u64.wrap (2 * x171001)))) else (none)) else (some (x171000, x171001))
end
def fuseeref03_Of.f (k : Nat) (l0 : List Bool) : Option (Int × Int) := if (l0.length : Int) > 60 then (if 0 ≤ (wrap64 ((l0.length : Int) - 60)) then (if (wrap64 ((l0.length : Int) - 60)) ≤ (l0.length : Int) then (fuseeref03_Of.j0 k (l0.drop ((wrap64 ((l0.length : Int) - 60)) : Int).toNat)) else (none)) else (none)) else (fuseeref03_Of.j0 k l0)
theorem fuseeref03_Of.mono_l : ∀ k, (∀ y0, LeO (fuseeref03_Of.j0 k y0) (fuseeref03_Of.j0 (k + 1) y0)) ∧ (∀ y0 y1 y2 y3, LeO (fuseeref03_Of.l0 k y0 y1 y2 y3) (fuseeref03_Of.l0 (k + 1) y0 y1 y2 y3))
  | 0 => ⟨fun _ r h => by simp [fuseeref03_Of.j0] at h, fun _ _ _ _ r h => by simp [fuseeref03_Of.l0] at h⟩
  | k + 1 => by
    obtain ⟨ih0, ih1⟩ := fuseeref03_Of.mono_l k
    refine ⟨?_, ?_⟩
    · intro y0
      unfold fuseeref03_Of.j0
      repeat' first
      | (with_reducible exact ih0 _)
      | (with_reducible exact ih1 _ _ _ _)
      | (with_reducible exact LeO.refl _)
      | (with_reducible exact LeO.none _)
      | (with_reducible refine LeO.ite ?_ ?_)
      | (with_reducible refine LeO.bind ?_ (fun _ => ?_))
      | exact ih0 _
      | exact ih1 _ _ _ _
      | exact LeO.none _
      | refine LeO.ite ?_ ?_
      | refine LeO.bind ?_ (fun _ => ?_)
    · intro y0 y1 y2 y3
      unfold fuseeref03_Of.l0
      repeat' first
      | (with_reducible exact ih0 _)
      | (with_reducible exact ih1 _ _ _ _)
      | (with_reducible exact LeO.refl _)
      | (with_reducible exact LeO.none _)
      | (with_reducible refine LeO.ite ?_ ?_)
      | (with_reducible refine LeO.bind ?_ (fun _ => ?_))
      | exact ih0 _
      | exact ih1 _ _ _ _
      | exact LeO.none _
      | refine LeO.ite ?_ ?_
      | refine LeO.bind ?_ (fun _ => ?_)
theorem fuseeref03_Of.mono : ∀ a0 k, LeO (fuseeref03_Of.f k a0) (fuseeref03_Of.f (k + 1) a0) := by
  intro a0 k
  obtain ⟨ih0, ih1⟩ := fuseeref03_Of.mono_l k
  unfold fuseeref03_Of.f
  repeat' first
      | (with_reducible exact ih0 _)
      | (with_reducible exact ih1 _ _ _ _)
      | (with_reducible exact LeO.refl _)
      | (with_reducible exact LeO.none _)
      | (with_reducible refine LeO.ite ?_ ?_)
      | (with_reducible refine LeO.bind ?_ (fun _ => ?_))
      | exact ih0 _
      | exact ih1 _ _ _ _
      | exact LeO.none _
      | refine LeO.ite ?_ ?_
      | refine LeO.bind ?_ (fun _ => ?_)
set_option maxHeartbeats 8000000 in
set_option maxRecDepth 100000 in
theorem fuseeref03_Of.calls (k : Nat) (P0_ : Nat → Prop) (A0 : Option Addr) (c0 : Nat) (l0 : List Bool) (r1 : Int) (r2 : Int) (w : World) (hs0 : Kd.V Kd.bool 4 w w.heap.size (fun k_ => P0_ k_) (.slice A0 l0.length c0) l0) (h : fuseeref03_Of.f k l0 = some (r1, r2)) :
    Calls Try.prog 17 #[.slice A0 l0.length c0] w fun e w' => e = .returned (.agg #[.int .i64 r1, .int .u64 r2]) ∧ Below w.heap.size w w' := by
  have hu27 := Try.underlying27
  have HO0 := Aside0.mk (show Kd.V Kd.bool 4 w w.heap.size (fun k_ => (P0_ k_ ∨ w.heap.size ≤ k_)) (.slice A0 l0.length c0) l0 from Kd.V_mono hs0 (fun k_ hk => .inl hk))
  have HB := Aside0.mk (Below.refl w.heap.size w)
  have H : (if (l0.length : Int) > 60 then (if 0 ≤ (wrap64 ((l0.length : Int) - 60)) then (if (wrap64 ((l0.length : Int) - 60)) ≤ (l0.length : Int) then (fuseeref03_Of.j0 k (l0.drop ((wrap64 ((l0.length : Int) - 60)) : Int).toNat)) else (none)) else (none)) else (fuseeref03_Of.j0 k l0)) = some (r1, r2) := h
  clear h
  have HC2 := Aside0.mk H
  clear H
  go_enter Try.func17, Try.ntmps17
  go_upto_if 7 with (first | ((with_reducible refine gate_dst (N := 2) rfl ?_); refine box_event ?hg (N := 2) ?hd (cs := #[.int .i64 0, .int .u64 0]) (t := 27) ?hr ?_; (case hd => rfl); (case hg => rfl); (case hr => first | (go_simp; done) | (go_simp; rfl)); intro gb164 hg w3 hbox hb; have n0_ := Aside0.mk (Kd.V_below (Kd.V_elderB (by (with_reducible repeat (first | apply Kd.V_alloc | apply Kd.V_drewN | apply Kd.V_drew)); exact HO0.out) gb164 (Nat.le_of_eq hg.symm)) hb); have n1_ := Aside0.mk (below_step (by repeat (first | (with_reducible first | exact HB.out | apply below_alloc | apply pw_below_drewN | apply below_drew1) | exact HB.out)) hb); have n2_ := Aside0.mk (hbox); have n3_ := Aside0.mk ((by rw [hg]; exact (below_size (by repeat (first | (with_reducible first | exact HB.out | apply below_alloc | apply pw_below_drewN | apply below_drew1) | exact HB.out))) : w.heap.size ≤ gb164)); have n4_ := Aside0.mk ((by rw [hg]; exact (below_size (by repeat (first | (with_reducible first | exact HB.out | apply below_alloc | apply pw_below_drewN | apply below_drew1) | exact HB.out))) : w.heap.size ≤ gb164)); clear HO0; clear HB; have HO0 := n0_; have HB := n1_; have BK164 := n2_; have GW164 := n3_; have GE164 := n4_; clear n0_ n1_ n2_ n3_ n4_; clear hb hbox hg))
  (try simp only [Act.put, List.setIfInBounds_toArray, List.set_cons_zero, List.set_cons_succ])
  go_cut [0] (fun v0 wc => ∃ (kq : Nat) (x0_1 : List Bool), Aside0 (fuseeref03_Of.j0 kq x0_1 = some (r1, r2)) ∧ Aside0 (kq ≤ k) ∧ Aside0 (Kd.V Kd.bool 4 wc w.heap.size (fun k_ => (P0_ k_ ∨ w.heap.size ≤ k_) ∧ k_ ≠ gb164) v0 x0_1) ∧ Aside0 (wc.heap[gb164]? = some (.cells #[.int .i64 0, .int .u64 0] 27 (0, 0))) ∧ Aside0 (Below w.heap.size w wc))
  case first =>
    have H := HC2.out
    clear HC2
    by_cases c4 : (l0.length : Int) > 60
    · rw [if_pos c4] at H
      have c4b0 : decide (60 < (l0.length : Int)) = true := decide_eq_true c4
      have c4b1 : decide (60 < l0.length) = true := decide_eq_true (by omega)
      clear c4
      (first | rw [c4b0] | (simp only [i64_w, i32_w]; rw [c4b0]) | skip)
      obtain ⟨ji5, hji5⟩ : ∃ j_ : Int, (wrap64 ((l0.length : Int) - 60)) = j_ := ⟨_, rfl⟩
      replace H : (if 0 ≤ (ji5) then (if (ji5) ≤ (l0.length : Int) then (fuseeref03_Of.j0 k (l0.drop ((ji5) : Int).toNat)) else (none)) else (none)) = some (r1, r2) := by first | (rw [hji5] at H; exact H) | (simp only [hji5] at H ⊢; exact H)
      have hji5w : (IntKind.i64.wrap ((l0.length : Int) - 60)) = ji5 := (i64_w _).trans hji5
      by_cases c6 : 0 ≤ (ji5)
      · rw [if_pos c6] at H
        have c6b0 := eq_true c6
        have c6b1 : decide (0 ≤ (ji5)) = true := decide_eq_true c6
        clear c6
        by_cases c7 : (ji5) ≤ (l0.length : Int)
        · rw [if_pos c7] at H
          have c7b0 := eq_true c7
          have c7b1 : decide ((ji5) ≤ (l0.length : Int)) = true := decide_eq_true c7
          clear c7
          obtain ⟨y165, hy165⟩ : ∃ y_ : List Bool, y_ = (l0.drop ((ji5) : Int).toNat) := ⟨_, rfl⟩
          replace H : (fuseeref03_Of.j0 k y165) = some (r1, r2) := by first | (rw [hy165]; with_reducible exact H) | (have H2_ := (Option.bind_some _ _).symm.trans H; rw [hy165]; with_reducible exact H2_) | (have H2_ := (Option.bind_some _ _).symm.trans H; with_reducible exact H2_) | with_reducible exact H | (rw [hy165]; exact H) | exact H
          have Ny165 := Aside0.mk hy165
          clear hy165
          have H' := Aside0.mk H
          clear H
          have q8 : ((ji5) : Int) ≤ ((l0.length : Int) : Int) := of_decide_eq_true (by first | (with_reducible assumption) | assumption)
          obtain ⟨i08, hi08, _, hsz8, _⟩ := info_parts info4
          have hroom8 : l0.length ≤ c0 := (Kd.V_reads' HO0.out).2.1
          have hC8 : Kd.F Kd.bool _ _ A0 l0.length l0 := (Kd.V_at (base := w.heap.size) HO0.out).2.2
          have q08 : (0 : Int) ≤ ((ji5) : Int) := of_decide_eq_true (by first | (with_reducible assumption) | assumption)
          have hcut8 := cut_from (P := Try.prog) 22 4 .i64 Try.underlying22 hi08 1 hsz8 A0 l0.length c0 (ji5) q08 q8
          have hr8 := Kd.F_cut (m := ((ji5) : Int).toNat) (c := c0) hC8 (by omega) hroom8
          obtain ⟨A8, hA8⟩ : ∃ A1, A1 = (if c0 = ((ji5) : Int).toNat then A0 else (A0 : Option Addr).map (·.add (((ji5) : Int).toNat * 1))) := ⟨_, rfl⟩
          obtain ⟨c8, hc8⟩ : ∃ c1, c1 = c0 - ((ji5) : Int).toNat := ⟨_, rfl⟩
          have hy8 : y165.length = l0.length - ((ji5) : Int).toNat := (by rw [Ny165.out, List.length_drop] <;> omega)
          rw [show (l0).drop ((ji5) : Int).toNat = y165 from Ny165.out.symm] at hr8
          replace hr8 : Kd.F Kd.bool _ _ A8 y165.length y165 := (by rw [hA8]; exact hr8)
          rw [← hy8, ← hA8, ← hc8] at hcut8
          have HO169 := Aside0.mk (show Kd.V Kd.bool 4 _ w.heap.size _ (.slice A8 y165.length c8) y165 from Kd.V_mk (by rw [hy8, hc8]; exact Nat.sub_le_sub_right hroom8 _) hr8)
          have HC169 := Aside0.mk (show y165.length ≤ c8 from by rw [hy8, hc8]; exact Nat.sub_le_sub_right hroom8 _)
          clear hr8 hC8 hroom8 hi08 hsz8 hc8
          have KY8 := Aside0.mk hy8
          have KA8 := Aside0.mk hA8
          clear hy8 hA8
          replace q8 := eq_true q8
          go_wp2
          go_meet
          case rel => exact ⟨_, (y165), H', ⟨by first | omega | exact Nat.le_refl _⟩, ⟨by (with_reducible repeat (first | apply Kd.V_alloc | apply Kd.V_drewN | apply Kd.V_drew)); exact HO169.out⟩, ⟨by (with_reducible repeat (first | refine blk_drewN ?_ _ | refine blk_drew ?_ | refine blk_alloc ?_ _)); exact BK164.out⟩, ⟨by repeat (first | (with_reducible first | exact HB.out | apply below_alloc | apply pw_below_drewN | apply below_drew1 | refine below_set ?_ GE164.out) | exact HB.out)⟩⟩
        · rw [if_neg c7] at H
          exact absurd H (by simp)
      · rw [if_neg c6] at H
        exact absurd H (by simp)
    · rw [if_neg c4] at H
      have c4b0 : decide (60 < (l0.length : Int)) = false := decide_eq_false c4
      have c4b1 : decide (60 < l0.length) = false := decide_eq_false (by omega)
      clear c4
      (first | rw [c4b0] | (simp only [i64_w, i32_w]; rw [c4b0]) | skip)
      have H' := Aside0.mk H
      clear H
      go_wp2
      go_meet
      case rel => exact ⟨_, (l0), H', ⟨by first | omega | exact Nat.le_refl _⟩, ⟨by (with_reducible repeat (first | apply Kd.V_alloc | apply Kd.V_drewN | apply Kd.V_drew)); exact HO0.out⟩, ⟨by (with_reducible repeat (first | refine blk_drewN ?_ _ | refine blk_drew ?_ | refine blk_alloc ?_ _)); exact BK164.out⟩, ⟨by repeat (first | (with_reducible first | exact HB.out | apply below_alloc | apply pw_below_drewN | apply below_drew1 | refine below_set ?_ GE164.out) | exact HB.out)⟩⟩
  case rest =>
    clear HC2
    try clear c1
    try clear p2
    try clear c4
    try clear c4b0
    try clear c4b1
    try clear c6
    try clear c6b0
    try clear c6b1
    try clear p6
    try clear c7
    try clear c7b0
    try clear c7b1
    try clear c8
    try clear q8
    try clear q08
    try clear q8
    obtain ⟨kq, x0_1, HA, HJ1, HO_0, BK164, HB⟩ := hcut
    cases kq with
    | zero => exact absurd HA.out (by simp [fuseeref03_Of.j0])
    | succ kj1 =>
      have H := HA.out
      clear HA
      simp only [fuseeref03_Of.j0] at H
      have H' := Aside0.mk H
      clear H
      obtain ⟨Ao9, co9, eo9⟩ := Kd.V_slice HO_0.out
      subst eo9
      go_wp2_with (first | ((with_reducible refine gate_dst (N := 3) rfl ?_); refine box_event ?hg (N := 3) ?hd (cs := #[.int .i64 0, .int .u64 0]) (t := 27) ?hr ?_; (case hd => rfl); (case hg => rfl); (case hr => first | (go_simp; done) | (go_simp; rfl)); intro gb170 hg w10 hbox hb; have n0_ := Aside0.mk (Kd.V_below (Kd.V_elderB (by (with_reducible repeat (first | apply Kd.V_alloc | apply Kd.V_drewN | apply Kd.V_drew)); exact HO_0.out) gb170 (Nat.le_of_eq hg.symm)) hb); have n1_ := Aside0.mk (blk_below (g := gb164) (o := .cells #[.int .i64 0, .int .u64 0] 27 (0, 0)) (by (with_reducible repeat (first | refine blk_drewN ?_ _ | refine blk_drew ?_ | refine blk_alloc ?_ _)); exact BK164.out) hb); have n2_ := Aside0.mk (below_step (by repeat (first | (with_reducible first | exact HB.out | apply below_alloc | apply pw_below_drewN | apply below_drew1 | refine below_set ?_ GE164.out) | exact HB.out)) hb); have n3_ := Aside0.mk (hbox); have n4_ := Aside0.mk ((by rw [hg]; exact (below_size (by repeat (first | (with_reducible first | exact HB.out | apply below_alloc | apply pw_below_drewN | apply below_drew1 | refine below_set ?_ GE164.out) | exact HB.out))) : w.heap.size ≤ gb170)); have n5_ := Aside0.mk ((by rw [hg]; exact (below_size (by repeat (first | (with_reducible first | exact HB.out | apply below_alloc | apply pw_below_drewN | apply below_drew1 | refine below_set ?_ GE164.out) | exact HB.out))) : w.heap.size ≤ gb170)); have n6_ := Aside0.mk ((by rw [hg]; exact Nat.ne_of_lt (blk_lt (g := gb164) (o := .cells #[.int .i64 0, .int .u64 0] 27 (0, 0)) (by (with_reducible repeat (first | refine blk_drewN ?_ _ | refine blk_drew ?_ | refine blk_alloc ?_ _)); exact BK164.out)) : gb164 ≠ gb170)); have n7_ := Aside0.mk ((by rw [hg]; exact Nat.ne_of_gt (blk_lt (g := gb164) (o := .cells #[.int .i64 0, .int .u64 0] 27 (0, 0)) (by (with_reducible repeat (first | refine blk_drewN ?_ _ | refine blk_drew ?_ | refine blk_alloc ?_ _)); exact BK164.out)) : gb170 ≠ gb164)); clear HO_0; clear BK164; clear HB; have HO_0 := n0_; have BK164 := n1_; have HB := n2_; have BK170 := n3_; have GW170 := n4_; have GE170 := n5_; have NB164_170 := n6_; have NB170_164 := n7_; clear n0_ n1_ n2_ n3_ n4_ n5_ n6_ n7_; clear hb hbox hg; have hnb11 := NB170_164.out; have hnc11 := NB164_170.out; have hcz12_0 : w10.cell? ⟨gb170, 0, none⟩ = some (.int .i64 0) := (blk_cell BK170.out 0).trans rfl; have hcz12_1 : w10.cell? ⟨gb170, 1, none⟩ = some (.int .u64 0) := (blk_cell BK170.out 1).trans rfl; have hfz12_0 := blk_frozen BK170.out 0; have hfz12_1 := blk_frozen BK170.out 1))
      go_loopg [4] kj1 (fun kq v4 w' => ∃ (x4_2 : Int) (x171001_2 : Int), v4 = .int .i64 x4_2 ∧ Aside0 (fuseeref03_Of.l0 kq x0_1 x4_2 (x0_1.length : Int) x171001_2 = some (r1, r2)) ∧ Aside0 (kq ≤ kj1) ∧ Aside0 (Kd.V Kd.bool 4 w' w.heap.size (fun k_ => (P0_ k_ ∨ w.heap.size ≤ k_) ∧ k_ ≠ gb164 ∧ k_ ≠ gb170) (.slice Ao9 x0_1.length co9) x0_1) ∧ Aside0 (w'.heap[gb164]? = some (.cells #[.int .i64 0, .int .u64 0] 27 (0, 0))) ∧ Aside0 (w'.heap[gb170]? = some (.cells #[.int .i64 (x0_1.length : Int), .int .u64 x171001_2] 27 (0, 0))) ∧ Aside0 (Below w.heap.size w w'))
      case atStart => exact ⟨(0), (0), (by first | rfl | (simp; done) | (simp [*]; done)), H', ⟨Nat.le_refl _⟩, ⟨by (with_reducible repeat (first | apply Kd.V_alloc | apply Kd.V_drewN | apply Kd.V_drew)); exact Kd.V_mono (Kd.V_far (p := ⟨gb170, 1, none⟩) (Kd.V_far (p := ⟨gb170, 0, none⟩) (Kd.V_mono HO_0.out (fun k_ hk => (⟨hk, hk.2⟩ : _ ∧ k_ ≠ gb170))) (fun _ hk => hk.2) (.int .i64 (x0_1.length : Int))) (fun _ hk => hk.2) (.int .u64 0)) (fun _ hk => ⟨hk.1.1.1, ⟨hk.1.1.2, hk.1.2⟩⟩)⟩, ⟨by (with_reducible repeat (first | refine blk_drewN ?_ _ | refine blk_drew ?_ | refine blk_alloc ?_ _)); refine blk_far ?_ NB164_170.out _; (with_reducible repeat (first | refine blk_drewN ?_ _ | refine blk_drew ?_ | refine blk_alloc ?_ _)); refine blk_far ?_ NB164_170.out _; (with_reducible repeat (first | refine blk_drewN ?_ _ | refine blk_drew ?_ | refine blk_alloc ?_ _)); exact BK164.out⟩, ⟨by (with_reducible repeat (first | refine blk_drewN ?_ _ | refine blk_drew ?_ | refine blk_alloc ?_ _)); refine blk_put (cs := #[.int .i64 (x0_1.length : Int), .int .u64 0]) ?_ 1 _ rfl; (with_reducible repeat (first | refine blk_drewN ?_ _ | refine blk_drew ?_ | refine blk_alloc ?_ _)); refine blk_put (cs := #[.int .i64 0, .int .u64 0]) ?_ 0 _ rfl; (with_reducible repeat (first | refine blk_drewN ?_ _ | refine blk_drew ?_ | refine blk_alloc ?_ _)); exact BK170.out⟩, ⟨by repeat (first | (with_reducible first | exact HB.out | apply below_alloc | apply pw_below_drewN | apply below_drew1 | refine below_set ?_ GE164.out | refine below_set ?_ GE170.out) | exact HB.out)⟩⟩
      case round =>
        clear H'
        try clear c1
        try clear p2
        try clear c4
        try clear c4b0
        try clear c4b1
        try clear c6
        try clear c6b0
        try clear c6b1
        try clear p6
        try clear c7
        try clear c7b0
        try clear c7b1
        try clear c8
        try clear q8
        try clear c11
        try clear hcz12_0
        try clear hcz12_1
        try clear hfz12_0
        try clear hfz12_1
        try clear p2
        try clear p6
        try clear q08
        try clear q8
        obtain ⟨x4_2, x171001_2, rfl, HA, HK2, HO_0, BK164, BK170, HB⟩ := hrel
        cases gk with
        | zero => exact absurd HA.out (by simp [fuseeref03_Of.l0])
        | succ k2 =>
          have H := HA.out
          clear HA
          simp only [fuseeref03_Of.l0] at H
          by_cases c13 : x4_2 < (x0_1.length : Int)
          · rw [if_pos c13] at H
            have c13b0 : decide (x4_2 < (x0_1.length : Int)) = true := decide_eq_true c13
            clear c13
            by_cases c14 : 0 ≤ x4_2
            · rw [if_pos c14] at H
              have c14b0 : decide (0 ≤ x4_2) = true := decide_eq_true c14
              clear c14
              obtain ⟨bq15, hbq15⟩ : ∃ b_ : Bool, b_ = (rdOf false x0_1 x4_2) := ⟨_, rfl⟩
              replace H : (if bq15 = true then (fuseeref03_Of.l0 k2 x0_1 (wrap64 (x4_2 + 1)) (x0_1.length : Int) (IntKind.u64.wrap ((IntKind.u64.wrap (2 * x171001_2)) + 1))) else (fuseeref03_Of.l0 k2 x0_1 (wrap64 (x4_2 + 1)) (x0_1.length : Int) (IntKind.u64.wrap (2 * x171001_2)))) = some (r1, r2) := by rw [← hbq15] at H; exact H
              have Nbq15 := Aside0.mk hbq15
              clear hbq15
              by_cases c16 : bq15 = true
              · subst c16
                have H1 : (fuseeref03_Of.l0 k2 x0_1 (wrap64 (x4_2 + 1)) (x0_1.length : Int) (IntKind.u64.wrap ((IntKind.u64.wrap (2 * x171001_2)) + 1))) = some (r1, r2) := by rw [if_pos rfl] at H; exact H
                clear H
                have H := H1
                clear H1
                have H' := Aside0.mk H
                clear H
                have hnb17 := NB170_164.out
                have hnc17 := NB164_170.out
                have hcz18_0 : wr.cell? ⟨gb170, 0, none⟩ = some (.int .i64 (x0_1.length : Int)) := (blk_cell BK170.out 0).trans rfl
                have hcz18_1 : wr.cell? ⟨gb170, 1, none⟩ = some (.int .u64 x171001_2) := (blk_cell BK170.out 1).trans rfl
                have hfz18_0 := blk_frozen BK170.out 0
                have hfz18_1 := blk_frozen BK170.out 1
                have p171 : 0 ≤ (x4_2 : Int) := of_decide_eq_true (by first | (with_reducible assumption) | assumption)
                have q171 : x4_2 < (x0_1.length : Int) := of_decide_eq_true (by first | (with_reducible assumption) | assumption)
                obtain ⟨ad171, e171, hx171_0⟩ := Kd.at_bool (Kd.V_reads' HO_0.out).2.2 x4_2 p171 q171
                (try rw [← Nbq15.out] at hx171_0)
                cases e171
                have hn171_0 : ad171.block ≠ gb170 := Kd.foot_ne (fun _ hk_ => Kd.F_now (Kd.F_keep (Kd.V_at HO_0.out).2.2 hk_ (fun _ ho_ => by first | exact ho_.2.2 | exact ho_.2.1 | exact ho_.2.2.1 | exact ho_.2.2.2 | exact ho_.2))) (by omega) (by decide)
                replace hx171_0 := (cell_far (p := ⟨gb170, 1, none⟩) (by first | (rw [add_block]; exact hn171_0) | (show (Addr.add _ _).block ≠ _; rw [add_block]; exact hn171_0) | exact hn171_0) (.int .u64 (IntKind.u64.wrap (2 * x171001_2)))).trans hx171_0
                clear hn171_0
                replace p171 := eq_true p171
                replace q171 := eq_true q171
                go_wp2
                go_roundg k2
                case measure => have := HJ1.out; have := HK2.out; omega
                case rel => exact ⟨(wrap64 (x4_2 + 1)), (IntKind.u64.wrap ((IntKind.u64.wrap (2 * x171001_2)) + 1)), (by first | rfl | (simp; done) | (simp [*]; done)), H', ⟨by have := HJ1.out; have := HK2.out; omega⟩, ⟨by (with_reducible repeat (first | apply Kd.V_alloc | apply Kd.V_drewN | apply Kd.V_drew)); exact Kd.V_mono (Kd.V_far (p := ⟨gb170, 1, none⟩) (Kd.V_far (p := ⟨gb170, 1, none⟩) (Kd.V_mono HO_0.out (fun k_ hk => (⟨hk, hk.2.2⟩ : _ ∧ k_ ≠ gb170))) (fun _ hk => hk.2) (.int .u64 (IntKind.u64.wrap (2 * x171001_2)))) (fun _ hk => hk.2) (.int .u64 (IntKind.u64.wrap ((IntKind.u64.wrap (2 * x171001_2)) + 1)))) (fun _ hk => ⟨hk.1.1, ⟨hk.1.2.1, hk.1.2.2⟩⟩)⟩, ⟨by (with_reducible repeat (first | refine blk_drewN ?_ _ | refine blk_drew ?_ | refine blk_alloc ?_ _)); refine blk_far ?_ NB164_170.out _; (with_reducible repeat (first | refine blk_drewN ?_ _ | refine blk_drew ?_ | refine blk_alloc ?_ _)); refine blk_far ?_ NB164_170.out _; (with_reducible repeat (first | refine blk_drewN ?_ _ | refine blk_drew ?_ | refine blk_alloc ?_ _)); exact BK164.out⟩, ⟨by (with_reducible repeat (first | refine blk_drewN ?_ _ | refine blk_drew ?_ | refine blk_alloc ?_ _)); refine blk_put (cs := #[.int .i64 (x0_1.length : Int), .int .u64 (IntKind.u64.wrap (2 * x171001_2))]) ?_ 1 _ rfl; (with_reducible repeat (first | refine blk_drewN ?_ _ | refine blk_drew ?_ | refine blk_alloc ?_ _)); refine blk_put (cs := #[.int .i64 (x0_1.length : Int), .int .u64 x171001_2]) ?_ 1 _ rfl; (with_reducible repeat (first | refine blk_drewN ?_ _ | refine blk_drew ?_ | refine blk_alloc ?_ _)); exact BK170.out⟩, ⟨by repeat (first | (with_reducible first | exact HB.out | apply below_alloc | apply pw_below_drewN | apply below_drew1 | refine below_set ?_ GE164.out | refine below_set ?_ GE170.out) | exact HB.out)⟩⟩
              · replace c16 := Bool.eq_false_iff.mpr c16
                subst c16
                have H1 : (fuseeref03_Of.l0 k2 x0_1 (wrap64 (x4_2 + 1)) (x0_1.length : Int) (IntKind.u64.wrap (2 * x171001_2))) = some (r1, r2) := by rw [if_neg (show ¬ (false = true) by decide)] at H; exact H
                clear H
                have H := H1
                clear H1
                have H' := Aside0.mk H
                clear H
                have hnb19 := NB170_164.out
                have hnc19 := NB164_170.out
                have hcz20_0 : wr.cell? ⟨gb170, 0, none⟩ = some (.int .i64 (x0_1.length : Int)) := (blk_cell BK170.out 0).trans rfl
                have hcz20_1 : wr.cell? ⟨gb170, 1, none⟩ = some (.int .u64 x171001_2) := (blk_cell BK170.out 1).trans rfl
                have hfz20_0 := blk_frozen BK170.out 0
                have hfz20_1 := blk_frozen BK170.out 1
                have p171 : 0 ≤ (x4_2 : Int) := of_decide_eq_true (by first | (with_reducible assumption) | assumption)
                have q171 : x4_2 < (x0_1.length : Int) := of_decide_eq_true (by first | (with_reducible assumption) | assumption)
                obtain ⟨ad171, e171, hx171_0⟩ := Kd.at_bool (Kd.V_reads' HO_0.out).2.2 x4_2 p171 q171
                (try rw [← Nbq15.out] at hx171_0)
                cases e171
                have hn171_0 : ad171.block ≠ gb170 := Kd.foot_ne (fun _ hk_ => Kd.F_now (Kd.F_keep (Kd.V_at HO_0.out).2.2 hk_ (fun _ ho_ => by first | exact ho_.2.2 | exact ho_.2.1 | exact ho_.2.2.1 | exact ho_.2.2.2 | exact ho_.2))) (by omega) (by decide)
                replace hx171_0 := (cell_far (p := ⟨gb170, 1, none⟩) (by first | (rw [add_block]; exact hn171_0) | (show (Addr.add _ _).block ≠ _; rw [add_block]; exact hn171_0) | exact hn171_0) (.int .u64 (IntKind.u64.wrap (2 * x171001_2)))).trans hx171_0
                clear hn171_0
                replace p171 := eq_true p171
                replace q171 := eq_true q171
                go_wp2
                go_roundg k2
                case measure => have := HJ1.out; have := HK2.out; omega
                case rel => exact ⟨(wrap64 (x4_2 + 1)), (IntKind.u64.wrap (2 * x171001_2)), (by first | rfl | (simp; done) | (simp [*]; done)), H', ⟨by have := HJ1.out; have := HK2.out; omega⟩, ⟨by (with_reducible repeat (first | apply Kd.V_alloc | apply Kd.V_drewN | apply Kd.V_drew)); exact Kd.V_mono (Kd.V_far (p := ⟨gb170, 1, none⟩) (Kd.V_mono HO_0.out (fun k_ hk => (⟨hk, hk.2.2⟩ : _ ∧ k_ ≠ gb170))) (fun _ hk => hk.2) (.int .u64 (IntKind.u64.wrap (2 * x171001_2)))) (fun _ hk => ⟨hk.1.1, ⟨hk.1.2.1, hk.1.2.2⟩⟩)⟩, ⟨by (with_reducible repeat (first | refine blk_drewN ?_ _ | refine blk_drew ?_ | refine blk_alloc ?_ _)); refine blk_far ?_ NB164_170.out _; (with_reducible repeat (first | refine blk_drewN ?_ _ | refine blk_drew ?_ | refine blk_alloc ?_ _)); exact BK164.out⟩, ⟨by (with_reducible repeat (first | refine blk_drewN ?_ _ | refine blk_drew ?_ | refine blk_alloc ?_ _)); refine blk_put (cs := #[.int .i64 (x0_1.length : Int), .int .u64 x171001_2]) ?_ 1 _ rfl; (with_reducible repeat (first | refine blk_drewN ?_ _ | refine blk_drew ?_ | refine blk_alloc ?_ _)); exact BK170.out⟩, ⟨by repeat (first | (with_reducible first | exact HB.out | apply below_alloc | apply pw_below_drewN | apply below_drew1 | refine below_set ?_ GE164.out | refine below_set ?_ GE170.out) | exact HB.out)⟩⟩
            · rw [if_neg c14] at H
              exact absurd H (by simp)
          · rw [if_neg c13] at H
            have c13b0 : decide (x4_2 < (x0_1.length : Int)) = false := decide_eq_false c13
            clear c13
            simp only [Option.some.injEq, Prod.mk.injEq] at H
            obtain ⟨rfl, rfl⟩ := H
            have hnb21 := NB170_164.out
            have hnc21 := NB164_170.out
            have hcz22_0 : wr.cell? ⟨gb170, 0, none⟩ = some (.int .i64 (x0_1.length : Int)) := (blk_cell BK170.out 0).trans rfl
            have hcz22_1 : wr.cell? ⟨gb170, 1, none⟩ = some (.int .u64 x171001_2) := (blk_cell BK170.out 1).trans rfl
            have hfz22_0 := blk_frozen BK170.out 0
            have hfz22_1 := blk_frozen BK170.out 1
            have hcz23_0 : wr.cell? ⟨gb164, 0, none⟩ = some (.int .i64 0) := (blk_cell BK164.out 0).trans rfl
            have hcz23_1 : wr.cell? ⟨gb164, 1, none⟩ = some (.int .u64 0) := (blk_cell BK164.out 1).trans rfl
            have hfz23_0 := blk_frozen BK164.out 0
            have hfz23_1 := blk_frozen BK164.out 1
            go_wp2
            refine bodyPost_ret (results_cell_row rfl _ _ gb164 27 #[.int .i64 (x0_1.length : Int), .int .u64 x171001_2] (0, 0) _ rfl (by (with_reducible repeat (first | refine blk_drewN ?_ _ | refine blk_drew ?_ | refine blk_alloc ?_ _)); refine blk_put (cs := #[.int .i64 (x0_1.length : Int), .int .u64 0]) ?_ 1 _ rfl; (with_reducible repeat (first | refine blk_drewN ?_ _ | refine blk_drew ?_ | refine blk_alloc ?_ _)); refine blk_put (cs := #[.int .i64 0, .int .u64 0]) ?_ 0 _ rfl; (with_reducible repeat (first | refine blk_drewN ?_ _ | refine blk_drew ?_ | refine blk_alloc ?_ _)); exact BK164.out) Try.underlying27 rfl (by kernel_rfl)) rfl ?_
            exact ⟨by first | rfl | (simp [errW_none, errW_some] <;> rfl) | (simp [*, errW_none, errW_some] <;> rfl) | (exfalso; first | exact absurd ‹(false != false) = true› (by decide) | exact absurd ‹(true != true) = true› (by decide) | exact absurd ‹(true != false) = false› (by decide) | exact absurd ‹(false != true) = false› (by decide) | exact absurd ‹(false == false) = false› (by decide) | exact absurd ‹(true == true) = false› (by decide) | exact absurd ‹(true == false) = true› (by decide) | exact absurd ‹(false == true) = true› (by decide)), by repeat (first | (with_reducible first | exact HB.out | apply below_alloc | apply pw_below_drewN | apply below_drew1 | refine below_set ?_ GE164.out | refine below_set ?_ GE170.out) | exact HB.out)⟩

end Go.Proofs.Ytajacjklmabomaa.P
