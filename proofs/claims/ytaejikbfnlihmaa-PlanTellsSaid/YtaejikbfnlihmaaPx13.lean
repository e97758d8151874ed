-- Written by a program of this session (hprint.py), out of the translation; functions that the print does not take are given by hand.
import Derived.Test.YtaejikbfnlihmaaPx0
import Derived.Test.YtaejikbfnlihmaaPx11
import Derived.Test.YtaejikbfnlihmaaPx12
namespace Go.Proofs.Ytaejikbfnlihmaa.P
open Go.RowKit Go.Proofs.YtaejikbfnlihmaaM Go.Proofs.YtaejikbfnlihmaaW.PrintWords Go.Proofs.YtaejikbfnlihmaaW.PrintLast Go.Proofs.YtaejikbfnlihmaaW.PrintMore
attribute [local go_sem] max2_int min2_int max_two min_two max_three min_three max_four min_four   -- for this text's walks alone
set_option linter.unusedVariables false
set_option linter.unusedSimpArgs false

/-! ### spring_of: function 92 -/
/-- How an element of the map reads: three whole numbers, whichever. -/
def spring_of.elem : Value → Option (DataW Unit × List MemPlace)
  | .agg ⟨[.int .i64 _, .int .i64 _, .int .i64 _]⟩ => some (.lit (.bool true), [])
  | _ => none
theorem spring_of.elem_mk (a b c : Int) : spring_of.elem (.agg #[.int .i64 a, .int .i64 b, .int .i64 c]) = some (.lit (.bool true), []) := rfl
theorem spring_of.elem_inv {v : Value} {z : DataW Unit × List MemPlace} (h : spring_of.elem v = some z) : ∃ a b c : Int, v = .agg #[.int .i64 a, .int .i64 b, .int .i64 c] := by
  unfold spring_of.elem at h
  split at h
  · exact ⟨_, _, _, rfl⟩
  · cases h
/-- The map in block b: has just the numbers that the list tells. -/
def spring_of.own (w : World) (b n : Nat) (D : DataW Unit) : Prop := w.ownsMap Try.prog 3 spring_of.elem b n D
theorem spring_of.own_below {w w' : World} {b n : Nat} {D : DataW Unit} (h : spring_of.own w b n D) (hb : Below w.heap.size w w') : spring_of.own w' b n D := by
  obtain ⟨es, clock, h0, r⟩ := h
  exact ⟨es, clock, (hb.block b (Array.getElem?_eq_some_iff.1 h0).1).trans h0, r⟩
def spring_of.rep (D : DataW Unit) (m : Nat) (L : List Bool) : Prop := ∀ i : Nat, i < m → Maps.has D (.int .i64 i) = L.getD i false
theorem spring_of.look {w : World} {ops : Array Oper} {rest : List Oper} {o : Oper} {a : Act} {Q : Exit → Act → World → Prop} (hg : o.guard = none) (m x : Operand) (hop : o.op = Op.lookup 102 m x true)
    (b n : Nat) (D : DataW Unit) (hown : spring_of.own w b n D) (hm : a.eval m = .map (some b)) (q : Int) (hq : (Lit.int .i64 q).wf = true) (hx : a.eval x = .int .i64 q) (r : Bool) (hr : Maps.has D (.int .i64 q) = r)
    (hK : ∀ c0 c1 c2 : Int, wpList Try.prog ops Q rest (a.put o.dst (.tuple #[.agg #[.int .i64 c0, .int .i64 c1, .int .i64 c2], .bool r])) w) : wpList Try.prog ops Q (o :: rest) a w := by
  subst hr
  refine wpList_lookup_own_ok w hg m x 102 hop 3 53 (Maps.int_keyed Try.underlying3) Try.underlying102 spring_of.elem (z := .agg #[.int .i64 0, .int .i64 0, .int .i64 0]) (by kernel_rfl) (.lit (.bool true)) [] rfl b n D hm hown _ (.int .i64 q) hx (Maps.keyOf_int_mk Try.underlying3 hq) ?_
  intro v ps hv
  obtain ⟨c0, c1, c2, rfl⟩ := spring_of.elem_inv hv
  exact hK c0 c1 c2
theorem spring_of.put {w : World} {ops : Array Oper} {rest : List Oper} {o : Oper} {a : Act} {Q : Exit → Act → World → Prop} (hg : o.guard = none) (m x v : Operand) (hop : o.op = Op.mapUpdate 102 m x v)
    (b n : Nat) (D : DataW Unit) (hown : spring_of.own w b n D) (hm : a.eval m = .map (some b)) (hn : n < maxLen) (q : Int) (hq : (Lit.int .i64 q).wf = true) (hx : a.eval x = .int .i64 q) (c0 c1 c2 : Int) (hv : a.eval v = .agg #[.int .i64 c0, .int .i64 c1, .int .i64 c2])
    (hK : ∀ w', spring_of.own w' b (n + 1) (D.put (.int .i64 q) (.lit (.bool true))) → w.grownBy w' (some b) → wpList Try.prog ops Q rest (a.put o.dst undef) w') : wpList Try.prog ops Q (o :: rest) a w :=
  wpList_mapUpdate_own w hg m x v 102 hop 3 53 (Maps.int_keyed Try.underlying3) Try.underlying102 spring_of.elem b n D hm hown hn _ _ (.int .i64 q) hx hv (Maps.keyOf_int_mk Try.underlying3 hq) (.lit (.bool true)) [] (spring_of.elem_mk c0 c1 c2) hK
theorem spring_of.drop {w : World} {ops : Array Oper} {rest : List Oper} {o : Oper} {a : Act} {Q : Exit → Act → World → Prop} (hg : o.guard = none) (m x : Operand) (hop : o.op = Op.call { callee := Callee.builtin Builtin.delete, args := #[m, x], argTypes := #[102, 3] })
    (b n : Nat) (D : DataW Unit) (hown : spring_of.own w b n D) (hm : a.eval m = .map (some b)) (q : Int) (hq : (Lit.int .i64 q).wf = true) (hx : a.eval x = .int .i64 q)
    (hK : ∀ w', spring_of.own w' b n (D.del (.int .i64 q)) → w.grownBy w' (some b) → wpList Try.prog ops Q rest (a.put o.dst (.tuple #[])) w') : wpList Try.prog ops Q (o :: rest) a w :=
  wpList_delete_own w hg m x 102 3 hop 53 (Maps.int_keyed Try.underlying3) Try.underlying102 spring_of.elem b n D hm hown _ (.int .i64 q) hx (Maps.keyOf_int_mk Try.underlying3 hq) (fun w' h1 h2 => hK w' h1 h2.grown)
theorem spring_of.len {w : World} {ops : Array Oper} {rest : List Oper} {o : Oper} {a : Act} {Q : Exit → Act → World → Prop} (hg : o.guard = none) (m : Operand) (hop : o.op = Op.call { callee := Callee.builtin Builtin.len, args := #[m], argTypes := #[102] })
    (b n : Nat) (D : DataW Unit) (hown : spring_of.own w b n D) (hm : a.eval m = .map (some b)) (c : Nat) (hc : Maps.size D = c)
    (hK : wpList Try.prog ops Q rest (a.put o.dst (.int .i64 c)) w) : wpList Try.prog ops Q (o :: rest) a w := by
  subst hc
  exact wpList_len_own w hg m 102 hop 3 53 Try.underlying102 spring_of.elem b n D hm hown hK
def spring_of.l0 : Nat → List Bool → List (S53) → Int → Int → Int → Option (Int × Int)
  | 0, _, _, _, _, _ => none
  | k + 1, L, l, ov, e, i => if i < (l.length : Int) then (if 0 ≤ i then (if L.getD i.toNat false = true then spring_of.l0 k L l (wrap64 (ov + (rd_T53 l i).f0)) (wrap64 (e + (rd_T53 l i).f2)) (wrap64 (i + 1)) else ((spring_least.f (rd_T53 l i).f0 (rd_T53 l i).f1 (rd_T53 l i).f2).bind fun t => spring_of.l0 k L l (wrap64 (ov + t)) e (wrap64 (i + 1)))) else none) else (if ov ≤ 0 then some (0, 1) else (if e = 0 then some (0, 1) else ((spring_common.f k ov e).bind fun c => if c = 0 then none else some (wrap64 (Int.tdiv ov c), wrap64 (Int.tdiv e c)))))
def spring_of.f (k : Nat) (L : List Bool) (l : List (S53)) (load : Int) : Option (Int × Int) := spring_of.l0 k L l (wrap64 (-load)) 0 0
theorem spring_of.mono_l : ∀ k, (∀ y0 y1 y2 y3 y4, LeO (spring_of.l0 k y0 y1 y2 y3 y4) (spring_of.l0 (k + 1) y0 y1 y2 y3 y4))
  | 0 => fun _ _ _ _ _ r h => by simp [spring_of.l0] at h
  | k + 1 => by
    have ih0 := spring_of.mono_l k
    intro y0 y1 y2 y3 y4
    unfold spring_of.l0
    repeat' first
      | (with_reducible exact ih0 _ _ _ _ _)
      | (with_reducible exact spring_common.mono _ _ _)
      | (with_reducible exact LeO.refl _)
      | (with_reducible exact LeO.none _)
      | (with_reducible refine LeO.ite ?_ ?_)
      | (with_reducible refine LeO.bind ?_ (fun _ => ?_))
      | exact LeO.none _
theorem spring_of.mono (L : List Bool) (l : List (S53)) (load : Int) (k : Nat) : LeO (spring_of.f k L l load) (spring_of.f (k + 1) L l load) := spring_of.mono_l k _ _ _ _ _
set_option maxHeartbeats 8000000 in
set_option maxRecDepth 100000 in
theorem spring_of.calls (k : Nat) (L : List Bool) (b n : Nat) (D : DataW Unit) (A0 : Option Addr) (c0 : Nat) (l0 : List (S53)) (load : Int) (r1 r2 : Int) (w : World) (hown : spring_of.own w b n D) (hrep : spring_of.rep D l0.length L) (hr0 : Kd.C k53 w A0 l0.length l0) (hm0 : l0.length ≤ maxLen) (hc0 : l0.length ≤ c0) (h : spring_of.f k L l0 load = some (r1, r2)) :
    Calls Try.prog 92 #[.map (some b), .slice A0 l0.length c0, .int .i64 load] w fun e w' => e = .returned (.agg #[.int .i64 r1, .int .i64 r2]) ∧ Below w.heap.size w w' := by
  have hu33 := Try.underlying53
  have hu39 := Try.underlying94
  have HM := Aside0.mk hown
  have HP := Aside0.mk hrep
  have HR0 := Aside0.mk hr0
  have HC0 := Aside0.mk hc0
  have HL0 := Aside0.mk (show l0.length ≤ 9223372036854775807 from hm0)
  clear hr0 hc0 hown hrep hm0
  have H' := Aside0.mk (show spring_of.l0 k L l0 (wrap64 (-load)) 0 0 = some (r1, r2) from h)
  clear h
  go_enter Try.func92, Try.ntmps92
  go_wp2
  go_loopg [7, 8, 18] k (fun kq v7 v8 v18 w' => ∃ (ov e i : Int), v7 = .int .i64 ov ∧ v8 = .int .i64 e ∧ v18 = .int .i64 i ∧ Aside0 (spring_of.l0 kq L l0 ov e i = some (r1, r2)) ∧ Aside0 (kq ≤ k) ∧ Aside0 (Below w.heap.size w w') ∧ Aside0 (w'.heap[w.heap.size]? = some (.cells #[.int .i64 0, .int .i64 0] 94 (0, 0))))
  case atStart => exact ⟨_, 0, 0, rfl, rfl, rfl, H', ⟨Nat.le_refl _⟩, ⟨below_alloc (Below.refl _ _) _⟩, ⟨blk_new _ _⟩⟩
  case round =>
    clear H'
    obtain ⟨ov, e, i, rfl, rfl, rfl, HA, HK1, HB, HX⟩ := hrel
    cases gk with
    | zero => exact absurd HA.out (by simp [spring_of.l0])
    | succ k1 =>
      have H := HA.out
      clear HA
      rw [spring_of.l0] at H
      by_cases c2 : i < (l0.length : Int)
      · rw [if_pos c2] at H
        by_cases c3 : 0 ≤ i
        · rw [if_pos c3] at H
          obtain ⟨ad, e0, h0, h1, h2⟩ := at_T53 HR0.out i c3 c2
          cases e0
          replace h0 := (HB.out.cell (World.block_lt_of_cell? w _ h0)).trans h0
          replace h1 := (HB.out.cell (World.block_lt_of_cell? w _ h1)).trans h1
          replace h2 := (HB.out.cell (World.block_lt_of_cell? w _ h2)).trans h2
          have hq := Aside0.mk (show (Lit.int .i64 i).wf = true by simp only [Lit.wf, Bool.and_eq_true, decide_eq_true_eq]; have := HL0.out; exact ⟨by show -9223372036854775808 ≤ i; omega, by show i ≤ 9223372036854775807; omega⟩)
          have hi := Aside0.mk (show Maps.has D (.int .i64 i) = L.getD i.toNat false by have h_ := HP.out i.toNat (by omega); rwa [Int.toNat_of_nonneg c3] at h_)
          have c2b : decide (i < (l0.length : Int)) = true := decide_eq_true c2
          have c3b : decide (0 ≤ i) = true := decide_eq_true c3
          have p1 := eq_true c3
          have q1 := eq_true c2
          clear c2 c3
          by_cases c4 : L.getD i.toNat false = true
          · rw [if_pos c4] at H
            have hh := Aside0.mk (hi.out.trans c4)
            clear c4 hi
            have H' := Aside0.mk H
            clear H
            go_wp2_with (first | (at_lookup; refine spring_of.look rfl _ _ rfl b n D ?hown rfl i hq.out rfl true hh.out ?_; (case hown => exact (spring_of.own_below HM.out HB.out).alloc _); intro z0 z1 z2))
            go_quiet (fail)
            go_wp2
            go_roundg k1
            case measure => have := HK1.out; omega
            case rel => exact ⟨_, _, _, rfl, rfl, rfl, H', ⟨by have := HK1.out; omega⟩, ⟨by repeat (first | exact HB.out | apply below_alloc | apply pw_below_drewN | apply below_drew1)⟩, ⟨by (with_reducible repeat (first | refine blk_drewN ?_ _ | refine blk_drew ?_ | refine blk_alloc ?_ _)); exact HX.out⟩⟩
          · rw [if_neg c4] at H
            have hh := Aside0.mk (hi.out.trans (by simpa using c4))
            clear c4 hi
            obtain ⟨t, ht, H⟩ := Option.bind_eq_some_iff.mp H
            have H' := Aside0.mk H
            have A1 := Aside0.mk ht
            clear H ht
            go_wp2_with (first | (at_lookup; refine spring_of.look rfl _ _ rfl b n D ?hown rfl i hq.out rfl false hh.out ?_; (case hown => exact (spring_of.own_below HM.out HB.out).alloc _); intro z0 z1 z2) | (go_at_call 52; (with_reducible refine (spring_least.calls _ _ _ t _ A1.out).mono ?_); rintro e w3 ⟨rfl, hb⟩; have HB2 := bs HB hb; have HX2 := bb HX hb; clear hb))
            go_roundg k1
            case measure => have := HK1.out; omega
            case rel => exact ⟨_, _, _, rfl, rfl, rfl, H', ⟨by have := HK1.out; omega⟩, HB2, HX2⟩
        · rw [if_neg c3] at H
          cases H
      · rw [if_neg c2] at H
        have c2b : decide (i < (l0.length : Int)) = false := decide_eq_false c2
        clear c2
        by_cases c5 : ov ≤ 0
        · rw [if_pos c5] at H
          have c5b : decide (ov ≤ 0) = true := decide_eq_true c5
          clear c5
          simp only [Option.some.injEq, Prod.mk.injEq] at H
          obtain ⟨rfl, rfl⟩ := H
          have y0 : wr.cell? ⟨w.heap.size, 0, none⟩ = some (.int .i64 0) := (blk_cell HX.out 0).trans rfl
          have y1 : wr.cell? ⟨w.heap.size, 1, none⟩ = some (.int .i64 0) := (blk_cell HX.out 1).trans rfl
          have f0 : wr.frozen? ⟨w.heap.size, 0, none⟩ = false := blk_frozen HX.out 0
          have f1 : wr.frozen? ⟨w.heap.size, 1, none⟩ = false := blk_frozen HX.out 1
          have E := Aside0.mk (blk_put (cs' := #[.int .i64 0, .int .i64 1]) (blk_put (cs' := #[.int .i64 0, .int .i64 0]) HX.out 0 (.int .i64 0) rfl) 1 (.int .i64 1) rfl)
          go_wp2
          refine bodyPost_ret (results_cell_row rfl _ _ w.heap.size 94 #[.int .i64 0, .int .i64 1] (0, 0) _ rfl E.out Try.underlying94 rfl (by kernel_rfl)) rfl ⟨rfl, below_set (below_set HB.out (Nat.le_refl _)) (Nat.le_refl _)⟩
        · rw [if_neg c5] at H
          have c5b : decide (ov ≤ 0) = false := decide_eq_false c5
          clear c5
          by_cases c6 : e = 0
          · subst c6
            rw [if_pos rfl] at H
            simp only [Option.some.injEq, Prod.mk.injEq] at H
            obtain ⟨rfl, rfl⟩ := H
            have y0 : wr.cell? ⟨w.heap.size, 0, none⟩ = some (.int .i64 0) := (blk_cell HX.out 0).trans rfl
            have y1 : wr.cell? ⟨w.heap.size, 1, none⟩ = some (.int .i64 0) := (blk_cell HX.out 1).trans rfl
            have f0 : wr.frozen? ⟨w.heap.size, 0, none⟩ = false := blk_frozen HX.out 0
            have f1 : wr.frozen? ⟨w.heap.size, 1, none⟩ = false := blk_frozen HX.out 1
            have E := Aside0.mk (blk_put (cs' := #[.int .i64 0, .int .i64 1]) (blk_put (cs' := #[.int .i64 0, .int .i64 0]) HX.out 0 (.int .i64 0) rfl) 1 (.int .i64 1) rfl)
            go_wp2
            refine bodyPost_ret (results_cell_row rfl _ _ w.heap.size 94 #[.int .i64 0, .int .i64 1] (0, 0) _ rfl E.out Try.underlying94 rfl (by kernel_rfl)) rfl ⟨rfl, below_set (below_set HB.out (Nat.le_refl _)) (Nat.le_refl _)⟩
          · rw [if_neg c6] at H
            have c6b : (e == 0) = false := beq_eq_false_iff_ne.mpr c6
            clear c6
            obtain ⟨c, hc, H⟩ := Option.bind_eq_some_iff.mp H
            by_cases c7 : c = 0
            · rw [if_pos c7] at H
              cases H
            · rw [if_neg c7] at H
              simp only [Option.some.injEq, Prod.mk.injEq] at H
              obtain ⟨rfl, rfl⟩ := H
              have A1 := Aside0.mk hc
              clear hc
              go_wp2_with (go_at_call 99; (with_reducible refine (spring_common.calls k1 ov e c _ A1.out).mono ?_); rintro e w3 ⟨rfl, ⟨nd, rfl⟩⟩)
              have y0 : wr.cell? ⟨w.heap.size, 0, none⟩ = some (.int .i64 0) := (blk_cell HX.out 0).trans rfl
              have y1 : wr.cell? ⟨w.heap.size, 1, none⟩ = some (.int .i64 0) := (blk_cell HX.out 1).trans rfl
              have f0 : wr.frozen? ⟨w.heap.size, 0, none⟩ = false := blk_frozen HX.out 0
              have f1 : wr.frozen? ⟨w.heap.size, 1, none⟩ = false := blk_frozen HX.out 1
              have E := Aside0.mk (blk_put (cs' := #[.int .i64 (wrap64 (Int.tdiv ov c)), .int .i64 (wrap64 (Int.tdiv e c))]) (blk_put (cs' := #[.int .i64 (wrap64 (Int.tdiv ov c)), .int .i64 0]) HX.out 0 (.int .i64 (wrap64 (Int.tdiv ov c))) rfl) 1 (.int .i64 (wrap64 (Int.tdiv e c))) rfl)
              go_region
              all_goals (go_wp2; refine bodyPost_ret (results_cell_row rfl _ _ w.heap.size 94 #[.int .i64 (wrap64 (Int.tdiv ov c)), .int .i64 (wrap64 (Int.tdiv e c))] (0, 0) _ rfl E.out Try.underlying94 rfl (by kernel_rfl)) rfl ⟨rfl, below_set (below_set (pw_below_drewN HB.out _) (Nat.le_refl _)) (Nat.le_refl _)⟩)

/-! ### bits_Mul64: function 106 -/
def bits_Mul64.f (a0 : Int) (a1 : Int) : Option (Int × Int) := some (IntKind.u64.wrap ((IntKind.u64.wrap ((IntKind.u64.wrap ((a0 / 4294967296) * (a1 / 4294967296))) + ((IntKind.u64.wrap ((IntKind.u64.wrap ((a0 / 4294967296) * (Go.bits .and .u64 a1 4294967295))) + ((IntKind.u64.wrap ((Go.bits .and .u64 a0 4294967295) * (Go.bits .and .u64 a1 4294967295))) / 4294967296))) / 4294967296))) + ((IntKind.u64.wrap ((Go.bits .and .u64 (IntKind.u64.wrap ((IntKind.u64.wrap ((a0 / 4294967296) * (Go.bits .and .u64 a1 4294967295))) + ((IntKind.u64.wrap ((Go.bits .and .u64 a0 4294967295) * (Go.bits .and .u64 a1 4294967295))) / 4294967296))) 4294967295) + (IntKind.u64.wrap ((Go.bits .and .u64 a0 4294967295) * (a1 / 4294967296))))) / 4294967296)), IntKind.u64.wrap (a0 * a1))
set_option maxHeartbeats 8000000 in
set_option maxRecDepth 100000 in
theorem bits_Mul64.calls (a0 : Int) (a1 : Int) (r1 : Int) (r2 : Int) (w : World) (h : bits_Mul64.f a0 a1 = some (r1, r2)) :
    Calls Try.prog 106 #[.int .u64 a0, .int .u64 a1] w fun e w' => e = .returned (.tuple #[.int .u64 r1, .int .u64 r2]) ∧ Drawn0 w w' := by
  have H : (some (IntKind.u64.wrap ((IntKind.u64.wrap ((IntKind.u64.wrap ((a0 / 4294967296) * (a1 / 4294967296))) + ((IntKind.u64.wrap ((IntKind.u64.wrap ((a0 / 4294967296) * (Go.bits .and .u64 a1 4294967295))) + ((IntKind.u64.wrap ((Go.bits .and .u64 a0 4294967295) * (Go.bits .and .u64 a1 4294967295))) / 4294967296))) / 4294967296))) + ((IntKind.u64.wrap ((Go.bits .and .u64 (IntKind.u64.wrap ((IntKind.u64.wrap ((a0 / 4294967296) * (Go.bits .and .u64 a1 4294967295))) + ((IntKind.u64.wrap ((Go.bits .and .u64 a0 4294967295) * (Go.bits .and .u64 a1 4294967295))) / 4294967296))) 4294967295) + (IntKind.u64.wrap ((Go.bits .and .u64 a0 4294967295) * (a1 / 4294967296))))) / 4294967296)), IntKind.u64.wrap (a0 * a1))) = some (r1, r2) := h
  clear h
  simp only [Option.some.injEq, Prod.mk.injEq] at H
  obtain ⟨rfl, rfl⟩ := H
  go_enter Try.func106, Try.ntmps106
  go_wp2
  go_ret2
  exact ⟨by first | rfl | (simp; done) | (simp [*]; done) | (exfalso; contradiction), by repeat (first | exact Drawn0.refl _ | apply Drawn0.step)⟩

/-! ### frac_times: function 103 -/
theorem frac_times.mul64 (x y : Int) (hx0 : 0 ≤ x) (hx : x < 18446744073709551616) (hy0 : 0 ≤ y) (hy : y < 18446744073709551616) :
    bits_Mul64.f x y = some (x * y / 18446744073709551616, x * y % 18446744073709551616) := by
  have wr : ∀ z : Int, IntKind.u64.wrap z = z % 18446744073709551616 := fun z => rfl
  have bx0 : 0 ≤ x % 4294967296 := Int.emod_nonneg _ (by decide)
  have bx1 : x % 4294967296 < 4294967296 := Int.emod_lt_of_pos _ (by decide)
  have by0 : 0 ≤ y % 4294967296 := Int.emod_nonneg _ (by decide)
  have by1 : y % 4294967296 < 4294967296 := Int.emod_lt_of_pos _ (by decide)
  have ex : x = 4294967296 * (x / 4294967296) + x % 4294967296 := (Int.mul_ediv_add_emod x 4294967296).symm
  have ey : y = 4294967296 * (y / 4294967296) + y % 4294967296 := (Int.mul_ediv_add_emod y 4294967296).symm
  have cx0 : 0 ≤ x / 4294967296 := by omega
  have cx1 : x / 4294967296 ≤ 4294967295 := by omega
  have cy0 : 0 ≤ y / 4294967296 := by omega
  have cy1 : y / 4294967296 ≤ 4294967295 := by omega
  have hand : ∀ z : Int, 0 ≤ z → z < 18446744073709551616 → Go.bits .and .u64 z 4294967295 = z % 4294967296 := fun z h0 h1 => and_low32 z h0 h1
  have prod : ∀ a b : Int, 0 ≤ a → a ≤ 4294967295 → 0 ≤ b → b ≤ 4294967295 → 0 ≤ a * b ∧ a * b ≤ 18446744065119617025 := by
    intro a b h0 h1 h2 h3
    refine ⟨Int.mul_nonneg h0 h2, ?_⟩
    have := Int.mul_le_mul h1 h3 h2 (show (0 : Int) ≤ 4294967295 by decide)
    omega
  unfold bits_Mul64.f
  rw [hand x hx0 hx, hand y hy0 hy]
  have p11 := prod _ _ cx0 cx1 cy0 cy1
  have p10 := prod _ _ cx0 cx1 by0 (by omega)
  have p01 := prod _ _ bx0 (by omega) cy0 cy1
  have p00 := prod _ _ bx0 (by omega) by0 (by omega)
  have exy : x * y = 18446744073709551616 * (x / 4294967296 * (y / 4294967296)) + 4294967296 * (x / 4294967296 * (y % 4294967296)) + 4294967296 * (x % 4294967296 * (y / 4294967296)) + x % 4294967296 * (y % 4294967296) := by
    generalize x / 4294967296 = x1 at *
    generalize x % 4294967296 = x0 at *
    generalize y / 4294967296 = y1 at *
    generalize y % 4294967296 = y0 at *
    subst ex
    subst ey
    grind
  generalize x / 4294967296 * (y / 4294967296) = a11 at *
  generalize x / 4294967296 * (y % 4294967296) = a10 at *
  generalize x % 4294967296 * (y / 4294967296) = a01 at *
  generalize x % 4294967296 * (y % 4294967296) = a00 at *
  rw [exy]
  simp only [wr]
  clear exy ex ey wr prod
  have e1 : a00 % 18446744073709551616 = a00 := by omega
  have e2 : a10 % 18446744073709551616 = a10 := by omega
  have e3 : a01 % 18446744073709551616 = a01 := by omega
  have e4 : a11 % 18446744073709551616 = a11 := by omega
  rw [e1, e2, e3, e4]
  have e5 : (a10 + a00 / 4294967296) % 18446744073709551616 = a10 + a00 / 4294967296 := by omega
  rw [e5, hand _ (by omega) (by omega)]
  have e6 : ((a10 + a00 / 4294967296) % 4294967296 + a01) % 18446744073709551616 = (a10 + a00 / 4294967296) % 4294967296 + a01 := by omega
  rw [e6]
  clear hand e1 e2 e3 e4 e5 e6
  congr 2
  omega
set_option maxHeartbeats 8000000 in
set_option maxRecDepth 100000 in
theorem frac_times.calls (a b : Int) (w : World) (ha0 : 0 ≤ a) (ha : a ≤ 4611686018427387904) (hb0 : 0 ≤ b) (hb : b ≤ 4611686018427387904) :
    Calls Try.prog 103 #[.int .i64 a, .int .i64 b] w fun e w' => e = .returned (.agg #[.int .u64 (a * b / 18446744073709551616), .int .u64 (a * b % 18446744073709551616)]) ∧ Below w.heap.size w w' := by
  have hm := frac_times.mul64 a b ha0 (by omega) hb0 (by omega)
  generalize a * b / 18446744073709551616 = hi at *
  generalize a * b % 18446744073709551616 = lo at *
  have A1 := Aside0.mk hm
  clear hm
  go_enter Try.func103, Try.ntmps103
  go_wp2_with (go_at_call 106; (with_reducible refine (bits_Mul64.calls a b hi lo _ A1.out).mono ?_); rintro e w' ⟨rfl, ⟨nd, rfl⟩⟩)
  refine bodyPost_ret (v := .agg #[.int .u64 hi, .int .u64 lo]) (by simp [results, Try.results103, go_sem]) rfl ⟨rfl, ?_⟩
  repeat (first | exact Below.refl _ _ | apply below_alloc | apply pw_below_drewN | apply below_drew1 | refine below_set ?_ (Nat.le_refl _))

/-! ### cmp_isNaN_uint64: function 108 -/
def cmp_isNaN_uint64.f (a0 : Int) : Option (Bool) := some (a0 != a0)
set_option maxHeartbeats 8000000 in
set_option maxRecDepth 100000 in
theorem cmp_isNaN_uint64.calls (a0 : Int) (r : Bool) (w : World) (h : cmp_isNaN_uint64.f a0 = some r) :
    Calls Try.prog 108 #[.int .u64 a0] w fun e w' => e = .returned (.bool r) ∧ Drawn0 w w' := by
  have H : (some (a0 != a0)) = some r := h
  clear h
  obtain rfl := Option.some.inj H
  go_enter Try.func108, Try.ntmps108
  go_wp2
  go_ret
  exact ⟨by first | rfl | (simp; done) | (simp [*]; done) | (exfalso; contradiction), by repeat (first | exact Drawn0.refl _ | apply Drawn0.step)⟩

/-! ### cmp_Compare_uint64: function 107 -/
def cmp_Compare_uint64.f (a0 : Int) (a1 : Int) : Option (Int) := (cmp_isNaN_uint64.f a0).bind fun t192 => ((cmp_isNaN_uint64.f a1).bind fun t193 => (if t192 = true then (if t193 = true then (some 0) else (some (-1))) else (if t193 = true then (some 1) else (if a0 < a1 then (some (-1)) else (if a0 > a1 then (some 1) else (some 0))))))
set_option maxHeartbeats 8000000 in
set_option maxRecDepth 100000 in
theorem cmp_Compare_uint64.calls (a0 : Int) (a1 : Int) (r : Int) (w : World) (h : cmp_Compare_uint64.f a0 a1 = some r) :
    Calls Try.prog 107 #[.int .u64 a0, .int .u64 a1] w fun e w' => e = .returned (.int .i64 r) ∧ Drawn0 w w' := by
  have H : ((cmp_isNaN_uint64.f a0).bind fun t192 => ((cmp_isNaN_uint64.f a1).bind fun t193 => (if t192 = true then (if t193 = true then (some 0) else (some (-1))) else (if t193 = true then (some 1) else (if a0 < a1 then (some (-1)) else (if a0 > a1 then (some 1) else (some 0))))))) = some r := h
  clear h
  replace H := Option.bind_eq_some_iff.mp H
  obtain ⟨t192, A30, H⟩ := H
  try dsimp only at H
  have A3 := Aside0.mk A30
  clear A30
  replace H := Option.bind_eq_some_iff.mp H
  obtain ⟨t193, A40, H⟩ := H
  try dsimp only at H
  have A4 := Aside0.mk A40
  clear A40
  by_cases c5 : t192 = true
  · subst c5
    rw [if_pos rfl] at H
    by_cases c6 : t193 = true
    · subst c6
      rw [if_pos rfl] at H
      obtain rfl := Option.some.inj H
      go_enter Try.func107, Try.ntmps107
      go_wp2_with (first | ((with_reducible refine gate_callee (f := 108) rfl ?_); refine goesL_ (some 8) rfl rfl Try.func108 (by kernel_rfl) rfl #[.int .u64 a0] rfl (by (try simp only [List.map_toArray, List.map_cons, List.map_nil]); first | done | rfl | (simp only [List.length_drop, List.length_take]; rfl)) ?_; (with_reducible refine (cmp_isNaN_uint64.calls a0 true _ A3.out).mono ?_); rintro e w' ⟨rfl, ⟨nd, rfl⟩⟩; refine ⟨_, rfl, ?_⟩) | ((with_reducible refine gate_callee (f := 108) rfl ?_); refine goesL_ (some 10) rfl rfl Try.func108 (by kernel_rfl) rfl #[.int .u64 a1] rfl (by (try simp only [List.map_toArray, List.map_cons, List.map_nil]); first | done | rfl | (simp only [List.length_drop, List.length_take]; rfl)) ?_; (with_reducible refine (cmp_isNaN_uint64.calls a1 true _ A4.out).mono ?_); rintro e w' ⟨rfl, ⟨nd, rfl⟩⟩; refine ⟨_, rfl, ?_⟩))
      go_ret
      exact ⟨by first | rfl | (simp; done) | (simp [*]; done) | (exfalso; contradiction), by repeat (first | exact Drawn0.refl _ | apply Drawn0.step)⟩
    · replace c6 := Bool.eq_false_iff.mpr c6
      subst c6
      rw [if_neg (show ¬ (false = true) by decide)] at H
      obtain rfl := Option.some.inj H
      go_enter Try.func107, Try.ntmps107
      go_wp2_with (first | ((with_reducible refine gate_callee (f := 108) rfl ?_); refine goesL_ (some 8) rfl rfl Try.func108 (by kernel_rfl) rfl #[.int .u64 a0] rfl (by (try simp only [List.map_toArray, List.map_cons, List.map_nil]); first | done | rfl | (simp only [List.length_drop, List.length_take]; rfl)) ?_; (with_reducible refine (cmp_isNaN_uint64.calls a0 true _ A3.out).mono ?_); rintro e w' ⟨rfl, ⟨nd, rfl⟩⟩; refine ⟨_, rfl, ?_⟩) | ((with_reducible refine gate_callee (f := 108) rfl ?_); refine goesL_ (some 10) rfl rfl Try.func108 (by kernel_rfl) rfl #[.int .u64 a1] rfl (by (try simp only [List.map_toArray, List.map_cons, List.map_nil]); first | done | rfl | (simp only [List.length_drop, List.length_take]; rfl)) ?_; (with_reducible refine (cmp_isNaN_uint64.calls a1 false _ A4.out).mono ?_); rintro e w' ⟨rfl, ⟨nd, rfl⟩⟩; refine ⟨_, rfl, ?_⟩))
      go_ret
      exact ⟨by first | rfl | (simp; done) | (simp [*]; done) | (exfalso; contradiction), by repeat (first | exact Drawn0.refl _ | apply Drawn0.step)⟩
  · replace c5 := Bool.eq_false_iff.mpr c5
    subst c5
    rw [if_neg (show ¬ (false = true) by decide)] at H
    by_cases c7 : t193 = true
    · subst c7
      rw [if_pos rfl] at H
      obtain rfl := Option.some.inj H
      go_enter Try.func107, Try.ntmps107
      go_wp2_with (first | ((with_reducible refine gate_callee (f := 108) rfl ?_); refine goesL_ (some 8) rfl rfl Try.func108 (by kernel_rfl) rfl #[.int .u64 a0] rfl (by (try simp only [List.map_toArray, List.map_cons, List.map_nil]); first | done | rfl | (simp only [List.length_drop, List.length_take]; rfl)) ?_; (with_reducible refine (cmp_isNaN_uint64.calls a0 false _ A3.out).mono ?_); rintro e w' ⟨rfl, ⟨nd, rfl⟩⟩; refine ⟨_, rfl, ?_⟩) | ((with_reducible refine gate_callee (f := 108) rfl ?_); refine goesL_ (some 10) rfl rfl Try.func108 (by kernel_rfl) rfl #[.int .u64 a1] rfl (by (try simp only [List.map_toArray, List.map_cons, List.map_nil]); first | done | rfl | (simp only [List.length_drop, List.length_take]; rfl)) ?_; (with_reducible refine (cmp_isNaN_uint64.calls a1 true _ A4.out).mono ?_); rintro e w' ⟨rfl, ⟨nd, rfl⟩⟩; refine ⟨_, rfl, ?_⟩))
      go_ret
      exact ⟨by first | rfl | (simp; done) | (simp [*]; done) | (exfalso; contradiction), by repeat (first | exact Drawn0.refl _ | apply Drawn0.step)⟩
    · replace c7 := Bool.eq_false_iff.mpr c7
      subst c7
      rw [if_neg (show ¬ (false = true) by decide)] at H
      by_cases c8 : a0 < a1
      · rw [if_pos c8] at H
        have c8b0 : decide (a0 < a1) = true := decide_eq_true c8
        clear c8
        obtain rfl := Option.some.inj H
        go_enter Try.func107, Try.ntmps107
        go_wp2_with (first | ((with_reducible refine gate_callee (f := 108) rfl ?_); refine goesL_ (some 8) rfl rfl Try.func108 (by kernel_rfl) rfl #[.int .u64 a0] rfl (by (try simp only [List.map_toArray, List.map_cons, List.map_nil]); first | done | rfl | (simp only [List.length_drop, List.length_take]; rfl)) ?_; (with_reducible refine (cmp_isNaN_uint64.calls a0 false _ A3.out).mono ?_); rintro e w' ⟨rfl, ⟨nd, rfl⟩⟩; refine ⟨_, rfl, ?_⟩) | ((with_reducible refine gate_callee (f := 108) rfl ?_); refine goesL_ (some 10) rfl rfl Try.func108 (by kernel_rfl) rfl #[.int .u64 a1] rfl (by (try simp only [List.map_toArray, List.map_cons, List.map_nil]); first | done | rfl | (simp only [List.length_drop, List.length_take]; rfl)) ?_; (with_reducible refine (cmp_isNaN_uint64.calls a1 false _ A4.out).mono ?_); rintro e w' ⟨rfl, ⟨nd, rfl⟩⟩; refine ⟨_, rfl, ?_⟩))
        go_ret
        exact ⟨by first | rfl | (simp; done) | (simp [*]; done) | (exfalso; contradiction), by repeat (first | exact Drawn0.refl _ | apply Drawn0.step)⟩
      · rw [if_neg c8] at H
        have c8b0 : decide (a0 < a1) = false := decide_eq_false c8
        clear c8
        by_cases c9 : a0 > a1
        · rw [if_pos c9] at H
          have c9b0 : decide (a1 < a0) = true := decide_eq_true c9
          clear c9
          obtain rfl := Option.some.inj H
          go_enter Try.func107, Try.ntmps107
          go_wp2_with (first | ((with_reducible refine gate_callee (f := 108) rfl ?_); refine goesL_ (some 8) rfl rfl Try.func108 (by kernel_rfl) rfl #[.int .u64 a0] rfl (by (try simp only [List.map_toArray, List.map_cons, List.map_nil]); first | done | rfl | (simp only [List.length_drop, List.length_take]; rfl)) ?_; (with_reducible refine (cmp_isNaN_uint64.calls a0 false _ A3.out).mono ?_); rintro e w' ⟨rfl, ⟨nd, rfl⟩⟩; refine ⟨_, rfl, ?_⟩) | ((with_reducible refine gate_callee (f := 108) rfl ?_); refine goesL_ (some 10) rfl rfl Try.func108 (by kernel_rfl) rfl #[.int .u64 a1] rfl (by (try simp only [List.map_toArray, List.map_cons, List.map_nil]); first | done | rfl | (simp only [List.length_drop, List.length_take]; rfl)) ?_; (with_reducible refine (cmp_isNaN_uint64.calls a1 false _ A4.out).mono ?_); rintro e w' ⟨rfl, ⟨nd, rfl⟩⟩; refine ⟨_, rfl, ?_⟩))
          go_ret
          exact ⟨by first | rfl | (simp; done) | (simp [*]; done) | (exfalso; contradiction), by repeat (first | exact Drawn0.refl _ | apply Drawn0.step)⟩
        · rw [if_neg c9] at H
          have c9b0 : decide (a1 < a0) = false := decide_eq_false c9
          clear c9
          obtain rfl := Option.some.inj H
          go_enter Try.func107, Try.ntmps107
          go_wp2_with (first | ((with_reducible refine gate_callee (f := 108) rfl ?_); refine goesL_ (some 8) rfl rfl Try.func108 (by kernel_rfl) rfl #[.int .u64 a0] rfl (by (try simp only [List.map_toArray, List.map_cons, List.map_nil]); first | done | rfl | (simp only [List.length_drop, List.length_take]; rfl)) ?_; (with_reducible refine (cmp_isNaN_uint64.calls a0 false _ A3.out).mono ?_); rintro e w' ⟨rfl, ⟨nd, rfl⟩⟩; refine ⟨_, rfl, ?_⟩) | ((with_reducible refine gate_callee (f := 108) rfl ?_); refine goesL_ (some 10) rfl rfl Try.func108 (by kernel_rfl) rfl #[.int .u64 a1] rfl (by (try simp only [List.map_toArray, List.map_cons, List.map_nil]); first | done | rfl | (simp only [List.length_drop, List.length_take]; rfl)) ?_; (with_reducible refine (cmp_isNaN_uint64.calls a1 false _ A4.out).mono ?_); rintro e w' ⟨rfl, ⟨nd, rfl⟩⟩; refine ⟨_, rfl, ?_⟩))
          go_ret
          exact ⟨by first | rfl | (simp; done) | (simp [*]; done) | (exfalso; contradiction), by repeat (first | exact Drawn0.refl _ | apply Drawn0.step)⟩

end Go.Proofs.Ytaejikbfnlihmaa.P
