-- Written by a program of this session (hprint.py), out of the translation; functions that the print does not take are given by hand.
import Derived.Test.YtngledpkoeioiaaPx0
import Derived.Test.YtngledpkoeioiaaPx2
namespace Go.Proofs.Ytngledpkoeioiaa.P
open Go.RowKit Go.Proofs.YtngledpkoeioiaaM Go.Proofs.YtngledpkoeioiaaW.PrintWords Go.Proofs.YtngledpkoeioiaaW.PrintLast Go.Proofs.YtngledpkoeioiaaW.PrintMore
attribute [local go_sem] max2_int min2_int max_two min_two max_three min_three max_four min_four   -- for this text's walks alone
set_option linter.unusedVariables false
set_option linter.unusedSimpArgs false

/-! ### period_list: function 48 -/
def period_list.num (a0 a1 a2 : Int) : Nat := ((a2 - a0) / a1 + 1).toNat
def period_list.nums (a0 a1 : Int) (m : Nat) : List Int := (List.range m).map fun (i : Nat) => a0 + (i : Int) * a1
theorem period_list.nums_succ (a0 a1 : Int) (m : Nat) : period_list.nums a0 a1 (m + 1) = period_list.nums a0 a1 m ++ [a0 + (m : Int) * a1] := by
  unfold period_list.nums; rw [List.range_succ, List.map_append]; rfl
theorem period_list.nums_len (a0 a1 : Int) (m : Nat) : (period_list.nums a0 a1 m).length = m := by unfold period_list.nums; simp
theorem period_list.le_iff {a0 a1 a2 : Int} (h : 1 ≤ a1) (k : Nat) : a0 + (k : Int) * a1 ≤ a2 ↔ k < period_list.num a0 a1 a2 := by
  unfold period_list.num
  have := Int.le_ediv_iff_mul_le (a := (k : Int)) (b := a2 - a0) (c := a1) (by omega)
  constructor
  · intro q
    have := this.2 (by omega)
    omega
  · intro q
    have := this.1 (by omega)
    omega
theorem period_list.num_nil : period_list.nums 0 1 0 = [] := rfl
def period_list.f (a0_0 : Int) (a0_1 : Int) (a0_2 : Int) : Option (List Int) :=
  if 1 ≤ a0_1 ∧ 0 ≤ a0_0 ∧ a0_0 ≤ 2199023255552 ∧ a0_1 ≤ 2199023255552 ∧ a0_2 ≤ 2199023255552 ∧ (period_list.num a0_0 a0_1 a0_2 : Nat) ≤ 10000 then some (period_list.nums a0_0 a0_1 (period_list.num a0_0 a0_1 a0_2)) else none
section

attribute [local go_sem] Oper.semAt_some
def period_list.Kp (n₀ Bn : Nat) (W W' : World) : Prop := Below n₀ W W' ∧ ∀ cs, W.heap[Bn]? = some (.cells cs 72 (0, 0)) → W'.heap[Bn]? = some (.cells cs 72 (0, 0))
theorem period_list.Kp_t {n₀ Bn : Nat} {A B C : World} (h : period_list.Kp n₀ Bn A B) (k : period_list.Kp n₀ Bn B C) : period_list.Kp n₀ Bn A C := ⟨h.1.trans k.1, fun cs q => k.2 cs (h.2 cs q)⟩
theorem period_list.Kp_b {n₀ Bn : Nat} {w : World} (hn : n₀ ≤ w.heap.size) (W : World) (l : Nat) (o o' : Obj) (hl : w.heap.size ≤ l) (h : W.heap[l]? = some o) (hc : o.isCells = false) (hw : o.isWalk = false) : period_list.Kp n₀ Bn W (W.putObj l o') :=
  ⟨belowK_b hn W l o o' hl h hc hw, fun cs q => by
    have : Bn ≠ l := fun e => by subst e; rw [q] at h; cases h; cases hc
    exact (World.putObj_heap_other this).trans q⟩
set_option maxRecDepth 100000 in
set_option maxHeartbeats 4000000 in
/-- The iterator: for every body that keeps the numbers. -/
theorem period_list.each1_in (F : Fence) (n : Nat) (h6 : F.fn 62) (hro : F.round = none) (hn : 1 ≤ n) (l Bn n₀ : Nat) (a0 a1 a2 : Int) (h1 : 1 ≤ a1) (h2 : 0 ≤ a0) (h3 : a0 ≤ 2199023255552) (h4 : a1 ≤ 2199023255552) (h5 : a2 ≤ 2199023255552) (J Jx : List Int → World → Prop)
    (hY : ∀ pre x W, J pre W → pre.length < period_list.num a0 a1 a2 → YieldAt F (n - 1) Try.prog l #[.int .i64 x] W fun e W' =>
      (e = .returned (.bool true) ∧ J (pre ++ [x]) W' ∧ period_list.Kp n₀ Bn W W') ∨ (e = .returned (.bool false) ∧ Jx (pre ++ [x]) W'))
    (W : World) (hBn : W.heap[Bn]? = some (.cells #[.int .i64 a0, .int .i64 a1, .int .i64 a2] 72 (0, 0))) (h0 : J [] W) :
    CallsIn F n Try.prog 62 #[.func (.yield l) #[] #[], .pointer (some ⟨Bn, 0, none⟩)] W fun e W' => (∃ v, e = .returned v) ∧
      ((∃ ys, ys = period_list.nums a0 a1 (period_list.num a0 a1 a2) ∧ J ys W') ∨ (∃ pre, True ∧ Jx pre W')) := by
  have hB := Aside0.mk hBn
  have c0 : W.cell? ⟨Bn, 0, none⟩ = some (.int .i64 a0) := (blk_cell hBn 0).trans rfl
  have c1 : W.cell? ⟨Bn, 1, none⟩ = some (.int .i64 a1) := (blk_cell hBn 1).trans rfl
  have c2 : W.cell? ⟨Bn, 2, none⟩ = some (.int .i64 a2) := (blk_cell hBn 2).trans rfl
  have hu := Try.underlying72
  clear hBn
  refine callsIn_of_wp Try.func62 rfl h6 ?_ hro
  simp only [Try.ntmps62, List.size_toArray, List.length_cons, List.length_nil, Nat.reduceAdd, Nat.reduceSub, Array.replicate_succ, Array.replicate_zero, List.push_toArray, List.append_toArray, List.nil_append, List.cons_append]
  gi_wp2
  clear c0 c1 c2
  gi_loopw [3] (fun p wr => ∃ (k : Nat) (x : Int), p = .int .i64 x ∧ Aside0 (x = a0 + (k : Int) * a1 ∧ k ≤ period_list.num a0 a1 a2 ∧ J (period_list.nums a0 a1 k) wr ∧ wr.heap[Bn]? = some (.cells #[.int .i64 a0, .int .i64 a1, .int .i64 a2] 72 (0, 0))))
    (fun p _ => (a2 + a1 - intOf p).toNat)
  case atStart =>
    exact ⟨0, a0, rfl, ⟨by simp, by omega, h0, hB.out⟩⟩
  case round =>
    obtain ⟨k, x, rfl, G⟩ := hrel
    have hb := Aside0.mk G.out.2.2.2
    have c0 : wr.cell? ⟨Bn, 0, none⟩ = some (.int .i64 a0) := (blk_cell hb.out 0).trans rfl
    have c1 : wr.cell? ⟨Bn, 1, none⟩ = some (.int .i64 a1) := (blk_cell hb.out 1).trans rfl
    have c2 : wr.cell? ⟨Bn, 2, none⟩ = some (.int .i64 a2) := (blk_cell hb.out 2).trans rfl
    have hle := period_list.le_iff (a0 := a0) (a2 := a2) h1 k
    rw [← G.out.1] at hle
    by_cases c : x ≤ a2
    · have hk : k < period_list.num a0 a1 a2 := hle.1 c
      obtain ⟨fn, tmps, assign, body, hy, hR⟩ := hY _ x wr G.out.2.2.1 (by rw [period_list.nums_len]; exact hk)
      have hx0 : 0 ≤ x := by
        have := Int.mul_nonneg (Int.natCast_nonneg k) (show 0 ≤ a1 by omega)
        have := G.out.1
        omega
      have hns := Aside0.mk (show period_list.nums a0 a1 k ++ [x] = period_list.nums a0 a1 (k + 1) by rw [period_list.nums_succ, G.out.1])
      have hxs := Aside0.mk (show x + a1 = a0 + ((k + 1 : Nat) : Int) * a1 by rw [G.out.1, Int.natCast_add, Int.add_mul]; omega)
      have HK := Aside0.mk hk
      clear hle hk G
      gi_wp2
      refine hR.mono ?_
      rintro e W3 (⟨rfl, hJ3, hk3⟩ | ⟨rfl, hJx3⟩)
      · have hb3 := Aside0.mk (hk3.2 _ hb.out)
        have HJ3 := Aside0.mk hJ3
        clear hk3 hJ3 c0 c1 c2
        have c0 : W3.cell? ⟨Bn, 0, none⟩ = some (.int .i64 a0) := (blk_cell hb3.out 0).trans rfl
        have c1 : W3.cell? ⟨Bn, 1, none⟩ = some (.int .i64 a1) := (blk_cell hb3.out 1).trans rfl
        have c2 : W3.cell? ⟨Bn, 2, none⟩ = some (.int .i64 a2) := (blk_cell hb3.out 2).trans rfl
        gi_wp2
        go_roundw
        case rel => exact ⟨k + 1, x + a1, rfl, ⟨hxs.out, HK.out, by rw [← hns.out]; exact HJ3.out, hb3.out⟩⟩
        case measure => simp [intOf]; omega
      · have HJ3 := Aside0.mk hJx3
        clear hJx3
        gi_wp2
        go_end0
        exact ⟨⟨_, rfl⟩, .inr ⟨_, trivial, HJ3.out⟩⟩
    · have hk : k = period_list.num a0 a1 a2 := by
        have := G.out.2.1
        have : ¬ k < period_list.num a0 a1 a2 := fun q => c (hle.2 q)
        omega
      have d1 : decide (x ≤ a2) = false := decide_eq_false c
      have HJ := Aside0.mk (show J (period_list.nums a0 a1 (period_list.num a0 a1 a2)) wr by rw [← hk]; exact G.out.2.2.1)
      clear hle hk G c
      gi_wp2
      all_goals
        refine ⟨fun _ h => (by cases h), ?_⟩
        gi_wp2
        go_end0
        exact ⟨⟨_, rfl⟩, .inl ⟨_, rfl, HJ.out⟩⟩
set_option maxHeartbeats 1000000 in
/-- The function that hands back the iterator. -/
theorem period_list.each_in (F : Fence) (n : Nat) (h5 : F.fn 60) (hro : F.round = none) (a0 a1 a2 : Int) (w : World) :
    CallsIn F n Try.prog 60 #[.agg #[.int .i64 a0, .int .i64 a1, .int .i64 a2]] w fun e w' => e = .returned (.func (.func 62) #[] #[.pointer (some ⟨w.heap.size, 0, none⟩)]) ∧ w' = w.alloc (.cells #[.int .i64 a0, .int .i64 a1, .int .i64 a2] 72) := by
  have hu := Try.underlying72
  have hmf : ∀ (fn : Fn) (first cap : Array Value) (w : World), (Instr.makeFunc fn first cap).run Try.prog w = .ok (.func fn first cap) w := fun _ _ _ _ => rfl
  refine callsIn_of_wp Try.func60 rfl h5 ?_ hro
  simp only [Try.ntmps60, List.size_toArray, List.length_cons, List.length_nil, Nat.reduceAdd, Nat.reduceSub, Array.replicate_succ, Array.replicate_zero, List.push_toArray, List.append_toArray, List.nil_append, List.cons_append]
  gi_wp2
  go_ret
  exact ⟨rfl, rfl⟩
theorem period_list.stops (F : Fence) (n : Nat) (h6 : F.fn 62) (hro : F.round = none) (hn : 1 ≤ n) (Bn n₀ : Nat) (a0 a1 a2 : Int) (h1 : 1 ≤ a1) (h2 : 0 ≤ a0) (h3 : a0 ≤ 2199023255552) (h4 : a1 ≤ 2199023255552) (h5 : a2 ≤ 2199023255552) (w : World) (hBn : Bn < w.heap.size)
    (hc : w.heap[Bn]? = some (.cells #[.int .i64 a0, .int .i64 a1, .int .i64 a2] 72 (0, 0))) :
    SeqStopsK F n Try.prog 62 #[.pointer (some ⟨Bn, 0, none⟩)] (fun x : Int => #[Value.int .i64 x]) (period_list.Kp n₀ Bn) (fun ys => ys = period_list.nums a0 a1 (period_list.num a0 a1 a2)) (fun _ => True) (period_list.num a0 a1 a2) w := fun l J Jx W hW _ _ hY h0 =>
  period_list.each1_in F n h6 hro hn l Bn n₀ a0 a1 a2 h1 h2 h3 h4 h5 J Jx hY W (blk_below hc hW) h0
set_option maxRecDepth 100000 in
set_option maxHeartbeats 4000000 in
theorem period_list.list_in (F : Fence) (n : Nat) (h3 : F.fn 48) (h4 : F.fn 60) (h5 : F.fn 62) (hro : F.round = none) (hn : 3 ≤ n) (a0 a1 a2 : Int) (g1 : 1 ≤ a1) (g2 : 0 ≤ a0) (g3 : a0 ≤ 2199023255552) (g4 : a1 ≤ 2199023255552) (g5 : a2 ≤ 2199023255552) (g6 : period_list.num a0 a1 a2 ≤ 10000) (w : World) :
    CallsIn F n Try.prog 48 #[.agg #[.int .i64 a0, .int .i64 a1, .int .i64 a2]] w fun e W' => ∃ v, e = .returned v ∧ W'.ownsRow w.heap.size 3 1 v (period_list.nums a0 a1 (period_list.num a0 a1 a2)).length ((period_list.nums a0 a1 (period_list.num a0 a1 a2)).map (Value.int .i64)) ∧ Below w.heap.size w W' := by
  have h1 : 1 ≤ n := by omega
  have hu := Try.underlying72
  have inf : (Try.prog.info? 3).map (fun i => (i.zero, i.size, i.bytes)) = some (some (.int .i64 0), 1, 8) := by kernel_rfl
  obtain ⟨i0, hi, hz0, hz1, hz2⟩ := info_parts inf
  clear inf
  refine callsIn_of_wp_marks Try.func48 rfl h3 ?_ hro
  simp only [Try.ntmps48, List.size_toArray, List.length_cons, List.length_nil, Nat.reduceAdd, Nat.reduceSub, Array.replicate_succ, Array.replicate_zero, List.push_toArray, List.append_toArray, List.nil_append, List.cons_append]
  gi_wp2_with fail
  refine (period_list.each_in F (n - 1) h4 hro a0 a1 a2 _).mono ?_
  rintro e w' ⟨rfl, rfl⟩
  gi_wp2_with fail
  have bO := Boxed.new (w.alloc (.cells #[.int .i64 a0, .int .i64 a1, .int .i64 a2] 72)) 43 (.slice none 0 0)
  rw [World.size_alloc] at bO
  have hbn := blk_new ((w.alloc (.cells #[.int .i64 a0, .int .i64 a1, .int .i64 a2] 72)).alloc (.cells #[.slice none 0 0] 43)) (.cells #[.int .i64 a0, .int .i64 a1, .int .i64 a2] 72)
  rw [World.size_alloc, World.size_alloc] at hbn
  have hB0 : Below w.heap.size w (((w.alloc (.cells #[.int .i64 a0, .int .i64 a1, .int .i64 a2] 72)).alloc (.cells #[.slice none 0 0] 43)).alloc (.cells #[.int .i64 a0, .int .i64 a1, .int .i64 a2] 72)) := below_alloc (below_alloc (below_alloc (Below.refl _ w) _) _) _
  refine wpIn_rangeFunc_ownG hro h1 (gf := 62) (lb := #[.pointer (some ⟨w.heap.size + 1 + 1, 0, none⟩)]) rfl h5 (Go.Proofs.enters_of Try.func62 (by kernel_rfl) rfl)
    (period_list.stops F (n - 1) h5 hro (by omega) (w.heap.size + 1 + 1) w.heap.size a0 a1 a2 g1 g2 g3 g4 g5 _ (by simp) hbn) period_list.Kp_t (period_list.Kp_b (by simp; omega)) (Below.refl _ _) (fun _ => rfl)
    (fun pre W => (∃ v, Boxed W (w.heap.size + 1) 43 v ∧ W.ownsRow w.heap.size 3 1 v pre.length (pre.map (Value.int .i64)) ∧ True) ∧ Below w.heap.size w W)
    (fun _ _ _ => False)
    (OwnFrom.and (Own.from (holdsRow_own w.heap.size (w.heap.size + 1) 43 3 1 (fun (pre : List Int) => pre.length) (fun (pre : List Int) => pre.map (Value.int .i64)) (fun pre v => True)) _) (ownFrom_below (Nat.le_refl _) (by simp; omega)))
    (fun _ _ _ _ _ hs _ _ => hs)
    ⟨⟨_, bO.alloc _, World.ownsRow_nil _ _ _ _, trivial⟩, hB0⟩
    (fun x => { tmps := #[.agg #[.int .i64 a0, .int .i64 a1, .int .i64 a2], .pointer (some ⟨w.heap.size, 0, none⟩), .slice none 0 0, .func (.func 60) #[] #[], .pointer (some ⟨w.heap.size + 1, 0, none⟩), .int .i64 x, .func (.func 60) #[] #[], .agg #[.int .i64 a0, .int .i64 a1, .int .i64 a2], .func (.func 62) #[] #[.pointer (some ⟨w.heap.size + 1 + 1, 0, none⟩)], .int .i64 x, undef, undef, undef, undef, undef], defers := [] }) ?assign ?body ?done ?stop
  case assign =>
    intro l x W K hK
    gi_wp2
    exact hK
  case body =>
    rintro l pre x W ⟨⟨v, hv, hrow, _⟩, hB⟩ hlt
    have hc := hv.cell
    have hpl : pre.length ≤ 10000 := by omega
    gi_wp2_with (gi_at_builtin; refine wpListIn_append_own _ rfl _ _ 43 rfl w.heap.size 3 i0 (.int .i64 0) 1 8 Try.underlying43 hi hz0 hz1 hz2 rfl (by decide) _ _ _ rfl (hrow.alloc _) ⟨W.heap.size, 0, none⟩ 1 1 [.int .i64 x] rfl rfl (cell_one_new _ _ _) (by simp [Value.oneCell']) (by unfold maxLen; omega) (by omega) (by have := hB.size; simp; omega) ?_; intro v' w1 hown' hgrow _; obtain ⟨g', cap', rfl⟩ := ownsRow_succ hown'; obtain ⟨hv1, hv2, hr2, hk2, hb2⟩ := hv.appended (by decide) hrow hB.size (by omega) hown' hgrow; have hc1 := hv1.cell; have hf1 := hv1.frozen)
    refine ⟨hk2.from _, ⟨hb2, fun cs q => ?_⟩, ⟨⟨_, hv2, by simpa using hr2, trivial⟩, hB.trans hb2⟩⟩
    exact blk_far (blk_grown (blk_alloc q _) hgrow (own_ne hrow q (by decide))) (by simp) _
  case done =>
    rintro D ys W hD rfl ⟨⟨v, hv, hrow, _⟩, hB⟩ hK
    have hc := hv.cell
    gi_wp2
    refine ⟨by simp, .inl ⟨_, _, rfl, run_takeDeferred hK, ?_⟩⟩
    exact ⟨_, results_tmp rfl _ _ _, v, rfl, ownsRow_putObj hrow _ hK rfl, hB.trans (belowK_b (w := w) (Nat.le_refl _) W D _ _ (by simp at hD; omega) hK rfl rfl)⟩
  case stop =>
    rintro D c pre W _ _ h _
    exact h.elim
end
theorem period_list.calls (a0_0 : Int) (a0_1 : Int) (a0_2 : Int) (r : List Int) (w : World) (h : period_list.f a0_0 a0_1 a0_2 = some r) :
    Calls Try.prog 48 #[.agg #[.int .i64 a0_0, .int .i64 a0_1, .int .i64 a0_2]] w fun e w' => ∃ v0_ : Value, e = .returned (v0_) ∧ Kd.R (Kd.int .i64) 3 w' w.heap.size (fun _ => True) v0_ r ∧ Below w.heap.size w w' := by
  unfold period_list.f at h
  split at h
  case isTrue c =>
    obtain rfl := Option.some.inj h
    refine (callsIn_wide (n := 3)).1 ?_
    refine (period_list.list_in Fence.wide 3 trivial trivial trivial rfl (by omega) a0_0 a0_1 a0_2 c.1 c.2.1 c.2.2.1 c.2.2.2.1 c.2.2.2.2.1 c.2.2.2.2.2 w).mono ?_
    rintro e w' ⟨v, rfl, ho, hb⟩
    exact ⟨v, rfl, Kd.R_of_own ho (fun _ _ => trivial), hb⟩
  case isFalse c => cases h

/-! ### period_Ends: function 41 -/
def period_Ends.f (a0_0 : Int) (a0_1 : Int) (a0_2 : Int) (a0_3 : Int) (a0_4 : Int) (a0_5 : Int) (a1 : Int) (a2 : Int) (a3 : Int) : Option (List Int) := (units_At.f a0_0 a0_1 a0_2 a0_3 a0_4 a0_5 a1).bind fun t136 => (if t136 = 0 then (some ([] : List Int)) else (if a2 < 0 then (some ([] : List Int)) else (if a2 > a3 then (some ([] : List Int)) else (if a3 > 1099511627776 then (some ([] : List Int)) else (if (wrap64 (a3 - a2)) > 5000 then (some ([] : List Int)) else ((period_list.f (wrap64 (a2 + a1)) a1 a3).bind fun t137 => (some t137)))))))
set_option maxHeartbeats 8000000 in
set_option maxRecDepth 100000 in
theorem period_Ends.calls (a0_0 : Int) (a0_1 : Int) (a0_2 : Int) (a0_3 : Int) (a0_4 : Int) (a0_5 : Int) (a1 : Int) (a2 : Int) (a3 : Int) (r : List Int) (w : World) (h : period_Ends.f a0_0 a0_1 a0_2 a0_3 a0_4 a0_5 a1 a2 a3 = some r) :
    Calls Try.prog 41 #[.agg #[.int .i64 a0_0, .int .i64 a0_1, .int .i64 a0_2, .int .i64 a0_3, .int .i64 a0_4, .int .i64 a0_5], .int .i64 a1, .int .i64 a2, .int .i64 a3] w fun e w' => ∃ v0_ : Value, e = .returned (v0_) ∧ Kd.R (Kd.int .i64) 3 w' w.heap.size (fun _ => True) v0_ r ∧ Below w.heap.size w w' := by
  have hu24 := Try.underlying24
  have hu72 := Try.underlying72
  have HB := Aside0.mk (Below.refl w.heap.size w)
  have H : ((units_At.f a0_0 a0_1 a0_2 a0_3 a0_4 a0_5 a1).bind fun t136 => (if t136 = 0 then (some ([] : List Int)) else (if a2 < 0 then (some ([] : List Int)) else (if a2 > a3 then (some ([] : List Int)) else (if a3 > 1099511627776 then (some ([] : List Int)) else (if (wrap64 (a3 - a2)) > 5000 then (some ([] : List Int)) else ((period_list.f (wrap64 (a2 + a1)) a1 a3).bind fun t137 => (some t137)))))))) = some r := h
  clear h
  replace H := Option.bind_eq_some_iff.mp H
  obtain ⟨t136, A50, H⟩ := H
  try dsimp only at H
  have A5 := Aside0.mk A50
  clear A50
  by_cases c6 : t136 = 0
  · rw [if_pos c6] at H
    have c6b0 : (t136 == 0) = true := beq_iff_eq.mpr c6
    have c6b1 : (t136 != 0) = false := bne_eq_false_iff_eq.mpr c6
    clear c6
    obtain rfl := Option.some.inj H
    go_enter Try.func41, Try.ntmps41
    go_wp2_with (first | ((with_reducible refine gate_dst (N := 4) rfl ?_); refine box_event ?hg (N := 4) ?hd (cs := #[.int .i64 a0_0, .int .i64 a0_1, .int .i64 a0_2, .int .i64 a0_3, .int .i64 a0_4, .int .i64 a0_5]) (t := 24) ?hr ?_; (case hd => rfl); (case hg => rfl); (case hr => first | (go_simp; done) | (go_simp; rfl)); intro gb135 hg w7 hbox hb; have n0_ := bs HB hb; have n1_ := Aside0.mk (hbox); have n2_ := bz HB hg; have n3_ := bz HB hg; clear HB; have HB := n0_; have BK135 := n1_; have GW135 := n2_; have GE135 := n3_; clear n0_ n1_ n2_ n3_; clear hb hbox hg; obtain ⟨hcz8_0, hcz8_1, hcz8_2, hcz8_3, hcz8_4, hcz8_5⟩ := cc6 BK135; obtain ⟨hfz8_0, hfz8_1, hfz8_2, hfz8_3, hfz8_4, hfz8_5⟩ := cf6 BK135) | ((with_reducible refine gate_callee (f := 27) rfl ?_); refine goesL_ (some 11) rfl rfl Try.func27 (by kernel_rfl) rfl #[.agg #[.int .i64 a0_0, .int .i64 a0_1, .int .i64 a0_2, .int .i64 a0_3, .int .i64 a0_4, .int .i64 a0_5], .int .i64 a1] rfl (by (try simp only [List.map_toArray, List.map_cons, List.map_nil]); first | done | rfl | (simp only [List.length_drop, List.length_take]; rfl)) ?_; (with_reducible refine (units_At.calls a0_0 a0_1 a0_2 a0_3 a0_4 a0_5 a1 t136 _ A5.out).mono ?_); rintro e w9 ⟨rfl, hb⟩; refine ⟨_, rfl, ?_⟩; have n0_ := bb BK135 hb; have n1_ := bs HB hb; clear BK135; clear HB; have BK135 := n0_; have HB := n1_; clear n0_ n1_; (try clear hb); (try clear hb2); (try clear hk); (try clear hi)))
    go_ret
    exact ⟨_, by first | rfl | (simp [errW_none, errW_some] <;> rfl) | (simp [*, errW_none, errW_some] <;> rfl) | (exfalso; contradiction), by first | exact Kd.R_nil _ _ _ _ _ | exact Kd.N_nil _ _ _ _ _ | exact Kd.V_nil _ _ _ _ _ | exact Kd.Q_nil _ _ _ _ _ | exact Kd.S_nil _ _ _ _ _, by repeat (first | (with_reducible first | exact HB.out | apply below_alloc | apply pw_below_drewN | apply below_drew1 | refine below_set ?_ GE135.out) | exact HB.out)⟩
  · rw [if_neg c6] at H
    have c6b0 : (t136 == 0) = false := beq_eq_false_iff_ne.mpr c6
    have c6b1 : (t136 != 0) = true := bne_iff_ne.mpr c6
    by_cases c10 : a2 < 0
    · rw [if_pos c10] at H
      have c10b0 : decide (a2 < 0) = true := decide_eq_true c10
      clear c10
      obtain rfl := Option.some.inj H
      go_enter Try.func41, Try.ntmps41
      go_wp2_with (first | ((with_reducible refine gate_dst (N := 4) rfl ?_); refine box_event ?hg (N := 4) ?hd (cs := #[.int .i64 a0_0, .int .i64 a0_1, .int .i64 a0_2, .int .i64 a0_3, .int .i64 a0_4, .int .i64 a0_5]) (t := 24) ?hr ?_; (case hd => rfl); (case hg => rfl); (case hr => first | (go_simp; done) | (go_simp; rfl)); intro gb135 hg w11 hbox hb; have n0_ := bs HB hb; have n1_ := Aside0.mk (hbox); have n2_ := bz HB hg; have n3_ := bz HB hg; clear HB; have HB := n0_; have BK135 := n1_; have GW135 := n2_; have GE135 := n3_; clear n0_ n1_ n2_ n3_; clear hb hbox hg; obtain ⟨hcz12_0, hcz12_1, hcz12_2, hcz12_3, hcz12_4, hcz12_5⟩ := cc6 BK135; obtain ⟨hfz12_0, hfz12_1, hfz12_2, hfz12_3, hfz12_4, hfz12_5⟩ := cf6 BK135) | ((with_reducible refine gate_callee (f := 27) rfl ?_); refine goesL_ (some 11) rfl rfl Try.func27 (by kernel_rfl) rfl #[.agg #[.int .i64 a0_0, .int .i64 a0_1, .int .i64 a0_2, .int .i64 a0_3, .int .i64 a0_4, .int .i64 a0_5], .int .i64 a1] rfl (by (try simp only [List.map_toArray, List.map_cons, List.map_nil]); first | done | rfl | (simp only [List.length_drop, List.length_take]; rfl)) ?_; (with_reducible refine (units_At.calls a0_0 a0_1 a0_2 a0_3 a0_4 a0_5 a1 t136 _ A5.out).mono ?_); rintro e w13 ⟨rfl, hb⟩; refine ⟨_, rfl, ?_⟩; have n0_ := bb BK135 hb; have n1_ := bs HB hb; clear BK135; clear HB; have BK135 := n0_; have HB := n1_; clear n0_ n1_; (try clear hb); (try clear hb2); (try clear hk); (try clear hi)))
      go_ret
      exact ⟨_, by first | rfl | (simp [errW_none, errW_some] <;> rfl) | (simp [*, errW_none, errW_some] <;> rfl) | (exfalso; contradiction), by first | exact Kd.R_nil _ _ _ _ _ | exact Kd.N_nil _ _ _ _ _ | exact Kd.V_nil _ _ _ _ _ | exact Kd.Q_nil _ _ _ _ _ | exact Kd.S_nil _ _ _ _ _, by repeat (first | (with_reducible first | exact HB.out | apply below_alloc | apply pw_below_drewN | apply below_drew1 | refine below_set ?_ GE135.out) | exact HB.out)⟩
    · rw [if_neg c10] at H
      have c10b0 : decide (a2 < 0) = false := decide_eq_false c10
      clear c10
      by_cases c14 : a2 > a3
      · rw [if_pos c14] at H
        have c14b0 : decide (a3 < a2) = true := decide_eq_true c14
        clear c14
        obtain rfl := Option.some.inj H
        go_enter Try.func41, Try.ntmps41
        go_wp2_with (first | ((with_reducible refine gate_dst (N := 4) rfl ?_); refine box_event ?hg (N := 4) ?hd (cs := #[.int .i64 a0_0, .int .i64 a0_1, .int .i64 a0_2, .int .i64 a0_3, .int .i64 a0_4, .int .i64 a0_5]) (t := 24) ?hr ?_; (case hd => rfl); (case hg => rfl); (case hr => first | (go_simp; done) | (go_simp; rfl)); intro gb135 hg w15 hbox hb; have n0_ := bs HB hb; have n1_ := Aside0.mk (hbox); have n2_ := bz HB hg; have n3_ := bz HB hg; clear HB; have HB := n0_; have BK135 := n1_; have GW135 := n2_; have GE135 := n3_; clear n0_ n1_ n2_ n3_; clear hb hbox hg; obtain ⟨hcz16_0, hcz16_1, hcz16_2, hcz16_3, hcz16_4, hcz16_5⟩ := cc6 BK135; obtain ⟨hfz16_0, hfz16_1, hfz16_2, hfz16_3, hfz16_4, hfz16_5⟩ := cf6 BK135) | ((with_reducible refine gate_callee (f := 27) rfl ?_); refine goesL_ (some 11) rfl rfl Try.func27 (by kernel_rfl) rfl #[.agg #[.int .i64 a0_0, .int .i64 a0_1, .int .i64 a0_2, .int .i64 a0_3, .int .i64 a0_4, .int .i64 a0_5], .int .i64 a1] rfl (by (try simp only [List.map_toArray, List.map_cons, List.map_nil]); first | done | rfl | (simp only [List.length_drop, List.length_take]; rfl)) ?_; (with_reducible refine (units_At.calls a0_0 a0_1 a0_2 a0_3 a0_4 a0_5 a1 t136 _ A5.out).mono ?_); rintro e w17 ⟨rfl, hb⟩; refine ⟨_, rfl, ?_⟩; have n0_ := bb BK135 hb; have n1_ := bs HB hb; clear BK135; clear HB; have BK135 := n0_; have HB := n1_; clear n0_ n1_; (try clear hb); (try clear hb2); (try clear hk); (try clear hi)))
        go_ret
        exact ⟨_, by first | rfl | (simp [errW_none, errW_some] <;> rfl) | (simp [*, errW_none, errW_some] <;> rfl) | (exfalso; contradiction), by first | exact Kd.R_nil _ _ _ _ _ | exact Kd.N_nil _ _ _ _ _ | exact Kd.V_nil _ _ _ _ _ | exact Kd.Q_nil _ _ _ _ _ | exact Kd.S_nil _ _ _ _ _, by repeat (first | (with_reducible first | exact HB.out | apply below_alloc | apply pw_below_drewN | apply below_drew1 | refine below_set ?_ GE135.out) | exact HB.out)⟩
      · rw [if_neg c14] at H
        have c14b0 : decide (a3 < a2) = false := decide_eq_false c14
        clear c14
        by_cases c18 : a3 > 1099511627776
        · rw [if_pos c18] at H
          have c18b0 : decide (1099511627776 < a3) = true := decide_eq_true c18
          clear c18
          obtain rfl := Option.some.inj H
          go_enter Try.func41, Try.ntmps41
          go_wp2_with (first | ((with_reducible refine gate_dst (N := 4) rfl ?_); refine box_event ?hg (N := 4) ?hd (cs := #[.int .i64 a0_0, .int .i64 a0_1, .int .i64 a0_2, .int .i64 a0_3, .int .i64 a0_4, .int .i64 a0_5]) (t := 24) ?hr ?_; (case hd => rfl); (case hg => rfl); (case hr => first | (go_simp; done) | (go_simp; rfl)); intro gb135 hg w19 hbox hb; have n0_ := bs HB hb; have n1_ := Aside0.mk (hbox); have n2_ := bz HB hg; have n3_ := bz HB hg; clear HB; have HB := n0_; have BK135 := n1_; have GW135 := n2_; have GE135 := n3_; clear n0_ n1_ n2_ n3_; clear hb hbox hg; obtain ⟨hcz20_0, hcz20_1, hcz20_2, hcz20_3, hcz20_4, hcz20_5⟩ := cc6 BK135; obtain ⟨hfz20_0, hfz20_1, hfz20_2, hfz20_3, hfz20_4, hfz20_5⟩ := cf6 BK135) | ((with_reducible refine gate_callee (f := 27) rfl ?_); refine goesL_ (some 11) rfl rfl Try.func27 (by kernel_rfl) rfl #[.agg #[.int .i64 a0_0, .int .i64 a0_1, .int .i64 a0_2, .int .i64 a0_3, .int .i64 a0_4, .int .i64 a0_5], .int .i64 a1] rfl (by (try simp only [List.map_toArray, List.map_cons, List.map_nil]); first | done | rfl | (simp only [List.length_drop, List.length_take]; rfl)) ?_; (with_reducible refine (units_At.calls a0_0 a0_1 a0_2 a0_3 a0_4 a0_5 a1 t136 _ A5.out).mono ?_); rintro e w21 ⟨rfl, hb⟩; refine ⟨_, rfl, ?_⟩; have n0_ := bb BK135 hb; have n1_ := bs HB hb; clear BK135; clear HB; have BK135 := n0_; have HB := n1_; clear n0_ n1_; (try clear hb); (try clear hb2); (try clear hk); (try clear hi)))
          go_ret
          exact ⟨_, by first | rfl | (simp [errW_none, errW_some] <;> rfl) | (simp [*, errW_none, errW_some] <;> rfl) | (exfalso; contradiction), by first | exact Kd.R_nil _ _ _ _ _ | exact Kd.N_nil _ _ _ _ _ | exact Kd.V_nil _ _ _ _ _ | exact Kd.Q_nil _ _ _ _ _ | exact Kd.S_nil _ _ _ _ _, by repeat (first | (with_reducible first | exact HB.out | apply below_alloc | apply pw_below_drewN | apply below_drew1 | refine below_set ?_ GE135.out) | exact HB.out)⟩
        · rw [if_neg c18] at H
          have c18b0 : decide (1099511627776 < a3) = false := decide_eq_false c18
          clear c18
          by_cases c22 : (wrap64 (a3 - a2)) > 5000
          · rw [if_pos c22] at H
            have c22b0 : decide (5000 < (wrap64 (a3 - a2))) = true := decide_eq_true c22
            clear c22
            obtain rfl := Option.some.inj H
            go_enter Try.func41, Try.ntmps41
            go_wp2_with (first | ((with_reducible refine gate_dst (N := 4) rfl ?_); refine box_event ?hg (N := 4) ?hd (cs := #[.int .i64 a0_0, .int .i64 a0_1, .int .i64 a0_2, .int .i64 a0_3, .int .i64 a0_4, .int .i64 a0_5]) (t := 24) ?hr ?_; (case hd => rfl); (case hg => rfl); (case hr => first | (go_simp; done) | (go_simp; rfl)); intro gb135 hg w23 hbox hb; have n0_ := bs HB hb; have n1_ := Aside0.mk (hbox); have n2_ := bz HB hg; have n3_ := bz HB hg; clear HB; have HB := n0_; have BK135 := n1_; have GW135 := n2_; have GE135 := n3_; clear n0_ n1_ n2_ n3_; clear hb hbox hg; obtain ⟨hcz24_0, hcz24_1, hcz24_2, hcz24_3, hcz24_4, hcz24_5⟩ := cc6 BK135; obtain ⟨hfz24_0, hfz24_1, hfz24_2, hfz24_3, hfz24_4, hfz24_5⟩ := cf6 BK135) | ((with_reducible refine gate_callee (f := 27) rfl ?_); refine goesL_ (some 11) rfl rfl Try.func27 (by kernel_rfl) rfl #[.agg #[.int .i64 a0_0, .int .i64 a0_1, .int .i64 a0_2, .int .i64 a0_3, .int .i64 a0_4, .int .i64 a0_5], .int .i64 a1] rfl (by (try simp only [List.map_toArray, List.map_cons, List.map_nil]); first | done | rfl | (simp only [List.length_drop, List.length_take]; rfl)) ?_; (with_reducible refine (units_At.calls a0_0 a0_1 a0_2 a0_3 a0_4 a0_5 a1 t136 _ A5.out).mono ?_); rintro e w25 ⟨rfl, hb⟩; refine ⟨_, rfl, ?_⟩; have n0_ := bb BK135 hb; have n1_ := bs HB hb; clear BK135; clear HB; have BK135 := n0_; have HB := n1_; clear n0_ n1_; (try clear hb); (try clear hb2); (try clear hk); (try clear hi)))
            go_ret
            exact ⟨_, by first | rfl | (simp [errW_none, errW_some] <;> rfl) | (simp [*, errW_none, errW_some] <;> rfl) | (exfalso; contradiction), by first | exact Kd.R_nil _ _ _ _ _ | exact Kd.N_nil _ _ _ _ _ | exact Kd.V_nil _ _ _ _ _ | exact Kd.Q_nil _ _ _ _ _ | exact Kd.S_nil _ _ _ _ _, by repeat (first | (with_reducible first | exact HB.out | apply below_alloc | apply pw_below_drewN | apply below_drew1 | refine below_set ?_ GE135.out) | exact HB.out)⟩
          · rw [if_neg c22] at H
            have c22b0 : decide (5000 < (wrap64 (a3 - a2))) = false := decide_eq_false c22
            clear c22
            replace H := Option.bind_eq_some_iff.mp H
            obtain ⟨t137, A260, H⟩ := H
            try dsimp only at H
            have A26 := Aside0.mk A260
            clear A260
            obtain rfl := Option.some.inj H
            go_enter Try.func41, Try.ntmps41
            go_wp2_with (first | ((with_reducible refine gate_dst (N := 4) rfl ?_); refine box_event ?hg (N := 4) ?hd (cs := #[.int .i64 a0_0, .int .i64 a0_1, .int .i64 a0_2, .int .i64 a0_3, .int .i64 a0_4, .int .i64 a0_5]) (t := 24) ?hr ?_; (case hd => rfl); (case hg => rfl); (case hr => first | (go_simp; done) | (go_simp; rfl)); intro gb135 hg w27 hbox hb; have n0_ := bs HB hb; have n1_ := Aside0.mk (hbox); have n2_ := bz HB hg; have n3_ := bz HB hg; clear HB; have HB := n0_; have BK135 := n1_; have GW135 := n2_; have GE135 := n3_; clear n0_ n1_ n2_ n3_; clear hb hbox hg; obtain ⟨hcz28_0, hcz28_1, hcz28_2, hcz28_3, hcz28_4, hcz28_5⟩ := cc6 BK135; obtain ⟨hfz28_0, hfz28_1, hfz28_2, hfz28_3, hfz28_4, hfz28_5⟩ := cf6 BK135) | ((with_reducible refine gate_callee (f := 27) rfl ?_); refine goesL_ (some 11) rfl rfl Try.func27 (by kernel_rfl) rfl #[.agg #[.int .i64 a0_0, .int .i64 a0_1, .int .i64 a0_2, .int .i64 a0_3, .int .i64 a0_4, .int .i64 a0_5], .int .i64 a1] rfl (by (try simp only [List.map_toArray, List.map_cons, List.map_nil]); first | done | rfl | (simp only [List.length_drop, List.length_take]; rfl)) ?_; (with_reducible refine (units_At.calls a0_0 a0_1 a0_2 a0_3 a0_4 a0_5 a1 t136 _ A5.out).mono ?_); rintro e w29 ⟨rfl, hb⟩; refine ⟨_, rfl, ?_⟩; have n0_ := bb BK135 hb; have n1_ := bs HB hb; clear BK135; clear HB; have BK135 := n0_; have HB := n1_; clear n0_ n1_; (try clear hb); (try clear hb2); (try clear hk); (try clear hi)) | ((with_reducible refine gate_callee (f := 48) rfl ?_); refine goesL_ (some 38) rfl rfl Try.func48 (by kernel_rfl) rfl #[.agg #[.int .i64 (wrap64 (a2 + a1)), .int .i64 a1, .int .i64 a3]] rfl (by (try simp only [List.map_toArray, List.map_cons, List.map_nil]); first | done | rfl | (simp only [List.length_drop, List.length_take]; rfl)) ?_; (with_reducible refine (period_list.calls (wrap64 (a2 + a1)) a1 a3 t137 _ A26.out).mono ?_); rintro e w30 ⟨v138, rfl, ho0, hb⟩; refine ⟨_, rfl, ?_⟩; have n0_ := Aside0.mk (Kd.R_lower ho0 (below_size (by repeat (first | (with_reducible first | exact HB.out | apply below_alloc | apply pw_below_drewN | apply below_drew1 | refine below_set ?_ GE135.out) | exact HB.out)))); have n1_ := bb BK135 hb; have n2_ := bs HB hb; clear BK135; clear HB; have HO139 := n0_; have BK135 := n1_; have HB := n2_; clear n0_ n1_ n2_; (try clear hb); (try clear hb2); (try clear hk); (try clear hi); (try clear ho0)))
            go_ret
            exact ⟨_, by first | rfl | (simp [errW_none, errW_some] <;> rfl) | (simp [*, errW_none, errW_some] <;> rfl) | (exfalso; contradiction), by (with_reducible repeat (first | apply Kd.R_alloc | apply Kd.R_drewN | apply Kd.R_drew)); exact HO139.out, by repeat (first | (with_reducible first | exact HB.out | apply below_alloc | apply pw_below_drewN | apply below_drew1 | refine below_set ?_ GE135.out) | exact HB.out)⟩

/-! ### demand_last: function 30 -/
def demand_last.l0 : Nat → Int → Int → List (S26) → Int → Int → Option (Int)
  | 0, _, _, _, _, _ => none
  | k + 1, x1, x5, x9, x10, x11 => if x11 < x10 then (if 0 ≤ x11 then (if x11 < (x9.length : Int) then ((period_Ends.f ((rd_T26 x9 x11).f0.f0) ((rd_T26 x9 x11).f0.f1) ((rd_T26 x9 x11).f0.f2) ((rd_T26 x9 x11).f0.f3) ((rd_T26 x9 x11).f0.f4) ((rd_T26 x9 x11).f0.f5) ((rd_T26 x9 x11).f1) 0 (wrap64 (x1 - 1))).bind fun t142 => (if (t142.length : Int) > 0 then (if 0 ≤ (wrap64 ((t142.length : Int) - 1)) then (if (wrap64 ((t142.length : Int) - 1)) < (t142.length : Int) then (demand_last.l0 k x1 (mx x5 (rd t142 (wrap64 ((t142.length : Int) - 1)))) x9 x10 (wrap64 (x11 + 1))) else (none)) else (none)) else (demand_last.l0 k x1 x5 x9 x10 (wrap64 (x11 + 1))))) else (none)) else (none)) else (some x5)
def demand_last.f (k : Nat) (l0 : List (S26)) (a1 : Int) : Option (Int) := demand_last.l0 k a1 0 l0 (l0.length : Int) 0
theorem demand_last.mono_l : ∀ k, (∀ y0 y1 y2 y3 y4, LeO (demand_last.l0 k y0 y1 y2 y3 y4) (demand_last.l0 (k + 1) y0 y1 y2 y3 y4))
  | 0 => fun _ _ _ _ _ r h => by simp [demand_last.l0] at h
  | k + 1 => by
    have ih0 := demand_last.mono_l k
    · intro y0 y1 y2 y3 y4
      unfold demand_last.l0
      repeat' first
      | (with_reducible exact ih0 _ _ _ _ _)
      | (with_reducible exact LeO.refl _)
      | (with_reducible exact LeO.none _)
      | (with_reducible refine LeO.ite ?_ ?_)
      | (with_reducible refine LeO.bind ?_ (fun _ => ?_))
      | exact ih0 _ _ _ _ _
      | exact LeO.none _
      | refine LeO.ite ?_ ?_
      | refine LeO.bind ?_ (fun _ => ?_)
theorem demand_last.mono : ∀ a0 a1 k, LeO (demand_last.f k a0 a1) (demand_last.f (k + 1) a0 a1) := by
  intro a0 a1 k
  have ih0 := demand_last.mono_l k
  unfold demand_last.f
  repeat' first
      | (with_reducible exact ih0 _ _ _ _ _)
      | (with_reducible exact LeO.refl _)
      | (with_reducible exact LeO.none _)
      | (with_reducible refine LeO.ite ?_ ?_)
      | (with_reducible refine LeO.bind ?_ (fun _ => ?_))
      | exact ih0 _ _ _ _ _
      | exact LeO.none _
      | refine LeO.ite ?_ ?_
      | refine LeO.bind ?_ (fun _ => ?_)
set_option maxHeartbeats 8000000 in
set_option maxRecDepth 100000 in
theorem demand_last.calls (k : Nat) (A0 : Option Addr) (c0 : Nat) (l0 : List (S26)) (a1 : Int) (r : Int) (w : World) (hr0 : Kd.C k26 w A0 l0.length l0) (hc0 : l0.length ≤ c0) (h : demand_last.f k l0 a1 = some r) :
    Calls Try.prog 30 #[.slice A0 l0.length c0, .int .i64 a1] w fun e w' => e = .returned (.int .i64 r) ∧ Below w.heap.size w w' := by
  have hu26 := Try.underlying26
  have hu24 := Try.underlying24
  have HR0 := Aside0.mk hr0
  have HC0 := Aside0.mk hc0
  clear hr0 hc0
  have HB := Aside0.mk (Below.refl w.heap.size w)
  have H : (demand_last.l0 k a1 0 l0 (l0.length : Int) 0) = some r := h
  clear h
  have H' := Aside0.mk H
  clear H
  go_enter Try.func30, Try.ntmps30
  go_wp2
  go_loopg [5, 11] k (fun kq v5 v11 w' => ∃ (x5_1 : Int) (x11_1 : Int), v5 = .int .i64 x5_1 ∧ v11 = .int .i64 x11_1 ∧ Aside0 (demand_last.l0 kq a1 x5_1 l0 (l0.length : Int) x11_1 = some r) ∧ Aside0 (kq ≤ k) ∧ Aside0 (Below w.heap.size w w'))
  case atStart => exact ⟨(0), (0), (by first | rfl | (simp; done) | (simp [*]; done)), (by first | rfl | (simp; done) | (simp [*]; done)), H', ⟨Nat.le_refl _⟩, ⟨by repeat (first | (with_reducible first | exact HB.out | apply below_alloc | apply pw_below_drewN | apply below_drew1) | exact HB.out)⟩⟩
  case round =>
    clear H'
    try clear p2
    obtain ⟨x5_1, x11_1, rfl, rfl, HA, HK1, HB⟩ := hrel
    cases gk with
    | zero => exact absurd HA.out (by simp [demand_last.l0])
    | succ k1 =>
      have H := HA.out
      clear HA
      simp only [demand_last.l0] at H
      by_cases c3 : x11_1 < (l0.length : Int)
      · rw [if_pos c3] at H
        have c3b0 : decide (x11_1 < (l0.length : Int)) = true := decide_eq_true c3
        clear c3
        by_cases c4 : 0 ≤ x11_1
        · rw [if_pos c4] at H
          have c4b0 : decide (0 ≤ x11_1) = true := decide_eq_true c4
          clear c4
          by_cases c5 : x11_1 < (l0.length : Int)
          · rw [if_pos c5] at H
            have c5b0 : decide (x11_1 < (l0.length : Int)) = true := decide_eq_true c5
            clear c5
            replace H := Option.bind_eq_some_iff.mp H
            obtain ⟨t142, A60, H⟩ := H
            try dsimp only at H
            have A6 := Aside0.mk A60
            clear A60
            by_cases c7 : (t142.length : Int) > 0
            · rw [if_pos c7] at H
              have c7b0 : decide (0 < (t142.length : Int)) = true := decide_eq_true c7
              have c7b1 : decide (0 < t142.length) = true := decide_eq_true (by omega)
              clear c7
              obtain ⟨ji8, hji8⟩ : ∃ j_ : Int, (wrap64 ((t142.length : Int) - 1)) = j_ := ⟨_, rfl⟩
              replace H : (if 0 ≤ (ji8) then (if (ji8) < (t142.length : Int) then (demand_last.l0 k1 a1 (mx x5_1 (rd t142 (ji8))) l0 (l0.length : Int) (wrap64 (x11_1 + 1))) else (none)) else (none)) = some r := by first | (rw [hji8] at H; exact H) | (simp only [hji8] at H ⊢; exact H)
              (try rw [hji8] at A6)
              have hji8w : (IntKind.i64.wrap ((t142.length : Int) - 1)) = ji8 := (i64_w _).trans hji8
              by_cases c9 : 0 ≤ (ji8)
              · rw [if_pos c9] at H
                have c9b0 : decide (0 ≤ (ji8)) = true := decide_eq_true c9
                clear c9
                by_cases c10 : (ji8) < (t142.length : Int)
                · rw [if_pos c10] at H
                  have c10b0 : decide ((ji8) < (t142.length : Int)) = true := decide_eq_true c10
                  clear c10
                  obtain ⟨ji11, hji11⟩ : ∃ j_ : Int, (mx x5_1 (rd t142 (ji8))) = j_ := ⟨_, rfl⟩
                  replace H : (demand_last.l0 k1 a1 ji11 l0 (l0.length : Int) (wrap64 (x11_1 + 1))) = some r := by first | (rw [hji11] at H; exact H) | (simp only [hji11] at H ⊢; exact H)
                  (try rw [hji11] at A6)
                  have hji11_ : (if x5_1 < (rd t142 (ji8)) then (rd t142 (ji8)) else x5_1) = ji11 := hji11
                  have H' := Aside0.mk H
                  clear H
                  have p140 : 0 ≤ (x11_1 : Int) := of_decide_eq_true (by first | (with_reducible assumption) | assumption)
                  have q140 : x11_1 < (l0.length : Int) := of_decide_eq_true (by first | (with_reducible assumption) | assumption)
                  obtain ⟨ad140, e140, hx140_0, hx140_1, hx140_2, hx140_3, hx140_4, hx140_5, hx140_6⟩ := at_T26 HR0.out x11_1 p140 q140
                  cases e140
                  replace hx140_0 := (HB.out.cell (World.block_lt_of_cell? w _ hx140_0)).trans hx140_0
                  replace hx140_1 := (HB.out.cell (World.block_lt_of_cell? w _ hx140_1)).trans hx140_1
                  replace hx140_2 := (HB.out.cell (World.block_lt_of_cell? w _ hx140_2)).trans hx140_2
                  replace hx140_3 := (HB.out.cell (World.block_lt_of_cell? w _ hx140_3)).trans hx140_3
                  replace hx140_4 := (HB.out.cell (World.block_lt_of_cell? w _ hx140_4)).trans hx140_4
                  replace hx140_5 := (HB.out.cell (World.block_lt_of_cell? w _ hx140_5)).trans hx140_5
                  replace hx140_6 := (HB.out.cell (World.block_lt_of_cell? w _ hx140_6)).trans hx140_6
                  replace p140 := eq_true p140
                  replace q140 := eq_true q140
                  go_wp2_with (first | ((with_reducible refine gate_dst (N := 7) rfl ?_); refine box_event ?hg (N := 7) ?hd (cs := #[.int .i64 0, .int .i64 0, .int .i64 0, .int .i64 0, .int .i64 0, .int .i64 0, .int .i64 0]) (t := 26) ?hr ?_; (case hd => rfl); (case hg => rfl); (case hr => first | (go_simp; done) | (go_simp; rfl)); intro gb141 hg w12 hbox hb; have n0_ := bs HB hb; have n1_ := Aside0.mk (hbox); have n2_ := bz HB hg; have n3_ := bz HB hg; clear HB; have HB := n0_; have BK141 := n1_; have GW141 := n2_; have GE141 := n3_; clear n0_ n1_ n2_ n3_; clear hb hbox hg; obtain ⟨hcz13_0, hcz13_1, hcz13_2, hcz13_3, hcz13_4, hcz13_5, hcz13_6⟩ := cc7 BK141; obtain ⟨hfz13_0, hfz13_1, hfz13_2, hfz13_3, hfz13_4, hfz13_5, hfz13_6⟩ := cf7 BK141) | ((with_reducible refine gate_callee (f := 41) rfl ?_); refine goesL_ (some 21) rfl rfl Try.func41 (by kernel_rfl) rfl #[.agg #[.int .i64 ((rd_T26 l0 x11_1).f0.f0), .int .i64 ((rd_T26 l0 x11_1).f0.f1), .int .i64 ((rd_T26 l0 x11_1).f0.f2), .int .i64 ((rd_T26 l0 x11_1).f0.f3), .int .i64 ((rd_T26 l0 x11_1).f0.f4), .int .i64 ((rd_T26 l0 x11_1).f0.f5)], .int .i64 ((rd_T26 l0 x11_1).f1), .int .i64 0, .int .i64 (wrap64 (a1 - 1))] rfl (by (try simp only [List.map_toArray, List.map_cons, List.map_nil]); first | done | rfl | (simp only [List.length_drop, List.length_take]; rfl)) ?_; (with_reducible refine (period_Ends.calls ((rd_T26 l0 x11_1).f0.f0) ((rd_T26 l0 x11_1).f0.f1) ((rd_T26 l0 x11_1).f0.f2) ((rd_T26 l0 x11_1).f0.f3) ((rd_T26 l0 x11_1).f0.f4) ((rd_T26 l0 x11_1).f0.f5) ((rd_T26 l0 x11_1).f1) 0 (wrap64 (a1 - 1)) t142 _ A6.out).mono ?_); rintro e w14 ⟨v143, rfl, ho0, hb⟩; refine ⟨_, rfl, ?_⟩; have n0_ := Aside0.mk (Kd.R_lower ho0 (below_size (by repeat (first | (with_reducible first | exact HB.out | apply below_alloc | apply pw_below_drewN | apply below_drew1 | refine below_set ?_ GE141.out) | exact HB.out)))); have n1_ := Aside0.mk (blk_below (g := gb141) (o := .cells #[.int .i64 ((rd_T26 l0 x11_1).f0.f0), .int .i64 ((rd_T26 l0 x11_1).f0.f1), .int .i64 ((rd_T26 l0 x11_1).f0.f2), .int .i64 ((rd_T26 l0 x11_1).f0.f3), .int .i64 ((rd_T26 l0 x11_1).f0.f4), .int .i64 ((rd_T26 l0 x11_1).f0.f5), .int .i64 ((rd_T26 l0 x11_1).f1)] 26 (0, 0)) (by (with_reducible repeat (first | refine bN ?_ _ | refine bD ?_ | refine bA ?_ _)); refine blk_put (cs := #[.int .i64 ((rd_T26 l0 x11_1).f0.f0), .int .i64 ((rd_T26 l0 x11_1).f0.f1), .int .i64 ((rd_T26 l0 x11_1).f0.f2), .int .i64 ((rd_T26 l0 x11_1).f0.f3), .int .i64 ((rd_T26 l0 x11_1).f0.f4), .int .i64 ((rd_T26 l0 x11_1).f0.f5), .int .i64 0]) ?_ 6 _ rfl; (with_reducible repeat (first | refine bN ?_ _ | refine bD ?_ | refine bA ?_ _)); refine blk_put (cs := #[.int .i64 ((rd_T26 l0 x11_1).f0.f0), .int .i64 ((rd_T26 l0 x11_1).f0.f1), .int .i64 ((rd_T26 l0 x11_1).f0.f2), .int .i64 ((rd_T26 l0 x11_1).f0.f3), .int .i64 ((rd_T26 l0 x11_1).f0.f4), .int .i64 0, .int .i64 0]) ?_ 5 _ rfl; (with_reducible repeat (first | refine bN ?_ _ | refine bD ?_ | refine bA ?_ _)); refine blk_put (cs := #[.int .i64 ((rd_T26 l0 x11_1).f0.f0), .int .i64 ((rd_T26 l0 x11_1).f0.f1), .int .i64 ((rd_T26 l0 x11_1).f0.f2), .int .i64 ((rd_T26 l0 x11_1).f0.f3), .int .i64 0, .int .i64 0, .int .i64 0]) ?_ 4 _ rfl; (with_reducible repeat (first | refine bN ?_ _ | refine bD ?_ | refine bA ?_ _)); refine blk_put (cs := #[.int .i64 ((rd_T26 l0 x11_1).f0.f0), .int .i64 ((rd_T26 l0 x11_1).f0.f1), .int .i64 ((rd_T26 l0 x11_1).f0.f2), .int .i64 0, .int .i64 0, .int .i64 0, .int .i64 0]) ?_ 3 _ rfl; (with_reducible repeat (first | refine bN ?_ _ | refine bD ?_ | refine bA ?_ _)); refine blk_put (cs := #[.int .i64 ((rd_T26 l0 x11_1).f0.f0), .int .i64 ((rd_T26 l0 x11_1).f0.f1), .int .i64 0, .int .i64 0, .int .i64 0, .int .i64 0, .int .i64 0]) ?_ 2 _ rfl; (with_reducible repeat (first | refine bN ?_ _ | refine bD ?_ | refine bA ?_ _)); refine blk_put (cs := #[.int .i64 ((rd_T26 l0 x11_1).f0.f0), .int .i64 0, .int .i64 0, .int .i64 0, .int .i64 0, .int .i64 0, .int .i64 0]) ?_ 1 _ rfl; (with_reducible repeat (first | refine bN ?_ _ | refine bD ?_ | refine bA ?_ _)); refine blk_put (cs := #[.int .i64 0, .int .i64 0, .int .i64 0, .int .i64 0, .int .i64 0, .int .i64 0, .int .i64 0]) ?_ 0 _ rfl; (with_reducible repeat (first | refine bN ?_ _ | refine bD ?_ | refine bA ?_ _)); exact BK141.out) hb); have n2_ := bs HB hb; clear BK141; clear HB; have HO144 := n0_; have BK141 := n1_; have HB := n2_; clear n0_ n1_ n2_; (try clear hb); (try clear hb2); (try clear hk); (try clear hi); (try clear ho0); obtain ⟨Ao15, co15, eo15⟩ := Kd.R_slice HO144.out; subst eo15; have p145 : 0 ≤ ((ji8) : Int) := of_decide_eq_true (by first | (with_reducible assumption) | assumption); have q145 : (ji8) < (t142.length : Int) := of_decide_eq_true (by first | (with_reducible assumption) | assumption); obtain ⟨ad145, e145, hx145_0⟩ := Kd.at_int (Kd.R_reads' HO144.out).2.2 (ji8) p145 q145; cases e145; replace p145 := eq_true p145; replace q145 := eq_true q145))
                  go_roundg k1
                  case measure => have := HK1.out; omega
                  case rel => exact ⟨(ji11), (wrap64 (x11_1 + 1)), (by first | rfl | (simp; done) | (simp only [← hji11] <;> (first | rfl | simp)) | (simp [*]; done)), (by first | rfl | (simp; done) | (simp [*]; done)), H', ⟨by have := HK1.out; omega⟩, ⟨by repeat (first | (with_reducible first | exact HB.out | apply below_alloc | apply pw_below_drewN | apply below_drew1 | refine below_set ?_ GE141.out) | exact HB.out)⟩⟩
                · rw [if_neg c10] at H
                  exact absurd H (by simp)
              · rw [if_neg c9] at H
                exact absurd H (by simp)
            · rw [if_neg c7] at H
              have c7b0 : decide (0 < (t142.length : Int)) = false := decide_eq_false c7
              have c7b1 : decide (0 < t142.length) = false := decide_eq_false (by omega)
              clear c7
              have H' := Aside0.mk H
              clear H
              have p140 : 0 ≤ (x11_1 : Int) := of_decide_eq_true (by first | (with_reducible assumption) | assumption)
              have q140 : x11_1 < (l0.length : Int) := of_decide_eq_true (by first | (with_reducible assumption) | assumption)
              obtain ⟨ad140, e140, hx140_0, hx140_1, hx140_2, hx140_3, hx140_4, hx140_5, hx140_6⟩ := at_T26 HR0.out x11_1 p140 q140
              cases e140
              replace hx140_0 := (HB.out.cell (World.block_lt_of_cell? w _ hx140_0)).trans hx140_0
              replace hx140_1 := (HB.out.cell (World.block_lt_of_cell? w _ hx140_1)).trans hx140_1
              replace hx140_2 := (HB.out.cell (World.block_lt_of_cell? w _ hx140_2)).trans hx140_2
              replace hx140_3 := (HB.out.cell (World.block_lt_of_cell? w _ hx140_3)).trans hx140_3
              replace hx140_4 := (HB.out.cell (World.block_lt_of_cell? w _ hx140_4)).trans hx140_4
              replace hx140_5 := (HB.out.cell (World.block_lt_of_cell? w _ hx140_5)).trans hx140_5
              replace hx140_6 := (HB.out.cell (World.block_lt_of_cell? w _ hx140_6)).trans hx140_6
              replace p140 := eq_true p140
              replace q140 := eq_true q140
              go_wp2_with (first | ((with_reducible refine gate_dst (N := 7) rfl ?_); refine box_event ?hg (N := 7) ?hd (cs := #[.int .i64 0, .int .i64 0, .int .i64 0, .int .i64 0, .int .i64 0, .int .i64 0, .int .i64 0]) (t := 26) ?hr ?_; (case hd => rfl); (case hg => rfl); (case hr => first | (go_simp; done) | (go_simp; rfl)); intro gb141 hg w16 hbox hb; have n0_ := bs HB hb; have n1_ := Aside0.mk (hbox); have n2_ := bz HB hg; have n3_ := bz HB hg; clear HB; have HB := n0_; have BK141 := n1_; have GW141 := n2_; have GE141 := n3_; clear n0_ n1_ n2_ n3_; clear hb hbox hg; obtain ⟨hcz17_0, hcz17_1, hcz17_2, hcz17_3, hcz17_4, hcz17_5, hcz17_6⟩ := cc7 BK141; obtain ⟨hfz17_0, hfz17_1, hfz17_2, hfz17_3, hfz17_4, hfz17_5, hfz17_6⟩ := cf7 BK141) | ((with_reducible refine gate_callee (f := 41) rfl ?_); refine goesL_ (some 21) rfl rfl Try.func41 (by kernel_rfl) rfl #[.agg #[.int .i64 ((rd_T26 l0 x11_1).f0.f0), .int .i64 ((rd_T26 l0 x11_1).f0.f1), .int .i64 ((rd_T26 l0 x11_1).f0.f2), .int .i64 ((rd_T26 l0 x11_1).f0.f3), .int .i64 ((rd_T26 l0 x11_1).f0.f4), .int .i64 ((rd_T26 l0 x11_1).f0.f5)], .int .i64 ((rd_T26 l0 x11_1).f1), .int .i64 0, .int .i64 (wrap64 (a1 - 1))] rfl (by (try simp only [List.map_toArray, List.map_cons, List.map_nil]); first | done | rfl | (simp only [List.length_drop, List.length_take]; rfl)) ?_; (with_reducible refine (period_Ends.calls ((rd_T26 l0 x11_1).f0.f0) ((rd_T26 l0 x11_1).f0.f1) ((rd_T26 l0 x11_1).f0.f2) ((rd_T26 l0 x11_1).f0.f3) ((rd_T26 l0 x11_1).f0.f4) ((rd_T26 l0 x11_1).f0.f5) ((rd_T26 l0 x11_1).f1) 0 (wrap64 (a1 - 1)) t142 _ A6.out).mono ?_); rintro e w18 ⟨v143, rfl, ho0, hb⟩; refine ⟨_, rfl, ?_⟩; have n0_ := Aside0.mk (Kd.R_lower ho0 (below_size (by repeat (first | (with_reducible first | exact HB.out | apply below_alloc | apply pw_below_drewN | apply below_drew1 | refine below_set ?_ GE141.out) | exact HB.out)))); have n1_ := Aside0.mk (blk_below (g := gb141) (o := .cells #[.int .i64 ((rd_T26 l0 x11_1).f0.f0), .int .i64 ((rd_T26 l0 x11_1).f0.f1), .int .i64 ((rd_T26 l0 x11_1).f0.f2), .int .i64 ((rd_T26 l0 x11_1).f0.f3), .int .i64 ((rd_T26 l0 x11_1).f0.f4), .int .i64 ((rd_T26 l0 x11_1).f0.f5), .int .i64 ((rd_T26 l0 x11_1).f1)] 26 (0, 0)) (by (with_reducible repeat (first | refine bN ?_ _ | refine bD ?_ | refine bA ?_ _)); refine blk_put (cs := #[.int .i64 ((rd_T26 l0 x11_1).f0.f0), .int .i64 ((rd_T26 l0 x11_1).f0.f1), .int .i64 ((rd_T26 l0 x11_1).f0.f2), .int .i64 ((rd_T26 l0 x11_1).f0.f3), .int .i64 ((rd_T26 l0 x11_1).f0.f4), .int .i64 ((rd_T26 l0 x11_1).f0.f5), .int .i64 0]) ?_ 6 _ rfl; (with_reducible repeat (first | refine bN ?_ _ | refine bD ?_ | refine bA ?_ _)); refine blk_put (cs := #[.int .i64 ((rd_T26 l0 x11_1).f0.f0), .int .i64 ((rd_T26 l0 x11_1).f0.f1), .int .i64 ((rd_T26 l0 x11_1).f0.f2), .int .i64 ((rd_T26 l0 x11_1).f0.f3), .int .i64 ((rd_T26 l0 x11_1).f0.f4), .int .i64 0, .int .i64 0]) ?_ 5 _ rfl; (with_reducible repeat (first | refine bN ?_ _ | refine bD ?_ | refine bA ?_ _)); refine blk_put (cs := #[.int .i64 ((rd_T26 l0 x11_1).f0.f0), .int .i64 ((rd_T26 l0 x11_1).f0.f1), .int .i64 ((rd_T26 l0 x11_1).f0.f2), .int .i64 ((rd_T26 l0 x11_1).f0.f3), .int .i64 0, .int .i64 0, .int .i64 0]) ?_ 4 _ rfl; (with_reducible repeat (first | refine bN ?_ _ | refine bD ?_ | refine bA ?_ _)); refine blk_put (cs := #[.int .i64 ((rd_T26 l0 x11_1).f0.f0), .int .i64 ((rd_T26 l0 x11_1).f0.f1), .int .i64 ((rd_T26 l0 x11_1).f0.f2), .int .i64 0, .int .i64 0, .int .i64 0, .int .i64 0]) ?_ 3 _ rfl; (with_reducible repeat (first | refine bN ?_ _ | refine bD ?_ | refine bA ?_ _)); refine blk_put (cs := #[.int .i64 ((rd_T26 l0 x11_1).f0.f0), .int .i64 ((rd_T26 l0 x11_1).f0.f1), .int .i64 0, .int .i64 0, .int .i64 0, .int .i64 0, .int .i64 0]) ?_ 2 _ rfl; (with_reducible repeat (first | refine bN ?_ _ | refine bD ?_ | refine bA ?_ _)); refine blk_put (cs := #[.int .i64 ((rd_T26 l0 x11_1).f0.f0), .int .i64 0, .int .i64 0, .int .i64 0, .int .i64 0, .int .i64 0, .int .i64 0]) ?_ 1 _ rfl; (with_reducible repeat (first | refine bN ?_ _ | refine bD ?_ | refine bA ?_ _)); refine blk_put (cs := #[.int .i64 0, .int .i64 0, .int .i64 0, .int .i64 0, .int .i64 0, .int .i64 0, .int .i64 0]) ?_ 0 _ rfl; (with_reducible repeat (first | refine bN ?_ _ | refine bD ?_ | refine bA ?_ _)); exact BK141.out) hb); have n2_ := bs HB hb; clear BK141; clear HB; have HO144 := n0_; have BK141 := n1_; have HB := n2_; clear n0_ n1_ n2_; (try clear hb); (try clear hb2); (try clear hk); (try clear hi); (try clear ho0); obtain ⟨Ao19, co19, eo19⟩ := Kd.R_slice HO144.out; subst eo19))
              go_roundg k1
              case measure => have := HK1.out; omega
              case rel => exact ⟨(x5_1), (wrap64 (x11_1 + 1)), (by first | rfl | (simp; done) | (simp [*]; done)), (by first | rfl | (simp; done) | (simp [*]; done)), H', ⟨by have := HK1.out; omega⟩, ⟨by repeat (first | (with_reducible first | exact HB.out | apply below_alloc | apply pw_below_drewN | apply below_drew1 | refine below_set ?_ GE141.out) | exact HB.out)⟩⟩
          · rw [if_neg c5] at H
            exact absurd H (by simp)
        · rw [if_neg c4] at H
          exact absurd H (by simp)
      · rw [if_neg c3] at H
        have c3b0 : decide (x11_1 < (l0.length : Int)) = false := decide_eq_false c3
        clear c3
        obtain rfl := Option.some.inj H
        go_wp2
        go_ret
        exact ⟨by first | rfl | (simp [errW_none, errW_some] <;> rfl) | (simp [*, errW_none, errW_some] <;> rfl) | (exfalso; contradiction), by repeat (first | (with_reducible first | exact HB.out | apply below_alloc | apply pw_below_drewN | apply below_drew1) | exact HB.out)⟩

end Go.Proofs.Ytngledpkoeioiaa.P
