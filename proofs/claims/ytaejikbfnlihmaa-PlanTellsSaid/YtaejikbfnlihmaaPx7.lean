-- Written by a program of this session (hprint.py), out of the translation; functions that the print does not take are given by hand.
import Derived.Test.YtaejikbfnlihmaaPx0
import Derived.Test.YtaejikbfnlihmaaPx6
namespace Go.Proofs.Ytaejikbfnlihmaa.P
open Go.RowKit Go.Proofs.YtaejikbfnlihmaaM Go.Proofs.YtaejikbfnlihmaaW.PrintWords Go.Proofs.YtaejikbfnlihmaaW.PrintLast Go.Proofs.YtaejikbfnlihmaaW.PrintMore
attribute [local go_sem] max2_int min2_int max_two min_two max_three min_three max_four min_four   -- for this text's walks alone
set_option linter.unusedVariables false
set_option linter.unusedSimpArgs false

/-! ### plan_Springs_1: function 29 -/
def plan_Springs_1.f (a0 : Int) (a1_0 : Int) (a1_1 : Int) (a1_2 : Int) (a1_3 : Int) (a1_4 : Int) (a1_5 : Int) : Option (Int × Int × Int) := (units_Top.f a1_0 a1_1 a1_2 a1_3 a1_4 a1_5).bind fun t120 => ((units_Least.f a1_0 a1_1 a1_2 a1_3 a1_4 a1_5).bind fun t121 => (some (t120, t121, a1_5)))
def plan_Springs_1.T1 : Bool × List (List Nat × List Nat) := (true, [([], []), ([0], [0]), ([], []), ([2, 1], [2]), ([], []), ([4], [4]), ([1, 3, 5], [1, 3, 5]), ([6, 3, 0, 1, 2, 3, 4, 5, 6], [6])])
def plan_Springs_1.B1 : List Nat := [0, 1, 0, 7, 0, 16, 63, 127]
theorem plan_Springs_1.tab1 : rtab .any (opsOf Try.f29 1) = plan_Springs_1.T1 := by kernel_rfl
theorem plan_Springs_1.bits1 : waitsOk plan_Springs_1.T1.2 plan_Springs_1.B1 = true := by kernel_rfl
set_option maxHeartbeats 8000000 in
set_option maxRecDepth 100000 in
theorem plan_Springs_1.calls (a0 : Int) (a1_0 : Int) (a1_1 : Int) (a1_2 : Int) (a1_3 : Int) (a1_4 : Int) (a1_5 : Int) (r1 : Int) (r2 : Int) (r3 : Int) (w : World) (h : plan_Springs_1.f a0 a1_0 a1_1 a1_2 a1_3 a1_4 a1_5 = some (r1, r2, r3)) :
    Calls Try.prog 29 #[.int .i64 a0, .agg #[.int .i64 a1_0, .int .i64 a1_1, .int .i64 a1_2, .int .i64 a1_3, .int .i64 a1_4, .int .i64 a1_5]] w fun e w' => e = .returned (.agg #[.int .i64 r1, .int .i64 r2, .int .i64 r3]) ∧ Below w.heap.size w w' := by
  have hu40 := Try.underlying40
  have hu53 := Try.underlying53
  have HB := Aside0.mk (Below.refl w.heap.size w)
  have H : ((units_Top.f a1_0 a1_1 a1_2 a1_3 a1_4 a1_5).bind fun t120 => ((units_Least.f a1_0 a1_1 a1_2 a1_3 a1_4 a1_5).bind fun t121 => (some (t120, t121, a1_5)))) = some (r1, r2, r3) := h
  clear h
  replace H := Option.bind_eq_some_iff.mp H
  obtain ⟨t120, A30, H⟩ := H
  try dsimp only at H
  have A3 := Aside0.mk A30
  clear A30
  replace H := Option.bind_eq_some_iff.mp H
  obtain ⟨t121, A40, H⟩ := H
  try dsimp only at H
  have A4 := Aside0.mk A40
  clear A40
  simp only [Option.some.injEq, Prod.mk.injEq] at H
  obtain ⟨rfl, rfl, rfl⟩ := H
  go_enter Try.func29, Try.ntmps29
  try go_wp2_with (first | ((with_reducible refine gate_dst (N := 3) rfl ?_); refine box_event ?hg (N := 3) ?hd (cs := #[.int .i64 a1_0, .int .i64 a1_1, .int .i64 a1_2, .int .i64 a1_3, .int .i64 a1_4, .int .i64 a1_5]) (t := 40) ?hr ?_; (case hd => rfl); (case hg => rfl); (case hr => first | (go_simp; done) | (go_simp; rfl)); intro gb118 hg w5 hbox hb; have n0_ := bs HB hb; have n1_ := Aside0.mk (hbox); have n2_ := bz HB hg; have n3_ := bz HB hg; clear HB; have HB := n0_; have BK118 := n1_; have GW118 := n2_; have GE118 := n3_; clear n0_ n1_ n2_ n3_; clear hb hbox hg) | ((with_reducible refine gate_dst (N := 4) rfl ?_); refine box_event ?hg (N := 4) ?hd (cs := #[.int .i64 0, .int .i64 0, .int .i64 0]) (t := 53) ?hr ?_; (case hd => rfl); (case hg => rfl); (case hr => first | (go_simp; done) | (go_simp; rfl)); intro gb119 hg w6 hbox hb; have n0_ := bb BK118 hb; have n1_ := bs HB hb; have n2_ := Aside0.mk (hbox); have n3_ := bz HB hg; have n4_ := bz HB hg; have n5_ := bl BK118 hg; have n6_ := bg BK118 hg; clear BK118; clear HB; have BK118 := n0_; have HB := n1_; have BK119 := n2_; have GW119 := n3_; have GE119 := n4_; have NB118_119 := n5_; have NB119_118 := n6_; clear n0_ n1_ n2_ n3_ n4_ n5_ n6_; clear hb hbox hg))
  have n0_ := Aside0.mk (blk_drew BK118.out)
  have n1_ := Aside0.mk (blk_drew BK119.out)
  have n2_ := Aside0.mk (below_drew1 HB.out)
  clear BK118
  clear BK119
  clear HB
  have BK118 := n0_
  have BK119 := n1_
  have HB := n2_
  clear n0_ n1_ n2_
  refine start_ (n := 8) (S := fun w' => w'.cell? ⟨gb118, 0, none⟩ = some (.int .i64 a1_0) ∧ w'.cell? ⟨gb118, 1, none⟩ = some (.int .i64 a1_1) ∧ w'.cell? ⟨gb118, 2, none⟩ = some (.int .i64 a1_2) ∧ w'.cell? ⟨gb118, 3, none⟩ = some (.int .i64 a1_3) ∧ w'.cell? ⟨gb118, 4, none⟩ = some (.int .i64 a1_4) ∧ w'.cell? ⟨gb118, 5, none⟩ = some (.int .i64 a1_5)) (ds := []) #[false, false, false, false, false, false, false, false] (by kernel_rfl) rfl rfl ⟨(blk_cell BK118.out 0).trans rfl, (blk_cell BK118.out 1).trans rfl, (blk_cell BK118.out 2).trans rfl, (blk_cell BK118.out 3).trans rfl, (blk_cell BK118.out 4).trans rfl, (blk_cell BK118.out 5).trans rfl⟩ (fun hHeld => ?_); refine with_tabW plan_Springs_1.tab1 plan_Springs_1.bits1 (fun HT_ HW_ => ?_)
  generalize w6.drew = w7 at BK118 BK119 HB hHeld ⊢
  refine pure_ (i := 4) (N := some 9) (v := ?_) (a' := ?_) #[false, false, false, false, true, false, false, false] rfl rfl (any_of HT_.out (by kernel_rfl)) (fun _ _ _ h => h) (Or.inl ⟨by rfl, ?_⟩) ?_ ?_
  rotate_left; focus (intro w'; go_simp; with_reducible rfl)
  rotate_left; focus (simp only [Act.put, List.setIfInBounds_toArray, List.set_cons_zero, List.set_cons_succ, i64_w, i32_w]; rfl)
  refine take_ (i := 0) (N := some 5) (v := ?_) (a' := ?_) #[true, false, false, false, true, false, false, false] rfl rfl (take_ofW HT_.out HW_.out (by kernel_rfl)) (fun _ _ _ h => h) (Or.inl ⟨by rfl, ?_⟩) hHeld ?_ ?_
  rotate_left
  · rintro w' ⟨s0, s1, s2, s3, s4, s5⟩
    go_simp
    with_reducible rfl
  rotate_left; focus (simp only [Act.put, List.setIfInBounds_toArray, List.set_cons_zero, List.set_cons_succ, i64_w, i32_w]; rfl)
  refine take_ (i := 2) (N := some 7) (v := ?_) (a' := ?_) #[true, false, true, false, true, false, false, false] rfl rfl (take_ofW HT_.out HW_.out (by kernel_rfl)) (fun _ _ _ h => h) (Or.inl ⟨by rfl, ?_⟩) hHeld ?_ ?_
  rotate_left
  · rintro w' ⟨s0, s1, s2, s3, s4, s5⟩
    go_simp
    with_reducible rfl
  rotate_left; focus (simp only [Act.put, List.setIfInBounds_toArray, List.set_cons_zero, List.set_cons_succ, i64_w, i32_w]; rfl)
  refine take_ (i := 5) (N := some 10) (v := ?_) (a' := ?_) #[true, false, true, false, true, true, false, false] rfl rfl (take_ofW HT_.out HW_.out (by kernel_rfl)) (fun _ _ _ h => h) (Or.inl ⟨by rfl, ?_⟩) hHeld ?_ ?_
  rotate_left
  · rintro w' ⟨s0, s1, s2, s3, s4, s5⟩
    go_simp
    with_reducible rfl
  rotate_left; focus (simp only [Act.put, List.setIfInBounds_toArray, List.set_cons_zero, List.set_cons_succ, i64_w, i32_w]; rfl)
  refine one_ (i := 1) (N := some 6) #[true, true, true, false, true, true, false, false] rfl rfl (one_of HT_.out (by kernel_rfl)) (by decide) (fun K hK => ?_)
  refine goes_ Try.func21 (by kernel_rfl) rfl #[.agg #[.int .i64 a1_0, .int .i64 a1_1, .int .i64 a1_2, .int .i64 a1_3, .int .i64 a1_4, .int .i64 a1_5]] (by rfl) rfl rfl (by (try simp only [List.map_toArray, List.map_cons, List.map_nil]); first | done | rfl | (simp only [List.length_drop, List.length_take]; rfl)) ?_
  with_reducible refine (units_Top.calls a1_0 a1_1 a1_2 a1_3 a1_4 a1_5 t120 _ A3.out).mono ?_
  rintro e w8 ⟨rfl, hb⟩
  refine ⟨_, rfl, ?_⟩
  have n0_ := bb BK118 hb
  have n1_ := bb BK119 hb
  have n2_ := bs HB hb
  clear BK118
  clear BK119
  clear HB
  have BK118 := n0_
  have BK119 := n1_
  have HB := n2_
  clear n0_ n1_ n2_
  (try clear hb)
  (try clear hb2)
  (try clear hk)
  (try clear hi)
  refine hK.out _ _ ⟨(blk_cell BK118.out 0).trans rfl, (blk_cell BK118.out 1).trans rfl, (blk_cell BK118.out 2).trans rfl, (blk_cell BK118.out 3).trans rfl, (blk_cell BK118.out 4).trans rfl, (blk_cell BK118.out 5).trans rfl⟩ (fun hHeld => ?_)
  clear hK K
  refine norm_ (a' := ?_) ?_ ?_
  rotate_left
  · show Act.put _ (some 6) _ = _
    simp only [Act.put, List.setIfInBounds_toArray, List.set_cons_zero, List.set_cons_succ, i64_w, i32_w]
    rfl
  refine one_ (i := 3) (N := some 8) #[true, true, true, true, true, true, false, false] rfl rfl (one_of HT_.out (by kernel_rfl)) (by decide) (fun K hK => ?_)
  refine goes_ Try.func23 (by kernel_rfl) rfl #[.agg #[.int .i64 a1_0, .int .i64 a1_1, .int .i64 a1_2, .int .i64 a1_3, .int .i64 a1_4, .int .i64 a1_5]] (by rfl) rfl rfl (by (try simp only [List.map_toArray, List.map_cons, List.map_nil]); first | done | rfl | (simp only [List.length_drop, List.length_take]; rfl)) ?_
  with_reducible refine (units_Least.calls a1_0 a1_1 a1_2 a1_3 a1_4 a1_5 t121 _ A4.out).mono ?_
  rintro e w9 ⟨rfl, hb⟩
  refine ⟨_, rfl, ?_⟩
  have n0_ := bb BK118 hb
  have n1_ := bb BK119 hb
  have n2_ := bs HB hb
  clear BK118
  clear BK119
  clear HB
  have BK118 := n0_
  have BK119 := n1_
  have HB := n2_
  clear n0_ n1_ n2_
  (try clear hb)
  (try clear hb2)
  (try clear hk)
  (try clear hi)
  refine hK.out _ _ ⟨(blk_cell BK118.out 0).trans rfl, (blk_cell BK118.out 1).trans rfl, (blk_cell BK118.out 2).trans rfl, (blk_cell BK118.out 3).trans rfl, (blk_cell BK118.out 4).trans rfl, (blk_cell BK118.out 5).trans rfl⟩ (fun hHeld => ?_)
  clear hK K
  refine norm_ (a' := ?_) ?_ ?_
  rotate_left
  · show Act.put _ (some 8) _ = _
    simp only [Act.put, List.setIfInBounds_toArray, List.set_cons_zero, List.set_cons_succ, i64_w, i32_w]
    rfl
  refine pure_ (i := 6) (N := some 11) (v := ?_) (a' := ?_) #[true, true, true, true, true, true, true, false] rfl rfl (any_of HT_.out (by kernel_rfl)) (fun _ _ _ h => h) (Or.inl ⟨by rfl, ?_⟩) ?_ ?_
  rotate_left; focus (intro w'; go_simp; with_reducible rfl)
  rotate_left; focus (simp only [Act.put, List.setIfInBounds_toArray, List.set_cons_zero, List.set_cons_succ, i64_w, i32_w]; rfl)
  refine one_ (i := 7) (N := none) #[true, true, true, true, true, true, true, true] rfl rfl (one_of HT_.out (by kernel_rfl)) (by decide) (fun K hK => ?_)
  have hs10 : w9.cell? ⟨gb119, 0, none⟩ = some (.int .i64 0) := (blk_cell BK119.out 0).trans rfl
  have hfs10 := blk_frozen BK119.out 0
  have hns10_0 := NB118_119.out
  have hms10_0 := NB119_118.out
  have hs11 : w9.cell? ⟨gb119, 1, none⟩ = some (.int .i64 0) := (blk_cell BK119.out 1).trans rfl
  have hfs11 := blk_frozen BK119.out 1
  have hns11_0 := NB118_119.out
  have hms11_0 := NB119_118.out
  have hs12 : w9.cell? ⟨gb119, 2, none⟩ = some (.int .i64 0) := (blk_cell BK119.out 2).trans rfl
  have hfs12 := blk_frozen BK119.out 2
  have hns12_0 := NB118_119.out
  have hms12_0 := NB119_118.out
  refine skip_ (w1 := ?_) (by rfl) rfl ?_ ?_
  rotate_left
  · go_simp
    rfl
  refine hK.out _ _ ⟨((cell_far (p := ⟨gb119, _, none⟩) NB118_119.out _).trans (((cell_far (p := ⟨gb119, _, none⟩) NB118_119.out _).trans (((cell_far (p := ⟨gb119, _, none⟩) NB118_119.out _).trans (hHeld.1)))))), ((cell_far (p := ⟨gb119, _, none⟩) NB118_119.out _).trans (((cell_far (p := ⟨gb119, _, none⟩) NB118_119.out _).trans (((cell_far (p := ⟨gb119, _, none⟩) NB118_119.out _).trans (hHeld.2.1)))))), ((cell_far (p := ⟨gb119, _, none⟩) NB118_119.out _).trans (((cell_far (p := ⟨gb119, _, none⟩) NB118_119.out _).trans (((cell_far (p := ⟨gb119, _, none⟩) NB118_119.out _).trans (hHeld.2.2.1)))))), ((cell_far (p := ⟨gb119, _, none⟩) NB118_119.out _).trans (((cell_far (p := ⟨gb119, _, none⟩) NB118_119.out _).trans (((cell_far (p := ⟨gb119, _, none⟩) NB118_119.out _).trans (hHeld.2.2.2.1)))))), ((cell_far (p := ⟨gb119, _, none⟩) NB118_119.out _).trans (((cell_far (p := ⟨gb119, _, none⟩) NB118_119.out _).trans (((cell_far (p := ⟨gb119, _, none⟩) NB118_119.out _).trans (hHeld.2.2.2.2.1)))))), ((cell_far (p := ⟨gb119, _, none⟩) NB118_119.out _).trans (((cell_far (p := ⟨gb119, _, none⟩) NB118_119.out _).trans (((cell_far (p := ⟨gb119, _, none⟩) NB118_119.out _).trans (hHeld.2.2.2.2.2))))))⟩ (fun hHeld => ?_)
  clear hK K
  refine done_ (done_of HT_.out (by kernel_rfl)) ?_
  try go_wp2
  refine bodyPost_ret (results_cell_row rfl _ _ gb119 53 #[.int .i64 t120, .int .i64 t121, .int .i64 a1_5] (0, 0) _ rfl (by (with_reducible repeat (first | refine bN ?_ _ | refine bD ?_ | refine bA ?_ _)); refine blk_put (cs := #[.int .i64 t120, .int .i64 t121, .int .i64 0]) ?_ 2 _ rfl; (with_reducible repeat (first | refine bN ?_ _ | refine bD ?_ | refine bA ?_ _)); refine blk_put (cs := #[.int .i64 t120, .int .i64 0, .int .i64 0]) ?_ 1 _ rfl; (with_reducible repeat (first | refine bN ?_ _ | refine bD ?_ | refine bA ?_ _)); refine blk_put (cs := #[.int .i64 0, .int .i64 0, .int .i64 0]) ?_ 0 _ rfl; (with_reducible repeat (first | refine bN ?_ _ | refine bD ?_ | refine bA ?_ _)); exact BK119.out) Try.underlying53 rfl (by kernel_rfl)) rfl ?_
  exact ⟨by first | rfl | (simp [errW_none, errW_some] <;> rfl) | (simp [*, errW_none, errW_some] <;> rfl) | (exfalso; contradiction), by repeat (first | (with_reducible first | exact HB.out | apply below_alloc | apply pw_below_drewN | apply below_drew1 | refine below_set ?_ GE118.out | refine below_set ?_ GE119.out) | exact HB.out)⟩

/-! ### api_Spr_28: function 28 -/
def api_Spr_28.l0 : Nat → List (S53) → List (S40) → Int → Int → Option ((List (S53)))
  | 0, _, _, _, _ => none
  | k + 1, x5, x8, x9, x10 => if x10 < x9 then (if 0 ≤ x10 then (if x10 < (x8.length : Int) then ((plan_Springs_1.f x10 ((rd_T40 x8 x10).f0) ((rd_T40 x8 x10).f1) ((rd_T40 x8 x10).f2) ((rd_T40 x8 x10).f3) ((rd_T40 x8 x10).f4) ((rd_T40 x8 x10).f5)).bind fun bt124 => (if x5.length < 5864062014805 then (api_Spr_28.l0 k (x5 ++ [(⟨bt124.1, bt124.2.1, bt124.2.2⟩ : S53)]) x8 x9 (wrap64 (x10 + 1))) else (none))) else (none)) else (none)) else (some x5)
def api_Spr_28.f (k : Nat) (l0 : List (S40)) : Option ((List (S53))) := api_Spr_28.l0 k ([] : List (S53)) l0 (l0.length : Int) 0
theorem api_Spr_28.mono_l : ∀ k, (∀ y0 y1 y2 y3, LeO (api_Spr_28.l0 k y0 y1 y2 y3) (api_Spr_28.l0 (k + 1) y0 y1 y2 y3))
  | 0 => fun _ _ _ _ r h => by simp [api_Spr_28.l0] at h
  | k + 1 => by
    have ih0 := api_Spr_28.mono_l k
    · intro y0 y1 y2 y3
      unfold api_Spr_28.l0
      repeat' first
      | (with_reducible exact ih0 _ _ _ _)
      | (with_reducible exact LeO.refl _)
      | (with_reducible exact LeO.none _)
      | (with_reducible refine LeO.ite ?_ ?_)
      | (with_reducible refine LeO.bind ?_ (fun _ => ?_))
      | exact ih0 _ _ _ _
      | exact LeO.none _
      | refine LeO.ite ?_ ?_
      | refine LeO.bind ?_ (fun _ => ?_)
theorem api_Spr_28.mono : ∀ a0 k, LeO (api_Spr_28.f k a0) (api_Spr_28.f (k + 1) a0) := by
  intro a0 k
  have ih0 := api_Spr_28.mono_l k
  unfold api_Spr_28.f
  repeat' first
      | (with_reducible exact ih0 _ _ _ _)
      | (with_reducible exact LeO.refl _)
      | (with_reducible exact LeO.none _)
      | (with_reducible refine LeO.ite ?_ ?_)
      | (with_reducible refine LeO.bind ?_ (fun _ => ?_))
      | exact ih0 _ _ _ _
      | exact LeO.none _
      | refine LeO.ite ?_ ?_
      | refine LeO.bind ?_ (fun _ => ?_)
set_option maxHeartbeats 8000000 in
set_option maxRecDepth 100000 in
theorem api_Spr_28.calls (k : Nat) (A0 : Option Addr) (c0 : Nat) (l0 : List (S40)) (r : List (S53)) (w : World) (hr0 : Kd.C k40 w A0 l0.length l0) (hc0 : l0.length ≤ c0) (h : api_Spr_28.f k l0 = some r) :
    Calls Try.prog 28 #[.slice A0 l0.length c0, .func (.func 29) #[] #[]] w fun e w' => ∃ v0_ : Value, e = .returned (v0_) ∧ Kd.R k53 53 w' w.heap.size (fun _ => True) v0_ r ∧ Below w.heap.size w w' := by
  have hu40 := Try.underlying40
  have HR0 := Aside0.mk hr0
  have HC0 := Aside0.mk hc0
  clear hr0 hc0
  have HB := Aside0.mk (Below.refl w.heap.size w)
  have H : (api_Spr_28.l0 k ([] : List (S53)) l0 (l0.length : Int) 0) = some r := h
  clear h
  have H' := Aside0.mk H
  clear H
  go_enter Try.func28, Try.ntmps28
  go_wp2
  go_loopg [5, 10] k (fun kq v5 v10 w' => ∃ (x5_1 : List (S53)) (x10_1 : Int), v10 = .int .i64 x10_1 ∧ Aside0 (api_Spr_28.l0 kq x5_1 l0 (l0.length : Int) x10_1 = some r) ∧ Aside0 (kq ≤ k) ∧ Aside0 (Kd.R k53 53 w' w.heap.size (fun _ => True) v5 x5_1) ∧ Aside0 (Below w.heap.size w w'))
  case atStart => exact ⟨(([] : List (S53))), (0), (by first | rfl | (simp; done) | (simp [*]; done)), H', ⟨Nat.le_refl _⟩, ⟨by first | exact Kd.R_nil _ _ _ _ _ | exact Kd.N_nil _ _ _ _ _ | exact Kd.V_nil _ _ _ _ _ | exact Kd.Q_nil _ _ _ _ _ | exact Kd.S_nil _ _ _ _ _⟩, ⟨by repeat (first | (with_reducible first | exact HB.out | apply below_alloc | apply pw_below_drewN | apply below_drew1) | exact HB.out)⟩⟩
  case round =>
    clear H'
    obtain ⟨x5_1, x10_1, rfl, HA, HK1, HO_5, HB⟩ := hrel
    cases gk with
    | zero => exact absurd HA.out (by simp [api_Spr_28.l0])
    | succ k1 =>
      have H := HA.out
      clear HA
      simp only [api_Spr_28.l0] at H
      by_cases c2 : x10_1 < (l0.length : Int)
      · rw [if_pos c2] at H
        have c2b0 : decide (x10_1 < (l0.length : Int)) = true := decide_eq_true c2
        clear c2
        by_cases c3 : 0 ≤ x10_1
        · rw [if_pos c3] at H
          have c3b0 : decide (0 ≤ x10_1) = true := decide_eq_true c3
          clear c3
          by_cases c4 : x10_1 < (l0.length : Int)
          · rw [if_pos c4] at H
            have c4b0 : decide (x10_1 < (l0.length : Int)) = true := decide_eq_true c4
            clear c4
            replace H := Option.bind_eq_some_iff.mp H
            obtain ⟨⟨t124, t125, t126⟩, A50, H⟩ := H
            try dsimp only at H
            have A5 := Aside0.mk A50
            clear A50
            by_cases c6 : x5_1.length < 5864062014805
            · rw [if_pos c6] at H
              have LMc6 := Aside0.mk c6
              clear c6
              obtain ⟨y127, hy127⟩ : ∃ y_ : List (S53), y_ = (x5_1 ++ [(⟨t124, t125, t126⟩ : S53)]) := ⟨_, rfl⟩
              replace H : (api_Spr_28.l0 k1 y127 l0 (l0.length : Int) (wrap64 (x10_1 + 1))) = some r := by first | (rw [hy127]; with_reducible exact H) | (have H2_ := (Option.bind_some _ _).symm.trans H; rw [hy127]; with_reducible exact H2_) | (have H2_ := (Option.bind_some _ _).symm.trans H; with_reducible exact H2_) | with_reducible exact H | (rw [hy127]; exact H) | exact H
              have Ny127 := Aside0.mk hy127
              clear hy127
              have H' := Aside0.mk H
              clear H
              have p122 : 0 ≤ (x10_1 : Int) := of_decide_eq_true (by first | (with_reducible assumption) | assumption)
              have q122 : x10_1 < (l0.length : Int) := of_decide_eq_true (by first | (with_reducible assumption) | assumption)
              obtain ⟨ad122, e122, hx122_0, hx122_1, hx122_2, hx122_3, hx122_4, hx122_5⟩ := at_T40 HR0.out x10_1 p122 q122
              cases e122
              replace hx122_0 := (HB.out.cell (World.block_lt_of_cell? w _ hx122_0)).trans hx122_0
              replace hx122_1 := (HB.out.cell (World.block_lt_of_cell? w _ hx122_1)).trans hx122_1
              replace hx122_2 := (HB.out.cell (World.block_lt_of_cell? w _ hx122_2)).trans hx122_2
              replace hx122_3 := (HB.out.cell (World.block_lt_of_cell? w _ hx122_3)).trans hx122_3
              replace hx122_4 := (HB.out.cell (World.block_lt_of_cell? w _ hx122_4)).trans hx122_4
              replace hx122_5 := (HB.out.cell (World.block_lt_of_cell? w _ hx122_5)).trans hx122_5
              replace p122 := eq_true p122
              replace q122 := eq_true q122
              go_wp2_with (first | ((with_reducible refine gate_dst (N := 7) rfl ?_); refine box_event ?hg (N := 7) ?hd (cs := #[.int .i64 0, .int .i64 0, .int .i64 0, .int .i64 0, .int .i64 0, .int .i64 0]) (t := 40) ?hr ?_; (case hd => rfl); (case hg => rfl); (case hr => first | (go_simp; done) | (go_simp; rfl)); intro gb123 hg w7 hbox hb; have n0_ := Aside0.mk (Kd.R_below (by (with_reducible repeat (first | apply Kd.R_alloc | apply Kd.R_drewN | apply Kd.R_drew)); exact HO_5.out) hb); have n1_ := bs HB hb; have n2_ := Aside0.mk (hbox); have n3_ := bz HB hg; have n4_ := bz HB hg; clear HO_5; clear HB; have HO_5 := n0_; have HB := n1_; have BK123 := n2_; have GW123 := n3_; have GE123 := n4_; clear n0_ n1_ n2_ n3_ n4_; clear hb hbox hg; obtain ⟨hcz8_0, hcz8_1, hcz8_2, hcz8_3, hcz8_4, hcz8_5⟩ := cc6 BK123; obtain ⟨hfz8_0, hfz8_1, hfz8_2, hfz8_3, hfz8_4, hfz8_5⟩ := cf6 BK123) | (go_at_call 29; (with_reducible refine (plan_Springs_1.calls x10_1 ((rd_T40 l0 x10_1).f0) ((rd_T40 l0 x10_1).f1) ((rd_T40 l0 x10_1).f2) ((rd_T40 l0 x10_1).f3) ((rd_T40 l0 x10_1).f4) ((rd_T40 l0 x10_1).f5) t124 t125 t126 _ A5.out).mono ?_); rintro e w9 ⟨rfl, hb⟩; have n0_ := Aside0.mk (Kd.R_below (by (with_reducible repeat (first | apply Kd.R_alloc | apply Kd.R_drewN | apply Kd.R_drew)); exact (Kd.R_mono (Kd.R_far (p := ⟨gb123, 5, none⟩) (Kd.R_far (p := ⟨gb123, 4, none⟩) (Kd.R_far (p := ⟨gb123, 3, none⟩) (Kd.R_far (p := ⟨gb123, 2, none⟩) (Kd.R_far (p := ⟨gb123, 1, none⟩) (Kd.R_far (p := ⟨gb123, 0, none⟩) (Kd.R_types HO_5.out BK123.out (by decide)) (fun _ hk => hk.2) (.int .i64 ((rd_T40 l0 x10_1).f0))) (fun _ hk => hk.2) (.int .i64 ((rd_T40 l0 x10_1).f1))) (fun _ hk => hk.2) (.int .i64 ((rd_T40 l0 x10_1).f2))) (fun _ hk => hk.2) (.int .i64 ((rd_T40 l0 x10_1).f3))) (fun _ hk => hk.2) (.int .i64 ((rd_T40 l0 x10_1).f4))) (fun _ hk => hk.2) (.int .i64 ((rd_T40 l0 x10_1).f5))) (fun _ h_ => h_.1))) hb); have n1_ := Aside0.mk (blk_below (g := gb123) (o := .cells #[.int .i64 ((rd_T40 l0 x10_1).f0), .int .i64 ((rd_T40 l0 x10_1).f1), .int .i64 ((rd_T40 l0 x10_1).f2), .int .i64 ((rd_T40 l0 x10_1).f3), .int .i64 ((rd_T40 l0 x10_1).f4), .int .i64 ((rd_T40 l0 x10_1).f5)] 40 (0, 0)) (by (with_reducible repeat (first | refine bN ?_ _ | refine bD ?_ | refine bA ?_ _)); refine blk_put (cs := #[.int .i64 ((rd_T40 l0 x10_1).f0), .int .i64 ((rd_T40 l0 x10_1).f1), .int .i64 ((rd_T40 l0 x10_1).f2), .int .i64 ((rd_T40 l0 x10_1).f3), .int .i64 ((rd_T40 l0 x10_1).f4), .int .i64 0]) ?_ 5 _ rfl; (with_reducible repeat (first | refine bN ?_ _ | refine bD ?_ | refine bA ?_ _)); refine blk_put (cs := #[.int .i64 ((rd_T40 l0 x10_1).f0), .int .i64 ((rd_T40 l0 x10_1).f1), .int .i64 ((rd_T40 l0 x10_1).f2), .int .i64 ((rd_T40 l0 x10_1).f3), .int .i64 0, .int .i64 0]) ?_ 4 _ rfl; (with_reducible repeat (first | refine bN ?_ _ | refine bD ?_ | refine bA ?_ _)); refine blk_put (cs := #[.int .i64 ((rd_T40 l0 x10_1).f0), .int .i64 ((rd_T40 l0 x10_1).f1), .int .i64 ((rd_T40 l0 x10_1).f2), .int .i64 0, .int .i64 0, .int .i64 0]) ?_ 3 _ rfl; (with_reducible repeat (first | refine bN ?_ _ | refine bD ?_ | refine bA ?_ _)); refine blk_put (cs := #[.int .i64 ((rd_T40 l0 x10_1).f0), .int .i64 ((rd_T40 l0 x10_1).f1), .int .i64 0, .int .i64 0, .int .i64 0, .int .i64 0]) ?_ 2 _ rfl; (with_reducible repeat (first | refine bN ?_ _ | refine bD ?_ | refine bA ?_ _)); refine blk_put (cs := #[.int .i64 ((rd_T40 l0 x10_1).f0), .int .i64 0, .int .i64 0, .int .i64 0, .int .i64 0, .int .i64 0]) ?_ 1 _ rfl; (with_reducible repeat (first | refine bN ?_ _ | refine bD ?_ | refine bA ?_ _)); refine blk_put (cs := #[.int .i64 0, .int .i64 0, .int .i64 0, .int .i64 0, .int .i64 0, .int .i64 0]) ?_ 0 _ rfl; (with_reducible repeat (first | refine bN ?_ _ | refine bD ?_ | refine bA ?_ _)); exact BK123.out) hb); have n2_ := bs HB hb; clear HO_5; clear BK123; clear HB; have HO_5 := n0_; have BK123 := n1_; have HB := n2_; clear n0_ n1_ n2_; (try clear hb); (try clear hb2); (try clear hk); (try clear hi)) | ((with_reducible refine gate_builtin (b := .append) (xs := #[.tmp 15, .tmp 20]) rfl ?_); at_builtin; refine Kd.R_append k53 (w0 := w) w.heap.size rfl (.tmp 15) (.tmp 20) 25 53 (.agg #[(.int .i64 0), (.int .i64 0), (.int .i64 0)]) 24 rfl Try.underlying25 info53 rfl (by decide) (by omega) u5 x5_1 (⟨t124, t125, t126⟩ : S53) [.int .i64 t124, .int .i64 t125, .int .i64 t126] (fun _ => True) (fun _ => False) rfl rfl ?aP (fun _ hk => hk.elim) ?aF ?aO ?aB ?aS ?aL ?_; (case aP => exact k53_mkM _ _ _ (⟨t124, t125, t126⟩ : S53)); (case aB => exact (by repeat (first | (with_reducible first | exact HB.out | apply below_alloc | apply pw_below_drewN | apply below_drew1 | refine below_set ?_ GE123.out) | exact HB.out))); (case aF => exact (fun _ _ => trivial)); (case aO => exact (by (with_reducible repeat (first | apply Kd.R_alloc | apply Kd.R_drewN | apply Kd.R_drew)); exact HO_5.out)); (case aS => exact (below_size (by repeat (first | (with_reducible first | exact HB.out | apply below_alloc | apply pw_below_drewN | apply below_drew1 | refine below_set ?_ GE123.out) | exact HB.out)))); (case aL => have := LMc6.out; omega); intro v128 w10 ho hb hg hat; rw [← Ny127.out] at ho; have n0_ := Aside0.mk (blk_grown (g := gb123) (o := .cells #[.int .i64 ((rd_T40 l0 x10_1).f0), .int .i64 ((rd_T40 l0 x10_1).f1), .int .i64 ((rd_T40 l0 x10_1).f2), .int .i64 ((rd_T40 l0 x10_1).f3), .int .i64 ((rd_T40 l0 x10_1).f4), .int .i64 ((rd_T40 l0 x10_1).f5)] 40 (0, 0)) (by (with_reducible repeat (first | refine bN ?_ _ | refine bD ?_ | refine bA ?_ _)); exact BK123.out) hg (Kd.R_ne HO_5.out BK123.out (by decide))); have n1_ := Aside0.mk (hb); have n2_ := Aside0.mk (ho); clear BK123; clear HB; clear HO_5; have BK123 := n0_; have HB := n1_; have HO129 := n2_; clear n0_ n1_ n2_; clear ho hb hg hat))
              go_roundg k1
              case measure => have := HK1.out; omega
              case rel => exact ⟨(y127), (wrap64 (x10_1 + 1)), (by first | rfl | (simp; done) | (simp [*]; done)), H', ⟨by have := HK1.out; omega⟩, ⟨by (with_reducible repeat (first | apply Kd.R_alloc | apply Kd.R_drewN | apply Kd.R_drew)); exact HO129.out⟩, ⟨by repeat (first | (with_reducible first | exact HB.out | apply below_alloc | apply pw_below_drewN | apply below_drew1 | refine below_set ?_ GE123.out) | exact HB.out)⟩⟩
            · rw [if_neg c6] at H
              exact absurd H (by simp)
          · rw [if_neg c4] at H
            exact absurd H (by simp)
        · rw [if_neg c3] at H
          exact absurd H (by simp)
      · rw [if_neg c2] at H
        have c2b0 : decide (x10_1 < (l0.length : Int)) = false := decide_eq_false c2
        clear c2
        obtain rfl := Option.some.inj H
        go_wp2
        go_ret
        exact ⟨_, by first | rfl | (simp [errW_none, errW_some] <;> rfl) | (simp [*, errW_none, errW_some] <;> rfl) | (exfalso; contradiction), by (with_reducible repeat (first | apply Kd.R_alloc | apply Kd.R_drewN | apply Kd.R_drew)); exact HO_5.out, by repeat (first | (with_reducible first | exact HB.out | apply below_alloc | apply pw_below_drewN | apply below_drew1) | exact HB.out)⟩

/-! ### plan_Springs: function 11 -/
def plan_Springs.f (k : Nat) (l0 : List (S40)) : Option ((List (S53)) × Bool) := if (l0.length : Int) > 4 then (some (([] : List (S53)), false)) else ((plan_bad.f k l0).bind fun t130 => (if t130 = true then (some (([] : List (S53)), false)) else ((api_Spr_28.f k l0).bind fun t131 => (some (t131, true)))))
theorem plan_Springs.mono : ∀ a0 k, LeO (plan_Springs.f k a0) (plan_Springs.f (k + 1) a0) := by
  intro a0 k
  unfold plan_Springs.f
  repeat' first
      | (with_reducible exact api_Spr_28.mono _ _)
      | (with_reducible exact plan_bad.mono _ _)
      | (with_reducible exact LeO.refl _)
      | (with_reducible exact LeO.none _)
      | (with_reducible refine LeO.ite ?_ ?_)
      | (with_reducible refine LeO.bind ?_ (fun _ => ?_))
      | exact api_Spr_28.mono _ _
      | exact plan_bad.mono _ _
      | exact LeO.none _
      | refine LeO.ite ?_ ?_
      | refine LeO.bind ?_ (fun _ => ?_)
set_option maxHeartbeats 8000000 in
set_option maxRecDepth 100000 in
theorem plan_Springs.calls (k : Nat) (A0 : Option Addr) (c0 : Nat) (l0 : List (S40)) (r1 : List (S53)) (r2 : Bool) (w : World) (hr0 : Kd.C k40 w A0 l0.length l0) (hc0 : l0.length ≤ c0) (h : plan_Springs.f k l0 = some (r1, r2)) :
    Calls Try.prog 11 #[.slice A0 l0.length c0] w fun e w' => ∃ v0_ : Value, e = .returned (.tuple #[v0_, .bool r2]) ∧ Kd.R k53 53 w' w.heap.size (fun _ => True) v0_ r1 ∧ Below w.heap.size w w' := by
  have HR0 := Aside0.mk hr0
  have HC0 := Aside0.mk hc0
  clear hr0 hc0
  have HB := Aside0.mk (Below.refl w.heap.size w)
  have H : (if (l0.length : Int) > 4 then (some (([] : List (S53)), false)) else ((plan_bad.f k l0).bind fun t130 => (if t130 = true then (some (([] : List (S53)), false)) else ((api_Spr_28.f k l0).bind fun t131 => (some (t131, true)))))) = some (r1, r2) := h
  clear h
  by_cases c2 : (l0.length : Int) > 4
  · rw [if_pos c2] at H
    have c2b0 : decide (4 < (l0.length : Int)) = true := decide_eq_true c2
    have c2b1 : decide (4 < l0.length) = true := decide_eq_true (by omega)
    clear c2
    simp only [Option.some.injEq, Prod.mk.injEq] at H
    obtain ⟨rfl, rfl⟩ := H
    go_enter Try.func11, Try.ntmps11
    go_wp2
    go_ret2
    exact ⟨_, by first | rfl | (simp [errW_none, errW_some] <;> rfl) | (simp [*, errW_none, errW_some] <;> rfl) | (exfalso; contradiction), by first | exact Kd.R_nil _ _ _ _ _ | exact Kd.N_nil _ _ _ _ _ | exact Kd.V_nil _ _ _ _ _ | exact Kd.Q_nil _ _ _ _ _ | exact Kd.S_nil _ _ _ _ _, by repeat (first | (with_reducible first | exact HB.out | apply below_alloc | apply pw_below_drewN | apply below_drew1) | exact HB.out)⟩
  · rw [if_neg c2] at H
    have c2b0 : decide (4 < (l0.length : Int)) = false := decide_eq_false c2
    have c2b1 : decide (4 < l0.length) = false := decide_eq_false (by omega)
    clear c2
    replace H := Option.bind_eq_some_iff.mp H
    obtain ⟨t130, A30, H⟩ := H
    try dsimp only at H
    have A3 := Aside0.mk A30
    clear A30
    by_cases c4 : t130 = true
    · subst c4
      rw [if_pos rfl] at H
      simp only [Option.some.injEq, Prod.mk.injEq] at H
      obtain ⟨rfl, rfl⟩ := H
      go_enter Try.func11, Try.ntmps11
      go_wp2_with (first | (go_at_call 27; (with_reducible refine (plan_bad.calls k _ _ l0 true _ ?side1 ?side2 A3.out).mono ?_); (case side1 => repeat (first | exact HR0.out | (with_reducible refine Kd.C_alloc ?_ _) | (with_reducible refine Kd.C_drewN ?_ _) | (with_reducible refine Kd.C_drew ?_))); (case side2 => exact HC0.out); rintro e w5 ⟨rfl, hb⟩; have n0_ := bs HB hb; clear HB; have HB := n0_; clear n0_; (try clear hb); (try clear hb2); (try clear hk); (try clear hi)))
      go_ret2
      exact ⟨_, by first | rfl | (simp [errW_none, errW_some] <;> rfl) | (simp [*, errW_none, errW_some] <;> rfl) | (exfalso; contradiction), by first | exact Kd.R_nil _ _ _ _ _ | exact Kd.N_nil _ _ _ _ _ | exact Kd.V_nil _ _ _ _ _ | exact Kd.Q_nil _ _ _ _ _ | exact Kd.S_nil _ _ _ _ _, by repeat (first | (with_reducible first | exact HB.out | apply below_alloc | apply pw_below_drewN | apply below_drew1) | exact HB.out)⟩
    · replace c4 := Bool.eq_false_iff.mpr c4
      subst c4
      rw [if_neg (show ¬ (false = true) by decide)] at H
      replace H := Option.bind_eq_some_iff.mp H
      obtain ⟨t131, A60, H⟩ := H
      try dsimp only at H
      have A6 := Aside0.mk A60
      clear A60
      simp only [Option.some.injEq, Prod.mk.injEq] at H
      obtain ⟨rfl, rfl⟩ := H
      go_enter Try.func11, Try.ntmps11
      go_wp2_with (first | (go_at_call 27; (with_reducible refine (plan_bad.calls k _ _ l0 false _ ?side1 ?side2 A3.out).mono ?_); (case side1 => repeat (first | exact HR0.out | (with_reducible refine Kd.C_alloc ?_ _) | (with_reducible refine Kd.C_drewN ?_ _) | (with_reducible refine Kd.C_drew ?_))); (case side2 => exact HC0.out); rintro e w7 ⟨rfl, hb⟩; have n0_ := bs HB hb; clear HB; have HB := n0_; clear n0_; (try clear hb); (try clear hb2); (try clear hk); (try clear hi)) | (go_at_call 28; (with_reducible refine (api_Spr_28.calls k _ _ l0 t131 _ ?side1 ?side2 A6.out).mono ?_); (case side1 => repeat (first | exact (Kd.C_below HR0.out HB.out) | (with_reducible refine Kd.C_alloc ?_ _) | (with_reducible refine Kd.C_drewN ?_ _) | (with_reducible refine Kd.C_drew ?_))); (case side2 => exact HC0.out); rintro e w8 ⟨v132, rfl, ho0, hb⟩; have n0_ := Aside0.mk (Kd.R_lower ho0 (below_size (by repeat (first | (with_reducible first | exact HB.out | apply below_alloc | apply pw_below_drewN | apply below_drew1) | exact HB.out)))); have n1_ := bs HB hb; clear HB; have HO133 := n0_; have HB := n1_; clear n0_ n1_; (try clear hb); (try clear hb2); (try clear hk); (try clear hi); (try clear ho0)))
      go_ret2
      exact ⟨_, by first | rfl | (simp [errW_none, errW_some] <;> rfl) | (simp [*, errW_none, errW_some] <;> rfl) | (exfalso; contradiction), by (with_reducible repeat (first | apply Kd.R_alloc | apply Kd.R_drewN | apply Kd.R_drew)); exact HO133.out, by repeat (first | (with_reducible first | exact HB.out | apply below_alloc | apply pw_below_drewN | apply below_drew1) | exact HB.out)⟩

/-! ### demand_may: function 42 -/
def demand_may.f (a0_0 : Int) (a0_1 : Int) (a0_2 : Int) (a0_3 : Int) (a0_4 : Int) (a0_5 : Int) (a0_6 : Int) : Option (Bool) := (units_At.f a0_0 a0_1 a0_2 a0_3 a0_4 a0_5 a0_6).bind fun t135 => (some (decide (t135 > 0)))
set_option maxHeartbeats 8000000 in
set_option maxRecDepth 100000 in
theorem demand_may.calls (a0_0 : Int) (a0_1 : Int) (a0_2 : Int) (a0_3 : Int) (a0_4 : Int) (a0_5 : Int) (a0_6 : Int) (r : Bool) (w : World) (h : demand_may.f a0_0 a0_1 a0_2 a0_3 a0_4 a0_5 a0_6 = some r) :
    Calls Try.prog 42 #[.agg #[.int .i64 a0_0, .int .i64 a0_1, .int .i64 a0_2, .int .i64 a0_3, .int .i64 a0_4, .int .i64 a0_5, .int .i64 a0_6]] w fun e w' => e = .returned (.bool r) ∧ Below w.heap.size w w' := by
  have hu42 := Try.underlying42
  have hu40 := Try.underlying40
  have HB := Aside0.mk (Below.refl w.heap.size w)
  have H : ((units_At.f a0_0 a0_1 a0_2 a0_3 a0_4 a0_5 a0_6).bind fun t135 => (some (decide (t135 > 0)))) = some r := h
  clear h
  replace H := Option.bind_eq_some_iff.mp H
  obtain ⟨t135, A20, H⟩ := H
  try dsimp only at H
  have A2 := Aside0.mk A20
  clear A20
  obtain rfl := Option.some.inj H
  go_enter Try.func42, Try.ntmps42
  go_wp2_with (first | ((with_reducible refine gate_dst (N := 1) rfl ?_); refine box_event ?hg (N := 1) ?hd (cs := #[.int .i64 a0_0, .int .i64 a0_1, .int .i64 a0_2, .int .i64 a0_3, .int .i64 a0_4, .int .i64 a0_5, .int .i64 a0_6]) (t := 42) ?hr ?_; (case hd => rfl); (case hg => rfl); (case hr => first | (go_simp; done) | (go_simp; rfl)); intro gb134 hg w3 hbox hb; have n0_ := bs HB hb; have n1_ := Aside0.mk (hbox); have n2_ := bz HB hg; have n3_ := bz HB hg; clear HB; have HB := n0_; have BK134 := n1_; have GW134 := n2_; have GE134 := n3_; clear n0_ n1_ n2_ n3_; clear hb hbox hg; obtain ⟨hcz4_0, hcz4_1, hcz4_2, hcz4_3, hcz4_4, hcz4_5, hcz4_6⟩ := cc7 BK134; obtain ⟨hfz4_0, hfz4_1, hfz4_2, hfz4_3, hfz4_4, hfz4_5, hfz4_6⟩ := cf7 BK134) | ((with_reducible refine gate_callee (f := 25) rfl ?_); refine goesL_ (some 7) rfl rfl Try.func25 (by kernel_rfl) rfl #[.agg #[.int .i64 a0_0, .int .i64 a0_1, .int .i64 a0_2, .int .i64 a0_3, .int .i64 a0_4, .int .i64 a0_5], .int .i64 a0_6] rfl (by (try simp only [List.map_toArray, List.map_cons, List.map_nil]); first | done | rfl | (simp only [List.length_drop, List.length_take]; rfl)) ?_; (with_reducible refine (units_At.calls a0_0 a0_1 a0_2 a0_3 a0_4 a0_5 a0_6 t135 _ A2.out).mono ?_); rintro e w5 ⟨rfl, hb⟩; refine ⟨_, rfl, ?_⟩; have n0_ := bb BK134 hb; have n1_ := bs HB hb; clear BK134; clear HB; have BK134 := n0_; have HB := n1_; clear n0_ n1_; (try clear hb); (try clear hb2); (try clear hk); (try clear hi)))
  go_ret
  exact ⟨by first | rfl | (simp [errW_none, errW_some] <;> rfl) | (simp [*, errW_none, errW_some] <;> rfl) | (exfalso; contradiction), by repeat (first | (with_reducible first | exact HB.out | apply below_alloc | apply pw_below_drewN | apply below_drew1 | refine below_set ?_ GE134.out) | exact HB.out)⟩

-- NOT PRINTED: function 80 (units_limits)

/-! ### units_Sum: function 50 -/
def units_Sum.bad (x : Int) : Bool := decide (x < 0) || decide (1099511627776 < x)
def units_Sum.f (l0 : List Int) : Option (Int × Bool) := if l0.length ≤ 1000 ∧ l0.any units_Sum.bad = false then some (l0.sum, true) else some (0, false)
def units_Sum.go (s : Int) : List Int → Option (Int × Bool)
  | [] => some (s, true)
  | x :: t => if units_Sum.bad x = true then some (0, false) else units_Sum.go (s + x) t
theorem units_Sum.go_eq : ∀ (l : List Int) (s : Int), units_Sum.go s l = if l.any units_Sum.bad = false then some (s + l.sum, true) else some (0, false)
  | [], s => by simp [units_Sum.go]
  | x :: t, s => by
    rw [units_Sum.go, units_Sum.go_eq t (s + x)]
    cases h : units_Sum.bad x with
    | true => simp [h]
    | false => simp [h, Int.add_assoc]
theorem units_Sum.f_go (l : List Int) (h : l.length ≤ 1000) : units_Sum.f l = units_Sum.go 0 l := by
  rw [units_Sum.go_eq]
  unfold units_Sum.f
  simp [h]
theorem units_Sum.drop_go (l : List Int) (i : Nat) (s : Int) (h : i < l.length) : units_Sum.go s (l.drop i) = if units_Sum.bad (l.getD i 0) = true then some (0, false) else units_Sum.go (s + l.getD i 0) (l.drop (i + 1)) := by
  rw [List.drop_eq_getElem_cons h, units_Sum.go]
  simp [List.getD_eq_getElem?_getD, List.getElem?_eq_getElem h]
theorem units_limits.calls (w : World) :
    Calls Try.prog 80 #[] w fun e w' => e = .returned (.agg #[.int .i64 0, .int .i64 1099511627776]) ∧ Below w.heap.size w w' := by
  go_enter Try.func80, Try.ntmps80
  go_wp2
  refine bodyPost_ret (v := .agg #[.int .i64 0, .int .i64 1099511627776]) (by simp [results, Try.results80, go_sem]) rfl ⟨rfl, by repeat (first | exact Below.refl _ _ | apply below_alloc)⟩
/-- What stands at a round's head: so much is summed up, so much is left. -/
def units_Sum.rel (w : World) (g : Nat) (r1 : Int) (r2 : Bool) (s : Int) (ls : List Int) (A : Option Addr) (c : Nat) (W : World) : Prop :=
  units_Sum.go s ls = some (r1, r2) ∧ 0 ≤ s ∧ s + ls.length * 1099511627776 ≤ 1099511627776000 ∧ ls.length ≤ c ∧ Kd.C (Kd.int .i64) W A ls.length ls ∧ Below w.heap.size w W ∧ W.heap[g]? = some (.cells #[.int .i64 0, .int .i64 1099511627776] 90 (0, 0))
set_option maxHeartbeats 16000000 in
set_option maxRecDepth 100000 in
theorem units_Sum.calls (A0 : Option Addr) (c0 : Nat) (l0 : List Int) (r1 : Int) (r2 : Bool) (w : World) (hr0 : Kd.C (Kd.int .i64) w A0 l0.length l0) (hc0 : l0.length ≤ c0) (h : units_Sum.f l0 = some (r1, r2)) :
    Calls Try.prog 50 #[.slice A0 l0.length c0] w fun e w' => e = .returned (.tuple #[.int .i64 r1, .bool r2]) ∧ Below w.heap.size w w' := by
  have HR := Aside0.mk hr0
  have HC := Aside0.mk hc0
  have HH := Aside0.mk h
  clear hr0 hc0 h
  by_cases c1 : 1000 < l0.length
  · have hd : decide ((1000 : Int) < (l0.length : Int)) = true := decide_eq_true (by omega)
    have H : units_Sum.f l0 = some (0, false) := by unfold units_Sum.f; rw [if_neg (by omega)]
    have H2 := HH.out
    rw [H] at H2
    simp only [Option.some.injEq, Prod.mk.injEq] at H2
    obtain ⟨rfl, rfl⟩ := H2
    clear H c1 HH
    go_enter Try.func50, Try.ntmps50
    go_wp2
    go_ret2
    exact ⟨rfl, by repeat (first | exact Below.refl _ _ | apply below_alloc | apply pw_below_drewN | apply below_drew1)⟩
  · have hd : decide ((1000 : Int) < (l0.length : Int)) = false := decide_eq_false (by omega)
    have H2 := HH.out
    rw [units_Sum.f_go l0 (by omega)] at H2
    have HL := Aside0.mk c1
    have HG := Aside0.mk H2
    clear H2 c1 HH
    go_enter Try.func50, Try.ntmps50
    go_wp2_with (go_at_call 80; refine (units_limits.calls _).mono ?_; rintro e w1 ⟨rfl, hb⟩; have B := Aside0.mk hb; clear hb)
    go_loopw [5, 6] (fun n rest wr => ∃ (s : Int) (ls : List Int) (A : Option Addr) (c : Nat), n = .int .i64 s ∧ rest = .slice A ls.length c ∧ Aside0 (units_Sum.rel w w1.heap.size r1 r2 s ls A c wr)) (fun _ rest _ => match rest with | .slice _ n _ => n | _ => 0)
    case atStart => exact ⟨0, l0, A0, c0, rfl, rfl, ⟨HG.out, by omega, by have := HL.out; omega, HC.out, Kd.C_alloc (Kd.C_below HR.out B.out) _, below_alloc B.out _, blk_new _ _⟩⟩
    case round =>
      clear HR HC HG HL B
      obtain ⟨s, ls, A, c, rfl, rfl, F⟩ := hrel
      by_cases c2 : 0 < ls.length
      · have d2 : decide (0 < ls.length) = true := decide_eq_true c2
        obtain ⟨k, hk⟩ : ∃ k : Nat, k = min 4 ls.length := ⟨_, rfl⟩
        have hmn : (if (ls.length : Int) < 4 then (ls.length : Int) else 4) = (k : Int) := by subst hk; split <;> omega
        have K1 := Aside0.mk (show 1 ≤ k ∧ k ≤ 4 ∧ k ≤ ls.length by omega)
        have hcut := cut_max (P := Try.prog) 55 3 .i64 .i64 Try.underlying55 (show Try.prog.info? 3 = some _ from rfl) A ls.length c (k : Int) (by omega) (by have := F.out.2.2.2.1; have := K1.out; omega)
        rw [Int.toNat_natCast] at hcut
        obtain ⟨ad, hA, _⟩ := Kd.at_int F.out.2.2.2.2.1 0 (by omega) (by omega)
        subst hA
        have z0 : wr.cell? ⟨w1.heap.size, 0, none⟩ = some (.int .i64 0) := (blk_cell F.out.2.2.2.2.2.2 0).trans rfl
        have z1 : wr.cell? ⟨w1.heap.size, 1, none⟩ = some (.int .i64 1099511627776) := (blk_cell F.out.2.2.2.2.2.2 1).trans rfl
        clear hk c2
        go_wp2
        go_loop [5, 26] (fun n i => ∃ (q : Nat) (s' : Int), n = .int .i64 s' ∧ i = .int .i64 q ∧ Aside0 (q ≤ k ∧ units_Sum.go s' (ls.drop q) = some (r1, r2) ∧ 0 ≤ s' ∧ s' + (ls.length - q) * 1099511627776 ≤ 1099511627776000)) (fun _ i => k - (intOf i).toNat)
        case atStart => exact ⟨0, s, rfl, rfl, ⟨by omega, F.out.1, F.out.2.1, by have := F.out.2.2.1; omega⟩⟩
        case round =>
          obtain ⟨q, s', rfl, rfl, G⟩ := hrel
          by_cases c3 : q < k
          · have e3 : decide (q < k) = true := decide_eq_true c3
            have hc := (Kd.at_int F.out.2.2.2.2.1 (q : Int) (by omega) (by have := K1.out; omega))
            obtain ⟨ad', ha, hc⟩ := hc
            obtain rfl : ad = ad' := Option.some.inj ha
            rw [Int.toNat_natCast] at hc
            have hg := units_Sum.drop_go ls q s' (by have := K1.out; omega)
            rw [G.out.2.1] at hg
            have hx : rd ls (q : Int) = ls.getD q 0 := by unfold rd; rw [Int.toNat_natCast]
            rw [hx] at hc
            generalize ls.getD q 0 = x at *
            have HX := Aside0.mk hg.symm
            clear hg hx ha
            have kq := K1.out
            by_cases c4 : x < 0
            · have e4 : decide (x < 0) = true := decide_eq_true c4
              have H2 := HX.out
              rw [if_pos (by unfold units_Sum.bad; rw [e4]; rfl)] at H2
              simp only [Option.some.injEq, Prod.mk.injEq] at H2
              obtain ⟨rfl, rfl⟩ := H2
              clear c4 kq
              go_wp2
              go_ret2
              exact ⟨rfl, by repeat (first | exact F.out.2.2.2.2.2.1 | apply below_alloc | apply pw_below_drewN | apply below_drew1)⟩
            · have e4 : decide (x < 0) = false := decide_eq_false c4
              by_cases c5 : 1099511627776 < x
              · have e5 : decide (1099511627776 < x) = true := decide_eq_true c5
                have H2 := HX.out
                rw [if_pos (by unfold units_Sum.bad; rw [e5, Bool.or_true])] at H2
                simp only [Option.some.injEq, Prod.mk.injEq] at H2
                obtain ⟨rfl, rfl⟩ := H2
                clear c4 c5 kq
                go_wp2
                go_ret2
                exact ⟨rfl, by repeat (first | exact F.out.2.2.2.2.2.1 | apply below_alloc | apply pw_below_drewN | apply below_drew1)⟩
              · have e5 : decide (1099511627776 < x) = false := decide_eq_false c5
                have H2 := HX.out
                rw [if_neg (by unfold units_Sum.bad; rw [e4, e5]; decide)] at H2
                have G2 := Aside0.mk (show q + 1 ≤ k ∧ units_Sum.go (s' + x) (ls.drop (q + 1)) = some (r1, r2) ∧ 0 ≤ s' + x ∧ s' + x + (ls.length - (q + 1 : Nat)) * 1099511627776 ≤ 1099511627776000 from ⟨by omega, H2, by have := G.out.2.2.1; omega, by have := G.out.2.2.2; omega⟩)
                have b1 : 0 ≤ s' := G.out.2.2.1
                have b2 : s' ≤ 1099511627776000 := by have := G.out.2.2.2; omega
                clear H2 HX G
                go_wp2
                go_round
                case rel => exact ⟨q + 1, s' + x, rfl, by go_num, G2⟩
                case measure => simp [intOf]; omega
          · have e3 : decide (q < k) = false := decide_eq_false c3
            have hqk : q = k := by have := G.out.1; omega
            subst hqk
            clear c3
            have D := Kd.C_drop (m := q) F.out.2.2.2.2.1 (by have := K1.out; omega) F.out.2.2.2.1
            have el : (ls.drop q).length = ls.length - q := List.length_drop
            have R2 := Aside0.mk (show units_Sum.rel w w1.heap.size r1 r2 s' (ls.drop q) (if c = q then some ad else some (ad.add q)) (c - q) wr from
              ⟨G.out.2.1, G.out.2.2.1, by rw [el]; have := G.out.2.2.2; have := K1.out; omega, by rw [el]; have := F.out.2.2.2.1; omega, by simpa [Kd.int, Kd.scalar] using D, F.out.2.2.2.2.2.1, F.out.2.2.2.2.2.2⟩)
            have EL := Aside0.mk el
            clear D el
            go_wp2
            exact ⟨⟨s', ls.drop q, _, _, rfl, by rw [EL.out], R2⟩, by show ls.length - q < ls.length; have := K1.out; omega⟩
      · have d2 : decide (0 < ls.length) = false := decide_eq_false c2
        have hn : ls = [] := List.eq_nil_of_length_eq_zero (by omega)
        have H2 := F.out.1
        rw [hn, units_Sum.go] at H2
        simp only [Option.some.injEq, Prod.mk.injEq] at H2
        obtain ⟨rfl, rfl⟩ := H2
        clear hn c2
        go_wp2
        go_ret2
        exact ⟨rfl, by repeat (first | exact F.out.2.2.2.2.2.1 | apply below_alloc | apply pw_below_drewN | apply below_drew1)⟩

end Go.Proofs.Ytaejikbfnlihmaa.P
